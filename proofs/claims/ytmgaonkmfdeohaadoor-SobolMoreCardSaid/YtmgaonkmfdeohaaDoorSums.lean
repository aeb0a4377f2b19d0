/- SobolSums: the point of an exclusive-or of indices is that of the points. -/
import Derived.Test.YtmgaonkmfdeohaaDoorLaw1
namespace Go.Proofs.YtmgaonkmfdeohaaDoor
open Go.RowKit

/-- int(uint(d) % m) is a number below m. -/
theorem mod_int (d m : Int) (h0 : 0 < m) (hm : m ≤ 1024) : ∃ n : Nat, (n : Int) < m ∧ wrap64 ((IntKind.u64.wrap d).tmod m) = (n : Int) := by
  rw [IntKind.wrap_u64, tmod_of_emod]
  have h1 := Int.emod_nonneg (d % 18446744073709551616) (b := m) (by omega)
  have h2 := Int.emod_lt_of_pos (d % 18446744073709551616) h0
  generalize d % 18446744073709551616 % m = k at *
  refine ⟨k.toNat, by omega, ?_⟩
  unfold wrap64
  omega

set_option maxHeartbeats 1000000 in
theorem sums_any (d : Int) (a b : Nat) (ha : a < 4294967296) (hb : b < 4294967296) (w : World) (hP : Plans w) (hT : Tab w) :
    Calls Tryd.prog 4 #[.int .i64 d, .int .u32 a, .int .u32 b] w fun e w' => e = .returned (.bool true) ∧ Below w.heap.size w w' := by
  have HP := Lib.hid hP
  have HT := Lib.hid hT
  clear hP hT
  go_enter Tryd.func4, Tryd.ntmps4
  go_wp2_with fail
  refine (awake_any _ HP.out HT.out).mono ?_
  rintro e w1 ⟨rfl, hb1⟩
  have HB1 := Lib.hid hb1
  clear hb1
  go_wp2_with fail
  obtain ⟨n, hn, hd⟩ := mod_int d 8 (by decide) (by decide)
  rw [hd]
  clear hd
  have hn8 : n < 8 := by omega
  have hP1 := HP.out.below HB1.out
  have hT1 := HT.out.below HB1.out
  have HP1 := Lib.hid hP1
  have HT1 := Lib.hid hT1
  clear hP1 hT1 HP HT
  have A1 := Lib.hid (at_any n hn8 a ha _ HP1.out HT1.out)
  have l1 := Sob.at32_lt n a
  have l2 := Sob.at32_lt n b
  have A2 := fun w => Lib.hid (at_any n hn8 b hb w)
  have A3 := fun w => Lib.hid (at_any n hn8 (a ^^^ b) (Nat.xor_lt_two_pow (n := 32) ha hb) w)
  have hx := u32_xor_nat a b ha hb
  have hy := u32_xor_nat _ _ l1 l2
  rw [← Sob.at32_lin] at hy
  have HX := Lib.hid hx
  have HY := Lib.hid hy
  clear hx hy
  generalize Sob.at32 (Sob.wd n) a = x at *
  generalize Sob.at32 (Sob.wd n) b = y at *
  generalize Sob.at32 (Sob.wd n) (a ^^^ b) = z at *
  refine A1.out.mono ?_
  rintro e w2 ⟨rfl, hb2⟩
  have HB2 := Lib.hid hb2
  have hP2 := HP1.out.below hb2
  have hT2 := HT1.out.below hb2
  have HP2 := Lib.hid hP2
  have HT2 := Lib.hid hT2
  clear hb2 hP2 hT2 HP1 HT1
  go_wp2_with fail
  refine ((A2 _).out HP2.out HT2.out).mono ?_
  rintro e w3 ⟨rfl, hb3⟩
  have HB3 := Lib.hid hb3
  have hP3 := HP2.out.below hb3
  have hT3 := HT2.out.below hb3
  have HP3 := Lib.hid hP3
  have HT3 := Lib.hid hT3
  clear hb3 hP3 hT3 HP2 HT2
  go_wp2_with fail
  rw [HX.out]
  refine ((A3 _).out HP3.out HT3.out).mono ?_
  rintro e w4 ⟨rfl, hb4⟩
  have HB4 := Lib.hid hb4
  clear hb4 HP3 HT3
  go_wp2_with fail
  go_ret
  refine ⟨?_, ((HB1.out.trans (HB2.out.mono HB1.out.size)).trans (HB3.out.mono (Nat.le_trans HB1.out.size HB2.out.size))).trans (HB4.out.mono (Nat.le_trans HB1.out.size (Nat.le_trans HB2.out.size HB3.out.size)))⟩
  show Ending.returned (.bool ((z : Int) == bits BinOp.xor IntKind.u32 (x : Int) (y : Int))) = _
  rw [HY.out]
  simp
end Go.Proofs.YtmgaonkmfdeohaaDoor
