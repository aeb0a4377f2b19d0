/- The words of every dimension; the word of a point: sobol.At and lanternref05.At. -/
import Derived.Test.YtmgaonkmfdeohaaDoorRWords1
import Derived.Test.YtmgaonkmfdeohaaDoorRWords2
import Derived.Test.YtmgaonkmfdeohaaDoorRWords3
import Derived.Test.YtmgaonkmfdeohaaDoorRWords4
import Derived.Test.YtmgaonkmfdeohaaDoorRWords5
import Derived.Test.YtmgaonkmfdeohaaDoorRWords6
import Derived.Test.YtmgaonkmfdeohaaDoorRWords7
namespace Go.Proofs.YtmgaonkmfdeohaaDoor
open Go.RowKit

theorem words_any (dim : Nat) (hd : dim < 8) (w : World) (hP : Plans w) :
    Calls Tryd.prog 10 #[.int .i64 dim] w fun e w' => e = .returned (.tuple #[.agg (rowOf (Sob.wd dim) 32), .int .i64 0]) ∧ Below w.heap.size w w' := by
  have hN : 0 < w.heap.size := by have := hP.1; omega
  have c := hP.2
  obtain rfl | rfl | rfl | rfl | rfl | rfl | rfl | rfl : dim = 0 ∨ dim = 1 ∨ dim = 2 ∨ dim = 3 ∨ dim = 4 ∨ dim = 5 ∨ dim = 6 ∨ dim = 7 := by omega
  · exact words0 w
  · exact words1 w (c 0 (by decide)) (c 1 (by decide)) (c 2 (by decide)) (c 3 (by decide)) (c 4 (by decide)) (c 5 (by decide)) (c 6 (by decide)) hN
  · exact words2 w (c 7 (by decide)) (c 8 (by decide)) (c 9 (by decide)) (c 10 (by decide)) (c 11 (by decide)) (c 12 (by decide)) (c 13 (by decide)) hN
  · exact words3 w (c 14 (by decide)) (c 15 (by decide)) (c 16 (by decide)) (c 17 (by decide)) (c 18 (by decide)) (c 19 (by decide)) (c 20 (by decide)) hN
  · exact words4 w (c 21 (by decide)) (c 22 (by decide)) (c 23 (by decide)) (c 24 (by decide)) (c 25 (by decide)) (c 26 (by decide)) (c 27 (by decide)) hN
  · exact words5 w (c 28 (by decide)) (c 29 (by decide)) (c 30 (by decide)) (c 31 (by decide)) (c 32 (by decide)) (c 33 (by decide)) (c 34 (by decide)) hN
  · exact words6 w (c 35 (by decide)) (c 36 (by decide)) (c 37 (by decide)) (c 38 (by decide)) (c 39 (by decide)) (c 40 (by decide)) (c 41 (by decide)) hN
  · exact words7 w (c 42 (by decide)) (c 43 (by decide)) (c 44 (by decide)) (c 45 (by decide)) (c 46 (by decide)) (c 47 (by decide)) (c 48 (by decide)) hN

theorem rwords_any (dim : Nat) (hd : dim < 8) (w : World) :
    Calls Tryd.prog 11 #[.int .i64 dim] w fun e w' => e = .returned (.tuple #[.agg (rowOf (Sob.wd dim) 32), .int .i64 0]) ∧ Below w.heap.size w w' := by
  obtain rfl | rfl | rfl | rfl | rfl | rfl | rfl | rfl : dim = 0 ∨ dim = 1 ∨ dim = 2 ∨ dim = 3 ∨ dim = 4 ∨ dim = 5 ∨ dim = 6 ∨ dim = 7 := by omega
  · exact rwords0 w
  · exact rwords1 w
  · exact rwords2 w
  · exact rwords3 w
  · exact rwords4 w
  · exact rwords5 w
  · exact rwords6 w
  · exact rwords7 w

theorem Plans.below {w w' : World} (h : Plans w) (hb : Below w.heap.size w w') : Plans w' :=
  ⟨Nat.le_trans h.1 hb.size, fun j hj => (hb.cell (p := ⟨0, j, none⟩) (by have := h.1; show 0 < _; omega)).trans (h.2 j hj)⟩
theorem Tab.below {w w' : World} (h : Tab w) (hb : Below w.heap.size w w') : Tab w' :=
  ⟨Nat.le_trans h.1 hb.size, fun j hj => (hb.cell (p := ⟨1, j, none⟩) (by have := h.1; show 1 < _; omega)).trans (h.2 j hj)⟩

theorem tz_k (x k : Nat) (hk : Lib.ctz 32 x = k) (hx : x < 4294967296) (hx0 : x ≠ 0) (w : World) (hT : Tab w) :
    Calls Tryd.prog 24 #[.int .u32 x] w fun e w' => e = .returned (.int .i64 k) ∧ w = w' := by
  subst hk
  exact tz_any x hx hx0 w hT

def ARel (f : Nat → Nat) (idx : Nat) (x o : Value) : Prop := ∃ a b : Nat, a < 4294967296 ∧ b < 4294967296 ∧ x = .int .u32 a ∧ o = .int .u32 b ∧ b ^^^ Sob.at32 f a = Sob.at32 f idx

theorem and_pred (a : Nat) (ha : a < 4294967296) (h0 : a ≠ 0) : bits BinOp.and IntKind.u32 (a : Int) ((a : Int) - 1) = ((a &&& (a - 1) : Nat) : Int) := by
  rw [show ((a : Int) - 1) = ((a - 1 : Nat) : Int) by omega]
  exact u32_and_nat a (a - 1) ha (by omega)

theorem at_new (w : World) : Blk (w.alloc (.cells zeros 24)) w.heap.size 24 zeros := Blk.new w _ _
theorem at_set (w : World) (f : Nat → Nat) : (w.alloc (.cells zeros 24)).setRow w.heap.size (rowOf f 32) = w.alloc (.cells (rowOf f 32) 24) := World.setRow_alloc_new w _ _ _
theorem info24f (f : Nat → Nat) : (Tryd.prog.info? 24).map (·.size) = some (rowOf f 32).size := by rw [info24, rowOf_size]
theorem sizez (f : Nat → Nat) (i : Nat) : zeros.size = (rowOf f i).size := by rw [rowOf_size]; rfl

set_option maxRecDepth 100000 in
set_option maxHeartbeats 1000000 in
theorem at_any (dim : Nat) (hd : dim < 8) (idx : Nat) (hi : idx < 4294967296) (w : World) (hP : Plans w) (hT : Tab w) :
    Calls Tryd.prog 12 #[.int .i64 dim, .int .u32 idx] w fun e w' => e = .returned (.tuple #[.int .u32 (Sob.at32 (Sob.wd dim) idx : Nat), .int .i64 0]) ∧ Below w.heap.size w w' := by
  have HP := Lib.hid hP
  have HT := Lib.hid hT
  clear hP hT
  generalize hg : Sob.wd dim = f
  have hw := words_any dim hd
  rw [hg] at hw
  have HW := Lib.hid hw
  have hf : ∀ i, f i < 4294967296 := fun i => hg ▸ Sob.wd_lt dim i
  clear hw hg
  go_enter Tryd.func12, Tryd.ntmps12
  go_wp2_with (first
    | (go_at_call 10; refine (HW.out _ HP.out).mono ?_; rintro e w1 ⟨rfl, hb1⟩; have HB1 := Lib.hid hb1; clear hb1)
    | (refine wpList_store_row rfl 24 _ _ rfl w1.heap.size _ rfl rfl _ _ (at_new w1) (info24f f) (sizez f 32) (rowOf_one _ _) ?_; rw [at_set]))
  have hv : Blk (w1.alloc (.cells (rowOf f 32) 24)) w1.heap.size 24 (rowOf f 32) := Blk.new _ _ _
  have hb2 : Below w.heap.size w (w1.alloc (.cells (rowOf f 32) 24)) := HB1.out.alloc HB1.out.size _
  have hT2 := HT.out.below hb2
  generalize w1.alloc (.cells (rowOf f 32) 24) = w2 at *
  have HB2 := Lib.hid hb2
  have HT2 := Lib.hid hT2
  have HV := Lib.hid hv
  clear hb2 hT2 hv HB1 HT HP HW
  go_loop [1, 8] (fun x o => ARel f idx x o) (fun x _ => (intOf x).toNat)
  case atStart => exact ⟨idx, 0, hi, by decide, rfl, rfl, by rw [Nat.zero_xor]⟩
  case round =>
    obtain ⟨a, b, ha, hb, rfl, rfl, hx⟩ := hrel
    have HX := Lib.hid hx
    clear hx
    by_cases h0 : a = 0
    · subst h0
      go_wp2
      go_ret2
      refine ⟨?_, HB2.out⟩
      have := HX.out
      rw [Sob.at32_zero, Nat.xor_zero] at this
      rw [← this]; rfl
    · obtain ⟨hk, he, hlt⟩ := Sob.low_bit a h0 ha
      have hst := Sob.at32_step f a h0 ha
      have hand := and_pred a ha h0
      have htz := fun w hT => tz_k a _ rfl ha h0 w hT
      generalize Lib.ctz 32 a = k at *
      have hc : w2.cell? ⟨w1.heap.size, k, none⟩ = some (.int .u32 (f k : Nat)) := by rw [HV.out.cell, rowOf_get f 32 k hk, if_pos hk]
      have hne : ((a : Int) != 0) = true := by rw [bne_iff_ne]; omega
      have hfk : f k < 4294967296 := hf k
      have ha1 : 1 ≤ a := by omega
      have HS := Lib.hid hst
      have HA := Lib.hid hand
      have HTZ := Lib.hid htz
      have HL := Lib.hid hlt
      clear he h0 hst hand htz hlt
      go_wp2_with (go_at_call 24; refine (HTZ.out _ HT2.out).mono ?_; rintro e w' ⟨rfl, rfl⟩)
      go_round
      case rel =>
        refine ⟨a &&& (a - 1), b ^^^ f k, by have := HL.out; omega, Nat.xor_lt_two_pow (n := 32) hb hfk, ?_, ?_, ?_⟩
        · exact congrArg (Value.int IntKind.u32) HA.out
        · exact congrArg (Value.int IntKind.u32) (u32_xor_nat b (f k) hb hfk)
        · rw [← HX.out, HS.out, Nat.xor_assoc]
      case measure =>
        simp only [intOf]
        rw [HA.out]
        have := HL.out
        omega
end Go.Proofs.YtmgaonkmfdeohaaDoor
