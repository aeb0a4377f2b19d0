/- The walk of the document's Div (gen_vi.py). -/
import Derived.Test.YtdgaaceebghcpaaVh
set_option linter.unusedVariables false
set_option linter.unusedSimpArgs false
namespace Go.Proofs.Ytdgaaceebghcpaa
open Go.RowKit Ieee

/-- After k rounds of the long division: X what is divided, N the divisor. -/
structure LdR (X N k q r : Nat) : Prop where
  hk : k ≤ 60
  eq : 2 * (q * N) + r = X * 2 ^ k
  lt : r < 2 * N
theorem LdR.q_lt {X N k q r : Nat} (h : LdR X N k q r) (hX : X < 2 * N) : q < 2 ^ k := by
  have h1 := h.eq
  have hp := Nat.two_pow_pos k
  apply Nat.lt_of_not_le
  intro hh
  have h2 : 2 ^ k * N ≤ q * N := Nat.mul_le_mul_right _ hh
  have h3 : X * 2 ^ k < 2 * N * 2 ^ k := Nat.mul_lt_mul_of_pos_right hX hp
  have h4 : 2 * N * 2 ^ k = 2 * (2 ^ k * N) := by rw [Nat.mul_assoc, Nat.mul_comm N]
  omega
theorem LdR.yes {X N k q r : Nat} (h : LdR X N k q r) (hk : k < 60) (hc : N ≤ r) : LdR X N (k + 1) (q * 2 + 1) ((r - N) * 2) := by
  refine ⟨hk, ?_, by have := h.lt; omega⟩
  have h1 := h.eq
  rw [Nat.pow_succ, ← Nat.mul_assoc X, ← h1]
  have h2 : (q * 2 + 1) * N = 2 * (q * N) + N := by rw [Nat.add_mul, Nat.one_mul, Nat.mul_right_comm, Nat.mul_comm]
  omega
theorem LdR.no {X N k q r : Nat} (h : LdR X N k q r) (hk : k < 60) (hc : r < N) : LdR X N (k + 1) (q * 2) (r * 2) := by
  refine ⟨hk, ?_, by omega⟩
  have h1 := h.eq
  rw [Nat.pow_succ, ← Nat.mul_assoc X, ← h1]
  have h2 : q * 2 * N = 2 * (q * N) := by rw [Nat.mul_right_comm, Nat.mul_comm]
  omega
theorem LdR.stop {X N q r : Nat} (h : LdR X N 60 q r) (hN : 0 < N) : q = X * 2 ^ 60 / (2 * N) ∧ r = X * 2 ^ 60 % (2 * N) := by
  have h1 := h.eq
  have h2 : 2 * (q * N) = 2 * N * q := by rw [Nat.mul_comm q, Nat.mul_assoc]
  rw [← h1, h2]
  have hl := h.lt
  exact ⟨by rw [Nat.mul_add_div (by omega), Nat.div_eq_of_lt hl, Nat.add_zero], by rw [Nat.mul_add_mod, Nat.mod_eq_of_lt hl]⟩

def Ld1 (X N X1 Y1 : Nat) (ex ey : Int) (w : World) (r q i : Value) (wr : World) : Prop :=
  ∃ a b k : Nat, r = .int .u64 (a : Int) ∧ q = .int .u64 (b : Int) ∧ i = .int .i64 (k : Int) ∧ LdR X N k b a ∧
    Blk wr (w.heap.size + 1) 135 #[.int .u64 (X1 : Int), .int .u64 (X : Int), .int .i64 ex, .bool false] ∧
    Blk wr (w.heap.size + 1 + 1 + 1) 135 #[.int .u64 (Y1 : Int), .int .u64 (N : Int), .int .i64 ey, .bool false] ∧ Below w.heap.size w wr

theorem or_one (q : Nat) (h : q < 9223372036854775808) : bits .or .u64 ((q : Int) * 2) 1 = (q : Int) * 2 + 1 := by
  have h1 := bits_or_u64_nat (q * 2) 1 (by omega) (by omega)
  have h2 : q * 2 ||| 1 = q * 2 + 1 := by
    have := Nat.two_pow_add_eq_or_of_lt (i := 1) (b := 1) (by decide) q
    rw [Nat.pow_one, Nat.mul_comm 2 q] at this
    exact this.symm
  rw [h2] at h1
  rw [Int.natCast_mul] at h1
  refine h1.trans ?_
  omega

set_option maxRecDepth 100000 in
set_option maxHeartbeats 4000000 in
theorem rdiv_walk (x y : Nat) (down na nb : Bool) (A B : Nat) (ea eb : Int) (hX0 : (FloatKind.f64.format.order x 0 == some .eq) = false) (hY0 : (FloatKind.f64.format.order y 0 == some .eq) = false)
    (hNx : ∀ w, Calls Try.prog 103 #[.float .f64 x] w fun e w' => e = .returned (.bool true) ∧ w = w') (hNy : ∀ w, Calls Try.prog 103 #[.float .f64 y] w fun e w' => e = .returned (.bool true) ∧ w = w')
    (hPx : ∀ w, Calls Try.prog 141 #[.float .f64 x] w fun r w' => r = .returned (.tuple #[wdv 0 A ea false, .bool na]) ∧ ∃ o, w' = w.alloc o)
    (hPy : ∀ w, Calls Try.prog 141 #[.float .f64 y] w fun r w' => r = .returned (.tuple #[wdv 0 B eb false, .bool nb]) ∧ ∃ o, w' = w.alloc o)
    (La Lb : Nat) (hLa : La ≤ 53) (hLb : Lb ≤ 53)
    (hLA : ∀ w, Calls Try.prog 142 #[wdv 0 A ea false] w fun r w' => r = .returned (.int .i64 (La : Int)) ∧ ∃ o, w' = w.alloc o)
    (hLB : ∀ w, Calls Try.prog 142 #[wdv 0 B eb false] w fun r w' => r = .returned (.int .i64 (Lb : Int)) ∧ ∃ o, w' = w.alloc o)
    (X1 X Y1 N : Nat) (ex ey : Int)
    (hUX : ∀ w, Calls Try.prog 143 #[wdv 0 A ea false, .int .i64 (IntKind.i64.wrap (53 - (La : Int)))] w fun r w' => r = .returned (wdv X1 X ex false) ∧ ∃ k o o', w' = ((w.alloc o).alloc o').drewN k)
    (hUY : ∀ w, Calls Try.prog 143 #[wdv 0 B eb false, .int .i64 (IntKind.i64.wrap (53 - (Lb : Int)))] w fun r w' => r = .returned (wdv Y1 N ey false) ∧ ∃ k o o', w' = ((w.alloc o).alloc o').drewN k)
    (hex : -5000 ≤ ex) (hex2 : ex ≤ 5000) (hey : -5000 ≤ ey) (hey2 : ey ≤ 5000) (hXN : Hid (X < 2 * N ∧ 0 < N ∧ N < 9007199254740992)) (Q R : Nat) (hQR : Hid (Q = X * 2 ^ 60 / (2 * N) ∧ R = X * 2 ^ 60 % (2 * N)))
    (v : Nat) (hO : ∀ w, Calls Try.prog 145 #[.agg #[.int .u64 0, .int .u64 (Q : Int), .int .i64 (ex - ey - 59), .bool ((R : Int) != 0)], .bool (na != nb), .bool down] w fun r w' => r = .returned (.float .f64 v) ∧ Below w.heap.size w w') (w : World) :
    Calls Try.prog 128 #[.float .f64 x, .float .f64 y, .bool down] w fun r w' => r = .returned (numV v 0) ∧ Below w.heap.size w w' := by
  have HNx := Lib.hid hNx
  have HNy := Lib.hid hNy
  have HPx := Lib.hid hPx
  have HPy := Lib.hid hPy
  have HLA := Lib.hid hLA
  have HLB := Lib.hid hLB
  have HUX := Lib.hid hUX
  have HUY := Lib.hid hUY
  have HO := Lib.hid hO
  clear hNx hNy hPx hPy hLA hLB hUX hUY hO
  go_enter Try.func128, Try.ntmps128
  go_wp2_with fail
  refine (HNx.out _).mono ?_
  rintro e w' ⟨rfl, rfl⟩
  go_wp2_with fail
  refine (HNy.out _).mono ?_
  rintro e w' ⟨rfl, rfl⟩
  go_wp2_with fail
  refine (HPx.out _).mono ?_
  rintro e w' ⟨rfl, p1, rfl⟩
  go_wp2_with fail
  refine (HPy.out _).mono ?_
  rintro e w' ⟨rfl, p2, rfl⟩
  go_wp2_with fail
  go_cut [] (fun wc => ∃ p3 p4 p5 k, wc = (((((((w.alloc p1).alloc (wdo X1 X ex false)).alloc p2).alloc (wdo 0 B eb false)).alloc p3).alloc p4).alloc p5).drewN k)
  case first =>
    go_region_with (first
      | (go_at_call 142; refine (HLA.out _).mono ?_; rintro r w' ⟨rfl, o, rfl⟩)
      | (go_at_call 143; refine (HUX.out _).mono ?_; rintro r w' ⟨rfl, k, o, o', rfl⟩))
    all_goals (go_wp2_with fail; go_meet; exact ⟨_, _, _, _, rfl⟩)
  case rest =>
    obtain ⟨p3, p4, p5, k1, rfl⟩ := hcut
    go_wp2_with fail
    go_cut [] (fun wc => ∃ p3 p4 p5 p6 p7 p8 k, wc = ((((((((((w.alloc p1).alloc (wdo X1 X ex false)).alloc p2).alloc (wdo Y1 N ey false)).alloc p3).alloc p4).alloc p5).alloc p6).alloc p7).alloc p8).drewN k)
    case first =>
      go_region_with (first
        | (go_at_call 142; refine (HLB.out _).mono ?_; rintro r w' ⟨rfl, o, rfl⟩)
        | (go_at_call 143; refine (HUY.out _).mono ?_; rintro r w' ⟨rfl, k, o, o', rfl⟩))
      all_goals (go_wp2_with fail; go_meet; exact ⟨_, _, _, _, _, _, _, rfl⟩)
    case rest =>
      obtain ⟨p3, p4, p5, p6, p7, p8, k2, rfl⟩ := hcut
      go_wp2_with fail
      go_loopw [12, 13, 14] (fun r q i wr => Ld1 X N X1 Y1 ex ey w r q i wr) (fun _ _ i _ => 60 - (intOf i).toNat)
      case atStart => exact ⟨X, 0, 0, rfl, rfl, rfl, ⟨by omega, by omega, hXN.out.1⟩, ((((((((((Blk.new_at _ _ _ (by simp)).alloc _).alloc _).alloc _).alloc _).alloc _).alloc _).alloc _).alloc _).drewN _), ((((((((Blk.new_at _ _ _ (by simp)).alloc _).alloc _).alloc _).alloc _).alloc _).alloc _).drewN _), (below_drewN (below_more (below_more (below_more (below_more (below_more (below_more (below_more (below_more (below_more (below_new _ _) _) _) _) _) _) _) _) _) _) _)⟩
      case round =>
        obtain ⟨r, q, k, rfl, rfl, rfl, hd, hb1, hb2, hbe⟩ := hrel
        have HD := Lib.hid hd
        have hk := hd.hk
        have C1 := hb1.cell 2
        have C2 := hb2.cell 1
        have C3 := hb2.cell 2
        have HB1 := Lib.hid hb1
        have HB2 := Lib.hid hb2
        have HBe := Lib.hid hbe
        clear hd hb1 hb2 hbe
        by_cases hk2 : k < 60
        · have hq : (q : Int) < 1152921504606846976 := by
            have h1 := HD.out.q_lt hXN.out.1
            have h2 : (2 : Nat) ^ k ≤ 2 ^ 60 := Nat.pow_le_pow_right (by decide) hk
            have h3 : (2 : Nat) ^ 60 = 1152921504606846976 := by decide
            omega
          have hr : (r : Int) < 18014398509481984 := by
            have h1 := HD.out.lt
            have h2 := hXN.out.2.2
            omega
          have F := or_one q (by omega)
          have hk3 : (k : Int) < 60 := by omega
          have HKK := Lib.hid hk2
          clear hk hk2
          by_cases hc : (N : Int) ≤ (r : Int)
          · go_wp2_with fail
            exact ⟨⟨(r - N) * 2, q * 2 + 1, k + 1, congrArg _ (by omega), congrArg _ (by omega), rfl, HD.out.yes HKK.out (by omega), HB1.out, HB2.out, HBe.out⟩, by simp only [intOf]; omega⟩
          · go_wp2_with fail
            exact ⟨⟨r * 2, q * 2, k + 1, congrArg _ (by omega), congrArg _ (by omega), rfl, HD.out.no HKK.out (by omega), HB1.out, HB2.out, HBe.out⟩, by simp only [intOf]; omega⟩
        · obtain ⟨rfl, rfl⟩ : q = Q ∧ r = R := by
            have hk60 : k = 60 := by omega
            rw [hk60] at HD
            have := HD.out.stop hXN.out.2.1
            rw [← hQR.out.1, ← hQR.out.2] at this
            exact this
          have hk3 : ¬ (k : Int) < 60 := by omega
          clear hk hk2
          go_wp2_with fail
          refine (HO.out _).mono ?_
          rintro e w2 ⟨rfl, h2⟩
          have HW2 := Lib.hid h2
          clear h2
          go_wp2_with fail
          go_ret2
          exact ⟨rfl, HBe.out.trans (HW2.out.mono HBe.out.size)⟩
end Go.Proofs.Ytdgaaceebghcpaa
