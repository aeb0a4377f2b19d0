/- Shaken: Wj Vi Vl. -/
import Derived.Test.YtnljfcebmgifdaaZPb
import Derived.Test.YtnljfcebmgifdaaZGx
import Derived.Test.YtnljfcebmgifdaaZGy
import Derived.Test.YtnljfcebmgifdaaZGz
import Derived.Test.YtnljfcebmgifdaaZVh
import Derived.Test.YtnljfcebmgifdaaZGa
import Derived.Deep.CutBlock
set_option linter.unusedVariables false
set_option linter.unusedSimpArgs false
namespace Go.Proofs.Ytnljfcebmgifdaa
open Go.RowKit Ieee
end Go.Proofs.Ytnljfcebmgifdaa
namespace Go.Proofs.Ytnljfcebmgifdaa
open Go.RowKit Ieee
/-- r is the whole root of N. -/
def IsRoot (N r : Nat) : Prop := r * r ≤ N ∧ N < (r + 1) * (r + 1)
theorem IsRoot.uniq {N r s : Nat} (h : IsRoot N r) (h' : IsRoot N s) : r = s := by
 have key : ∀ {r s : Nat}, IsRoot N r → IsRoot N s → r ≤ s := by
   intro r s h h'
   apply Nat.le_of_not_lt
   intro hlt
   have h1 : (s + 1) * (s + 1) ≤ r * r := Nat.mul_le_mul hlt hlt
   have h2 := h.1
   have h3 := h'.2
   omega
 exact Nat.le_antisymm (key h h') (key h' h)
/-- After i rounds. -/
structure RtR (N i r : Nat) : Prop where
 hi : i ≤ 58
 low : r * r ≤ N
 high : N < (r + 2 ^ (58 - i)) * (r + 2 ^ (58 - i))
 lt : r < 288230376151711744
 dvd : r % 2 ^ (58 - i) = 0
theorem RtR.start {N : Nat} (hN : N < 83076749736557242056487941267521536) : RtR N 0 0 := by
 refine ⟨by omega, by omega, ?_, by omega, Nat.zero_mod _⟩
 have : (2 : Nat) ^ (58 - 0) = 288230376151711744 := by decide
 rw [this]; omega
theorem RtR.bit {N i r : Nat} (h : RtR N i r) (hi : i < 58) : (r ||| 2 ^ (57 - i)) = r + 2 ^ (57 - i) ∧ r + 2 ^ (57 - i) < 288230376151711744 ∧ 2 ^ (57 - i) < 18446744073709551616 := by
 obtain ⟨k, hk⟩ : ∃ k, 57 - i = k := ⟨_, rfl⟩
 have h1 := h.dvd
 have h2 := h.lt
 rw [show 58 - i = k + 1 by omega] at h1
 rw [hk]
 obtain ⟨c, hc⟩ : ∃ c, r = 2 ^ (k + 1) * c := ⟨r / 2 ^ (k + 1), by have := Nat.div_add_mod r (2 ^ (k + 1)); omega⟩
 have h3 : 2 ^ k < 2 ^ (k + 1) := Nat.pow_lt_pow_right (by decide) (by omega)
 have e1 : r ||| 2 ^ k = r + 2 ^ k := by
   rw [hc]; exact (Nat.two_pow_add_eq_or_of_lt h3 c).symm
 refine ⟨e1, ?_, ?_⟩
 · have h4 : (2 : Nat) ^ 58 = 2 ^ (k + 1) * 2 ^ (57 - k) := by rw [← Nat.pow_add]; congr 1; omega
   have h5 : (2 : Nat) ^ 58 = 288230376151711744 := by decide
   rw [hc] at h2 ⊢
   rw [← h5, h4] at h2 ⊢
   have h6 : c < 2 ^ (57 - k) := Nat.lt_of_mul_lt_mul_left h2
   have h7 : 2 ^ (k + 1) * (c + 1) ≤ 2 ^ (k + 1) * 2 ^ (57 - k) := Nat.mul_le_mul_left _ h6
   rw [Nat.mul_add, Nat.mul_one] at h7
   omega
 · have : (2 : Nat) ^ k ≤ 2 ^ 57 := Nat.pow_le_pow_right (by decide) (by omega)
   have h5 : (2 : Nat) ^ 57 = 144115188075855872 := by decide
   omega
theorem RtR.no {N i r : Nat} (h : RtR N i r) (hi : i < 58) (hc : ¬ (r + 2 ^ (57 - i)) * (r + 2 ^ (57 - i)) ≤ N) : RtR N (i + 1) r := by
 refine ⟨hi, h.low, ?_, h.lt, ?_⟩
 · rw [show 58 - (i + 1) = 57 - i by omega]; omega
 · have := h.dvd
   rw [show 58 - i = (57 - i) + 1 by omega, Nat.pow_succ] at this
   rw [show 58 - (i + 1) = 57 - i by omega]
   exact Nat.mod_eq_zero_of_dvd (Nat.dvd_trans (Nat.dvd_mul_right _ 2) (Nat.dvd_of_mod_eq_zero this))
theorem RtR.stop {N r : Nat} (h : RtR N 58 r) : IsRoot N r := by
 have := h.high
 rw [Nat.sub_self, Nat.pow_zero] at this
 exact ⟨h.low, this⟩
/-- The whole root of a number. -/
theorem root_ex (N : Nat) : ∃ R, IsRoot N R := by
 induction N with
 | zero => exact ⟨0, by decide, by decide⟩
 | succ N ih =>
   obtain ⟨R, h1, h2⟩ := ih
   by_cases h : N + 1 < (R + 1) * (R + 1)
   · exact ⟨R, by omega, h⟩
   · refine ⟨R + 1, by omega, ?_⟩
     have h3 : (R + 1 + 1) * (R + 1 + 1) = (R + 1) * (R + 1) + 2 * (R + 1) + 1 := by
       rw [Nat.add_mul (R + 1) 1, Nat.mul_add (R + 1) (R + 1) 1]; omega
     omega
end Go.Proofs.Ytnljfcebmgifdaa
set_option linter.unusedVariables false
set_option linter.unusedSimpArgs false
namespace Go.Proofs.Ytnljfcebmgifdaa
open Go.RowKit Ieee
/-- After k rounds of the long division: X what is divided, N the divisor. -/
structure LdR (X N k q r : Nat) : Prop where
 hk : k ≤ 60
 eq : 2 * (q * N) + r = X * 2 ^ k
 lt : r < 2 * N
theorem LdR.no {X N k q r : Nat} (h : LdR X N k q r) (hk : k < 60) (hc : r < N) : LdR X N (k + 1) (q * 2) (r * 2) := by
 refine ⟨hk, ?_, by omega⟩
 have h1 := h.eq
 rw [Nat.pow_succ, ← Nat.mul_assoc X, ← h1]
 have h2 : q * 2 * N = 2 * (q * N) := by rw [Nat.mul_right_comm, Nat.mul_comm]
 omega
theorem LdR.stop {X N q r : Nat} (h : LdR X N 60 q r) (hN : 0 < N) : q = X * 2 ^ 60 / (2 * N) ∧ r = X * 2 ^ 60 % (2 * N) := by
 have h1 := h.eq
 have h2 : 2 * (q * N) = 2 * N * q := by rw [Nat.mul_comm q, Nat.mul_assoc]
 rw [← h1, h2]
 have hl := h.lt
 exact ⟨by rw [Nat.mul_add_div (by omega), Nat.div_eq_of_lt hl, Nat.add_zero], by rw [Nat.mul_add_mod, Nat.mod_eq_of_lt hl]⟩
end Go.Proofs.Ytnljfcebmgifdaa
set_option linter.unusedVariables false
set_option linter.unusedSimpArgs false
namespace Go.Proofs.Ytnljfcebmgifdaa
open Go.RowKit Ieee
theorem wdW_small (W : Nat) (e : Int) (more : Bool) (h : W < 18446744073709551616) : wdW W e more = wdv 0 W e more := by
 unfold wdW
 rw [Nat.div_eq_of_lt h, Nat.mod_eq_of_lt h]
theorem wlen_s (A : Nat) (e : Int) (h : A < 18446744073709551616) (w : World) : Calls Try.prog 144 #[wdv 0 A e false] w fun r w' => r = .returned (.int .i64 (Fl.len A : Int)) ∧ ∃ o, w' = w.alloc o := by
 have := wlen_any 0 A e false (by omega) h w
 rw [Nat.zero_mul, Nat.zero_add] at this
 exact this
theorem up_s (A n m : Nat) (e : Int) (x : Int) (hx : x = (n : Int)) (hA : A < 18446744073709551616) (hm : m = A * 2 ^ n) (hW : m < 340282366920938463463374607431768211456) (hn : n ≤ 128) (he : -100000 ≤ e) (he2 : e ≤ 100000) (w : World) :
   Calls Try.prog 143 #[wdv 0 A e false, .int .i64 x] w fun r w' => r = .returned (wdW m (e - n) false) ∧ ∃ k o o', w' = ((w.alloc o).alloc o').drewN k := by
 subst hx hm
 have := up_any A e false n hW hn he he2 w
 rw [wdW_small A e false hA] at this
 exact this
theorem wrap_sub (c L : Nat) (hL : L ≤ 53) (hc : 53 ≤ c) (hc2 : c ≤ 200) : IntKind.i64.wrap ((c : Int) - (L : Int)) = ((c - L : Nat) : Int) := by
 rw [IntKind.wrap_i64]; omega
theorem eq0_of (b : Nat) (h : b < 18446744073709551616) (hf : Fl.fin b = true) : (FloatKind.f64.format.order b 0 == some .eq) = decide (Fl.mg b = 0) := pl_of b h (Fl.nan_of_fin hf)
end Go.Proofs.Ytnljfcebmgifdaa
namespace Go.Proofs.Ytnljfcebmgifdaa
open Go.RowKit Ieee
theorem wminus_one (A : Nat) (e : Int) (hA : A < 340282366920938463463374607431768211456) (h1 : 1 ≤ A) (w : World) :
   Calls Try.prog 150 #[wdW A e false, .agg #[.int .u64 0, .int .u64 1, .int .i64 0, .bool false]] w fun r w' => r = .returned (wdW (A - 1) e false) ∧ ∃ o o' o'' o3, w' = (((w.alloc o).alloc o').alloc o'').alloc o3 := by
 have := wminus_any A 1 e 0 false false hA h1 w
 rw [wdW_small 1 0 false (by omega)] at this
 exact this
set_option maxHeartbeats 1000000 in
theorem rcore_n (a b : Nat) (down : Bool) (ha : a < 18446744073709551616) (hb : b < 18446744073709551616) (fa : Fl.fin a = true) (fb : Fl.fin b = true) (ha0' : Fl.mg a ≠ 0) (hb0' : Fl.mg b ≠ 0) (hc : Fl.sE b + (Fl.len (Fl.sM b) : Int) ≤ Fl.sE a + Fl.len (Fl.sM a)) (w : World) :
   Calls Try.prog 113 #[.float .f64 a, .float .f64 b, .bool down] w fun r w' => r = .returned (numV (toS down (sumCore (Fl.sg a) (Fl.sg b) (Fl.sM a) (Fl.sM b) (Fl.sE a) (Fl.sE b))) 0) ∧ Below w.heap.size w w' := by
 have ha0 := eq0_of a ha fa
 rw [decide_eq_false ha0'] at ha0
 have hb0 := eq0_of b hb fb
 rw [decide_eq_false hb0'] at hb0
 have hA0 : Fl.sM a ≠ 0 := fun h => ha0' ((Fl.sM_zero a).1 h)
 have hB0 : Fl.sM b ≠ 0 := fun h => hb0' ((Fl.sM_zero b).1 h)
 have hNa := rnum_good a ha fa
 have hNb := rnum_good b hb fb
 have hA := Fl.sM_lt a
 have hB := Fl.sM_lt b
 have hea := Fl.sE_ge a
 have hea2 := Fl.sE_le a fa
 have heb := Fl.sE_ge b
 have heb2 := Fl.sE_le b fb
 have l1 := len53 hA
 have l2 := len53 hB
 have l3 := Fl.len_pos hA0
 have l4 := Fl.len_pos hB0
 have bA := norm126 hA
 have hok := sumCore_ok (Fl.sg a) (Fl.sg b) (Fl.sM a) (Fl.sM b) (Fl.sE a) (Fl.sE b) hA hB hA0 hB0 hea hea2 heb heb2 (by omega)
 obtain ⟨e1, he1⟩ : ∃ e1, e1 = Fl.sE a + (Fl.len (Fl.sM a) : Int) - 126 := ⟨_, rfl⟩
 obtain ⟨A1, hA1⟩ : ∃ A1, A1 = Fl.sM a * 2 ^ (126 - Fl.len (Fl.sM a)) := ⟨_, rfl⟩
 rw [← hA1] at bA
 have hUp : ∀ w, Calls Try.prog 143 #[wdv 0 (Fl.sM a) (Fl.sE a) false, .int .i64 (IntKind.i64.wrap (126 - (Fl.len (Fl.sM a) : Int)))] w fun r w' => r = .returned (wdW A1 e1 false) ∧ ∃ k o o', w' = ((w.alloc o).alloc o').drewN k := by
   intro w
   have := up_s (Fl.sM a) (126 - Fl.len (Fl.sM a)) A1 (Fl.sE a) _ (wrap_sub 126 (Fl.len (Fl.sM a)) l1 (by omega) (by omega)) (by omega) hA1 (by omega) (by omega) (by omega) (by omega) w
   rw [show Fl.sE a - ((126 - Fl.len (Fl.sM a) : Nat) : Int) = e1 by omega] at this
   exact this
 by_cases h1 : e1 ≤ Fl.sE b
 · rw [sumCore_le _ _ _ _ _ _ (by omega), ← he1, ← hA1] at hok ⊢
   obtain ⟨k, hk⟩ : ∃ k : Nat, Fl.sE b - e1 = k := ⟨(Fl.sE b - e1).toNat, by omega⟩
   rw [show (Fl.sE b - e1).toNat = k by omega] at hok ⊢
   obtain ⟨B1, hB1⟩ : ∃ B1, B1 = Fl.sM b * 2 ^ k := ⟨_, rfl⟩
   have bB : B1 < 85070591730234615865843651857942052864 := by
     rw [hB1]; exact lt126 (Fl.lt_len (Fl.sM b)) (by omega)
   have hBc : ∀ w, Calls Try.prog 143 #[wdv 0 (Fl.sM b) (Fl.sE b) false, .int .i64 (Fl.sE b - e1)] w fun r w' => r = .returned (wdW B1 e1 false) ∧ ∃ k o o', w' = ((w.alloc o).alloc o').drewN k := by
     intro w
     have := up_s (Fl.sM b) k B1 (Fl.sE b) _ hk (by omega) hB1 (by omega) (by omega) (by omega) (by omega) w
     rw [show Fl.sE b - (k : Int) = e1 by omega] at this
     exact this
   rw [← hB1] at hok ⊢
   unfold sumFin toS at *
   by_cases hs : (Fl.sg a == Fl.sg b) = true
   · rw [if_pos hs] at hok ⊢
     exact radd_n_L_s a b down (Fl.sg a) (Fl.sg b) 0 0 (Fl.sM a) (Fl.sM b) (Fl.sE a) (Fl.sE b) _ _ (by omega) (by omega) (by omega) (by omega) (by omega) (by omega) hc ha0 hb0 hNa hNb (part_any a ha) (part_any b hb) (wlen_s _ _ (by omega)) (wlen_s _ _ (by omega)) _ _ e1 hUp (by omega) (by omega) (by omega) _ _ e1 hBc hs _ _ (fun w => wplus_any A1 B1 e1 e1 false (by omega) (by omega) (by omega) w) _ (rto_ok _ down _ _ _ hok) w
   · rw [if_neg hs, if_neg Bool.false_ne_true] at hok ⊢
     have hs' : (Fl.sg a == Fl.sg b) = false := by revert hs; cases Fl.sg a <;> cases Fl.sg b <;> decide
     by_cases hlt : A1 < B1
     · rw [if_pos hlt] at hok ⊢
       exact radd_n_L_d0n a b down (Fl.sg a) (Fl.sg b) 0 0 (Fl.sM a) (Fl.sM b) (Fl.sE a) (Fl.sE b) _ _ (by omega) (by omega) (by omega) (by omega) (by omega) (by omega) hc ha0 hb0 hNa hNb (part_any a ha) (part_any b hb) (wlen_s _ _ (by omega)) (wlen_s _ _ (by omega)) _ _ e1 hUp (by omega) (by omega) (by omega) _ _ e1 hBc hs' _ _ (fun w => by have := wless_any A1 B1 e1 e1 false false (by omega) (by omega) w; rw [decide_eq_true hlt] at this; exact this) (fun w => wminus_any B1 A1 e1 e1 false false (by omega) (by omega) w) _ (rto_ok _ down _ _ _ hok) w
     · rw [if_neg hlt] at hok ⊢
       exact radd_n_L_d0 a b down (Fl.sg a) (Fl.sg b) 0 0 (Fl.sM a) (Fl.sM b) (Fl.sE a) (Fl.sE b) _ _ (by omega) (by omega) (by omega) (by omega) (by omega) (by omega) hc ha0 hb0 hNa hNb (part_any a ha) (part_any b hb) (wlen_s _ _ (by omega)) (wlen_s _ _ (by omega)) _ _ e1 hUp (by omega) (by omega) (by omega) _ _ e1 hBc hs' _ _ (fun w => by have := wless_any A1 B1 e1 e1 false false (by omega) (by omega) w; rw [decide_eq_false hlt] at this; exact this) (fun w => wminus_any A1 B1 e1 e1 false false (by omega) (by omega) w) _ (rto_ok _ down _ _ _ hok) w
 · rw [sumCore_gt _ _ _ _ _ _ (by omega), ← he1, ← hA1] at hok ⊢
   obtain ⟨k, hk⟩ : ∃ k : Nat, e1 - Fl.sE b = k := ⟨(e1 - Fl.sE b).toNat, by omega⟩
   rw [show (e1 - Fl.sE b).toNat = k by omega] at hok ⊢
   obtain ⟨B1, hB1⟩ : ∃ B1, B1 = Fl.sM b / 2 ^ k := ⟨_, rfl⟩
   have bB : B1 < 9007199254740992 := by
     rw [hB1]; exact Nat.lt_of_le_of_lt (Nat.div_le_self _ _) hB
   have hge := top126 hA0 (by omega)
   rw [← hA1] at hge
   obtain ⟨mb, hmb⟩ : ∃ x, x = (Fl.sM b % 2 ^ k != 0) := ⟨_, rfl⟩
   have hBc : ∀ w, Calls Try.prog 148 #[wdv 0 (Fl.sM b) (Fl.sE b) false, .int .i64 (e1 - Fl.sE b)] w fun r w' => r = .returned (wdW B1 e1 mb) ∧ ∃ k o o', w' = ((w.alloc o).alloc o').drewN k := by
     intro w
     have := down_any (Fl.sM b) (Fl.sE b) false k (by omega) (by omega) (by omega) (by omega) (by omega) w
     rw [wdW_small (Fl.sM b) _ _ (by omega), ← hB1, Bool.false_or, ← hmb, show Fl.sE b + (k : Int) = e1 by omega] at this
     rw [hk]
     exact this
   rw [← hB1, ← hmb] at hok ⊢
   unfold sumFin toS at *
   by_cases hs : (Fl.sg a == Fl.sg b) = true
   · rw [if_pos hs] at hok ⊢
     exact radd_n_R_s a b down (Fl.sg a) (Fl.sg b) 0 0 (Fl.sM a) (Fl.sM b) (Fl.sE a) (Fl.sE b) _ _ (by omega) (by omega) (by omega) (by omega) (by omega) (by omega) hc ha0 hb0 hNa hNb (part_any a ha) (part_any b hb) (wlen_s _ _ (by omega)) (wlen_s _ _ (by omega)) _ _ e1 hUp (by omega) (by omega) (by omega) _ _ e1 mb hBc hs _ _ (fun w => wplus_any A1 B1 e1 e1 mb (by omega) (by omega) (by omega) w) _ (rto_ok _ down _ _ _ hok) w
   · rw [if_neg hs] at hok ⊢
     have hs' : (Fl.sg a == Fl.sg b) = false := by revert hs; cases Fl.sg a <;> cases Fl.sg b <;> decide
     clear hmb
     cases mb
     · rw [if_neg Bool.false_ne_true, if_neg (by omega : ¬ A1 < B1)] at hok ⊢
       exact radd_n_R_d0 a b down (Fl.sg a) (Fl.sg b) 0 0 (Fl.sM a) (Fl.sM b) (Fl.sE a) (Fl.sE b) _ _ (by omega) (by omega) (by omega) (by omega) (by omega) (by omega) hc ha0 hb0 hNa hNb (part_any a ha) (part_any b hb) (wlen_s _ _ (by omega)) (wlen_s _ _ (by omega)) _ _ e1 hUp (by omega) (by omega) (by omega) _ _ e1 hBc hs' _ _ (fun w => by have := wless_any A1 B1 e1 e1 false false (by omega) (by omega) w; rw [decide_eq_false (by omega : ¬ A1 < B1)] at this; exact this) (fun w => wminus_any A1 B1 e1 e1 false false (by omega) (by omega) w) _ (rto_ok _ down _ _ _ hok) w
     · rw [if_pos rfl] at hok ⊢
       exact radd_n_R_d1 a b down (Fl.sg a) (Fl.sg b) 0 0 (Fl.sM a) (Fl.sM b) (Fl.sE a) (Fl.sE b) _ _ (by omega) (by omega) (by omega) (by omega) (by omega) (by omega) hc ha0 hb0 hNa hNb (part_any a ha) (part_any b hb) (wlen_s _ _ (by omega)) (wlen_s _ _ (by omega)) _ _ e1 hUp (by omega) (by omega) (by omega) _ _ e1 hBc hs' _ _ _ _ (fun w => wminus_any A1 B1 e1 e1 false true (by omega) (by omega) w) (fun w => wminus_one (A1 - B1) e1 (by omega) (by omega) w) _ (rto_ok _ down _ _ _ hok) w
set_option maxHeartbeats 1000000 in
theorem rcore_y (a b : Nat) (down : Bool) (ha : a < 18446744073709551616) (hb : b < 18446744073709551616) (fa : Fl.fin a = true) (fb : Fl.fin b = true) (ha0' : Fl.mg a ≠ 0) (hb0' : Fl.mg b ≠ 0) (hc : Fl.sE b + (Fl.len (Fl.sM b) : Int) < Fl.sE a + Fl.len (Fl.sM a)) (w : World) :
   Calls Try.prog 113 #[.float .f64 b, .float .f64 a, .bool down] w fun r w' => r = .returned (numV (toS down (sumCore (Fl.sg a) (Fl.sg b) (Fl.sM a) (Fl.sM b) (Fl.sE a) (Fl.sE b))) 0) ∧ Below w.heap.size w w' := by
 have ha0 := eq0_of a ha fa
 rw [decide_eq_false ha0'] at ha0
 have hb0 := eq0_of b hb fb
 rw [decide_eq_false hb0'] at hb0
 have hA0 : Fl.sM a ≠ 0 := fun h => ha0' ((Fl.sM_zero a).1 h)
 have hB0 : Fl.sM b ≠ 0 := fun h => hb0' ((Fl.sM_zero b).1 h)
 have hNa := rnum_good a ha fa
 have hNb := rnum_good b hb fb
 have hA := Fl.sM_lt a
 have hB := Fl.sM_lt b
 have hea := Fl.sE_ge a
 have hea2 := Fl.sE_le a fa
 have heb := Fl.sE_ge b
 have heb2 := Fl.sE_le b fb
 have l1 := len53 hA
 have l2 := len53 hB
 have l3 := Fl.len_pos hA0
 have l4 := Fl.len_pos hB0
 have bA := norm126 hA
 have hok := sumCore_ok (Fl.sg a) (Fl.sg b) (Fl.sM a) (Fl.sM b) (Fl.sE a) (Fl.sE b) hA hB hA0 hB0 hea hea2 heb heb2 (by omega)
 obtain ⟨e1, he1⟩ : ∃ e1, e1 = Fl.sE a + (Fl.len (Fl.sM a) : Int) - 126 := ⟨_, rfl⟩
 obtain ⟨A1, hA1⟩ : ∃ A1, A1 = Fl.sM a * 2 ^ (126 - Fl.len (Fl.sM a)) := ⟨_, rfl⟩
 rw [← hA1] at bA
 have hUp : ∀ w, Calls Try.prog 143 #[wdv 0 (Fl.sM a) (Fl.sE a) false, .int .i64 (IntKind.i64.wrap (126 - (Fl.len (Fl.sM a) : Int)))] w fun r w' => r = .returned (wdW A1 e1 false) ∧ ∃ k o o', w' = ((w.alloc o).alloc o').drewN k := by
   intro w
   have := up_s (Fl.sM a) (126 - Fl.len (Fl.sM a)) A1 (Fl.sE a) _ (wrap_sub 126 (Fl.len (Fl.sM a)) l1 (by omega) (by omega)) (by omega) hA1 (by omega) (by omega) (by omega) (by omega) w
   rw [show Fl.sE a - ((126 - Fl.len (Fl.sM a) : Nat) : Int) = e1 by omega] at this
   exact this
 by_cases h1 : e1 ≤ Fl.sE b
 · rw [sumCore_le _ _ _ _ _ _ (by omega), ← he1, ← hA1] at hok ⊢
   obtain ⟨k, hk⟩ : ∃ k : Nat, Fl.sE b - e1 = k := ⟨(Fl.sE b - e1).toNat, by omega⟩
   rw [show (Fl.sE b - e1).toNat = k by omega] at hok ⊢
   obtain ⟨B1, hB1⟩ : ∃ B1, B1 = Fl.sM b * 2 ^ k := ⟨_, rfl⟩
   have bB : B1 < 85070591730234615865843651857942052864 := by
     rw [hB1]; exact lt126 (Fl.lt_len (Fl.sM b)) (by omega)
   have hBc : ∀ w, Calls Try.prog 143 #[wdv 0 (Fl.sM b) (Fl.sE b) false, .int .i64 (Fl.sE b - e1)] w fun r w' => r = .returned (wdW B1 e1 false) ∧ ∃ k o o', w' = ((w.alloc o).alloc o').drewN k := by
     intro w
     have := up_s (Fl.sM b) k B1 (Fl.sE b) _ hk (by omega) hB1 (by omega) (by omega) (by omega) (by omega) w
     rw [show Fl.sE b - (k : Int) = e1 by omega] at this
     exact this
   rw [← hB1] at hok ⊢
   unfold sumFin toS at *
   by_cases hs : (Fl.sg a == Fl.sg b) = true
   · rw [if_pos hs] at hok ⊢
     exact radd_y_L_s b a down (Fl.sg a) (Fl.sg b) 0 0 (Fl.sM a) (Fl.sM b) (Fl.sE a) (Fl.sE b) _ _ (by omega) (by omega) (by omega) (by omega) (by omega) (by omega) hc hb0 ha0 hNb hNa (part_any b hb) (part_any a ha) (wlen_s _ _ (by omega)) (wlen_s _ _ (by omega)) _ _ e1 hUp (by omega) (by omega) (by omega) _ _ e1 hBc hs _ _ (fun w => wplus_any A1 B1 e1 e1 false (by omega) (by omega) (by omega) w) _ (rto_ok _ down _ _ _ hok) w
   · rw [if_neg hs, if_neg Bool.false_ne_true] at hok ⊢
     have hs' : (Fl.sg a == Fl.sg b) = false := by revert hs; cases Fl.sg a <;> cases Fl.sg b <;> decide
     by_cases hlt : A1 < B1
     · rw [if_pos hlt] at hok ⊢
       exact radd_y_L_d0n b a down (Fl.sg a) (Fl.sg b) 0 0 (Fl.sM a) (Fl.sM b) (Fl.sE a) (Fl.sE b) _ _ (by omega) (by omega) (by omega) (by omega) (by omega) (by omega) hc hb0 ha0 hNb hNa (part_any b hb) (part_any a ha) (wlen_s _ _ (by omega)) (wlen_s _ _ (by omega)) _ _ e1 hUp (by omega) (by omega) (by omega) _ _ e1 hBc hs' _ _ (fun w => by have := wless_any A1 B1 e1 e1 false false (by omega) (by omega) w; rw [decide_eq_true hlt] at this; exact this) (fun w => wminus_any B1 A1 e1 e1 false false (by omega) (by omega) w) _ (rto_ok _ down _ _ _ hok) w
     · rw [if_neg hlt] at hok ⊢
       exact radd_y_L_d0 b a down (Fl.sg a) (Fl.sg b) 0 0 (Fl.sM a) (Fl.sM b) (Fl.sE a) (Fl.sE b) _ _ (by omega) (by omega) (by omega) (by omega) (by omega) (by omega) hc hb0 ha0 hNb hNa (part_any b hb) (part_any a ha) (wlen_s _ _ (by omega)) (wlen_s _ _ (by omega)) _ _ e1 hUp (by omega) (by omega) (by omega) _ _ e1 hBc hs' _ _ (fun w => by have := wless_any A1 B1 e1 e1 false false (by omega) (by omega) w; rw [decide_eq_false hlt] at this; exact this) (fun w => wminus_any A1 B1 e1 e1 false false (by omega) (by omega) w) _ (rto_ok _ down _ _ _ hok) w
 · rw [sumCore_gt _ _ _ _ _ _ (by omega), ← he1, ← hA1] at hok ⊢
   obtain ⟨k, hk⟩ : ∃ k : Nat, e1 - Fl.sE b = k := ⟨(e1 - Fl.sE b).toNat, by omega⟩
   rw [show (e1 - Fl.sE b).toNat = k by omega] at hok ⊢
   obtain ⟨B1, hB1⟩ : ∃ B1, B1 = Fl.sM b / 2 ^ k := ⟨_, rfl⟩
   have bB : B1 < 9007199254740992 := by
     rw [hB1]; exact Nat.lt_of_le_of_lt (Nat.div_le_self _ _) hB
   have hge := top126 hA0 (by omega)
   rw [← hA1] at hge
   obtain ⟨mb, hmb⟩ : ∃ x, x = (Fl.sM b % 2 ^ k != 0) := ⟨_, rfl⟩
   have hBc : ∀ w, Calls Try.prog 148 #[wdv 0 (Fl.sM b) (Fl.sE b) false, .int .i64 (e1 - Fl.sE b)] w fun r w' => r = .returned (wdW B1 e1 mb) ∧ ∃ k o o', w' = ((w.alloc o).alloc o').drewN k := by
     intro w
     have := down_any (Fl.sM b) (Fl.sE b) false k (by omega) (by omega) (by omega) (by omega) (by omega) w
     rw [wdW_small (Fl.sM b) _ _ (by omega), ← hB1, Bool.false_or, ← hmb, show Fl.sE b + (k : Int) = e1 by omega] at this
     rw [hk]
     exact this
   rw [← hB1, ← hmb] at hok ⊢
   unfold sumFin toS at *
   by_cases hs : (Fl.sg a == Fl.sg b) = true
   · rw [if_pos hs] at hok ⊢
     exact radd_y_R_s b a down (Fl.sg a) (Fl.sg b) 0 0 (Fl.sM a) (Fl.sM b) (Fl.sE a) (Fl.sE b) _ _ (by omega) (by omega) (by omega) (by omega) (by omega) (by omega) hc hb0 ha0 hNb hNa (part_any b hb) (part_any a ha) (wlen_s _ _ (by omega)) (wlen_s _ _ (by omega)) _ _ e1 hUp (by omega) (by omega) (by omega) _ _ e1 mb hBc hs _ _ (fun w => wplus_any A1 B1 e1 e1 mb (by omega) (by omega) (by omega) w) _ (rto_ok _ down _ _ _ hok) w
   · rw [if_neg hs] at hok ⊢
     have hs' : (Fl.sg a == Fl.sg b) = false := by revert hs; cases Fl.sg a <;> cases Fl.sg b <;> decide
     clear hmb
     cases mb
     · rw [if_neg Bool.false_ne_true, if_neg (by omega : ¬ A1 < B1)] at hok ⊢
       exact radd_y_R_d0 b a down (Fl.sg a) (Fl.sg b) 0 0 (Fl.sM a) (Fl.sM b) (Fl.sE a) (Fl.sE b) _ _ (by omega) (by omega) (by omega) (by omega) (by omega) (by omega) hc hb0 ha0 hNb hNa (part_any b hb) (part_any a ha) (wlen_s _ _ (by omega)) (wlen_s _ _ (by omega)) _ _ e1 hUp (by omega) (by omega) (by omega) _ _ e1 hBc hs' _ _ (fun w => by have := wless_any A1 B1 e1 e1 false false (by omega) (by omega) w; rw [decide_eq_false (by omega : ¬ A1 < B1)] at this; exact this) (fun w => wminus_any A1 B1 e1 e1 false false (by omega) (by omega) w) _ (rto_ok _ down _ _ _ hok) w
     · rw [if_pos rfl] at hok ⊢
       exact radd_y_R_d1 b a down (Fl.sg a) (Fl.sg b) 0 0 (Fl.sM a) (Fl.sM b) (Fl.sE a) (Fl.sE b) _ _ (by omega) (by omega) (by omega) (by omega) (by omega) (by omega) hc hb0 ha0 hNb hNa (part_any b hb) (part_any a ha) (wlen_s _ _ (by omega)) (wlen_s _ _ (by omega)) _ _ e1 hUp (by omega) (by omega) (by omega) _ _ e1 hBc hs' _ _ _ _ (fun w => wminus_any A1 B1 e1 e1 false true (by omega) (by omega) w) (fun w => wminus_one (A1 - B1) e1 (by omega) (by omega) w) _ (rto_ok _ down _ _ _ hok) w
end Go.Proofs.Ytnljfcebmgifdaa
namespace Go.Proofs.Ytnljfcebmgifdaa
open Go.RowKit Ieee
theorem below_drewN0 (w : World) (k : Nat) : Below w.heap.size w (w.drewN k) := below_drewN (Below.refl _ _) k
/-- What Add tells of any two. -/
def addR (a b : Nat) (down : Bool) : Nat × Nat := if (Fl.fin a && Fl.fin b) = true then (toS down (sumOf (Fl.sg a) (Fl.sg b) (Fl.sM a) (Fl.sM b) (Fl.sE a) (Fl.sE b)), 0) else (0, 10)
def mulR (a b : Nat) (down : Bool) : Nat × Nat := if (Fl.fin a && Fl.fin b) = true then (mulV a b down, 0) else (0, 10)
def divR (a b : Nat) (down : Bool) : Nat × Nat := if (Fl.fin a && Fl.fin b) = true then (if Fl.mg b = 0 then (0, 11) else (divV a b down, 0)) else (0, 10)
def pV (x : Nat × Nat) : Value := numV x.1 x.2
theorem add_any (a b : Nat) (down : Bool) (ha : a < 18446744073709551616) (hb : b < 18446744073709551616) (w : World) :
   Calls Try.prog 106 #[.float .f64 a, .float .f64 b, .bool down] w fun r w' => r = .returned (pV (addR a b down)) ∧ Below w.heap.size w w' := by
 unfold addR pV
 by_cases hf : (Fl.fin a && Fl.fin b) = true
 · rw [if_pos hf]; exact add_good a b down ha hb hf w
 · rw [if_neg hf]; exact add_bad a b down ha hb (by revert hf; cases (Fl.fin a && Fl.fin b) <;> simp) w
theorem mul_any (a b : Nat) (down : Bool) (ha : a < 18446744073709551616) (hb : b < 18446744073709551616) (w : World) :
   Calls Try.prog 115 #[.float .f64 a, .float .f64 b, .bool down] w fun r w' => r = .returned (pV (mulR a b down)) ∧ Below w.heap.size w w' := by
 unfold mulR pV
 by_cases hf : (Fl.fin a && Fl.fin b) = true
 · rw [if_pos hf]; exact mul_good a b down ha hb hf w
 · rw [if_neg hf]; exact mul_bad a b down ha hb (by revert hf; cases (Fl.fin a && Fl.fin b) <;> simp) w
section
variable (F : FuncId)
end
theorem radd_bad (a b : Nat) (down : Bool) (ha : a < 18446744073709551616) (hb : b < 18446744073709551616) (hf : (Fl.fin a && Fl.fin b) = false) (w : World) :
   Calls Try.prog 113 #[.float .f64 a, .float .f64 b, .bool down] w fun r w' => r = .returned (numV 0 10) ∧ ∃ k, w' = w.drewN k := by
 have HX := Lib.hid (fun w => rnum_any a ha w)
 have HY := Lib.hid (fun w => rnum_any b hb w)
 generalize Fl.fin a = x at *
 generalize Fl.fin b = y at *
 cases x
 · go_enter Try.func113, Try.ntmps113
   go_wp2_with fail
   refine (HX.out _).mono ?_
   rintro e w' ⟨rfl, k, rfl⟩
   go_wp2_with fail
   go_ret2
   exact ⟨rfl, _, rfl⟩
 · obtain rfl : y = false := by simpa using hf
   go_enter Try.func113, Try.ntmps113
   go_wp2_with fail
   refine (HX.out _).mono ?_
   rintro e w' ⟨rfl, k, rfl⟩
   go_wp2_with fail
   refine (HY.out _).mono ?_
   rintro e w' ⟨rfl, k', rfl⟩
   go_wp2_with fail
   go_ret2
   exact ⟨rfl, _, rfl⟩
theorem radd_y0 (a b : Nat) (down : Bool) (ha : a < 18446744073709551616) (hb : b < 18446744073709551616) (fa : Fl.fin a = true) (fb : Fl.fin b = true) (h0 : Fl.mg b = 0) (w : World) :
   Calls Try.prog 113 #[.float .f64 a, .float .f64 b, .bool down] w fun r w' => r = .returned (numV (Fl.pl a) 0) ∧ w = w' := by
 have HX := Lib.hid (fun w => rnum_good a ha fa w)
 have HY := Lib.hid (fun w => rnum_good b hb fb w)
 have HZ := Lib.hid (fun w => zeroed_any a ha (Fl.nan_of_fin fa) w)
 have E := eq0_of b hb fb
 rw [decide_eq_true h0] at E
 generalize Fl.pl a = p at *
 clear fa fb h0
 go_enter Try.func113, Try.ntmps113
 go_wp2_with fail
 refine (HX.out _).mono ?_
 rintro e w' ⟨rfl, rfl⟩
 go_wp2_with fail
 refine (HY.out _).mono ?_
 rintro e w' ⟨rfl, rfl⟩
 go_wp2_with fail
 refine (HZ.out _).mono ?_
 rintro e w' ⟨rfl, rfl⟩
 go_wp2_with fail
 go_ret2
 exact ⟨rfl, rfl⟩
theorem radd_x0 (a b : Nat) (down : Bool) (ha : a < 18446744073709551616) (hb : b < 18446744073709551616) (fa : Fl.fin a = true) (fb : Fl.fin b = true) (h0 : Fl.mg b ≠ 0) (ha0 : Fl.mg a = 0) (w : World) :
   Calls Try.prog 113 #[.float .f64 a, .float .f64 b, .bool down] w fun r w' => r = .returned (numV b 0) ∧ w = w' := by
 have HX := Lib.hid (fun w => rnum_good a ha fa w)
 have HY := Lib.hid (fun w => rnum_good b hb fb w)
 have E := eq0_of b hb fb
 rw [decide_eq_false h0] at E
 have E2 := eq0_of a ha fa
 rw [decide_eq_true ha0] at E2
 clear fa fb h0 ha0
 go_enter Try.func113, Try.ntmps113
 go_wp2_with fail
 refine (HX.out _).mono ?_
 rintro e w' ⟨rfl, rfl⟩
 go_wp2_with fail
 refine (HY.out _).mono ?_
 rintro e w' ⟨rfl, rfl⟩
 go_wp2_with fail
 go_ret2
 exact ⟨rfl, rfl⟩
theorem radd_any (a b : Nat) (down : Bool) (ha : a < 18446744073709551616) (hb : b < 18446744073709551616) (w : World) :
   Calls Try.prog 113 #[.float .f64 a, .float .f64 b, .bool down] w fun r w' => r = .returned (pV (addR a b down)) ∧ Below w.heap.size w w' := by
 unfold addR pV
 by_cases hf : (Fl.fin a && Fl.fin b) = true
 · rw [if_pos hf]
   have h2 : Fl.fin a = true ∧ Fl.fin b = true := by revert hf; cases Fl.fin a <;> cases Fl.fin b <;> simp
   by_cases h0 : Fl.mg b = 0
   · refine (radd_y0 a b down ha hb h2.1 h2.2 h0 w).mono ?_
     rintro r w' ⟨rfl, rfl⟩
     have hv : toS down (sumOf (Fl.sg a) (Fl.sg b) (Fl.sM a) (Fl.sM b) (Fl.sE a) (Fl.sE b)) = Fl.pl a := by
       unfold sumOf
       by_cases ha0 : Fl.sM a = 0
       · rw [if_pos ha0, pl_zero ha ((Fl.sM_zero a).1 ha0)]
         unfold toS
         dsimp only
         rw [toVal_self down b hb h2.2, pl_zero hb h0]
       · rw [if_neg ha0, if_pos ((Fl.sM_zero b).2 h0)]
         exact toVal_self down a ha h2.1
     exact ⟨by rw [hv], Below.refl _ _⟩
   · by_cases ha0 : Fl.mg a = 0
     · refine (radd_x0 a b down ha hb h2.1 h2.2 h0 ha0 w).mono ?_
       rintro r w' ⟨rfl, rfl⟩
       have hv : toS down (sumOf (Fl.sg a) (Fl.sg b) (Fl.sM a) (Fl.sM b) (Fl.sE a) (Fl.sE b)) = b := by
         unfold sumOf
         rw [if_pos ((Fl.sM_zero a).2 ha0)]
         exact (toVal_self down b hb h2.2).trans (pl_nonzero h0)
       exact ⟨by rw [hv], Below.refl _ _⟩
     · have hs : sumOf (Fl.sg a) (Fl.sg b) (Fl.sM a) (Fl.sM b) (Fl.sE a) (Fl.sE b) = if Fl.sE a + (Fl.len (Fl.sM a) : Int) < Fl.sE b + (Fl.len (Fl.sM b) : Int) then sumCore (Fl.sg b) (Fl.sg a) (Fl.sM b) (Fl.sM a) (Fl.sE b) (Fl.sE a) else sumCore (Fl.sg a) (Fl.sg b) (Fl.sM a) (Fl.sM b) (Fl.sE a) (Fl.sE b) := by
         unfold sumOf
         rw [if_neg (fun h => ha0 ((Fl.sM_zero a).1 h)), if_neg (fun h => h0 ((Fl.sM_zero b).1 h))]
       rw [hs]
       by_cases hc : Fl.sE a + (Fl.len (Fl.sM a) : Int) < Fl.sE b + (Fl.len (Fl.sM b) : Int)
       · rw [if_pos hc]
         exact rcore_y b a down hb ha h2.2 h2.1 h0 ha0 hc w
       · rw [if_neg hc]
         exact rcore_n a b down ha hb h2.1 h2.2 ha0 h0 (by omega) w
 · rw [if_neg hf]
   refine (radd_bad a b down ha hb (by revert hf; cases (Fl.fin a && Fl.fin b) <;> simp) w).mono ?_
   rintro r w' ⟨rfl, k, rfl⟩
   exact ⟨rfl, below_drewN0 w k⟩
theorem addR_comm (a b : Nat) (down : Bool) : addR a b down = addR b a down := by
 unfold addR
 rw [Bool.and_comm, sumOf_comm down _ _ _ _ _ _ (Fl.sM_lt a) (Fl.sM_lt b)]
end Go.Proofs.Ytnljfcebmgifdaa
namespace Go.Proofs.Ytnljfcebmgifdaa
open Go.RowKit Ieee
noncomputable def rootOf (N : Nat) : Nat := Classical.choose (root_ex N)
theorem rootOf_is (N : Nat) : IsRoot N (rootOf N) := Classical.choose_spec (root_ex N)
/-- What Sqrt tells of any. -/
noncomputable def sqrtR (a : Nat) (down : Bool) : Nat × Nat := if Fl.fin a = true then (if Fl.Z a < 0 then (0, 12) else if Fl.mg a = 0 then (0, 0) else (rootV a (rootOf (rM a)) down, 0)) else (0, 10)
theorem below_step {w w1 w2 : World} (h : Below w.heap.size w w1) (k : Below w1.heap.size w1 w2) : Below w.heap.size w w2 := h.trans (k.mono h.size)
end Go.Proofs.Ytnljfcebmgifdaa
