/- What Div and Sqrt of both sides compute. -/
import Derived.Test.YtdgaaceebghcpaaZWo0
import Derived.Test.YtdgaaceebghcpaaZWo1
import Derived.Test.YtdgaaceebghcpaaZVi
import Derived.Test.YtdgaaceebghcpaaZVh
import Derived.Test.YtdgaaceebghcpaaZWj
import Derived.Test.YtdgaaceebghcpaaZPb
set_option linter.unusedVariables false
set_option linter.unusedSimpArgs false
namespace Go.Proofs.Ytdgaaceebghcpaa
open Go.RowKit Ieee

theorem length_s (neg : Bool) (A : Nat) (e : Int) (h : A < 18446744073709551616) (w : World) : Calls Try.prog 134 #[exv neg 0 A e false] w fun r w' => r = .returned (.int .i64 (Fl.len A : Int)) ∧ ∃ o, w' = w.alloc o := by
  have := length_any neg 0 A e false (by omega) h w
  rw [Nat.zero_mul, Nat.zero_add] at this
  exact this
theorem left_s (neg : Bool) (A n m : Nat) (e : Int) (x : Int) (hx : x = (n : Int)) (hA : A < 18446744073709551616) (hm : m = A * 2 ^ n) (hW : m < 340282366920938463463374607431768211456) (hn : n ≤ 128) (he : -100000 ≤ e) (he2 : e ≤ 100000) (w : World) :
    Calls Try.prog 133 #[exv neg 0 A e false, .int .i64 x] w fun r w' => r = .returned (exW neg m (e - n) false) ∧ ∃ k o o', w' = ((w.alloc o).alloc o').drewN k := by
  subst hx hm
  have := left_any neg A e false n hW hn he he2 w
  rw [exW_small neg A e false hA] at this
  exact this
theorem wrap_sub (c L : Nat) (hL : L ≤ 53) (hc : 53 ≤ c) (hc2 : c ≤ 200) : IntKind.i64.wrap ((c : Int) - (L : Int)) = ((c - L : Nat) : Int) := by
  rw [IntKind.wrap_i64]; omega
theorem words_join {x y W : Nat} (h : W = x * 18446744073709551616 + y) (hy : y < 18446744073709551616) : W / 18446744073709551616 = x ∧ W % 18446744073709551616 = y := by omega

theorem eq0_of (b : Nat) (h : b < 18446744073709551616) (hf : Fl.fin b = true) : (FloatKind.f64.format.order b 0 == some .eq) = decide (Fl.mg b = 0) := pl_of b h (Fl.nan_of_fin hf)

theorem div_good (a b : Nat) (down : Bool) (ha : a < 18446744073709551616) (hb : b < 18446744073709551616) (fa : Fl.fin a = true) (fb : Fl.fin b = true) (hb0 : Fl.mg b ≠ 0) (w : World) :
    Calls Try.prog 107 #[.float .f64 a, .float .f64 b, .bool down] w fun r w' => r = .returned (numV (divV a b down) 0) ∧ Below w.heap.size w w' := by
  have hEb := eq0_of b hb fb
  rw [decide_eq_false hb0] at hEb
  have hsb : Fl.sM b ≠ 0 := fun h => hb0 ((Fl.sM_zero b).1 h)
  have a1 := Fl.sM_lt a
  have b1 := Fl.sM_lt b
  have la := len53 a1
  have lb := len53 b1
  have ea1 := Fl.sE_ge a
  have ea2 := Fl.sE_le a fa
  have eb1 := Fl.sE_ge b
  have eb2 := Fl.sE_le b fb
  have x1 := qX_lt a
  have n1 := qX_lt b
  have n2 := qX_ge b hsb
  have hT : ∀ w, Calls Try.prog 131 #[.float .f64 a, .float .f64 b] w fun e w' => e = .returned (.bool true) ∧ w = w' := by
    intro w
    have := two_any a b ha hb w
    rw [fa, fb] at this
    exact this
  have hX : qX a * 18446744073709551616 = Fl.sM a * 2 ^ (117 - Fl.len (Fl.sM a)) := by
    unfold qX
    rw [show (18446744073709551616 : Nat) = 2 ^ 64 by decide, Nat.mul_assoc, ← Nat.pow_add, show 53 - Fl.len (Fl.sM a) + 64 = 117 - Fl.len (Fl.sM a) by omega]
  have hLX : ∀ w, Calls Try.prog 133 #[exv (Fl.sg a) 0 (Fl.sM a) (Fl.sE a) false, .int .i64 (IntKind.i64.wrap (117 - (Fl.len (Fl.sM a) : Int)))] w fun r w' => r = .returned (exv (Fl.sg a) (qX a) 0 (qE a - 64) false) ∧ ∃ k o o', w' = ((w.alloc o).alloc o').drewN k := by
    intro w
    have := left_s (Fl.sg a) (Fl.sM a) (117 - Fl.len (Fl.sM a)) (qX a * 18446744073709551616) (Fl.sE a) _ (wrap_sub 117 (Fl.len (Fl.sM a)) la (by omega) (by omega)) (by omega) hX (by omega) (by omega) (by omega) (by omega) w
    have e1 : exW (Fl.sg a) (qX a * 18446744073709551616) (Fl.sE a - ((117 - Fl.len (Fl.sM a) : Nat) : Int)) false = exv (Fl.sg a) (qX a) 0 (qE a - 64) false := by
      unfold exW
      rw [Nat.mul_div_cancel _ (by omega), Nat.mul_mod_left, show Fl.sE a - ((117 - Fl.len (Fl.sM a) : Nat) : Int) = qE a - 64 by unfold qE; omega]
    rw [e1] at this
    exact this
  have hLY : ∀ w, Calls Try.prog 133 #[exv (Fl.sg b) 0 (Fl.sM b) (Fl.sE b) false, .int .i64 (IntKind.i64.wrap (53 - (Fl.len (Fl.sM b) : Int)))] w fun r w' => r = .returned (exv (Fl.sg b) 0 (qX b) (qE b) false) ∧ ∃ k o o', w' = ((w.alloc o).alloc o').drewN k := by
    intro w
    have := left_s (Fl.sg b) (Fl.sM b) (53 - Fl.len (Fl.sM b)) (qX b) (Fl.sE b) _ (wrap_sub 53 (Fl.len (Fl.sM b)) lb (by omega) (by omega)) (by omega) rfl (by omega) (by omega) (by omega) (by omega) w
    rw [exW_small _ (qX b) _ _ (by omega)] at this
    exact this
  have hq1 : qX a / qX b < 18446744073709551616 := Nat.lt_of_le_of_lt (Nat.div_le_self _ _) (by omega)
  have hr1 : qX a % qX b < qX b := Nat.mod_lt _ (by omega)
  have hD1 := fun w => div64_small (qX a) (qX b) (by omega) (by omega) (by omega) w
  have hD2 := fun w => div64_any (qX a % qX b) (qX b) n2 n1 hr1 w
  have hW : divW a b = qX a / qX b * 18446744073709551616 + qX a % qX b * 18446744073709551616 / qX b ∧ qX a * 18446744073709551616 % qX b = qX a % qX b * 18446744073709551616 % qX b ∧ qX a % qX b * 18446744073709551616 / qX b < 18446744073709551616 := by
    have e1 := Nat.div_add_mod (qX a) (qX b)
    have e2 : qX a * 18446744073709551616 = qX b * (qX a / qX b * 18446744073709551616) + qX a % qX b * 18446744073709551616 := by
      rw [← Nat.mul_assoc, ← Nat.add_mul, e1]
    unfold divW
    refine ⟨?_, ?_, ?_⟩
    · rw [e2, Nat.mul_add_div (by omega)]
    · rw [e2, Nat.mul_add_mod]
    · rw [Nat.div_lt_iff_lt_mul (by omega), Nat.mul_comm 18446744073709551616]
      exact Nat.mul_lt_mul_of_pos_right hr1 (by omega)
  have hO : ∀ w, Calls Try.prog 136 #[exv (Fl.sg a != Fl.sg b) (qX a / qX b) (qX a % qX b * 18446744073709551616 / qX b) (qE a - 64 - qE b) (((qX a % qX b * 18446744073709551616 % qX b : Nat) : Int) != 0), .bool down] w fun r w' => r = .returned (.float .f64 (divV a b down)) ∧ Below w.heap.size w w' := by
    intro w
    have := to_ok (Fl.sg a != Fl.sg b) down _ _ _ (div_ok a b fa fb hsb) w
    have e1 : exW (Fl.sg a != Fl.sg b) (divW a b) (divE a b) (divM a b) = exv (Fl.sg a != Fl.sg b) (qX a / qX b) (qX a % qX b * 18446744073709551616 / qX b) (qE a - 64 - qE b) (((qX a % qX b * 18446744073709551616 % qX b : Nat) : Int) != 0) := by
      obtain ⟨j1, j2⟩ := words_join hW.1 hW.2.2
      unfold exW divM divE
      rw [hW.2.1, bne_zero, j1, j2]
    rw [e1] at this
    exact this
  have e1 := qE_ge a
  have e2 := qE_le a fa
  have e3 := qE_ge b
  have e4 := qE_le b fb
  exact div_walk a b down (Fl.sg a) (Fl.sg b) (Fl.sM a) (Fl.sM b) (Fl.sE a) (Fl.sE b) hEb hT (split_any a ha) (split_any b hb) _ _ la lb (length_s _ _ _ (by omega)) (length_s _ _ _ (by omega)) _ _ _ _ _ _ hLX hLY (by omega) (by omega) (by omega) (by omega) _ _ _ _ hD1 hD2 _ hO w

theorem pos_cmp (a : Nat) (ha : a < 18446744073709551616) (fa : Fl.fin a = true) (hp : 0 < Fl.Z a) :
    (FloatKind.f64.format.order a 0 == some .lt) = false ∧ (FloatKind.f64.format.order a 0 == some .eq) = false ∧ Fl.sM a ≠ 0 := by
  have hn := Fl.nan_of_fin fa
  have z0 : Fl.Z 0 = 0 := by decide
  have hm : Fl.mg a ≠ 0 := by
    intro h
    unfold Fl.Z at hp
    rw [h, Fl.rv_zero] at hp
    revert hp
    cases Fl.sg a <;> simp
  refine ⟨?_, ?_, fun h => hm ((Fl.sM_zero a).1 h)⟩
  · refine (Fl.lt_eq (a := a) (b := 0) ha (by decide) hn (by decide)).trans ?_
    rw [z0]
    exact decide_eq_false (by omega)
  · rw [eq0_of a ha fa]
    exact decide_eq_false hm

theorem sqrt_good (a R : Nat) (down : Bool) (ha : a < 18446744073709551616) (fa : Fl.fin a = true) (hp : 0 < Fl.Z a) (hR : IsRoot (rM a) R) (w : World) :
    Calls Try.prog 123 #[.float .f64 a, .bool down] w fun r w' => r = .returned (numV (rootV a R down) 0) ∧ Below w.heap.size w w' := by
  obtain ⟨h1, h2, hs⟩ := pos_cmp a ha fa hp
  have a1 := Fl.sM_lt a
  have la := len53 a1
  have ea1 := Fl.sE_ge a
  have ea2 := Fl.sE_le a fa
  have e1 := rE_ge a
  have e2 := rE_le a fa
  have x1 := rX_lt a
  have hT : ∀ w, Calls Try.prog 113 #[.float .f64 a] w fun e w' => e = .returned (.bool true) ∧ w = w' := by
    intro w
    have := number_any a ha w
    rw [fa] at this
    exact this
  have hLX : ∀ w, Calls Try.prog 133 #[exv (Fl.sg a) 0 (Fl.sM a) (Fl.sE a) false, .int .i64 (IntKind.i64.wrap (115 - (Fl.len (Fl.sM a) : Int)))] w fun r w' => r = .returned (exv (Fl.sg a) (rX a / 18446744073709551616) (rX a % 18446744073709551616) (rE a) false) ∧ ∃ k o o', w' = ((w.alloc o).alloc o').drewN k :=
    left_s (Fl.sg a) (Fl.sM a) (115 - Fl.len (Fl.sM a)) (rX a) (Fl.sE a) _ (wrap_sub 115 (Fl.len (Fl.sM a)) la (by omega) (by omega)) (by omega) rfl (by omega) (by omega) (by omega) (by omega)
  obtain ⟨hok, hR2⟩ := root_ok a R fa hs hR.1 hR.2
  have hO : ∀ w, Calls Try.prog 136 #[exv false 0 R (Int.tdiv (rP a) 2) (R * R != rM a), .bool down] w fun r w' => r = .returned (.float .f64 (rootV a R down)) ∧ Below w.heap.size w w' := by
    intro w
    have := to_ok false down _ _ _ hok w
    rw [exW_small false R _ _ (by omega)] at this
    exact this
  have hRt := root_any (rM a) R (rM_lt a) hR
  by_cases ho : rOdd a = true
  · have hM : rM a = rX a * 2 := by unfold rM; rw [if_pos ho]
    have hP : rP a = rE a - 1 := by unfold rP; rw [if_pos ho]
    have hL1 : ∀ w, Calls Try.prog 133 #[exv (Fl.sg a) (rX a / 18446744073709551616) (rX a % 18446744073709551616) (rE a) false, .int .i64 1] w fun r w' => r = .returned (exv (Fl.sg a) (rM a / 18446744073709551616) (rM a % 18446744073709551616) (rP a) false) ∧ ∃ k o o', w' = ((w.alloc o).alloc o').drewN k := by
      intro w
      rw [hM, hP]
      exact left_any (Fl.sg a) (rX a) (rE a) false 1 (by omega) (by omega) (by omega) (by omega) w
    exact sqrt_walk_odd a down (Fl.sg a) (Fl.sM a) (Fl.sE a) h1 h2 hT (split_any a ha) _ la (length_s _ _ _ (by omega)) _ _ _ hLX (by omega) (by omega) ho _ _ _ (by omega) (by omega) hL1 R _ hRt _ hO w
  · have hM : rM a = rX a := by unfold rM; rw [if_neg ho]
    have hP : rP a = rE a := by unfold rP; rw [if_neg ho]
    have ho' : (Int.tmod (rE a) 2 != 0) = false := by
      have : rOdd a = false := by revert ho; cases rOdd a <;> simp
      exact this
    rw [hM] at hRt
    rw [hP] at hO
    exact sqrt_walk_even a down (Fl.sg a) (Fl.sM a) (Fl.sE a) h1 h2 hT (split_any a ha) _ la (length_s _ _ _ (by omega)) _ _ _ hLX (by omega) (by omega) ho' R _ hRt _ (by rw [hM] at hO; exact hO) w

end Go.Proofs.Ytdgaaceebghcpaa

namespace Go.Proofs.Ytdgaaceebghcpaa
open Go.RowKit Ieee

end Go.Proofs.Ytdgaaceebghcpaa

namespace Go.Proofs.Ytdgaaceebghcpaa
open Go.RowKit Ieee

/-- What Add tells of any two. -/
def addR (a b : Nat) (down : Bool) : Nat × Nat := if (Fl.fin a && Fl.fin b) = true then (toS down (sumOf (Fl.sg a) (Fl.sg b) (Fl.sM a) (Fl.sM b) (Fl.sE a) (Fl.sE b)), 0) else (0, 10)
def mulR (a b : Nat) (down : Bool) : Nat × Nat := if (Fl.fin a && Fl.fin b) = true then (mulV a b down, 0) else (0, 10)
def divR (a b : Nat) (down : Bool) : Nat × Nat := if (Fl.fin a && Fl.fin b) = true then (if Fl.mg b = 0 then (0, 11) else (divV a b down, 0)) else (0, 10)
def pV (x : Nat × Nat) : Value := numV x.1 x.2

theorem add_any (a b : Nat) (down : Bool) (ha : a < 18446744073709551616) (hb : b < 18446744073709551616) (w : World) :
    Calls Try.prog 111 #[.float .f64 a, .float .f64 b, .bool down] w fun r w' => r = .returned (pV (addR a b down)) ∧ Below w.heap.size w w' := by
  unfold addR pV
  by_cases hf : (Fl.fin a && Fl.fin b) = true
  · rw [if_pos hf]; exact add_good a b down ha hb hf w
  · rw [if_neg hf]; exact add_bad a b down ha hb (by revert hf; cases (Fl.fin a && Fl.fin b) <;> simp) w
theorem mul_any (a b : Nat) (down : Bool) (ha : a < 18446744073709551616) (hb : b < 18446744073709551616) (w : World) :
    Calls Try.prog 114 #[.float .f64 a, .float .f64 b, .bool down] w fun r w' => r = .returned (pV (mulR a b down)) ∧ Below w.heap.size w w' := by
  unfold mulR pV
  by_cases hf : (Fl.fin a && Fl.fin b) = true
  · rw [if_pos hf]; exact mul_good a b down ha hb hf w
  · rw [if_neg hf]; exact mul_bad a b down ha hb (by revert hf; cases (Fl.fin a && Fl.fin b) <;> simp) w
theorem div_bad (a b : Nat) (down : Bool) (ha : a < 18446744073709551616) (hb : b < 18446744073709551616) (hf : (Fl.fin a && Fl.fin b) = false) (w : World) :
    Calls Try.prog 107 #[.float .f64 a, .float .f64 b, .bool down] w fun r w' => r = .returned (numV 0 10) ∧ Below w.heap.size w w' := by
  have HT := Lib.hid (fun w => two_any a b ha hb w)
  rw [hf] at HT
  clear hf
  go_enter Try.func107, Try.ntmps107
  go_wp2_with fail
  refine (HT.out _).mono ?_
  rintro e w' ⟨rfl, rfl⟩
  go_wp2_with fail
  go_ret2
  exact ⟨rfl, Below.refl _ _⟩
theorem div_by0 (a b : Nat) (down : Bool) (ha : a < 18446744073709551616) (hb : b < 18446744073709551616) (hf : (Fl.fin a && Fl.fin b) = true) (h0 : Fl.mg b = 0) (w : World) :
    Calls Try.prog 107 #[.float .f64 a, .float .f64 b, .bool down] w fun r w' => r = .returned (numV 0 11) ∧ Below w.heap.size w w' := by
  have HT := Lib.hid (fun w => two_any a b ha hb w)
  rw [hf] at HT
  have fb : Fl.fin b = true := by revert hf; cases Fl.fin b <;> simp
  have E := eq0_of b hb fb
  rw [decide_eq_true h0] at E
  clear hf fb h0
  go_enter Try.func107, Try.ntmps107
  go_wp2_with fail
  refine (HT.out _).mono ?_
  rintro e w' ⟨rfl, rfl⟩
  go_wp2_with fail
  go_ret2
  exact ⟨rfl, Below.refl _ _⟩
theorem div_any (a b : Nat) (down : Bool) (ha : a < 18446744073709551616) (hb : b < 18446744073709551616) (w : World) :
    Calls Try.prog 107 #[.float .f64 a, .float .f64 b, .bool down] w fun r w' => r = .returned (pV (divR a b down)) ∧ Below w.heap.size w w' := by
  unfold divR pV
  by_cases hf : (Fl.fin a && Fl.fin b) = true
  · rw [if_pos hf]
    have h2 : Fl.fin a = true ∧ Fl.fin b = true := by revert hf; cases Fl.fin a <;> cases Fl.fin b <;> simp
    by_cases h0 : Fl.mg b = 0
    · rw [if_pos h0]; exact div_by0 a b down ha hb hf h0 w
    · rw [if_neg h0]; exact div_good a b down ha hb h2.1 h2.2 h0 w
  · rw [if_neg hf]; exact div_bad a b down ha hb (by revert hf; cases (Fl.fin a && Fl.fin b) <;> simp) w

/-! ### the document's other ways -/
section
variable (F : FuncId)
end
theorem addR_comm (a b : Nat) (down : Bool) : addR a b down = addR b a down := by
  unfold addR
  rw [Bool.and_comm, sumOf_comm down _ _ _ _ _ _ (Fl.sM_lt a) (Fl.sM_lt b)]
end Go.Proofs.Ytdgaaceebghcpaa

namespace Go.Proofs.Ytdgaaceebghcpaa
open Go.RowKit Ieee

noncomputable def rootOf (N : Nat) : Nat := Classical.choose (root_ex N)
theorem rootOf_is (N : Nat) : IsRoot N (rootOf N) := Classical.choose_spec (root_ex N)
/-- What Sqrt tells of any. -/
noncomputable def sqrtR (a : Nat) (down : Bool) : Nat × Nat := if Fl.fin a = true then (if Fl.Z a < 0 then (0, 12) else if Fl.mg a = 0 then (0, 0) else (rootV a (rootOf (rM a)) down, 0)) else (0, 10)

theorem Z_lt0 (a : Nat) (ha : a < 18446744073709551616) (fa : Fl.fin a = true) : (FloatKind.f64.format.order a 0 == some .lt) = decide (Fl.Z a < 0) := by
  have z0 : Fl.Z 0 = 0 := by decide
  refine (Fl.lt_eq (a := a) (b := 0) ha (by decide) (Fl.nan_of_fin fa) (by decide)).trans ?_
  rw [z0]
theorem Z_pos {a : Nat} (h1 : ¬ Fl.Z a < 0) (h2 : Fl.mg a ≠ 0) : 0 < Fl.Z a := by
  have := Fl.rv_pos (r := Fl.mg a) (by omega)
  unfold Fl.Z at h1 ⊢
  revert h1
  cases Fl.sg a
  · simp; omega
  · simp; omega

theorem sqrt_any (a : Nat) (down : Bool) (ha : a < 18446744073709551616) (w : World) :
    Calls Try.prog 123 #[.float .f64 a, .bool down] w fun r w' => r = .returned (pV (sqrtR a down)) ∧ Below w.heap.size w w' := by
  unfold sqrtR pV
  have HT := Lib.hid (fun w => number_any a ha w)
  by_cases hf : Fl.fin a = true
  · rw [if_pos hf]
    by_cases h1 : Fl.Z a < 0
    · rw [if_pos h1]
      have E := Z_lt0 a ha hf
      rw [decide_eq_true h1] at E
      rw [hf] at HT
      clear hf h1
      go_enter Try.func123, Try.ntmps123
      go_wp2_with fail
      refine (HT.out _).mono ?_
      rintro e w' ⟨rfl, rfl⟩
      go_wp2_with fail
      go_ret2
      exact ⟨rfl, Below.refl _ _⟩
    · rw [if_neg h1]
      by_cases h2 : Fl.mg a = 0
      · rw [if_pos h2]
        have E := Z_lt0 a ha hf
        rw [decide_eq_false h1] at E
        have E2 := eq0_of a ha hf
        rw [decide_eq_true h2] at E2
        rw [hf] at HT
        clear hf h1 h2
        go_enter Try.func123, Try.ntmps123
        go_wp2_with fail
        refine (HT.out _).mono ?_
        rintro e w' ⟨rfl, rfl⟩
        go_wp2_with fail
        go_ret2
        exact ⟨rfl, Below.refl _ _⟩
      · rw [if_neg h2]
        exact sqrt_good a _ down ha hf (Z_pos h1 h2) (rootOf_is _) w
  · rw [if_neg hf]
    have hf' : Fl.fin a = false := by revert hf; cases Fl.fin a <;> simp
    rw [hf'] at HT
    clear hf hf'
    go_enter Try.func123, Try.ntmps123
    go_wp2_with fail
    refine (HT.out _).mono ?_
    rintro e w' ⟨rfl, rfl⟩
    go_wp2_with fail
    go_ret2
    exact ⟨rfl, Below.refl _ _⟩

theorem below_step {w w1 w2 : World} (h : Below w.heap.size w w1) (k : Below w1.heap.size w1 w2) : Below w.heap.size w w2 := h.trans (k.mono h.size)

end Go.Proofs.Ytdgaaceebghcpaa
