/- Shaken: Qa. -/
import Derived.Test.YtnljfcebmgifdaaGreatZWa
set_option linter.unusedVariables false
set_option linter.unusedSimpArgs false
namespace Go.Proofs.YtnljfcebmgifdaaGreat
open Fl
structure Gd (x : Nat) : Prop where
 lt : x < 18446744073709551616
 nn : nan x = false
 nz : x ≠ SGN
theorem Gd.inj {x y : Nat} (hx : Gd x) (hy : Gd y) (h : Z x = Z y) : x = y := by
 rcases (Z_eq_iff hx.lt hy.lt).1 h with h | ⟨h1, h2⟩
 · exact h
 · rcases mg_zero_cases hx.lt h1 with h3 | h3
   · rcases mg_zero_cases hy.lt h2 with h4 | h4
     · rw [h3, h4]
     · exact absurd h4 hy.nz
   · exact absurd h3 hx.nz
def mn (x y : Nat) : Nat := if Z y < Z x then y else x
def mx (x y : Nat) : Nat := if Z x < Z y then y else x
theorem mn_gd {x y : Nat} (hx : Gd x) (hy : Gd y) : Gd (mn x y) := by unfold mn; split <;> assumption
theorem mx_gd {x y : Nat} (hx : Gd x) (hy : Gd y) : Gd (mx x y) := by unfold mx; split <;> assumption
theorem mn_Z (x y : Nat) : Z (mn x y) = min (Z x) (Z y) := by unfold mn; split <;> omega
theorem mx_Z (x y : Nat) : Z (mx x y) = max (Z x) (Z y) := by unfold mx; split <;> omega
theorem mx_cases (x y : Nat) : mx x y = x ∨ mx x y = y := by unfold mx; split <;> simp
theorem order_gd {x y : Nat} (hx : Gd x) (hy : Gd y) : FloatKind.f64.format.order x y = some (compare (Z x) (Z y)) := order_eq x y hx.lt hy.lt hx.nn hy.nn
theorem ltb {x y : Nat} (hx : Gd x) (hy : Gd y) : (FloatKind.f64.format.order x y == some .lt) = decide (Z x < Z y) := lt_eq hx.lt hy.lt hx.nn hy.nn
theorem gtb {x y : Nat} (hx : Gd x) (hy : Gd y) : (FloatKind.f64.format.order x y == some .gt) = decide (Z y < Z x) := gt_eq hx.lt hy.lt hx.nn hy.nn
theorem leb {x y : Nat} (hx : Gd x) (hy : Gd y) : (FloatKind.f64.format.order x y == some .lt || FloatKind.f64.format.order x y == some .eq) = decide (Z x ≤ Z y) := le_eq hx.lt hy.lt hx.nn hy.nn
theorem geb {x y : Nat} (hx : Gd x) (hy : Gd y) : (FloatKind.f64.format.order x y == some .gt || FloatKind.f64.format.order x y == some .eq) = decide (Z y ≤ Z x) := ge_eq hx.lt hy.lt hx.nn hy.nn
theorem eqb {x y : Nat} (hx : Gd x) (hy : Gd y) : (FloatKind.f64.format.order x y == some .eq) = decide (Z x = Z y) := eq_eq hx.lt hy.lt hx.nn hy.nn
theorem gd0 : Gd 0 := ⟨by decide, by decide, by decide⟩
theorem gdPI : Gd 9218868437227405312 := ⟨by decide, by decide, by decide⟩
theorem gdNI : Gd 18442240474082181120 := ⟨by decide, by decide, by decide⟩
/-- 'at most' of any two words. -/
def leF (x y : Nat) : Bool := FloatKind.f64.format.order x y == some .lt || FloatKind.f64.format.order x y == some .eq
theorem leF_gd {x y : Nat} (hx : Gd x) (hy : Gd y) : leF x y = decide (Z x ≤ Z y) := leb hx hy
theorem leF_nan_r (x : Nat) {y : Nat} (hy : y < 18446744073709551616) (h : nan y = true) : leF x y = false := by
 unfold leF
 have := order_nan_right x y hy h
 rw [show FloatKind.f64.format.order x y = none from this]; rfl
theorem leF_nan_l {x : Nat} (y : Nat) (hx : x < 18446744073709551616) (h : nan x = true) : leF x y = false := by
 unfold leF
 have := order_nan_left x y hx h
 rw [show FloatKind.f64.format.order x y = none from this]; rfl
/-- Is it a span? -/
structure Vd (a b : Nat) : Prop where
 l : Gd a
 h : Gd b
 le : Z a ≤ Z b
 li : a ≠ 9218868437227405312
 hi : b ≠ 18442240474082181120
def wd (a b : Nat) : Bool := !(fin a && fin b)
theorem rv_inf_pos : 0 < rv INF := rv_pos (by decide)
theorem Z_PI : Z 9218868437227405312 = (rv INF : Int) := by
 unfold Z
 rw [show sg 9218868437227405312 = false by decide, show mg 9218868437227405312 = INF by decide, if_neg Bool.false_ne_true]
theorem Z_NI : Z 18442240474082181120 = -(rv INF : Int) := by
 unfold Z
 rw [show sg 18442240474082181120 = true by decide, show mg 18442240474082181120 = INF by decide, if_pos rfl]
theorem Z_abs (b : Nat) : -(rv (mg b) : Int) ≤ Z b ∧ Z b ≤ (rv (mg b) : Int) := by
 unfold Z; split <;> omega
theorem Z_range {b : Nat} (h : nan b = false) : -(rv INF : Int) ≤ Z b ∧ Z b ≤ (rv INF : Int) := by
 have h1 : mg b ≤ INF := by
   unfold nan at h
   have := of_decide_eq_false h
   omega
 have h2 := rv_le h1
 have h3 := Z_abs b
 omega
theorem Z_fin {b : Nat} (h : fin b = true) : -(rv INF : Int) < Z b ∧ Z b < (rv INF : Int) := by
 have h1 := mg_of_fin h
 have h2 := rv_lt h1
 have h3 := Z_abs b
 omega
theorem fin_Z {b : Nat} (hn : nan b = false) (h1 : -(rv INF : Int) < Z b) (h2 : Z b < (rv INF : Int)) : fin b = true := by
 cases h : fin b
 · have := inf_of hn h
   unfold Z at h1 h2
   rw [this] at h1 h2
   revert h1 h2
   cases sg b <;> simp <;> omega
 · rfl
theorem inf_cases {b : Nat} (hb : Gd b) (h : fin b = false) : b = 9218868437227405312 ∨ b = 18442240474082181120 := by
 have h1 := inf_of hb.nn h
 have h2 := wrd_of b hb.lt
 rw [h1] at h2
 revert h2
 cases sg b
 · intro h2; left; rw [← h2]; decide
 · intro h2; right; rw [← h2]; decide
theorem Vd.wide_lo {a b : Nat} (v : Vd a b) (h : fin a = false) : a = 18442240474082181120 := by
 rcases inf_cases v.l h with h | h
 · exact absurd h v.li
 · exact h
theorem Vd.wide_hi {a b : Nat} (v : Vd a b) (h : fin b = false) : b = 9218868437227405312 := by
 rcases inf_cases v.h h with h | h
 · exact h
 · exact absurd h v.hi
end Go.Proofs.YtnljfcebmgifdaaGreat
