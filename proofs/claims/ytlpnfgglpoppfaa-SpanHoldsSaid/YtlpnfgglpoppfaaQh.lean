/- Plain: a number of a span, by a share. -/
import Derived.Test.YtlpnfgglpoppfaaGg
import Derived.Test.YtlpnfgglpoppfaaSa
set_option linter.unusedVariables false
set_option linter.unusedSimpArgs false
namespace Go.Proofs.Ytlpnfgglpoppfaa
open Fl Ieee

abbrev ONE : Nat := 4607182418800017408
theorem gdONE : Gd ONE := ⟨by decide, by decide, by decide⟩
/-- A finite number of a span (it may be -0). -/
structure InP (a : Sp) (p : Nat) : Prop where
  lt : p < 18446744073709551616
  fin : fin p = true
  ge : Z a.lo ≤ Z p
  le : Z p ≤ Z a.hi
theorem order_some {x y : Nat} {o : Ordering} (hx : x < 18446744073709551616) (hy : y < 18446744073709551616) (h : (FloatKind.f64.format.order x y == some o) = true) : nan x = false ∧ nan y = false := by
  constructor
  · cases e : nan x
    · rfl
    · have : FloatKind.f64.format.order x y = none := order_nan_left x y hx e
      rw [this] at h; exact absurd h (by cases o <;> decide)
  · cases e : nan y
    · rfl
    · have : FloatKind.f64.format.order x y = none := order_nan_right x y hy e
      rw [this] at h; exact absurd h (by cases o <;> decide)
def innW (a : Sp) (x : Nat) : Nat := lst (gst x a.lo) a.hi
def innC (a : Sp) : Nat := gst (lst ONE a.hi) a.lo
theorem innW_in {a : Sp} (w : a.wide = false) {x : Nat} (hx : x < 18446744073709551616) : InP a (innW a x) := by
  have ⟨f1, f2⟩ := Sp.fins w
  have z1 := Z_fin f1
  have z2 := Z_fin f2
  have hle := a.vd.le
  have key : ∃ y, gst x a.lo = y ∧ y < 18446744073709551616 ∧ nan y = false ∧ Z a.lo ≤ Z y := by
    unfold gst
    cases e : (FloatKind.f64.format.order x a.lo == some .gt)
    · rw [if_neg Bool.false_ne_true]; exact ⟨_, rfl, a.vd.l.lt, a.vd.l.nn, Int.le_refl _⟩
    · rw [if_pos rfl]
      have ⟨n1, n2⟩ := order_some hx a.vd.l.lt e
      have h := gt_eq (a := x) (b := a.lo) hx a.vd.l.lt n1 n2
      have h2 : decide (Z a.lo < Z x) = true := h.symm.trans e
      exact ⟨_, rfl, hx, n1, Int.le_of_lt (of_decide_eq_true h2)⟩
  obtain ⟨y, hy, y1, y2, y3⟩ := key
  unfold innW
  rw [hy]
  unfold lst
  cases e : (FloatKind.f64.format.order y a.hi == some .lt)
  · rw [if_neg Bool.false_ne_true]; exact ⟨a.vd.h.lt, f2, hle, Int.le_refl _⟩
  · rw [if_pos rfl]
    have h := lt_eq (a := y) (b := a.hi) y1 a.vd.h.lt y2 a.vd.h.nn
    have h2 : decide (Z y < Z a.hi) = true := h.symm.trans e
    have h3 := of_decide_eq_true h2
    exact ⟨y1, fin_Z y2 (by omega) (by omega), y3, Int.le_of_lt h3⟩
theorem innC_in (a : Sp) : InP a (innC a) := by
  unfold innC
  rw [lst_gd gdONE a.vd.h, gst_gd (mn_gd gdONE a.vd.h) a.vd.l]
  have g := mx_gd (mn_gd gdONE a.vd.h) a.vd.l
  have hz : Z (mx (mn ONE a.hi) a.lo) = max (min (Z ONE) (Z a.hi)) (Z a.lo) := by rw [mx_Z, mn_Z]
  have r1 := Z_fin (b := ONE) (by decide)
  have r2 := Z_range a.vd.l.nn
  have r3 := Z_range a.vd.h.nn
  have hle := a.vd.le
  have l1 : Z a.lo ≠ (rv INF : Int) := fun e => a.vd.li (Z_eq_PI a.vd.l e)
  have l2 : Z a.hi ≠ -(rv INF : Int) := fun e => a.vd.hi (Z_eq_NI a.vd.h e)
  exact ⟨g.lt, fin_Z g.nn (by omega) (by omega), by omega, by omega⟩
theorem sum_num {a b d : Datum} (h : Datum.sum a b = some d) : (∃ s m p, d = .number s m p) ∨ (∃ s, d = .infinity s) := by
  cases a <;> cases b <;> simp only [Datum.sum] at h <;> first
    | (cases h; done)
    | (split at h <;> first | (cases h; done) | (injection h with h; subst h; first | exact Or.inr ⟨_, rfl⟩ | exact Or.inl ⟨_, _, _, rfl⟩))
    | (injection h with h; subst h; first | exact Or.inr ⟨_, rfl⟩ | exact Or.inl ⟨_, _, _, rfl⟩)
theorem write_lt {d : Datum} (h : (∃ s m p, d = .number s m p) ∨ (∃ s, d = .infinity s)) : double.write d < 18446744073709551616 := by
  rcases h with ⟨s, m, p, rfl⟩ | ⟨s, rfl⟩
  · exact nearest_lt s m p
  · rw [write_inf]; cases s <;> decide
theorem add_lt {x y r : Nat} (h : double.add x y = some r) : r < 18446744073709551616 := by
  unfold Format.add at h
  cases e : (double.read x).sum (double.read y) with
  | none => rw [e] at h; cases h
  | some d =>
    rw [e] at h
    injection h with h
    subst h
    exact write_lt (sum_num e)
theorem sub_some {x y : Nat} (hx : x < 18446744073709551616) (hy : y < 18446744073709551616) (fx : fin x = true) (fy : fin y = true) : ∃ r, double.sub x y = some r := by
  obtain ⟨m, p, e1, _, _⟩ := read_fin x hx fx
  obtain ⟨n, q, e2, _, _⟩ := read_fin y hy fy
  unfold Format.sub
  rw [e1, e2]
  exact ⟨_, rfl⟩
theorem add_nan_r {x y : Nat} (hy : y < 18446744073709551616) (h : nan y = true) : double.add x y = none := by
  obtain ⟨t, e⟩ := read_nan y hy h
  unfold Format.add
  rw [e]
  cases double.read x <;> rfl
/-- Of Inner: the span between two of its numbers. -/
def innS (a : Sp) (p q : Nat) (hp : InP a p) (hq : InP a q) : Sp :=
  ⟨pl (lst p q), pl (gst p q), by
    have n1 := nan_of_fin hp.fin
    have n2 := nan_of_fin hq.fin
    have h1 : (FloatKind.f64.format.order p q == some .lt) = decide (Z p < Z q) := lt_eq hp.lt hq.lt n1 n2
    have h2 : (FloatKind.f64.format.order p q == some .gt) = decide (Z q < Z p) := gt_eq hp.lt hq.lt n1 n2
    unfold lst gst
    rw [h1, h2]
    have one : ∀ x, InP a x → Gd (pl x) ∧ Go.Proofs.Ytlpnfgglpoppfaa.Fl.fin (pl x) = true := fun x h => ⟨pl_gd h.lt (nan_of_fin h.fin), pl_fin h.fin⟩
    have mk : ∀ x y, InP a x → InP a y → Z x ≤ Z y → Vd (pl x) (pl y) := fun x y hx hy hle => ⟨(one x hx).1, (one y hy).1, by rw [Z_pl, Z_pl]; exact hle, fun k => by have := (one x hx).2; rw [k] at this; exact absurd this (by decide), fun k => by have := (one y hy).2; rw [k] at this; exact absurd this (by decide)⟩
    by_cases k1 : Z p < Z q
    · rw [decide_eq_true k1, decide_eq_false (by omega), if_pos rfl, if_neg Bool.false_ne_true]
      exact mk p q hp hq (by omega)
    · rw [decide_eq_false k1, if_neg Bool.false_ne_true]
      by_cases k2 : Z q < Z p
      · rw [decide_eq_true k2, if_pos rfl]; exact mk q p hq hp (by omega)
      · rw [decide_eq_false k2, if_neg Bool.false_ne_true]; exact mk q q hq hq (by omega)⟩
theorem innS_wi (a : Sp) (p q : Nat) (hp : InP a p) (hq : InP a q) : Wi (innS a p q hp hq) a := by
  have one : ∀ x, x = p ∨ x = q → Z a.lo ≤ Z (pl x) ∧ Z (pl x) ≤ Z a.hi := by
    intro x hx
    rw [Z_pl]
    rcases hx with rfl | rfl
    · exact ⟨hp.ge, hp.le⟩
    · exact ⟨hq.ge, hq.le⟩
  have c1 : lst p q = p ∨ lst p q = q := by unfold lst; split <;> simp
  have c2 : gst p q = p ∨ gst p q = q := by unfold gst; split <;> simp
  exact ⟨(one _ c1).1, (one _ c2).2⟩
end Go.Proofs.Ytlpnfgglpoppfaa
