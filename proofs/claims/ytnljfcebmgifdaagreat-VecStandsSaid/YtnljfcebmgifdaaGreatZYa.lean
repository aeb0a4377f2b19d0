/- Shaken: Ya. -/
import Derived.Test.YtnljfcebmgifdaaGreatZGd
set_option linter.unusedVariables false
set_option linter.unusedSimpArgs false
namespace Go.Proofs.YtnljfcebmgifdaaGreat
open Fl
structure V3 where
 x : Sp
 y : Sp
 z : Sp
abbrev vval (a : V3) : Value := .agg #[Value.float FloatKind.f64 a.x.lo, Value.float FloatKind.f64 a.x.hi, Value.float FloatKind.f64 a.y.lo, Value.float FloatKind.f64 a.y.hi, Value.float FloatKind.f64 a.z.lo, Value.float FloatKind.f64 a.z.hi]
noncomputable def vAdd (a b : V3) : V3 := ⟨addS a.x b.x, addS a.y b.y, addS a.z b.z⟩
noncomputable def vSub (a b : V3) : V3 := ⟨subS a.x b.x, subS a.y b.y, subS a.z b.z⟩
noncomputable def vMul (a b : V3) : V3 := ⟨mulS a.x b.x, mulS a.y b.y, mulS a.z b.z⟩
noncomputable def vNeg (a : V3) : V3 := ⟨negS a.x, negS a.y, negS a.z⟩
noncomputable def vSum (a : V3) : Sp := addS (addS a.x a.y) a.z
noncomputable def vDot (a b : V3) : Sp := vSum (vMul a b)
noncomputable def vSqr (a : V3) : Sp := vSum ⟨sqrS a.x, sqrS a.y, sqrS a.z⟩
noncomputable def vOf (a b c : Nat) : V3 := ⟨ofS a, ofS b, ofS c⟩
noncomputable def vOver (a : V3) (s : Sp) : V3 := ⟨divS a.x s, divS a.y s, divS a.z s⟩
noncomputable def vLen (a : V3) : Sp := sqrtS (vSqr a)
noncomputable def vUnit (a : V3) : V3 := vOver a (vLen a)
noncomputable def vMost (a : V3) : Sp := maxS (maxS a.x a.y) a.z
/-- Each within. -/
structure WiV (c a : V3) : Prop where
 x : Wi c.x a.x
 y : Wi c.y a.y
 z : Wi c.z a.z
theorem WiV.add {a b c d : V3} (h : WiV c a) (k : WiV d b) : WiV (vAdd c d) (vAdd a b) := ⟨wi_add h.x k.x, wi_add h.y k.y, wi_add h.z k.z⟩
theorem WiV.sub {a b c d : V3} (h : WiV c a) (k : WiV d b) : WiV (vSub c d) (vSub a b) := ⟨wi_sub h.x k.x, wi_sub h.y k.y, wi_sub h.z k.z⟩
theorem WiV.mul {a b c d : V3} (h : WiV c a) (k : WiV d b) : WiV (vMul c d) (vMul a b) := ⟨wi_mul h.x k.x, wi_mul h.y k.y, wi_mul h.z k.z⟩
theorem WiV.neg {a c : V3} (h : WiV c a) : WiV (vNeg c) (vNeg a) := ⟨wi_neg h.x, wi_neg h.y, wi_neg h.z⟩
theorem WiV.sum {a c : V3} (h : WiV c a) : Wi (vSum c) (vSum a) := wi_add (wi_add h.x h.y) h.z
theorem WiV.dot {a b c d : V3} (h : WiV c a) (k : WiV d b) : Wi (vDot c d) (vDot a b) := (h.mul k).sum
theorem WiV.sqr {a c : V3} (h : WiV c a) : Wi (vSqr c) (vSqr a) := WiV.sum ⟨wi_sqr h.x, wi_sqr h.y, wi_sqr h.z⟩
theorem WiV.most {a c : V3} (h : WiV c a) : Wi (vMost c) (vMost a) := wi_max (wi_max h.x h.y) h.z
/-- Numbers in three spans. -/
structure InV (x y z : Rat) (a : V3) : Prop where
 x : InS x a.x
 y : InS y a.y
 z : InS z a.z
theorem InV.add {x y z p q r : Rat} {a b : V3} (h : InV x y z a) (k : InV p q r b) : InV (x + p) (y + q) (z + r) (vAdd a b) := ⟨in_add h.x k.x, in_add h.y k.y, in_add h.z k.z⟩
theorem InV.neg {x y z : Rat} {a : V3} (h : InV x y z a) : InV (-x) (-y) (-z) (vNeg a) := ⟨in_neg h.x, in_neg h.y, in_neg h.z⟩
theorem InV.sum {x y z : Rat} {a : V3} (h : InV x y z a) : InS (x + y + z) (vSum a) := in_add (in_add h.x h.y) h.z
theorem InV.dot {x y z p q r : Rat} {a b : V3} (h : InV x y z a) (k : InV p q r b) : InS (x * p + y * q + z * r) (vDot a b) := InV.sum ⟨in_mul h.x k.x, in_mul h.y k.y, in_mul h.z k.z⟩
theorem InV.sqr {x y z : Rat} {a : V3} (h : InV x y z a) : InS (x * x + y * y + z * z) (vSqr a) := InV.sum ⟨in_sqr h.x, in_sqr h.y, in_sqr h.z⟩
theorem InS.hi_nn {x : Rat} {s : Sp} (h : InS x s) (hx : 0 ≤ x) : 0 ≤ Z s.hi := by
 rcases h.hi with e | e
 · rw [e, Z_PI]; exact Int.natCast_nonneg _
 · exact fv_nonneg.1 (Rat.le_trans hx e)
theorem vSqr_nn (a : V3) : 0 ≤ Z (vSqr a).hi :=
 InS.hi_nn (InV.sqr ⟨a.x.in_lo, a.y.in_lo, a.z.in_lo⟩) (by have h1 := sq_nonneg (fv a.x.lo); have h2 := sq_nonneg (fv a.y.lo); have h3 := sq_nonneg (fv a.z.lo); grind)
theorem WiV.len {a c : V3} (h : WiV c a) : Wi (vLen c) (vLen a) := wi_sqrt h.sqr (vSqr_nn c)
theorem WiV.unit {a c : V3} (h : WiV c a) : WiV (vUnit c) (vUnit a) := ⟨wi_div h.x h.len, wi_div h.y h.len, wi_div h.z h.len⟩
end Go.Proofs.YtnljfcebmgifdaaGreat
