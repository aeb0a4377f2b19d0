/- Shaken: Sa Gd Gf Tx Uc Yf. -/
import Derived.Test.YtnljfcebmgifdaaZRef
import Derived.Test.YtnljfcebmgifdaaZRabf
import Derived.Test.YtnljfcebmgifdaaZRcf
import Derived.Test.YtnljfcebmgifdaaZRdf
set_option linter.unusedVariables false
set_option linter.unusedSimpArgs false
namespace Go.Proofs.Ytnljfcebmgifdaa
open Go.RowKit
theorem max_any {a b c d : Nat} (ga : Gd a) (gb : Gd b) (gc : Gd c) (gd : Gd d) (w : World) : Calls Try.prog 84 #[.agg #[.float .f64 a, .float .f64 b], .agg #[.float .f64 c, .float .f64 d]] w fun r w' => r = .returned (.agg #[.float .f64 (mx a c), .float .f64 (mx b d)]) ∧ ∃ o o' o'', w' = ((w.alloc o).alloc o').alloc o'' := by
 have m1 := fun (ts : Array TypeId) (t : TypeId) (w : World) => run_max_gd (P := Try.prog) ga gc ts t w
 have m2 := fun (ts : Array TypeId) (t : TypeId) (w : World) => run_max_gd (P := Try.prog) gb gd ts t w
 clear ga gb gc gd
 go_enter Try.func84, Try.ntmps84
 go_wp2_with fail
 go_returns
 exact ⟨rfl, _, _, _, rfl⟩
end Go.Proofs.Ytnljfcebmgifdaa
set_option linter.unusedVariables false
set_option linter.unusedSimpArgs false
namespace Go.Proofs.Ytnljfcebmgifdaa
open Fl
end Go.Proofs.Ytnljfcebmgifdaa
namespace Go.Proofs.Ytnljfcebmgifdaa
open Fl
end Go.Proofs.Ytnljfcebmgifdaa
namespace Go.Proofs.Ytnljfcebmgifdaa
open Fl
end Go.Proofs.Ytnljfcebmgifdaa
namespace Go.Proofs.Ytnljfcebmgifdaa
open Fl
theorem le_of_sq {x y : Rat} (hy : 0 ≤ y) (h : x * x ≤ y * y) : x ≤ y := by
 apply Rat.not_lt.1
 intro k
 have h1 : y * y ≤ x * y := Rat.mul_le_mul_of_nonneg_right (Rat.le_of_lt k) hy
 have h2 : x * y < x * x := Rat.mul_lt_mul_of_pos_left k (by grind)
 grind
theorem in_sqrt {r : Rat} {a : Sp} (h : InS (r * r) a) (hr : 0 ≤ r) : InS r (sqrtS a) := by
 by_cases k : a.wide = false ∧ 0 ≤ Z a.hi
 · have ⟨f1, f2⟩ := Sp.fins k.1
   refine ⟨Or.inr ?_, ?_⟩
   · have ⟨l1, l2⟩ := sqrtS_lo k.1 k.2
     apply le_of_sq hr
     have l3 := h.lo' f1
     have l4 := sq_nonneg r
     grind
   · rcases sqrtS_hi k.1 k.2 with e | ⟨e1, e2⟩
     · exact Or.inl e
     · exact Or.inr (le_of_sq e1 (Rat.le_trans (h.hi' f2) e2))
 · have e : sqrtS a = allS := by unfold sqrtS; rw [dif_neg k]
   rw [e]
   exact in_all _
theorem in_max {x y : Rat} {a b : Sp} (h : InS x a) (k : InS y b) : InS (max x y) (maxS a b) := by
 have key : ∀ p q : Nat, fv (mx p q) = max (fv p) (fv q) := by
   intro p q
   rw [Rat.max_def]
   unfold mx
   by_cases e : Z p < Z q
   · rw [if_pos e, if_pos (fv_le.2 (by omega))]
   · rw [if_neg e]
     by_cases e2 : fv p ≤ fv q
     · rw [if_pos e2]
       have := fv_le.1 e2
       unfold fv
       rw [show Z p = Z q by omega]
     · rw [if_neg e2]
 refine ⟨?_, ?_⟩
 · show mx a.lo b.lo = NI ∨ fv (mx a.lo b.lo) ≤ _
   rcases h.lo with e | e
   · have : mx a.lo b.lo = b.lo := (mx_gd a.vd.l b.vd.l).inj b.vd.l (by rw [mx_Z, e, Z_NI]; have := (Z_range b.vd.l.nn).1; omega)
     rw [this]
     rcases k.lo with f | f
     · exact Or.inl f
     · exact Or.inr (by grind)
   · rcases k.lo with f | f
     · have : mx a.lo b.lo = a.lo := (mx_gd a.vd.l b.vd.l).inj a.vd.l (by rw [mx_Z, f, Z_NI]; have := (Z_range a.vd.l.nn).1; omega)
       rw [this]
       exact Or.inr (by grind)
     · right
       rw [key]; grind
 · show mx a.hi b.hi = PI ∨ _ ≤ fv (mx a.hi b.hi)
   rcases h.hi with e | e
   · left
     exact (mx_gd a.vd.h b.vd.h).inj gdPI (by rw [mx_Z, e, Z_PI]; have := (Z_range b.vd.h.nn).2; omega)
   · rcases k.hi with f | f
     · left
       exact (mx_gd a.vd.h b.vd.h).inj gdPI (by rw [mx_Z, f, Z_PI]; have := (Z_range a.vd.h.nn).2; omega)
     · right
       rw [key]; grind
end Go.Proofs.Ytnljfcebmgifdaa
namespace Go.Proofs.Ytnljfcebmgifdaa
open Fl Ieee
end Go.Proofs.Ytnljfcebmgifdaa
set_option linter.unusedVariables false
set_option linter.unusedSimpArgs false
namespace Go.Proofs.Ytnljfcebmgifdaa
open Go.RowKit Fl
end Go.Proofs.Ytnljfcebmgifdaa
namespace Go.Proofs.Ytnljfcebmgifdaa
open Go.RowKit Fl
theorem max_sp (a b : Sp) (w : World) : Calls Try.prog 84 #[.agg #[.float .f64 a.lo, .float .f64 a.hi], .agg #[.float .f64 b.lo, .float .f64 b.hi]] w fun r w' => r = .returned (.agg #[.float .f64 (maxS a b).lo, .float .f64 (maxS a b).hi]) ∧ Below w.heap.size w w' :=
 (max_any a.vd.l a.vd.h b.vd.l b.vd.h w).mono fun _ _ ⟨h, o, o', o2, e⟩ => ⟨h, e ▸ below_new3 w o o' o2⟩
end Go.Proofs.Ytnljfcebmgifdaa
namespace Go.Proofs.Ytnljfcebmgifdaa
open Go.RowKit Fl
end Go.Proofs.Ytnljfcebmgifdaa
namespace Go.Proofs.Ytnljfcebmgifdaa
open Go.RowKit Fl
end Go.Proofs.Ytnljfcebmgifdaa
namespace Go.Proofs.Ytnljfcebmgifdaa
open Go.RowKit Fl
end Go.Proofs.Ytnljfcebmgifdaa
namespace Go.Proofs.Ytnljfcebmgifdaa
open Go.RowKit Fl
end Go.Proofs.Ytnljfcebmgifdaa
set_option linter.unusedVariables false
set_option linter.unusedSimpArgs false
namespace Go.Proofs.Ytnljfcebmgifdaa
open Go.RowKit Fl
section
variable {fn : Func} {p q r : Tmp} {ta tb : TypeId}
end
theorem bx5 (w : World) (t1 t2 t3 t4 t5 : TypeId) (c1 c2 c3 c4 c5 : Array Value) : ∃ W, W = ((((w.alloc (.cells c1 t1)).alloc (.cells c2 t2)).alloc (.cells c3 t3)).alloc (.cells c4 t4)).alloc (.cells c5 t5) ∧ Blk W w.heap.size t1 c1 ∧ Blk W (w.heap.size + 1) t2 c2 ∧ Blk W (w.heap.size + 1 + 1) t3 c3 ∧ Blk W (w.heap.size + 1 + 1 + 1) t4 c4 ∧ Blk W (w.heap.size + 1 + 1 + 1 + 1) t5 c5 ∧ Below w.heap.size w W ∧ W.heap.size = w.heap.size + 1 + 1 + 1 + 1 + 1 := by
 obtain ⟨W, rfl, k0, k1, k2, k3, hb, hz⟩ := bx4 w t1 t2 t3 t4 c1 c2 c3 c4
 exact ⟨_, rfl, k0.alloc _, k1.alloc _, k2.alloc _, k3.alloc _, Blk.new_at _ _ _ hz.symm, hb.alloc (by omega) _, by simp⟩
end Go.Proofs.Ytnljfcebmgifdaa
set_option linter.unusedVariables false
set_option linter.unusedSimpArgs false
namespace Go.Proofs.Ytnljfcebmgifdaa
open Go.RowKit Fl
theorem gt_no {a b : Nat} (ha : Gd a) (hb : Gd b) (h : Z a ≤ Z b) : (FloatKind.f64.format.order a b == some .gt) = false := by
 rw [gtb ha hb]; exact decide_eq_false (by omega)
end Go.Proofs.Ytnljfcebmgifdaa
set_option linter.unusedVariables false
set_option linter.unusedSimpArgs false
namespace Go.Proofs.Ytnljfcebmgifdaa
open Fl
noncomputable def bdRest (r c : Sp) : Sp := subS (ofS W1) (mulS (sqrS r) (maxS (subS (ofS W1) (sqrS c)) zeroS))
noncomputable def bdBent (n d : V3) (r w : Sp) : V3 := vAdd (vMul d ⟨r, r, r⟩) (vMul n ⟨subS (mulS r (bdCos n d)) w, subS (mulS r (bdCos n d)) w, subS (mulS r (bdCos n d)) w⟩)
theorem cauchy (x y z p q r : Rat) : (x * p + y * q + z * r) * (x * p + y * q + z * r) ≤ (x * x + y * y + z * z) * (p * p + q * q + r * r) := by
 have h1 := sq_nonneg (x * q - y * p)
 have h2 := sq_nonneg (x * r - z * p)
 have h3 := sq_nonneg (y * r - z * q)
 have e : (x * x + y * y + z * z) * (p * p + q * q + r * r) - (x * p + y * q + z * r) * (x * p + y * q + z * r) = (x * q - y * p) * (x * q - y * p) + (x * r - z * p) * (x * r - z * p) + (y * r - z * q) * (y * r - z * q) := by grind
 grind
theorem cos_le {x y z p q r : Rat} (h1 : x * x + y * y + z * z ≤ 1) (h2 : p * p + q * q + r * r ≤ 1) : (x * p + y * q + z * r) * (x * p + y * q + z * r) ≤ 1 := by
 have c := cauchy x y z p q r
 have a1 : 0 ≤ x * x + y * y + z * z := by have := sq_nonneg x; have := sq_nonneg y; have := sq_nonneg z; grind
 have a2 : 0 ≤ p * p + q * q + r * r := by have := sq_nonneg p; have := sq_nonneg q; have := sq_nonneg r; grind
 generalize x * x + y * y + z * z = A at *
 generalize p * p + q * q + r * r = B at *
 have := Rat.mul_nonneg (show (0 : Rat) ≤ 1 - A by grind) a2
 grind
/-- What a facing normal and a direction have: numbers in all of them. -/
structure Face (f v : V3) (c : Sp) : Prop where
 ex : ∃ x y z p q r t : Rat, InV x y z f ∧ InV p q r v ∧ InS t c ∧ InS t (bdCos f v) ∧ 0 ≤ t ∧ t * t ≤ 1
theorem face_of {n0 n1 n2 d0 d1 d2 : Nat} (hl : 0 < Z (vLen (vOf n0 n1 n2)).lo) (hk : 0 < Z (vLen (vOf d0 d1 d2)).lo) :
   (posS (bdCos (vUnit (vOf n0 n1 n2)) (vUnit (vOf d0 d1 d2))) = 1 → Face (vUnit (vOf n0 n1 n2)) (vUnit (vOf d0 d1 d2)) (bdCos (vUnit (vOf n0 n1 n2)) (vUnit (vOf d0 d1 d2)))) ∧
   (posS (bdCos (vUnit (vOf n0 n1 n2)) (vUnit (vOf d0 d1 d2))) = 0 → Face (vNeg (vUnit (vOf n0 n1 n2))) (vUnit (vOf d0 d1 d2)) (negS (bdCos (vUnit (vOf n0 n1 n2)) (vUnit (vOf d0 d1 d2))))) := by
 obtain ⟨_, a, _, _, _, iu, _, ka⟩ := unit_two n0 n1 n2 hl
 obtain ⟨_, b, _, _, _, iv, _, kb⟩ := unit_two d0 d1 d2 hk
 generalize vUnit (vOf n0 n1 n2) = u at *
 generalize vUnit (vOf d0 d1 d2) = v at *
 have e1 : fv n0 * a * (fv n0 * a) + fv n1 * a * (fv n1 * a) + fv n2 * a * (fv n2 * a) ≤ 1 := by grind
 have e2 : fv d0 * b * (fv d0 * b) + fv d1 * b * (fv d1 * b) + fv d2 * b * (fv d2 * b) ≤ 1 := by grind
 generalize fv n0 * a = x at *
 generalize fv n1 * a = y at *
 generalize fv n2 * a = z at *
 generalize fv d0 * b = p at *
 generalize fv d1 * b = q at *
 generalize fv d2 * b = r at *
 have hc := cos_le e1 e2
 have ic : InS (-(x * p + y * q + z * r)) (bdCos u v) := in_neg (iu.dot iv)
 refine ⟨fun h => ⟨x, y, z, p, q, r, -(x * p + y * q + z * r), iu, iv, ic, ic, ?_, by grind⟩, fun h => ⟨-x, -y, -z, p, q, r, x * p + y * q + z * r, iu.neg, iv, ?_, ?_, ?_, hc⟩⟩
 · have h0 : 0 < Z (bdCos u v).lo := by
     unfold posS at h
     by_cases f : 0 < Z (bdCos u v).lo
     · exact f
     · rw [if_neg f] at h; split at h <;> omega
   rcases ic.lo with e | e
   · rw [e, Z_NI] at h0; omega
   · have := fv_pos.2 h0; grind
 · have := in_neg ic
   rw [show - -(x * p + y * q + z * r) = x * p + y * q + z * r by grind] at this
   exact this
 · have := in_neg (iu.neg.dot iv)
   rw [show -(-x * p + -y * q + -z * r) = x * p + y * q + z * r by grind] at this
   exact this
 · have h0 : Z (bdCos u v).hi ≤ 0 := by
     unfold posS at h
     by_cases f : 0 < Z (bdCos u v).lo
     · rw [if_pos f] at h; omega
     · rw [if_neg f] at h
       by_cases g : Z (bdCos u v).hi ≤ 0
       · exact g
       · rw [if_neg g] at h; omega
   rcases ic.hi with e | e
   · rw [e, Z_PI] at h0; have := rv_inf_pos; omega
   · have := fv_nonpos.2 h0; grind
theorem rest_in {c : Sp} {t : Rat} (h : InS t c) (h1 : t * t ≤ 1) : InS (t * t) (bdRest (ofS W1) c) := by
 have k := in_sub in_one (in_mul (in_sqr in_one) (in_max (in_sub in_one (in_sqr h)) in_zero))
 have e : max (1 - t * t) 0 = 1 - t * t := by
   rw [Rat.max_def]
   by_cases g : 1 - t * t ≤ 0
   · rw [if_pos g]; grind
   · rw [if_neg g]
 rw [e, show 1 - 1 * 1 * (1 - t * t) = t * t by grind] at k
 exact k
theorem straight_no {f v : V3} {c : Sp} (h : Face f v c) (k : posS (bdRest (ofS W1) (bdCos f v)) = 0) : Z c.lo ≤ 0 := by
 obtain ⟨x, y, z, p, q, r, t, _, _, ic, ib, t0, t1⟩ := h.ex
 have ir := rest_in ib t1
 have hh : Z (bdRest (ofS W1) (bdCos f v)).hi ≤ 0 := by
   unfold posS at k
   by_cases g : 0 < Z (bdRest (ofS W1) (bdCos f v)).lo
   · rw [if_pos g] at k; omega
   · rw [if_neg g] at k
     by_cases g' : Z (bdRest (ofS W1) (bdCos f v)).hi ≤ 0
     · exact g'
     · rw [if_neg g'] at k; omega
 have ht : t = 0 := by
   rcases ir.hi with e | e
   · rw [e, Z_PI] at hh; have := rv_inf_pos; omega
   · have h1 := fv_nonpos.2 hh
     have h2 : t * t ≤ 0 := by grind
     have h3 := sq_nonneg t
     exact (Rat.mul_eq_zero.1 (show t * t = 0 by grind)).elim id id
 subst ht
 rcases ic.lo with e | e
 · rw [e, Z_NI]; have := rv_inf_pos; omega
 · exact fv_nonpos.1 e
theorem straight_yes {f v : V3} {c : Sp} (h : Face f v c) :
   ShV (bdBent f v (ofS W1) (sqrtS (bdRest (ofS W1) (bdCos f v)))) v ∧ InS 0 (bdFr c (sqrtS (bdRest (ofS W1) (bdCos f v))) (ofS W1)) := by
 obtain ⟨x, y, z, p, q, r, t, jf, jv, ic, ib, t0, t1⟩ := h.ex
 have iw : InS t (sqrtS (bdRest (ofS W1) (bdCos f v))) := in_sqrt (rest_in ib t1) t0
 have is := in_sub (in_mul in_one ib) iw
 rw [show 1 * t - t = (0 : Rat) by grind] at is
 refine ⟨(InV.add (jv.scale in_one) (jf.scale is)).share jv (by grind) (by grind) (by grind), ?_⟩
 have k := in_share ic iw in_one
 have z : ∀ y : Rat, 0 / y = 0 := fun y => by rw [Rat.div_def, Rat.zero_mul]
 rw [show 1 * t - t = (0 : Rat) by grind, show t - 1 * t = (0 : Rat) by grind, z, z, show ((0 : Rat) * 0 + 0 * 0) * fv WH = 0 by grind] at k
 exact k
end Go.Proofs.Ytnljfcebmgifdaa
