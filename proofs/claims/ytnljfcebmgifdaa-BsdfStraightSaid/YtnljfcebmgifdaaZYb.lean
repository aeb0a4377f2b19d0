/- Shaken: Yb. -/
import Derived.Test.YtnljfcebmgifdaaZYa
set_option linter.unusedVariables false
set_option linter.unusedSimpArgs false
namespace Go.Proofs.Ytnljfcebmgifdaa
open Fl
theorem Z_one : Z 4607182418800017408 = ((2 ^ BB : Nat) : Int) := by rw [BB_eq]; decide +kernel
theorem fv_one : fv 4607182418800017408 = 1 := by
 unfold fv
 rw [Z_one]
 show ((((2 ^ BB : Nat) : Int) : Rat)) / UU = 1
 rw [show ((((2 ^ BB : Nat) : Int) : Rat)) = UU from rfl]
 rw [Rat.div_def]; exact Rat.mul_inv_cancel _ UU_ne
theorem Z_mone : Z 13830554455654793216 = -((2 ^ BB : Nat) : Int) := by rw [BB_eq]; decide +kernel
theorem fv_mone : fv 13830554455654793216 = -1 := by
 have h : fv 13830554455654793216 = -fv 4607182418800017408 := by
   unfold fv
   rw [Z_mone, Z_one, Rat.intCast_neg, Rat.div_def, Rat.div_def, Rat.neg_mul]
 rw [h, fv_one]
theorem in_one : InS 1 (ofS 4607182418800017408) := by have := in_of 4607182418800017408; rw [fv_one] at this; exact this
theorem in_mone : InS (-1) (ofS 13830554455654793216) := by have := in_of 13830554455654793216; rw [fv_mone] at this; exact this
theorem rat_inv {y d : Rat} (h : d ≠ 0) (hy : y = 1 / d) : y * d = 1 := by
 rw [hy, Rat.div_def, Rat.one_mul]; exact Rat.inv_mul_cancel _ h
/-- The sign that a frame takes: with the third number it is away from 0. -/
theorem frS_in {n : V3} {x y z : Rat} (h : InV x y z n) (hq : posS (negS n.z) ≠ 2) : ∃ s : Rat, InS s (frS n) ∧ s * s = 1 ∧ 0 < s * (s + z) := by
 unfold frS
 have k := in_neg h.z
 by_cases e : posS (negS n.z) = 1
 · rw [if_pos e]
   refine ⟨-1, in_mone, by grind, ?_⟩
   have e' : 0 < Z (negS n.z).lo := by
     unfold posS at e
     by_cases f : 0 < Z (negS n.z).lo
     · exact f
     · rw [if_neg f] at e; split at e <;> omega
   have : 0 < -z := by
     rcases k.lo with f | f
     · rw [f, Z_NI] at e'; omega
     · have := fv_pos.2 e'; grind
   grind
 · rw [if_neg e]
   refine ⟨1, in_one, by grind, ?_⟩
   have e' : Z (negS n.z).hi ≤ 0 := by
     unfold posS at e hq
     by_cases f : 0 < Z (negS n.z).lo
     · rw [if_pos f] at e; omega
     · rw [if_neg f] at hq
       by_cases g : Z (negS n.z).hi ≤ 0
       · exact g
       · rw [if_neg g] at hq; omega
   have : -z ≤ 0 := by
     rcases k.hi with f | f
     · rw [f, Z_PI] at e'; have := rv_inf_pos; omega
     · exact Rat.le_trans f (fv_nonpos.2 e')
   grind
theorem frA_in {n : V3} {s : Sp} {t z : Rat} (hs : InS t s) (hz : InS z n.z) : InS (-(1 / (t + z))) (frA s n) := in_neg (in_div in_one (in_add hs hz))
theorem frT_in {n : V3} {s : Sp} {x y z t A : Rat} (h : InV x y z n) (hs : InS t s) (hA : InS A (frA s n)) : InV (1 + t * (x * x) * A) (t * (x * y * A)) (-(t * x)) (frT s n) :=
 ⟨in_add in_one (in_mul (in_mul hs (in_sqr h.x)) hA), in_mul hs (in_mul (in_mul h.x h.y) hA), in_neg (in_mul hs h.x)⟩
theorem frU_in {n : V3} {s : Sp} {x y z t A : Rat} (h : InV x y z n) (hs : InS t s) (hA : InS A (frA s n)) : InV (x * y * A) (t + y * y * A) (-y) (frU s n) :=
 ⟨in_mul (in_mul h.x h.y) hA, in_add hs (in_mul (in_sqr h.y) hA), in_neg h.y⟩
theorem fr_tn {x y z s A : Rat} (hs : s * s = 1) (hA : A * (s + z) = -1) : (1 + s * (x * x) * A) * x + s * (x * y * A) * y + -(s * x) * z = x * (s * A) * (x * x + y * y + z * z - 1) := by grind
theorem fr_un {x y z s A : Rat} (hs : s * s = 1) (hA : A * (s + z) = -1) : x * y * A * x + (s + y * y * A) * y + -y * z = y * A * (x * x + y * y + z * z - 1) := by grind
theorem fr_tu {x y z s A : Rat} (hs : s * s = 1) (hA : A * (s + z) = -1) : (1 + s * (x * x) * A) * (x * y * A) + s * (x * y * A) * (s + y * y * A) + -(s * x) * -y = x * y * s * (A * A) * (x * x + y * y + z * z - 1) := by grind
theorem fr_tt {x y z s A : Rat} (hs : s * s = 1) (hA : A * (s + z) = -1) : (1 + s * (x * x) * A) * (1 + s * (x * x) * A) + s * (x * y * A) * (s * (x * y * A)) + -(s * x) * -(s * x) = 1 + x * x * (A * A) * (x * x + y * y + z * z - 1) := by grind
theorem fr_uu {x y z s A : Rat} (hs : s * s = 1) (hA : A * (s + z) = -1) : x * y * A * (x * y * A) + (s + y * y * A) * (s + y * y * A) + -y * -y = 1 + y * y * (A * A) * (x * x + y * y + z * z - 1) := by grind
theorem zero_mid {d : Sp} {k m1 m2 : Rat} (h1 : InS (k * m1) d) (h2 : InS (k * m2) d) (l1 : m1 ≤ 0) (l2 : 0 ≤ m2) : InS 0 d := by
 rcases (Rat.le_total : (0 : Rat) ≤ k ∨ k ≤ 0) with e | e
 · exact h1.mid h2 (by have := Rat.mul_nonneg e (show (0 : Rat) ≤ -m1 by grind); grind) (Rat.mul_nonneg e l2)
 · have e' : (0 : Rat) ≤ -k := by grind
   exact h2.mid h1 (by have := Rat.mul_nonneg e' l2; grind) (by have := Rat.mul_nonneg e' (show (0 : Rat) ≤ -m1 by grind); grind)
/-- What a number of the root makes of a frame. -/
structure Fr (n : V3) (s : Rat) (v0 v1 : Rat) (l N A : Rat) : Prop where
 tn : InS (v0 * (l * (s * A) * (N - 1))) (vDot (frT (frS n) n) n)
 un : InS ((s * v1) * (l * (s * A) * (N - 1))) (vDot (frU (frS n) n) n)
 tu : InS ((v0 * v1 * s) * (l * l * (A * A) * (N - 1))) (vDot (frT (frS n) n) (frU (frS n) n))
 tt : InS (1 + v0 * v0 * (l * l * (A * A) * (N - 1))) (vSqr (frT (frS n) n))
 uu : InS (1 + v1 * v1 * (l * l * (A * A) * (N - 1))) (vSqr (frU (frS n) n))
 nn : InS N (vSqr n)
theorem fr_at {n : V3} {s v0 v1 v2 l A : Rat} (h : InV (v0 * l) (v1 * l) (v2 * l) n) (hs : InS s (frS n)) (h1 : s * s = 1) (hA : A * (s + v2 * l) = -1) (iA : InS A (frA (frS n) n)) :
   Fr n s v0 v1 l ((v0 * v0 + v1 * v1 + v2 * v2) * (l * l)) A := by
 have hn := h.sqr
 have ht := frT_in h hs iA
 have hu := frU_in h hs iA
 have eN : v0 * l * (v0 * l) + v1 * l * (v1 * l) + v2 * l * (v2 * l) = (v0 * v0 + v1 * v1 + v2 * v2) * (l * l) := by grind
 have tn := ht.dot h
 rw [fr_tn h1 hA, eN] at tn
 have un := hu.dot h
 rw [fr_un h1 hA, eN] at un
 have tu := ht.dot hu
 rw [fr_tu h1 hA, eN] at tu
 have tt := ht.sqr
 rw [fr_tt h1 hA, eN] at tt
 have uu := hu.sqr
 rw [fr_uu h1 hA, eN] at uu
 rw [eN] at hn
 generalize (v0 * v0 + v1 * v1 + v2 * v2) * (l * l) = N at *
 refine ⟨?_, ?_, ?_, ?_, ?_, hn⟩
 · rw [show v0 * (l * (s * A) * (N - 1)) = v0 * l * (s * A) * (N - 1) by grind]; exact tn
 · rw [show (s * v1) * (l * (s * A) * (N - 1)) = (s * s) * (v1 * l * A * (N - 1)) by grind, h1, Rat.one_mul]; exact un
 · rw [show (v0 * v1 * s) * (l * l * (A * A) * (N - 1)) = v0 * l * (v1 * l) * s * (A * A) * (N - 1) by grind]; exact tu
 · rw [show v0 * v0 * (l * l * (A * A) * (N - 1)) = v0 * l * (v0 * l) * (A * A) * (N - 1) by grind]; exact tt
 · rw [show v1 * v1 * (l * l * (A * A) * (N - 1)) = v1 * l * (v1 * l) * (A * A) * (N - 1) by grind]; exact uu
theorem neg_of {s A z : Rat} (h1 : s * s = 1) (h0 : 0 < s * (s + z)) (hA : A * (s + z) = -1) : s * A ≤ 0 := by
 apply Classical.byContradiction
 intro k
 have k' : 0 < s * A := by grind
 have := Rat.mul_pos k' h0
 have e : s * A * (s * (s + z)) = (s * s) * (A * (s + z)) := by grind
 rw [e, h1, hA] at this
 grind
/-- The frame of a unit vector stands upright. -/
structure Up (n : V3) : Prop where
 tn : InS 0 (vDot (frT (frS n) n) n)
 un : InS 0 (vDot (frU (frS n) n) n)
 tu : InS 0 (vDot (frT (frS n) n) (frU (frS n) n))
 tt : InS 1 (vSqr (frT (frS n) n))
 uu : InS 1 (vSqr (frU (frS n) n))
 nn : InS 1 (vSqr n)
theorem upright {n : V3} {v0 v1 v2 a b : Rat} (ia : InV (v0 * a) (v1 * a) (v2 * a) n) (ib : InV (v0 * b) (v1 * b) (v2 * b) n) (ha : 0 < a) (hb : 0 < b)
   (ka : 1 ≤ (v0 * v0 + v1 * v1 + v2 * v2) * (a * a)) (kb : (v0 * v0 + v1 * v1 + v2 * v2) * (b * b) ≤ 1) (hq : posS (negS n.z) ≠ 2) : Up n := by
 obtain ⟨s, hs, s1, sa⟩ := frS_in ia hq
 obtain ⟨t, ht, t1, tb⟩ := frS_in ib hq
 have sb : 0 < s * (s + v2 * b) := by
   have e : t = s ∨ t = -s := by
     have : (t - s) * (t + s) = 0 := by grind
     rcases Rat.mul_eq_zero.1 this with k | k
     · left; grind
     · right; grind
   rcases e with rfl | rfl
   · exact tb
   · exfalso
     unfold frS at hs ht
     by_cases e : posS (negS n.z) = 1
     · rw [if_pos e] at hs ht
       have f1 := hs.hi
       have g1 := ht.hi
       have e1 : (ofS 13830554455654793216).hi = 13830554455654793216 := by decide +kernel
       rw [e1, fv_mone] at f1 g1
       rcases f1 with f | f
       · exact absurd f (by decide)
       · rcases g1 with g | g
         · exact absurd g (by decide)
         · grind
     · rw [if_neg e] at hs ht
       have f1 := hs.lo
       have g1 := ht.lo
       have e1 : (ofS 4607182418800017408).lo = 4607182418800017408 := by decide +kernel
       rw [e1, fv_one] at f1 g1
       rcases f1 with f | f
       · exact absurd f (by decide)
       · rcases g1 with g | g
         · exact absurd g (by decide)
         · grind
 have na : s + v2 * a ≠ 0 := by intro e; rw [e] at sa; grind
 have nb : s + v2 * b ≠ 0 := by intro e; rw [e] at sb; grind
 obtain ⟨A, hA⟩ : ∃ A, A = -(1 / (s + v2 * a)) := ⟨_, rfl⟩
 obtain ⟨B, hB⟩ : ∃ B, B = -(1 / (s + v2 * b)) := ⟨_, rfl⟩
 have iA := frA_in (n := n) hs ia.z
 have iB := frA_in (n := n) hs ib.z
 rw [← hA] at iA
 rw [← hB] at iB
 have eA : A * (s + v2 * a) = -1 := by have := rat_inv na rfl; rw [hA]; grind
 have eB : B * (s + v2 * b) = -1 := by have := rat_inv nb rfl; rw [hB]; grind
 obtain ⟨atn, aun, atu, att, auu, ann⟩ := fr_at ia hs s1 eA iA
 obtain ⟨btn, bun, btu, btt, buu, bnn⟩ := fr_at ib hs s1 eB iB
 have ma := neg_of s1 sa eA
 have mb := neg_of s1 sb eB
 generalize (v0 * v0 + v1 * v1 + v2 * v2) * (a * a) = N at *
 generalize (v0 * v0 + v1 * v1 + v2 * v2) * (b * b) = M at *
 have p1 : a * (s * A) * (N - 1) ≤ 0 := by
   have := Rat.mul_nonneg (Rat.mul_nonneg (Rat.le_of_lt ha) (show (0 : Rat) ≤ -(s * A) by grind)) (show (0 : Rat) ≤ N - 1 by grind)
   grind
 have p2 : 0 ≤ b * (s * B) * (M - 1) := by
   have := Rat.mul_nonneg (Rat.mul_nonneg (Rat.le_of_lt hb) (show (0 : Rat) ≤ -(s * B) by grind)) (show (0 : Rat) ≤ 1 - M by grind)
   grind
 have q1 : 0 ≤ a * a * (A * A) * (N - 1) := Rat.mul_nonneg (Rat.mul_nonneg (sq_nonneg a) (sq_nonneg A)) (by grind)
 have q2 : b * b * (B * B) * (M - 1) ≤ 0 := by
   have := Rat.mul_nonneg (Rat.mul_nonneg (sq_nonneg b) (sq_nonneg B)) (show (0 : Rat) ≤ 1 - M by grind)
   grind
 generalize a * (s * A) * (N - 1) = m1 at *
 generalize b * (s * B) * (M - 1) = m2 at *
 generalize a * a * (A * A) * (N - 1) = r1 at *
 generalize b * b * (B * B) * (M - 1) = r2 at *
 refine ⟨zero_mid atn btn p1 p2, zero_mid aun bun p1 p2, zero_mid btu atu q2 q1, btt.mid att ?_ ?_, buu.mid auu ?_ ?_, bnn.mid ann kb ka⟩
 · have := Rat.mul_nonneg (sq_nonneg v0) (show (0 : Rat) ≤ -r2 by grind); grind
 · have := Rat.mul_nonneg (sq_nonneg v0) q1; grind
 · have := Rat.mul_nonneg (sq_nonneg v1) (show (0 : Rat) ≤ -r2 by grind); grind
 · have := Rat.mul_nonneg (sq_nonneg v1) q1; grind
end Go.Proofs.Ytnljfcebmgifdaa
