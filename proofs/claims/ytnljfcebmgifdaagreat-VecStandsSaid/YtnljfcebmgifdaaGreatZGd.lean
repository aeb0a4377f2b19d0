/- Shaken: Gd. -/
import Derived.Test.YtnljfcebmgifdaaGreatZQa
import Derived.Test.YtnljfcebmgifdaaGreatZGc
set_option linter.unusedVariables false
set_option linter.unusedSimpArgs false
namespace Go.Proofs.YtnljfcebmgifdaaGreat
open Fl
abbrev PI : Nat := 9218868437227405312
abbrev NI : Nat := 18442240474082181120
/-- R is S / D rounded down. -/
structure ZD (R : Nat) (S : Int) (D : Nat) : Prop where
 gd : Gd R
 np : R ≠ PI
 lo : R = NI ∨ Z R * D ≤ S
 gr : ∀ b, Gd b → b ≠ PI → (b = NI ∨ Z b * D ≤ S) → Z b ≤ Z R
structure ZU (R : Nat) (S : Int) (D : Nat) : Prop where
 gd : Gd R
 np : R ≠ NI
 hi : R = PI ∨ S ≤ Z R * D
 le : ∀ b, Gd b → b ≠ NI → (b = PI ∨ S ≤ Z b * D) → Z R ≤ Z b
theorem toVal_gd (n d : Bool) (W : Nat) (e : Int) (m : Bool) : Gd (toVal n d W e m) := by
 refine ⟨(toVal_ok n d W e m).1, (toVal_ok n d W e m).2, ?_⟩
 unfold toVal pl
 split
 · decide
 · assumption
theorem Z_eq_PI {b : Nat} (h : Gd b) (e : Z b = (rv INF : Int)) : b = PI := h.inj gdPI (by rw [e, Z_PI])
theorem Z_eq_NI {b : Nat} (h : Gd b) (e : Z b = -(rv INF : Int)) : b = NI := h.inj gdNI (by rw [e, Z_NI])
theorem Z_nonneg_mg {b : Nat} (h : 0 ≤ Z b) : Z b = (rv (mg b) : Int) := by
 unfold Z at h ⊢
 cases hs : sg b
 · rfl
 · rw [hs, if_pos rfl] at h; rw [if_pos rfl]; omega
theorem Z_neg_mg {b : Nat} (h : Z b ≤ 0) : Z b = -(rv (mg b) : Int) := by
 unfold Z at h ⊢
 cases hs : sg b
 · rw [hs, if_neg Bool.false_ne_true] at h; rw [if_neg Bool.false_ne_true]; omega
 · rfl
theorem mg_le_inf {b : Nat} (h : Gd b) : mg b ≤ INF := by
 have := h.nn
 unfold nan at this
 have := of_decide_eq_false this
 omega
theorem dir_pos {r : Nat} {i : Bool} : dir true r i = min (r + i.toNat) INF := rfl
theorem srep_dn {n : Bool} {W : Nat} {e : Int} {m : Bool} {S : Int} {D : Nat} (hD : 0 < D) (h : SRep n W e m S D) : ZD (toVal n true W e m) S D := by
 have hz := srep_Z hD h true
 have sp := rep_spot hD h.rep
 obtain ⟨R, hR⟩ : ∃ R, toVal n true W e m = R := ⟨_, rfl⟩
 have gR : Gd R := hR ▸ toVal_gd _ _ _ _ _
 rw [hR] at hz ⊢
 obtain ⟨r, hr⟩ : ∃ r, rr W e = r := ⟨_, rfl⟩
 obtain ⟨i, hi⟩ : ∃ i, ri W e m = i := ⟨_, rfl⟩
 rw [hr, hi] at hz sp
 have lo : rv r * D ≤ S.natAbs := sp.lo
 have hi' : S.natAbs < rv (r + 1) * D := Nat.lt_of_not_le sp.hi
 have ex : i = true ↔ rv r * D < S.natAbs := sp.ex
 have hinf := rv_inf_pos
 have cmpl : ∀ {x y : Nat}, rv x * D < rv y * D → x < y := fun {x y} k => rv_lt_iff.1 (Nat.lt_of_mul_lt_mul_right k)
 by_cases h1 : S < 0
 · rw [if_pos h1, dir_pos] at hz
   have hSn : S = -(S.natAbs : Int) := by omega
   have hi2 : S.natAbs ≤ rv (r + i.toNat) * D := by
     cases i
     · have : ¬ rv r * D < S.natAbs := fun k => Bool.false_ne_true (ex.2 k)
       show S.natAbs ≤ rv (r + 0) * D
       rw [Nat.add_zero]; omega
     · exact Nat.le_of_lt hi'
   refine ⟨gR, ?_, ?_, ?_⟩
   · intro hp
     rw [hp, Z_PI] at hz
     omega
   · by_cases hm : r + i.toNat < INF
     · right
       rw [hz, Nat.min_eq_left (by omega), Int.neg_mul, ← Int.natCast_mul]
       omega
     · left
       rw [Nat.min_eq_right (by omega)] at hz
       exact Z_eq_NI gR hz
   · intro b gb bp hb
     rcases hb with hb | hb
     · have := (Z_range gR.nn).1
       rw [hb, Z_NI]; exact this
     · have hbn : Z b < 0 := by
         apply Int.lt_of_not_ge
         intro k
         have := Int.mul_nonneg k (Int.natCast_nonneg D)
         omega
       have hbm := Z_neg_mg (b := b) (by omega)
       rw [hbm, Int.neg_mul, ← Int.natCast_mul] at hb
       have hb2 : S.natAbs ≤ rv (mg b) * D := by omega
       have hle : min (r + i.toNat) INF ≤ mg b := by
         apply Nat.le_trans (Nat.min_le_left _ _)
         cases i
         · show r ≤ mg b
           apply Nat.le_of_not_lt
           intro k
           have h3 : mg b < r + 0 := k
           have h4 : S.natAbs < rv r * D := Nat.lt_of_le_of_lt hb2 ((Nat.mul_lt_mul_right hD).2 (rv_lt k))
           omega
         · show r + 1 ≤ mg b
           have h4 : rv r * D < S.natAbs := ex.1 rfl
           exact cmpl (Nat.lt_of_lt_of_le h4 hb2)
       have := rv_le hle
       rw [hz, hbm]
       omega
 · rw [if_neg h1] at hz
   have hz : Z R = (rv (min r (INF - 1)) : Int) := hz
   have hSn : S = (S.natAbs : Int) := by omega
   refine ⟨gR, ?_, ?_, ?_⟩
   · intro hp
     rw [hp, Z_PI] at hz
     have h2 : rv (min r (INF - 1)) < rv INF := rv_lt (by have : INF = 9218868437227405312 := rfl; omega)
     omega
   · right
     rw [hz, ← Int.natCast_mul]
     have h2 : rv (min r (INF - 1)) ≤ rv r := rv_le (Nat.min_le_left _ _)
     have h3 := Nat.mul_le_mul_right D h2
     omega
   · intro b gb bp hb
     have hzn : 0 ≤ Z R := by rw [hz]; exact Int.natCast_nonneg _
     by_cases hbz : Z b < 0
     · omega
     · rcases hb with hb | hb
       · rw [hb, Z_NI] at hbz
         have := Z_range gR.nn
         omega
       · have hbm := Z_nonneg_mg (b := b) (by omega)
         rw [hbm, ← Int.natCast_mul] at hb
         have hb2 : rv (mg b) * D ≤ S.natAbs := by omega
         have h3 : mg b ≤ r := by
           have := cmpl (Nat.lt_of_le_of_lt hb2 hi')
           omega
         have h4 : mg b ≠ INF := by
           intro k
           rw [k] at hbm
           exact bp (Z_eq_PI gb hbm)
         have h5 := mg_le_inf gb
         have h6 : mg b ≤ min r (INF - 1) := by omega
         have := rv_le h6
         rw [hz, hbm]
         omega
theorem srep_flip {n : Bool} {W : Nat} {e : Int} {m : Bool} {S : Int} {D : Nat} (h : SRep n W e m S D) : SRep (!n) W e m (-S) D :=
 ⟨by rw [Int.natAbs_neg]; exact h.rep, fun k => by rw [h.neg (by omega)]; rfl, fun k => by rw [h.pos (by omega)]; rfl⟩
theorem ng_PI : ng PI = NI := by decide
theorem ng_NI : ng NI = PI := by decide
theorem Gd.ng {a : Nat} (h : Gd a) : Gd (ng a) := by
 refine ⟨ng_lt a, by rw [ng_nan]; exact h.nn, ?_⟩
 intro k
 have h1 := ng_Z a
 have h2 := ng_mg a
 rw [k] at h2
 have h3 : mg SGN = 0 := by decide
 rw [h3] at h2
 unfold Go.Proofs.YtnljfcebmgifdaaGreat.ng at k
 rw [if_pos h2.symm] at k
 exact absurd k (by decide)
theorem ng_ng {a : Nat} (h : Gd a) : ng (ng a) = a := h.ng.ng.inj h (by rw [ng_Z, ng_Z, Int.neg_neg])
theorem ng_eq_NI {a : Nat} (h : Gd a) (k : ng a = NI) : a = PI := by rw [← ng_ng h, k, ng_NI]
theorem ng_eq_PI {a : Nat} (h : Gd a) (k : ng a = PI) : a = NI := by rw [← ng_ng h, k, ng_PI]
theorem srep_up {n : Bool} {W : Nat} {e : Int} {m : Bool} {S : Int} {D : Nat} (hD : 0 < D) (h : SRep n W e m S D) : ZU (toVal n false W e m) S D := by
 have d := srep_dn hD (srep_flip h)
 have t := toVal_turn (!n) W e m
 rw [Bool.not_not] at t
 have gR := toVal_gd n false W e m
 obtain ⟨R, hR⟩ : ∃ R, toVal n false W e m = R := ⟨_, rfl⟩
 obtain ⟨Q, hQ⟩ : ∃ R, toVal (!n) true W e m = R := ⟨_, rfl⟩
 rw [hR] at gR t ⊢
 rw [hQ] at d t
 have hQ : Q = ng R := d.gd.inj gR.ng (by rw [ng_Z]; exact t)
 subst hQ
 refine ⟨gR, fun k => d.np (by rw [k]; exact ng_NI), ?_, ?_⟩
 · rcases d.lo with k | k
   · left; exact ng_eq_NI gR k
   · right; rw [ng_Z, Int.neg_mul] at k; omega
 · intro b gb bn hb
   have := d.gr (ng b) gb.ng (fun k => bn (ng_eq_PI gb k)) (by
     rcases hb with k | k
     · left; rw [k]; exact ng_PI
     · right; rw [ng_Z, Int.neg_mul]; omega)
   rw [ng_Z, ng_Z] at this
   omega
def UU : Rat := ((2 ^ BB : Nat) : Rat)
theorem UU_pos : 0 < UU := Rat.natCast_pos.2 (Nat.two_pow_pos _)
theorem UU_ne : UU ≠ 0 := Rat.ne_of_gt UU_pos
/-- A word's number. -/
def fv (b : Nat) : Rat := (Z b : Rat) / UU
theorem div_le_div_pos {a b u : Rat} (hu : 0 < u) : a / u ≤ b / u ↔ a ≤ b := by
 have h1 : a / u * u = a := Rat.div_mul_cancel (Rat.ne_of_gt hu)
 have h2 : b / u * u = b := Rat.div_mul_cancel (Rat.ne_of_gt hu)
 constructor
 · intro h
   have := Rat.mul_le_mul_of_nonneg_right h (Rat.le_of_lt hu)
   rw [h1, h2] at this
   exact this
 · intro h
   apply Rat.le_of_mul_le_mul_right _ hu
   rw [h1, h2]
   exact h
theorem le_div_pos {a b u : Rat} (hu : 0 < u) : a ≤ b / u ↔ a * u ≤ b := by
 have h := div_le_div_pos (a := a * u) (b := b) hu
 rw [Rat.mul_div_cancel (Rat.ne_of_gt hu)] at h
 exact h
theorem div_pos_le {a b u : Rat} (hu : 0 < u) : a / u ≤ b ↔ a ≤ b * u := by
 have h := div_le_div_pos (a := a) (b := b * u) hu
 rw [Rat.mul_div_cancel (Rat.ne_of_gt hu)] at h
 exact h
theorem fv_le {a b : Nat} : fv a ≤ fv b ↔ Z a ≤ Z b := by
 unfold fv
 rw [div_le_div_pos UU_pos, Rat.intCast_le_intCast]
theorem fv_lt {a b : Nat} : fv a < fv b ↔ Z a < Z b := by
 have := fv_le (a := b) (b := a)
 rw [← Rat.not_le, this]
 omega
theorem fv0 : fv 0 = 0 := by unfold fv; rw [show Z 0 = 0 by decide]; rw [Rat.intCast_zero, Rat.div_def, Rat.zero_mul]
theorem fv_nonneg {a : Nat} : 0 ≤ fv a ↔ 0 ≤ Z a := by have := fv_le (a := 0) (b := a); rw [fv0, show Z 0 = 0 by decide] at this; exact this
theorem fv_pos {a : Nat} : 0 < fv a ↔ 0 < Z a := by have := fv_lt (a := 0) (b := a); rw [fv0, show Z 0 = 0 by decide] at this; exact this
theorem fv_neg {a : Nat} : fv a < 0 ↔ Z a < 0 := by have := fv_lt (a := a) (b := 0); rw [fv0, show Z 0 = 0 by decide] at this; exact this
theorem fv_ng (a : Nat) : fv (ng a) = -fv a := by
 unfold fv
 rw [ng_Z, Rat.intCast_neg, Rat.div_def, Rat.div_def, Rat.neg_mul]
/-- R is x rounded down. -/
structure RD (R : Nat) (x : Rat) : Prop where
 gd : Gd R
 np : R ≠ PI
 lo : R = NI ∨ fv R ≤ x
 gr : ∀ b, Gd b → b ≠ PI → (b = NI ∨ fv b ≤ x) → Z b ≤ Z R
structure RU (R : Nat) (x : Rat) : Prop where
 gd : Gd R
 np : R ≠ NI
 hi : R = PI ∨ x ≤ fv R
 le : ∀ b, Gd b → b ≠ NI → (b = PI ∨ x ≤ fv b) → Z R ≤ Z b
theorem RD.uniq {R Q : Nat} {x : Rat} (h : RD R x) (k : RD Q x) : R = Q := h.gd.inj k.gd (Int.le_antisymm (k.gr R h.gd h.np h.lo) (h.gr Q k.gd k.np k.lo))
theorem RU.uniq {R Q : Nat} {x : Rat} (h : RU R x) (k : RU Q x) : R = Q := h.gd.inj k.gd (Int.le_antisymm (h.le Q k.gd k.np k.hi) (k.le R h.gd h.np h.hi))
theorem RD.mono {R Q : Nat} {x y : Rat} (h : RD R x) (k : RD Q y) (hxy : x ≤ y) : Z R ≤ Z Q := k.gr R h.gd h.np (h.lo.imp id fun l => Rat.le_trans l hxy)
theorem RU.mono {R Q : Nat} {x y : Rat} (h : RU R x) (k : RU Q y) (hxy : x ≤ y) : Z R ≤ Z Q := h.le Q k.gd k.np (k.hi.imp id fun l => Rat.le_trans hxy l)
theorem RD.neg {R : Nat} {x : Rat} (h : RD R x) : RU (ng R) (-x) := by
 refine ⟨h.gd.ng, fun k => h.np (ng_eq_NI h.gd k), ?_, ?_⟩
 · rcases h.lo with k | k
   · left; rw [k, ng_NI]
   · right; rw [fv_ng]; exact Rat.neg_le_neg k
 · intro b gb bn hb
   have := h.gr (ng b) gb.ng (fun k => bn (ng_eq_PI gb k)) (by
     rcases hb with k | k
     · left; rw [k, ng_PI]
     · right; rw [fv_ng, Rat.neg_le_iff]; exact k)
   rw [ng_Z] at this ⊢
   omega
theorem RU.neg {R : Nat} {x : Rat} (h : RU R x) : RD (ng R) (-x) := by
 refine ⟨h.gd.ng, fun k => h.np (ng_eq_PI h.gd k), ?_, ?_⟩
 · rcases h.hi with k | k
   · left; rw [k, ng_PI]
   · right; rw [fv_ng]; exact Rat.neg_le_neg k
 · intro b gb bn hb
   have := h.le (ng b) gb.ng (fun k => bn (ng_eq_NI gb k)) (by
     rcases hb with k | k
     · left; rw [k, ng_NI]
     · right; rw [fv_ng, Rat.le_neg_iff]; exact k)
   rw [ng_Z] at this ⊢
   omega
theorem cast_mul_le {z S : Int} {D : Nat} {x : Rat} (hD : 0 < D) (hx : x * ((D : Rat) * UU) = (S : Rat)) : z * D ≤ S ↔ (z : Rat) / UU ≤ x := by
 rw [div_pos_le UU_pos, ← Rat.intCast_le_intCast, Rat.intCast_mul, ← hx, Rat.intCast_natCast]
 have hDp : (0 : Rat) < (D : Rat) := Rat.natCast_pos.2 hD
 have e : x * ((D : Rat) * UU) = x * UU * (D : Rat) := by grind
 rw [e]
 constructor
 · intro h; exact Rat.le_of_mul_le_mul_right h hDp
 · intro h; exact Rat.mul_le_mul_of_nonneg_right h (Rat.le_of_lt hDp)
theorem cast_le_mul {z S : Int} {D : Nat} {x : Rat} (hD : 0 < D) (hx : x * ((D : Rat) * UU) = (S : Rat)) : S ≤ z * D ↔ x ≤ (z : Rat) / UU := by
 rw [le_div_pos UU_pos, ← Rat.intCast_le_intCast, Rat.intCast_mul, ← hx, Rat.intCast_natCast]
 have hDp : (0 : Rat) < (D : Rat) := Rat.natCast_pos.2 hD
 have e : x * ((D : Rat) * UU) = x * UU * (D : Rat) := by grind
 rw [e]
 constructor
 · intro h; exact Rat.le_of_mul_le_mul_right h hDp
 · intro h; exact Rat.mul_le_mul_of_nonneg_right h (Rat.le_of_lt hDp)
theorem ZD.rat {R : Nat} {S : Int} {D : Nat} {x : Rat} (h : ZD R S D) (hD : 0 < D) (hx : x * ((D : Rat) * UU) = (S : Rat)) : RD R x :=
 ⟨h.gd, h.np, h.lo.imp id (cast_mul_le hD hx).1, fun b gb bp hb => h.gr b gb bp (hb.imp id (cast_mul_le hD hx).2)⟩
theorem ZU.rat {R : Nat} {S : Int} {D : Nat} {x : Rat} (h : ZU R S D) (hD : 0 < D) (hx : x * ((D : Rat) * UU) = (S : Rat)) : RU R x :=
 ⟨h.gd, h.np, h.hi.imp id (cast_le_mul hD hx).1, fun b gb bp hb => h.le b gb bp (hb.imp id (cast_le_mul hD hx).2)⟩
theorem add_x (a b : Nat) : (fv a + fv b) * (((1 : Nat) : Rat) * UU) = ((Z a + Z b : Int) : Rat) := by
 have hu := UU_ne
 unfold fv
 rw [Rat.intCast_add, Rat.natCast_ofNat]
 grind
theorem mul_x (a b : Nat) : (fv a * fv b) * (((2 ^ BB : Nat) : Rat) * UU) = ((Z a * Z b : Int) : Rat) := by
 have hu := UU_ne
 unfold fv
 rw [Rat.intCast_mul, show ((2 ^ BB : Nat) : Rat) = UU from rfl]
 grind
theorem add_dn {a b : Nat} (fa : fin a = true) (fb : fin b = true) : RD (addR a b true).1 (fv a + fv b) := by
 unfold addR
 rw [fa, fb]
 exact (srep_dn Nat.one_pos (sum_rep a b fa fb)).rat Nat.one_pos (add_x a b)
theorem add_up {a b : Nat} (fa : fin a = true) (fb : fin b = true) : RU (addR a b false).1 (fv a + fv b) := by
 unfold addR
 rw [fa, fb]
 exact (srep_up Nat.one_pos (sum_rep a b fa fb)).rat Nat.one_pos (add_x a b)
theorem mul_dn {a b : Nat} (fa : fin a = true) (fb : fin b = true) : RD (mulR a b true).1 (fv a * fv b) := by
 unfold mulR mulV
 rw [fa, fb]
 exact (srep_dn (Nat.two_pow_pos _) (mul_rep a b)).rat (Nat.two_pow_pos _) (mul_x a b)
theorem mul_up {a b : Nat} (fa : fin a = true) (fb : fin b = true) : RU (mulR a b false).1 (fv a * fv b) := by
 unfold mulR mulV
 rw [fa, fb]
 exact (srep_up (Nat.two_pow_pos _) (mul_rep a b)).rat (Nat.two_pow_pos _) (mul_x a b)
end Go.Proofs.YtnljfcebmgifdaaGreat
namespace Go.Proofs.YtnljfcebmgifdaaGreat
open Fl
theorem qX_rv (a : Nat) : qX a * 2 ^ (sE a + 1074).toNat = rv (mg a) * 2 ^ (53 - len (sM a)) := by
 unfold qX
 rw [Nat.mul_right_comm, sM_rv]
/-- S / D for a quotient. -/
def divS0 (a b : Nat) : Int := if Z b < 0 then -(Z a * (2 ^ BB : Nat)) else Z a * (2 ^ BB : Nat)
theorem Z_natAbs (a : Nat) : (Z a).natAbs = rv (mg a) := by unfold Z; exact natAbs_unit _ _
theorem divS0_abs (a b : Nat) : (divS0 a b).natAbs = rv (mg a) * 2 ^ BB := by
 unfold divS0
 split
 · rw [Int.natAbs_neg, Int.natAbs_mul, Z_natAbs, Int.natAbs_natCast]
 · rw [Int.natAbs_mul, Z_natAbs, Int.natAbs_natCast]
theorem div_core (a b W c : Nat) (e : Int) (he : e = divE a b) (hb : mg b ≠ 0) (P Q : Nat) (hP : 2 ^ (e + 1074).toNat = P) (hQ : 2 ^ (-(e + 1074)).toNat = Q) :
   ∃ K, 0 < K ∧ (W * P * rv (mg b)) * K = W * qX b * (2 ^ (sE b + 1074).toNat * 2 ^ (e + 1074).toNat * 2 ^ (53 - len (sM a))) ∧ (rv (mg a) * 2 ^ BB * Q) * K = qX a * 18446744073709551616 * (2 ^ (sE b + 1074).toNat * 2 ^ (e + 1074).toNat * 2 ^ (53 - len (sM a))) := by
 refine ⟨2 ^ (53 - len (sM a)) * 2 ^ (53 - len (sM b)), Nat.mul_pos (Nat.two_pow_pos _) (Nat.two_pow_pos _), ?_, ?_⟩
 · have h := qX_rv b
   subst hP
   calc W * 2 ^ (e + 1074).toNat * rv (mg b) * (2 ^ (53 - len (sM a)) * 2 ^ (53 - len (sM b)))
       = W * (rv (mg b) * 2 ^ (53 - len (sM b))) * (2 ^ (e + 1074).toNat * 2 ^ (53 - len (sM a))) := by
         generalize 2 ^ (e + 1074).toNat = p
         generalize rv (mg b) = r
         generalize 2 ^ (53 - len (sM a)) = k
         generalize 2 ^ (53 - len (sM b)) = l
         grind
     _ = _ := by
         rw [← h]
         generalize 2 ^ (e + 1074).toNat = p
         generalize 2 ^ (53 - len (sM a)) = k
         generalize 2 ^ (sE b + 1074).toNat = l
         grind
 · have h := qX_rv a
   subst hQ
   have hx : 2 ^ BB * 2 ^ (-(e + 1074)).toNat * 2 ^ (53 - len (sM b)) * 2 ^ (sE a + 1074).toNat = 18446744073709551616 * (2 ^ (sE b + 1074).toNat * 2 ^ (e + 1074).toNat * 2 ^ (53 - len (sM a))) := by
     rw [show (18446744073709551616 : Nat) = 2 ^ 64 by decide, ← Nat.pow_add, ← Nat.pow_add, ← Nat.pow_add, ← Nat.pow_add, ← Nat.pow_add, ← Nat.pow_add]
     congr 1
     have hB := BB_eq
     have h1 := sE_nn a
     have h2 := sE_nn b
     have h3 : e = sE a - ((53 - len (sM a) : Nat) : Int) - 64 - (sE b - ((53 - len (sM b) : Nat) : Int)) := by rw [he]; rfl
     omega
   calc rv (mg a) * 2 ^ BB * 2 ^ (-(e + 1074)).toNat * (2 ^ (53 - len (sM a)) * 2 ^ (53 - len (sM b)))
       = (rv (mg a) * 2 ^ (53 - len (sM a))) * (2 ^ BB * 2 ^ (-(e + 1074)).toNat * 2 ^ (53 - len (sM b))) := by
         generalize 2 ^ (-(e + 1074)).toNat = p
         generalize rv (mg a) = r
         generalize 2 ^ (53 - len (sM a)) = k
         generalize 2 ^ (53 - len (sM b)) = l
         generalize 2 ^ BB = u
         grind
     _ = qX a * (2 ^ BB * 2 ^ (-(e + 1074)).toNat * 2 ^ (53 - len (sM b)) * 2 ^ (sE a + 1074).toNat) := by
         rw [← h]
         generalize 2 ^ (-(e + 1074)).toNat = p
         generalize 2 ^ (sE a + 1074).toNat = k
         generalize 2 ^ (53 - len (sM b)) = l
         generalize 2 ^ BB = u
         grind
     _ = _ := by
         rw [hx]
         generalize 2 ^ (sE b + 1074).toNat = p
         generalize 2 ^ (e + 1074).toNat = k
         generalize 2 ^ (53 - len (sM a)) = l
         grind
theorem div_rep (a b : Nat) (fa : fin a = true) (fb : fin b = true) (hb : mg b ≠ 0) : SRep (sg a != sg b) (divW a b) (divE a b) (divM a b) (divS0 a b) (rv (mg b)) := by
 have hsb : sM b ≠ 0 := fun h => hb ((sM_zero b).1 h)
 have hqb : 0 < qX b := by have := qX_ge b hsb; omega
 have hdm := Nat.div_add_mod (qX a * 18446744073709551616) (qX b)
 have hml := Nat.mod_lt (qX a * 18446744073709551616) hqb
 have hrb := rv_pos (r := mg b) (by omega)
 have hW : divW a b = qX a * 18446744073709551616 / qX b := rfl
 obtain ⟨K, hK, c1, c2⟩ := div_core a b (divW a b) 0 (divE a b) rfl hb _ _ rfl rfl
 obtain ⟨K', hK', d1, d2⟩ := div_core a b (divW a b + 1) 0 (divE a b) rfl hb _ _ rfl rfl
 obtain ⟨X, hX⟩ : ∃ X, 2 ^ (sE b + 1074).toNat * 2 ^ (divE a b + 1074).toNat * 2 ^ (53 - len (sM a)) = X := ⟨_, rfl⟩
 have hXp : 0 < X := by rw [← hX]; exact Nat.mul_pos (Nat.mul_pos (Nat.two_pow_pos _) (Nat.two_pow_pos _)) (Nat.two_pow_pos _)
 rw [hX] at c1 c2 d1 d2
 have hle : divW a b * qX b ≤ qX a * 18446744073709551616 := by rw [hW]; exact Nat.div_mul_le_self _ _
 have hlt : qX a * 18446744073709551616 < (divW a b + 1) * qX b := by
   rw [Nat.add_mul, Nat.one_mul, hW, Nat.mul_comm (_ / _)]; omega
 refine ⟨⟨?_, ?_, ?_⟩, ?_, ?_⟩
 · rw [divS0_abs]
   apply Nat.le_of_mul_le_mul_right _ hK
   rw [c1, c2]
   exact Nat.mul_le_mul_right _ hle
 · intro hm
   rw [divS0_abs]
   have hm0 : qX a * 18446744073709551616 % qX b = 0 := by
     unfold divM at hm
     simpa using hm
   have he : divW a b * qX b = qX a * 18446744073709551616 := by rw [hW, Nat.mul_comm]; omega
   apply Nat.eq_of_mul_eq_mul_right hK
   rw [c1, c2, he]
 · intro hm
   have hm0 : qX a * 18446744073709551616 % qX b ≠ 0 := by
     unfold divM at hm
     simpa using hm
   have hne : divW a b * qX b < qX a * 18446744073709551616 := by
     rw [hW, Nat.mul_comm]; omega
   have hsa : sM a ≠ 0 := by
     intro h
     rw [qX_zero a h, Nat.zero_mul, Nat.zero_mod] at hm0
     exact hm0 rfl
   have hbig := div_big a b hsa hsb
   rw [divS0_abs]
   refine ⟨?_, ?_, ?_, ?_⟩
   · apply Nat.lt_of_mul_lt_mul_right (a := K)
     rw [c1, c2]
     exact (Nat.mul_lt_mul_right hXp).2 hne
   · apply Nat.lt_of_mul_lt_mul_right (a := K')
     rw [d1, d2]
     exact (Nat.mul_lt_mul_right hXp).2 hlt
   · unfold drop; omega
   · intro h0
     rw [h0] at hbig
     exact absurd hbig (by decide)
 · intro hp
   unfold divS0 at hp
   have hB : (0 : Int) < ((2 ^ BB : Nat) : Int) := by exact Int.natCast_pos.2 (Nat.two_pow_pos _)
   by_cases hn : Z b < 0
   · rw [if_pos hn] at hp
     have h1 : sg b = true := by
       unfold Z at hn
       cases h : sg b
       · rw [h] at hn; rw [if_neg Bool.false_ne_true] at hn; omega
       · rfl
     have h2 : Z a < 0 := by
       apply Int.lt_of_not_ge
       intro k
       have := Int.mul_nonneg k (Int.le_of_lt hB)
       omega
     have h3 : sg a = true := by
       unfold Z at h2
       cases h : sg a
       · rw [h] at h2; rw [if_neg Bool.false_ne_true] at h2; omega
       · rfl
     rw [h1, h3]; rfl
   · rw [if_neg hn] at hp
     have h1 : sg b = false := by
       unfold Z at hn
       cases h : sg b
       · rfl
       · rw [h, if_pos rfl] at hn; omega
     have h2 : 0 < Z a := by
       apply Int.lt_of_not_ge
       intro k
       have := Int.mul_nonneg (show 0 ≤ -Z a by omega) (Int.le_of_lt hB)
       rw [Int.neg_mul] at this
       omega
     have h3 : sg a = false := by
       unfold Z at h2
       cases h : sg a
       · rfl
       · rw [h, if_pos rfl] at h2; omega
     rw [h1, h3]; rfl
 · intro hp
   unfold divS0 at hp
   have hB : (0 : Int) < ((2 ^ BB : Nat) : Int) := by exact Int.natCast_pos.2 (Nat.two_pow_pos _)
   by_cases hn : Z b < 0
   · rw [if_pos hn] at hp
     have h1 : sg b = true := by
       unfold Z at hn
       cases h : sg b
       · rw [h] at hn; rw [if_neg Bool.false_ne_true] at hn; omega
       · rfl
     have h2 : 0 < Z a := by
       apply Int.lt_of_not_ge
       intro k
       have := Int.mul_nonneg (show 0 ≤ -Z a by omega) (Int.le_of_lt hB)
       rw [Int.neg_mul] at this
       omega
     have h3 : sg a = false := by
       unfold Z at h2
       cases h : sg a
       · rfl
       · rw [h, if_pos rfl] at h2; omega
     rw [h1, h3]; rfl
   · rw [if_neg hn] at hp
     have h1 : sg b = false := by
       unfold Z at hn
       cases h : sg b
       · rfl
       · rw [h, if_pos rfl] at hn; omega
     have h2 : Z a < 0 := by
       apply Int.lt_of_not_ge
       intro k
       have := Int.mul_nonneg k (Int.le_of_lt hB)
       omega
     have h3 : sg a = true := by
       unfold Z at h2
       cases h : sg a
       · rw [h] at h2; rw [if_neg Bool.false_ne_true] at h2; omega
       · rfl
     rw [h1, h3]; rfl
theorem div_x (a b : Nat) (hb : mg b ≠ 0) : (fv a / fv b) * (((rv (mg b) : Nat) : Rat) * UU) = ((divS0 a b : Int) : Rat) := by
 have hu := UU_ne
 have hrb := rv_pos (r := mg b) (by omega)
 have hr : ((rv (mg b) : Nat) : Rat) ≠ 0 := Rat.ne_of_gt (Rat.natCast_pos.2 hrb)
 unfold divS0 fv
 by_cases hn : Z b < 0
 · rw [if_pos hn, Z_neg_mg (b := b) (by omega), Rat.intCast_neg, Rat.intCast_neg, Rat.intCast_mul, Rat.intCast_natCast, Rat.intCast_natCast, show ((2 ^ BB : Nat) : Rat) = UU from rfl]
   generalize ((rv (mg b) : Nat) : Rat) = r at hr ⊢
   grind
 · rw [if_neg hn, Z_nonneg_mg (b := b) (by omega), Rat.intCast_mul, Rat.intCast_natCast, Rat.intCast_natCast, show ((2 ^ BB : Nat) : Rat) = UU from rfl]
   generalize ((rv (mg b) : Nat) : Rat) = r at hr ⊢
   grind
theorem Z_mg_ne {b : Nat} (h : Z b ≠ 0) : mg b ≠ 0 := by
 intro k
 apply h
 unfold Z
 rw [k, rv_zero]
 cases sg b <;> rfl
theorem div_dn {a b : Nat} (fa : fin a = true) (fb : fin b = true) (hb : Z b ≠ 0) : RD (divR a b true).1 (fv a / fv b) := by
 unfold divR divV
 rw [fa, fb]
 rw [if_pos (by rfl), if_neg (Z_mg_ne hb)]
 exact (srep_dn (rv_pos (Nat.pos_of_ne_zero (Z_mg_ne hb))) (div_rep a b fa fb (Z_mg_ne hb))).rat (rv_pos (Nat.pos_of_ne_zero (Z_mg_ne hb))) (div_x a b (Z_mg_ne hb))
theorem div_up {a b : Nat} (fa : fin a = true) (fb : fin b = true) (hb : Z b ≠ 0) : RU (divR a b false).1 (fv a / fv b) := by
 unfold divR divV
 rw [fa, fb]
 rw [if_pos (by rfl), if_neg (Z_mg_ne hb)]
 exact (srep_up (rv_pos (Nat.pos_of_ne_zero (Z_mg_ne hb))) (div_rep a b fa fb (Z_mg_ne hb))).rat (rv_pos (Nat.pos_of_ne_zero (Z_mg_ne hb))) (div_x a b (Z_mg_ne hb))
theorem sqrtR_gd (a : Nat) (d : Bool) : Gd (sqrtR a d).1 := by
 refine ⟨(sqrtR_ok a d).1, (sqrtR_ok a d).2, ?_⟩
 unfold sqrtR
 split
 · split
   · decide
   · split
     · decide
     · exact (toVal_gd _ _ _ _ _).nz
 · decide
/-- The root of a number that isn't below 0. -/
structure QD (R a : Nat) : Prop where
 gd : Gd R
 np : R ≠ PI
 nn : 0 ≤ Z R
 lo : Z R * Z R ≤ Z a * (2 ^ BB : Nat)
 gr : ∀ b, Gd b → b ≠ PI → Z b * Z b ≤ Z a * (2 ^ BB : Nat) → Z b ≤ Z R
structure QU (R a : Nat) : Prop where
 gd : Gd R
 nn : 0 ≤ Z R
 hi : R = PI ∨ Z a * (2 ^ BB : Nat) ≤ Z R * Z R
 le : ∀ b, Gd b → 0 ≤ Z b → (b = PI ∨ Z a * (2 ^ BB : Nat) ≤ Z b * Z b) → Z R ≤ Z b
theorem sqrt_facts {a : Nat} (fa : fin a = true) (hz : 0 < Z a) (d : Bool) : ∃ r i, Spot (fun x => x * x ≤ rv (mg a) * 2 ^ BB) (fun x => x * x < rv (mg a) * 2 ^ BB) r i ∧ Z (sqrtR a d).1 = (rv (dir (!d) r i) : Int) := by
 have hm : mg a ≠ 0 := Z_mg_ne (by omega)
 have hs : sM a ≠ 0 := fun h => hm ((sM_zero a).1 h)
 refine ⟨_, _, root_spot a _ fa hs (rootOf_is (rM a)), ?_⟩
 unfold sqrtR
 rw [if_pos fa, if_neg (by omega), if_neg hm]
 show Z (rootV a _ d) = _
 unfold rootV
 rw [Z_toVal, if_neg Bool.false_ne_true, near_dir, show (false == d) = !d by cases d <;> rfl]
theorem sqrt_zero {a : Nat} (fa : fin a = true) (hz : Z a = 0) (d : Bool) : (sqrtR a d).1 = 0 := by
 have hm : mg a = 0 := by
   apply Nat.eq_zero_of_not_pos
   intro k
   have := rv_pos k
   have h2 := Z_natAbs a
   omega
 unfold sqrtR
 rw [if_pos fa, if_neg (by omega), if_pos hm]
theorem sqrt_dn {a : Nat} (fa : fin a = true) (hz : 0 ≤ Z a) : QD (sqrtR a true).1 a := by
 by_cases h0 : Z a = 0
 · rw [sqrt_zero fa h0]
   refine ⟨gd0, by decide, by decide, by rw [h0, Int.zero_mul]; decide, ?_⟩
   intro b gb bp hb
   rw [h0, Int.zero_mul] at hb
   have z0 : Z 0 = 0 := by decide
   rw [z0]
   apply Int.le_of_not_gt
   intro k
   have := Int.mul_pos k k
   omega
 · obtain ⟨r, i, sp, hR⟩ := sqrt_facts fa (by omega) true
   have gR := sqrtR_gd a true
   obtain ⟨R, hRR⟩ : ∃ R, (sqrtR a true).1 = R := ⟨_, rfl⟩
   rw [hRR] at hR gR ⊢
   have hR : Z R = (rv (min r (INF - 1)) : Int) := hR
   have hA : Z a * (2 ^ BB : Nat) = ((rv (mg a) * 2 ^ BB : Nat) : Int) := by rw [Z_nonneg_mg hz, Int.natCast_mul]
   refine ⟨gR, ?_, by rw [hR]; exact Int.natCast_nonneg _, ?_, ?_⟩
   · intro hp
     rw [hp, Z_PI] at hR
     have h2 : rv (min r (INF - 1)) < rv INF := rv_lt (by have : INF = 9218868437227405312 := rfl; omega)
     omega
   · rw [hA, hR, ← Int.natCast_mul]
     have h1 : rv (min r (INF - 1)) ≤ rv r := rv_le (Nat.min_le_left _ _)
     have h2 : rv r * rv r ≤ rv (mg a) * 2 ^ BB := sp.lo
     exact Int.ofNat_le.2 (Nat.le_trans (Nat.mul_le_mul h1 h1) h2)
   · intro b gb bp hb
     by_cases hbz : Z b < 0
     · have : 0 ≤ Z R := by rw [hR]; exact Int.natCast_nonneg _
       omega
     · have hbm := Z_nonneg_mg (b := b) (by omega)
       rw [hA, hbm, ← Int.natCast_mul] at hb
       have hb2 := Int.ofNat_le.1 hb
       have hhi : rv (mg a) * 2 ^ BB < rv (r + 1) * rv (r + 1) := Nat.lt_of_not_le sp.hi
       have h3 : mg b ≤ r := by
         apply Nat.le_of_not_lt
         intro k
         have h4 : rv (r + 1) ≤ rv (mg b) := rv_le k
         have h5 := Nat.mul_le_mul h4 h4
         omega
       have h4 : mg b ≠ INF := by
         intro k
         rw [k] at hbm
         exact bp (Z_eq_PI gb hbm)
       have h5 := mg_le_inf gb
       have h6 : mg b ≤ min r (INF - 1) := by omega
       have := rv_le h6
       rw [hR, hbm]
       omega
theorem sqrt_up {a : Nat} (fa : fin a = true) (hz : 0 ≤ Z a) : QU (sqrtR a false).1 a := by
 by_cases h0 : Z a = 0
 · rw [sqrt_zero fa h0]
   refine ⟨gd0, by decide, Or.inr (by rw [h0, Int.zero_mul]; decide), ?_⟩
   intro b gb bp hb
   have z0 : Z 0 = 0 := by decide
   rw [z0]
   exact bp
 · obtain ⟨r, i, sp, hR⟩ := sqrt_facts fa (by omega) false
   have gR := sqrtR_gd a false
   obtain ⟨R, hRR⟩ : ∃ R, (sqrtR a false).1 = R := ⟨_, rfl⟩
   rw [hRR] at hR gR ⊢
   have hR : Z R = (rv (min (r + i.toNat) INF) : Int) := hR
   have hA : Z a * (2 ^ BB : Nat) = ((rv (mg a) * 2 ^ BB : Nat) : Int) := by rw [Z_nonneg_mg hz, Int.natCast_mul]
   have hhi : rv (mg a) * 2 ^ BB < rv (r + 1) * rv (r + 1) := Nat.lt_of_not_le sp.hi
   have ex : i = true ↔ rv r * rv r < rv (mg a) * 2 ^ BB := sp.ex
   refine ⟨gR, by rw [hR]; exact Int.natCast_nonneg _, ?_, ?_⟩
   · by_cases hm : r + i.toNat < INF
     · right
       rw [hA, hR, Nat.min_eq_left (by omega), ← Int.natCast_mul]
       apply Int.ofNat_le.2
       cases i
       · have : ¬ rv r * rv r < rv (mg a) * 2 ^ BB := fun k => Bool.false_ne_true (ex.2 k)
         show _ ≤ rv (r + 0) * rv (r + 0)
         rw [Nat.add_zero]
         omega
       · exact Nat.le_of_lt hhi
     · left
       rw [Nat.min_eq_right (by omega)] at hR
       exact Z_eq_PI gR hR
   · intro b gb bz hb
     have hbm := Z_nonneg_mg (b := b) bz
     rcases hb with hb | hb
     · have := (Z_range gR.nn).2
       rw [hb, Z_PI]; exact this
     · rw [hA, hbm, ← Int.natCast_mul] at hb
       have hb2 := Int.ofNat_le.1 hb
       have hle : r + i.toNat ≤ mg b := by
         cases i
         · show r + 0 ≤ mg b
           apply Nat.le_of_not_lt
           intro k
           have h4 : rv (mg b) < rv r := rv_lt k
           have h5 := Nat.mul_lt_mul'' h4 h4
           have h6 : rv r * rv r ≤ rv (mg a) * 2 ^ BB := sp.lo
           omega
         · show r + 1 ≤ mg b
           apply Nat.lt_of_not_le
           intro k
           have h4 : rv (mg b) ≤ rv r := rv_le k
           have h5 := Nat.mul_le_mul h4 h4
           have h6 := ex.1 rfl
           omega
       have := rv_le (Nat.le_trans (Nat.min_le_left (r + i.toNat) INF) hle)
       rw [hR, hbm]
       omega
end Go.Proofs.YtnljfcebmgifdaaGreat
namespace Go.Proofs.YtnljfcebmgifdaaGreat
open Fl
/-- A span. -/
structure Sp where
 lo : Nat
 hi : Nat
 vd : Vd lo hi
theorem Sp.ext {a b : Sp} (h1 : a.lo = b.lo) (h2 : a.hi = b.hi) : a = b := by
 cases a; cases b; subst h1; subst h2; rfl
def Sp.wide (a : Sp) : Bool := wd a.lo a.hi
theorem Sp.fins {a : Sp} (h : a.wide = false) : fin a.lo = true ∧ fin a.hi = true := by
 unfold Sp.wide wd at h
 cases h1 : fin a.lo <;> cases h2 : fin a.hi <;> simp_all
theorem fin_NI : fin NI = false := by decide
theorem fin_PI : fin PI = false := by decide
/-- A number lies in a span. -/
structure InS (x : Rat) (a : Sp) : Prop where
 lo : a.lo = NI ∨ fv a.lo ≤ x
 hi : a.hi = PI ∨ x ≤ fv a.hi
/-- A span lies in another one. -/
structure Wi (c a : Sp) : Prop where
 lo : Z a.lo ≤ Z c.lo
 hi : Z c.hi ≤ Z a.hi
theorem Wi.refl (a : Sp) : Wi a a := ⟨Int.le_refl _, Int.le_refl _⟩
theorem Wi.trans {a b c : Sp} (h : Wi a b) (k : Wi b c) : Wi a c := ⟨Int.le_trans k.lo h.lo, Int.le_trans h.hi k.hi⟩
theorem lo_le {b c : Nat} (gb : Gd b) (gc : Gd c) (h : Z b ≤ Z c) {x : Rat} (k : c = NI ∨ fv c ≤ x) : b = NI ∨ fv b ≤ x := by
 rcases k with k | k
 · left
   rw [k, Z_NI] at h
   have := Z_range gb.nn
   exact Z_eq_NI gb (by omega)
 · right
   exact Rat.le_trans (fv_le.2 h) k
theorem hi_le {b c : Nat} (gb : Gd b) (gc : Gd c) (h : Z c ≤ Z b) {x : Rat} (k : c = PI ∨ x ≤ fv c) : b = PI ∨ x ≤ fv b := by
 rcases k with k | k
 · left
   rw [k, Z_PI] at h
   have := Z_range gb.nn
   exact Z_eq_PI gb (by omega)
 · right
   exact Rat.le_trans k (fv_le.2 h)
theorem InS.of_wi {x : Rat} {c a : Sp} (h : InS x c) (k : Wi c a) : InS x a := ⟨lo_le a.vd.l c.vd.l k.lo h.lo, hi_le a.vd.h c.vd.h k.hi h.hi⟩
theorem Sp.fv_le (a : Sp) : fv a.lo ≤ fv a.hi := Go.Proofs.YtnljfcebmgifdaaGreat.fv_le.2 a.vd.le
theorem Sp.in_lo (a : Sp) : InS (fv a.lo) a := ⟨Or.inr Rat.le_refl, Or.inr a.fv_le⟩
theorem Sp.in_hi (a : Sp) : InS (fv a.hi) a := ⟨Or.inr a.fv_le, Or.inr Rat.le_refl⟩
theorem Wi.fin {c a : Sp} (h : Wi c a) (w : a.wide = false) : c.wide = false := by
 have ⟨f1, f2⟩ := Sp.fins w
 have z1 := Z_fin f1
 have z2 := Z_fin f2
 have h1 := h.lo
 have h2 := h.hi
 have h3 := c.vd.le
 have g1 := fin_Z c.vd.l.nn (by omega) (by omega)
 have g2 := fin_Z c.vd.h.nn (by omega) (by omega)
 unfold Sp.wide wd
 rw [g1, g2]; rfl
theorem InS.lo' {x : Rat} {a : Sp} (h : InS x a) (f : fin a.lo = true) : fv a.lo ≤ x := by
 rcases h.lo with k | k
 · rw [k, fin_NI] at f; exact absurd f Bool.false_ne_true
 · exact k
theorem InS.hi' {x : Rat} {a : Sp} (h : InS x a) (f : fin a.hi = true) : x ≤ fv a.hi := by
 rcases h.hi with k | k
 · rw [k, fin_PI] at f; exact absurd f Bool.false_ne_true
 · exact k
def allS : Sp := ⟨NI, PI, gdNI, gdPI, by rw [Z_NI, Z_PI]; omega, by decide, by decide⟩
theorem in_all (x : Rat) : InS x allS := ⟨Or.inl rfl, Or.inl rfl⟩
theorem wi_all (c : Sp) : Wi c allS := by
 have h1 := Z_range c.vd.l.nn
 have h2 := Z_range c.vd.h.nn
 refine ⟨?_, ?_⟩
 · show Z NI ≤ _
   rw [Z_NI]; exact h1.1
 · show _ ≤ Z PI
   rw [Z_PI]; exact h2.2
theorem vd_one {x : Nat} (h : Gd x) (f : fin x = true) : Vd x x := ⟨h, h, Int.le_refl _, fun k => by rw [k] at f; exact absurd f (by decide), fun k => by rw [k] at f; exact absurd f (by decide)⟩
theorem pl_gd {x : Nat} (h : x < 18446744073709551616) (hn : nan x = false) : Gd (pl x) := by
 refine ⟨pl_lt h, ?_, ?_⟩
 · unfold pl; split
   · decide
   · exact hn
 · unfold pl; split
   · decide
   · assumption
theorem pl_fin {x : Nat} (f : fin x = true) : fin (pl x) = true := by
 unfold pl; split
 · decide
 · exact f
def oneS (x : Nat) (h : Gd x) (f : fin x = true) : Sp := ⟨x, x, vd_one h f⟩
def ofS (x : Nat) : Sp := if h : x < 18446744073709551616 ∧ fin x = true then oneS (pl x) (pl_gd h.1 (nan_of_fin h.2)) (pl_fin h.2) else allS
def zeroS : Sp := oneS 0 gd0 (by decide)
theorem in_zero : InS 0 zeroS := by
 refine ⟨Or.inr ?_, Or.inr ?_⟩
 · show fv 0 ≤ 0
   rw [fv0]; exact Rat.le_refl
 · show 0 ≤ fv 0
   rw [fv0]; exact Rat.le_refl
def negS (a : Sp) : Sp := ⟨ng a.hi, ng a.lo, a.vd.h.ng, a.vd.l.ng, by rw [ng_Z, ng_Z]; have := a.vd.le; omega, fun k => a.vd.hi (ng_eq_PI a.vd.h k), fun k => a.vd.li (ng_eq_NI a.vd.l k)⟩
theorem in_neg {x : Rat} {a : Sp} (h : InS x a) : InS (-x) (negS a) := by
 refine ⟨?_, ?_⟩
 · rcases h.hi with k | k
   · left; show ng a.hi = NI; rw [k, ng_PI]
   · right; show fv (ng a.hi) ≤ _; rw [fv_ng]; exact Rat.neg_le_neg k
 · rcases h.lo with k | k
   · left; show ng a.lo = PI; rw [k, ng_NI]
   · right; show _ ≤ fv (ng a.lo); rw [fv_ng]; exact Rat.neg_le_neg k
theorem wi_neg {c a : Sp} (h : Wi c a) : Wi (negS c) (negS a) := by
 have h1 := h.lo
 have h2 := h.hi
 refine ⟨?_, ?_⟩
 · show Z (ng a.hi) ≤ Z (ng c.hi)
   rw [ng_Z, ng_Z]; omega
 · show Z (ng c.lo) ≤ Z (ng a.lo)
   rw [ng_Z, ng_Z]; omega
theorem neg_neg (a : Sp) : negS (negS a) = a := Sp.ext (ng_ng a.vd.l) (ng_ng a.vd.h)
def addL (a b : Nat) : Nat := if (fin a && fin b) = true then (addR a b true).1 else NI
def addH (a b : Nat) : Nat := if (fin a && fin b) = true then (addR a b false).1 else PI
theorem and_fin {a b : Nat} (h : (fin a && fin b) = true) : fin a = true ∧ fin b = true := by simpa using h
theorem addS_vd (a b : Sp) : Vd (addL a.lo b.lo) (addH a.hi b.hi) := by
 unfold addL addH
 by_cases h1 : (fin a.lo && fin b.lo) = true
 · have d := add_dn (and_fin h1).1 (and_fin h1).2
   rw [if_pos h1]
   by_cases h2 : (fin a.hi && fin b.hi) = true
   · have u := add_up (and_fin h2).1 (and_fin h2).2
     rw [if_pos h2]
     refine ⟨d.gd, u.gd, ?_, d.np, u.np⟩
     rcases d.lo with k | k
     · rw [k, Z_NI]; exact (Z_range u.gd.nn).1
     · rcases u.hi with l | l
       · rw [l, Z_PI]; exact (Z_range d.gd.nn).2
       · refine fv_le.1 (Rat.le_trans k (Rat.le_trans ?_ l))
         have e1 := a.fv_le
         have e2 := b.fv_le
         grind
   · rw [if_neg h2]
     exact ⟨d.gd, gdPI, by rw [Z_PI]; exact (Z_range d.gd.nn).2, d.np, by decide⟩
 · rw [if_neg h1]
   by_cases h2 : (fin a.hi && fin b.hi) = true
   · have u := add_up (and_fin h2).1 (and_fin h2).2
     rw [if_pos h2]
     exact ⟨gdNI, u.gd, by rw [Z_NI]; exact (Z_range u.gd.nn).1, by decide, u.np⟩
   · rw [if_neg h2]
     exact allS.vd
def addS (a b : Sp) : Sp := ⟨addL a.lo b.lo, addH a.hi b.hi, addS_vd a b⟩
def subS (a b : Sp) : Sp := addS a (negS b)
theorem in_add {x y : Rat} {a b : Sp} (h : InS x a) (k : InS y b) : InS (x + y) (addS a b) := by
 refine ⟨?_, ?_⟩
 · show addL a.lo b.lo = NI ∨ fv (addL a.lo b.lo) ≤ x + y
   unfold addL
   by_cases h1 : (fin a.lo && fin b.lo) = true
   · rw [if_pos h1]
     refine (add_dn (and_fin h1).1 (and_fin h1).2).lo.imp id fun l => Rat.le_trans l ?_
     have e1 := h.lo' (and_fin h1).1
     have e2 := k.lo' (and_fin h1).2
     grind
   · rw [if_neg h1]; exact Or.inl rfl
 · show addH a.hi b.hi = PI ∨ x + y ≤ fv (addH a.hi b.hi)
   unfold addH
   by_cases h1 : (fin a.hi && fin b.hi) = true
   · rw [if_pos h1]
     refine (add_up (and_fin h1).1 (and_fin h1).2).hi.imp id fun l => Rat.le_trans ?_ l
     have e1 := h.hi' (and_fin h1).1
     have e2 := k.hi' (and_fin h1).2
     grind
   · rw [if_neg h1]; exact Or.inl rfl
theorem in_sub {x y : Rat} {a b : Sp} (h : InS x a) (k : InS y b) : InS (x - y) (subS a b) := by
 rw [Rat.sub_eq_add_neg]
 exact in_add h (in_neg k)
/-- A made end is as low as each number that lies behind it. -/
theorem end_lo {R : Nat} {x : Rat} (d : RD R x) {s : Sp} (h : InS x s) : Z s.lo ≤ Z R := d.gr s.lo s.vd.l s.vd.li h.lo
theorem end_hi {R : Nat} {x : Rat} (d : RU R x) {s : Sp} (h : InS x s) : Z R ≤ Z s.hi := d.le s.hi s.vd.h s.vd.hi h.hi
theorem wi_add {a b c d : Sp} (h : Wi c a) (k : Wi d b) : Wi (addS c d) (addS a b) := by
 refine ⟨?_, ?_⟩
 · show Z (addL a.lo b.lo) ≤ Z (addL c.lo d.lo)
   by_cases h1 : (fin c.lo && fin d.lo) = true
   · have e : addL c.lo d.lo = (addR c.lo d.lo true).1 := by unfold addL; rw [if_pos h1]
     rw [e]
     exact end_lo (s := addS a b) (add_dn (and_fin h1).1 (and_fin h1).2) (in_add (c.in_lo.of_wi h) (d.in_lo.of_wi k))
   · have h2 : ¬ (fin a.lo && fin b.lo) = true := by
       intro h2
       apply h1
       have ⟨f1, f2⟩ := and_fin h2
       have z1 := Z_fin f1
       have z2 := Z_fin f2
       have l1 := h.lo
       have l2 := k.lo
       have c1 : fin c.lo = true := by
         cases e : fin c.lo
         · have := c.vd.wide_lo e
           rw [this, Z_NI] at l1
           omega
         · rfl
       have c2 : fin d.lo = true := by
         cases e : fin d.lo
         · have := d.vd.wide_lo e
           rw [this, Z_NI] at l2
           omega
         · rfl
       rw [c1, c2]; rfl
     unfold addL
     rw [if_neg h1, if_neg h2]
     exact Int.le_refl _
 · show Z (addH c.hi d.hi) ≤ Z (addH a.hi b.hi)
   by_cases h1 : (fin c.hi && fin d.hi) = true
   · have e : addH c.hi d.hi = (addR c.hi d.hi false).1 := by unfold addH; rw [if_pos h1]
     rw [e]
     exact end_hi (s := addS a b) (add_up (and_fin h1).1 (and_fin h1).2) (in_add (c.in_hi.of_wi h) (d.in_hi.of_wi k))
   · have h2 : ¬ (fin a.hi && fin b.hi) = true := by
       intro h2
       apply h1
       have ⟨f1, f2⟩ := and_fin h2
       have z1 := Z_fin f1
       have z2 := Z_fin f2
       have l1 := h.hi
       have l2 := k.hi
       have c1 : fin c.hi = true := by
         cases e : fin c.hi
         · have := c.vd.wide_hi e
           rw [this, Z_PI] at l1
           omega
         · rfl
       have c2 : fin d.hi = true := by
         cases e : fin d.hi
         · have := d.vd.wide_hi e
           rw [this, Z_PI] at l2
           omega
         · rfl
       rw [c1, c2]; rfl
     unfold addH
     rw [if_neg h1, if_neg h2]
     exact Int.le_refl _
theorem wi_sub {a b c d : Sp} (h : Wi c a) (k : Wi d b) : Wi (subS c d) (subS a b) := wi_add h (wi_neg k)
theorem addS_comm (a b : Sp) : addS a b = addS b a := by
 apply Sp.ext
 · show addL a.lo b.lo = addL b.lo a.lo
   unfold addL
   rw [Bool.and_comm, addR_comm]
 · show addH a.hi b.hi = addH b.hi a.hi
   unfold addH
   rw [Bool.and_comm, addR_comm]
theorem RD.min {R Q : Nat} {x y : Rat} (h : RD R x) (k : RD Q y) : RD (mn R Q) (min x y) := by
 rw [Rat.min_def]
 by_cases e : x ≤ y
 · rw [if_pos e]
   have := h.mono k e
   unfold mn
   rw [if_neg (by omega)]
   exact h
 · rw [if_neg e]
   have e' : y ≤ x := by grind
   have := k.mono h e'
   have hm : mn R Q = Q := (mn_gd h.gd k.gd).inj k.gd (by rw [mn_Z]; omega)
   rw [hm]
   exact k
theorem RU.max {R Q : Nat} {x y : Rat} (h : RU R x) (k : RU Q y) : RU (mx R Q) (max x y) := by
 rw [Rat.max_def]
 by_cases e : x ≤ y
 · rw [if_pos e]
   have := h.mono k e
   have hm : mx R Q = Q := (mx_gd h.gd k.gd).inj k.gd (by rw [mx_Z]; omega)
   rw [hm]
   exact k
 · rw [if_neg e]
   have e' : y ≤ x := by grind
   have := k.mono h e'
   unfold mx
   rw [if_neg (by omega)]
   exact h
def q4lo (f : Nat → Nat → Nat) (a b : Sp) : Nat := mn (mn (mn (mn PI (f a.lo b.lo)) (f a.lo b.hi)) (f a.hi b.lo)) (f a.hi b.hi)
def q4hi (f : Nat → Nat → Nat) (a b : Sp) : Nat := mx (mx (mx (mx NI (f a.lo b.lo)) (f a.lo b.hi)) (f a.hi b.lo)) (f a.hi b.hi)
theorem mn_PI {R : Nat} {x : Rat} (h : RD R x) : mn PI R = R := (mn_gd gdPI h.gd).inj h.gd (by rw [mn_Z, Z_PI]; have := (Z_range h.gd.nn).2; omega)
theorem mx_NI {R : Nat} {x : Rat} (h : RU R x) : mx NI R = R := (mx_gd gdNI h.gd).inj h.gd (by rw [mx_Z, Z_NI]; have := (Z_range h.gd.nn).1; omega)
theorem q4lo_rd {f : Nat → Nat → Nat} {g : Rat → Rat → Rat} {a b : Sp} (h : ∀ x y, (x = a.lo ∨ x = a.hi) → (y = b.lo ∨ y = b.hi) → RD (f x y) (g (fv x) (fv y))) :
   RD (q4lo f a b) (min (min (min (g (fv a.lo) (fv b.lo)) (g (fv a.lo) (fv b.hi))) (g (fv a.hi) (fv b.lo))) (g (fv a.hi) (fv b.hi))) := by
 unfold q4lo
 have h1 := h a.lo b.lo (Or.inl rfl) (Or.inl rfl)
 rw [mn_PI h1]
 exact ((h1.min (h _ _ (Or.inl rfl) (Or.inr rfl))).min (h _ _ (Or.inr rfl) (Or.inl rfl))).min (h _ _ (Or.inr rfl) (Or.inr rfl))
theorem q4hi_ru {f : Nat → Nat → Nat} {g : Rat → Rat → Rat} {a b : Sp} (h : ∀ x y, (x = a.lo ∨ x = a.hi) → (y = b.lo ∨ y = b.hi) → RU (f x y) (g (fv x) (fv y))) :
   RU (q4hi f a b) (max (max (max (g (fv a.lo) (fv b.lo)) (g (fv a.lo) (fv b.hi))) (g (fv a.hi) (fv b.lo))) (g (fv a.hi) (fv b.hi))) := by
 unfold q4hi
 have h1 := h a.lo b.lo (Or.inl rfl) (Or.inl rfl)
 rw [mx_NI h1]
 exact ((h1.max (h _ _ (Or.inl rfl) (Or.inr rfl))).max (h _ _ (Or.inr rfl) (Or.inl rfl))).max (h _ _ (Or.inr rfl) (Or.inr rfl))
theorem min4_le (a b c d : Rat) : min (min (min a b) c) d ≤ a ∧ min (min (min a b) c) d ≤ b ∧ min (min (min a b) c) d ≤ c ∧ min (min (min a b) c) d ≤ d := by grind
theorem le_max4 (a b c d : Rat) : a ≤ max (max (max a b) c) d ∧ b ≤ max (max (max a b) c) d ∧ c ≤ max (max (max a b) c) d ∧ d ≤ max (max (max a b) c) d := by grind
theorem min4_is (a b c d : Rat) : min (min (min a b) c) d = a ∨ min (min (min a b) c) d = b ∨ min (min (min a b) c) d = c ∨ min (min (min a b) c) d = d := by grind
theorem max4_is (a b c d : Rat) : max (max (max a b) c) d = a ∨ max (max (max a b) c) d = b ∨ max (max (max a b) c) d = c ∨ max (max (max a b) c) d = d := by grind
theorem corner_lo {x y a b c d m : Rat} (h1 : a ≤ x) (h2 : x ≤ b) (h3 : c ≤ y) (h4 : y ≤ d) (k1 : m ≤ a*c) (k2 : m ≤ a*d) (k3 : m ≤ b*c) (k4 : m ≤ b*d) : m ≤ x*y := by
 rcases Rat.le_total (a := 0) (b := y) with hy | hy
 · have e1 : a*y ≤ x*y := Rat.mul_le_mul_of_nonneg_right h1 hy
   rcases Rat.le_total (a := 0) (b := a) with ha | ha
   · have e2 := Rat.mul_le_mul_of_nonneg_left h3 ha
     grind
   · have e2 := Rat.mul_le_mul_of_nonneg_left h4 (a := y) (c := -a) (by grind)
     grind
 · have e1 : x*(-y) ≤ b*(-y) := Rat.mul_le_mul_of_nonneg_right h2 (by grind)
   rcases Rat.le_total (a := 0) (b := b) with ha | ha
   · have e2 := Rat.mul_le_mul_of_nonneg_left h3 ha
     grind
   · have e2 := Rat.mul_le_mul_of_nonneg_left h4 (a := y) (c := -b) (by grind)
     grind
theorem corner_hi {x y a b c d m : Rat} (h1 : a ≤ x) (h2 : x ≤ b) (h3 : c ≤ y) (h4 : y ≤ d) (k1 : a*c ≤ m) (k2 : a*d ≤ m) (k3 : b*c ≤ m) (k4 : b*d ≤ m) : x*y ≤ m := by
 have := corner_lo (x := -x) (a := -b) (b := -a) (m := -m) (by grind) (by grind) h3 h4 (by grind) (by grind) (by grind) (by grind)
 grind
/-- If all four corners lie in a span, all lies in it. -/
theorem in_corners {x y a b c d : Rat} {s : Sp} (h1 : a ≤ x) (h2 : x ≤ b) (h3 : c ≤ y) (h4 : y ≤ d) (k1 : InS (a*c) s) (k2 : InS (a*d) s) (k3 : InS (b*c) s) (k4 : InS (b*d) s) : InS (x*y) s := by
 refine ⟨?_, ?_⟩
 · by_cases e : s.lo = NI
   · exact Or.inl e
   · exact Or.inr (corner_lo h1 h2 h3 h4 (k1.lo.resolve_left e) (k2.lo.resolve_left e) (k3.lo.resolve_left e) (k4.lo.resolve_left e))
 · by_cases e : s.hi = PI
   · exact Or.inl e
   · exact Or.inr (corner_hi h1 h2 h3 h4 (k1.hi.resolve_left e) (k2.hi.resolve_left e) (k3.hi.resolve_left e) (k4.hi.resolve_left e))
theorem q4_vd {f g : Nat → Nat → Nat} {o : Rat → Rat → Rat} {a b : Sp} (h : ∀ x y, (x = a.lo ∨ x = a.hi) → (y = b.lo ∨ y = b.hi) → RD (f x y) (o (fv x) (fv y)))
   (k : ∀ x y, (x = a.lo ∨ x = a.hi) → (y = b.lo ∨ y = b.hi) → RU (g x y) (o (fv x) (fv y))) : Vd (q4lo f a b) (q4hi g a b) := by
 have d := q4lo_rd h
 have u := q4hi_ru k
 refine ⟨d.gd, u.gd, ?_, d.np, u.np⟩
 rcases d.lo with l | l
 · rw [l, Z_NI]; exact (Z_range u.gd.nn).1
 · rcases u.hi with m | m
   · rw [m, Z_PI]; exact (Z_range d.gd.nn).2
   · exact fv_le.1 (Rat.le_trans l (Rat.le_trans (min4_le _ _ _ _).1 (Rat.le_trans (le_max4 _ _ _ _).1 m)))
/-- The four corners lie in what is made of them. -/
theorem q4_in {f g : Nat → Nat → Nat} {o : Rat → Rat → Rat} {a b : Sp} (h : ∀ x y, (x = a.lo ∨ x = a.hi) → (y = b.lo ∨ y = b.hi) → RD (f x y) (o (fv x) (fv y)))
   (k : ∀ x y, (x = a.lo ∨ x = a.hi) → (y = b.lo ∨ y = b.hi) → RU (g x y) (o (fv x) (fv y))) {s : Sp} (e1 : s.lo = q4lo f a b) (e2 : s.hi = q4hi g a b) :
   InS (o (fv a.lo) (fv b.lo)) s ∧ InS (o (fv a.lo) (fv b.hi)) s ∧ InS (o (fv a.hi) (fv b.lo)) s ∧ InS (o (fv a.hi) (fv b.hi)) s := by
 have d := (q4lo_rd h).lo
 have u := (q4hi_ru k).hi
 rw [← e1] at d
 rw [← e2] at u
 have m := min4_le (o (fv a.lo) (fv b.lo)) (o (fv a.lo) (fv b.hi)) (o (fv a.hi) (fv b.lo)) (o (fv a.hi) (fv b.hi))
 have n := le_max4 (o (fv a.lo) (fv b.lo)) (o (fv a.lo) (fv b.hi)) (o (fv a.hi) (fv b.lo)) (o (fv a.hi) (fv b.hi))
 refine ⟨⟨d.imp id fun l => Rat.le_trans l m.1, u.imp id fun l => Rat.le_trans n.1 l⟩, ⟨d.imp id fun l => Rat.le_trans l m.2.1, u.imp id fun l => Rat.le_trans n.2.1 l⟩, ⟨d.imp id fun l => Rat.le_trans l m.2.2.1, u.imp id fun l => Rat.le_trans n.2.2.1 l⟩, ⟨d.imp id fun l => Rat.le_trans l m.2.2.2, u.imp id fun l => Rat.le_trans n.2.2.2 l⟩⟩
/-- What is made of four corners lies in a span that has the four. -/
theorem q4_wi {f g : Nat → Nat → Nat} {o : Rat → Rat → Rat} {a b : Sp} (h : ∀ x y, (x = a.lo ∨ x = a.hi) → (y = b.lo ∨ y = b.hi) → RD (f x y) (o (fv x) (fv y)))
   (k : ∀ x y, (x = a.lo ∨ x = a.hi) → (y = b.lo ∨ y = b.hi) → RU (g x y) (o (fv x) (fv y))) {s t : Sp} (e1 : s.lo = q4lo f a b) (e2 : s.hi = q4hi g a b)
   (i1 : InS (o (fv a.lo) (fv b.lo)) t) (i2 : InS (o (fv a.lo) (fv b.hi)) t) (i3 : InS (o (fv a.hi) (fv b.lo)) t) (i4 : InS (o (fv a.hi) (fv b.hi)) t) : Wi s t := by
 have d := q4lo_rd h
 have u := q4hi_ru k
 rw [← e1] at d
 rw [← e2] at u
 refine ⟨?_, ?_⟩
 · rcases min4_is (o (fv a.lo) (fv b.lo)) (o (fv a.lo) (fv b.hi)) (o (fv a.hi) (fv b.lo)) (o (fv a.hi) (fv b.hi)) with e | e | e | e <;> rw [e] at d
   · exact end_lo d i1
   · exact end_lo d i2
   · exact end_lo d i3
   · exact end_lo d i4
 · rcases max4_is (o (fv a.lo) (fv b.lo)) (o (fv a.lo) (fv b.hi)) (o (fv a.hi) (fv b.lo)) (o (fv a.hi) (fv b.hi)) with e | e | e | e <;> rw [e] at u
   · exact end_hi u i1
   · exact end_hi u i2
   · exact end_hi u i3
   · exact end_hi u i4
theorem ends {a : Sp} (w : a.wide = false) {x : Nat} (h : x = a.lo ∨ x = a.hi) : fin x = true := by
 have ⟨f1, f2⟩ := Sp.fins w
 rcases h with h | h <;> rw [h] <;> assumption
def mulD (x y : Nat) : Nat := (mulR x y true).1
def mulU (x y : Nat) : Nat := (mulR x y false).1
def isZ (a : Sp) : Bool := decide (Z a.lo = 0) && decide (Z a.hi = 0)
theorem isZ_eq {a : Sp} (h : isZ a = true) : a = zeroS := by
 unfold isZ at h
 have ⟨h1, h2⟩ : Z a.lo = 0 ∧ Z a.hi = 0 := by simpa using h
 have z0 : Z 0 = 0 := by decide
 exact Sp.ext (a.vd.l.inj gd0 (by show Z a.lo = Z 0; rw [h1, z0])) (a.vd.h.inj gd0 (by show Z a.hi = Z 0; rw [h2, z0]))
theorem isZ_zero : isZ zeroS = true := by decide
theorem or_false' {p q : Bool} (h : (p || q) = false) : p = false ∧ q = false := by simpa using h
theorem mul_rd {a b : Sp} (h : (a.wide || b.wide) = false) : ∀ x y, (x = a.lo ∨ x = a.hi) → (y = b.lo ∨ y = b.hi) → RD (mulD x y) (fv x * fv y) := fun _ _ hx hy => mul_dn (ends (or_false' h).1 hx) (ends (or_false' h).2 hy)
theorem mul_ru {a b : Sp} (h : (a.wide || b.wide) = false) : ∀ x y, (x = a.lo ∨ x = a.hi) → (y = b.lo ∨ y = b.hi) → RU (mulU x y) (fv x * fv y) := fun _ _ hx hy => mul_up (ends (or_false' h).1 hx) (ends (or_false' h).2 hy)
def mulS (a b : Sp) : Sp :=
 if (isZ a || isZ b) = true then zeroS else if h : (a.wide || b.wide) = false then ⟨q4lo mulD a b, q4hi mulU a b, q4_vd (o := fun x y => x * y) (mul_rd h) (mul_ru h)⟩ else allS
theorem in_is0 {x : Rat} (h : InS x zeroS) : x = 0 := by
 have h1 := h.lo.resolve_left (by decide)
 have h2 := h.hi.resolve_left (by decide)
 have h1 : fv 0 ≤ x := h1
 have h2 : x ≤ fv 0 := h2
 rw [fv0] at h1 h2
 exact Rat.le_antisymm h2 h1
theorem in_mul {x y : Rat} {a b : Sp} (h : InS x a) (k : InS y b) : InS (x * y) (mulS a b) := by
 unfold mulS
 by_cases hz : (isZ a || isZ b) = true
 · rw [if_pos hz]
   have : x * y = 0 := by
     rcases Bool.or_eq_true _ _ ▸ hz with e | e
     · rw [isZ_eq e] at h; rw [in_is0 h, Rat.zero_mul]
     · rw [isZ_eq e] at k; rw [in_is0 k, Rat.mul_zero]
   rw [this]
   exact in_zero
 · rw [if_neg hz]
   by_cases hw : (a.wide || b.wide) = false
   · rw [dif_pos hw]
     have ⟨i1, i2, i3, i4⟩ := q4_in (o := fun x y => x * y) (mul_rd hw) (mul_ru hw) (s := ⟨q4lo mulD a b, q4hi mulU a b, q4_vd (o := fun x y => x * y) (mul_rd hw) (mul_ru hw)⟩) rfl rfl
     have ⟨f1, f2⟩ := Sp.fins (or_false' hw).1
     have ⟨f3, f4⟩ := Sp.fins (or_false' hw).2
     exact in_corners (h.lo' f1) (h.hi' f2) (k.lo' f3) (k.hi' f4) i1 i2 i3 i4
   · rw [dif_neg hw]
     exact in_all _
theorem wi_zero {s : Sp} (h : InS 0 s) : Wi zeroS s := by
 have z0 : Z 0 = 0 := by decide
 refine ⟨?_, ?_⟩
 · show Z s.lo ≤ Z 0
   rcases h.lo with e | e
   · rw [e, Z_NI, z0]; have := rv_inf_pos; omega
   · rw [← fv0] at e; exact fv_le.1 e
 · show Z 0 ≤ Z s.hi
   rcases h.hi with e | e
   · rw [e, Z_PI, z0]; have := rv_inf_pos; omega
   · rw [← fv0] at e; exact fv_le.1 e
theorem wi_zero_eq {c : Sp} (h : Wi c zeroS) : c = zeroS := by
 have h1 : Z 0 ≤ Z c.lo := h.lo
 have h2 : Z c.hi ≤ Z 0 := h.hi
 have h3 := c.vd.le
 exact Sp.ext (c.vd.l.inj gd0 (by show Z c.lo = Z 0; omega)) (c.vd.h.inj gd0 (by show Z c.hi = Z 0; omega))
theorem wi_mul {a b c d : Sp} (h : Wi c a) (k : Wi d b) : Wi (mulS c d) (mulS a b) := by
 have hin : ∀ x y, InS x c → InS y d → InS (x * y) (mulS a b) := fun x y hx hy => in_mul (hx.of_wi h) (hy.of_wi k)
 by_cases hz : (isZ c || isZ d) = true
 · have e : mulS c d = zeroS := by unfold mulS; rw [if_pos hz]
   rw [e]
   apply wi_zero
   rcases Bool.or_eq_true _ _ ▸ hz with z | z
   · have := hin 0 (fv d.lo) (by rw [isZ_eq z]; exact in_zero) d.in_lo
     rw [Rat.zero_mul] at this
     exact this
   · have := hin (fv c.lo) 0 c.in_lo (by rw [isZ_eq z]; exact in_zero)
     rw [Rat.mul_zero] at this
     exact this
 · by_cases hw : (c.wide || d.wide) = false
   · have e : mulS c d = ⟨q4lo mulD c d, q4hi mulU c d, q4_vd (o := fun x y => x * y) (mul_rd hw) (mul_ru hw)⟩ := by unfold mulS; rw [if_neg hz, dif_pos hw]
     exact q4_wi (o := fun x y => x * y) (mul_rd hw) (mul_ru hw) (by rw [e]) (by rw [e]) (hin _ _ c.in_lo d.in_lo) (hin _ _ c.in_lo d.in_hi) (hin _ _ c.in_hi d.in_lo) (hin _ _ c.in_hi d.in_hi)
   · have hz' : ¬ (isZ a || isZ b) = true := by
       intro hz'
       apply hz
       rcases Bool.or_eq_true _ _ ▸ hz' with z | z
       · rw [isZ_eq z] at h; rw [wi_zero_eq h, isZ_zero]; rfl
       · rw [isZ_eq z] at k; rw [wi_zero_eq k, isZ_zero, Bool.or_true]
     have hw' : ¬ (a.wide || b.wide) = false := by
       intro hw'
       apply hw
       rw [h.fin (or_false' hw').1, k.fin (or_false' hw').2]; rfl
     have e : mulS a b = allS := by unfold mulS; rw [if_neg hz', dif_neg hw']
     rw [e]
     exact wi_all _
def divD (x y : Nat) : Nat := (divR x y true).1
def divU (x y : Nat) : Nat := (divR x y false).1
/-- Does 0 lie in it? -/
def has0 (b : Sp) : Bool := decide (Z b.lo ≤ 0) && decide (0 ≤ Z b.hi)
theorem ends_ne {b : Sp} (h : has0 b = false) {y : Nat} (hy : y = b.lo ∨ y = b.hi) : Z y ≠ 0 := by
 intro e
 have := b.vd.le
 have h2 : ¬ (Z b.lo ≤ 0 ∧ 0 ≤ Z b.hi) := by
   intro k
   unfold has0 at h
   rw [decide_eq_true k.1, decide_eq_true k.2] at h
   exact absurd h (by decide)
 rcases hy with hy | hy <;> rw [hy] at e <;> omega
theorem or3_false {p q r : Bool} (h : (p || q || r) = false) : p = false ∧ q = false ∧ r = false := by
 cases p <;> cases q <;> cases r <;> simp_all
theorem div_rd {a b : Sp} (h : (has0 b || a.wide || b.wide) = false) : ∀ x y, (x = a.lo ∨ x = a.hi) → (y = b.lo ∨ y = b.hi) → RD (divD x y) (fv x / fv y) := fun _ _ hx hy => div_dn (ends (or3_false h).2.1 hx) (ends (or3_false h).2.2 hy) (ends_ne (or3_false h).1 hy)
theorem div_ru {a b : Sp} (h : (has0 b || a.wide || b.wide) = false) : ∀ x y, (x = a.lo ∨ x = a.hi) → (y = b.lo ∨ y = b.hi) → RU (divU x y) (fv x / fv y) := fun _ _ hx hy => div_up (ends (or3_false h).2.1 hx) (ends (or3_false h).2.2 hy) (ends_ne (or3_false h).1 hy)
def divS (a b : Sp) : Sp :=
 if h : (has0 b || a.wide || b.wide) = false then ⟨q4lo divD a b, q4hi divU a b, q4_vd (o := fun x y => x / y) (div_rd h) (div_ru h)⟩ else allS
theorem inv_between {c d y : Rat} (h1 : c ≤ y) (h2 : y ≤ d) (h0 : 0 < c ∨ d < 0) : d⁻¹ ≤ y⁻¹ ∧ y⁻¹ ≤ c⁻¹ := by
 have key : ∀ p q : Rat, 0 < p → p ≤ q → q⁻¹ ≤ p⁻¹ := by
   intro p q hp hpq
   have hq : 0 < q := by grind
   have h1 : 0 < p⁻¹ := Rat.inv_pos.2 hp
   have h2 : 0 < q⁻¹ := Rat.inv_pos.2 hq
   have h3 := Rat.mul_le_mul_of_nonneg_right hpq (Rat.le_of_lt (Rat.mul_pos h1 h2))
   have e1 : p * (p⁻¹ * q⁻¹) = q⁻¹ := by rw [← Rat.mul_assoc, Rat.mul_inv_cancel p (Rat.ne_of_gt hp), Rat.one_mul]
   have e2 : q * (p⁻¹ * q⁻¹) = p⁻¹ := by rw [Rat.mul_comm p⁻¹, ← Rat.mul_assoc, Rat.mul_inv_cancel q (Rat.ne_of_gt hq), Rat.one_mul]
   rw [e1, e2] at h3
   exact h3
 have ninv : ∀ p : Rat, p ≠ 0 → (-p)⁻¹ = -p⁻¹ := by
   intro p hp
   apply Rat.inv_eq_of_mul_eq_one
   rw [Rat.neg_mul, Rat.mul_neg, Rat.neg_neg, Rat.mul_inv_cancel p hp]
 rcases h0 with h0 | h0
 · exact ⟨key _ _ (by grind) h2, key _ _ h0 h1⟩
 · have k1 := key (-d) (-y) (by grind) (by grind)
   have k2 := key (-y) (-c) (by grind) (by grind)
   rw [ninv d (by grind), ninv y (by grind)] at k1
   rw [ninv c (by grind), ninv y (by grind)] at k2
   grind
theorem has0_false {b : Sp} (h : has0 b = false) : 0 < fv b.lo ∨ fv b.hi < 0 := by
 rw [fv_pos, fv_neg]
 unfold has0 at h
 by_cases h1 : Z b.lo ≤ 0
 · rw [decide_eq_true h1] at h
   right
   have := of_decide_eq_false h
   omega
 · left; omega
theorem in_div {x y : Rat} {a b : Sp} (h : InS x a) (k : InS y b) : InS (x / y) (divS a b) := by
 unfold divS
 by_cases hw : (has0 b || a.wide || b.wide) = false
 · rw [dif_pos hw]
   have ⟨i1, i2, i3, i4⟩ := q4_in (o := fun x y => x / y) (div_rd hw) (div_ru hw) (s := ⟨q4lo divD a b, q4hi divU a b, q4_vd (o := fun x y => x / y) (div_rd hw) (div_ru hw)⟩) rfl rfl
   have ⟨f1, f2⟩ := Sp.fins (or3_false hw).2.1
   have ⟨f3, f4⟩ := Sp.fins (or3_false hw).2.2
   have ⟨v1, v2⟩ := inv_between (k.lo' f3) (k.hi' f4) (has0_false (or3_false hw).1)
   rw [Rat.div_def]
   exact in_corners (h.lo' f1) (h.hi' f2) v1 v2 i2 i1 i4 i3
 · rw [dif_neg hw]
   exact in_all _
theorem wi_div {a b c d : Sp} (h : Wi c a) (k : Wi d b) : Wi (divS c d) (divS a b) := by
 have hin : ∀ x y, InS x c → InS y d → InS (x / y) (divS a b) := fun x y hx hy => in_div (hx.of_wi h) (hy.of_wi k)
 by_cases hw : (has0 d || c.wide || d.wide) = false
 · have e : divS c d = ⟨q4lo divD c d, q4hi divU c d, q4_vd (o := fun x y => x / y) (div_rd hw) (div_ru hw)⟩ := by unfold divS; rw [dif_pos hw]
   exact q4_wi (o := fun x y => x / y) (div_rd hw) (div_ru hw) (by rw [e]) (by rw [e]) (hin _ _ c.in_lo d.in_lo) (hin _ _ c.in_lo d.in_hi) (hin _ _ c.in_hi d.in_lo) (hin _ _ c.in_hi d.in_hi)
 · have hw' : ¬ (has0 b || a.wide || b.wide) = false := by
     intro hw'
     apply hw
     have ⟨p1, p2, p3⟩ := or3_false hw'
     rw [h.fin p2, k.fin p3]
     have : has0 d = false := by
       cases e : has0 d
       · rfl
       · unfold has0 at e p1
         have ⟨e1, e2⟩ : Z d.lo ≤ 0 ∧ 0 ≤ Z d.hi := by simpa using e
         have l1 := k.lo
         have l2 := k.hi
         rw [decide_eq_true (by omega : Z b.lo ≤ 0), decide_eq_true (by omega : 0 ≤ Z b.hi)] at p1
         exact absurd p1 (by decide)
     rw [this]; rfl
   have e : divS a b = allS := by unfold divS; rw [dif_neg hw']
   rw [e]
   exact wi_all _
end Go.Proofs.YtnljfcebmgifdaaGreat
namespace Go.Proofs.YtnljfcebmgifdaaGreat
open Fl
theorem sq_nonneg (x : Rat) : 0 ≤ x * x := by
 rcases Rat.le_total (a := 0) (b := x) with h | h
 · exact Rat.mul_nonneg h h
 · have := Rat.mul_nonneg (a := -x) (b := -x) (by grind) (by grind)
   grind
theorem inf_nonneg : (0 : Int) ≤ Z PI := by rw [Z_PI]; exact Int.natCast_nonneg _
theorem Z00 : Z 0 = 0 := by decide
theorem vd_up {h : Nat} (g : Gd h) (k : 0 ≤ Z h) : Vd 0 h := ⟨gd0, g, by rw [Z00]; exact k, by decide, fun e => by rw [e, Z_NI] at k; have := rv_inf_pos; omega⟩
theorem mul_hi_nonneg (a : Sp) : 0 ≤ Z (mulS a a).hi := by
 rcases (in_mul a.in_hi a.in_hi).hi with e | e
 · rw [e]; exact inf_nonneg
 · exact fv_nonneg.1 (Rat.le_trans (sq_nonneg _) e)
def sqrS (a : Sp) : Sp :=
 if a.wide = true then ⟨0, PI, vd_up gdPI inf_nonneg⟩ else if has0 a = true then ⟨0, (mulS a a).hi, vd_up (mulS a a).vd.h (mul_hi_nonneg a)⟩ else mulS a a
theorem sqrS_wide {a : Sp} (h : a.wide = true) : sqrS a = ⟨0, PI, vd_up gdPI inf_nonneg⟩ := by unfold sqrS; rw [if_pos h]
theorem sqrS_has {a : Sp} (w : a.wide = false) (h : has0 a = true) : sqrS a = ⟨0, (mulS a a).hi, vd_up (mulS a a).vd.h (mul_hi_nonneg a)⟩ := by
 unfold sqrS; rw [if_neg (by rw [w]; exact Bool.false_ne_true), if_pos h]
theorem sqrS_not {a : Sp} (w : a.wide = false) (h : has0 a = false) : sqrS a = mulS a a := by
 unfold sqrS; rw [if_neg (by rw [w]; exact Bool.false_ne_true), if_neg (by rw [h]; exact Bool.false_ne_true)]
theorem in_sqr {x : Rat} {a : Sp} (h : InS x a) : InS (x * x) (sqrS a) := by
 have hs := sq_nonneg x
 cases w : a.wide
 · cases k : has0 a
   · rw [sqrS_not w k]; exact in_mul h h
   · rw [sqrS_has w k]
     exact ⟨Or.inr (by show fv 0 ≤ _; rw [fv0]; exact hs), (in_mul h h).hi⟩
 · rw [sqrS_wide w]
   exact ⟨Or.inr (by show fv 0 ≤ _; rw [fv0]; exact hs), Or.inl rfl⟩
theorem sqr_pos {a : Sp} (h : has0 a = false) {x y : Rat} (hx : x = fv a.lo ∨ x = fv a.hi) (hy : y = fv a.lo ∨ y = fv a.hi) : 0 ≤ x * y := by
 have e := a.fv_le
 rcases has0_false h with k | k
 · refine Rat.mul_nonneg ?_ ?_
   · rcases hx with rfl | rfl <;> grind
   · rcases hy with rfl | rfl <;> grind
 · have := Rat.mul_nonneg (a := -x) (b := -y) (by rcases hx with rfl | rfl <;> grind) (by rcases hy with rfl | rfl <;> grind)
   grind
theorem mul_lo_nonneg {a : Sp} (w : a.wide = false) (h : has0 a = false) : 0 ≤ Z (mulS a a).lo := by
 unfold mulS
 split
 · decide
 · have hw : (a.wide || a.wide) = false := by rw [w]; rfl
   rw [dif_pos hw]
   have d := q4lo_rd (g := fun x y => x * y) (mul_rd hw)
   rw [← Z00]
   refine d.gr 0 gd0 (by decide) (Or.inr ?_)
   rw [fv0]
   have p1 := sqr_pos h (x := fv a.lo) (y := fv a.lo) (Or.inl rfl) (Or.inl rfl)
   have p2 := sqr_pos h (x := fv a.lo) (y := fv a.hi) (Or.inl rfl) (Or.inr rfl)
   have p3 := sqr_pos h (x := fv a.hi) (y := fv a.lo) (Or.inr rfl) (Or.inl rfl)
   have p4 := sqr_pos h (x := fv a.hi) (y := fv a.hi) (Or.inr rfl) (Or.inr rfl)
   rcases min4_is (fv a.lo * fv a.lo) (fv a.lo * fv a.hi) (fv a.hi * fv a.lo) (fv a.hi * fv a.hi) with e | e | e | e <;> rw [e] <;> assumption
theorem sqr_lo_nonneg (a : Sp) : 0 ≤ Z (sqrS a).lo := by
 cases w : a.wide
 · cases k : has0 a
   · rw [sqrS_not w k]; exact mul_lo_nonneg w k
   · rw [sqrS_has w k]; exact Int.le_of_eq Z00.symm
 · rw [sqrS_wide w]; exact Int.le_of_eq Z00.symm
theorem has0_wi {c a : Sp} (h : Wi c a) (k : has0 c = true) : has0 a = true := by
 unfold has0 at *
 have ⟨e1, e2⟩ : Z c.lo ≤ 0 ∧ 0 ≤ Z c.hi := by simpa using k
 have l1 := h.lo
 have l2 := h.hi
 rw [decide_eq_true (by omega : Z a.lo ≤ 0), decide_eq_true (by omega : 0 ≤ Z a.hi)]; rfl
theorem wi_sqr {c a : Sp} (h : Wi c a) : Wi (sqrS c) (sqrS a) := by
 cases w : a.wide
 · have w' := h.fin w
   cases k : has0 a
   · have k' : has0 c = false := by
       cases e : has0 c
       · rfl
       · rw [has0_wi h e] at k; exact absurd k (by decide)
     rw [sqrS_not w k, sqrS_not w' k']
     exact wi_mul h h
   · rw [sqrS_has w k]
     cases k' : has0 c
     · have := mul_lo_nonneg w' k'
       rw [sqrS_not w' k']
       exact ⟨by show Z 0 ≤ _; rw [Z00]; exact this, (wi_mul h h).hi⟩
     · rw [sqrS_has w' k']
       exact ⟨Int.le_refl _, (wi_mul h h).hi⟩
 · rw [sqrS_wide w]
   exact ⟨by show Z 0 ≤ _; rw [Z00]; exact sqr_lo_nonneg c, by show _ ≤ Z PI; rw [Z_PI]; exact (Z_range (sqrS c).vd.h.nn).2⟩
theorem mx0_fin {a : Nat} (f : fin a = true) : fin (mx a 0) = true := by
 rcases mx_cases a 0 with e | e <;> rw [e]
 · exact f
 · decide
theorem mx0_nn {a : Nat} : 0 ≤ Z (mx a 0) := by rw [mx_Z, Z00]; omega
theorem sqrt_vd {a : Sp} (w : a.wide = false) (h : 0 ≤ Z a.hi) : Vd (sqrtR (mx a.lo 0) true).1 (sqrtR a.hi false).1 := by
 have ⟨f1, f2⟩ := Sp.fins w
 have d := sqrt_dn (mx0_fin f1) mx0_nn
 have u := sqrt_up f2 h
 refine ⟨d.gd, u.gd, ?_, d.np, fun e => by have := u.nn; rw [e, Z_NI] at this; have := rv_inf_pos; omega⟩
 rcases u.hi with e | e
 · rw [e, Z_PI]; exact (Z_range d.gd.nn).2
 · have h1 := d.lo
   have h2 : Z (mx a.lo 0) ≤ Z a.hi := by rw [mx_Z, Z00]; have := a.vd.le; omega
   have h3 : Z (mx a.lo 0) * (2 ^ BB : Nat) ≤ Z a.hi * (2 ^ BB : Nat) := Int.mul_le_mul_of_nonneg_right h2 (Int.natCast_nonneg _)
   have h4 : Z (sqrtR (mx a.lo 0) true).1 * Z (sqrtR (mx a.lo 0) true).1 ≤ Z (sqrtR a.hi false).1 * Z (sqrtR a.hi false).1 := by omega
   apply Int.le_of_not_gt
   intro k
   have h5 : Z (sqrtR a.hi false).1 * Z (sqrtR a.hi false).1 < Z (sqrtR (mx a.lo 0) true).1 * Z (sqrtR (mx a.lo 0) true).1 := Int.lt_of_le_of_lt (Int.mul_le_mul_of_nonneg_left (Int.le_of_lt k) u.nn) (Int.mul_lt_mul_of_pos_right k (by have := u.nn; omega))
   omega
noncomputable def sqrtS (a : Sp) : Sp := if h : a.wide = false ∧ 0 ≤ Z a.hi then ⟨(sqrtR (mx a.lo 0) true).1, (sqrtR a.hi false).1, sqrt_vd h.1 h.2⟩ else allS
theorem wi_sqrt {c a : Sp} (h : Wi c a) (hc : 0 ≤ Z c.hi) : Wi (sqrtS c) (sqrtS a) := by
 by_cases k : a.wide = false ∧ 0 ≤ Z a.hi
 · have w' := h.fin k.1
   have ⟨f1, f2⟩ := Sp.fins k.1
   have ⟨g1, g2⟩ := Sp.fins w'
   have d := sqrt_dn (mx0_fin f1) (mx0_nn (a := a.lo))
   have d' := sqrt_dn (mx0_fin g1) (mx0_nn (a := c.lo))
   have u := sqrt_up f2 k.2
   have u' := sqrt_up g2 hc
   have e : sqrtS a = ⟨(sqrtR (mx a.lo 0) true).1, (sqrtR a.hi false).1, sqrt_vd k.1 k.2⟩ := by unfold sqrtS; rw [dif_pos k]
   have e' : sqrtS c = ⟨(sqrtR (mx c.lo 0) true).1, (sqrtR c.hi false).1, sqrt_vd w' hc⟩ := by unfold sqrtS; rw [dif_pos ⟨w', hc⟩]
   rw [e, e']
   have hl := h.lo
   have hh := h.hi
   refine ⟨?_, ?_⟩
   · show Z (sqrtR (mx a.lo 0) true).1 ≤ Z (sqrtR (mx c.lo 0) true).1
     refine d'.gr _ d.gd d.np (Int.le_trans d.lo ?_)
     refine Int.mul_le_mul_of_nonneg_right ?_ (Int.natCast_nonneg _)
     rw [mx_Z, mx_Z]; omega
   · show Z (sqrtR c.hi false).1 ≤ Z (sqrtR a.hi false).1
     refine u'.le _ u.gd u.nn (u.hi.imp id fun l => Int.le_trans ?_ l)
     exact Int.mul_le_mul_of_nonneg_right hh (Int.natCast_nonneg _)
 · have e : sqrtS a = allS := by unfold sqrtS; rw [dif_neg k]
   rw [e]
   exact wi_all _
theorem mx_ne {x y v : Nat} (hx : x ≠ v) (hy : y ≠ v) : mx x y ≠ v := by rcases mx_cases x y with e | e <;> rw [e] <;> assumption
def maxS (a b : Sp) : Sp := ⟨mx a.lo b.lo, mx a.hi b.hi, mx_gd a.vd.l b.vd.l, mx_gd a.vd.h b.vd.h, by rw [mx_Z, mx_Z]; have := a.vd.le; have := b.vd.le; omega, mx_ne a.vd.li b.vd.li, mx_ne a.vd.hi b.vd.hi⟩
theorem wi_max {a b c d : Sp} (h : Wi c a) (k : Wi d b) : Wi (maxS c d) (maxS a b) := by
 have h1 := h.lo; have h2 := h.hi; have k1 := k.lo; have k2 := k.hi
 refine ⟨?_, ?_⟩
 · show Z (mx a.lo b.lo) ≤ Z (mx c.lo d.lo)
   rw [mx_Z, mx_Z]; omega
 · show Z (mx c.hi d.hi) ≤ Z (mx a.hi b.hi)
   rw [mx_Z, mx_Z]; omega
def posS (a : Sp) : Nat := if 0 < Z a.lo then 1 else if Z a.hi ≤ 0 then 0 else 2
end Go.Proofs.YtnljfcebmgifdaaGreat
namespace Go.Proofs.YtnljfcebmgifdaaGreat
open Fl Ieee
end Go.Proofs.YtnljfcebmgifdaaGreat
