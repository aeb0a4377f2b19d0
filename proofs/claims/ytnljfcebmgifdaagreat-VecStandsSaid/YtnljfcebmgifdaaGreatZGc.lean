/- Shaken: Gc. -/
import Derived.Test.YtnljfcebmgifdaaGreatZVl
set_option linter.unusedVariables false
set_option linter.unusedSimpArgs false
namespace Go.Proofs.YtnljfcebmgifdaaGreat
open Go.RowKit Ieee
/-- 0 - a. -/
def ng (a : Nat) : Nat := if Fl.mg a = 0 then 0 else Fl.flip a
theorem ng_lt (a : Nat) : ng a < 18446744073709551616 := by
 unfold ng; split
 · omega
 · exact Fl.flip_lt a
theorem ng_mg (a : Nat) : Fl.mg (ng a) = Fl.mg a := by
 unfold ng; split
 · rename_i h; rw [h]; rfl
 · exact Fl.flip_mg a
theorem ng_nan (a : Nat) : Fl.nan (ng a) = Fl.nan a := by unfold Fl.nan; rw [ng_mg]
theorem ng_Z (a : Nat) : Fl.Z (ng a) = -Fl.Z a := by
 unfold ng; split
 · rename_i h
   unfold Fl.Z
   rw [h]
   have : Fl.mg 0 = 0 := rfl
   rw [this, Fl.rv_zero]
   cases Fl.sg a <;> cases Fl.sg 0 <;> rfl
 · exact Fl.flip_Z a
theorem ng_sub (a : Nat) (h : a < 18446744073709551616) (hn : Fl.nan a = false) : floatBits .sub .f64 0 a = some (ng a) := zero_sub64 a h hn
theorem Z_wrd (n : Bool) {r : Nat} (h : r ≤ Fl.INF) : Fl.Z (Fl.wrd n r) = if n then -(Fl.rv r : Int) else (Fl.rv r : Int) := by
 have hs : r < Fl.SGN := Nat.lt_of_le_of_lt h Fl.inf_sgn
 unfold Fl.Z
 rw [Fl.wrd_sg n hs, Fl.wrd_mg n hs]
theorem Z_pl (b : Nat) : Fl.Z (Fl.pl b) = Fl.Z b := by
 unfold Fl.pl
 split
 · rename_i h; rw [h]; decide
 · rfl
theorem toVal_ok (n d : Bool) (W : Nat) (e : Int) (m : Bool) : toVal n d W e m < 18446744073709551616 ∧ Fl.nan (toVal n d W e m) = false := by
 unfold toVal
 have h := wrd_ok n (Fl.near (n == d) W e m) (near_le _ _ _ _)
 generalize Fl.wrd n (Fl.near (n == d) W e m) = b at *
 unfold Fl.pl
 split
 · exact ⟨by omega, by decide⟩
 · exact h
theorem Z_toVal (n d : Bool) (W : Nat) (e : Int) (m : Bool) : Fl.Z (toVal n d W e m) = if n then -(Fl.rv (Fl.near (n == d) W e m) : Int) else (Fl.rv (Fl.near (n == d) W e m) : Int) := by
 unfold toVal
 rw [Z_pl, Z_wrd n (near_le _ _ _ _)]
theorem toVal_turn (n : Bool) (W : Nat) (e : Int) (m : Bool) : Fl.Z (toVal n true W e m) = -Fl.Z (toVal (!n) false W e m) := by
 rw [Z_toVal, Z_toVal, show ((!n) == false) = (n == true) by cases n <;> rfl]
 cases n <;> simp
end Go.Proofs.YtnljfcebmgifdaaGreat
namespace Go.Proofs.YtnljfcebmgifdaaGreat
namespace Fl
/-- r is the rung at or below a size, i: something is behind it. le, lt: 'at or below the size', 'below it'. -/
structure Spot (le lt : Nat → Prop) (r : Nat) (i : Bool) : Prop where
 lo : le (rv r)
 hi : ¬ le (rv (r + 1))
 ex : i = true ↔ lt (rv r)
/-- The directed rounding. -/
def dir (g : Bool) (r : Nat) (i : Bool) : Nat := if g = true then min (r + i.toNat) INF else min r (INF - 1)
/-- The rung and the rest of a word. -/
def rr (W : Nat) (e : Int) : Nat := if W = 0 then 0 else rung W (e + 1074)
def ri (W : Nat) (e : Int) (m : Bool) : Bool := if W = 0 then false else (lost W (e + 1074) || m)
theorem near_dir (g : Bool) (W : Nat) (e : Int) (m : Bool) : near g W e m = dir g (rr W e) (ri W e m) := by
 unfold near dir rr ri
 by_cases h : W = 0
 · rw [if_pos h, if_pos h, if_pos h]
   cases g
   · rw [if_neg Bool.false_ne_true]; exact (Nat.zero_min _).symm
   · rw [if_pos rfl]; exact (Nat.zero_min _).symm
 · rw [if_neg h, if_neg h, if_neg h]
/-- (W, e, m) stands for N / D. -/
structure Rep (W : Nat) (e : Int) (m : Bool) (N D : Nat) : Prop where
 lo : W * 2 ^ (e + 1074).toNat * D ≤ N * 2 ^ (-(e + 1074)).toNat
 eq : m = false → W * 2 ^ (e + 1074).toNat * D = N * 2 ^ (-(e + 1074)).toNat
 lt : m = true → W * 2 ^ (e + 1074).toNat * D < N * 2 ^ (-(e + 1074)).toNat ∧ N * 2 ^ (-(e + 1074)).toNat < (W + 1) * 2 ^ (e + 1074).toNat * D ∧ 0 ≤ drop W (e + 1074) ∧ W ≠ 0
theorem rep_spot {W : Nat} {e : Int} {m : Bool} {N D : Nat} (hD : 0 < D) (h : Rep W e m N D) : Spot (fun x => x * D ≤ N) (fun x => x * D < N) (rr W e) (ri W e m) := by
 obtain ⟨P, hP⟩ : ∃ P, 2 ^ (e + 1074).toNat = P := ⟨_, rfl⟩
 obtain ⟨Q, hQ⟩ : ∃ Q, 2 ^ (-(e + 1074)).toNat = Q := ⟨_, rfl⟩
 have hQp : 0 < Q := by rw [← hQ]; exact Nat.two_pow_pos _
 have k1 := h.lo
 have k2 := h.eq
 have k3 := h.lt
 rw [hP, hQ] at k1 k2 k3
 by_cases h0 : W = 0
 · have hm : m = false := by
     cases m
     · rfl
     · exact absurd h0 (k3 rfl).2.2.2
   have hN : N = 0 := by
     have := k2 hm
     rw [h0, Nat.zero_mul, Nat.zero_mul] at this
     rcases Nat.mul_eq_zero.1 this.symm with h | h
     · exact h
     · omega
   unfold rr ri
   rw [if_pos h0, if_pos h0, hN]
   refine ⟨?_, ?_, ?_⟩
   · rw [rv_zero, Nat.zero_mul]; exact Nat.le_refl _
   · have := rv_pos (r := 0 + 1) (by omega)
     intro hle
     have h2 := Nat.mul_pos this hD
     omega
   · constructor
     · intro h; cases h
     · intro h; exact absurd h (Nat.not_lt_zero _)
 · unfold rr ri
   rw [if_neg h0, if_neg h0]
   have r1 := rung_low W (e + 1074) h0
   have r2 := rung_same W (e + 1074) h0
   have r3 := rung_lost W (e + 1074) h0
   have r4 := rung_high W (e + 1074) h0
   have r5 := rung_above W (e + 1074) h0
   rw [hP, hQ] at r1 r2 r3 r4 r5
   obtain ⟨u, hu⟩ : ∃ u, rv (rung W (e + 1074)) = u := ⟨_, rfl⟩
   obtain ⟨v, hv⟩ : ∃ v, rv (rung W (e + 1074) + 1) = v := ⟨_, rfl⟩
   rw [hu] at r1 r2 r3
   rw [hv] at r4 r5
   have c1 : ∀ x : Nat, x * D * Q = x * Q * D := fun x => Nat.mul_right_comm _ _ _
   refine ⟨?_, ?_, ?_⟩
   · show rv (rung W (e + 1074)) * D ≤ N
     rw [hu]
     apply Nat.le_of_mul_le_mul_right _ hQp
     rw [c1]
     exact Nat.le_trans (Nat.mul_le_mul_right _ r1) k1
   · show ¬ rv (rung W (e + 1074) + 1) * D ≤ N
     rw [hv]
     intro hle
     have hle2 : v * D * Q ≤ N * Q := Nat.mul_le_mul_right _ hle
     rw [c1] at hle2
     cases m
     · have := k2 rfl
       have h5 : W * P * D < v * Q * D := Nat.mul_lt_mul_of_pos_right r5 hD
       omega
     · obtain ⟨_, b2, b3, _⟩ := k3 rfl
       have h5 : (W + 1) * P * D ≤ v * Q * D := Nat.mul_le_mul_right _ (r4 b3)
       omega
   · have key : (u * D < N) ↔ u * Q * D < N * Q := by
       rw [← c1]
       exact (Nat.mul_lt_mul_right hQp).symm
     show (lost W (e + 1074) || m) = true ↔ rv (rung W (e + 1074)) * D < N
     rw [hu, key]
     cases m
     · have h6 := k2 rfl
       rw [Bool.or_false, ← h6]
       constructor
       · intro hl
         exact Nat.mul_lt_mul_of_pos_right (r3 hl) hD
       · intro hl
         cases hlo : lost W (e + 1074)
         · have := r2 hlo
           rw [this] at hl
           exact absurd hl (Nat.lt_irrefl _)
         · rfl
     · obtain ⟨b1, _⟩ := k3 rfl
       rw [Bool.or_true]
       refine ⟨fun _ => ?_, fun _ => rfl⟩
       exact Nat.lt_of_le_of_lt (Nat.mul_le_mul_right _ r1) b1
/-- A word with a sign stands for S / D. -/
structure SRep (n : Bool) (W : Nat) (e : Int) (m : Bool) (S : Int) (D : Nat) : Prop where
 rep : Rep W e m S.natAbs D
 pos : 0 < S → n = false
 neg : S < 0 → n = true
theorem srep_Z {n : Bool} {W : Nat} {e : Int} {m : Bool} {S : Int} {D : Nat} (hD : 0 < D) (h : SRep n W e m S D) (down : Bool) :
   Z (toVal n down W e m) = if S < 0 then -(rv (dir down (rr W e) (ri W e m)) : Int) else (rv (dir (!down) (rr W e) (ri W e m)) : Int) := by
 rw [Z_toVal, near_dir]
 by_cases h1 : S < 0
 · rw [if_pos h1, h.neg h1, if_pos rfl, show (true == down) = down by cases down <;> rfl]
 · rw [if_neg h1]
   by_cases h2 : 0 < S
   · rw [h.pos h2, if_neg Bool.false_ne_true, show (false == down) = !down by cases down <;> rfl]
   · have hS : S = 0 := by omega
     have sp := rep_spot hD h.rep
     rw [hS] at sp
     have hr : rr W e = 0 := by
       apply Nat.eq_zero_of_not_pos
       intro hp
       have h3 := sp.lo
       have h4 := Nat.mul_pos (rv_pos hp) hD
       have h5 : (0 : Int).natAbs = 0 := rfl
       rw [h5] at h3
       omega
     have hi : ri W e m = false := by
       cases hri : ri W e m
       · rfl
       · have := sp.ex.1 hri
         exact absurd this (Nat.not_lt_zero _)
     have hd : ∀ g, dir g 0 false = 0 := by
       intro g
       unfold dir
       cases g
       · rw [if_neg Bool.false_ne_true]; exact Nat.zero_min _
       · rw [if_pos rfl]; exact Nat.zero_min _
     rw [hr, hi, hd, hd, rv_zero]
     cases n <;> rfl
end Fl
end Go.Proofs.YtnljfcebmgifdaaGreat
namespace Go.Proofs.YtnljfcebmgifdaaGreat
namespace Fl
theorem sE_nn (b : Nat) : 0 ≤ sE b + 1074 := by have := sE_ge b; omega
theorem rep_self (b : Nat) : SRep (sg b) (sM b) (sE b) false (Z b) 1 := by
 have hE := sE_nn b
 have hv := sM_rv b
 have hN : (Z b).natAbs = rv (mg b) := by
   unfold Z
   exact natAbs_unit _ _
 have e0 : (-(sE b + 1074)).toNat = 0 := by omega
 refine ⟨⟨?_, fun _ => ?_, (fun h => by cases h)⟩, ?_, ?_⟩
 · rw [hN, e0, Nat.pow_zero, Nat.mul_one, Nat.mul_one, hv]; exact Nat.le_refl _
 · rw [hN, e0, Nat.pow_zero, Nat.mul_one, Nat.mul_one, hv]
 · intro h
   unfold Z at h
   cases hs : sg b
   · rfl
   · rw [hs, if_pos rfl] at h; omega
 · intro h
   unfold Z at h
   cases hs : sg b
   · rw [hs, if_neg Bool.false_ne_true] at h; omega
   · rfl
def sz (n : Bool) (z : Nat) : Int := if n then -(z : Int) else (z : Int)
theorem fin_rep (na nb : Bool) (A1 B1 : Nat) (e1 : Int) (mb : Bool) (za zb : Nat) (P Q : Nat) (hP : 2 ^ (e1 + 1074).toNat = P) (hQ : 2 ^ (-(e1 + 1074)).toNat = Q)
   (hA : A1 * P = za * Q) (hB : mb = false → B1 * P = zb * Q) (hB' : mb = true → B1 * P < zb * Q ∧ zb * Q < (B1 + 1) * P ∧ B1 + 1 < A1 ∧ 0 ≤ drop (A1 + B1) (e1 + 1074) ∧ 0 ≤ drop (A1 - B1 - 1) (e1 + 1074)) :
   SRep (sumFin na nb A1 B1 e1 mb).1 (sumFin na nb A1 B1 e1 mb).2.1 (sumFin na nb A1 B1 e1 mb).2.2.1 (sumFin na nb A1 B1 e1 mb).2.2.2 (sz na za + sz nb zb) 1 := by
 have hPp : 0 < P := by rw [← hP]; exact Nat.two_pow_pos _
 have hQp : 0 < Q := by rw [← hQ]; exact Nat.two_pow_pos _
 -- sizes by words
 have cmp : ∀ x y : Nat, x * Q < y * Q ↔ x < y := fun x y => Nat.mul_lt_mul_right hQp
 have cmpP : ∀ x y : Nat, x * P < y * P ↔ x < y := fun x y => Nat.mul_lt_mul_right hPp
 unfold sumFin
 by_cases hs : (na == nb) = true
 · rw [if_pos hs]
   have hn : na = nb := by revert hs; cases na <;> cases nb <;> simp
   subst hn
   have hN : (sz na za + sz na zb).natAbs = za + zb := by unfold sz; cases na <;> simp <;> omega
   have hpos : 0 < sz na za + sz na zb → na = false := by unfold sz; cases na <;> simp; omega
   have hneg : sz na za + sz na zb < 0 → na = true := by unfold sz; cases na <;> simp; omega
   refine ⟨⟨?_, ?_, ?_⟩, hpos, hneg⟩
   · show (A1 + B1) * 2 ^ (e1 + 1074).toNat * 1 ≤ _ * 2 ^ (-(e1 + 1074)).toNat
     rw [hN, hP, hQ, Nat.mul_one, Nat.add_mul, Nat.add_mul, hA]
     cases mb
     · rw [hB rfl]; exact Nat.le_refl _
     · have := (hB' rfl).1; omega
   · intro h
     have h : mb = false := h
     show (A1 + B1) * 2 ^ (e1 + 1074).toNat * 1 = _ * 2 ^ (-(e1 + 1074)).toNat
     rw [hN, hP, hQ, Nat.mul_one, Nat.add_mul, Nat.add_mul, hA, hB h]
   · intro h
     have h : mb = true := h
     obtain ⟨b1, b2, b3, b4, b5⟩ := hB' h
     show (A1 + B1) * 2 ^ (e1 + 1074).toNat * 1 < _ * 2 ^ (-(e1 + 1074)).toNat ∧ _ * 2 ^ (-(e1 + 1074)).toNat < (A1 + B1 + 1) * 2 ^ (e1 + 1074).toNat * 1 ∧ 0 ≤ drop (A1 + B1) (e1 + 1074) ∧ A1 + B1 ≠ 0
     rw [hN, hP, hQ, Nat.mul_one, Nat.mul_one, Nat.add_assoc, Nat.add_mul A1, Nat.add_mul A1, Nat.add_mul za, hA]
     exact ⟨by omega, by omega, by rw [← Nat.add_zero (A1 + B1)]; simpa using b4, by omega⟩
 · rw [if_neg hs]
   have hn : nb = !na := by revert hs; cases na <;> cases nb <;> simp
   subst hn
   by_cases hm : mb = true
   · rw [if_pos hm]
     obtain ⟨b1, b2, b3, b4, b5⟩ := hB' hm
     have hlt : zb < za := by
       rw [← cmp]
       have : (B1 + 1) * P < A1 * P := (cmpP _ _).2 b3
       omega
     have hN : (sz na za + sz (!na) zb).natAbs = za - zb := by unfold sz; cases na <;> simp <;> omega
     have hpos : 0 < sz na za + sz (!na) zb → na = false := by unfold sz; cases na <;> simp; omega
     have hneg : sz na za + sz (!na) zb < 0 → na = true := by unfold sz; cases na <;> simp; omega
     have hW : (A1 - B1 - 1) * P = A1 * P - (B1 + 1) * P := by rw [Nat.sub_sub, Nat.sub_mul]
     have hW1 : (A1 - B1 - 1 + 1) * P = A1 * P - B1 * P := by rw [show A1 - B1 - 1 + 1 = A1 - B1 by omega, Nat.sub_mul]
     have hS : (za - zb) * Q = A1 * P - zb * Q := by rw [Nat.sub_mul, hA]
     have hle : (B1 + 1) * P ≤ A1 * P := Nat.le_of_lt ((cmpP _ _).2 b3)
     refine ⟨⟨?_, (fun h => by have h' : true = false := h; cases h'), fun _ => ?_⟩, hpos, hneg⟩
     · show (A1 - B1 - 1) * 2 ^ (e1 + 1074).toNat * 1 ≤ _ * 2 ^ (-(e1 + 1074)).toNat
       rw [hN, hP, hQ, Nat.mul_one, hW, hS]
       omega
     · show (A1 - B1 - 1) * 2 ^ (e1 + 1074).toNat * 1 < _ * 2 ^ (-(e1 + 1074)).toNat ∧ _ * 2 ^ (-(e1 + 1074)).toNat < (A1 - B1 - 1 + 1) * 2 ^ (e1 + 1074).toNat * 1 ∧ 0 ≤ drop (A1 - B1 - 1) (e1 + 1074) ∧ A1 - B1 - 1 ≠ 0
       rw [hN, hP, hQ, Nat.mul_one, Nat.mul_one, hW, hW1, hS]
       exact ⟨by omega, by omega, b5, by omega⟩
   · rw [if_neg hm]
     have hm' : mb = false := by revert hm; cases mb <;> simp
     have hBe := hB hm'
     by_cases hlt : A1 < B1
     · rw [if_pos hlt]
       have hz : za < zb := by
         rw [← cmp, ← hA, ← hBe]
         exact (cmpP _ _).2 hlt
       have hN : (sz na za + sz (!na) zb).natAbs = zb - za := by unfold sz; cases na <;> simp <;> omega
       have hpos : 0 < sz na za + sz (!na) zb → (!na) = false := by unfold sz; cases na <;> simp; omega
       have hneg : sz na za + sz (!na) zb < 0 → (!na) = true := by unfold sz; cases na <;> simp; omega
       have he : (B1 - A1) * 2 ^ (e1 + 1074).toNat * 1 = (sz na za + sz (!na) zb).natAbs * 2 ^ (-(e1 + 1074)).toNat := by
         rw [hN, hP, hQ, Nat.mul_one, Nat.sub_mul, Nat.sub_mul, hA, hBe]
       exact ⟨⟨Nat.le_of_eq he, fun _ => he, (fun h => by have h' : false = true := h; cases h')⟩, hpos, hneg⟩
     · rw [if_neg hlt]
       have hz : zb ≤ za := by
         apply Nat.le_of_not_lt
         intro h
         rw [← cmp, ← hA, ← hBe] at h
         exact hlt ((cmpP _ _).1 h)
       have hN : (sz na za + sz (!na) zb).natAbs = za - zb := by unfold sz; cases na <;> simp <;> omega
       have hpos : 0 < sz na za + sz (!na) zb → na = false := by unfold sz; cases na <;> simp; omega
       have hneg : sz na za + sz (!na) zb < 0 → na = true := by unfold sz; cases na <;> simp; omega
       have he : (A1 - B1 - 0) * 2 ^ (e1 + 1074).toNat * 1 = (sz na za + sz (!na) zb).natAbs * 2 ^ (-(e1 + 1074)).toNat := by
         rw [hN, hP, hQ, Nat.mul_one, Nat.sub_zero, Nat.sub_mul, Nat.sub_mul, hA, hBe]
       exact ⟨⟨Nat.le_of_eq he, fun _ => he, (fun h => by have h' : false = true := h; cases h')⟩, hpos, hneg⟩
theorem up_size (A k : Nat) (ea e1 : Int) (h : e1 = ea - k) (hE : 0 ≤ ea + 1074) : A * 2 ^ k * 2 ^ (e1 + 1074).toNat = A * 2 ^ (ea + 1074).toNat * 2 ^ (-(e1 + 1074)).toNat := by
 rw [Nat.mul_assoc, Nat.mul_assoc, ← Nat.pow_add, ← Nat.pow_add]
 congr 2
 omega
theorem big_small {x y : Nat} (hx : 42535295865117307932921825928971026432 ≤ x) (hy : y < 9007199254740992) : y + 1 < x ∧ 42535295865117307932921825928971026432 ≤ x + y + 9007199254740993 ∧ 42535295865117307932921825928971026432 ≤ x - y - 1 + 9007199254740993 :=
 ⟨by omega, by omega, by omega⟩
theorem core_rep (na nb : Bool) (A B : Nat) (ea eb : Int) (hA : A < 9007199254740992) (hB : B < 9007199254740992) (hA0 : A ≠ 0) (hB0 : B ≠ 0) (hea : -1074 ≤ ea) (hea2 : ea ≤ 971) (heb : -1074 ≤ eb) (heb2 : eb ≤ 971) (hc : eb + (len B : Int) ≤ ea + len A) :
   SRep (sumCore na nb A B ea eb).1 (sumCore na nb A B ea eb).2.1 (sumCore na nb A B ea eb).2.2.1 (sumCore na nb A B ea eb).2.2.2 (sz na (A * 2 ^ (ea + 1074).toNat) + sz nb (B * 2 ^ (eb + 1074).toNat)) 1 := by
 have l1 := len53 hA
 have l3 := len_pos hA0
 have hgt := top126 hA0 (by omega)
 have bA := norm126 hA
 by_cases h1 : ea + (len A : Int) - 126 ≤ eb
 · rw [sumCore_le na nb A B ea eb h1]
   refine fin_rep na nb _ _ _ false _ _ _ _ rfl rfl (up_size A _ ea _ (by omega) (by omega)) (fun _ => up_size B _ eb _ (by omega) (by omega)) (fun h => by cases h)
 · rw [sumCore_gt na nb A B ea eb (by omega)]
   obtain ⟨e1, he1⟩ : ∃ e1, ea + (len A : Int) - 126 = e1 := ⟨_, rfl⟩
   rw [he1] at h1 ⊢
   obtain ⟨k, hk⟩ : ∃ k : Nat, e1 - eb = k := ⟨(e1 - eb).toNat, by omega⟩
   rw [show (e1 - eb).toNat = k by omega]
   have hE : (-(e1 + 1074)).toNat = 0 := by omega
   have hb : B / 2 ^ k < 9007199254740992 := Nat.lt_of_le_of_lt (Nat.div_le_self _ _) hB
   have hsz : B * 2 ^ (eb + 1074).toNat * 2 ^ k = B * 2 ^ (e1 + 1074).toNat := by
     rw [Nat.mul_assoc, ← Nat.pow_add]; congr 2; omega
   have hpk := Nat.two_pow_pos k
   have hpe : 2 ^ (e1 + 1074).toNat = 2 ^ k * 2 ^ (eb + 1074).toNat := by rw [← Nat.pow_add]; congr 1; omega
   have hq := Nat.two_pow_pos (eb + 1074).toNat
   have hd := Nat.div_add_mod B (2 ^ k)
   have hdr : ∀ W : Nat, 42535295865117307932921825928971026432 ≤ W + 9007199254740993 → 0 ≤ drop W (e1 + 1074) := by
     intro W hW
     have h1 : 124 < len W := len_ge (by rw [show (2 : Nat) ^ 124 = 21267647932558653966460912964485513216 by decide]; omega)
     unfold drop
     omega
   refine fin_rep na nb _ _ _ _ _ _ _ _ rfl rfl (up_size A _ ea _ (by omega) (by omega)) (fun h => ?_) (fun h => ?_)
   · have h0 : B % 2 ^ k = 0 := by simpa using h
     rw [h0, Nat.add_zero] at hd
     rw [hE, Nat.pow_zero, Nat.mul_one, hpe, ← Nat.mul_assoc, Nat.mul_comm (B / 2 ^ k), hd]
   · have h0 : B % 2 ^ k ≠ 0 := by simpa using h
     have h2 := Nat.mod_lt B hpk
     rw [hE, Nat.pow_zero, Nat.mul_one, hpe, ← Nat.mul_assoc, ← Nat.mul_assoc]
     rw [Nat.mul_comm] at hd
     have g1 : B / 2 ^ k * 2 ^ k < B := by omega
     have g2 : B < (B / 2 ^ k + 1) * 2 ^ k := by rw [Nat.add_mul, Nat.one_mul]; omega
     exact ⟨Nat.mul_lt_mul_of_pos_right g1 hq, Nat.mul_lt_mul_of_pos_right g2 hq, (big_small hgt hb).1, hdr _ (big_small hgt hb).2.1, hdr _ (big_small hgt hb).2.2⟩
theorem Z_sz (b : Nat) : Z b = sz (sg b) (sM b * 2 ^ (sE b + 1074).toNat) := by
 unfold Z sz
 rw [sM_rv]
theorem srep_congr {n : Bool} {W : Nat} {e : Int} {m : Bool} {S S' : Int} {D : Nat} (h : SRep n W e m S D) (hS : S = S') : SRep n W e m S' D := hS ▸ h
theorem sum_rep (a b : Nat) (fa : fin a = true) (fb : fin b = true) :
   SRep (sumOf (sg a) (sg b) (sM a) (sM b) (sE a) (sE b)).1 (sumOf (sg a) (sg b) (sM a) (sM b) (sE a) (sE b)).2.1 (sumOf (sg a) (sg b) (sM a) (sM b) (sE a) (sE b)).2.2.1 (sumOf (sg a) (sg b) (sM a) (sM b) (sE a) (sE b)).2.2.2 (Z a + Z b) 1 := by
 have z0 : ∀ x, sM x = 0 → Z x = 0 := by
   intro x hx
   rw [Z_sz, hx, Nat.zero_mul]
   unfold sz
   cases sg x <;> rfl
 unfold sumOf
 by_cases hA : sM a = 0
 · rw [if_pos hA]
   exact srep_congr (rep_self b) (by rw [z0 a hA, Int.zero_add])
 · rw [if_neg hA]
   by_cases hB : sM b = 0
   · rw [if_pos hB]
     exact srep_congr (rep_self a) (by rw [z0 b hB, Int.add_zero])
   · rw [if_neg hB]
     by_cases hc : sE a + (len (sM a) : Int) < sE b + (len (sM b) : Int)
     · rw [if_pos hc]
       exact srep_congr (core_rep (sg b) (sg a) (sM b) (sM a) (sE b) (sE a) (sM_lt b) (sM_lt a) hB hA (sE_ge b) (sE_le b fb) (sE_ge a) (sE_le a fa) (by omega)) (by rw [Z_sz a, Z_sz b, Int.add_comm])
     · rw [if_neg hc]
       exact srep_congr (core_rep (sg a) (sg b) (sM a) (sM b) (sE a) (sE b) (sM_lt a) (sM_lt b) hA hB (sE_ge a) (sE_le a fa) (sE_ge b) (sE_le b fb) (by omega)) (by rw [Z_sz a, Z_sz b])
theorem mul_rep (a b : Nat) : SRep (sg a != sg b) (sM a * sM b) (sE a + sE b) false (Z a * Z b) (2 ^ BB) := by
 have hB := BB_eq
 have ea := sE_nn a
 have eb := sE_nn b
 have hN : (Z a * Z b).natAbs = sM a * 2 ^ (sE a + 1074).toNat * (sM b * 2 ^ (sE b + 1074).toNat) := by
   rw [Int.natAbs_mul, Z_sz, Z_sz]
   have : ∀ (n : Bool) (z : Nat), (sz n z).natAbs = z := fun n z => natAbs_unit n z
   rw [this, this]
 have he : sM a * sM b * 2 ^ (sE a + sE b + 1074).toNat * 2 ^ BB = (Z a * Z b).natAbs * 2 ^ (-(sE a + sE b + 1074)).toNat := by
   have h1 : 2 ^ (sE a + sE b + 1074).toNat * 2 ^ BB = 2 ^ (sE a + 1074).toNat * 2 ^ (sE b + 1074).toNat * 2 ^ (-(sE a + sE b + 1074)).toNat := by
     rw [← Nat.pow_add, ← Nat.pow_add, ← Nat.pow_add]; congr 1; omega
   rw [hN, Nat.mul_mul_mul_comm, Nat.mul_assoc (sM a * sM b), h1, Nat.mul_assoc (sM a * sM b)]
 have key : ∀ (n n' : Bool) (x y : Nat), (0 < sz n x * sz n' y → (n != n') = false) ∧ (sz n x * sz n' y < 0 → (n != n') = true) := by
   intro n n' x y
   have h : (0 : Int) ≤ (x : Int) * (y : Int) := Int.mul_nonneg (Int.natCast_nonneg _) (Int.natCast_nonneg _)
   unfold sz
   cases n <;> cases n' <;> refine ⟨fun h1 => ?_, fun h1 => ?_⟩ <;> first | rfl | (exfalso; simp only [if_true, Bool.false_eq_true, if_false, Int.neg_mul, Int.mul_neg, Int.neg_neg] at h1; omega)
 have k2 := key (sg a) (sg b) (sM a * 2 ^ (sE a + 1074).toNat) (sM b * 2 ^ (sE b + 1074).toNat)
 rw [← Z_sz, ← Z_sz] at k2
 exact ⟨⟨Nat.le_of_eq he, fun _ => he, (fun h => by cases h)⟩, k2.1, k2.2⟩
end Fl
end Go.Proofs.YtnljfcebmgifdaaGreat
namespace Go.Proofs.YtnljfcebmgifdaaGreat
theorem rP_even (a : Nat) : Int.tdiv (rP a) 2 * 2 = rP a := by
 refine Int.tdiv_mul_cancel ?_
 unfold rP
 by_cases h : rOdd a = true
 · rw [if_pos h]
   have h1 : Int.tmod (rE a) 2 ≠ 0 := by
     unfold rOdd at h
     simpa using h
   have h2 : ¬ (2 : Int) ∣ rE a := fun hd => h1 (Int.tmod_eq_zero_of_dvd hd)
   omega
 · rw [if_neg h]
   have h1 : Int.tmod (rE a) 2 = 0 := by
     unfold rOdd at h
     simpa using h
   exact Int.dvd_of_tmod_eq_zero h1
theorem rM_size (a : Nat) (hf : Fl.fin a = true) : rM a * (2 ^ (Int.tdiv (rP a) 2 + 1074).toNat * 2 ^ (Int.tdiv (rP a) 2 + 1074).toNat) = Fl.rv (Fl.mg a) * 2 ^ Fl.BB ∧ 0 ≤ Int.tdiv (rP a) 2 + 1074 := by
 have hB := Fl.BB_eq
 have h1 := rP_even a
 have e1 := rE_ge a
 have hP : -1190 ≤ rP a := by unfold rP; split <;> omega
 have hs := Fl.sM_rv a
 have hE := Fl.sE_ge a
 have hl := len53 (Fl.sM_lt a)
 have hx : rX a * 2 ^ (rE a + 2148).toNat = Fl.rv (Fl.mg a) * 2 ^ Fl.BB := by
   rw [← hs]
   unfold rX rE
   rw [Nat.mul_assoc, Nat.mul_assoc, ← Nat.pow_add, ← Nat.pow_add]
   congr 2
   omega
 refine ⟨?_, by omega⟩
 rw [← Nat.pow_add, ← hx]
 have h2 : (Int.tdiv (rP a) 2 + 1074).toNat + (Int.tdiv (rP a) 2 + 1074).toNat = (rP a + 2148).toNat := by omega
 rw [h2]
 unfold rM rP
 by_cases h : rOdd a = true
 · rw [if_pos h, if_pos h, Nat.mul_assoc]
   congr 1
   rw [show (rE a + 2148).toNat = (rE a - 1 + 2148).toNat + 1 by omega, Nat.pow_succ, Nat.mul_comm]
 · rw [if_neg h, if_neg h]
theorem root_spot (a R : Nat) (hf : Fl.fin a = true) (h0 : Fl.sM a ≠ 0) (hR : IsRoot (rM a) R) :
   Fl.Spot (fun x => x * x ≤ Fl.rv (Fl.mg a) * 2 ^ Fl.BB) (fun x => x * x < Fl.rv (Fl.mg a) * 2 ^ Fl.BB) (Fl.rr R (Int.tdiv (rP a) 2)) (Fl.ri R (Int.tdiv (rP a) 2) (R * R != rM a)) := by
 obtain ⟨hk, hE⟩ := rM_size a hf
 have hge := rM_ge a h0
 have hR0 : R ≠ 0 := by
   intro e
   have := hR.2
   rw [e] at this
   omega
 have hok := (root_ok a R hf h0 hR.1 hR.2).1
 obtain ⟨h, hh⟩ : ∃ h, Int.tdiv (rP a) 2 = h := ⟨_, rfl⟩
 rw [hh] at hk hE hok ⊢
 have r1 := Fl.rung_low R (h + 1074) hR0
 have r2 := Fl.rung_same R (h + 1074) hR0
 have r3 := Fl.rung_lost R (h + 1074) hR0
 have r4 := Fl.rung_high R (h + 1074) hR0
 have e0 : (-(h + 1074)).toNat = 0 := by omega
 rw [e0, Nat.pow_zero, Nat.mul_one] at r1 r2 r3 r4
 obtain ⟨P, hP⟩ : ∃ P, 2 ^ (h + 1074).toNat = P := ⟨_, rfl⟩
 have hPp : 0 < P := by rw [← hP]; exact Nat.two_pow_pos _
 rw [hP] at hk r1 r2 r3 r4
 have hdrop : 0 ≤ Fl.drop R (h + 1074) := by
   have hR2 : 144115188075855872 ≤ R := by
     apply Nat.le_of_not_lt
     intro hh
     have h3 : (R + 1) * (R + 1) ≤ 144115188075855872 * 144115188075855872 := Nat.mul_le_mul hh hh
     have := hR.2
     omega
   have hl : 57 < Fl.len R := len_ge (by rw [show (2 : Nat) ^ 57 = 144115188075855872 by decide]; exact hR2)
   unfold Fl.drop; omega
 have r4 := r4 hdrop
 unfold Fl.rr Fl.ri
 rw [if_neg hR0, if_neg hR0]
 obtain ⟨u, hu⟩ : ∃ u, Fl.rv (Fl.rung R (h + 1074)) = u := ⟨_, rfl⟩
 obtain ⟨v, hv⟩ : ∃ v, Fl.rv (Fl.rung R (h + 1074) + 1) = v := ⟨_, rfl⟩
 rw [hu] at r1 r2 r3
 rw [hv] at r4
 rw [← hk]
 have sq : R * P * (R * P) = R * R * (P * P) := Nat.mul_mul_mul_comm _ _ _ _
 have hPP : 0 < P * P := Nat.mul_pos hPp hPp
 have hRR : R * R * (P * P) ≤ rM a * (P * P) := Nat.mul_le_mul_right _ hR.1
 refine ⟨?_, ?_, ?_⟩
 · show Fl.rv (Fl.rung R (h + 1074)) * Fl.rv (Fl.rung R (h + 1074)) ≤ _
   rw [hu]
   have := Nat.mul_le_mul r1 r1
   omega
 · show ¬ Fl.rv (Fl.rung R (h + 1074) + 1) * Fl.rv (Fl.rung R (h + 1074) + 1) ≤ _
   rw [hv]
   have h1 := Nat.mul_le_mul r4 r4
   rw [Nat.mul_mul_mul_comm] at h1
   have h2 : rM a * (P * P) < (R + 1) * (R + 1) * (P * P) := Nat.mul_lt_mul_of_pos_right hR.2 hPP
   omega
 · show _ ↔ Fl.rv (Fl.rung R (h + 1074)) * Fl.rv (Fl.rung R (h + 1074)) < _
   rw [hu]
   cases hl : Fl.lost R (h + 1074)
   · rw [Bool.false_or, r2 hl, sq, Nat.mul_lt_mul_right hPP, bne_iff_ne]
     have := hR.1
     omega
   · rw [Bool.true_or]
     refine ⟨fun _ => ?_, fun _ => rfl⟩
     have h1 := r3 hl
     have h2 : u * u < R * P * (R * P) := Nat.mul_lt_mul'' h1 h1
     omega
theorem sqrtR_ok (a : Nat) (d : Bool) : (sqrtR a d).1 < 18446744073709551616 ∧ Fl.nan (sqrtR a d).1 = false := by
 unfold sqrtR
 split
 · split
   · exact ⟨by decide, by decide⟩
   · split
     · exact ⟨by decide, by decide⟩
     · exact toVal_ok _ _ _ _ _
 · exact ⟨by decide, by decide⟩
end Go.Proofs.YtnljfcebmgifdaaGreat
