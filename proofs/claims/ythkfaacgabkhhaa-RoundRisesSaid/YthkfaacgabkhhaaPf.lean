/- Plain: sums, products and roots stand for the exact ones. -/
import Derived.Test.YthkfaacgabkhhaaPe
set_option linter.unusedVariables false
set_option linter.unusedSimpArgs false
namespace Go.Proofs.Ythkfaacgabkhhaa
namespace Fl

theorem sE_nn (b : Nat) : 0 ≤ sE b + 1074 := by have := sE_ge b; omega
theorem rep_self (b : Nat) : SRep (sg b) (sM b) (sE b) false (Z b) 1 := by
  have hE := sE_nn b
  have hv := sM_rv b
  have hN : (Z b).natAbs = rv (mg b) := by
    unfold Z
    exact natAbs_unit _ _
  have e0 : (-(sE b + 1074)).toNat = 0 := by omega
  refine ⟨⟨?_, fun _ => ?_, (fun h => by cases h)⟩, ?_, ?_⟩
  · rw [hN, e0, Nat.pow_zero, Nat.mul_one, Nat.mul_one, hv]; exact Nat.le_refl _
  · rw [hN, e0, Nat.pow_zero, Nat.mul_one, Nat.mul_one, hv]
  · intro h
    unfold Z at h
    cases hs : sg b
    · rfl
    · rw [hs, if_pos rfl] at h; omega
  · intro h
    unfold Z at h
    cases hs : sg b
    · rw [hs, if_neg Bool.false_ne_true] at h; omega
    · rfl

def sz (n : Bool) (z : Nat) : Int := if n then -(z : Int) else (z : Int)

theorem fin_rep (na nb : Bool) (A1 B1 : Nat) (e1 : Int) (mb : Bool) (za zb : Nat) (P Q : Nat) (hP : 2 ^ (e1 + 1074).toNat = P) (hQ : 2 ^ (-(e1 + 1074)).toNat = Q)
    (hA : A1 * P = za * Q) (hB : mb = false → B1 * P = zb * Q) (hB' : mb = true → B1 * P < zb * Q ∧ zb * Q < (B1 + 1) * P ∧ B1 + 1 < A1 ∧ 0 ≤ drop (A1 + B1) (e1 + 1074) ∧ 0 ≤ drop (A1 - B1 - 1) (e1 + 1074)) :
    SRep (sumFin na nb A1 B1 e1 mb).1 (sumFin na nb A1 B1 e1 mb).2.1 (sumFin na nb A1 B1 e1 mb).2.2.1 (sumFin na nb A1 B1 e1 mb).2.2.2 (sz na za + sz nb zb) 1 := by
  have hPp : 0 < P := by rw [← hP]; exact Nat.two_pow_pos _
  have hQp : 0 < Q := by rw [← hQ]; exact Nat.two_pow_pos _
  -- sizes by words
  have cmp : ∀ x y : Nat, x * Q < y * Q ↔ x < y := fun x y => Nat.mul_lt_mul_right hQp
  have cmpP : ∀ x y : Nat, x * P < y * P ↔ x < y := fun x y => Nat.mul_lt_mul_right hPp
  unfold sumFin
  by_cases hs : (na == nb) = true
  · rw [if_pos hs]
    have hn : na = nb := by revert hs; cases na <;> cases nb <;> simp
    subst hn
    have hN : (sz na za + sz na zb).natAbs = za + zb := by unfold sz; cases na <;> simp <;> omega
    have hpos : 0 < sz na za + sz na zb → na = false := by unfold sz; cases na <;> simp; omega
    have hneg : sz na za + sz na zb < 0 → na = true := by unfold sz; cases na <;> simp; omega
    refine ⟨⟨?_, ?_, ?_⟩, hpos, hneg⟩
    · show (A1 + B1) * 2 ^ (e1 + 1074).toNat * 1 ≤ _ * 2 ^ (-(e1 + 1074)).toNat
      rw [hN, hP, hQ, Nat.mul_one, Nat.add_mul, Nat.add_mul, hA]
      cases mb
      · rw [hB rfl]; exact Nat.le_refl _
      · have := (hB' rfl).1; omega
    · intro h
      have h : mb = false := h
      show (A1 + B1) * 2 ^ (e1 + 1074).toNat * 1 = _ * 2 ^ (-(e1 + 1074)).toNat
      rw [hN, hP, hQ, Nat.mul_one, Nat.add_mul, Nat.add_mul, hA, hB h]
    · intro h
      have h : mb = true := h
      obtain ⟨b1, b2, b3, b4, b5⟩ := hB' h
      show (A1 + B1) * 2 ^ (e1 + 1074).toNat * 1 < _ * 2 ^ (-(e1 + 1074)).toNat ∧ _ * 2 ^ (-(e1 + 1074)).toNat < (A1 + B1 + 1) * 2 ^ (e1 + 1074).toNat * 1 ∧ 0 ≤ drop (A1 + B1) (e1 + 1074) ∧ A1 + B1 ≠ 0
      rw [hN, hP, hQ, Nat.mul_one, Nat.mul_one, Nat.add_assoc, Nat.add_mul A1, Nat.add_mul A1, Nat.add_mul za, hA]
      exact ⟨by omega, by omega, by rw [← Nat.add_zero (A1 + B1)]; simpa using b4, by omega⟩
  · rw [if_neg hs]
    have hn : nb = !na := by revert hs; cases na <;> cases nb <;> simp
    subst hn
    by_cases hm : mb = true
    · rw [if_pos hm]
      obtain ⟨b1, b2, b3, b4, b5⟩ := hB' hm
      have hlt : zb < za := by
        rw [← cmp]
        have : (B1 + 1) * P < A1 * P := (cmpP _ _).2 b3
        omega
      have hN : (sz na za + sz (!na) zb).natAbs = za - zb := by unfold sz; cases na <;> simp <;> omega
      have hpos : 0 < sz na za + sz (!na) zb → na = false := by unfold sz; cases na <;> simp; omega
      have hneg : sz na za + sz (!na) zb < 0 → na = true := by unfold sz; cases na <;> simp; omega
      have hW : (A1 - B1 - 1) * P = A1 * P - (B1 + 1) * P := by rw [Nat.sub_sub, Nat.sub_mul]
      have hW1 : (A1 - B1 - 1 + 1) * P = A1 * P - B1 * P := by rw [show A1 - B1 - 1 + 1 = A1 - B1 by omega, Nat.sub_mul]
      have hS : (za - zb) * Q = A1 * P - zb * Q := by rw [Nat.sub_mul, hA]
      have hle : (B1 + 1) * P ≤ A1 * P := Nat.le_of_lt ((cmpP _ _).2 b3)
      refine ⟨⟨?_, (fun h => by have h' : true = false := h; cases h'), fun _ => ?_⟩, hpos, hneg⟩
      · show (A1 - B1 - 1) * 2 ^ (e1 + 1074).toNat * 1 ≤ _ * 2 ^ (-(e1 + 1074)).toNat
        rw [hN, hP, hQ, Nat.mul_one, hW, hS]
        omega
      · show (A1 - B1 - 1) * 2 ^ (e1 + 1074).toNat * 1 < _ * 2 ^ (-(e1 + 1074)).toNat ∧ _ * 2 ^ (-(e1 + 1074)).toNat < (A1 - B1 - 1 + 1) * 2 ^ (e1 + 1074).toNat * 1 ∧ 0 ≤ drop (A1 - B1 - 1) (e1 + 1074) ∧ A1 - B1 - 1 ≠ 0
        rw [hN, hP, hQ, Nat.mul_one, Nat.mul_one, hW, hW1, hS]
        exact ⟨by omega, by omega, b5, by omega⟩
    · rw [if_neg hm]
      have hm' : mb = false := by revert hm; cases mb <;> simp
      have hBe := hB hm'
      by_cases hlt : A1 < B1
      · rw [if_pos hlt]
        have hz : za < zb := by
          rw [← cmp, ← hA, ← hBe]
          exact (cmpP _ _).2 hlt
        have hN : (sz na za + sz (!na) zb).natAbs = zb - za := by unfold sz; cases na <;> simp <;> omega
        have hpos : 0 < sz na za + sz (!na) zb → (!na) = false := by unfold sz; cases na <;> simp; omega
        have hneg : sz na za + sz (!na) zb < 0 → (!na) = true := by unfold sz; cases na <;> simp; omega
        have he : (B1 - A1) * 2 ^ (e1 + 1074).toNat * 1 = (sz na za + sz (!na) zb).natAbs * 2 ^ (-(e1 + 1074)).toNat := by
          rw [hN, hP, hQ, Nat.mul_one, Nat.sub_mul, Nat.sub_mul, hA, hBe]
        exact ⟨⟨Nat.le_of_eq he, fun _ => he, (fun h => by have h' : false = true := h; cases h')⟩, hpos, hneg⟩
      · rw [if_neg hlt]
        have hz : zb ≤ za := by
          apply Nat.le_of_not_lt
          intro h
          rw [← cmp, ← hA, ← hBe] at h
          exact hlt ((cmpP _ _).1 h)
        have hN : (sz na za + sz (!na) zb).natAbs = za - zb := by unfold sz; cases na <;> simp <;> omega
        have hpos : 0 < sz na za + sz (!na) zb → na = false := by unfold sz; cases na <;> simp; omega
        have hneg : sz na za + sz (!na) zb < 0 → na = true := by unfold sz; cases na <;> simp; omega
        have he : (A1 - B1 - 0) * 2 ^ (e1 + 1074).toNat * 1 = (sz na za + sz (!na) zb).natAbs * 2 ^ (-(e1 + 1074)).toNat := by
          rw [hN, hP, hQ, Nat.mul_one, Nat.sub_zero, Nat.sub_mul, Nat.sub_mul, hA, hBe]
        exact ⟨⟨Nat.le_of_eq he, fun _ => he, (fun h => by have h' : false = true := h; cases h')⟩, hpos, hneg⟩

theorem up_size (A k : Nat) (ea e1 : Int) (h : e1 = ea - k) (hE : 0 ≤ ea + 1074) : A * 2 ^ k * 2 ^ (e1 + 1074).toNat = A * 2 ^ (ea + 1074).toNat * 2 ^ (-(e1 + 1074)).toNat := by
  rw [Nat.mul_assoc, Nat.mul_assoc, ← Nat.pow_add, ← Nat.pow_add]
  congr 2
  omega

theorem big_small {x y : Nat} (hx : 42535295865117307932921825928971026432 ≤ x) (hy : y < 9007199254740992) : y + 1 < x ∧ 42535295865117307932921825928971026432 ≤ x + y + 9007199254740993 ∧ 42535295865117307932921825928971026432 ≤ x - y - 1 + 9007199254740993 :=
  ⟨by omega, by omega, by omega⟩
theorem core_rep (na nb : Bool) (A B : Nat) (ea eb : Int) (hA : A < 9007199254740992) (hB : B < 9007199254740992) (hA0 : A ≠ 0) (hB0 : B ≠ 0) (hea : -1074 ≤ ea) (hea2 : ea ≤ 971) (heb : -1074 ≤ eb) (heb2 : eb ≤ 971) (hc : eb + (len B : Int) ≤ ea + len A) :
    SRep (sumCore na nb A B ea eb).1 (sumCore na nb A B ea eb).2.1 (sumCore na nb A B ea eb).2.2.1 (sumCore na nb A B ea eb).2.2.2 (sz na (A * 2 ^ (ea + 1074).toNat) + sz nb (B * 2 ^ (eb + 1074).toNat)) 1 := by
  have l1 := len53 hA
  have l3 := len_pos hA0
  have hgt := top126 hA0 (by omega)
  have bA := norm126 hA
  by_cases h1 : ea + (len A : Int) - 126 ≤ eb
  · rw [sumCore_le na nb A B ea eb h1]
    refine fin_rep na nb _ _ _ false _ _ _ _ rfl rfl (up_size A _ ea _ (by omega) (by omega)) (fun _ => up_size B _ eb _ (by omega) (by omega)) (fun h => by cases h)
  · rw [sumCore_gt na nb A B ea eb (by omega)]
    obtain ⟨e1, he1⟩ : ∃ e1, ea + (len A : Int) - 126 = e1 := ⟨_, rfl⟩
    rw [he1] at h1 ⊢
    obtain ⟨k, hk⟩ : ∃ k : Nat, e1 - eb = k := ⟨(e1 - eb).toNat, by omega⟩
    rw [show (e1 - eb).toNat = k by omega]
    have hE : (-(e1 + 1074)).toNat = 0 := by omega
    have hb : B / 2 ^ k < 9007199254740992 := Nat.lt_of_le_of_lt (Nat.div_le_self _ _) hB
    have hsz : B * 2 ^ (eb + 1074).toNat * 2 ^ k = B * 2 ^ (e1 + 1074).toNat := by
      rw [Nat.mul_assoc, ← Nat.pow_add]; congr 2; omega
    have hpk := Nat.two_pow_pos k
    have hpe : 2 ^ (e1 + 1074).toNat = 2 ^ k * 2 ^ (eb + 1074).toNat := by rw [← Nat.pow_add]; congr 1; omega
    have hq := Nat.two_pow_pos (eb + 1074).toNat
    have hd := Nat.div_add_mod B (2 ^ k)
    have hdr : ∀ W : Nat, 42535295865117307932921825928971026432 ≤ W + 9007199254740993 → 0 ≤ drop W (e1 + 1074) := by
      intro W hW
      have h1 : 124 < len W := len_ge (by rw [show (2 : Nat) ^ 124 = 21267647932558653966460912964485513216 by decide]; omega)
      unfold drop
      omega
    refine fin_rep na nb _ _ _ _ _ _ _ _ rfl rfl (up_size A _ ea _ (by omega) (by omega)) (fun h => ?_) (fun h => ?_)
    · have h0 : B % 2 ^ k = 0 := by simpa using h
      rw [h0, Nat.add_zero] at hd
      rw [hE, Nat.pow_zero, Nat.mul_one, hpe, ← Nat.mul_assoc, Nat.mul_comm (B / 2 ^ k), hd]
    · have h0 : B % 2 ^ k ≠ 0 := by simpa using h
      have h2 := Nat.mod_lt B hpk
      rw [hE, Nat.pow_zero, Nat.mul_one, hpe, ← Nat.mul_assoc, ← Nat.mul_assoc]
      rw [Nat.mul_comm] at hd
      have g1 : B / 2 ^ k * 2 ^ k < B := by omega
      have g2 : B < (B / 2 ^ k + 1) * 2 ^ k := by rw [Nat.add_mul, Nat.one_mul]; omega
      exact ⟨Nat.mul_lt_mul_of_pos_right g1 hq, Nat.mul_lt_mul_of_pos_right g2 hq, (big_small hgt hb).1, hdr _ (big_small hgt hb).2.1, hdr _ (big_small hgt hb).2.2⟩

theorem Z_sz (b : Nat) : Z b = sz (sg b) (sM b * 2 ^ (sE b + 1074).toNat) := by
  unfold Z sz
  rw [sM_rv]

theorem srep_congr {n : Bool} {W : Nat} {e : Int} {m : Bool} {S S' : Int} {D : Nat} (h : SRep n W e m S D) (hS : S = S') : SRep n W e m S' D := hS ▸ h

theorem sum_rep (a b : Nat) (fa : fin a = true) (fb : fin b = true) :
    SRep (sumOf (sg a) (sg b) (sM a) (sM b) (sE a) (sE b)).1 (sumOf (sg a) (sg b) (sM a) (sM b) (sE a) (sE b)).2.1 (sumOf (sg a) (sg b) (sM a) (sM b) (sE a) (sE b)).2.2.1 (sumOf (sg a) (sg b) (sM a) (sM b) (sE a) (sE b)).2.2.2 (Z a + Z b) 1 := by
  have z0 : ∀ x, sM x = 0 → Z x = 0 := by
    intro x hx
    rw [Z_sz, hx, Nat.zero_mul]
    unfold sz
    cases sg x <;> rfl
  unfold sumOf
  by_cases hA : sM a = 0
  · rw [if_pos hA]
    exact srep_congr (rep_self b) (by rw [z0 a hA, Int.zero_add])
  · rw [if_neg hA]
    by_cases hB : sM b = 0
    · rw [if_pos hB]
      exact srep_congr (rep_self a) (by rw [z0 b hB, Int.add_zero])
    · rw [if_neg hB]
      by_cases hc : sE a + (len (sM a) : Int) < sE b + (len (sM b) : Int)
      · rw [if_pos hc]
        exact srep_congr (core_rep (sg b) (sg a) (sM b) (sM a) (sE b) (sE a) (sM_lt b) (sM_lt a) hB hA (sE_ge b) (sE_le b fb) (sE_ge a) (sE_le a fa) (by omega)) (by rw [Z_sz a, Z_sz b, Int.add_comm])
      · rw [if_neg hc]
        exact srep_congr (core_rep (sg a) (sg b) (sM a) (sM b) (sE a) (sE b) (sM_lt a) (sM_lt b) hA hB (sE_ge a) (sE_le a fa) (sE_ge b) (sE_le b fb) (by omega)) (by rw [Z_sz a, Z_sz b])

theorem mul_rep (a b : Nat) : SRep (sg a != sg b) (sM a * sM b) (sE a + sE b) false (Z a * Z b) (2 ^ BB) := by
  have hB := BB_eq
  have ea := sE_nn a
  have eb := sE_nn b
  have hN : (Z a * Z b).natAbs = sM a * 2 ^ (sE a + 1074).toNat * (sM b * 2 ^ (sE b + 1074).toNat) := by
    rw [Int.natAbs_mul, Z_sz, Z_sz]
    have : ∀ (n : Bool) (z : Nat), (sz n z).natAbs = z := fun n z => natAbs_unit n z
    rw [this, this]
  have he : sM a * sM b * 2 ^ (sE a + sE b + 1074).toNat * 2 ^ BB = (Z a * Z b).natAbs * 2 ^ (-(sE a + sE b + 1074)).toNat := by
    have h1 : 2 ^ (sE a + sE b + 1074).toNat * 2 ^ BB = 2 ^ (sE a + 1074).toNat * 2 ^ (sE b + 1074).toNat * 2 ^ (-(sE a + sE b + 1074)).toNat := by
      rw [← Nat.pow_add, ← Nat.pow_add, ← Nat.pow_add]; congr 1; omega
    rw [hN, Nat.mul_mul_mul_comm, Nat.mul_assoc (sM a * sM b), h1, Nat.mul_assoc (sM a * sM b)]
  have key : ∀ (n n' : Bool) (x y : Nat), (0 < sz n x * sz n' y → (n != n') = false) ∧ (sz n x * sz n' y < 0 → (n != n') = true) := by
    intro n n' x y
    have h : (0 : Int) ≤ (x : Int) * (y : Int) := Int.mul_nonneg (Int.natCast_nonneg _) (Int.natCast_nonneg _)
    unfold sz
    cases n <;> cases n' <;> refine ⟨fun h1 => ?_, fun h1 => ?_⟩ <;> first | rfl | (exfalso; simp only [if_true, Bool.false_eq_true, if_false, Int.neg_mul, Int.mul_neg, Int.neg_neg] at h1; omega)
  have k2 := key (sg a) (sg b) (sM a * 2 ^ (sE a + 1074).toNat) (sM b * 2 ^ (sE b + 1074).toNat)
  rw [← Z_sz, ← Z_sz] at k2
  exact ⟨⟨Nat.le_of_eq he, fun _ => he, (fun h => by cases h)⟩, k2.1, k2.2⟩
end Fl
end Go.Proofs.Ythkfaacgabkhhaa
