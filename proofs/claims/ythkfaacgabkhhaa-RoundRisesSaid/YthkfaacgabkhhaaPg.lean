/- Plain: roots stand for the exact ones; sums, products, roots rise. -/
import Derived.Test.YthkfaacgabkhhaaPf
set_option linter.unusedVariables false
set_option linter.unusedSimpArgs false
namespace Go.Proofs.Ythkfaacgabkhhaa

theorem rP_even (a : Nat) : Int.tdiv (rP a) 2 * 2 = rP a := by
  refine Int.tdiv_mul_cancel ?_
  unfold rP
  by_cases h : rOdd a = true
  · rw [if_pos h]
    have h1 : Int.tmod (rE a) 2 ≠ 0 := by
      unfold rOdd at h
      simpa using h
    have h2 : ¬ (2 : Int) ∣ rE a := fun hd => h1 (Int.tmod_eq_zero_of_dvd hd)
    omega
  · rw [if_neg h]
    have h1 : Int.tmod (rE a) 2 = 0 := by
      unfold rOdd at h
      simpa using h
    exact Int.dvd_of_tmod_eq_zero h1
theorem rM_size (a : Nat) (hf : Fl.fin a = true) : rM a * (2 ^ (Int.tdiv (rP a) 2 + 1074).toNat * 2 ^ (Int.tdiv (rP a) 2 + 1074).toNat) = Fl.rv (Fl.mg a) * 2 ^ Fl.BB ∧ 0 ≤ Int.tdiv (rP a) 2 + 1074 := by
  have hB := Fl.BB_eq
  have h1 := rP_even a
  have e1 := rE_ge a
  have hP : -1190 ≤ rP a := by unfold rP; split <;> omega
  have hs := Fl.sM_rv a
  have hE := Fl.sE_ge a
  have hl := len53 (Fl.sM_lt a)
  have hx : rX a * 2 ^ (rE a + 2148).toNat = Fl.rv (Fl.mg a) * 2 ^ Fl.BB := by
    rw [← hs]
    unfold rX rE
    rw [Nat.mul_assoc, Nat.mul_assoc, ← Nat.pow_add, ← Nat.pow_add]
    congr 2
    omega
  refine ⟨?_, by omega⟩
  rw [← Nat.pow_add, ← hx]
  have h2 : (Int.tdiv (rP a) 2 + 1074).toNat + (Int.tdiv (rP a) 2 + 1074).toNat = (rP a + 2148).toNat := by omega
  rw [h2]
  unfold rM rP
  by_cases h : rOdd a = true
  · rw [if_pos h, if_pos h, Nat.mul_assoc]
    congr 1
    rw [show (rE a + 2148).toNat = (rE a - 1 + 2148).toNat + 1 by omega, Nat.pow_succ, Nat.mul_comm]
  · rw [if_neg h, if_neg h]

theorem root_spot (a R : Nat) (hf : Fl.fin a = true) (h0 : Fl.sM a ≠ 0) (hR : IsRoot (rM a) R) :
    Fl.Spot (fun x => x * x ≤ Fl.rv (Fl.mg a) * 2 ^ Fl.BB) (fun x => x * x < Fl.rv (Fl.mg a) * 2 ^ Fl.BB) (Fl.rr R (Int.tdiv (rP a) 2)) (Fl.ri R (Int.tdiv (rP a) 2) (R * R != rM a)) := by
  obtain ⟨hk, hE⟩ := rM_size a hf
  have hge := rM_ge a h0
  have hR0 : R ≠ 0 := by
    intro e
    have := hR.2
    rw [e] at this
    omega
  have hok := (root_ok a R hf h0 hR.1 hR.2).1
  obtain ⟨h, hh⟩ : ∃ h, Int.tdiv (rP a) 2 = h := ⟨_, rfl⟩
  rw [hh] at hk hE hok ⊢
  have r1 := Fl.rung_low R (h + 1074) hR0
  have r2 := Fl.rung_same R (h + 1074) hR0
  have r3 := Fl.rung_lost R (h + 1074) hR0
  have r4 := Fl.rung_high R (h + 1074) hR0
  have e0 : (-(h + 1074)).toNat = 0 := by omega
  rw [e0, Nat.pow_zero, Nat.mul_one] at r1 r2 r3 r4
  obtain ⟨P, hP⟩ : ∃ P, 2 ^ (h + 1074).toNat = P := ⟨_, rfl⟩
  have hPp : 0 < P := by rw [← hP]; exact Nat.two_pow_pos _
  rw [hP] at hk r1 r2 r3 r4
  have hdrop : 0 ≤ Fl.drop R (h + 1074) := by
    have hR2 : 144115188075855872 ≤ R := by
      apply Nat.le_of_not_lt
      intro hh
      have h3 : (R + 1) * (R + 1) ≤ 144115188075855872 * 144115188075855872 := Nat.mul_le_mul hh hh
      have := hR.2
      omega
    have hl : 57 < Fl.len R := len_ge (by rw [show (2 : Nat) ^ 57 = 144115188075855872 by decide]; exact hR2)
    unfold Fl.drop; omega
  have r4 := r4 hdrop
  unfold Fl.rr Fl.ri
  rw [if_neg hR0, if_neg hR0]
  obtain ⟨u, hu⟩ : ∃ u, Fl.rv (Fl.rung R (h + 1074)) = u := ⟨_, rfl⟩
  obtain ⟨v, hv⟩ : ∃ v, Fl.rv (Fl.rung R (h + 1074) + 1) = v := ⟨_, rfl⟩
  rw [hu] at r1 r2 r3
  rw [hv] at r4
  rw [← hk]
  have sq : R * P * (R * P) = R * R * (P * P) := Nat.mul_mul_mul_comm _ _ _ _
  have hPP : 0 < P * P := Nat.mul_pos hPp hPp
  have hRR : R * R * (P * P) ≤ rM a * (P * P) := Nat.mul_le_mul_right _ hR.1
  refine ⟨?_, ?_, ?_⟩
  · show Fl.rv (Fl.rung R (h + 1074)) * Fl.rv (Fl.rung R (h + 1074)) ≤ _
    rw [hu]
    have := Nat.mul_le_mul r1 r1
    omega
  · show ¬ Fl.rv (Fl.rung R (h + 1074) + 1) * Fl.rv (Fl.rung R (h + 1074) + 1) ≤ _
    rw [hv]
    have h1 := Nat.mul_le_mul r4 r4
    rw [Nat.mul_mul_mul_comm] at h1
    have h2 : rM a * (P * P) < (R + 1) * (R + 1) * (P * P) := Nat.mul_lt_mul_of_pos_right hR.2 hPP
    omega
  · show _ ↔ Fl.rv (Fl.rung R (h + 1074)) * Fl.rv (Fl.rung R (h + 1074)) < _
    rw [hu]
    cases hl : Fl.lost R (h + 1074)
    · rw [Bool.false_or, r2 hl, sq, Nat.mul_lt_mul_right hPP, bne_iff_ne]
      have := hR.1
      omega
    · rw [Bool.true_or]
      refine ⟨fun _ => ?_, fun _ => rfl⟩
      have h1 := r3 hl
      have h2 : u * u < R * P * (R * P) := Nat.mul_lt_mul'' h1 h1
      omega

theorem add_rises (a b c : Nat) (down : Bool) (fa : Fl.fin a = true) (fb : Fl.fin b = true) (fc : Fl.fin c = true) (h : Fl.Z a ≤ Fl.Z b) : Fl.Z (addR a c down).1 ≤ Fl.Z (addR b c down).1 := by
  unfold addR
  rw [fa, fb, fc]
  exact Fl.srep_mono (by omega) (by omega) (Fl.sum_rep a c fa fc) (Fl.sum_rep b c fb fc) down (by omega)
theorem mul_rises (a b c : Nat) (down : Bool) (fa : Fl.fin a = true) (fb : Fl.fin b = true) (fc : Fl.fin c = true) (h : Fl.Z a ≤ Fl.Z b) (hc : 0 ≤ Fl.Z c) : Fl.Z (mulR a c down).1 ≤ Fl.Z (mulR b c down).1 := by
  unfold mulR
  rw [fa, fb, fc]
  refine Fl.srep_mono (Nat.two_pow_pos _) (Nat.two_pow_pos _) (Fl.mul_rep a c) (Fl.mul_rep b c) down ?_
  exact Int.mul_le_mul_of_nonneg_right (Int.mul_le_mul_of_nonneg_right h hc) (Int.natCast_nonneg _)

theorem sqrt_rises (a b : Nat) (down : Bool) (fa : Fl.fin a = true) (fb : Fl.fin b = true) (h0 : ¬ Fl.Z a < 0) (h : Fl.Z a ≤ Fl.Z b) : Fl.Z (sqrtR a down).1 ≤ Fl.Z (sqrtR b down).1 := by
  have hb0 : ¬ Fl.Z b < 0 := by omega
  have hpos : ∀ (c R : Nat), 0 ≤ Fl.Z (rootV c R down) := by
    intro c R
    unfold rootV
    rw [Z_toVal, if_neg Bool.false_ne_true]
    exact Int.natCast_nonneg _
  unfold sqrtR
  rw [if_pos fa, if_pos fb, if_neg h0, if_neg hb0]
  by_cases ha : Fl.mg a = 0
  · rw [if_pos ha]
    by_cases hb : Fl.mg b = 0
    · rw [if_pos hb]; exact Int.le_refl _
    · rw [if_neg hb]
      show Fl.Z 0 ≤ _
      rw [Z0]
      exact hpos _ _
  · rw [if_neg ha]
    have hza := Z_pos h0 ha
    have hb : Fl.mg b ≠ 0 := by
      intro hb
      have : Fl.Z b = 0 := by
        unfold Fl.Z
        rw [hb, Fl.rv_zero]
        cases Fl.sg b <;> rfl
      omega
    rw [if_neg hb]
    have hzb := Z_pos hb0 hb
    have hsa : Fl.sM a ≠ 0 := fun h => ha ((Fl.sM_zero a).1 h)
    have hsb : Fl.sM b ≠ 0 := fun h => hb ((Fl.sM_zero b).1 h)
    have s1 := root_spot a _ fa hsa (rootOf_is (rM a))
    have s2 := root_spot b _ fb hsb (rootOf_is (rM b))
    have hK : Fl.rv (Fl.mg a) * 2 ^ Fl.BB ≤ Fl.rv (Fl.mg b) * 2 ^ Fl.BB := by
      refine Nat.mul_le_mul_right _ ?_
      have z : ∀ x : Nat, 0 < Fl.Z x → Fl.Z x = (Fl.rv (Fl.mg x) : Int) := by
        intro x hx
        unfold Fl.Z at hx ⊢
        cases hs : Fl.sg x
        · rfl
        · rw [hs, if_pos rfl] at hx; omega
      have z1 := z a hza
      have z2 := z b hzb
      omega
    have hm := Fl.spot_mono s1 s2 (fun x hx => Nat.le_trans hx hK) (fun x hx => Nat.lt_of_lt_of_le hx hK) (fun x y h1 h2 => Nat.le_trans (Nat.mul_le_mul h1 h1) h2)
    show Fl.Z (rootV a _ down) ≤ Fl.Z (rootV b _ down)
    unfold rootV
    rw [Z_toVal, Z_toVal, if_neg Bool.false_ne_true, if_neg Bool.false_ne_true, Fl.near_dir, Fl.near_dir]
    have := Fl.rv_le (Fl.dir_mono (g := (false == down)) hm.1 hm.2)
    exact Int.ofNat_le.2 this
theorem sqrtR_ok (a : Nat) (d : Bool) : (sqrtR a d).1 < 18446744073709551616 ∧ Fl.nan (sqrtR a d).1 = false := by
  unfold sqrtR
  split
  · split
    · exact ⟨by decide, by decide⟩
    · split
      · exact ⟨by decide, by decide⟩
      · exact toVal_ok _ _ _ _ _
  · exact ⟨by decide, by decide⟩
end Go.Proofs.Ythkfaacgabkhhaa
