/- Plain: what is told is the directed rounding of the exact number; so it rises. -/
import Derived.Test.YthkfaacgabkhhaaVp
set_option linter.unusedVariables false
set_option linter.unusedSimpArgs false
namespace Go.Proofs.Ythkfaacgabkhhaa
namespace Fl

/-- r is the rung at or below a size, i: something is behind it. le, lt: 'at or below the size', 'below it'. -/
structure Spot (le lt : Nat → Prop) (r : Nat) (i : Bool) : Prop where
  lo : le (rv r)
  hi : ¬ le (rv (r + 1))
  ex : i = true ↔ lt (rv r)
/-- The directed rounding. -/
def dir (g : Bool) (r : Nat) (i : Bool) : Nat := if g = true then min (r + i.toNat) INF else min r (INF - 1)

theorem spot_mono {le lt le' lt' : Nat → Prop} {r r' : Nat} {i i' : Bool} (h : Spot le lt r i) (h' : Spot le' lt' r' i') (m1 : ∀ x, le x → le' x) (m2 : ∀ x, lt x → lt' x) (dc : ∀ x y, x ≤ y → le' y → le' x) : r ≤ r' ∧ r + i.toNat ≤ r' + i'.toNat := by
  have h1 : r ≤ r' := by
    apply Nat.le_of_not_lt
    intro hlt
    exact h'.hi (dc _ _ (rv_le hlt) (m1 _ h.lo))
  refine ⟨h1, ?_⟩
  by_cases h2 : r = r'
  · subst h2
    cases i
    · simp
    · have := h'.ex.2 (m2 _ (h.ex.1 rfl))
      rw [this]
      exact Nat.le_refl _
  · have : i.toNat ≤ 1 := Bool.toNat_le _
    omega
theorem dir_mono {g : Bool} {r r' : Nat} {i i' : Bool} (h1 : r ≤ r') (h2 : r + i.toNat ≤ r' + i'.toNat) : dir g r i ≤ dir g r' i' := by
  unfold dir
  split
  · omega
  · omega

/-- The rung and the rest of a word. -/
def rr (W : Nat) (e : Int) : Nat := if W = 0 then 0 else rung W (e + 1074)
def ri (W : Nat) (e : Int) (m : Bool) : Bool := if W = 0 then false else (lost W (e + 1074) || m)
theorem near_dir (g : Bool) (W : Nat) (e : Int) (m : Bool) : near g W e m = dir g (rr W e) (ri W e m) := by
  unfold near dir rr ri
  by_cases h : W = 0
  · rw [if_pos h, if_pos h, if_pos h]
    cases g
    · rw [if_neg Bool.false_ne_true]; exact (Nat.zero_min _).symm
    · rw [if_pos rfl]; exact (Nat.zero_min _).symm
  · rw [if_neg h, if_neg h, if_neg h]

/-- (W, e, m) stands for N / D. -/
structure Rep (W : Nat) (e : Int) (m : Bool) (N D : Nat) : Prop where
  lo : W * 2 ^ (e + 1074).toNat * D ≤ N * 2 ^ (-(e + 1074)).toNat
  eq : m = false → W * 2 ^ (e + 1074).toNat * D = N * 2 ^ (-(e + 1074)).toNat
  lt : m = true → W * 2 ^ (e + 1074).toNat * D < N * 2 ^ (-(e + 1074)).toNat ∧ N * 2 ^ (-(e + 1074)).toNat < (W + 1) * 2 ^ (e + 1074).toNat * D ∧ 0 ≤ drop W (e + 1074) ∧ W ≠ 0

theorem rep_spot {W : Nat} {e : Int} {m : Bool} {N D : Nat} (hD : 0 < D) (h : Rep W e m N D) : Spot (fun x => x * D ≤ N) (fun x => x * D < N) (rr W e) (ri W e m) := by
  obtain ⟨P, hP⟩ : ∃ P, 2 ^ (e + 1074).toNat = P := ⟨_, rfl⟩
  obtain ⟨Q, hQ⟩ : ∃ Q, 2 ^ (-(e + 1074)).toNat = Q := ⟨_, rfl⟩
  have hQp : 0 < Q := by rw [← hQ]; exact Nat.two_pow_pos _
  have k1 := h.lo
  have k2 := h.eq
  have k3 := h.lt
  rw [hP, hQ] at k1 k2 k3
  by_cases h0 : W = 0
  · have hm : m = false := by
      cases m
      · rfl
      · exact absurd h0 (k3 rfl).2.2.2
    have hN : N = 0 := by
      have := k2 hm
      rw [h0, Nat.zero_mul, Nat.zero_mul] at this
      rcases Nat.mul_eq_zero.1 this.symm with h | h
      · exact h
      · omega
    unfold rr ri
    rw [if_pos h0, if_pos h0, hN]
    refine ⟨?_, ?_, ?_⟩
    · rw [rv_zero, Nat.zero_mul]; exact Nat.le_refl _
    · have := rv_pos (r := 0 + 1) (by omega)
      intro hle
      have h2 := Nat.mul_pos this hD
      omega
    · constructor
      · intro h; cases h
      · intro h; exact absurd h (Nat.not_lt_zero _)
  · unfold rr ri
    rw [if_neg h0, if_neg h0]
    have r1 := rung_low W (e + 1074) h0
    have r2 := rung_same W (e + 1074) h0
    have r3 := rung_lost W (e + 1074) h0
    have r4 := rung_high W (e + 1074) h0
    have r5 := rung_above W (e + 1074) h0
    rw [hP, hQ] at r1 r2 r3 r4 r5
    obtain ⟨u, hu⟩ : ∃ u, rv (rung W (e + 1074)) = u := ⟨_, rfl⟩
    obtain ⟨v, hv⟩ : ∃ v, rv (rung W (e + 1074) + 1) = v := ⟨_, rfl⟩
    rw [hu] at r1 r2 r3
    rw [hv] at r4 r5
    have c1 : ∀ x : Nat, x * D * Q = x * Q * D := fun x => Nat.mul_right_comm _ _ _
    refine ⟨?_, ?_, ?_⟩
    · show rv (rung W (e + 1074)) * D ≤ N
      rw [hu]
      apply Nat.le_of_mul_le_mul_right _ hQp
      rw [c1]
      exact Nat.le_trans (Nat.mul_le_mul_right _ r1) k1
    · show ¬ rv (rung W (e + 1074) + 1) * D ≤ N
      rw [hv]
      intro hle
      have hle2 : v * D * Q ≤ N * Q := Nat.mul_le_mul_right _ hle
      rw [c1] at hle2
      cases m
      · have := k2 rfl
        have h5 : W * P * D < v * Q * D := Nat.mul_lt_mul_of_pos_right r5 hD
        omega
      · obtain ⟨_, b2, b3, _⟩ := k3 rfl
        have h5 : (W + 1) * P * D ≤ v * Q * D := Nat.mul_le_mul_right _ (r4 b3)
        omega
    · have key : (u * D < N) ↔ u * Q * D < N * Q := by
        rw [← c1]
        exact (Nat.mul_lt_mul_right hQp).symm
      show (lost W (e + 1074) || m) = true ↔ rv (rung W (e + 1074)) * D < N
      rw [hu, key]
      cases m
      · have h6 := k2 rfl
        rw [Bool.or_false, ← h6]
        constructor
        · intro hl
          exact Nat.mul_lt_mul_of_pos_right (r3 hl) hD
        · intro hl
          cases hlo : lost W (e + 1074)
          · have := r2 hlo
            rw [this] at hl
            exact absurd hl (Nat.lt_irrefl _)
          · rfl
      · obtain ⟨b1, _⟩ := k3 rfl
        rw [Bool.or_true]
        refine ⟨fun _ => ?_, fun _ => rfl⟩
        exact Nat.lt_of_le_of_lt (Nat.mul_le_mul_right _ r1) b1

theorem le_closed {N D : Nat} : ∀ x y : Nat, x ≤ y → y * D ≤ N → x * D ≤ N := fun x y h1 h2 => Nat.le_trans (Nat.mul_le_mul_right _ h1) h2

/-- A word with a sign stands for S / D. -/
structure SRep (n : Bool) (W : Nat) (e : Int) (m : Bool) (S : Int) (D : Nat) : Prop where
  rep : Rep W e m S.natAbs D
  pos : 0 < S → n = false
  neg : S < 0 → n = true

theorem srep_Z {n : Bool} {W : Nat} {e : Int} {m : Bool} {S : Int} {D : Nat} (hD : 0 < D) (h : SRep n W e m S D) (down : Bool) :
    Z (toVal n down W e m) = if S < 0 then -(rv (dir down (rr W e) (ri W e m)) : Int) else (rv (dir (!down) (rr W e) (ri W e m)) : Int) := by
  rw [Z_toVal, near_dir]
  by_cases h1 : S < 0
  · rw [if_pos h1, h.neg h1, if_pos rfl, show (true == down) = down by cases down <;> rfl]
  · rw [if_neg h1]
    by_cases h2 : 0 < S
    · rw [h.pos h2, if_neg Bool.false_ne_true, show (false == down) = !down by cases down <;> rfl]
    · have hS : S = 0 := by omega
      have sp := rep_spot hD h.rep
      rw [hS] at sp
      have hr : rr W e = 0 := by
        apply Nat.eq_zero_of_not_pos
        intro hp
        have h3 := sp.lo
        have h4 := Nat.mul_pos (rv_pos hp) hD
        have h5 : (0 : Int).natAbs = 0 := rfl
        rw [h5] at h3
        omega
      have hi : ri W e m = false := by
        cases hri : ri W e m
        · rfl
        · have := sp.ex.1 hri
          exact absurd this (Nat.not_lt_zero _)
      have hd : ∀ g, dir g 0 false = 0 := by
        intro g
        unfold dir
        cases g
        · rw [if_neg Bool.false_ne_true]; exact Nat.zero_min _
        · rw [if_pos rfl]; exact Nat.zero_min _
      rw [hr, hi, hd, hd, rv_zero]
      cases n <;> rfl

theorem srep_mono {n n' : Bool} {W W' : Nat} {e e' : Int} {m m' : Bool} {S S' : Int} {D D' : Nat} (hD : 0 < D) (hD' : 0 < D') (h : SRep n W e m S D) (h' : SRep n' W' e' m' S' D') (down : Bool) (hle : S * D' ≤ S' * D) :
    Z (toVal n down W e m) ≤ Z (toVal n' down W' e' m') := by
  rw [srep_Z hD h, srep_Z hD' h']
  have sp := rep_spot hD h.rep
  have sp' := rep_spot hD' h'.rep
  have hDi : (0 : Int) < (D : Int) := by omega
  have hDi' : (0 : Int) < (D' : Int) := by omega
  by_cases h1 : S < 0
  · rw [if_pos h1]
    by_cases h2 : S' < 0
    · rw [if_pos h2]
      -- sizes the other way round
      have hc : S'.natAbs * D ≤ S.natAbs * D' := by
        obtain ⟨a, rfl⟩ : ∃ a : Nat, S = -(a : Int) := ⟨S.natAbs, by omega⟩
        obtain ⟨b, rfl⟩ : ∃ b : Nat, S' = -(b : Int) := ⟨S'.natAbs, by omega⟩
        rw [Int.natAbs_neg, Int.natAbs_neg, Int.natAbs_natCast, Int.natAbs_natCast]
        rw [Int.neg_mul, Int.neg_mul, ← Int.natCast_mul, ← Int.natCast_mul] at hle
        omega
      have := spot_mono sp' sp (fun x hx => ?_) (fun x hx => ?_) le_closed
      · have := rv_le (dir_mono (g := down) this.1 this.2)
        omega
      · have hx : x * D' ≤ S'.natAbs := hx
        show x * D ≤ S.natAbs
        have h3 : x * D' * D ≤ S.natAbs * D' := Nat.le_trans (Nat.mul_le_mul_right _ hx) hc
        rw [Nat.mul_right_comm] at h3
        exact Nat.le_of_mul_le_mul_right h3 hD'
      · have hx : x * D' < S'.natAbs := hx
        show x * D < S.natAbs
        have h3 : x * D' * D < S.natAbs * D' := Nat.lt_of_lt_of_le (Nat.mul_lt_mul_of_pos_right hx hD) hc
        rw [Nat.mul_right_comm] at h3
        exact Nat.lt_of_mul_lt_mul_right h3
    · rw [if_neg h2]; omega
  · rw [if_neg h1]
    have h2 : ¬ S' < 0 := by
      intro h2
      have k1 : 0 ≤ S * (D' : Int) := Int.mul_nonneg (by omega) (by omega)
      have k2 : S' * (D : Int) < 0 := Int.mul_neg_of_neg_of_pos h2 hDi
      omega
    rw [if_neg h2]
    have hc : S.natAbs * D' ≤ S'.natAbs * D := by
      obtain ⟨a, rfl⟩ : ∃ a : Nat, S = (a : Int) := ⟨S.natAbs, by omega⟩
      obtain ⟨b, rfl⟩ : ∃ b : Nat, S' = (b : Int) := ⟨S'.natAbs, by omega⟩
      rw [Int.natAbs_natCast, Int.natAbs_natCast]
      rw [← Int.natCast_mul, ← Int.natCast_mul] at hle
      omega
    have := spot_mono sp sp' (fun x hx => ?_) (fun x hx => ?_) le_closed
    · have := rv_le (dir_mono (g := !down) this.1 this.2)
      omega
    · have hx : x * D ≤ S.natAbs := hx
      show x * D' ≤ S'.natAbs
      have h3 : x * D * D' ≤ S'.natAbs * D := Nat.le_trans (Nat.mul_le_mul_right _ hx) hc
      rw [Nat.mul_right_comm] at h3
      exact Nat.le_of_mul_le_mul_right h3 hD
    · have hx : x * D < S.natAbs := hx
      show x * D' < S'.natAbs
      have h3 : x * D * D' < S'.natAbs * D := Nat.lt_of_lt_of_le (Nat.mul_lt_mul_of_pos_right hx hD') hc
      rw [Nat.mul_right_comm] at h3
      exact Nat.lt_of_mul_lt_mul_right h3
end Fl
end Go.Proofs.Ythkfaacgabkhhaa
