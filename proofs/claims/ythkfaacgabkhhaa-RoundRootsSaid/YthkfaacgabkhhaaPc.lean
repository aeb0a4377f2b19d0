/- Plain: whole numbers at or below a float. -/
import Derived.Test.YthkfaacgabkhhaaFl1
set_option linter.unusedVariables false
set_option linter.unusedSimpArgs false
namespace Go.Proofs.Ythkfaacgabkhhaa
open Ieee
namespace Fl

theorem sub_exact (a b r : Nat) (neg : Bool) (ha : a < 18446744073709551616) (hb : b < 18446744073709551616) (fa : fin a = true) (fb : fin b = true) (hr : r ≤ INF) (h0 : r ≠ 0)
    (h : Z a - Z b = if neg then -(rv r : Int) else (rv r : Int)) : double.sub a b = some (wrd neg r) := by
  obtain ⟨m, p, e1, hp, h1⟩ := read_fin a ha fa
  obtain ⟨n, q, e2, hq, h2⟩ := read_fin b hb fb
  unfold Format.sub
  rw [e1, e2]
  show some (double.nearest (if signed (sg a) m (p - min p q).toNat + signed (!sg b) n (q - min p q).toNat = 0 then _ else decide (signed (sg a) m (p - min p q).toNat + signed (!sg b) n (q - min p q).toNat < 0)) (signed (sg a) m (p - min p q).toNat + signed (!sg b) n (q - min p q).toNat).natAbs (min p q)) = _
  congr 1
  obtain ⟨base, hbase⟩ : ∃ base, min p q = base := ⟨_, rfl⟩
  rw [hbase]
  have g1 := signed_unit (s := sg a) (m := m) (p := p) (base := base) (r := mg a) (by omega) (by omega) h1
  have g2 := signed_unit (s := !sg b) (m := n) (p := q) (base := base) (r := mg b) (by omega) (by omega) h2
  have g3 : (if (!sg b) then -(rv (mg b) : Int) else (rv (mg b) : Int)) = -Z b := by
    unfold Z
    cases sg b <;> simp
  rw [g3] at g2
  have g4 : (if sg a then -(rv (mg a) : Int) else (rv (mg a) : Int)) = Z a := rfl
  rw [g4] at g1
  generalize signed (sg a) m (p - base).toNat = x at *
  generalize signed (!sg b) n (q - base).toNat = y at *
  have hpos := rv_pos (r := r) (by omega)
  have hT : (x + y) * ((2 ^ (base + 1074).toNat : Nat) : Int) = if neg then -(rv r : Int) else (rv r : Int) := by
    rw [Int.add_mul, g1, g2, ← h]; rfl
  have hk := Nat.two_pow_pos (base + 1074).toNat
  have hne : x + y ≠ 0 := by
    intro e
    rw [e, Int.zero_mul] at hT
    cases neg
    · simp at hT; omega
    · simp at hT; omega
  rw [if_neg hne]
  have hsgn : decide (x + y < 0) = neg := by
    cases neg
    · refine decide_eq_false ?_
      intro hlt
      have := Int.mul_neg_of_neg_of_pos hlt (show (0 : Int) < ((2 ^ (base + 1074).toNat : Nat) : Int) by omega)
      rw [hT] at this
      simp at this
      omega
    · refine decide_eq_true ?_
      apply Int.lt_of_not_ge
      intro hge
      have := Int.mul_nonneg hge (show (0 : Int) ≤ ((2 ^ (base + 1074).toNat : Nat) : Int) by omega)
      rw [hT] at this
      simp at this
      omega
  rw [hsgn]
  refine nearest_exact _ _ _ _ hr ?_
  rw [show (-(base + 1074)).toNat = 0 by omega, Nat.pow_zero, Nat.mul_one]
  have := congrArg Int.natAbs hT
  rw [Int.natAbs_mul] at this
  have e3 : (((2 ^ (base + 1074).toNat : Nat) : Int)).natAbs = 2 ^ (base + 1074).toNat := Int.natAbs_natCast _
  rw [e3] at this
  have e4 : (if neg then -(rv r : Int) else (rv r : Int)).natAbs = rv r := natAbs_unit neg (rv r)
  rw [e4] at this
  exact this.symm

theorem cut_zero (neg : Bool) (n d : Nat) : Toward.zero.cut neg n d = n / 2 ^ d := by
  unfold Toward.cut
  simp only [shl_eq, Nat.one_mul, Bool.toNat_false, Nat.add_zero]
  by_cases h : d ≤ n.log2 + 2
  · rw [Nat.min_eq_left h]
  · rw [Nat.min_eq_right (by omega)]
    have h1 : n < 2 ^ (n.log2 + 2) := Nat.lt_of_lt_of_le Nat.lt_log2_self (Nat.pow_le_pow_right (by decide) (by omega))
    have h2 : n < 2 ^ d := Nat.lt_of_lt_of_le h1 (Nat.pow_le_pow_right (by decide) (by omega))
    rw [Nat.div_eq_of_lt h1, Nat.div_eq_of_lt h2]
theorem cut_down (neg : Bool) (n d : Nat) : Toward.down.cut neg n d = n / 2 ^ d + (neg && n % 2 ^ d != 0).toNat := by
  unfold Toward.cut
  simp only [shl_eq, Nat.one_mul]
  by_cases h : d ≤ n.log2 + 2
  · rw [Nat.min_eq_left h]
  · rw [Nat.min_eq_right (by omega)]
    have h1 : n < 2 ^ (n.log2 + 2) := Nat.lt_of_lt_of_le Nat.lt_log2_self (Nat.pow_le_pow_right (by decide) (by omega))
    have h2 : n < 2 ^ d := Nat.lt_of_lt_of_le h1 (Nat.pow_le_pow_right (by decide) (by omega))
    rw [Nat.div_eq_of_lt h1, Nat.div_eq_of_lt h2, Nat.mod_eq_of_lt h1, Nat.mod_eq_of_lt h2]

/-- The whole part of a size; is something behind it? -/
def whole (b : Nat) : Nat := rv (mg b) / 2 ^ BB
def rest (b : Nat) : Bool := rv (mg b) % 2 ^ BB != 0
theorem whole_eq {m p : Nat → Int} : True := trivial
theorem cut_unit {m : Nat} {p : Int} {r : Nat} (hp : -1074 ≤ p) (h : m * 2 ^ (p + 1074).toNat = r) :
    m <<< p.toNat / 2 ^ (-p).toNat = r / 2 ^ BB ∧ (m <<< p.toNat % 2 ^ (-p).toNat != 0) = (r % 2 ^ BB != 0) := by
  have hB := BB_eq
  rw [shl_eq]
  by_cases hc : 0 ≤ p
  · rw [show (-p).toNat = 0 by omega, Nat.pow_zero, Nat.div_one, Nat.mod_one]
    have e : (2 : Nat) ^ (p + 1074).toNat = 2 ^ p.toNat * 2 ^ BB := by rw [← Nat.pow_add]; congr 1; omega
    rw [e, ← Nat.mul_assoc] at h
    rw [← h, Nat.mul_div_cancel _ (Nat.two_pow_pos BB), Nat.mul_mod_left]
    exact ⟨rfl, rfl⟩
  · rw [show p.toNat = 0 by omega, Nat.pow_zero, Nat.mul_one]
    have e : (2 : Nat) ^ BB = 2 ^ (-p).toNat * 2 ^ (p + 1074).toNat := by rw [← Nat.pow_add]; congr 1; omega
    rw [e, ← h, Nat.mul_div_mul_right _ _ (Nat.two_pow_pos _), Nat.mul_mod_mul_right]
    refine ⟨rfl, ?_⟩
    rw [Bool.eq_iff_iff]
    simp only [bne_iff_ne, ne_eq]
    have hp := Nat.two_pow_pos (p + 1074).toNat
    constructor
    · intro h1 h2
      rcases Nat.mul_eq_zero.1 h2 with h3 | h3
      · exact h1 h3
      · omega
    · intro h1 h2
      rw [h2, Nat.zero_mul] at h1
      exact h1 rfl
end Fl
end Go.Proofs.Ythkfaacgabkhhaa
