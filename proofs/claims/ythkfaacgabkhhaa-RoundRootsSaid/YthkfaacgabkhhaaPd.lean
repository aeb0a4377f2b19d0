/- Floor: both sides. -/
import Derived.Test.YthkfaacgabkhhaaVp
import Derived.Test.YthkfaacgabkhhaaPc
import Derived.Laws.FloatArith
import GoSem.Extern.MathFloor
set_option linter.unusedVariables false
set_option linter.unusedSimpArgs false
namespace Go.Proofs.Ythkfaacgabkhhaa
open Go.RowKit Ieee

namespace Fl
theorem nst (neg : Bool) (m : Nat) (h0 : m ≠ 0) (hm : m ≤ 9007199254740992) : double.nearest neg m 0 = wrd neg (rung m 1074) ∧ rung m 1074 < INF ∧ rv (rung m 1074) = m * 2 ^ BB ∧ rung m 1074 ≠ 0 := by
  obtain ⟨L, f, h1, h2, h3, h4, h5, h6, h7, h8⟩ := flt_form m h0 hm
  have hl := flt_le m h0 hm
  have hB := BB_eq
  refine ⟨nearest_exact neg m _ 0 (Nat.le_of_lt hl) ?_, hl, h7, ?_⟩
  · rw [show (-((0 : Int) + 1074)).toNat = 0 by omega, show ((0 : Int) + 1074).toNat = BB by omega, Nat.pow_zero, Nat.mul_one, h7]
  · rw [h6]; omega
/-- The word that 'down to a whole number' gives. -/
def flW (b : Nat) : Nat := double.nearest (sg b) (whole b + (sg b && rest b).toNat) 0
theorem flW_read (b : Nat) (h : b < 18446744073709551616) (hf : fin b = true) : double.write ((double.read b).integral .down) = flW b ∧ ∃ m p, double.read b = .number (sg b) m p := by
  obtain ⟨m, p, hr, hp, hv⟩ := read_fin b h hf
  obtain ⟨c1, c2⟩ := cut_unit hp hv
  refine ⟨?_, m, p, hr⟩
  rw [hr]
  show double.nearest (sg b) (Toward.down.cut (sg b) (m <<< p.toNat) (-p).toNat) 0 = _
  rw [cut_down, c1, c2]
  rfl
theorem toInt_read (b : Nat) (h : b < 18446744073709551616) (hf : fin b = true) : (double.read b).toInt .zero = some (if sg b then -(whole b : Int) else (whole b : Int)) := by
  obtain ⟨m, p, hr, hp, hv⟩ := read_fin b h hf
  obtain ⟨c1, c2⟩ := cut_unit hp hv
  rw [hr]
  show some (signed (sg b) (Toward.zero.cut (sg b) (m <<< p.toNat) (-p).toNat) 0) = _
  rw [cut_zero, c1, signed_Z, Nat.pow_zero, Nat.mul_one]
  rfl
theorem rest_split (b : Nat) : rv (mg b) = whole b * 2 ^ BB + rv (mg b) % 2 ^ BB := by
  unfold whole
  have := Nat.div_add_mod (rv (mg b)) (2 ^ BB)
  rw [Nat.mul_comm] at this
  exact this.symm
theorem rest_false {b : Nat} (h : rest b = false) : rv (mg b) = whole b * 2 ^ BB := by
  have h1 := rest_split b
  have h2 : rv (mg b) % 2 ^ BB = 0 := by
    unfold rest at h
    simpa using h
  rw [h2, Nat.add_zero] at h1
  exact h1
theorem rest_true {b : Nat} (h : rest b = true) : whole b * 2 ^ BB < rv (mg b) ∧ rv (mg b) < (whole b + 1) * 2 ^ BB ∧ whole b < 9007199254740992 := by
  have h1 := rest_split b
  have h2 : rv (mg b) % 2 ^ BB ≠ 0 := by
    unfold rest at h
    simpa using h
  have h3 := Nat.mod_lt (rv (mg b)) (Nat.two_pow_pos BB)
  refine ⟨by omega, by rw [Nat.add_mul, Nat.one_mul]; omega, ?_⟩
  apply Nat.lt_of_not_le
  intro hw
  -- else the power is above 0 and nothing is behind
  have hs := sM_rv b
  have hlt := sM_lt b
  have hB := BB_eq
  have hE : 0 ≤ sE b := by
    apply Int.not_lt.1
    intro hneg
    have h4 : (2 : Nat) ^ (sE b + 1074).toNat ≤ 2 ^ BB := Nat.pow_le_pow_right (by decide) (by omega)
    have h5 : sM b * 2 ^ (sE b + 1074).toNat < 9007199254740992 * 2 ^ BB := Nat.lt_of_lt_of_le (Nat.mul_lt_mul_of_pos_right hlt (Nat.two_pow_pos _)) (Nat.mul_le_mul_left _ h4)
    have h6 : 9007199254740992 * 2 ^ BB ≤ whole b * 2 ^ BB := Nat.mul_le_mul_right _ hw
    omega
  have e : (2 : Nat) ^ (sE b + 1074).toNat = 2 ^ (sE b).toNat * 2 ^ BB := by rw [← Nat.pow_add]; congr 1; omega
  rw [e, ← Nat.mul_assoc] at hs
  rw [← hs] at h2
  exact h2 (Nat.mul_mod_left _ _)
theorem flW_exact {b : Nat} (h : b < 18446744073709551616) (hf : fin b = true) (hr : rest b = false) : flW b = b := by
  unfold flW
  rw [hr, Bool.and_false]
  have hm := mg_of_fin hf
  have hB := BB_eq
  have := nearest_exact (sg b) (whole b) (mg b) 0 (Nat.le_of_lt hm) (by
    rw [show (-((0 : Int) + 1074)).toNat = 0 by omega, show ((0 : Int) + 1074).toNat = BB by omega, Nat.pow_zero, Nat.mul_one, rest_false hr])
  exact this.trans (wrd_of b h)
theorem whole_lt {b : Nat} (h : rv (mg b) < 9007199254740992 * 2 ^ BB) : whole b < 9007199254740992 := by
  unfold whole
  rw [Nat.div_lt_iff_lt_mul (Nat.two_pow_pos BB)]
  exact h
end Fl

abbrev C53 : Nat := 4845873199050653696
abbrev N53 : Nat := 14069245235905429504
theorem C53_Z : Fl.Z C53 = ((9007199254740992 * 2 ^ Fl.BB : Nat) : Int) := by
  obtain ⟨h1, h2, h3, h4⟩ := Fl.nst false 9007199254740992 (by omega) (by omega)
  have e : C53 = Fl.wrd false (Fl.rung 9007199254740992 1074) := by decide +kernel
  rw [e, Z_wrd false (Nat.le_of_lt h2), h3]; rfl
theorem N53_Z : Fl.Z N53 = -((9007199254740992 * 2 ^ Fl.BB : Nat) : Int) := by
  obtain ⟨h1, h2, h3, h4⟩ := Fl.nst true 9007199254740992 (by omega) (by omega)
  have e : N53 = Fl.wrd true (Fl.rung 9007199254740992 1074) := by decide +kernel
  rw [e, Z_wrd true (Nat.le_of_lt h2), h3]; rfl
theorem one_Z : Fl.Z 4607182418800017408 = ((2 ^ Fl.BB : Nat) : Int) := by
  have e : Fl.wrd false 4607182418800017408 = 4607182418800017408 := rfl
  have := Z_wrd false (r := 4607182418800017408) (by decide)
  rw [e, rv_one] at this
  exact this

/-- What the document reckons ahead of the last step. -/
def trV (b : Nat) : Nat := floatOfInt .f64 (if Fl.sg b then -(Fl.whole b : Int) else (Fl.whole b : Int))

theorem ofInt_word (neg : Bool) (m : Nat) (h0 : m ≠ 0) : floatOfInt .f64 (if neg then -(m : Int) else (m : Int)) = double.nearest neg m 0 := by
  show double.nearest (decide ((if neg then -(m : Int) else (m : Int)) < 0)) ((if neg then -(m : Int) else (m : Int)).natAbs) 0 = _
  have e1 : decide ((if neg then -(m : Int) else (m : Int)) < 0) = neg := by
    cases neg
    · exact decide_eq_false (by simp)
    · exact decide_eq_true (by simp; omega)
  rw [e1, Fl.natAbs_unit]

theorem tr_Z (b : Nat) (hw : Fl.whole b ≤ 9007199254740992) : Fl.Z (trV b) = (if Fl.sg b then -((Fl.whole b * 2 ^ Fl.BB : Nat) : Int) else ((Fl.whole b * 2 ^ Fl.BB : Nat) : Int)) ∧ trV b < 18446744073709551616 ∧ Fl.fin (trV b) = true := by
  unfold trV
  by_cases h0 : Fl.whole b = 0
  · rw [h0]
    have e : floatOfInt .f64 (if Fl.sg b = true then -((0 : Nat) : Int) else ((0 : Nat) : Int)) = 0 := by
      have : (if Fl.sg b = true then -((0 : Nat) : Int) else ((0 : Nat) : Int)) = 0 := by cases Fl.sg b <;> rfl
      rw [this]; exact ofInt_zero
    rw [e, Nat.zero_mul, Z0]
    refine ⟨?_, by decide, by decide⟩
    cases Fl.sg b <;> rfl
  · obtain ⟨h1, h2, h3, h4⟩ := Fl.nst (Fl.sg b) (Fl.whole b) h0 hw
    rw [ofInt_word _ _ h0, h1, Z_wrd _ (Nat.le_of_lt h2), h3]
    refine ⟨rfl, (wrd_ok _ _ (Nat.le_of_lt h2)).1, ?_⟩
    have hs : Fl.rung (Fl.whole b) 1074 < Fl.SGN := Nat.lt_trans h2 Fl.inf_sgn
    exact Fl.fin_of (by rw [Fl.wrd_mg _ hs]; exact h2)
end Go.Proofs.Ythkfaacgabkhhaa
