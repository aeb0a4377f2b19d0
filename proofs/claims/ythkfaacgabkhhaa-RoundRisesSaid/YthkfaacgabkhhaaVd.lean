/- Small functions of the document's part: power, Inf, Most, Zeroed, Number; products of a word and a power. -/
import Derived.Test.YthkfaacgabkhhaaVc
set_option linter.unusedVariables false
set_option linter.unusedSimpArgs false
namespace Go.Proofs.Ythkfaacgabkhhaa
open Go.RowKit Ieee

namespace Fl
def pwr (e : Int) : Nat := if -1022 ≤ e then (e + 1023).toNat * 4503599627370496 else 2 ^ (e + 1074).toNat
theorem pwr_rv (e : Int) (he : -1074 ≤ e) : rv (pwr e) = 2 ^ (e + 1074).toNat := by
  unfold pwr
  by_cases h : -1022 ≤ e
  · rw [if_pos h]
    obtain ⟨q, hq⟩ : ∃ q : Nat, e = (q : Int) - 1022 := ⟨(e + 1022).toNat, by omega⟩
    have h1 := rv_of q 4503599627370496 (by omega) (.inr (Nat.le_refl _))
    rw [show (e + 1023).toNat * 4503599627370496 = q * 4503599627370496 + 4503599627370496 by omega, h1, show (e + 1074).toNat = 52 + q by omega, Nat.pow_add]
  · rw [if_neg h]
    unfold rv
    have hp : 2 ^ (e + 1074).toNat < 2 ^ 52 := Nat.pow_lt_pow_right (by decide) (by omega)
    have h3 : (2 : Nat) ^ 52 = 4503599627370496 := by decide
    rw [h3] at hp
    rw [if_pos hp]
theorem pwr_lt (e : Int) (he2 : e ≤ 1023) : pwr e < INF := by
  unfold pwr INF
  by_cases h : -1022 ≤ e
  · rw [if_pos h]; omega
  · rw [if_neg h]
    have hp : 2 ^ (e + 1074).toNat < 2 ^ 52 := Nat.pow_lt_pow_right (by decide) (by omega)
    have h3 : (2 : Nat) ^ 52 = 4503599627370496 := by decide
    omega
theorem lost_small (m : Nat) (e : Int) (h0 : m ≠ 0) (hm : m ≤ 9007199254740992) (he : 0 ≤ e) : lost m e = false := by
  unfold lost
  by_cases h : len m ≤ 53
  · unfold drop
    rw [show (max ((len m : Int) - 53) (-e)).toNat = 0 by omega, Nat.pow_zero, Nat.mod_one]; rfl
  · have hm' : m = 9007199254740992 := by
      apply Nat.le_antisymm hm
      apply Nat.le_of_not_lt
      intro hh
      have : len m ≤ 53 := len_le_of_lt (by rw [show (2 : Nat) ^ 53 = 9007199254740992 by decide]; exact hh)
      omega
    have h54 : len m ≤ 54 := len_le_of_lt (by rw [show (2 : Nat) ^ 54 = 18014398509481984 by decide]; omega)
    unfold drop
    rw [show (max ((len m : Int) - 53) (-e)).toNat = 1 by omega, hm']
    decide
theorem rv_rung_small (m : Nat) (e : Int) (h0 : m ≠ 0) (hm : m ≤ 9007199254740992) (he : 0 ≤ e) : rv (rung m e) = m * 2 ^ e.toNat := by
  have := rung_same m e h0 (lost_small m e h0 hm he)
  rw [show (-e).toNat = 0 by omega, Nat.pow_zero, Nat.mul_one] at this
  exact this
theorem rung_top (m : Nat) (e : Int) (h0 : m ≠ 0) (htop : (len m : Int) - 1 + e ≤ 1023) (he : -1074 ≤ e) : rung m (e + 1074) < INF := by
  have hk := kept_lt m (e + 1074)
  by_cases h : place m (e + 1074) ≤ 2045
  · unfold rung INF; omega
  · exfalso
    unfold place drop at h
    omega
end Fl

theorem mul_ldz (m : Nat) (e : Int) (h0 : m ≠ 0) (hm : m ≤ 9007199254740992) (he : -1074 ≤ e) (he2 : e ≤ 1023) (htop : (Fl.len m : Int) - 1 + e ≤ 1023) :
    floatBits .mul .f64 (floatOfInt .f64 (m : Int)) (Fl.pwr e) = some (ldz m e) := by
  rw [ofInt_small m h0 hm]
  have hl := Fl.rung_top m e h0 htop he
  have e1 : ldz m e = Fl.rung m (e + 1074) := by
    unfold ldz Fl.ld
    rw [if_neg h0]
    exact Nat.min_eq_left (Nat.le_of_lt hl)
  rw [e1]
  refine pos_mul _ _ _ (Fl.flt_le m h0 hm) (Fl.pwr_lt e he2) (Nat.le_of_lt hl) ?_
  obtain ⟨L, f, h1, h2, h3, h4, h5, h6, h7, h8⟩ := Fl.flt_form m h0 hm
  rw [h7, Fl.pwr_rv e he, Fl.rv_rung_small m _ h0 hm (by omega), Nat.mul_right_comm]

theorem power_any (e : Int) (he : -1074 ≤ e) (he2 : e ≤ 1023) (w : World) :
    Calls Try.prog 89 #[.int .i64 e] w fun r w' => r = .returned (.float .f64 (Fl.pwr e)) ∧ w = w' := by
  have HP : Hid ((-1022 ≤ e → Fl.pwr e = ((e + 1023) * 4503599627370496).toNat) ∧ (e < -1022 → Fl.pwr e = (IntKind.u64.wrap (2 ^ (e + 1074).toNat)).toNat)) := by
    refine Lib.hid ⟨fun h => ?_, fun h => ?_⟩
    · unfold Fl.pwr
      rw [if_pos h]; omega
    · unfold Fl.pwr
      have hp : 2 ^ (e + 1074).toNat < 2 ^ 52 := Nat.pow_lt_pow_right (by decide) (by omega)
      have h3 : (2 : Nat) ^ 52 = 4503599627370496 := by decide
      have h4 : ((2 : Int) ^ (e + 1074).toNat) = ((2 ^ (e + 1074).toNat : Nat) : Int) := by simp
      rw [if_neg (by omega), IntKind.wrap_u64, h4]
      generalize 2 ^ (e + 1074).toNat = x at *
      omega
  generalize Fl.pwr e = p at *
  by_cases h : -1022 ≤ e
  · go_enter Try.func89, Try.ntmps89
    go_wp2_with fail
    go_ret
    exact ⟨ret_float (HP.out.1 h).symm, rfl⟩
  · go_enter Try.func89, Try.ntmps89
    go_wp2_with fail
    go_ret
    exact ⟨ret_float (HP.out.2 (by omega)).symm, rfl⟩

theorem rinf_any (w : World) : Calls Try.prog 26 #[] w fun r w' => r = .returned (.float .f64 9218868437227405312) ∧ w = w' := by
  go_enter Try.func26, Try.ntmps26
  go_wp2_with fail
  go_ret
  exact ⟨rfl, rfl⟩
theorem rmost_any (w : World) : Calls Try.prog 88 #[] w fun r w' => r = .returned (.float .f64 9218868437227405311) ∧ w = w' := by
  go_enter Try.func88, Try.ntmps88
  go_wp2_with fail
  go_ret
  exact ⟨rfl, rfl⟩

theorem pl_of (b : Nat) (h : b < 18446744073709551616) (hn : Fl.nan b = false) : (FloatKind.f64.format.order b 0 == some .eq) = decide (Fl.mg b = 0) := by
  have := Fl.eq_eq (a := b) (b := 0) h (by decide) hn (by decide)
  refine this.trans ?_
  rw [decide_eq_decide, Fl.Z_eq_iff h (by decide)]
  constructor
  · rintro (h | ⟨h, _⟩)
    · rw [h]; decide
    · exact h
  · intro h
    exact .inr ⟨h, by decide⟩

theorem zeroed_any (b : Nat) (h : b < 18446744073709551616) (hn : Fl.nan b = false) (w : World) :
    Calls Try.prog 47 #[.float .f64 b] w fun r w' => r = .returned (.float .f64 (Fl.pl b)) ∧ w = w' := by
  have E := pl_of b h hn
  have HP : Hid ((Fl.mg b = 0 → Fl.pl b = 0) ∧ (Fl.mg b ≠ 0 → Fl.pl b = b)) := by
    refine Lib.hid ⟨fun h0 => ?_, fun h0 => ?_⟩
    · rcases Fl.mg_zero_cases h h0 with rfl | rfl <;> decide
    · unfold Fl.pl
      rw [if_neg]
      rintro rfl
      exact h0 (by decide)
  generalize Fl.pl b = p at *
  by_cases h0 : Fl.mg b = 0
  · rw [decide_eq_true h0] at E
    have q := HP.out.1 h0
    go_enter Try.func47, Try.ntmps47
    go_wp2_with fail
    go_ret
    exact ⟨ret_float (HP.out.1 h0).symm, rfl⟩
  · rw [decide_eq_false h0] at E
    go_enter Try.func47, Try.ntmps47
    go_wp2_with fail
    go_ret
    exact ⟨ret_float (HP.out.2 h0).symm, rfl⟩
end Go.Proofs.Ythkfaacgabkhhaa
