/- The number of a draw is a number, and equal to itself. -/
import Derived.Test.YtmgaonkmfdeohaaDoorFl2
import Derived.Laws.Cover2
namespace Go.Proofs.YtmgaonkmfdeohaaDoor
open Ieee

theorem inf_lt : Fl.INF < Fl.SGN := by decide

/-- What is written of a number is no NaN. -/
theorem near_ok (s : Bool) (m : Nat) (p : Int) : double.nearest s m p < 18446744073709551616 ∧ Fl.nan (double.nearest s m p) = false := by
  have key : ∀ r, r ≤ Fl.INF → Fl.wrd s r < 18446744073709551616 ∧ Fl.nan (Fl.wrd s r) = false := fun r hr => by
    have hr' : r < Fl.SGN := Nat.lt_of_le_of_lt hr inf_lt
    refine ⟨Fl.wrd_lt s hr', ?_⟩
    unfold Fl.nan
    rw [Fl.wrd_mg s hr']
    exact decide_eq_false (by omega)
  by_cases h0 : m = 0
  · subst h0
    rw [Fl.nearest_zero]
    exact key 0 (by decide)
  · obtain ⟨up, hn, _⟩ := Fl.nearest_eq s m p h0
    rw [hn]
    exact key _ (Nat.min_le_right _ _)

theorem order_self (b : Nat) (h : b < 18446744073709551616) (hn : Fl.nan b = false) : double.order b b = some .eq := by
  rw [Fl.order_eq b b h h hn hn, Int.compare_eq_eq.2 rfl]

/-- A whole number below 2^32 as a float64: finite. -/
theorem whole_fin (a : Nat) (ha : a < 4294967296) : double.nearest false a 0 < 18446744073709551616 ∧ Fl.fin (double.nearest false a 0) = true := by
  by_cases h0 : a = 0
  · subst h0
    rw [Fl.nearest_zero]
    exact ⟨by decide, by decide⟩
  · have hd : Fl.lost a (0 + 1074) = false := by
      unfold Fl.lost
      have hl : Fl.len a ≤ 32 := Fl.len_le_of_lt (by omega)
      rw [show (Fl.drop a (0 + 1074)).toNat = 0 by unfold Fl.drop; omega, Nat.pow_zero, Nat.mod_one]
      rfl
    have hs := Fl.rung_same a (0 + 1074) h0 hd
    have hlt : Fl.rung a (0 + 1074) < Fl.INF := by
      apply Fl.rv_lt_iff.1
      have e1 : (-(0 + 1074 : Int)).toNat = 0 := rfl
      have e2 : ((0 + 1074 : Int)).toNat = 1074 := rfl
      rw [e1, e2, Nat.pow_zero, Nat.mul_one] at hs
      rw [hs]
      refine Nat.lt_of_lt_of_le (Nat.mul_lt_mul_of_pos_right ha (Nat.two_pow_pos 1074)) ?_
      decide +kernel
    have he := Fl.nearest_exact false a (Fl.rung a (0 + 1074)) 0 (Nat.le_of_lt hlt) hs
    rw [he]
    have hr' : Fl.rung a (0 + 1074) < Fl.SGN := Nat.lt_trans hlt inf_lt
    refine ⟨Fl.wrd_lt false hr', ?_⟩
    unfold Fl.fin
    rw [Fl.wrd_mg false hr']
    exact decide_eq_true hlt

theorem two32 : double.read 4751297606875873280 = .number false 4503599627370496 (-20) := by decide +kernel

theorem unit_ok (a : Nat) (ha : a < 4294967296) : ∃ b, FloatKind.f64.format.div (floatOfInt .f64 (a : Int)) 4751297606875873280 = some b ∧ (FloatKind.f64.format.order b b == some .eq) = true := by
  have e : floatOfInt .f64 (a : Int) = double.nearest false a 0 := by
    show double.nearest (decide ((a : Int) < 0)) (a : Int).natAbs 0 = _
    rw [show decide ((a : Int) < 0) = false from decide_eq_false (by omega), Int.natAbs_natCast]
  rw [e]
  obtain ⟨h1, h2⟩ := whole_fin a ha
  obtain ⟨m, p, hr, _, _⟩ := Fl.read_fin _ h1 h2
  have hd : double.div (double.nearest false a 0) 4751297606875873280 = ((Datum.number (Fl.sg (double.nearest false a 0)) m p).quotient (double.fractionBits + 2) (.number false 4503599627370496 (-20))).map double.write := by
    unfold Format.div
    rw [hr, two32]
  show ∃ b, double.div _ _ = some b ∧ _
  rw [hd]
  simp only [Datum.quotient]
  rw [if_neg (by decide)]
  refine ⟨_, rfl, ?_⟩
  obtain ⟨h3, h4⟩ := near_ok (Fl.sg (double.nearest false a 0) ^^ false) (2 * ((m <<< (double.fractionBits + 2 + Nat.log2 4503599627370496 - m.log2)) / 4503599627370496) + ((m <<< (double.fractionBits + 2 + Nat.log2 4503599627370496 - m.log2)) % 4503599627370496 != 0).toNat) (p - -20 - ((double.fractionBits + 2 + Nat.log2 4503599627370496 - m.log2 : Nat) : Int) - 1)
  have h5 := order_self _ h3 h4
  show (double.order (double.nearest _ _ _) (double.nearest _ _ _) == some .eq) = true
  rw [h5]
  rfl
end Go.Proofs.YtmgaonkmfdeohaaDoor
