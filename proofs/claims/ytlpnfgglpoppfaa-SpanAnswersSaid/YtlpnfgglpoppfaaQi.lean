/- Plain: whole numbers as floats; the next one; numbers of a span and its answers. -/
import Derived.Test.YtlpnfgglpoppfaaQh
set_option linter.unusedVariables false
set_option linter.unusedSimpArgs false
namespace Go.Proofs.Ytlpnfgglpoppfaa
open Fl Ieee

theorem add_total (a b : Nat) (ha : a < 18446744073709551616) (hb : b < 18446744073709551616) (fa : fin a = true) (fb : fin b = true) :
    ∃ (T : Int) (base : Int) (s : Bool), -1074 ≤ base ∧ T * ((2 ^ (base + 1074).toNat : Nat) : Int) = Z a + Z b ∧ double.add a b = some (double.nearest (if T = 0 then s else decide (T < 0)) T.natAbs base) := by
  obtain ⟨m, p, e1, hp, h1⟩ := read_fin a ha fa
  obtain ⟨n, q, e2, hq, h2⟩ := read_fin b hb fb
  have g1 := signed_unit (s := sg a) (m := m) (p := p) (base := min p q) (r := mg a) (by omega) (by omega) h1
  have g2 := signed_unit (s := sg b) (m := n) (p := q) (base := min p q) (r := mg b) (by omega) (by omega) h2
  refine ⟨signed (sg a) m (p - min p q).toNat + signed (sg b) n (q - min p q).toNat, min p q, (sg a && sg b), by omega, ?_, ?_⟩
  · rw [Int.add_mul, g1, g2]; rfl
  · unfold Format.add
    rw [e1, e2]; rfl
/-- A sum that a float64 has. -/
theorem add_exact {a b r : Nat} {neg : Bool} (ha : a < 18446744073709551616) (hb : b < 18446744073709551616) (fa : fin a = true) (fb : fin b = true) (hr : r ≤ INF)
    (h : Z a + Z b = if neg then -(rv r : Int) else (rv r : Int)) : ∃ x, double.add a b = some x ∧ x < 18446744073709551616 ∧ nan x = false ∧ Z x = Z a + Z b := by
  obtain ⟨T, base, s, hb0, hT, hx⟩ := add_total a b ha hb fa fb
  have hk := Nat.two_pow_pos (base + 1074).toNat
  have hki : (0 : Int) < ((2 ^ (base + 1074).toNat : Nat) : Int) := Int.natCast_pos.2 hk
  by_cases h0 : T = 0
  · rw [if_pos h0, h0] at hx
    have h00 : (0 : Int).natAbs = 0 := rfl
    rw [h00, nearest_zero] at hx
    have hz : Z a + Z b = 0 := by rw [← hT, h0, Int.zero_mul]
    refine ⟨_, hx, wrd_lt _ (by decide), ?_, ?_⟩
    · cases s <;> decide
    · rw [hz]; cases s <;> decide
  · rw [if_neg h0] at hx
    have hne : Z a + Z b ≠ 0 := by
      rw [← hT]
      exact Int.mul_ne_zero h0 (by omega)
    have hr0 : r ≠ 0 := by
      intro k
      rw [k, rv_zero] at h
      apply hne
      rw [h]; cases neg <;> rfl
    have hpos := rv_pos (r := r) (by omega)
    have hsgn : decide (T < 0) = neg := by
      cases neg
      · rw [if_neg Bool.false_ne_true] at h
        refine decide_eq_false ?_
        intro hlt
        have := Int.mul_neg_of_neg_of_pos hlt hki
        rw [hT] at this
        omega
      · rw [if_pos rfl] at h
        refine decide_eq_true ?_
        apply Int.lt_of_not_ge
        intro hge
        have := Int.mul_nonneg hge (Int.le_of_lt hki)
        rw [hT] at this
        omega
    have hab : rv r = T.natAbs * 2 ^ (base + 1074).toNat := by
      have h3 := congrArg Int.natAbs hT
      rw [Int.natAbs_mul, Int.natAbs_natCast, h, natAbs_unit] at h3
      exact h3.symm
    have he := nearest_exact neg T.natAbs r base hr (by rw [show (-(base + 1074)).toNat = 0 by omega, Nat.pow_zero, Nat.mul_one]; exact hab)
    rw [hsgn, he] at hx
    refine ⟨_, hx, (wrd_ok neg r hr).1, (wrd_ok neg r hr).2, ?_⟩
    rw [Z_wrd neg hr, h]
/-- A whole number that is not too great is a rung. -/
theorem whole_rung (n : Int) (h : n.natAbs ≤ 9007199254740992) : ∃ r neg, r ≤ INF ∧ fin (wrd neg r) = true ∧ n * UI = (if neg then -(rv r : Int) else (rv r : Int)) ∧ (n ≠ 0 → double.nearest neg n.natAbs 0 = wrd neg r ∧ n = if neg then -(n.natAbs : Int) else (n.natAbs : Int)) := by
  by_cases h0 : n = 0
  · refine ⟨0, false, by decide, by decide, ?_, fun k => absurd h0 k⟩
    rw [h0, rv_zero, Int.zero_mul]; rfl
  · obtain ⟨m, hm⟩ : ∃ m, n.natAbs = m := ⟨_, rfl⟩
    rw [hm] at h ⊢
    have hm0 : m ≠ 0 := by omega
    have hs : ∃ neg : Bool, n = if neg then -(m : Int) else (m : Int) := by
      by_cases k : n < 0
      · exact ⟨true, by rw [if_pos rfl]; omega⟩
      · exact ⟨false, by rw [if_neg Bool.false_ne_true]; omega⟩
    obtain ⟨neg, hn⟩ := hs
    obtain ⟨n1, n2, n3, n4⟩ := nst neg m hm0 h
    have hs : rung m 1074 < SGN := Nat.lt_trans n2 inf_sgn
    refine ⟨rung m 1074, neg, Nat.le_of_lt n2, fin_of (by rw [wrd_mg neg hs]; exact n2), ?_, fun _ => ⟨n1, hn⟩⟩
    rw [n3, hn, Int.natCast_mul]
    cases neg
    · rw [if_neg Bool.false_ne_true, if_neg Bool.false_ne_true]; rfl
    · rw [if_pos rfl, if_pos rfl, Int.neg_mul]; rfl
theorem ofInt_ok (n : Int) (h : n.natAbs ≤ 9007199254740992) : floatOfInt .f64 n < 18446744073709551616 ∧ fin (floatOfInt .f64 n) = true ∧ Z (floatOfInt .f64 n) = n * UI := by
  by_cases h0 : n = 0
  · rw [h0, ofInt_zero, Int.zero_mul]
    exact ⟨by decide, by decide, by decide⟩
  · obtain ⟨r, neg, hr, hf, hz, k⟩ := whole_rung n h
    obtain ⟨k1, k2⟩ := k h0
    have e : floatOfInt .f64 n = wrd neg r := by
      have := ofInt_word neg n.natAbs (by omega)
      rw [← k2] at this
      rw [this, k1]
    rw [e, Z_wrd neg hr, hz]
    exact ⟨(wrd_ok neg r hr).1, hf, rfl⟩
theorem one_ZI : Z ONE = UI := one_Z
theorem ofInt_next (n : Int) (h1 : -9007199254740992 ≤ n) (h2 : n < 9007199254740992) : ∃ x, floatBits .add .f64 (floatOfInt .f64 n) ONE = some x ∧ x < 18446744073709551616 ∧ nan x = false ∧ Z x = (n + 1) * UI := by
  obtain ⟨o1, o2, o3⟩ := ofInt_ok n (by omega)
  obtain ⟨r, neg, hr, hf, hz, _⟩ := whole_rung (n + 1) (by omega)
  have e : Z (floatOfInt .f64 n) + Z ONE = (n + 1) * UI := by rw [o3, one_ZI, Int.add_mul, Int.one_mul]
  obtain ⟨x, x1, x2, x3, x4⟩ := add_exact (a := floatOfInt .f64 n) (b := ONE) (r := r) (neg := neg) o1 (by decide) o2 (by decide) hr (by rw [e, hz])
  exact ⟨x, x1, x2, x3, by rw [x4, e]⟩
theorem flq_lt {b : Nat} : Z b < (flq b + 1) * UI := by
  have hU := UI_pos
  have h1 := Int.emod_lt_of_pos (Z b) hU
  have h2 := Int.emod_add_mul_ediv (Z b) UI
  have h3 : flq b = Z b / UI := rfl
  rw [← h3] at h2
  rw [Int.add_mul, Int.one_mul, Int.mul_comm (flq b)]
  omega
theorem flq_le' {b : Nat} : flq b * UI ≤ Z b := by
  have hU := UI_pos
  have h1 := Int.emod_nonneg (Z b) (show UI ≠ 0 by omega)
  have h2 := Int.emod_add_mul_ediv (Z b) UI
  have h3 : flq b = Z b / UI := rfl
  rw [← h3] at h2
  rw [Int.mul_comm (flq b)]
  omega
theorem sure_le {a : Sp} {n : Int} {p : Nat} (h : FlSure a n) (k : InP a p) : (FloatKind.f64.format.order (floatOfInt .f64 n) p == some .lt || FloatKind.f64.format.order (floatOfInt .f64 n) p == some .eq) = true := by
  have g1 := h.ge
  have g2 := h.le
  obtain ⟨o1, o2, o3⟩ := ofInt_ok n (by omega)
  refine (le_eq (a := floatOfInt .f64 n) (b := p) o1 k.lt (nan_of_fin o2) (nan_of_fin k.fin)).trans (decide_eq_true ?_)
  have e := flq_le' (b := a.lo)
  rw [h.el] at e
  have := k.ge
  omega
theorem sure_lt {a : Sp} {n : Int} {p x : Nat} (h : FlSure a n) (k : InP a p) (x2 : x < 18446744073709551616) (x3 : nan x = false) (x4 : Z x = (n + 1) * UI) : (FloatKind.f64.format.order p x == some .lt) = true := by
  refine (lt_eq (a := p) (b := x) k.lt x2 (nan_of_fin k.fin) x3).trans (decide_eq_true ?_)
  have e := flq_lt (b := a.hi)
  rw [h.eh] at e
  have := k.le
  omega
theorem InP.gt0 {a : Sp} {p : Nat} (k : InP a p) : (FloatKind.f64.format.order p 0 == some .gt) = decide (0 < Z p) := by
  have z0 : Z 0 = 0 := by decide
  have := gt_eq (a := p) (b := 0) k.lt (by decide) (nan_of_fin k.fin) (by decide)
  rw [z0] at this
  exact this
theorem InP.ltp {a b : Sp} {p q : Nat} (k : InP a p) (l : InP b q) : (FloatKind.f64.format.order p q == some .lt) = decide (Z p < Z q) :=
  lt_eq (a := p) (b := q) k.lt l.lt (nan_of_fin k.fin) (nan_of_fin l.fin)
end Go.Proofs.Ytlpnfgglpoppfaa
