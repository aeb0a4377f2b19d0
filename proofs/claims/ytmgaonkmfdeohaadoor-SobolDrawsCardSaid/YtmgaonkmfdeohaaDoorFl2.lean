/- Plain numbers of layer 1, the second part: the words of float64, read and written: what a word stands for as a whole number of units of 2^-1074; the order; which word is written; no program stands in this text. -/
import Derived.Test.YtmgaonkmfdeohaaDoorFl1
namespace Go.Proofs.YtmgaonkmfdeohaaDoor.Fl
open Ieee

theorem flo_spec (n : Nat) : rv (rung n 0) ≤ n ∧ n < rv (rung n 0 + 1) := by
  by_cases h : n = 0
  · subst h; decide
  · have h1 := rung_low n 0 h
    have h2 := rung_above n 0 h
    simp at h1 h2
    exact ⟨h1, h2⟩

theorem rung_uniq {r s n : Nat} (h1 : rv r ≤ n) (h2 : n < rv (r + 1)) (h3 : rv s ≤ n) (h4 : n < rv (s + 1)) : r = s := by
  have a : r < s + 1 := rv_lt_iff.1 (Nat.lt_of_le_of_lt h1 h4)
  have b : s < r + 1 := rv_lt_iff.1 (Nat.lt_of_le_of_lt h3 h2)
  omega

theorem flo_rv (r : Nat) : rung (rv r) 0 = r :=
  rung_uniq (flo_spec _).1 (flo_spec _).2 (Nat.le_refl _) (rv_succ r)

/-- The rung of a magnitude that a rung has: that one, and nothing is lost. -/
theorem rung_of_eq {r W : Nat} {e : Int} (h0 : W ≠ 0) (h : rv r * 2 ^ (-e).toNat = W * 2 ^ e.toNat) : rung W e = r ∧ lost W e = false := by
  have hlo := rung_low W e h0
  have hab := rung_above W e h0
  have hr : rung W e = r := by
    rw [← h] at hlo hab
    have a := rv_le_iff.1 (Nat.le_of_mul_le_mul_right hlo (Nat.two_pow_pos _))
    have b := rv_lt_iff.1 (Nat.lt_of_mul_lt_mul_right hab)
    omega
  refine ⟨hr, ?_⟩
  cases hl : lost W e with
  | false => rfl
  | true =>
    have := rung_lost W e h0 hl
    rw [hr, h] at this
    omega

/-- The same magnitude at another place: the same rung, and the same is lost. -/
theorem rung_shift (W : Nat) (e : Int) (k : Nat) (h0 : W ≠ 0) : rung (W * 2 ^ k) (e - k) = rung W e ∧ lost (W * 2 ^ k) (e - k) = lost W e := by
  have hl : len (W * 2 ^ k) = len W + k := len_mul_pow h0 k
  have hd : drop (W * 2 ^ k) (e - k) = drop W e + k := by
    unfold drop; rw [hl]; omega
  have hp : place (W * 2 ^ k) (e - k) = place W e := by
    unfold place; rw [hd]; congr 1; omega
  by_cases h : 0 ≤ drop W e
  · obtain ⟨d, hdd⟩ : ∃ d : Nat, drop W e = d := ⟨(drop W e).toNat, by omega⟩
    constructor
    · unfold rung
      rw [hp]
      unfold kept
      rw [hd, hdd]
      have e1 : (-((d : Int) + k)).toNat = 0 := by omega
      have e2 : (-(d : Int)).toNat = 0 := by omega
      have e3 : ((d : Int) + k).toNat = d + k := by omega
      have e4 : (d : Int).toNat = d := by omega
      rw [e1, e2, e3, e4, Nat.pow_add, Nat.mul_div_mul_right _ _ (Nat.two_pow_pos k)]
    · unfold lost
      rw [hd, hdd]
      have e3 : ((d : Int) + k).toNat = d + k := by omega
      have e4 : (d : Int).toNat = d := by omega
      rw [e3, e4, Nat.pow_add, Nat.mul_mod_mul_right]
      rw [Bool.eq_iff_iff]
      simp [Nat.mul_eq_zero]
  · have hl0 : lost W e = false := by
      unfold lost
      rw [show (drop W e).toNat = 0 by omega, Nat.pow_zero, Nat.mod_one]
      rfl
    have hs := rung_same W e h0 hl0
    have h0' : W * 2 ^ k ≠ 0 := Nat.mul_ne_zero h0 (Nat.ne_of_gt (Nat.two_pow_pos k))
    have key : rv (rung W e) * 2 ^ (-(e - k)).toNat = W * 2 ^ k * 2 ^ (e - k).toNat := by
      by_cases hek : (k : Int) ≤ e
      · have e1 : (-(e - k)).toNat = 0 := by omega
        have e2 : (-e).toNat = 0 := by omega
        rw [e2] at hs
        rw [e1, Nat.mul_assoc, ← Nat.pow_add, hs]
        congr 2
        omega
      · have e1 : (e - k).toNat = 0 := by omega
        rw [e1, Nat.pow_zero, Nat.mul_one]
        by_cases he : 0 ≤ e
        · have e2 : (-e).toNat = 0 := by omega
          rw [e2, Nat.pow_zero, Nat.mul_one] at hs
          rw [hs, Nat.mul_assoc, ← Nat.pow_add]
          congr 2
          omega
        · have e2 : e.toNat = 0 := by omega
          rw [e2, Nat.pow_zero, Nat.mul_one] at hs
          have e3 : (-(e - k)).toNat = (-e).toNat + k := by omega
          rw [e3, Nat.pow_add, ← Nat.mul_assoc, hs]
    have := rung_of_eq h0' key
    exact ⟨this.1, by rw [this.2, hl0]⟩

/-! ### Writing -/

theorem shl_eq (n k : Nat) : n <<< k = n * 2 ^ k := Nat.shiftLeft_eq n k

theorem cut_even (neg : Bool) (n d : Nat) : ∃ up : Bool, Toward.even.cut neg n d = n / 2 ^ d + up.toNat ∧ (n % 2 ^ d = 0 → up = false) := by
  unfold Toward.cut
  dsimp only
  by_cases h : d ≤ n.log2 + 2
  · rw [Nat.min_eq_left h, shl_eq, Nat.one_mul]
    refine ⟨_, rfl, fun h0 => ?_⟩
    rw [h0]
    have := Nat.two_pow_pos d
    simp
  · have hm : min d (n.log2 + 2) = n.log2 + 2 := by omega
    rw [hm, shl_eq, Nat.one_mul]
    have hlt : n < 2 ^ (n.log2 + 1) := Nat.lt_log2_self
    have hlt2 : n < 2 ^ (n.log2 + 2) := by rw [Nat.pow_succ]; omega
    have hltd : n < 2 ^ d := Nat.lt_of_lt_of_le hlt2 (Nat.pow_le_pow_right (by decide) (by omega))
    rw [Nat.div_eq_of_lt hlt2, Nat.mod_eq_of_lt hlt2, Nat.div_eq_of_lt hltd]
    refine ⟨false, ?_, fun _ => rfl⟩
    have h3 : 2 * n < 2 ^ (n.log2 + 2) := by rw [Nat.pow_succ]; omega
    simp
    omega

def INF : Nat := 9218868437227405312
def SGN : Nat := 9223372036854775808

theorem infRung_eq : double.infRung = INF := by decide
theorem sign_eq : double.signWeight = SGN := by decide
theorem binade_eq : double.binade = 4503599627370496 := by decide
theorem least_eq : double.leastPlace = -1074 := by decide

/-- A word of a sign and a rung. -/
def wrd (neg : Bool) (r : Nat) : Nat := if neg then SGN + r else r

theorem word_eq (neg : Bool) (r : Nat) : double.word neg r = wrd neg r := by
  unfold Format.word wrd
  rw [sign_eq]

theorem nearest_zero (neg : Bool) (p : Int) : double.nearest neg 0 p = wrd neg 0 := by
  unfold Format.nearest
  rw [if_pos rfl, word_eq]

/-- What is written: the rung at or below, or the next one if something is lost; at most infinity. -/
theorem nearest_eq (neg : Bool) (m : Nat) (p : Int) (h0 : m ≠ 0) : ∃ up : Bool, double.nearest neg m p = wrd neg (min (rung m (p + 1074) + up.toNat) INF) ∧ (lost m (p + 1074) = false → up = false) := by
  have hlog : (m.log2 : Int) = (len m : Int) - 1 := by
    unfold len; rw [if_neg h0]; omega
  have hlast : max (p + (m.log2 : Int) - (double.fractionBits : Int)) double.leastPlace = p + drop m (p + 1074) := by
    rw [least_eq, hlog]
    unfold drop
    show max (p + ((len m : Int) - 1) - (52 : Int)) (-1074) = _
    omega
  unfold Format.nearest
  rw [if_neg h0]
  dsimp only
  rw [hlast, word_eq, binade_eq, infRung_eq, least_eq, shl_eq]
  have e1 : (p - (p + drop m (p + 1074))).toNat = (-drop m (p + 1074)).toNat := by congr 1; omega
  have e2 : (p + drop m (p + 1074) - p).toNat = (drop m (p + 1074)).toNat := by congr 1; omega
  have e3 : (p + drop m (p + 1074) - -1074).toNat = place m (p + 1074) := by unfold place; congr 1; omega
  rw [e1, e2, e3]
  obtain ⟨up, hc, hu⟩ := cut_even neg (m * 2 ^ (-drop m (p + 1074)).toNat) (drop m (p + 1074)).toNat
  refine ⟨up, ?_, fun hl => hu ?_⟩
  · rw [hc]
    have hk : m * 2 ^ (-drop m (p + 1074)).toNat / 2 ^ (drop m (p + 1074)).toNat = kept m (p + 1074) := by
      unfold kept
      by_cases hd : 0 ≤ drop m (p + 1074)
      · rw [show (-drop m (p + 1074)).toNat = 0 by omega, Nat.pow_zero, Nat.mul_one, Nat.mul_one]
      · rw [show (drop m (p + 1074)).toNat = 0 by omega, Nat.pow_zero, Nat.div_one, Nat.div_one]
    rw [hk, ← Nat.add_assoc]
    rfl
  · unfold lost at hl
    have hm : m % 2 ^ (drop m (p + 1074)).toNat = 0 := by simpa using hl
    by_cases hd : 0 ≤ drop m (p + 1074)
    · rw [show (-drop m (p + 1074)).toNat = 0 by omega, Nat.pow_zero, Nat.mul_one]
      exact hm
    · rw [show (drop m (p + 1074)).toNat = 0 by omega, Nat.pow_zero, Nat.mod_one]

/-- What has a word is written as that word. -/
theorem nearest_exact (neg : Bool) (m r : Nat) (p : Int) (hr : r ≤ INF) (h : rv r * 2 ^ (-(p + 1074)).toNat = m * 2 ^ (p + 1074).toNat) : double.nearest neg m p = wrd neg r := by
  by_cases h0 : m = 0
  · subst h0
    have : rv r = 0 := by
      rw [Nat.zero_mul] at h
      exact (Nat.mul_eq_zero.1 h).resolve_right (Nat.ne_of_gt (Nat.two_pow_pos _))
    rw [rv_inj (this.trans rv_zero.symm), nearest_zero]
  · obtain ⟨up, hn, hu⟩ := nearest_eq neg m p h0
    obtain ⟨h1, h2⟩ := rung_of_eq h0 h
    rw [hn, h1, hu h2]
    congr 1
    simp
    omega

/-! ### Reading -/

/-- Below 0 (the sign bit); the rung; the kinds. -/
def sg (b : Nat) : Bool := decide (SGN ≤ b)
def mg (b : Nat) : Nat := b % SGN
def nan (b : Nat) : Bool := decide (INF < mg b)
def fin (b : Nat) : Bool := decide (mg b < INF)

/-- What a word stands for, in units of 2^-1074 (an infinity: as the next number would be). -/
def Z (b : Nat) : Int := if sg b then -(rv (mg b) : Int) else (rv (mg b) : Int)

theorem mg_lt (b : Nat) : mg b < SGN := Nat.mod_lt _ (by decide)
theorem wrd_sg (neg : Bool) {r : Nat} (h : r < SGN) : sg (wrd neg r) = neg := by
  unfold sg wrd
  cases neg
  · simp; omega
  · simp
theorem wrd_mg (neg : Bool) {r : Nat} (h : r < SGN) : mg (wrd neg r) = r := by
  unfold mg wrd
  cases neg
  · simp; exact Nat.mod_eq_of_lt h
  · simp; exact Nat.mod_eq_of_lt h
theorem wrd_of (b : Nat) (h : b < 18446744073709551616) : wrd (sg b) (mg b) = b := by
  unfold wrd sg mg SGN
  by_cases hs : 9223372036854775808 ≤ b
  · simp only [hs, decide_true, if_true]; omega
  · simp only [hs, decide_false]; simp; omega
theorem wrd_lt (neg : Bool) {r : Nat} (h : r < SGN) : wrd neg r < 18446744073709551616 := by
  unfold wrd SGN at *
  split <;> omega

theorem read_sign (b : Nat) (h : b < 18446744073709551616) : (b / double.signWeight % 2 == 1) = sg b := by
  rw [sign_eq]
  unfold sg SGN
  rw [Bool.eq_iff_iff]
  simp
  omega

theorem read_fin (b : Nat) (h : b < 18446744073709551616) (hf : fin b = true) :
    ∃ (m : Nat) (p : Int), double.read b = .number (sg b) m p ∧ -1074 ≤ p ∧ m * 2 ^ (p + 1074).toNat = rv (mg b) := by
  unfold Format.read
  dsimp only
  rw [read_sign b h, sign_eq, binade_eq, infRung_eq, least_eq]
  have hf' : mg b < INF := of_decide_eq_true hf
  show ∃ m p, (if mg b < 4503599627370496 then _ else if mg b < INF then _ else _) = _ ∧ _
  by_cases h1 : mg b < 4503599627370496
  · rw [if_pos h1]
    refine ⟨_, _, rfl, by omega, ?_⟩
    unfold rv
    rw [if_pos h1]
    simp; rfl
  · rw [if_neg h1, if_pos hf']
    refine ⟨_, _, rfl, by omega, ?_⟩
    unfold rv
    rw [if_neg h1]
    congr 2
    have : (-1074 + ((mg b / 4503599627370496 - 1 : Nat) : Int) + 1074).toNat = mg b / 4503599627370496 - 1 := by omega
    exact this

theorem read_inf (b : Nat) (h : b < 18446744073709551616) (hi : mg b = INF) : double.read b = .infinity (sg b) := by
  unfold Format.read
  dsimp only
  rw [read_sign b h, sign_eq, binade_eq, infRung_eq, least_eq]
  show (if mg b < 4503599627370496 then _ else if mg b < INF then _ else if mg b = INF then _ else _) = _
  rw [hi]
  rw [if_neg (by decide), if_neg (by decide), if_pos rfl]

theorem read_nan (b : Nat) (h : b < 18446744073709551616) (hn : nan b = true) : ∃ t, double.read b = .nan (sg b) t := by
  unfold Format.read
  dsimp only
  rw [read_sign b h, sign_eq, binade_eq, infRung_eq, least_eq]
  show ∃ t, (if mg b < 4503599627370496 then _ else if mg b < INF then _ else if mg b = INF then _ else _) = _
  have hn' : INF < mg b := of_decide_eq_true hn
  have : (4503599627370496 : Nat) < INF := by decide
  rw [if_neg (by omega), if_neg (by omega), if_neg (by omega)]
  exact ⟨_, rfl⟩

/-! ### The order -/

theorem signed_Z (s : Bool) (m k : Nat) : signed s m k = if s then -((m * 2 ^ k : Nat) : Int) else ((m * 2 ^ k : Nat) : Int) := by
  unfold signed
  rw [shl_eq]

theorem compare_mul (a b : Int) (c : Int) (hc : 0 < c) : compare (a * c) (b * c) = compare a b := by
  rcases Int.lt_trichotomy a b with h | h | h
  · have h1 := Int.mul_lt_mul_of_pos_right h hc
    rw [Int.compare_eq_lt.2 h, Int.compare_eq_lt.2 h1]
  · subst h; rw [Int.compare_eq_eq.2 rfl, Int.compare_eq_eq.2 rfl]
  · have h1 := Int.mul_lt_mul_of_pos_right h hc
    rw [Int.compare_eq_gt.2 h, Int.compare_eq_gt.2 h1]

/-- A number's own whole number of units, however it is written. -/
theorem signed_unit {s : Bool} {m : Nat} {p base : Int} {r : Nat} (hb : -1074 ≤ base) (hp : base ≤ p) (h : m * 2 ^ (p + 1074).toNat = rv r) :
    signed s m (p - base).toNat * ((2 ^ (base + 1074).toNat : Nat) : Int) = if s then -(rv r : Int) else (rv r : Int) := by
  have e : m * 2 ^ (p - base).toNat * 2 ^ (base + 1074).toNat = rv r := by
    rw [← h, Nat.mul_assoc, ← Nat.pow_add]
    congr 2
    omega
  rw [signed_Z]
  cases s
  · simp only [Bool.false_eq_true, if_false]
    rw [← Int.natCast_mul, e]
  · simp only [if_true]
    rw [Int.neg_mul, ← Int.natCast_mul, e]

theorem order_eq (a b : Nat) (ha : a < 18446744073709551616) (hb : b < 18446744073709551616) (na : nan a = false) (nb : nan b = false) :
    double.order a b = some (compare (Z a) (Z b)) := by
  unfold Format.order
  have hinf : ∀ c, nan c = false → fin c = false → mg c = INF := by
    intro c h1 h2
    have h1 := of_decide_eq_false h1
    have h2 := of_decide_eq_false h2
    omega
  have hpos : ∀ c, fin c = true → rv (mg c) < rv INF := by
    intro c h
    exact rv_lt (of_decide_eq_true h)
  cases fa : fin a with
  | false =>
    have ia := hinf a na fa
    rw [read_inf a ha ia]
    cases fb : fin b with
    | false =>
      have ib := hinf b nb fb
      rw [read_inf b hb ib]
      simp only [Datum.order]
      unfold Z
      rw [ia, ib]
      have hp : 0 < rv INF := rv_pos (by decide)
      generalize rv INF = v at *
      cases sg a <;> cases sg b <;> simp <;> first | rfl | (show Ordering.gt = _; symm; rw [Int.compare_eq_gt]; omega) | (show Ordering.lt = _; symm; rw [Int.compare_eq_lt]; omega)
    | true =>
      obtain ⟨m, p, hr, _, _⟩ := read_fin b hb fb
      have hlt := hpos b fb
      rw [hr]
      simp only [Datum.order]
      unfold Z
      rw [ia]
      generalize rv INF = v at *
      generalize rv (mg b) = u at *
      cases sg a <;> cases sg b <;> simp <;> (symm; first | (rw [Int.compare_eq_lt]; omega) | (rw [Int.compare_eq_gt]; omega))
  | true =>
    obtain ⟨m, p, hr, hp, hv⟩ := read_fin a ha fa
    rw [hr]
    cases fb : fin b with
    | false =>
      have ib := hinf b nb fb
      rw [read_inf b hb ib]
      have hlt := hpos a fa
      simp only [Datum.order]
      unfold Z
      rw [ib]
      generalize rv INF = v at *
      generalize rv (mg a) = u at *
      cases sg a <;> cases sg b <;> simp <;> (symm; first | (rw [Int.compare_eq_lt]; omega) | (rw [Int.compare_eq_gt]; omega))
    | true =>
      obtain ⟨n, q, hr', hq, hv'⟩ := read_fin b hb fb
      rw [hr']
      simp only [Datum.order]
      rw [← compare_mul _ _ ((2 ^ (min p q + 1074).toNat : Nat) : Int) (Int.natCast_pos.2 (Nat.two_pow_pos _))]
      rw [signed_unit (by omega) (by omega) hv, signed_unit (by omega) (by omega) hv']
      rfl

theorem order_nan_left (a b : Nat) (ha : a < 18446744073709551616) (na : nan a = true) : double.order a b = none := by
  unfold Format.order
  obtain ⟨t, h⟩ := read_nan a ha na
  rw [h]
  rfl

theorem order_nan_right (a b : Nat) (hb : b < 18446744073709551616) (nb : nan b = true) : double.order a b = none := by
  unfold Format.order
  obtain ⟨t, h⟩ := read_nan b hb nb
  rw [h]
  cases double.read a <;> rfl

end Go.Proofs.YtmgaonkmfdeohaaDoor.Fl
