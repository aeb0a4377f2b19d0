/- Plain numbers of layer 1, the first part: the magnitudes of float64 as rungs, counted upwards from zero, in units of 2^-1074; the rung of a whole number times a power of two; no program stands in this text. -/
import Ieee.Arith
namespace Go.Proofs.YtmgaonkmfdeohaaDoor.Fl

/-- The magnitude of a rung, in units of 2^-1074. -/
def rv (r : Nat) : Nat := if r < 4503599627370496 then r else (4503599627370496 + r % 4503599627370496) * 2 ^ (r / 4503599627370496 - 1)

theorem rv_of (q W : Nat) (hW : W ≤ 9007199254740992) (h : q = 0 ∨ 4503599627370496 ≤ W) : rv (q * 4503599627370496 + W) = W * 2 ^ q := by
  unfold rv
  by_cases h0 : q * 4503599627370496 + W < 4503599627370496
  · have : q = 0 := by omega
    subst this
    simp only [if_pos h0]; simp
  · rw [if_neg h0]
    by_cases hmax : W = 9007199254740992
    · subst hmax
      have e1 : (q * 4503599627370496 + 9007199254740992) % 4503599627370496 = 0 := by omega
      have e2 : (q * 4503599627370496 + 9007199254740992) / 4503599627370496 - 1 = q + 1 := by omega
      rw [e1, e2, Nat.pow_succ]
      omega
    · have e1 : (q * 4503599627370496 + W) % 4503599627370496 = W - 4503599627370496 := by omega
      have e2 : (q * 4503599627370496 + W) / 4503599627370496 - 1 = q := by omega
      rw [e1, e2, show 4503599627370496 + (W - 4503599627370496) = W by omega]

/-- Every rung is of that form. -/
theorem rung_form (r : Nat) : ∃ q W, r = q * 4503599627370496 + W ∧ W < 9007199254740992 ∧ (q = 0 ∨ 4503599627370496 ≤ W) := by
  by_cases h : r < 4503599627370496
  · exact ⟨0, r, by omega, by omega, .inl rfl⟩
  · exact ⟨r / 4503599627370496 - 1, r % 4503599627370496 + 4503599627370496, by omega, by omega, .inr (by omega)⟩

theorem rv_succ (r : Nat) : rv r < rv (r + 1) := by
  obtain ⟨q, W, rfl, hW, h⟩ := rung_form r
  rw [rv_of q W (by omega) h, Nat.add_assoc, rv_of q (W + 1) (by omega) (by omega)]
  exact Nat.mul_lt_mul_of_pos_right (by omega) (Nat.two_pow_pos q)

theorem rv_lt {r s : Nat} (h : r < s) : rv r < rv s := by
  induction s with
  | zero => omega
  | succ s ih =>
    by_cases h' : r < s
    · exact Nat.lt_trans (ih h') (rv_succ s)
    · have : r = s := by omega
      subst this
      exact rv_succ r

theorem rv_le {r s : Nat} (h : r ≤ s) : rv r ≤ rv s := by
  by_cases h' : r = s
  · subst h'; exact Nat.le_refl _
  · exact Nat.le_of_lt (rv_lt (by omega))

theorem rv_lt_iff {r s : Nat} : rv r < rv s ↔ r < s := by
  constructor
  · intro h
    apply Nat.lt_of_not_le
    intro h'
    have := rv_le h'
    omega
  · exact rv_lt

theorem rv_le_iff {r s : Nat} : rv r ≤ rv s ↔ r ≤ s := by
  constructor
  · intro h
    apply Nat.le_of_not_lt
    intro h'
    have := rv_lt h'
    omega
  · exact rv_le

theorem rv_inj {r s : Nat} (h : rv r = rv s) : r = s := by
  have h1 : r ≤ s := rv_le_iff.1 (Nat.le_of_eq h)
  have h2 : s ≤ r := rv_le_iff.1 (Nat.le_of_eq h.symm)
  omega

theorem rv_zero : rv 0 = 0 := by decide

theorem rv_pos {r : Nat} (h : 0 < r) : 0 < rv r := by
  have := rv_lt h
  rw [rv_zero] at this
  exact this

/-! ### The length of a whole number -/

/-- How many binary digits. -/
def len (n : Nat) : Nat := if n = 0 then 0 else n.log2 + 1

theorem len_zero : len 0 = 0 := rfl
theorem lt_len (n : Nat) : n < 2 ^ len n := by
  unfold len
  split
  · rename_i h; subst h; decide
  · exact Nat.lt_log2_self
theorem len_le_of_lt {n k : Nat} (h : n < 2 ^ k) : len n ≤ k := by
  unfold len
  split
  · omega
  · rename_i h0
    have := (Nat.log2_lt h0).2 h
    omega
theorem pow_le_of_len {n : Nat} (h : n ≠ 0) : 2 ^ (len n - 1) ≤ n := by
  unfold len
  rw [if_neg h, Nat.add_sub_cancel]
  exact Nat.log2_self_le h
theorem len_pos {n : Nat} (h : n ≠ 0) : 0 < len n := by
  unfold len
  rw [if_neg h]; omega
theorem len_eq_zero {n : Nat} : len n = 0 ↔ n = 0 := by
  unfold len
  split <;> simp_all
theorem len_of {n k : Nat} (h1 : 2 ^ k ≤ n) (h2 : n < 2 ^ (k + 1)) : len n = k + 1 := by
  have h0 : n ≠ 0 := by have := Nat.two_pow_pos k; omega
  have hle := len_le_of_lt h2
  have : k < len n := by
    apply Nat.lt_of_not_le
    intro hh
    have := lt_len n
    have := Nat.pow_le_pow_right (show 0 < 2 by decide) hh
    omega
  omega
theorem len_mul_pow {n : Nat} (h : n ≠ 0) (k : Nat) : len (n * 2 ^ k) = len n + k := by
  obtain ⟨l, hl⟩ : ∃ l, len n = l + 1 := ⟨len n - 1, by have := len_pos h; omega⟩
  have h1 := pow_le_of_len h
  have h2 := lt_len n
  rw [hl] at h1 h2 ⊢
  have : len (n * 2 ^ k) = (l + k) + 1 := by
    apply len_of
    · rw [Nat.pow_add]
      exact Nat.mul_le_mul_right _ (by simpa using h1)
    · rw [show l + k + 1 = (l + 1) + k by omega, Nat.pow_add]
      exact Nat.mul_lt_mul_of_pos_right h2 (Nat.two_pow_pos k)
  omega
theorem len_div_pow {n : Nat} (k : Nat) (h : k < len n) : len (n / 2 ^ k) = len n - k := by
  have h0 : n ≠ 0 := by
    intro e; subst e; simp [len] at h
  obtain ⟨l, hl⟩ : ∃ l, len n = l + 1 := ⟨len n - 1, by have := len_pos h0; omega⟩
  have h1 := pow_le_of_len h0
  have h2 := lt_len n
  rw [hl] at h1 h2 h ⊢
  obtain ⟨d, rfl⟩ : ∃ d, l = d + k := ⟨l - k, by omega⟩
  have : len (n / 2 ^ k) = d + 1 := by
    apply len_of
    · rw [Nat.le_div_iff_mul_le (Nat.two_pow_pos k), ← Nat.pow_add]
      simpa using h1
    · rw [Nat.div_lt_iff_lt_mul (Nat.two_pow_pos k), ← Nat.pow_add]
      rw [show d + 1 + k = d + k + 1 by omega]
      exact h2
  omega

/-! ### The rung at or below 'W times 2 to the e' (e counted from -1074) -/

/-- How many binary places are dropped (below 0: added). -/
def drop (W : Nat) (e : Int) : Int := max ((len W : Int) - 53) (-e)

/-- What is kept of W. -/
def kept (W : Nat) (e : Int) : Nat := W / 2 ^ (drop W e).toNat * 2 ^ (-drop W e).toNat

/-- Is something lost? -/
def lost (W : Nat) (e : Int) : Bool := W % 2 ^ (drop W e).toNat != 0

/-- The place of what is kept, from -1074 on. -/
def place (W : Nat) (e : Int) : Nat := (e + drop W e).toNat

def rung (W : Nat) (e : Int) : Nat := place W e * 4503599627370496 + kept W e

theorem drop_ge (W : Nat) (e : Int) : 0 ≤ e + drop W e := by unfold drop; omega

theorem kept_lt (W : Nat) (e : Int) : kept W e < 9007199254740992 := by
  unfold kept
  have hl := lt_len W
  by_cases hd : 0 ≤ drop W e
  · have e1 : (-drop W e).toNat = 0 := by omega
    rw [e1, Nat.pow_zero, Nat.mul_one]
    rw [Nat.div_lt_iff_lt_mul (Nat.two_pow_pos _)]
    rw [show (9007199254740992 : Nat) = 2 ^ 53 from rfl, ← Nat.pow_add]
    refine Nat.lt_of_lt_of_le hl (Nat.pow_le_pow_right (by decide) ?_)
    unfold drop at hd ⊢
    omega
  · have e1 : (drop W e).toNat = 0 := by omega
    rw [e1, Nat.pow_zero, Nat.div_one]
    have h2 : len W + (-drop W e).toNat ≤ 53 := by
      unfold drop at hd ⊢
      omega
    rw [show (9007199254740992 : Nat) = 2 ^ 53 from rfl]
    refine Nat.lt_of_lt_of_le (Nat.mul_lt_mul_of_pos_right hl (Nat.two_pow_pos _)) ?_
    rw [← Nat.pow_add]
    exact Nat.pow_le_pow_right (by decide) h2

theorem place_kept (W : Nat) (e : Int) (h0 : W ≠ 0) : place W e = 0 ∨ 4503599627370496 ≤ kept W e := by
  unfold place kept
  by_cases h : drop W e = -e
  · left; omega
  · right
    have hd : drop W e = (len W : Int) - 53 := by unfold drop at h ⊢; omega
    rw [hd]
    have hp := len_pos h0
    have h1 := pow_le_of_len h0
    by_cases hs : 53 ≤ len W
    · have e1 : (-((len W : Int) - 53)).toNat = 0 := by omega
      have e2 : ((len W : Int) - 53).toNat = len W - 53 := by omega
      rw [e1, e2, Nat.pow_zero, Nat.mul_one, Nat.le_div_iff_mul_le (Nat.two_pow_pos _)]
      rw [show (4503599627370496 : Nat) = 2 ^ 52 from rfl, ← Nat.pow_add, show 52 + (len W - 53) = len W - 1 by omega]
      exact h1
    · have e1 : (-((len W : Int) - 53)).toNat = 53 - len W := by omega
      have e2 : ((len W : Int) - 53).toNat = 0 := by omega
      rw [e1, e2, Nat.pow_zero, Nat.div_one]
      rw [show (4503599627370496 : Nat) = 2 ^ (len W - 1) * 2 ^ (53 - len W) by rw [← Nat.pow_add, show len W - 1 + (53 - len W) = 52 by omega]]
      exact Nat.mul_le_mul_right _ h1

theorem rv_rung (W : Nat) (e : Int) (h0 : W ≠ 0) : rv (rung W e) = kept W e * 2 ^ place W e :=
  rv_of _ _ (Nat.le_of_lt (kept_lt W e)) (place_kept W e h0)

theorem rv_rung_succ (W : Nat) (e : Int) (h0 : W ≠ 0) : rv (rung W e + 1) = (kept W e + 1) * 2 ^ place W e := by
  unfold rung
  rw [Nat.add_assoc]
  exact rv_of _ _ (kept_lt W e) (by have := place_kept W e h0; omega)

/-- The rung in terms of W itself, both sides at the unit 2^(e - k): what is at or above W and below W + 1 is at or above the rung and below the next one. -/
theorem rung_low (W : Nat) (e : Int) (h0 : W ≠ 0) : rv (rung W e) * 2 ^ (-e).toNat ≤ W * 2 ^ e.toNat := by
  rw [rv_rung W e h0]
  unfold kept place
  have hge := drop_ge W e
  by_cases hd : 0 ≤ drop W e
  · have e1 : (-drop W e).toNat = 0 := by omega
    rw [e1, Nat.pow_zero, Nat.mul_one, Nat.mul_assoc, ← Nat.pow_add]
    have e2 : (e + drop W e).toNat + (-e).toNat = (drop W e).toNat + e.toNat := by omega
    rw [e2, Nat.pow_add, ← Nat.mul_assoc]
    exact Nat.mul_le_mul_right _ (Nat.div_mul_le_self _ _)
  · have e1 : (drop W e).toNat = 0 := by omega
    rw [e1, Nat.pow_zero, Nat.div_one, Nat.mul_assoc, Nat.mul_assoc, ← Nat.pow_add, ← Nat.pow_add]
    have e2 : (-drop W e).toNat + ((e + drop W e).toNat + (-e).toNat) = e.toNat := by omega
    rw [e2]
    exact Nat.le_refl _

/-- Nothing lost: the same. -/
theorem rung_same (W : Nat) (e : Int) (h0 : W ≠ 0) (hl : lost W e = false) : rv (rung W e) * 2 ^ (-e).toNat = W * 2 ^ e.toNat := by
  rw [rv_rung W e h0]
  unfold kept place
  unfold lost at hl
  have hm : W % 2 ^ (drop W e).toNat = 0 := by simpa using hl
  have hge := drop_ge W e
  by_cases hd : 0 ≤ drop W e
  · have e1 : (-drop W e).toNat = 0 := by omega
    rw [e1, Nat.pow_zero, Nat.mul_one, Nat.mul_assoc, ← Nat.pow_add]
    have e2 : (e + drop W e).toNat + (-e).toNat = (drop W e).toNat + e.toNat := by omega
    rw [e2, Nat.pow_add, ← Nat.mul_assoc, Nat.div_mul_cancel (Nat.dvd_of_mod_eq_zero hm)]
  · have e1 : (drop W e).toNat = 0 := by omega
    rw [e1, Nat.pow_zero, Nat.div_one, Nat.mul_assoc, Nat.mul_assoc, ← Nat.pow_add, ← Nat.pow_add]
    have e2 : (-drop W e).toNat + ((e + drop W e).toNat + (-e).toNat) = e.toNat := by omega
    rw [e2]

theorem rung_lost (W : Nat) (e : Int) (h0 : W ≠ 0) (hl : lost W e = true) : rv (rung W e) * 2 ^ (-e).toNat < W * 2 ^ e.toNat := by
  refine Nat.lt_of_le_of_ne (rung_low W e h0) ?_
  intro h
  rw [rv_rung W e h0] at h
  unfold kept place at h
  unfold lost at hl
  have hm : W % 2 ^ (drop W e).toNat ≠ 0 := by simpa using hl
  have hge := drop_ge W e
  have hd : 0 ≤ drop W e := by
    apply Int.not_lt.1
    intro hh
    rw [show (drop W e).toNat = 0 by omega, Nat.pow_zero, Nat.mod_one] at hm
    exact hm rfl
  have e1 : (-drop W e).toNat = 0 := by omega
  rw [e1, Nat.pow_zero, Nat.mul_one, Nat.mul_assoc, ← Nat.pow_add] at h
  have e2 : (e + drop W e).toNat + (-e).toNat = (drop W e).toNat + e.toNat := by omega
  rw [e2, Nat.pow_add, ← Nat.mul_assoc] at h
  have h3 := Nat.eq_of_mul_eq_mul_right (Nat.two_pow_pos _) h
  apply hm
  have := Nat.div_add_mod W (2 ^ (drop W e).toNat)
  rw [Nat.mul_comm] at this
  omega

/-- W + 1 is at most the next rung: where places are dropped, or W is at the place itself. -/
theorem rung_high (W : Nat) (e : Int) (h0 : W ≠ 0) (hd : 0 ≤ drop W e) : (W + 1) * 2 ^ e.toNat ≤ rv (rung W e + 1) * 2 ^ (-e).toNat := by
  rw [rv_rung_succ W e h0]
  unfold kept place
  have hge := drop_ge W e
  have e1 : (-drop W e).toNat = 0 := by omega
  rw [e1, Nat.pow_zero, Nat.mul_one, Nat.mul_assoc, ← Nat.pow_add]
  have e2 : (e + drop W e).toNat + (-e).toNat = (drop W e).toNat + e.toNat := by omega
  rw [e2, Nat.pow_add, ← Nat.mul_assoc]
  refine Nat.mul_le_mul_right _ ?_
  have h1 := Nat.div_add_mod W (2 ^ (drop W e).toNat)
  have h2 := Nat.mod_lt W (Nat.two_pow_pos (drop W e).toNat)
  rw [Nat.add_mul, Nat.one_mul, Nat.mul_comm]
  omega

theorem rung_above (W : Nat) (e : Int) (h0 : W ≠ 0) : W * 2 ^ e.toNat < rv (rung W e + 1) * 2 ^ (-e).toNat := by
  by_cases hd : 0 ≤ drop W e
  · refine Nat.lt_of_lt_of_le ?_ (rung_high W e h0 hd)
    exact Nat.mul_lt_mul_of_pos_right (by omega) (Nat.two_pow_pos _)
  · have hl : lost W e = false := by
      unfold lost
      rw [show (drop W e).toNat = 0 by omega, Nat.pow_zero, Nat.mod_one]
      rfl
    rw [← rung_same W e h0 hl]
    exact Nat.mul_lt_mul_of_pos_right (rv_succ _) (Nat.two_pow_pos _)

end Go.Proofs.YtmgaonkmfdeohaaDoor.Fl
