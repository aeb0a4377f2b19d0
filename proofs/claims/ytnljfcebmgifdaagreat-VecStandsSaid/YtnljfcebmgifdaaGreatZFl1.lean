/- Shaken: Fl1. -/
import Ieee.Arith
set_option linter.unusedVariables false
set_option linter.unusedSimpArgs false
namespace Go.Proofs.YtnljfcebmgifdaaGreat.Fl
/-- The magnitude of a rung, in units of 2^-1074. -/
def rv (r : Nat) : Nat := if r < 4503599627370496 then r else (4503599627370496 + r % 4503599627370496) * 2 ^ (r / 4503599627370496 - 1)
theorem rv_of (q W : Nat) (hW : W ≤ 9007199254740992) (h : q = 0 ∨ 4503599627370496 ≤ W) : rv (q * 4503599627370496 + W) = W * 2 ^ q := by
 unfold rv
 by_cases h0 : q * 4503599627370496 + W < 4503599627370496
 · have : q = 0 := by omega
   subst this
   simp only [if_pos h0]; simp
 · rw [if_neg h0]
   by_cases hmax : W = 9007199254740992
   · subst hmax
     have e1 : (q * 4503599627370496 + 9007199254740992) % 4503599627370496 = 0 := by omega
     have e2 : (q * 4503599627370496 + 9007199254740992) / 4503599627370496 - 1 = q + 1 := by omega
     rw [e1, e2, Nat.pow_succ]
     omega
   · have e1 : (q * 4503599627370496 + W) % 4503599627370496 = W - 4503599627370496 := by omega
     have e2 : (q * 4503599627370496 + W) / 4503599627370496 - 1 = q := by omega
     rw [e1, e2, show 4503599627370496 + (W - 4503599627370496) = W by omega]
/-- Every rung is of that form. -/
theorem rung_form (r : Nat) : ∃ q W, r = q * 4503599627370496 + W ∧ W < 9007199254740992 ∧ (q = 0 ∨ 4503599627370496 ≤ W) := by
 by_cases h : r < 4503599627370496
 · exact ⟨0, r, by omega, by omega, .inl rfl⟩
 · exact ⟨r / 4503599627370496 - 1, r % 4503599627370496 + 4503599627370496, by omega, by omega, .inr (by omega)⟩
theorem rv_succ (r : Nat) : rv r < rv (r + 1) := by
 obtain ⟨q, W, rfl, hW, h⟩ := rung_form r
 rw [rv_of q W (by omega) h, Nat.add_assoc, rv_of q (W + 1) (by omega) (by omega)]
 exact Nat.mul_lt_mul_of_pos_right (by omega) (Nat.two_pow_pos q)
theorem rv_lt {r s : Nat} (h : r < s) : rv r < rv s := by
 induction s with
 | zero => omega
 | succ s ih =>
   by_cases h' : r < s
   · exact Nat.lt_trans (ih h') (rv_succ s)
   · have : r = s := by omega
     subst this
     exact rv_succ r
theorem rv_le {r s : Nat} (h : r ≤ s) : rv r ≤ rv s := by
 by_cases h' : r = s
 · subst h'; exact Nat.le_refl _
 · exact Nat.le_of_lt (rv_lt (by omega))
theorem rv_lt_iff {r s : Nat} : rv r < rv s ↔ r < s := by
 constructor
 · intro h
   apply Nat.lt_of_not_le
   intro h'
   have := rv_le h'
   omega
 · exact rv_lt
theorem rv_le_iff {r s : Nat} : rv r ≤ rv s ↔ r ≤ s := by
 constructor
 · intro h
   apply Nat.le_of_not_lt
   intro h'
   have := rv_lt h'
   omega
 · exact rv_le
theorem rv_inj {r s : Nat} (h : rv r = rv s) : r = s := by
 have h1 : r ≤ s := rv_le_iff.1 (Nat.le_of_eq h)
 have h2 : s ≤ r := rv_le_iff.1 (Nat.le_of_eq h.symm)
 omega
theorem rv_zero : rv 0 = 0 := by decide
theorem rv_pos {r : Nat} (h : 0 < r) : 0 < rv r := by
 have := rv_lt h
 rw [rv_zero] at this
 exact this
/-- How many binary digits. -/
def len (n : Nat) : Nat := if n = 0 then 0 else n.log2 + 1
theorem len_zero : len 0 = 0 := rfl
theorem lt_len (n : Nat) : n < 2 ^ len n := by
 unfold len
 split
 · rename_i h; subst h; decide
 · exact Nat.lt_log2_self
theorem len_le_of_lt {n k : Nat} (h : n < 2 ^ k) : len n ≤ k := by
 unfold len
 split
 · omega
 · rename_i h0
   have := (Nat.log2_lt h0).2 h
   omega
theorem pow_le_of_len {n : Nat} (h : n ≠ 0) : 2 ^ (len n - 1) ≤ n := by
 unfold len
 rw [if_neg h, Nat.add_sub_cancel]
 exact Nat.log2_self_le h
theorem len_pos {n : Nat} (h : n ≠ 0) : 0 < len n := by
 unfold len
 rw [if_neg h]; omega
theorem len_of {n k : Nat} (h1 : 2 ^ k ≤ n) (h2 : n < 2 ^ (k + 1)) : len n = k + 1 := by
 have h0 : n ≠ 0 := by have := Nat.two_pow_pos k; omega
 have hle := len_le_of_lt h2
 have : k < len n := by
   apply Nat.lt_of_not_le
   intro hh
   have := lt_len n
   have := Nat.pow_le_pow_right (show 0 < 2 by decide) hh
   omega
 omega
theorem len_div_pow {n : Nat} (k : Nat) (h : k < len n) : len (n / 2 ^ k) = len n - k := by
 have h0 : n ≠ 0 := by
   intro e; subst e; simp [len] at h
 obtain ⟨l, hl⟩ : ∃ l, len n = l + 1 := ⟨len n - 1, by have := len_pos h0; omega⟩
 have h1 := pow_le_of_len h0
 have h2 := lt_len n
 rw [hl] at h1 h2 h ⊢
 obtain ⟨d, rfl⟩ : ∃ d, l = d + k := ⟨l - k, by omega⟩
 have : len (n / 2 ^ k) = d + 1 := by
   apply len_of
   · rw [Nat.le_div_iff_mul_le (Nat.two_pow_pos k), ← Nat.pow_add]
     simpa using h1
   · rw [Nat.div_lt_iff_lt_mul (Nat.two_pow_pos k), ← Nat.pow_add]
     rw [show d + 1 + k = d + k + 1 by omega]
     exact h2
 omega
/-- How many binary places are dropped (below 0: added). -/
def drop (W : Nat) (e : Int) : Int := max ((len W : Int) - 53) (-e)
/-- What is kept of W. -/
def kept (W : Nat) (e : Int) : Nat := W / 2 ^ (drop W e).toNat * 2 ^ (-drop W e).toNat
/-- Is something lost? -/
def lost (W : Nat) (e : Int) : Bool := W % 2 ^ (drop W e).toNat != 0
/-- The place of what is kept, from -1074 on. -/
def place (W : Nat) (e : Int) : Nat := (e + drop W e).toNat
def rung (W : Nat) (e : Int) : Nat := place W e * 4503599627370496 + kept W e
theorem drop_ge (W : Nat) (e : Int) : 0 ≤ e + drop W e := by unfold drop; omega
theorem kept_lt (W : Nat) (e : Int) : kept W e < 9007199254740992 := by
 unfold kept
 have hl := lt_len W
 by_cases hd : 0 ≤ drop W e
 · have e1 : (-drop W e).toNat = 0 := by omega
   rw [e1, Nat.pow_zero, Nat.mul_one]
   rw [Nat.div_lt_iff_lt_mul (Nat.two_pow_pos _)]
   rw [show (9007199254740992 : Nat) = 2 ^ 53 from rfl, ← Nat.pow_add]
   refine Nat.lt_of_lt_of_le hl (Nat.pow_le_pow_right (by decide) ?_)
   unfold drop at hd ⊢
   omega
 · have e1 : (drop W e).toNat = 0 := by omega
   rw [e1, Nat.pow_zero, Nat.div_one]
   have h2 : len W + (-drop W e).toNat ≤ 53 := by
     unfold drop at hd ⊢
     omega
   rw [show (9007199254740992 : Nat) = 2 ^ 53 from rfl]
   refine Nat.lt_of_lt_of_le (Nat.mul_lt_mul_of_pos_right hl (Nat.two_pow_pos _)) ?_
   rw [← Nat.pow_add]
   exact Nat.pow_le_pow_right (by decide) h2
theorem place_kept (W : Nat) (e : Int) (h0 : W ≠ 0) : place W e = 0 ∨ 4503599627370496 ≤ kept W e := by
 unfold place kept
 by_cases h : drop W e = -e
 · left; omega
 · right
   have hd : drop W e = (len W : Int) - 53 := by unfold drop at h ⊢; omega
   rw [hd]
   have hp := len_pos h0
   have h1 := pow_le_of_len h0
   by_cases hs : 53 ≤ len W
   · have e1 : (-((len W : Int) - 53)).toNat = 0 := by omega
     have e2 : ((len W : Int) - 53).toNat = len W - 53 := by omega
     rw [e1, e2, Nat.pow_zero, Nat.mul_one, Nat.le_div_iff_mul_le (Nat.two_pow_pos _)]
     rw [show (4503599627370496 : Nat) = 2 ^ 52 from rfl, ← Nat.pow_add, show 52 + (len W - 53) = len W - 1 by omega]
     exact h1
   · have e1 : (-((len W : Int) - 53)).toNat = 53 - len W := by omega
     have e2 : ((len W : Int) - 53).toNat = 0 := by omega
     rw [e1, e2, Nat.pow_zero, Nat.div_one]
     rw [show (4503599627370496 : Nat) = 2 ^ (len W - 1) * 2 ^ (53 - len W) by rw [← Nat.pow_add, show len W - 1 + (53 - len W) = 52 by omega]]
     exact Nat.mul_le_mul_right _ h1
theorem rv_rung (W : Nat) (e : Int) (h0 : W ≠ 0) : rv (rung W e) = kept W e * 2 ^ place W e :=
 rv_of _ _ (Nat.le_of_lt (kept_lt W e)) (place_kept W e h0)
theorem rv_rung_succ (W : Nat) (e : Int) (h0 : W ≠ 0) : rv (rung W e + 1) = (kept W e + 1) * 2 ^ place W e := by
 unfold rung
 rw [Nat.add_assoc]
 exact rv_of _ _ (kept_lt W e) (by have := place_kept W e h0; omega)
/-- The rung in terms of W itself, both sides at the unit 2^(e - k): what is at or above W and below W + 1 is at or above the rung and below the next one. -/
theorem rung_low (W : Nat) (e : Int) (h0 : W ≠ 0) : rv (rung W e) * 2 ^ (-e).toNat ≤ W * 2 ^ e.toNat := by
 rw [rv_rung W e h0]
 unfold kept place
 have hge := drop_ge W e
 by_cases hd : 0 ≤ drop W e
 · have e1 : (-drop W e).toNat = 0 := by omega
   rw [e1, Nat.pow_zero, Nat.mul_one, Nat.mul_assoc, ← Nat.pow_add]
   have e2 : (e + drop W e).toNat + (-e).toNat = (drop W e).toNat + e.toNat := by omega
   rw [e2, Nat.pow_add, ← Nat.mul_assoc]
   exact Nat.mul_le_mul_right _ (Nat.div_mul_le_self _ _)
 · have e1 : (drop W e).toNat = 0 := by omega
   rw [e1, Nat.pow_zero, Nat.div_one, Nat.mul_assoc, Nat.mul_assoc, ← Nat.pow_add, ← Nat.pow_add]
   have e2 : (-drop W e).toNat + ((e + drop W e).toNat + (-e).toNat) = e.toNat := by omega
   rw [e2]
   exact Nat.le_refl _
/-- Nothing lost: the same. -/
theorem rung_same (W : Nat) (e : Int) (h0 : W ≠ 0) (hl : lost W e = false) : rv (rung W e) * 2 ^ (-e).toNat = W * 2 ^ e.toNat := by
 rw [rv_rung W e h0]
 unfold kept place
 unfold lost at hl
 have hm : W % 2 ^ (drop W e).toNat = 0 := by simpa using hl
 have hge := drop_ge W e
 by_cases hd : 0 ≤ drop W e
 · have e1 : (-drop W e).toNat = 0 := by omega
   rw [e1, Nat.pow_zero, Nat.mul_one, Nat.mul_assoc, ← Nat.pow_add]
   have e2 : (e + drop W e).toNat + (-e).toNat = (drop W e).toNat + e.toNat := by omega
   rw [e2, Nat.pow_add, ← Nat.mul_assoc, Nat.div_mul_cancel (Nat.dvd_of_mod_eq_zero hm)]
 · have e1 : (drop W e).toNat = 0 := by omega
   rw [e1, Nat.pow_zero, Nat.div_one, Nat.mul_assoc, Nat.mul_assoc, ← Nat.pow_add, ← Nat.pow_add]
   have e2 : (-drop W e).toNat + ((e + drop W e).toNat + (-e).toNat) = e.toNat := by omega
   rw [e2]
theorem rung_lost (W : Nat) (e : Int) (h0 : W ≠ 0) (hl : lost W e = true) : rv (rung W e) * 2 ^ (-e).toNat < W * 2 ^ e.toNat := by
 refine Nat.lt_of_le_of_ne (rung_low W e h0) ?_
 intro h
 rw [rv_rung W e h0] at h
 unfold kept place at h
 unfold lost at hl
 have hm : W % 2 ^ (drop W e).toNat ≠ 0 := by simpa using hl
 have hge := drop_ge W e
 have hd : 0 ≤ drop W e := by
   apply Int.not_lt.1
   intro hh
   rw [show (drop W e).toNat = 0 by omega, Nat.pow_zero, Nat.mod_one] at hm
   exact hm rfl
 have e1 : (-drop W e).toNat = 0 := by omega
 rw [e1, Nat.pow_zero, Nat.mul_one, Nat.mul_assoc, ← Nat.pow_add] at h
 have e2 : (e + drop W e).toNat + (-e).toNat = (drop W e).toNat + e.toNat := by omega
 rw [e2, Nat.pow_add, ← Nat.mul_assoc] at h
 have h3 := Nat.eq_of_mul_eq_mul_right (Nat.two_pow_pos _) h
 apply hm
 have := Nat.div_add_mod W (2 ^ (drop W e).toNat)
 rw [Nat.mul_comm] at this
 omega
/-- W + 1 is at most the next rung: where places are dropped, or W is at the place itself. -/
theorem rung_high (W : Nat) (e : Int) (h0 : W ≠ 0) (hd : 0 ≤ drop W e) : (W + 1) * 2 ^ e.toNat ≤ rv (rung W e + 1) * 2 ^ (-e).toNat := by
 rw [rv_rung_succ W e h0]
 unfold kept place
 have hge := drop_ge W e
 have e1 : (-drop W e).toNat = 0 := by omega
 rw [e1, Nat.pow_zero, Nat.mul_one, Nat.mul_assoc, ← Nat.pow_add]
 have e2 : (e + drop W e).toNat + (-e).toNat = (drop W e).toNat + e.toNat := by omega
 rw [e2, Nat.pow_add, ← Nat.mul_assoc]
 refine Nat.mul_le_mul_right _ ?_
 have h1 := Nat.div_add_mod W (2 ^ (drop W e).toNat)
 have h2 := Nat.mod_lt W (Nat.two_pow_pos (drop W e).toNat)
 rw [Nat.add_mul, Nat.one_mul, Nat.mul_comm]
 omega
theorem rung_above (W : Nat) (e : Int) (h0 : W ≠ 0) : W * 2 ^ e.toNat < rv (rung W e + 1) * 2 ^ (-e).toNat := by
 by_cases hd : 0 ≤ drop W e
 · refine Nat.lt_of_lt_of_le ?_ (rung_high W e h0 hd)
   exact Nat.mul_lt_mul_of_pos_right (by omega) (Nat.two_pow_pos _)
 · have hl : lost W e = false := by
     unfold lost
     rw [show (drop W e).toNat = 0 by omega, Nat.pow_zero, Nat.mod_one]
     rfl
   rw [← rung_same W e h0 hl]
   exact Nat.mul_lt_mul_of_pos_right (rv_succ _) (Nat.two_pow_pos _)
end Go.Proofs.YtnljfcebmgifdaaGreat.Fl
namespace Go.Proofs.YtnljfcebmgifdaaGreat.Fl
open Ieee
/-- The rung of a magnitude that a rung has: that one, and nothing is lost. -/
theorem rung_of_eq {r W : Nat} {e : Int} (h0 : W ≠ 0) (h : rv r * 2 ^ (-e).toNat = W * 2 ^ e.toNat) : rung W e = r ∧ lost W e = false := by
 have hlo := rung_low W e h0
 have hab := rung_above W e h0
 have hr : rung W e = r := by
   rw [← h] at hlo hab
   have a := rv_le_iff.1 (Nat.le_of_mul_le_mul_right hlo (Nat.two_pow_pos _))
   have b := rv_lt_iff.1 (Nat.lt_of_mul_lt_mul_right hab)
   omega
 refine ⟨hr, ?_⟩
 cases hl : lost W e with
 | false => rfl
 | true =>
   have := rung_lost W e h0 hl
   rw [hr, h] at this
   omega
theorem shl_eq (n k : Nat) : n <<< k = n * 2 ^ k := Nat.shiftLeft_eq n k
theorem cut_even (neg : Bool) (n d : Nat) : ∃ up : Bool, Toward.even.cut neg n d = n / 2 ^ d + up.toNat ∧ (n % 2 ^ d = 0 → up = false) := by
 unfold Toward.cut
 dsimp only
 by_cases h : d ≤ n.log2 + 2
 · rw [Nat.min_eq_left h, shl_eq, Nat.one_mul]
   refine ⟨_, rfl, fun h0 => ?_⟩
   rw [h0]
   have := Nat.two_pow_pos d
   simp
 · have hm : min d (n.log2 + 2) = n.log2 + 2 := by omega
   rw [hm, shl_eq, Nat.one_mul]
   have hlt : n < 2 ^ (n.log2 + 1) := Nat.lt_log2_self
   have hlt2 : n < 2 ^ (n.log2 + 2) := by rw [Nat.pow_succ]; omega
   have hltd : n < 2 ^ d := Nat.lt_of_lt_of_le hlt2 (Nat.pow_le_pow_right (by decide) (by omega))
   rw [Nat.div_eq_of_lt hlt2, Nat.mod_eq_of_lt hlt2, Nat.div_eq_of_lt hltd]
   refine ⟨false, ?_, fun _ => rfl⟩
   have h3 : 2 * n < 2 ^ (n.log2 + 2) := by rw [Nat.pow_succ]; omega
   simp
   omega
def INF : Nat := 9218868437227405312
def SGN : Nat := 9223372036854775808
theorem infRung_eq : double.infRung = INF := by decide
theorem sign_eq : double.signWeight = SGN := by decide
theorem binade_eq : double.binade = 4503599627370496 := by decide
theorem least_eq : double.leastPlace = -1074 := by decide
/-- A word of a sign and a rung. -/
def wrd (neg : Bool) (r : Nat) : Nat := if neg then SGN + r else r
theorem word_eq (neg : Bool) (r : Nat) : double.word neg r = wrd neg r := by
 unfold Format.word wrd
 rw [sign_eq]
theorem nearest_zero (neg : Bool) (p : Int) : double.nearest neg 0 p = wrd neg 0 := by
 unfold Format.nearest
 rw [if_pos rfl, word_eq]
/-- What is written: the rung at or below, or the next one if something is lost; at most infinity. -/
theorem nearest_eq (neg : Bool) (m : Nat) (p : Int) (h0 : m ≠ 0) : ∃ up : Bool, double.nearest neg m p = wrd neg (min (rung m (p + 1074) + up.toNat) INF) ∧ (lost m (p + 1074) = false → up = false) := by
 have hlog : (m.log2 : Int) = (len m : Int) - 1 := by
   unfold len; rw [if_neg h0]; omega
 have hlast : max (p + (m.log2 : Int) - (double.fractionBits : Int)) double.leastPlace = p + drop m (p + 1074) := by
   rw [least_eq, hlog]
   unfold drop
   show max (p + ((len m : Int) - 1) - (52 : Int)) (-1074) = _
   omega
 unfold Format.nearest
 rw [if_neg h0]
 dsimp only
 rw [hlast, word_eq, binade_eq, infRung_eq, least_eq, shl_eq]
 have e1 : (p - (p + drop m (p + 1074))).toNat = (-drop m (p + 1074)).toNat := by congr 1; omega
 have e2 : (p + drop m (p + 1074) - p).toNat = (drop m (p + 1074)).toNat := by congr 1; omega
 have e3 : (p + drop m (p + 1074) - -1074).toNat = place m (p + 1074) := by unfold place; congr 1; omega
 rw [e1, e2, e3]
 obtain ⟨up, hc, hu⟩ := cut_even neg (m * 2 ^ (-drop m (p + 1074)).toNat) (drop m (p + 1074)).toNat
 refine ⟨up, ?_, fun hl => hu ?_⟩
 · rw [hc]
   have hk : m * 2 ^ (-drop m (p + 1074)).toNat / 2 ^ (drop m (p + 1074)).toNat = kept m (p + 1074) := by
     unfold kept
     by_cases hd : 0 ≤ drop m (p + 1074)
     · rw [show (-drop m (p + 1074)).toNat = 0 by omega, Nat.pow_zero, Nat.mul_one, Nat.mul_one]
     · rw [show (drop m (p + 1074)).toNat = 0 by omega, Nat.pow_zero, Nat.div_one, Nat.div_one]
   rw [hk, ← Nat.add_assoc]
   rfl
 · unfold lost at hl
   have hm : m % 2 ^ (drop m (p + 1074)).toNat = 0 := by simpa using hl
   by_cases hd : 0 ≤ drop m (p + 1074)
   · rw [show (-drop m (p + 1074)).toNat = 0 by omega, Nat.pow_zero, Nat.mul_one]
     exact hm
   · rw [show (drop m (p + 1074)).toNat = 0 by omega, Nat.pow_zero, Nat.mod_one]
/-- What has a word is written as that word. -/
theorem nearest_exact (neg : Bool) (m r : Nat) (p : Int) (hr : r ≤ INF) (h : rv r * 2 ^ (-(p + 1074)).toNat = m * 2 ^ (p + 1074).toNat) : double.nearest neg m p = wrd neg r := by
 by_cases h0 : m = 0
 · subst h0
   have : rv r = 0 := by
     rw [Nat.zero_mul] at h
     exact (Nat.mul_eq_zero.1 h).resolve_right (Nat.ne_of_gt (Nat.two_pow_pos _))
   rw [rv_inj (this.trans rv_zero.symm), nearest_zero]
 · obtain ⟨up, hn, hu⟩ := nearest_eq neg m p h0
   obtain ⟨h1, h2⟩ := rung_of_eq h0 h
   rw [hn, h1, hu h2]
   congr 1
   simp
   omega
/-- Below 0 (the sign bit); the rung; the kinds. -/
def sg (b : Nat) : Bool := decide (SGN ≤ b)
def mg (b : Nat) : Nat := b % SGN
def nan (b : Nat) : Bool := decide (INF < mg b)
def fin (b : Nat) : Bool := decide (mg b < INF)
/-- What a word stands for, in units of 2^-1074 (an infinity: as the next number would be). -/
def Z (b : Nat) : Int := if sg b then -(rv (mg b) : Int) else (rv (mg b) : Int)
theorem mg_lt (b : Nat) : mg b < SGN := Nat.mod_lt _ (by decide)
theorem wrd_sg (neg : Bool) {r : Nat} (h : r < SGN) : sg (wrd neg r) = neg := by
 unfold sg wrd
 cases neg
 · simp; omega
 · simp
theorem wrd_mg (neg : Bool) {r : Nat} (h : r < SGN) : mg (wrd neg r) = r := by
 unfold mg wrd
 cases neg
 · simp; exact Nat.mod_eq_of_lt h
 · simp; exact Nat.mod_eq_of_lt h
theorem wrd_of (b : Nat) (h : b < 18446744073709551616) : wrd (sg b) (mg b) = b := by
 unfold wrd sg mg SGN
 by_cases hs : 9223372036854775808 ≤ b
 · simp only [hs, decide_true, if_true]; omega
 · simp only [hs, decide_false]; simp; omega
theorem wrd_lt (neg : Bool) {r : Nat} (h : r < SGN) : wrd neg r < 18446744073709551616 := by
 unfold wrd SGN at *
 split <;> omega
theorem read_sign (b : Nat) (h : b < 18446744073709551616) : (b / double.signWeight % 2 == 1) = sg b := by
 rw [sign_eq]
 unfold sg SGN
 rw [Bool.eq_iff_iff]
 simp
 omega
theorem read_fin (b : Nat) (h : b < 18446744073709551616) (hf : fin b = true) :
   ∃ (m : Nat) (p : Int), double.read b = .number (sg b) m p ∧ -1074 ≤ p ∧ m * 2 ^ (p + 1074).toNat = rv (mg b) := by
 unfold Format.read
 dsimp only
 rw [read_sign b h, sign_eq, binade_eq, infRung_eq, least_eq]
 have hf' : mg b < INF := of_decide_eq_true hf
 show ∃ m p, (if mg b < 4503599627370496 then _ else if mg b < INF then _ else _) = _ ∧ _
 by_cases h1 : mg b < 4503599627370496
 · rw [if_pos h1]
   refine ⟨_, _, rfl, by omega, ?_⟩
   unfold rv
   rw [if_pos h1]
   simp; rfl
 · rw [if_neg h1, if_pos hf']
   refine ⟨_, _, rfl, by omega, ?_⟩
   unfold rv
   rw [if_neg h1]
   congr 2
   have : (-1074 + ((mg b / 4503599627370496 - 1 : Nat) : Int) + 1074).toNat = mg b / 4503599627370496 - 1 := by omega
   exact this
theorem read_inf (b : Nat) (h : b < 18446744073709551616) (hi : mg b = INF) : double.read b = .infinity (sg b) := by
 unfold Format.read
 dsimp only
 rw [read_sign b h, sign_eq, binade_eq, infRung_eq, least_eq]
 show (if mg b < 4503599627370496 then _ else if mg b < INF then _ else if mg b = INF then _ else _) = _
 rw [hi]
 rw [if_neg (by decide), if_neg (by decide), if_pos rfl]
theorem read_nan (b : Nat) (h : b < 18446744073709551616) (hn : nan b = true) : ∃ t, double.read b = .nan (sg b) t := by
 unfold Format.read
 dsimp only
 rw [read_sign b h, sign_eq, binade_eq, infRung_eq, least_eq]
 show ∃ t, (if mg b < 4503599627370496 then _ else if mg b < INF then _ else if mg b = INF then _ else _) = _
 have hn' : INF < mg b := of_decide_eq_true hn
 have : (4503599627370496 : Nat) < INF := by decide
 rw [if_neg (by omega), if_neg (by omega), if_neg (by omega)]
 exact ⟨_, rfl⟩
theorem signed_Z (s : Bool) (m k : Nat) : signed s m k = if s then -((m * 2 ^ k : Nat) : Int) else ((m * 2 ^ k : Nat) : Int) := by
 unfold signed
 rw [shl_eq]
theorem compare_mul (a b : Int) (c : Int) (hc : 0 < c) : compare (a * c) (b * c) = compare a b := by
 rcases Int.lt_trichotomy a b with h | h | h
 · have h1 := Int.mul_lt_mul_of_pos_right h hc
   rw [Int.compare_eq_lt.2 h, Int.compare_eq_lt.2 h1]
 · subst h; rw [Int.compare_eq_eq.2 rfl, Int.compare_eq_eq.2 rfl]
 · have h1 := Int.mul_lt_mul_of_pos_right h hc
   rw [Int.compare_eq_gt.2 h, Int.compare_eq_gt.2 h1]
/-- A number's own whole number of units, however it is written. -/
theorem signed_unit {s : Bool} {m : Nat} {p base : Int} {r : Nat} (hb : -1074 ≤ base) (hp : base ≤ p) (h : m * 2 ^ (p + 1074).toNat = rv r) :
   signed s m (p - base).toNat * ((2 ^ (base + 1074).toNat : Nat) : Int) = if s then -(rv r : Int) else (rv r : Int) := by
 have e : m * 2 ^ (p - base).toNat * 2 ^ (base + 1074).toNat = rv r := by
   rw [← h, Nat.mul_assoc, ← Nat.pow_add]
   congr 2
   omega
 rw [signed_Z]
 cases s
 · simp only [Bool.false_eq_true, if_false]
   rw [← Int.natCast_mul, e]
 · simp only [if_true]
   rw [Int.neg_mul, ← Int.natCast_mul, e]
theorem order_eq (a b : Nat) (ha : a < 18446744073709551616) (hb : b < 18446744073709551616) (na : nan a = false) (nb : nan b = false) :
   double.order a b = some (compare (Z a) (Z b)) := by
 unfold Format.order
 have hinf : ∀ c, nan c = false → fin c = false → mg c = INF := by
   intro c h1 h2
   have h1 := of_decide_eq_false h1
   have h2 := of_decide_eq_false h2
   omega
 have hpos : ∀ c, fin c = true → rv (mg c) < rv INF := by
   intro c h
   exact rv_lt (of_decide_eq_true h)
 cases fa : fin a with
 | false =>
   have ia := hinf a na fa
   rw [read_inf a ha ia]
   cases fb : fin b with
   | false =>
     have ib := hinf b nb fb
     rw [read_inf b hb ib]
     simp only [Datum.order]
     unfold Z
     rw [ia, ib]
     have hp : 0 < rv INF := rv_pos (by decide)
     generalize rv INF = v at *
     cases sg a <;> cases sg b <;> simp <;> first | rfl | (show Ordering.gt = _; symm; rw [Int.compare_eq_gt]; omega) | (show Ordering.lt = _; symm; rw [Int.compare_eq_lt]; omega)
   | true =>
     obtain ⟨m, p, hr, _, _⟩ := read_fin b hb fb
     have hlt := hpos b fb
     rw [hr]
     simp only [Datum.order]
     unfold Z
     rw [ia]
     generalize rv INF = v at *
     generalize rv (mg b) = u at *
     cases sg a <;> cases sg b <;> simp <;> (symm; first | (rw [Int.compare_eq_lt]; omega) | (rw [Int.compare_eq_gt]; omega))
 | true =>
   obtain ⟨m, p, hr, hp, hv⟩ := read_fin a ha fa
   rw [hr]
   cases fb : fin b with
   | false =>
     have ib := hinf b nb fb
     rw [read_inf b hb ib]
     have hlt := hpos a fa
     simp only [Datum.order]
     unfold Z
     rw [ib]
     generalize rv INF = v at *
     generalize rv (mg a) = u at *
     cases sg a <;> cases sg b <;> simp <;> (symm; first | (rw [Int.compare_eq_lt]; omega) | (rw [Int.compare_eq_gt]; omega))
   | true =>
     obtain ⟨n, q, hr', hq, hv'⟩ := read_fin b hb fb
     rw [hr']
     simp only [Datum.order]
     rw [← compare_mul _ _ ((2 ^ (min p q + 1074).toNat : Nat) : Int) (Int.natCast_pos.2 (Nat.two_pow_pos _))]
     rw [signed_unit (by omega) (by omega) hv, signed_unit (by omega) (by omega) hv']
     rfl
theorem order_nan_left (a b : Nat) (ha : a < 18446744073709551616) (na : nan a = true) : double.order a b = none := by
 unfold Format.order
 obtain ⟨t, h⟩ := read_nan a ha na
 rw [h]
 rfl
theorem order_nan_right (a b : Nat) (hb : b < 18446744073709551616) (nb : nan b = true) : double.order a b = none := by
 unfold Format.order
 obtain ⟨t, h⟩ := read_nan b hb nb
 rw [h]
 cases double.read a <;> rfl
end Go.Proofs.YtnljfcebmgifdaaGreat.Fl
namespace Go.Proofs.YtnljfcebmgifdaaGreat.Fl
open Ieee
/-- +0 in the place of -0. -/
def pl (b : Nat) : Nat := if b = SGN then 0 else b
/-- The other sign. -/
def flip (b : Nat) : Nat := wrd (!sg b) (mg b)
theorem inf_sgn : INF < SGN := by decide
theorem mg_zero_cases {b : Nat} (h : b < 18446744073709551616) (hm : mg b = 0) : b = 0 ∨ b = SGN := by
 unfold mg SGN at *
 omega
theorem mg_of_fin {b : Nat} (h : fin b = true) : mg b < INF := of_decide_eq_true h
theorem fin_of {b : Nat} (h : mg b < INF) : fin b = true := decide_eq_true h
theorem nan_of_fin {b : Nat} (h : fin b = true) : nan b = false := decide_eq_false (by have := mg_of_fin h; omega)
theorem inf_of {b : Nat} (h1 : nan b = false) (h2 : fin b = false) : mg b = INF := by
 have h1 := of_decide_eq_false h1
 have h2 := of_decide_eq_false h2
 omega
theorem pl_lt {b : Nat} (h : b < 18446744073709551616) : pl b < 18446744073709551616 := by
 unfold pl; split <;> omega
theorem flip_lt (b : Nat) : flip b < 18446744073709551616 := wrd_lt _ (mg_lt b)
theorem flip_mg (b : Nat) : mg (flip b) = mg b := wrd_mg _ (mg_lt b)
theorem flip_sg (b : Nat) : sg (flip b) = !sg b := wrd_sg _ (mg_lt b)
theorem flip_Z (b : Nat) : Z (flip b) = -Z b := by
 unfold Z
 rw [flip_sg, flip_mg]
 cases sg b <;> simp
theorem read_zero : double.read 0 = .number false 0 (-1074) := by decide +kernel
theorem write_inf (s : Bool) : double.write (.infinity s) = wrd s INF := by
 show double.word s double.infRung = _
 rw [word_eq, infRung_eq]
theorem write_num (s : Bool) (m : Nat) (p : Int) : double.write (.number s m p) = double.nearest s m p := rfl
/-- The sign and the size of a sum's whole number of units. -/
theorem natAbs_unit (s : Bool) (r : Nat) : (if s then -(r : Int) else (r : Int)).natAbs = r := by
 cases s <;> simp
theorem add_zero (b : Nat) (h : b < 18446744073709551616) (hn : nan b = false) : double.add b 0 = some (pl b) := by
 unfold Format.add
 rw [read_zero]
 cases hf : fin b with
 | true =>
   obtain ⟨m, p, hr, hp, hv⟩ := read_fin b h hf
   rw [hr]
   simp only [Datum.sum, Option.map_some, write_num]
   have hb : min p (-1074) = -1074 := by omega
   rw [hb]
   have e1 := signed_unit (s := sg b) (m := m) (p := p) (base := -1074) (r := rv (mg b) |> fun _ => mg b) (by omega) (by omega) hv
   have e0 : ((-1074 : Int) + 1074).toNat = 0 := rfl
   rw [e0, Nat.pow_zero] at e1
   have e1' : signed (sg b) m (p - -1074).toNat = if sg b then -(rv (mg b) : Int) else (rv (mg b) : Int) := by simpa using e1
   have e2 : signed false 0 ((-1074 : Int) - -1074).toNat = 0 := by decide
   rw [e1', e2, Int.add_zero, natAbs_unit]
   congr 1
   rw [nearest_exact _ _ (mg b) (-1074) (Nat.le_of_lt (mg_of_fin hf)) rfl]
   unfold pl
   by_cases h0 : mg b = 0
   · rw [h0, rv_zero]
     rcases mg_zero_cases h h0 with hb0 | hb0
     · subst hb0; decide
     · subst hb0; decide
   · have hpos := rv_pos (Nat.pos_of_ne_zero h0)
     have hne : (if sg b then -(rv (mg b) : Int) else (rv (mg b) : Int)) ≠ 0 := by cases sg b <;> simp <;> omega
     rw [if_neg hne]
     have hs : decide ((if sg b then -(rv (mg b) : Int) else (rv (mg b) : Int)) < 0) = sg b := by
       cases sg b
       · exact decide_eq_false (by simp <;> omega)
       · exact decide_eq_true (by simp <;> omega)
     rw [hs, wrd_of b h, if_neg]
     intro e
     subst e
     exact h0 (by decide)
 | false =>
   have hi := inf_of hn hf
   rw [read_inf b h hi]
   simp only [Datum.sum, Option.map_some, write_inf]
   congr 1
   rw [← hi, wrd_of b h]
   unfold pl
   rw [if_neg]
   intro e
   subst e
   exact absurd hi (by decide)
theorem sub_self (b : Nat) (h : b < 18446744073709551616) (hf : fin b = true) : double.sub b b = some 0 := by
 unfold Format.sub
 obtain ⟨m, p, hr, hp, hv⟩ := read_fin b h hf
 rw [hr]
 simp only [Datum.opposite, Datum.sum, Option.map_some, write_num]
 have e : signed (sg b) m (p - min p p).toNat + signed (!sg b) m (p - min p p).toNat = 0 := by
   rw [signed_Z, signed_Z]
   cases sg b <;> simp <;> omega
 rw [e]
 have e2 : (if (0 : Int) = 0 then (sg b && !sg b) else decide ((0 : Int) < 0)) = false := by cases sg b <;> rfl
 rw [if_pos rfl]
 have e3 : (sg b && !sg b) = false := by cases sg b <;> rfl
 rw [e3, Int.natAbs_zero, nearest_zero]
 rfl
theorem sub_self_none (b : Nat) (h : b < 18446744073709551616) (hf : fin b = false) : double.sub b b = none := by
 unfold Format.sub
 cases hn : nan b with
 | true =>
   obtain ⟨t, hr⟩ := read_nan b h hn
   rw [hr]
   rfl
 | false =>
   rw [read_inf b h (inf_of hn hf)]
   simp only [Datum.opposite, Datum.sum]
   cases sg b <;> rfl
/-- 0 - x. -/
theorem zero_sub (b : Nat) (h : b < 18446744073709551616) (hn : nan b = false) : double.sub 0 b = some (if mg b = 0 then 0 else flip b) := by
 unfold Format.sub
 rw [read_zero]
 cases hf : fin b with
 | true =>
   obtain ⟨m, p, hr, hp, hv⟩ := read_fin b h hf
   rw [hr]
   simp only [Datum.opposite, Datum.sum, Option.map_some, write_num]
   have hb : min (-1074) p = -1074 := by omega
   rw [hb]
   have e1 := signed_unit (s := !sg b) (m := m) (p := p) (base := -1074) (r := mg b) (by omega) (by omega) hv
   have e0 : ((-1074 : Int) + 1074).toNat = 0 := rfl
   rw [e0, Nat.pow_zero] at e1
   have e1' : signed (!sg b) m (p - -1074).toNat = if (!sg b) then -(rv (mg b) : Int) else (rv (mg b) : Int) := by simpa using e1
   have e2 : signed false 0 ((-1074 : Int) - -1074).toNat = 0 := by decide
   rw [e1', e2, Int.zero_add, natAbs_unit]
   congr 1
   rw [nearest_exact _ _ (mg b) (-1074) (Nat.le_of_lt (mg_of_fin hf)) rfl]
   by_cases h0 : mg b = 0
   · rw [h0, rv_zero]
     cases sg b <;> rfl
   · have hpos := rv_pos (Nat.pos_of_ne_zero h0)
     have hne : (if (!sg b) then -(rv (mg b) : Int) else (rv (mg b) : Int)) ≠ 0 := by cases sg b <;> simp <;> omega
     rw [if_neg hne, if_neg h0]
     have hs : decide ((if (!sg b) then -(rv (mg b) : Int) else (rv (mg b) : Int)) < 0) = !sg b := by
       cases sg b
       · exact decide_eq_true (by simp <;> omega)
       · exact decide_eq_false (by simp <;> omega)
     rw [hs]
     rfl
 | false =>
   have hi := inf_of hn hf
   rw [read_inf b h hi]
   simp only [Datum.opposite, Datum.sum, Option.map_some, write_inf]
   congr 1
   rw [if_neg (by rw [hi]; decide)]
   unfold flip
   rw [hi]
theorem Z_eq_iff {a b : Nat} (ha : a < 18446744073709551616) (hb : b < 18446744073709551616) : Z a = Z b ↔ (a = b ∨ (mg a = 0 ∧ mg b = 0)) := by
 constructor
 · intro h
   by_cases h0 : mg a = 0
   · right
     refine ⟨h0, ?_⟩
     unfold Z at h
     rw [h0, rv_zero] at h
     have hr : rv (mg b) = 0 := by revert h; cases sg a <;> cases sg b <;> simp <;> omega
     exact rv_inj (hr.trans rv_zero.symm)
   · left
     have hpos := rv_pos (Nat.pos_of_ne_zero h0)
     have hs : sg a = sg b ∧ rv (mg a) = rv (mg b) := by
       unfold Z at h
       revert h
       cases sg a <;> cases sg b <;> simp <;> omega
     rw [← wrd_of a ha, ← wrd_of b hb, hs.1, rv_inj hs.2]
 · rintro (rfl | ⟨h1, h2⟩)
   · rfl
   · unfold Z; rw [h1, h2, rv_zero]; cases sg a <;> cases sg b <;> rfl
theorem cmp_lt (a b : Int) : (some (compare a b) == some Ordering.lt) = decide (a < b) := by
 rcases Int.lt_trichotomy a b with h | h | h
 · rw [Int.compare_eq_lt.2 h, decide_eq_true h]; rfl
 · rw [Int.compare_eq_eq.2 h, decide_eq_false (by omega)]; rfl
 · rw [Int.compare_eq_gt.2 h, decide_eq_false (by omega)]; rfl
theorem cmp_gt (a b : Int) : (some (compare a b) == some Ordering.gt) = decide (b < a) := by
 rcases Int.lt_trichotomy a b with h | h | h
 · rw [Int.compare_eq_lt.2 h, decide_eq_false (by omega)]; rfl
 · rw [Int.compare_eq_eq.2 h, decide_eq_false (by omega)]; rfl
 · rw [Int.compare_eq_gt.2 h, decide_eq_true h]; rfl
theorem cmp_eq (a b : Int) : (some (compare a b) == some Ordering.eq) = decide (a = b) := by
 rcases Int.lt_trichotomy a b with h | h | h
 · rw [Int.compare_eq_lt.2 h, decide_eq_false (by omega)]; rfl
 · rw [Int.compare_eq_eq.2 h, decide_eq_true h]; rfl
 · rw [Int.compare_eq_gt.2 h, decide_eq_false (by omega)]; rfl
section
variable {a b : Nat} (ha : a < 18446744073709551616) (hb : b < 18446744073709551616) (na : nan a = false) (nb : nan b = false)
include ha hb na nb
theorem lt_eq : (double.order a b == some .lt) = decide (Z a < Z b) := by rw [order_eq a b ha hb na nb, cmp_lt]
theorem gt_eq : (double.order a b == some .gt) = decide (Z b < Z a) := by rw [order_eq a b ha hb na nb, cmp_gt]
theorem eq_eq : (double.order a b == some .eq) = decide (Z a = Z b) := by rw [order_eq a b ha hb na nb, cmp_eq]
theorem le_eq : (double.order a b == some .lt || double.order a b == some .eq) = decide (Z a ≤ Z b) := by
 rw [lt_eq ha hb na nb, eq_eq ha hb na nb]
 by_cases h1 : Z a < Z b
 · rw [decide_eq_true h1, decide_eq_true (Int.le_of_lt h1)]; rfl
 · by_cases h2 : Z a = Z b
   · rw [decide_eq_true h2, decide_eq_true (Int.le_of_eq h2)]; simp
   · rw [decide_eq_false h1, decide_eq_false h2, decide_eq_false (by omega)]; rfl
theorem ge_eq : (double.order a b == some .gt || double.order a b == some .eq) = decide (Z b ≤ Z a) := by
 rw [gt_eq ha hb na nb, eq_eq ha hb na nb]
 by_cases h1 : Z b < Z a
 · rw [decide_eq_true h1, decide_eq_true (Int.le_of_lt h1)]; rfl
 · by_cases h2 : Z a = Z b
   · rw [decide_eq_true h2, decide_eq_true (Int.le_of_eq h2.symm)]; simp
   · rw [decide_eq_false h1, decide_eq_false h2, decide_eq_false (by omega)]; rfl
end
theorem order_none {a b : Nat} (ha : a < 18446744073709551616) (hb : b < 18446744073709551616) (h : nan a = true ∨ nan b = true) : double.order a b = none := by
 rcases h with h | h
 · exact order_nan_left a b ha h
 · exact order_nan_right a b hb h
/-- Greater than the greatest number: infinite. -/
theorem gt_max (b : Nat) : (double.order (mg b) 9218868437227405311 == some .gt) = decide (mg b = INF) := by
 have hm : mg b < 18446744073709551616 := by unfold mg SGN; omega
 have hmm : mg (mg b) = mg b := by unfold mg SGN; omega
 have hsm : sg (mg b) = false := by
   unfold sg
   exact decide_eq_false (by have := mg_lt b; omega)
 cases hn : nan (mg b) with
 | true =>
   rw [order_none hm (by decide) (.inl hn)]
   have h1 := of_decide_eq_true hn
   rw [hmm] at h1
   rw [decide_eq_false (by omega)]
   rfl
 | false =>
   rw [gt_eq hm (by decide) hn (by decide)]
   have h1 := of_decide_eq_false hn
   rw [hmm] at h1
   have e1 : Z (mg b) = rv (mg b) := by unfold Z; rw [hsm, hmm]; simp
   have e2 : Z 9218868437227405311 = rv 9218868437227405311 := by
     have s : sg 9218868437227405311 = false := by decide
     have m : mg 9218868437227405311 = 9218868437227405311 := by decide
     unfold Z; rw [s, m]; simp
   rw [e1, e2]
   have e3 : ((rv 9218868437227405311 : Nat) : Int) < ((rv (mg b) : Nat) : Int) ↔ mg b = INF := by
     rw [Int.ofNat_lt, rv_lt_iff]
     unfold INF at *
     omega
   by_cases h2 : mg b = INF
   · rw [decide_eq_true h2, decide_eq_true (e3.2 h2)]
   · rw [decide_eq_false h2, decide_eq_false (fun h => h2 (e3.1 h))]
end Go.Proofs.YtnljfcebmgifdaaGreat.Fl
namespace Go.Proofs.YtnljfcebmgifdaaGreat.Fl
open Ieee
/-- 1074, shut: so that no tactic reckons with powers of it. -/
@[irreducible] def BB : Nat := 1074
theorem BB_eq : BB = 1074 := by unfold BB; rfl
theorem mul_exact (a b r : Nat) (ha : a < 18446744073709551616) (hb : b < 18446744073709551616) (fa : fin a = true) (fb : fin b = true) (hr : r ≤ INF)
   (h : rv (mg a) * rv (mg b) = rv r * 2 ^ BB) : double.mul a b = some (wrd (sg a ^^ sg b) r) := by
 obtain ⟨m, p, e1, hp, h1⟩ := read_fin a ha fa
 obtain ⟨n, q, e2, hq, h2⟩ := read_fin b hb fb
 unfold Format.mul
 rw [e1, e2]
 show some (double.nearest _ (m * n) (p + q)) = _
 congr 1
 apply nearest_exact _ _ _ _ hr
 rw [← h1, ← h2] at h
 obtain ⟨P, hP⟩ : ∃ P : Nat, p = P - 1074 := ⟨(p + 1074).toNat, by omega⟩
 obtain ⟨Q, hQ⟩ : ∃ Q : Nat, q = Q - 1074 := ⟨(q + 1074).toNat, by omega⟩
 subst hP hQ
 have hB := BB_eq
 rw [show ((P : Int) - 1074 + 1074).toNat = P by omega, show ((Q : Int) - 1074 + 1074).toNat = Q by omega] at h
 have h' : m * n * 2 ^ (P + Q) = rv r * 2 ^ BB := by
   rw [← h, Nat.pow_add]; exact Nat.mul_mul_mul_comm m n (2 ^ P) (2 ^ Q)
 by_cases hc : BB ≤ P + Q
 · rw [show (-((P : Int) - 1074 + (Q - 1074) + 1074)).toNat = 0 by omega, Nat.pow_zero, Nat.mul_one, show ((P : Int) - 1074 + (Q - 1074) + 1074).toNat = P + Q - BB by omega]
   have e3 : P + Q = (P + Q - BB) + BB := by omega
   rw [e3, Nat.pow_add, ← Nat.mul_assoc] at h'
   exact (Nat.eq_of_mul_eq_mul_right (Nat.two_pow_pos BB) h').symm
 · rw [show ((P : Int) - 1074 + (Q - 1074) + 1074).toNat = 0 by omega, Nat.pow_zero, Nat.mul_one, show (-((P : Int) - 1074 + (Q - 1074) + 1074)).toNat = BB - (P + Q) by omega]
   have e3 : (2 : Nat) ^ BB = 2 ^ (BB - (P + Q)) * 2 ^ (P + Q) := by rw [← Nat.pow_add, show BB - (P + Q) + (P + Q) = BB by omega]
   rw [e3, ← Nat.mul_assoc (rv r)] at h'
   exact (Nat.eq_of_mul_eq_mul_right (Nat.two_pow_pos _) h').symm
theorem kept_congr {W : Nat} {e f : Int} (h : drop W e = drop W f) : kept W e = kept W f := by unfold kept; rw [h]
/-- A whole number's rung: the exponent's field and the fraction. -/
theorem flt_form (m : Nat) (h0 : m ≠ 0) (hm : m ≤ 9007199254740992) : ∃ L f, len m = L ∧ 1 ≤ L ∧ L ≤ 54 ∧ f < 4503599627370496 ∧ kept m 1074 = 4503599627370496 + f ∧ rung m 1074 = (1022 + L) * 4503599627370496 + f ∧ rv (rung m 1074) = m * 2 ^ BB ∧ lost m 1074 = false := by
 have hL := len_pos h0
 have hL2 : len m ≤ 54 := len_le_of_lt (by omega)
 have hp : place m 1074 = 1021 + len m := by unfold place drop; omega
 have hk := place_kept m 1074 h0
 have hk2 := kept_lt m 1074
 rw [hp] at hk
 have hl : lost m 1074 = false := by
   unfold lost drop
   by_cases h54 : len m = 54
   · have : m = 9007199254740992 := by
       have := pow_le_of_len h0
       rw [h54] at this
       omega
     rw [h54, this]; decide
   · rw [show (max ((len m : Int) - 53) (-1074)).toNat = 0 by omega, Nat.pow_zero, Nat.mod_one]; rfl
 refine ⟨len m, kept m 1074 - 4503599627370496, rfl, hL, hL2, by omega, by omega, ?_, ?_, hl⟩
 · unfold rung; rw [hp]; omega
 · have := rung_same m 1074 h0 hl
   have hB := BB_eq
   rw [show (-(1074 : Int)).toNat = 0 from rfl, Nat.pow_zero, Nat.mul_one, show (1074 : Int).toNat = BB by omega] at this
   exact this
theorem flt_le (m : Nat) (h0 : m ≠ 0) (hm : m ≤ 9007199254740992) : rung m 1074 < INF := by
 obtain ⟨L, f, h1, h2, h3, h4, h5, h6, h7⟩ := flt_form m h0 hm
 rw [h6]; unfold INF; omega
theorem nearest_small (m : Nat) (h0 : m ≠ 0) (hm : m ≤ 9007199254740992) : double.nearest false m 0 = rung m 1074 := by
 obtain ⟨L, f, h1, h2, h3, h4, h5, h6, h7, h8⟩ := flt_form m h0 hm
 have := nearest_exact false m (rung m 1074) 0 (Nat.le_of_lt (flt_le m h0 hm)) (by
   have hB := BB_eq
   rw [h7, show (-((0 : Int) + 1074)).toNat = 0 by omega, show ((0 : Int) + 1074).toNat = BB by omega, Nat.pow_zero, Nat.mul_one])
 rw [this]; rfl
/-- m times 2 to the e, where it isn't too great. -/
def ld (m : Nat) (e : Int) : Nat := min (rung m (e + 1074)) INF
theorem ld_great {m : Nat} {e : Int} (h0 : m ≠ 0) (hE : 1023 < e + len m - 1) : ld m e = INF := by
 unfold ld
 have hk := place_kept m (e + 1074) h0
 have hp : 2046 ≤ place m (e + 1074) := by unfold place drop; omega
 unfold rung INF
 omega
theorem ld_norm1 {m : Nat} {e : Int} {L : Nat} (hL : len m = L) (h1 : -1022 ≤ e + L - 1) : drop m (e + 1074) = drop m 1074 := by
 unfold drop; rw [hL]; omega
theorem ld_norm2 {m : Nat} {e : Int} {L : Nat} (hL : len m = L) (hd : drop m (e + 1074) = drop m 1074) : place m (e + 1074) = (1021 + L + e).toNat := by
   unfold place
   rw [hd]; unfold drop; rw [hL]; omega
theorem ld_norm {m : Nat} {e : Int} {L f : Nat} (hL : len m = L) (hk : kept m 1074 = 4503599627370496 + f) (hf : f < 4503599627370496) (h1 : -1022 ≤ e + L - 1) (h2 : e + L - 1 ≤ 1023) :
   ld m e = (1022 + L + e).toNat * 4503599627370496 + f := by
 have hd := ld_norm1 hL h1
 have hp := ld_norm2 hL hd
 have hk' : kept m (e + 1074) = 4503599627370496 + f := (kept_congr hd).trans hk
 obtain ⟨P, hP⟩ : ∃ P, (1021 + (L : Int) + e).toNat = P := ⟨_, rfl⟩
 have hQ : (1022 + (L : Int) + e).toNat = P + 1 := by omega
 have hP2 : P ≤ 2045 := by omega
 unfold ld rung INF
 rw [hp, hk', hP, hQ]
 have e1 : (P + 1) * 4503599627370496 + f = P * 4503599627370496 + (4503599627370496 + f) := by
   rw [Nat.add_mul, Nat.one_mul, Nat.add_assoc]
 rw [e1]
 exact Nat.min_eq_left (by omega)
theorem ld_low {m : Nat} {e : Int} {L f : Nat} (h0 : m ≠ 0) (hL : len m = L) (hf : f < 4503599627370496) (hv : rv (rung m 1074) = m * 2 ^ BB)
   (hr : rung m 1074 = (1022 + L) * 4503599627370496 + f) (he : -1074 ≤ e) (h2 : e + L - 1 < -1022) :
   rv 4368491638549381120 * rv ((1022 + L + e + 53).toNat * 4503599627370496 + f) = rv (ld m e) * 2 ^ BB ∧ ld m e ≤ INF ∧ (1022 + L + e + 53).toNat * 4503599627370496 + f < INF := by
 obtain ⟨k, rfl⟩ : ∃ k : Nat, e = k - 1074 := ⟨(e + 1074).toNat, by omega⟩
 have hl : lost m (((k : Int) - 1074) + 1074) = false := by
   unfold lost drop
   rw [hL, show (max ((L : Int) - 53) (-((k : Int) - 1074 + 1074))).toNat = 0 by omega, Nat.pow_zero, Nat.mod_one]; rfl
 have hs := rung_same m (((k : Int) - 1074) + 1074) h0 hl
 rw [show (-((k : Int) - 1074 + 1074)).toNat = 0 by omega, Nat.pow_zero, Nat.mul_one, show ((k : Int) - 1074 + 1074).toNat = k by omega] at hs
 have hlt : (1022 + (L : Int) + ((k : Int) - 1074) + 53).toNat * 4503599627370496 + f < INF := by unfold INF; omega
 have hle : rung m (((k : Int) - 1074) + 1074) ≤ INF := by
   apply Nat.le_of_lt
   apply rv_lt_iff.1
   rw [hs]
   have h3 := lt_len m
   rw [hL] at h3
   have h4 : m * 2 ^ k < 2 ^ (L + k) := by rw [Nat.pow_add]; exact Nat.mul_lt_mul_of_pos_right h3 (Nat.two_pow_pos k)
   have h5 := Nat.pow_le_pow_right (show 0 < 2 by decide) (show L + k ≤ 53 by omega)
   have : rv (1 * 4503599627370496 + 4503599627370496) ≤ rv INF := rv_le (by unfold INF; omega)
   rw [rv_of 1 _ (by decide) (.inr (Nat.le_refl _))] at this
   have h6 : (2 : Nat) ^ 53 = 4503599627370496 * 2 ^ 1 := by decide
   omega
 refine ⟨?_, Nat.min_le_right _ _, hlt⟩
 unfold ld
 rw [Nat.min_eq_left hle, hs]
 obtain ⟨X, hX⟩ : ∃ X : Nat, X = 1021 := ⟨_, rfl⟩
 have e1 : rv 4368491638549381120 = 2 ^ X := by
   have := rv_of (X - 52) 4503599627370496 (by decide) (.inr (Nat.le_refl _))
   rw [show (X - 52) * 4503599627370496 + 4503599627370496 = 4368491638549381120 by omega] at this
   rw [this, show (4503599627370496 : Nat) = 2 ^ 52 by decide, ← Nat.pow_add, show 52 + (X - 52) = X by omega]
 have e2 : rv ((1022 + (L : Int) + ((k : Int) - 1074) + 53).toNat * 4503599627370496 + f) = (4503599627370496 + f) * 2 ^ (L + k) := by
   have h3 := rv_of (L + k) (4503599627370496 + f) (by omega) (by omega)
   rw [show (L + k) * 4503599627370496 + (4503599627370496 + f) = (1022 + (L : Int) + ((k : Int) - 1074) + 53).toNat * 4503599627370496 + f by omega] at h3
   exact h3
 have e3 : rv (rung m 1074) = (4503599627370496 + f) * 2 ^ (X + L) := by
   have h3 := rv_of (X + L) (4503599627370496 + f) (by omega) (by omega)
   rw [show (X + L) * 4503599627370496 + (4503599627370496 + f) = rung m 1074 by omega] at h3
   exact h3
 rw [hv] at e3
 rw [e1, e2]
 have e4 : m * 2 ^ k * 2 ^ BB = m * 2 ^ BB * 2 ^ k := Nat.mul_right_comm _ _ _
 rw [e4, e3, Nat.mul_assoc, ← Nat.pow_add, Nat.mul_comm (2 ^ X), Nat.mul_assoc, ← Nat.pow_add]
 rw [show L + k + X = X + L + k by omega]
end Go.Proofs.YtnljfcebmgifdaaGreat.Fl
