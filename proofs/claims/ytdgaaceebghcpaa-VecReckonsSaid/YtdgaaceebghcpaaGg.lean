/- Plain: whole numbers at or below a float. · Floor: both sides. · Floor: the walks of both sides; the row of roots. · Plain: the whole number at or below all of a span. -/
import Derived.Test.YtdgaaceebghcpaaFl1
import Derived.Test.YtdgaaceebghcpaaGc
import Derived.Laws.FloatArith
import GoSem.Extern.MathFloor
import Derived.Laws.Externs
import Derived.Test.YtdgaaceebghcpaaGd
set_option linter.unusedVariables false
set_option linter.unusedSimpArgs false
namespace Go.Proofs.Ytdgaaceebghcpaa
open Ieee
namespace Fl

theorem sub_exact (a b r : Nat) (neg : Bool) (ha : a < 18446744073709551616) (hb : b < 18446744073709551616) (fa : fin a = true) (fb : fin b = true) (hr : r ≤ INF) (h0 : r ≠ 0)
    (h : Z a - Z b = if neg then -(rv r : Int) else (rv r : Int)) : double.sub a b = some (wrd neg r) := by
  obtain ⟨m, p, e1, hp, h1⟩ := read_fin a ha fa
  obtain ⟨n, q, e2, hq, h2⟩ := read_fin b hb fb
  unfold Format.sub
  rw [e1, e2]
  show some (double.nearest (if signed (sg a) m (p - min p q).toNat + signed (!sg b) n (q - min p q).toNat = 0 then _ else decide (signed (sg a) m (p - min p q).toNat + signed (!sg b) n (q - min p q).toNat < 0)) (signed (sg a) m (p - min p q).toNat + signed (!sg b) n (q - min p q).toNat).natAbs (min p q)) = _
  congr 1
  obtain ⟨base, hbase⟩ : ∃ base, min p q = base := ⟨_, rfl⟩
  rw [hbase]
  have g1 := signed_unit (s := sg a) (m := m) (p := p) (base := base) (r := mg a) (by omega) (by omega) h1
  have g2 := signed_unit (s := !sg b) (m := n) (p := q) (base := base) (r := mg b) (by omega) (by omega) h2
  have g3 : (if (!sg b) then -(rv (mg b) : Int) else (rv (mg b) : Int)) = -Z b := by
    unfold Z
    cases sg b <;> simp
  rw [g3] at g2
  have g4 : (if sg a then -(rv (mg a) : Int) else (rv (mg a) : Int)) = Z a := rfl
  rw [g4] at g1
  generalize signed (sg a) m (p - base).toNat = x at *
  generalize signed (!sg b) n (q - base).toNat = y at *
  have hpos := rv_pos (r := r) (by omega)
  have hT : (x + y) * ((2 ^ (base + 1074).toNat : Nat) : Int) = if neg then -(rv r : Int) else (rv r : Int) := by
    rw [Int.add_mul, g1, g2, ← h]; rfl
  have hk := Nat.two_pow_pos (base + 1074).toNat
  have hne : x + y ≠ 0 := by
    intro e
    rw [e, Int.zero_mul] at hT
    cases neg
    · simp at hT; omega
    · simp at hT; omega
  rw [if_neg hne]
  have hsgn : decide (x + y < 0) = neg := by
    cases neg
    · refine decide_eq_false ?_
      intro hlt
      have := Int.mul_neg_of_neg_of_pos hlt (show (0 : Int) < ((2 ^ (base + 1074).toNat : Nat) : Int) by omega)
      rw [hT] at this
      simp at this
      omega
    · refine decide_eq_true ?_
      apply Int.lt_of_not_ge
      intro hge
      have := Int.mul_nonneg hge (show (0 : Int) ≤ ((2 ^ (base + 1074).toNat : Nat) : Int) by omega)
      rw [hT] at this
      simp at this
      omega
  rw [hsgn]
  refine nearest_exact _ _ _ _ hr ?_
  rw [show (-(base + 1074)).toNat = 0 by omega, Nat.pow_zero, Nat.mul_one]
  have := congrArg Int.natAbs hT
  rw [Int.natAbs_mul] at this
  have e3 : (((2 ^ (base + 1074).toNat : Nat) : Int)).natAbs = 2 ^ (base + 1074).toNat := Int.natAbs_natCast _
  rw [e3] at this
  have e4 : (if neg then -(rv r : Int) else (rv r : Int)).natAbs = rv r := natAbs_unit neg (rv r)
  rw [e4] at this
  exact this.symm

theorem cut_zero (neg : Bool) (n d : Nat) : Toward.zero.cut neg n d = n / 2 ^ d := by
  unfold Toward.cut
  simp only [shl_eq, Nat.one_mul, Bool.toNat_false, Nat.add_zero]
  by_cases h : d ≤ n.log2 + 2
  · rw [Nat.min_eq_left h]
  · rw [Nat.min_eq_right (by omega)]
    have h1 : n < 2 ^ (n.log2 + 2) := Nat.lt_of_lt_of_le Nat.lt_log2_self (Nat.pow_le_pow_right (by decide) (by omega))
    have h2 : n < 2 ^ d := Nat.lt_of_lt_of_le h1 (Nat.pow_le_pow_right (by decide) (by omega))
    rw [Nat.div_eq_of_lt h1, Nat.div_eq_of_lt h2]
theorem cut_down (neg : Bool) (n d : Nat) : Toward.down.cut neg n d = n / 2 ^ d + (neg && n % 2 ^ d != 0).toNat := by
  unfold Toward.cut
  simp only [shl_eq, Nat.one_mul]
  by_cases h : d ≤ n.log2 + 2
  · rw [Nat.min_eq_left h]
  · rw [Nat.min_eq_right (by omega)]
    have h1 : n < 2 ^ (n.log2 + 2) := Nat.lt_of_lt_of_le Nat.lt_log2_self (Nat.pow_le_pow_right (by decide) (by omega))
    have h2 : n < 2 ^ d := Nat.lt_of_lt_of_le h1 (Nat.pow_le_pow_right (by decide) (by omega))
    rw [Nat.div_eq_of_lt h1, Nat.div_eq_of_lt h2, Nat.mod_eq_of_lt h1, Nat.mod_eq_of_lt h2]

/-- The whole part of a size; is something behind it? -/
def whole (b : Nat) : Nat := rv (mg b) / 2 ^ BB
def rest (b : Nat) : Bool := rv (mg b) % 2 ^ BB != 0
theorem whole_eq {m p : Nat → Int} : True := trivial
theorem cut_unit {m : Nat} {p : Int} {r : Nat} (hp : -1074 ≤ p) (h : m * 2 ^ (p + 1074).toNat = r) :
    m <<< p.toNat / 2 ^ (-p).toNat = r / 2 ^ BB ∧ (m <<< p.toNat % 2 ^ (-p).toNat != 0) = (r % 2 ^ BB != 0) := by
  have hB := BB_eq
  rw [shl_eq]
  by_cases hc : 0 ≤ p
  · rw [show (-p).toNat = 0 by omega, Nat.pow_zero, Nat.div_one, Nat.mod_one]
    have e : (2 : Nat) ^ (p + 1074).toNat = 2 ^ p.toNat * 2 ^ BB := by rw [← Nat.pow_add]; congr 1; omega
    rw [e, ← Nat.mul_assoc] at h
    rw [← h, Nat.mul_div_cancel _ (Nat.two_pow_pos BB), Nat.mul_mod_left]
    exact ⟨rfl, rfl⟩
  · rw [show p.toNat = 0 by omega, Nat.pow_zero, Nat.mul_one]
    have e : (2 : Nat) ^ BB = 2 ^ (-p).toNat * 2 ^ (p + 1074).toNat := by rw [← Nat.pow_add]; congr 1; omega
    rw [e, ← h, Nat.mul_div_mul_right _ _ (Nat.two_pow_pos _), Nat.mul_mod_mul_right]
    refine ⟨rfl, ?_⟩
    rw [Bool.eq_iff_iff]
    simp only [bne_iff_ne, ne_eq]
    have hp := Nat.two_pow_pos (p + 1074).toNat
    constructor
    · intro h1 h2
      rcases Nat.mul_eq_zero.1 h2 with h3 | h3
      · exact h1 h3
      · omega
    · intro h1 h2
      rw [h2, Nat.zero_mul] at h1
      exact h1 rfl
end Fl
end Go.Proofs.Ytdgaaceebghcpaa

namespace Go.Proofs.Ytdgaaceebghcpaa
open Go.RowKit Ieee

namespace Fl
theorem nst (neg : Bool) (m : Nat) (h0 : m ≠ 0) (hm : m ≤ 9007199254740992) : double.nearest neg m 0 = wrd neg (rung m 1074) ∧ rung m 1074 < INF ∧ rv (rung m 1074) = m * 2 ^ BB ∧ rung m 1074 ≠ 0 := by
  obtain ⟨L, f, h1, h2, h3, h4, h5, h6, h7, h8⟩ := flt_form m h0 hm
  have hl := flt_le m h0 hm
  have hB := BB_eq
  refine ⟨nearest_exact neg m _ 0 (Nat.le_of_lt hl) ?_, hl, h7, ?_⟩
  · rw [show (-((0 : Int) + 1074)).toNat = 0 by omega, show ((0 : Int) + 1074).toNat = BB by omega, Nat.pow_zero, Nat.mul_one, h7]
  · rw [h6]; omega
/-- The word that 'down to a whole number' gives. -/
def flW (b : Nat) : Nat := double.nearest (sg b) (whole b + (sg b && rest b).toNat) 0
theorem flW_read (b : Nat) (h : b < 18446744073709551616) (hf : fin b = true) : double.write ((double.read b).integral .down) = flW b ∧ ∃ m p, double.read b = .number (sg b) m p := by
  obtain ⟨m, p, hr, hp, hv⟩ := read_fin b h hf
  obtain ⟨c1, c2⟩ := cut_unit hp hv
  refine ⟨?_, m, p, hr⟩
  rw [hr]
  show double.nearest (sg b) (Toward.down.cut (sg b) (m <<< p.toNat) (-p).toNat) 0 = _
  rw [cut_down, c1, c2]
  rfl
theorem toInt_read (b : Nat) (h : b < 18446744073709551616) (hf : fin b = true) : (double.read b).toInt .zero = some (if sg b then -(whole b : Int) else (whole b : Int)) := by
  obtain ⟨m, p, hr, hp, hv⟩ := read_fin b h hf
  obtain ⟨c1, c2⟩ := cut_unit hp hv
  rw [hr]
  show some (signed (sg b) (Toward.zero.cut (sg b) (m <<< p.toNat) (-p).toNat) 0) = _
  rw [cut_zero, c1, signed_Z, Nat.pow_zero, Nat.mul_one]
  rfl
theorem rest_split (b : Nat) : rv (mg b) = whole b * 2 ^ BB + rv (mg b) % 2 ^ BB := by
  unfold whole
  have := Nat.div_add_mod (rv (mg b)) (2 ^ BB)
  rw [Nat.mul_comm] at this
  exact this.symm
theorem rest_false {b : Nat} (h : rest b = false) : rv (mg b) = whole b * 2 ^ BB := by
  have h1 := rest_split b
  have h2 : rv (mg b) % 2 ^ BB = 0 := by
    unfold rest at h
    simpa using h
  rw [h2, Nat.add_zero] at h1
  exact h1
theorem rest_true {b : Nat} (h : rest b = true) : whole b * 2 ^ BB < rv (mg b) ∧ rv (mg b) < (whole b + 1) * 2 ^ BB ∧ whole b < 9007199254740992 := by
  have h1 := rest_split b
  have h2 : rv (mg b) % 2 ^ BB ≠ 0 := by
    unfold rest at h
    simpa using h
  have h3 := Nat.mod_lt (rv (mg b)) (Nat.two_pow_pos BB)
  refine ⟨by omega, by rw [Nat.add_mul, Nat.one_mul]; omega, ?_⟩
  apply Nat.lt_of_not_le
  intro hw
  -- else the power is above 0 and nothing is behind
  have hs := sM_rv b
  have hlt := sM_lt b
  have hB := BB_eq
  have hE : 0 ≤ sE b := by
    apply Int.not_lt.1
    intro hneg
    have h4 : (2 : Nat) ^ (sE b + 1074).toNat ≤ 2 ^ BB := Nat.pow_le_pow_right (by decide) (by omega)
    have h5 : sM b * 2 ^ (sE b + 1074).toNat < 9007199254740992 * 2 ^ BB := Nat.lt_of_lt_of_le (Nat.mul_lt_mul_of_pos_right hlt (Nat.two_pow_pos _)) (Nat.mul_le_mul_left _ h4)
    have h6 : 9007199254740992 * 2 ^ BB ≤ whole b * 2 ^ BB := Nat.mul_le_mul_right _ hw
    omega
  have e : (2 : Nat) ^ (sE b + 1074).toNat = 2 ^ (sE b).toNat * 2 ^ BB := by rw [← Nat.pow_add]; congr 1; omega
  rw [e, ← Nat.mul_assoc] at hs
  rw [← hs] at h2
  exact h2 (Nat.mul_mod_left _ _)
theorem flW_exact {b : Nat} (h : b < 18446744073709551616) (hf : fin b = true) (hr : rest b = false) : flW b = b := by
  unfold flW
  rw [hr, Bool.and_false]
  have hm := mg_of_fin hf
  have hB := BB_eq
  have := nearest_exact (sg b) (whole b) (mg b) 0 (Nat.le_of_lt hm) (by
    rw [show (-((0 : Int) + 1074)).toNat = 0 by omega, show ((0 : Int) + 1074).toNat = BB by omega, Nat.pow_zero, Nat.mul_one, rest_false hr])
  exact this.trans (wrd_of b h)
theorem whole_lt {b : Nat} (h : rv (mg b) < 9007199254740992 * 2 ^ BB) : whole b < 9007199254740992 := by
  unfold whole
  rw [Nat.div_lt_iff_lt_mul (Nat.two_pow_pos BB)]
  exact h
end Fl

abbrev C53 : Nat := 4845873199050653696
abbrev N53 : Nat := 14069245235905429504
theorem C53_Z : Fl.Z C53 = ((9007199254740992 * 2 ^ Fl.BB : Nat) : Int) := by
  obtain ⟨h1, h2, h3, h4⟩ := Fl.nst false 9007199254740992 (by omega) (by omega)
  have e : C53 = Fl.wrd false (Fl.rung 9007199254740992 1074) := by decide +kernel
  rw [e, Z_wrd false (Nat.le_of_lt h2), h3]; rfl
theorem N53_Z : Fl.Z N53 = -((9007199254740992 * 2 ^ Fl.BB : Nat) : Int) := by
  obtain ⟨h1, h2, h3, h4⟩ := Fl.nst true 9007199254740992 (by omega) (by omega)
  have e : N53 = Fl.wrd true (Fl.rung 9007199254740992 1074) := by decide +kernel
  rw [e, Z_wrd true (Nat.le_of_lt h2), h3]; rfl
theorem one_Z : Fl.Z 4607182418800017408 = ((2 ^ Fl.BB : Nat) : Int) := by
  have e : Fl.wrd false 4607182418800017408 = 4607182418800017408 := rfl
  have := Z_wrd false (r := 4607182418800017408) (by decide)
  rw [e, rv_one] at this
  exact this

/-- What the document reckons ahead of the last step. -/
def trV (b : Nat) : Nat := floatOfInt .f64 (if Fl.sg b then -(Fl.whole b : Int) else (Fl.whole b : Int))

theorem ofInt_word (neg : Bool) (m : Nat) (h0 : m ≠ 0) : floatOfInt .f64 (if neg then -(m : Int) else (m : Int)) = double.nearest neg m 0 := by
  show double.nearest (decide ((if neg then -(m : Int) else (m : Int)) < 0)) ((if neg then -(m : Int) else (m : Int)).natAbs) 0 = _
  have e1 : decide ((if neg then -(m : Int) else (m : Int)) < 0) = neg := by
    cases neg
    · exact decide_eq_false (by simp)
    · exact decide_eq_true (by simp; omega)
  rw [e1, Fl.natAbs_unit]

theorem tr_Z (b : Nat) (hw : Fl.whole b ≤ 9007199254740992) : Fl.Z (trV b) = (if Fl.sg b then -((Fl.whole b * 2 ^ Fl.BB : Nat) : Int) else ((Fl.whole b * 2 ^ Fl.BB : Nat) : Int)) ∧ trV b < 18446744073709551616 ∧ Fl.fin (trV b) = true := by
  unfold trV
  by_cases h0 : Fl.whole b = 0
  · rw [h0]
    have e : floatOfInt .f64 (if Fl.sg b = true then -((0 : Nat) : Int) else ((0 : Nat) : Int)) = 0 := by
      have : (if Fl.sg b = true then -((0 : Nat) : Int) else ((0 : Nat) : Int)) = 0 := by cases Fl.sg b <;> rfl
      rw [this]; exact ofInt_zero
    rw [e, Nat.zero_mul, Z0]
    refine ⟨?_, by decide, by decide⟩
    cases Fl.sg b <;> rfl
  · obtain ⟨h1, h2, h3, h4⟩ := Fl.nst (Fl.sg b) (Fl.whole b) h0 hw
    rw [ofInt_word _ _ h0, h1, Z_wrd _ (Nat.le_of_lt h2), h3]
    refine ⟨rfl, (wrd_ok _ _ (Nat.le_of_lt h2)).1, ?_⟩
    have hs : Fl.rung (Fl.whole b) 1074 < Fl.SGN := Nat.lt_trans h2 Fl.inf_sgn
    exact Fl.fin_of (by rw [Fl.wrd_mg _ hs]; exact h2)
end Go.Proofs.Ytdgaaceebghcpaa

namespace Go.Proofs.Ytdgaaceebghcpaa
open Go.RowKit Ieee

/-- What Floor tells of a finite number. -/
def floorV (b : Nat) : Nat := Fl.pl (Fl.flW b)
theorem flW_ok (b : Nat) (h : b < 18446744073709551616) (hf : Fl.fin b = true) : Fl.flW b < 18446744073709551616 ∧ Fl.nan (Fl.flW b) = false := by
  by_cases hr : Fl.rest b = true
  · obtain ⟨r1, r2, r3⟩ := Fl.rest_true hr
    unfold Fl.flW
    by_cases h0 : Fl.whole b + (Fl.sg b && Fl.rest b).toNat = 0
    · rw [h0, Fl.nearest_zero]
      cases Fl.sg b <;> decide
    · have hle : Fl.whole b + (Fl.sg b && Fl.rest b).toNat ≤ 9007199254740992 := by
        have : (Fl.sg b && Fl.rest b).toNat ≤ 1 := Bool.toNat_le _
        omega
      obtain ⟨h1, h2, h3, h4⟩ := Fl.nst (Fl.sg b) _ h0 hle
      rw [h1]
      exact wrd_ok _ _ (Nat.le_of_lt h2)
  · rw [Fl.flW_exact h hf (by revert hr; cases Fl.rest b <;> simp)]
    exact ⟨h, Fl.nan_of_fin hf⟩

theorem C53_ge (b : Nat) (h : b < 18446744073709551616) (hf : Fl.fin b = true) : (FloatKind.f64.format.order b C53 == some .gt || FloatKind.f64.format.order b C53 == some .eq) = decide (((9007199254740992 * 2 ^ Fl.BB : Nat) : Int) ≤ Fl.Z b) := by
  refine (Fl.ge_eq (a := b) (b := C53) h (by decide) (Fl.nan_of_fin hf) (by decide)).trans ?_
  rw [C53_Z]
theorem N53_le (b : Nat) (h : b < 18446744073709551616) (hf : Fl.fin b = true) : (FloatKind.f64.format.order b N53 == some .lt || FloatKind.f64.format.order b N53 == some .eq) = decide (Fl.Z b ≤ -((9007199254740992 * 2 ^ Fl.BB : Nat) : Int)) := by
  refine (Fl.le_eq (a := b) (b := N53) h (by decide) (Fl.nan_of_fin hf) (by decide)).trans ?_
  rw [N53_Z]
theorem Z_parts (b : Nat) : (Fl.sg b = false ∧ Fl.Z b = (Fl.rv (Fl.mg b) : Int)) ∨ (Fl.sg b = true ∧ Fl.Z b = -(Fl.rv (Fl.mg b) : Int)) := by
  unfold Fl.Z
  cases Fl.sg b
  · exact .inl ⟨rfl, rfl⟩
  · exact .inr ⟨rfl, rfl⟩
theorem sg_wrd {b : Nat} (h : b < 18446744073709551616) (s : Bool) (hs : Fl.sg b = s) : Fl.wrd s (Fl.mg b) = b := by rw [← hs]; exact Fl.wrd_of b h

def floorR (b : Nat) : Nat × Nat := if Fl.fin b = true then (floorV b, 0) else (0, 10)
end Go.Proofs.Ytdgaaceebghcpaa

namespace Go.Proofs.Ytdgaaceebghcpaa
open Fl Ieee

theorem ediv_is {z q U : Int} (hU : 0 < U) (h1 : q * U ≤ z) (h2 : z < (q + 1) * U) : z / U = q := by
  have a := Int.ediv_lt_of_lt_mul hU h2
  have b := Int.le_ediv_of_mul_le hU h1
  omega
def UI : Int := ((2 ^ BB : Nat) : Int)
theorem UI_pos : 0 < UI := Int.natCast_pos.2 (Nat.two_pow_pos _)
/-- The whole number at or below a word's number. -/
def flq (b : Nat) : Int := Z b / UI
theorem Z_sg {b : Nat} : Z b = if sg b then -(rv (mg b) : Int) else (rv (mg b) : Int) := rfl
theorem floor_Z {b : Nat} (h : b < 18446744073709551616) (hf : fin b = true) : Z (floorV b) = flq b * UI := by
  have hU := UI_pos
  unfold floorV flq
  rw [Z_pl]
  cases hr : rest b
  · rw [flW_exact h hf hr]
    have e := rest_false hr
    have hz : Z b = (if sg b then -(whole b : Int) else (whole b : Int)) * UI := by
      have e' : (rv (mg b) : Int) = (whole b : Int) * UI := by rw [e, Int.natCast_mul]; rfl
      rw [Z_sg, e']
      cases sg b
      · rw [if_neg Bool.false_ne_true, if_neg Bool.false_ne_true]
      · rw [if_pos rfl, if_pos rfl, Int.neg_mul]
    rw [hz, Int.mul_ediv_cancel _ (by omega)]
  · obtain ⟨r1, r2, r3⟩ := rest_true hr
    unfold flW
    rw [hr, Bool.and_true]
    obtain ⟨m, hm⟩ : ∃ m, whole b + (sg b).toNat = m := ⟨_, rfl⟩
    rw [hm]
    have r1' : (whole b : Int) * UI < (rv (mg b) : Int) := by
      have h1 := Int.ofNat_lt.2 r1
      rw [Int.natCast_mul] at h1
      exact h1
    have r2' : (rv (mg b) : Int) < ((whole b : Int) + 1) * UI := by
      have h1 := Int.ofNat_lt.2 r2
      rw [Int.natCast_mul] at h1
      exact h1
    cases hs : sg b
    · rw [hs] at hm
      have hm : whole b = m := by simpa using hm
      have hq : Z b / UI = (m : Int) := by
        refine ediv_is hU ?_ ?_
        · rw [Z_sg, hs, ← hm, if_neg Bool.false_ne_true]; exact Int.le_of_lt r1'
        · rw [Z_sg, hs, ← hm, if_neg Bool.false_ne_true]; exact r2'
      rw [hq]
      by_cases h0 : m = 0
      · rw [h0, nearest_zero]
        show Z (wrd false 0) = ((0 : Nat) : Int) * UI
        rw [show Z (wrd false 0) = 0 by decide]; simp
      · obtain ⟨n1, n2, n3, n4⟩ := nst false m h0 (by rw [← hm]; exact Nat.le_of_lt r3)
        rw [n1, Z_wrd false (Nat.le_of_lt n2), n3, if_neg Bool.false_ne_true, Int.natCast_mul]
        rfl
    · rw [hs] at hm
      have hm : whole b + 1 = m := hm
      have hq : Z b / UI = -(m : Int) := by
        have hmi : (m : Int) = (whole b : Int) + 1 := by rw [← hm, Int.natCast_add]; rfl
        have e : (-(m : Int)) * UI = -(((whole b : Int) + 1) * UI) := by rw [Int.neg_mul, hmi]
        have e2 : (-(m : Int) + 1) * UI = -((whole b : Int) * UI) := by
          rw [show -(m : Int) + 1 = -(whole b : Int) by rw [hmi]; omega, Int.neg_mul]
        refine ediv_is hU ?_ ?_
        · rw [Z_sg, hs, e, if_pos rfl]; exact Int.neg_le_neg (Int.le_of_lt r2')
        · rw [Z_sg, hs, e2, if_pos rfl]; exact Int.neg_lt_neg r1'
      rw [hq]
      obtain ⟨n1, n2, n3, n4⟩ := nst true m (by rw [← hm]; exact Nat.succ_ne_zero _) (by rw [← hm]; exact r3)
      rw [n1, Z_wrd true (Nat.le_of_lt n2), n3, if_pos rfl, Int.natCast_mul, Int.neg_mul]
      rfl
theorem floorV_gd {b : Nat} (h : b < 18446744073709551616) (hf : fin b = true) : Gd (floorV b) := by
  obtain ⟨k1, k2⟩ := flW_ok b h hf
  exact pl_gd k1 k2
theorem mul_lt_UI {a b : Int} : a * UI < b * UI ↔ a < b := by
  have hU := UI_pos
  constructor
  · intro h; exact Int.lt_of_mul_lt_mul_right h (Int.le_of_lt hU)
  · intro h; exact Int.mul_lt_mul_of_pos_right h hU
theorem mul_le_UI {a b : Int} : a * UI ≤ b * UI ↔ a ≤ b := by have := mul_lt_UI (a := b) (b := a); omega
theorem floor_le {a b : Nat} (ha : a < 18446744073709551616) (fa : fin a = true) (hb : b < 18446744073709551616) (fb : fin b = true) : Z (floorV a) = Z (floorV b) ↔ flq a = flq b := by
  rw [floor_Z ha fa, floor_Z hb fb]
  constructor
  · intro h
    have h1 := mul_le_UI (a := flq a) (b := flq b)
    have h2 := mul_le_UI (a := flq b) (b := flq a)
    omega
  · intro h; rw [h]
theorem flq_mono {a b : Nat} (h : Z a ≤ Z b) : flq a ≤ flq b := Int.ediv_le_ediv UI_pos h
theorem C53_Zi : Z C53 = 9007199254740992 * UI := by rw [C53_Z, Int.natCast_mul]; rfl
theorem N53_Zi : Z N53 = -9007199254740992 * UI := by rw [N53_Z, Int.natCast_mul, Int.neg_mul]; rfl
theorem gdC : Gd C53 := ⟨by decide, by decide, by decide⟩
theorem gdN : Gd N53 := ⟨by decide, by decide, by decide⟩
theorem conv_whole {x : Nat} {n : Int} (hx : x < 18446744073709551616) (hz : Z x = n * UI) (h1 : -9007199254740992 ≤ n) (h2 : n ≤ 9007199254740992) (hf : fin x = true) : floatToIntVal .f64 x .i64 = some n := by
  have hw : (if sg x then -(whole x : Int) else (whole x : Int)) = n := by
    have hU := UI_pos
    have e : (rv (mg x) : Int) = (n.natAbs : Int) * UI := by
      have := Z_natAbs x
      rw [hz, Int.natAbs_mul] at this
      have h3 : UI.natAbs = 2 ^ BB := Int.natAbs_natCast _
      rw [h3] at this
      unfold UI
      rw [← Int.natCast_mul]
      omega
    have e2 : rv (mg x) = n.natAbs * 2 ^ BB := by
      have h3 : (rv (mg x) : Int) = ((n.natAbs * 2 ^ BB : Nat) : Int) := by rw [e, Int.natCast_mul]; rfl
      exact Int.ofNat_inj.1 h3
    have e3 : whole x = n.natAbs := by unfold whole; rw [e2, Nat.mul_div_cancel _ (Nat.two_pow_pos _)]
    rw [e3]
    have hs := Z_sg (b := x)
    rw [hz, e] at hs
    cases h : sg x
    · rw [h] at hs
      simp only [Bool.false_eq_true, if_false] at hs ⊢
      have k1 := mul_le_UI (a := n) (b := n.natAbs)
      have k2 := mul_le_UI (a := n.natAbs) (b := n)
      omega
    · rw [h] at hs
      simp only [if_true] at hs ⊢
      rw [← Int.neg_mul] at hs
      have k1 := mul_le_UI (a := n) (b := -n.natAbs)
      have k2 := mul_le_UI (a := -n.natAbs) (b := n)
      omega
  unfold floatToIntVal
  have e : (FloatKind.f64.decode x).toInt .zero = some (if sg x then -(whole x : Int) else (whole x : Int)) := toInt_read x hx hf
  rw [e, hw]
  have hb : IntKind.i64.min ≤ n ∧ n ≤ IntKind.i64.max := by
    have e1 : IntKind.i64.min = -9223372036854775808 := by decide
    have e2 : IntKind.i64.max = 9223372036854775807 := by decide
    rw [e1, e2]
    omega
  exact if_pos hb
theorem floor_fin {b : Nat} (h : b < 18446744073709551616) (hf : fin b = true) (h1 : -9007199254740992 ≤ flq b) (h2 : flq b ≤ 9007199254740992) : fin (floorV b) = true := by
  have g := floorV_gd h hf
  have e := floor_Z h hf
  have c1 := Z_fin (b := C53) (by decide)
  have c2 := Z_fin (b := N53) (by decide)
  rw [C53_Zi] at c1
  rw [N53_Zi] at c2
  have k1 := mul_le_UI (a := flq b) (b := 9007199254740992)
  have k2 := mul_le_UI (a := -9007199254740992) (b := flq b)
  exact fin_Z g.nn (by omega) (by omega)

/-- What Floor tells. -/
structure FlSure (a : Sp) (n : Int) : Prop where
  lo : fin a.lo = true
  hi : fin a.hi = true
  el : flq a.lo = n
  eh : flq a.hi = n
  ge : -9007199254740992 ≤ n
  le : n ≤ 9007199254740992
theorem FlSure.wi {a c : Sp} {n : Int} (h : FlSure a n) (k : Wi c a) : FlSure c n := by
  have w : c.wide = false := k.fin (by unfold Sp.wide wd; rw [h.lo, h.hi]; rfl)
  have ⟨f1, f2⟩ := Sp.fins w
  have h1 := flq_mono k.lo
  have h2 := flq_mono k.hi
  have h3 := flq_mono c.vd.le
  have e1 := h.el
  have e2 := h.eh
  exact ⟨f1, f2, by omega, by omega, h.ge, h.le⟩
theorem FlSure.uniq {a : Sp} {n m : Int} (h : FlSure a n) (k : FlSure a m) : n = m := h.el.symm.trans k.el
end Go.Proofs.Ytdgaaceebghcpaa

