/- Plain: whole numbers at or below a float. · Floor: both sides. · Floor: the walks of both sides; the row of roots. · Plain: the whole number at or below all of a span. -/
import Derived.Test.YtlpnfgglpoppfaaFl1
import Derived.Test.YtlpnfgglpoppfaaGc
import Derived.Laws.FloatArith
import GoSem.Extern.MathFloor
import Derived.Laws.Externs
import Derived.Test.YtlpnfgglpoppfaaGd
set_option linter.unusedVariables false
set_option linter.unusedSimpArgs false
namespace Go.Proofs.Ytlpnfgglpoppfaa
open Ieee
namespace Fl

theorem sub_exact (a b r : Nat) (neg : Bool) (ha : a < 18446744073709551616) (hb : b < 18446744073709551616) (fa : fin a = true) (fb : fin b = true) (hr : r ≤ INF) (h0 : r ≠ 0)
    (h : Z a - Z b = if neg then -(rv r : Int) else (rv r : Int)) : double.sub a b = some (wrd neg r) := by
  obtain ⟨m, p, e1, hp, h1⟩ := read_fin a ha fa
  obtain ⟨n, q, e2, hq, h2⟩ := read_fin b hb fb
  unfold Format.sub
  rw [e1, e2]
  show some (double.nearest (if signed (sg a) m (p - min p q).toNat + signed (!sg b) n (q - min p q).toNat = 0 then _ else decide (signed (sg a) m (p - min p q).toNat + signed (!sg b) n (q - min p q).toNat < 0)) (signed (sg a) m (p - min p q).toNat + signed (!sg b) n (q - min p q).toNat).natAbs (min p q)) = _
  congr 1
  obtain ⟨base, hbase⟩ : ∃ base, min p q = base := ⟨_, rfl⟩
  rw [hbase]
  have g1 := signed_unit (s := sg a) (m := m) (p := p) (base := base) (r := mg a) (by omega) (by omega) h1
  have g2 := signed_unit (s := !sg b) (m := n) (p := q) (base := base) (r := mg b) (by omega) (by omega) h2
  have g3 : (if (!sg b) then -(rv (mg b) : Int) else (rv (mg b) : Int)) = -Z b := by
    unfold Z
    cases sg b <;> simp
  rw [g3] at g2
  have g4 : (if sg a then -(rv (mg a) : Int) else (rv (mg a) : Int)) = Z a := rfl
  rw [g4] at g1
  generalize signed (sg a) m (p - base).toNat = x at *
  generalize signed (!sg b) n (q - base).toNat = y at *
  have hpos := rv_pos (r := r) (by omega)
  have hT : (x + y) * ((2 ^ (base + 1074).toNat : Nat) : Int) = if neg then -(rv r : Int) else (rv r : Int) := by
    rw [Int.add_mul, g1, g2, ← h]; rfl
  have hk := Nat.two_pow_pos (base + 1074).toNat
  have hne : x + y ≠ 0 := by
    intro e
    rw [e, Int.zero_mul] at hT
    cases neg
    · simp at hT; omega
    · simp at hT; omega
  rw [if_neg hne]
  have hsgn : decide (x + y < 0) = neg := by
    cases neg
    · refine decide_eq_false ?_
      intro hlt
      have := Int.mul_neg_of_neg_of_pos hlt (show (0 : Int) < ((2 ^ (base + 1074).toNat : Nat) : Int) by omega)
      rw [hT] at this
      simp at this
      omega
    · refine decide_eq_true ?_
      apply Int.lt_of_not_ge
      intro hge
      have := Int.mul_nonneg hge (show (0 : Int) ≤ ((2 ^ (base + 1074).toNat : Nat) : Int) by omega)
      rw [hT] at this
      simp at this
      omega
  rw [hsgn]
  refine nearest_exact _ _ _ _ hr ?_
  rw [show (-(base + 1074)).toNat = 0 by omega, Nat.pow_zero, Nat.mul_one]
  have := congrArg Int.natAbs hT
  rw [Int.natAbs_mul] at this
  have e3 : (((2 ^ (base + 1074).toNat : Nat) : Int)).natAbs = 2 ^ (base + 1074).toNat := Int.natAbs_natCast _
  rw [e3] at this
  have e4 : (if neg then -(rv r : Int) else (rv r : Int)).natAbs = rv r := natAbs_unit neg (rv r)
  rw [e4] at this
  exact this.symm

theorem cut_zero (neg : Bool) (n d : Nat) : Toward.zero.cut neg n d = n / 2 ^ d := by
  unfold Toward.cut
  simp only [shl_eq, Nat.one_mul, Bool.toNat_false, Nat.add_zero]
  by_cases h : d ≤ n.log2 + 2
  · rw [Nat.min_eq_left h]
  · rw [Nat.min_eq_right (by omega)]
    have h1 : n < 2 ^ (n.log2 + 2) := Nat.lt_of_lt_of_le Nat.lt_log2_self (Nat.pow_le_pow_right (by decide) (by omega))
    have h2 : n < 2 ^ d := Nat.lt_of_lt_of_le h1 (Nat.pow_le_pow_right (by decide) (by omega))
    rw [Nat.div_eq_of_lt h1, Nat.div_eq_of_lt h2]
theorem cut_down (neg : Bool) (n d : Nat) : Toward.down.cut neg n d = n / 2 ^ d + (neg && n % 2 ^ d != 0).toNat := by
  unfold Toward.cut
  simp only [shl_eq, Nat.one_mul]
  by_cases h : d ≤ n.log2 + 2
  · rw [Nat.min_eq_left h]
  · rw [Nat.min_eq_right (by omega)]
    have h1 : n < 2 ^ (n.log2 + 2) := Nat.lt_of_lt_of_le Nat.lt_log2_self (Nat.pow_le_pow_right (by decide) (by omega))
    have h2 : n < 2 ^ d := Nat.lt_of_lt_of_le h1 (Nat.pow_le_pow_right (by decide) (by omega))
    rw [Nat.div_eq_of_lt h1, Nat.div_eq_of_lt h2, Nat.mod_eq_of_lt h1, Nat.mod_eq_of_lt h2]

/-- The whole part of a size; is something behind it? -/
def whole (b : Nat) : Nat := rv (mg b) / 2 ^ BB
def rest (b : Nat) : Bool := rv (mg b) % 2 ^ BB != 0
theorem whole_eq {m p : Nat → Int} : True := trivial
theorem cut_unit {m : Nat} {p : Int} {r : Nat} (hp : -1074 ≤ p) (h : m * 2 ^ (p + 1074).toNat = r) :
    m <<< p.toNat / 2 ^ (-p).toNat = r / 2 ^ BB ∧ (m <<< p.toNat % 2 ^ (-p).toNat != 0) = (r % 2 ^ BB != 0) := by
  have hB := BB_eq
  rw [shl_eq]
  by_cases hc : 0 ≤ p
  · rw [show (-p).toNat = 0 by omega, Nat.pow_zero, Nat.div_one, Nat.mod_one]
    have e : (2 : Nat) ^ (p + 1074).toNat = 2 ^ p.toNat * 2 ^ BB := by rw [← Nat.pow_add]; congr 1; omega
    rw [e, ← Nat.mul_assoc] at h
    rw [← h, Nat.mul_div_cancel _ (Nat.two_pow_pos BB), Nat.mul_mod_left]
    exact ⟨rfl, rfl⟩
  · rw [show p.toNat = 0 by omega, Nat.pow_zero, Nat.mul_one]
    have e : (2 : Nat) ^ BB = 2 ^ (-p).toNat * 2 ^ (p + 1074).toNat := by rw [← Nat.pow_add]; congr 1; omega
    rw [e, ← h, Nat.mul_div_mul_right _ _ (Nat.two_pow_pos _), Nat.mul_mod_mul_right]
    refine ⟨rfl, ?_⟩
    rw [Bool.eq_iff_iff]
    simp only [bne_iff_ne, ne_eq]
    have hp := Nat.two_pow_pos (p + 1074).toNat
    constructor
    · intro h1 h2
      rcases Nat.mul_eq_zero.1 h2 with h3 | h3
      · exact h1 h3
      · omega
    · intro h1 h2
      rw [h2, Nat.zero_mul] at h1
      exact h1 rfl
end Fl
end Go.Proofs.Ytlpnfgglpoppfaa

namespace Go.Proofs.Ytlpnfgglpoppfaa
open Go.RowKit Ieee

namespace Fl
theorem nst (neg : Bool) (m : Nat) (h0 : m ≠ 0) (hm : m ≤ 9007199254740992) : double.nearest neg m 0 = wrd neg (rung m 1074) ∧ rung m 1074 < INF ∧ rv (rung m 1074) = m * 2 ^ BB ∧ rung m 1074 ≠ 0 := by
  obtain ⟨L, f, h1, h2, h3, h4, h5, h6, h7, h8⟩ := flt_form m h0 hm
  have hl := flt_le m h0 hm
  have hB := BB_eq
  refine ⟨nearest_exact neg m _ 0 (Nat.le_of_lt hl) ?_, hl, h7, ?_⟩
  · rw [show (-((0 : Int) + 1074)).toNat = 0 by omega, show ((0 : Int) + 1074).toNat = BB by omega, Nat.pow_zero, Nat.mul_one, h7]
  · rw [h6]; omega
/-- The word that 'down to a whole number' gives. -/
def flW (b : Nat) : Nat := double.nearest (sg b) (whole b + (sg b && rest b).toNat) 0
theorem flW_read (b : Nat) (h : b < 18446744073709551616) (hf : fin b = true) : double.write ((double.read b).integral .down) = flW b ∧ ∃ m p, double.read b = .number (sg b) m p := by
  obtain ⟨m, p, hr, hp, hv⟩ := read_fin b h hf
  obtain ⟨c1, c2⟩ := cut_unit hp hv
  refine ⟨?_, m, p, hr⟩
  rw [hr]
  show double.nearest (sg b) (Toward.down.cut (sg b) (m <<< p.toNat) (-p).toNat) 0 = _
  rw [cut_down, c1, c2]
  rfl
theorem toInt_read (b : Nat) (h : b < 18446744073709551616) (hf : fin b = true) : (double.read b).toInt .zero = some (if sg b then -(whole b : Int) else (whole b : Int)) := by
  obtain ⟨m, p, hr, hp, hv⟩ := read_fin b h hf
  obtain ⟨c1, c2⟩ := cut_unit hp hv
  rw [hr]
  show some (signed (sg b) (Toward.zero.cut (sg b) (m <<< p.toNat) (-p).toNat) 0) = _
  rw [cut_zero, c1, signed_Z, Nat.pow_zero, Nat.mul_one]
  rfl
theorem rest_split (b : Nat) : rv (mg b) = whole b * 2 ^ BB + rv (mg b) % 2 ^ BB := by
  unfold whole
  have := Nat.div_add_mod (rv (mg b)) (2 ^ BB)
  rw [Nat.mul_comm] at this
  exact this.symm
theorem rest_false {b : Nat} (h : rest b = false) : rv (mg b) = whole b * 2 ^ BB := by
  have h1 := rest_split b
  have h2 : rv (mg b) % 2 ^ BB = 0 := by
    unfold rest at h
    simpa using h
  rw [h2, Nat.add_zero] at h1
  exact h1
theorem rest_true {b : Nat} (h : rest b = true) : whole b * 2 ^ BB < rv (mg b) ∧ rv (mg b) < (whole b + 1) * 2 ^ BB ∧ whole b < 9007199254740992 := by
  have h1 := rest_split b
  have h2 : rv (mg b) % 2 ^ BB ≠ 0 := by
    unfold rest at h
    simpa using h
  have h3 := Nat.mod_lt (rv (mg b)) (Nat.two_pow_pos BB)
  refine ⟨by omega, by rw [Nat.add_mul, Nat.one_mul]; omega, ?_⟩
  apply Nat.lt_of_not_le
  intro hw
  -- else the power is above 0 and nothing is behind
  have hs := sM_rv b
  have hlt := sM_lt b
  have hB := BB_eq
  have hE : 0 ≤ sE b := by
    apply Int.not_lt.1
    intro hneg
    have h4 : (2 : Nat) ^ (sE b + 1074).toNat ≤ 2 ^ BB := Nat.pow_le_pow_right (by decide) (by omega)
    have h5 : sM b * 2 ^ (sE b + 1074).toNat < 9007199254740992 * 2 ^ BB := Nat.lt_of_lt_of_le (Nat.mul_lt_mul_of_pos_right hlt (Nat.two_pow_pos _)) (Nat.mul_le_mul_left _ h4)
    have h6 : 9007199254740992 * 2 ^ BB ≤ whole b * 2 ^ BB := Nat.mul_le_mul_right _ hw
    omega
  have e : (2 : Nat) ^ (sE b + 1074).toNat = 2 ^ (sE b).toNat * 2 ^ BB := by rw [← Nat.pow_add]; congr 1; omega
  rw [e, ← Nat.mul_assoc] at hs
  rw [← hs] at h2
  exact h2 (Nat.mul_mod_left _ _)
theorem flW_exact {b : Nat} (h : b < 18446744073709551616) (hf : fin b = true) (hr : rest b = false) : flW b = b := by
  unfold flW
  rw [hr, Bool.and_false]
  have hm := mg_of_fin hf
  have hB := BB_eq
  have := nearest_exact (sg b) (whole b) (mg b) 0 (Nat.le_of_lt hm) (by
    rw [show (-((0 : Int) + 1074)).toNat = 0 by omega, show ((0 : Int) + 1074).toNat = BB by omega, Nat.pow_zero, Nat.mul_one, rest_false hr])
  exact this.trans (wrd_of b h)
theorem whole_lt {b : Nat} (h : rv (mg b) < 9007199254740992 * 2 ^ BB) : whole b < 9007199254740992 := by
  unfold whole
  rw [Nat.div_lt_iff_lt_mul (Nat.two_pow_pos BB)]
  exact h
end Fl

abbrev C53 : Nat := 4845873199050653696
abbrev N53 : Nat := 14069245235905429504
theorem C53_Z : Fl.Z C53 = ((9007199254740992 * 2 ^ Fl.BB : Nat) : Int) := by
  obtain ⟨h1, h2, h3, h4⟩ := Fl.nst false 9007199254740992 (by omega) (by omega)
  have e : C53 = Fl.wrd false (Fl.rung 9007199254740992 1074) := by decide +kernel
  rw [e, Z_wrd false (Nat.le_of_lt h2), h3]; rfl
theorem N53_Z : Fl.Z N53 = -((9007199254740992 * 2 ^ Fl.BB : Nat) : Int) := by
  obtain ⟨h1, h2, h3, h4⟩ := Fl.nst true 9007199254740992 (by omega) (by omega)
  have e : N53 = Fl.wrd true (Fl.rung 9007199254740992 1074) := by decide +kernel
  rw [e, Z_wrd true (Nat.le_of_lt h2), h3]; rfl
theorem one_Z : Fl.Z 4607182418800017408 = ((2 ^ Fl.BB : Nat) : Int) := by
  have e : Fl.wrd false 4607182418800017408 = 4607182418800017408 := rfl
  have := Z_wrd false (r := 4607182418800017408) (by decide)
  rw [e, rv_one] at this
  exact this

/-- What the document reckons ahead of the last step. -/
def trV (b : Nat) : Nat := floatOfInt .f64 (if Fl.sg b then -(Fl.whole b : Int) else (Fl.whole b : Int))

theorem ofInt_word (neg : Bool) (m : Nat) (h0 : m ≠ 0) : floatOfInt .f64 (if neg then -(m : Int) else (m : Int)) = double.nearest neg m 0 := by
  show double.nearest (decide ((if neg then -(m : Int) else (m : Int)) < 0)) ((if neg then -(m : Int) else (m : Int)).natAbs) 0 = _
  have e1 : decide ((if neg then -(m : Int) else (m : Int)) < 0) = neg := by
    cases neg
    · exact decide_eq_false (by simp)
    · exact decide_eq_true (by simp; omega)
  rw [e1, Fl.natAbs_unit]

theorem tr_Z (b : Nat) (hw : Fl.whole b ≤ 9007199254740992) : Fl.Z (trV b) = (if Fl.sg b then -((Fl.whole b * 2 ^ Fl.BB : Nat) : Int) else ((Fl.whole b * 2 ^ Fl.BB : Nat) : Int)) ∧ trV b < 18446744073709551616 ∧ Fl.fin (trV b) = true := by
  unfold trV
  by_cases h0 : Fl.whole b = 0
  · rw [h0]
    have e : floatOfInt .f64 (if Fl.sg b = true then -((0 : Nat) : Int) else ((0 : Nat) : Int)) = 0 := by
      have : (if Fl.sg b = true then -((0 : Nat) : Int) else ((0 : Nat) : Int)) = 0 := by cases Fl.sg b <;> rfl
      rw [this]; exact ofInt_zero
    rw [e, Nat.zero_mul, Z0]
    refine ⟨?_, by decide, by decide⟩
    cases Fl.sg b <;> rfl
  · obtain ⟨h1, h2, h3, h4⟩ := Fl.nst (Fl.sg b) (Fl.whole b) h0 hw
    rw [ofInt_word _ _ h0, h1, Z_wrd _ (Nat.le_of_lt h2), h3]
    refine ⟨rfl, (wrd_ok _ _ (Nat.le_of_lt h2)).1, ?_⟩
    have hs : Fl.rung (Fl.whole b) 1074 < Fl.SGN := Nat.lt_trans h2 Fl.inf_sgn
    exact Fl.fin_of (by rw [Fl.wrd_mg _ hs]; exact h2)
end Go.Proofs.Ytlpnfgglpoppfaa

namespace Go.Proofs.Ytlpnfgglpoppfaa
open Go.RowKit Ieee

theorem archFloor_call (b : Nat) (h : b < 18446744073709551616) (hf : Fl.fin b = true) (w : World) :
    (callFunc 120 #[.float .f64 b]).run Try.prog w = .ok (.value (.float .f64 (Fl.flW b))) w := by
  rw [run_callFunc_extern Try.func120 (by kernel_rfl) (by kernel_rfl) (by kernel_rfl) (e := Extern.MathFloor.toIntegral "math.archFloor" .down) (by kernel_rfl)]
  obtain ⟨e1, m, p, e2⟩ := Fl.flW_read b h hf
  have d : FloatKind.f64.decode b = .number (Fl.sg b) m p := e2
  have e3 : FloatKind.f64.encode (Datum.integral .down (.number (Fl.sg b) m p)) = Fl.flW b := by rw [← e1, e2]; rfl
  have key : (Extern.MathFloor.toIntegral "math.archFloor" .down #[.float .f64 b]).run Try.prog w = .ok (.float .f64 (Fl.flW b)) w := by
    rw [← e3]
    show Sem.run Try.prog (Extern.MathFloor.toIntegral.match_1 (fun _ => Sem Value) (FloatKind.f64.decode b) _ _) w = _
    rw [d]
    rfl
  rw [key]
  rfl

/-- What Floor tells of a finite number. -/
def floorV (b : Nat) : Nat := Fl.pl (Fl.flW b)
theorem flW_ok (b : Nat) (h : b < 18446744073709551616) (hf : Fl.fin b = true) : Fl.flW b < 18446744073709551616 ∧ Fl.nan (Fl.flW b) = false := by
  by_cases hr : Fl.rest b = true
  · obtain ⟨r1, r2, r3⟩ := Fl.rest_true hr
    unfold Fl.flW
    by_cases h0 : Fl.whole b + (Fl.sg b && Fl.rest b).toNat = 0
    · rw [h0, Fl.nearest_zero]
      cases Fl.sg b <;> decide
    · have hle : Fl.whole b + (Fl.sg b && Fl.rest b).toNat ≤ 9007199254740992 := by
        have : (Fl.sg b && Fl.rest b).toNat ≤ 1 := Bool.toNat_le _
        omega
      obtain ⟨h1, h2, h3, h4⟩ := Fl.nst (Fl.sg b) _ h0 hle
      rw [h1]
      exact wrd_ok _ _ (Nat.le_of_lt h2)
  · rw [Fl.flW_exact h hf (by revert hr; cases Fl.rest b <;> simp)]
    exact ⟨h, Fl.nan_of_fin hf⟩

theorem mfloor (b : Nat) (h : b < 18446744073709551616) (hf : Fl.fin b = true) (w : World) : Calls Try.prog 99 #[.float .f64 b] w fun r w' => r = .returned (.float .f64 (Fl.flW b)) ∧ w = w' := by
  have hF := fun w => archFloor_call b h hf w
  generalize Fl.flW b = v at *
  clear hf
  go_enter Try.func99, Try.ntmps99
  go_wp2_with fail
  go_ret
  exact ⟨rfl, rfl⟩
theorem floor_good (b : Nat) (h : b < 18446744073709551616) (hf : Fl.fin b = true) (w : World) : Calls Try.prog 78 #[.float .f64 b] w fun r w' => r = .returned (numV (floorV b) 0) ∧ w = w' := by
  have HN := Lib.hid (fun w => number_any b h w)
  rw [hf] at HN
  obtain ⟨k1, k2⟩ := flW_ok b h hf
  have HF := Lib.hid (fun w => mfloor b h hf w)
  have HP := Lib.hid (fun w => plain_any (Fl.flW b) k1 k2 w)
  unfold floorV
  generalize Fl.pl (Fl.flW b) = u at *
  generalize Fl.flW b = v at *
  clear hf k1 k2
  go_enter Try.func78, Try.ntmps78
  go_wp2_with fail
  refine (HN.out _).mono ?_
  rintro r w' ⟨rfl, rfl⟩
  go_wp2_with fail
  refine (HF.out _).mono ?_
  rintro r w' ⟨rfl, rfl⟩
  go_wp2_with fail
  refine (HP.out _).mono ?_
  rintro r w' ⟨rfl, rfl⟩
  go_wp2_with fail
  go_ret2
  exact ⟨rfl, rfl⟩
theorem floor_bad (b : Nat) (h : b < 18446744073709551616) (hf : Fl.fin b = false) (w : World) : Calls Try.prog 78 #[.float .f64 b] w fun r w' => r = .returned (numV 0 10) ∧ w = w' := by
  have HN := Lib.hid (fun w => number_any b h w)
  rw [hf] at HN
  clear hf
  go_enter Try.func78, Try.ntmps78
  go_wp2_with fail
  refine (HN.out _).mono ?_
  rintro r w' ⟨rfl, rfl⟩
  go_wp2_with fail
  go_ret2
  exact ⟨rfl, rfl⟩
theorem rfloor_bad (b : Nat) (h : b < 18446744073709551616) (hf : Fl.fin b = false) (w : World) : Calls Try.prog 88 #[.float .f64 b] w fun r w' => r = .returned (numV 0 10) ∧ w.drew = w' := by
  have HN := Lib.hid (fun w => rnum_bad b h hf w)
  clear hf
  go_enter Try.func88, Try.ntmps88
  go_wp2_with fail
  refine (HN.out _).mono ?_
  rintro r w' ⟨rfl, rfl⟩
  go_wp2_with fail
  go_ret2
  exact ⟨rfl, rfl⟩

theorem rfloor_big (b : Nat) (h : b < 18446744073709551616) (hf : Fl.fin b = true) (g1 l1 : Bool) (hg : (FloatKind.f64.format.order b C53 == some .gt || FloatKind.f64.format.order b C53 == some .eq) = g1) (hl : (FloatKind.f64.format.order b N53 == some .lt || FloatKind.f64.format.order b N53 == some .eq) = l1) (hor : (g1 || l1) = true) (w : World) :
    Calls Try.prog 88 #[.float .f64 b] w fun r w' => r = .returned (numV b 0) ∧ w = w' := by
  have HN := Lib.hid (fun w => rnum_good b h hf w)
  clear hf
  cases g1
  · obtain rfl : l1 = true := by simpa using hor
    clear hor
    go_enter Try.func88, Try.ntmps88
    go_wp2_with fail
    refine (HN.out _).mono ?_
    rintro r w' ⟨rfl, rfl⟩
    go_wp2_with fail
    go_ret2
    exact ⟨rfl, rfl⟩
  · clear hor
    go_enter Try.func88, Try.ntmps88
    go_wp2_with fail
    refine (HN.out _).mono ?_
    rintro r w' ⟨rfl, rfl⟩
    go_wp2_with fail
    go_ret2
    exact ⟨rfl, rfl⟩

theorem rfloor_mid (b : Nat) (h : b < 18446744073709551616) (hf : Fl.fin b = true) (hg : (FloatKind.f64.format.order b C53 == some .gt || FloatKind.f64.format.order b C53 == some .eq) = false) (hl : (FloatKind.f64.format.order b N53 == some .lt || FloatKind.f64.format.order b N53 == some .eq) = false)
    (n : Int) (hn : floatToIntVal .f64 b .i64 = some n) (hgt : (FloatKind.f64.format.order (floatOfInt .f64 n) b == some .gt) = false) (z : Nat) (HZ : ∀ w, Calls Try.prog 72 #[.float .f64 (floatOfInt .f64 n)] w fun r w' => r = .returned (.float .f64 z) ∧ w = w') (w : World) :
    Calls Try.prog 88 #[.float .f64 b] w fun r w' => r = .returned (numV z 0) ∧ w = w' := by
  have HN := Lib.hid (fun w => rnum_good b h hf w)
  have HZ' := Lib.hid HZ
  have hc := fun w => run_convert_float_int (P := Try.prog) w 22 3 .f64 .i64 b n (by kernel_rfl) Try.underlying3 hn
  clear hf HZ hn
  go_enter Try.func88, Try.ntmps88
  go_wp2_with fail
  refine (HN.out _).mono ?_
  rintro r w' ⟨rfl, rfl⟩
  go_wp2_with fail
  refine (HZ'.out _).mono ?_
  rintro r w' ⟨rfl, rfl⟩
  go_wp2_with fail
  go_ret2
  exact ⟨rfl, rfl⟩
theorem rfloor_low (b : Nat) (h : b < 18446744073709551616) (hf : Fl.fin b = true) (hg : (FloatKind.f64.format.order b C53 == some .gt || FloatKind.f64.format.order b C53 == some .eq) = false) (hl : (FloatKind.f64.format.order b N53 == some .lt || FloatKind.f64.format.order b N53 == some .eq) = false)
    (n : Int) (hn : floatToIntVal .f64 b .i64 = some n) (hgt : (FloatKind.f64.format.order (floatOfInt .f64 n) b == some .gt) = true) (u z : Nat) (hu : floatBits .sub .f64 (floatOfInt .f64 n) 4607182418800017408 = some u) (HZ : ∀ w, Calls Try.prog 72 #[.float .f64 u] w fun r w' => r = .returned (.float .f64 z) ∧ w = w') (w : World) :
    Calls Try.prog 88 #[.float .f64 b] w fun r w' => r = .returned (numV z 0) ∧ w = w' := by
  have HN := Lib.hid (fun w => rnum_good b h hf w)
  have HZ' := Lib.hid HZ
  have hc := fun w => run_convert_float_int (P := Try.prog) w 22 3 .f64 .i64 b n (by kernel_rfl) Try.underlying3 hn
  have hs := fun (t : TypeId) (w : World) => run_float_arith (P := Try.prog) w .sub t .f64 _ _ _ hu
  clear hf HZ hn hu
  go_enter Try.func88, Try.ntmps88
  go_wp2_with fail
  refine (HN.out _).mono ?_
  rintro r w' ⟨rfl, rfl⟩
  go_wp2_with fail
  refine (HZ'.out _).mono ?_
  rintro r w' ⟨rfl, rfl⟩
  go_wp2_with fail
  go_ret2
  exact ⟨rfl, rfl⟩

theorem C53_ge (b : Nat) (h : b < 18446744073709551616) (hf : Fl.fin b = true) : (FloatKind.f64.format.order b C53 == some .gt || FloatKind.f64.format.order b C53 == some .eq) = decide (((9007199254740992 * 2 ^ Fl.BB : Nat) : Int) ≤ Fl.Z b) := by
  refine (Fl.ge_eq (a := b) (b := C53) h (by decide) (Fl.nan_of_fin hf) (by decide)).trans ?_
  rw [C53_Z]
theorem N53_le (b : Nat) (h : b < 18446744073709551616) (hf : Fl.fin b = true) : (FloatKind.f64.format.order b N53 == some .lt || FloatKind.f64.format.order b N53 == some .eq) = decide (Fl.Z b ≤ -((9007199254740992 * 2 ^ Fl.BB : Nat) : Int)) := by
  refine (Fl.le_eq (a := b) (b := N53) h (by decide) (Fl.nan_of_fin hf) (by decide)).trans ?_
  rw [N53_Z]
theorem Z_parts (b : Nat) : (Fl.sg b = false ∧ Fl.Z b = (Fl.rv (Fl.mg b) : Int)) ∨ (Fl.sg b = true ∧ Fl.Z b = -(Fl.rv (Fl.mg b) : Int)) := by
  unfold Fl.Z
  cases Fl.sg b
  · exact .inl ⟨rfl, rfl⟩
  · exact .inr ⟨rfl, rfl⟩
theorem sg_wrd {b : Nat} (h : b < 18446744073709551616) (s : Bool) (hs : Fl.sg b = s) : Fl.wrd s (Fl.mg b) = b := by rw [← hs]; exact Fl.wrd_of b h

theorem rfloor_good (b : Nat) (h : b < 18446744073709551616) (hf : Fl.fin b = true) (w : World) : Calls Try.prog 88 #[.float .f64 b] w fun r w' => r = .returned (numV (floorV b) 0) ∧ w = w' := by
  have hg := C53_ge b h hf
  have hl := N53_le b h hf
  have hpB := Nat.two_pow_pos Fl.BB
  by_cases hbig : 9007199254740992 * 2 ^ Fl.BB ≤ Fl.rv (Fl.mg b)
  · -- nothing behind the point
    have hr : Fl.rest b = false := by
      cases hr : Fl.rest b
      · rfl
      · obtain ⟨r1, r2, r3⟩ := Fl.rest_true hr
        have : (Fl.whole b + 1) * 2 ^ Fl.BB ≤ 9007199254740992 * 2 ^ Fl.BB := Nat.mul_le_mul_right _ r3
        omega
    have hv : floorV b = b := by
      unfold floorV
      rw [Fl.flW_exact h hf hr]
      refine pl_nonzero ?_
      intro h0
      rw [h0, Fl.rv_zero] at hbig
      have : 0 < 9007199254740992 * 2 ^ Fl.BB := Nat.mul_pos (by omega) hpB
      omega
    rw [hv]
    refine rfloor_big b h hf _ _ hg hl ?_ w
    generalize 9007199254740992 * 2 ^ Fl.BB = K at *
    rcases Z_parts b with ⟨_, hz⟩ | ⟨_, hz⟩
    · rw [decide_eq_true (by omega), Bool.true_or]
    · rw [Bool.or_comm, decide_eq_true (by omega), Bool.true_or]
  · have hw : Fl.whole b < 9007199254740992 := Fl.whole_lt (by omega)
    have hg' : decide (((9007199254740992 * 2 ^ Fl.BB : Nat) : Int) ≤ Fl.Z b) = false := by
      generalize 9007199254740992 * 2 ^ Fl.BB = K at *
      rcases Z_parts b with ⟨_, hz⟩ | ⟨_, hz⟩ <;> exact decide_eq_false (by omega)
    have hl' : decide (Fl.Z b ≤ -((9007199254740992 * 2 ^ Fl.BB : Nat) : Int)) = false := by
      generalize 9007199254740992 * 2 ^ Fl.BB = K at *
      rcases Z_parts b with ⟨_, hz⟩ | ⟨_, hz⟩ <;> exact decide_eq_false (by omega)
    rw [hg'] at hg
    rw [hl'] at hl
    obtain ⟨t1, t2, t3⟩ := tr_Z b (Nat.le_of_lt hw)
    have hn : floatToIntVal .f64 b .i64 = some (if Fl.sg b then -(Fl.whole b : Int) else (Fl.whole b : Int)) := by
      unfold floatToIntVal
      have e : (FloatKind.f64.decode b).toInt .zero = some (if Fl.sg b then -(Fl.whole b : Int) else (Fl.whole b : Int)) := Fl.toInt_read b h hf
      rw [e]
      have hb : IntKind.i64.min ≤ (if Fl.sg b then -(Fl.whole b : Int) else (Fl.whole b : Int)) ∧ (if Fl.sg b then -(Fl.whole b : Int) else (Fl.whole b : Int)) ≤ IntKind.i64.max := by
        have e1 : IntKind.i64.min = -9223372036854775808 := by decide
        have e2 : IntKind.i64.max = 9223372036854775807 := by decide
        rw [e1, e2]
        cases Fl.sg b <;> simp <;> omega
      exact if_pos hb
    have hgt : (FloatKind.f64.format.order (trV b) b == some .gt) = decide (Fl.Z b < Fl.Z (trV b)) := Fl.gt_eq (a := trV b) (b := b) t2 h (Fl.nan_of_fin t3) (Fl.nan_of_fin hf)
    have hz : ∀ x, x < 18446744073709551616 → Fl.fin x = true → ∀ w, Calls Try.prog 72 #[.float .f64 x] w fun r w' => r = .returned (.float .f64 (Fl.pl x)) ∧ w = w' := fun x hx hfx w => zeroed_any x hx (Fl.nan_of_fin hfx) w
    cases hr : Fl.rest b
    · -- whole already
      have hrv := Fl.rest_false hr
      have hv : floorV b = Fl.pl (trV b) := by
        unfold floorV
        rw [Fl.flW_exact h hf hr]
        unfold trV
        by_cases h0 : Fl.whole b = 0
        · rw [h0, Nat.zero_mul] at hrv
          have hm : Fl.mg b = 0 := by
            apply Nat.eq_zero_of_not_pos
            intro hp
            have := Fl.rv_pos hp
            omega
          rw [pl_zero h hm, h0]
          have : (if Fl.sg b = true then -((0 : Nat) : Int) else ((0 : Nat) : Int)) = 0 := by cases Fl.sg b <;> rfl
          rw [this, ofInt_zero]; rfl
        · rw [ofInt_word _ _ h0]
          have := Fl.flW_exact h hf hr
          unfold Fl.flW at this
          rw [hr, Bool.and_false] at this
          exact congrArg Fl.pl this.symm
      rw [hv]
      refine rfloor_mid b h hf hg hl _ hn ?_ _ (hz _ t2 t3) w
      refine hgt.trans (decide_eq_false ?_)
      rw [t1]
      rcases Z_parts b with ⟨hs, hzz⟩ | ⟨hs, hzz⟩
      · rw [hs, if_neg Bool.false_ne_true, hzz, hrv]; omega
      · rw [hs, if_pos rfl, hzz, hrv]; omega
    · obtain ⟨r1, r2, r3⟩ := Fl.rest_true hr
      rcases Z_parts b with ⟨hs, hzz⟩ | ⟨hs, hzz⟩
      · have hv : floorV b = Fl.pl (trV b) := by
          unfold floorV Fl.flW trV
          rw [hs, Bool.false_and, if_neg Bool.false_ne_true]
          by_cases h0 : Fl.whole b = 0
          · rw [h0]
            have e1 : floatOfInt .f64 ((0 : Nat) : Int) = 0 := ofInt_zero
            rw [e1]
            show Fl.pl (double.nearest false 0 0) = _
            rw [Fl.nearest_zero]; rfl
          · have := ofInt_word false (Fl.whole b) h0
            rw [if_neg Bool.false_ne_true] at this
            rw [this]; rfl
        rw [hv]
        refine rfloor_mid b h hf hg hl _ hn ?_ _ (hz _ t2 t3) w
        refine hgt.trans (decide_eq_false ?_)
        rw [t1, hs, if_neg Bool.false_ne_true, hzz]
        generalize Fl.whole b * 2 ^ Fl.BB = K at *
        omega
      · obtain ⟨n1, n2, n3, n4⟩ := Fl.nst true (Fl.whole b + 1) (by omega) (by omega)
        have hone : Fl.fin 4607182418800017408 = true := by decide
        have hsub : floatBits .sub .f64 (trV b) 4607182418800017408 = some (Fl.wrd true (Fl.rung (Fl.whole b + 1) 1074)) := by
          refine Fl.sub_exact (trV b) 4607182418800017408 (Fl.rung (Fl.whole b + 1) 1074) true t2 (by decide) t3 hone (Nat.le_of_lt n2) n4 ?_
          rw [t1, one_Z, n3, hs, if_pos rfl, if_pos rfl, Nat.add_mul, Nat.one_mul]
          generalize Fl.whole b * 2 ^ Fl.BB = K at *
          generalize 2 ^ Fl.BB = L at *
          omega
        have hv : floorV b = Fl.pl (Fl.wrd true (Fl.rung (Fl.whole b + 1) 1074)) := by
          unfold floorV Fl.flW
          rw [hs, hr]
          exact congrArg Fl.pl n1
        rw [hv]
        have hwk := wrd_ok true _ (Nat.le_of_lt n2)
        refine rfloor_low b h hf hg hl _ hn ?_ _ _ hsub (fun w => zeroed_any _ hwk.1 hwk.2 w) w
        refine hgt.trans (decide_eq_true ?_)
        rw [t1, hs, if_pos rfl, hzz]
        generalize Fl.whole b * 2 ^ Fl.BB = K at *
        omega

def floorR (b : Nat) : Nat × Nat := if Fl.fin b = true then (floorV b, 0) else (0, 10)
theorem floor_any (b : Nat) (h : b < 18446744073709551616) (w : World) : Calls Try.prog 78 #[.float .f64 b] w fun r w' => r = .returned (pV (floorR b)) ∧ Below w.heap.size w w' := by
  unfold floorR pV
  by_cases hf : Fl.fin b = true
  · rw [if_pos hf]
    refine (floor_good b h hf w).mono ?_
    rintro r w' ⟨rfl, rfl⟩
    exact ⟨rfl, Below.refl _ _⟩
  · rw [if_neg hf]
    refine (floor_bad b h (by revert hf; cases Fl.fin b <;> simp) w).mono ?_
    rintro r w' ⟨rfl, rfl⟩
    exact ⟨rfl, Below.refl _ _⟩
theorem rfloor_any (b : Nat) (h : b < 18446744073709551616) (w : World) : Calls Try.prog 88 #[.float .f64 b] w fun r w' => r = .returned (pV (floorR b)) ∧ Below w.heap.size w w' := by
  unfold floorR pV
  by_cases hf : Fl.fin b = true
  · rw [if_pos hf]
    refine (rfloor_good b h hf w).mono ?_
    rintro r w' ⟨rfl, rfl⟩
    exact ⟨rfl, Below.refl _ _⟩
  · rw [if_neg hf]
    refine (rfloor_bad b h (by revert hf; cases Fl.fin b <;> simp) w).mono ?_
    rintro r w' ⟨rfl, rfl⟩
    exact ⟨rfl, (Below.refl _ _).drew⟩

end Go.Proofs.Ytlpnfgglpoppfaa

namespace Go.Proofs.Ytlpnfgglpoppfaa
open Fl Ieee

theorem ediv_is {z q U : Int} (hU : 0 < U) (h1 : q * U ≤ z) (h2 : z < (q + 1) * U) : z / U = q := by
  have a := Int.ediv_lt_of_lt_mul hU h2
  have b := Int.le_ediv_of_mul_le hU h1
  omega
def UI : Int := ((2 ^ BB : Nat) : Int)
theorem UI_pos : 0 < UI := Int.natCast_pos.2 (Nat.two_pow_pos _)
/-- The whole number at or below a word's number. -/
def flq (b : Nat) : Int := Z b / UI
theorem Z_sg {b : Nat} : Z b = if sg b then -(rv (mg b) : Int) else (rv (mg b) : Int) := rfl
theorem floor_Z {b : Nat} (h : b < 18446744073709551616) (hf : fin b = true) : Z (floorV b) = flq b * UI := by
  have hU := UI_pos
  unfold floorV flq
  rw [Z_pl]
  cases hr : rest b
  · rw [flW_exact h hf hr]
    have e := rest_false hr
    have hz : Z b = (if sg b then -(whole b : Int) else (whole b : Int)) * UI := by
      have e' : (rv (mg b) : Int) = (whole b : Int) * UI := by rw [e, Int.natCast_mul]; rfl
      rw [Z_sg, e']
      cases sg b
      · rw [if_neg Bool.false_ne_true, if_neg Bool.false_ne_true]
      · rw [if_pos rfl, if_pos rfl, Int.neg_mul]
    rw [hz, Int.mul_ediv_cancel _ (by omega)]
  · obtain ⟨r1, r2, r3⟩ := rest_true hr
    unfold flW
    rw [hr, Bool.and_true]
    obtain ⟨m, hm⟩ : ∃ m, whole b + (sg b).toNat = m := ⟨_, rfl⟩
    rw [hm]
    have r1' : (whole b : Int) * UI < (rv (mg b) : Int) := by
      have h1 := Int.ofNat_lt.2 r1
      rw [Int.natCast_mul] at h1
      exact h1
    have r2' : (rv (mg b) : Int) < ((whole b : Int) + 1) * UI := by
      have h1 := Int.ofNat_lt.2 r2
      rw [Int.natCast_mul] at h1
      exact h1
    cases hs : sg b
    · rw [hs] at hm
      have hm : whole b = m := by simpa using hm
      have hq : Z b / UI = (m : Int) := by
        refine ediv_is hU ?_ ?_
        · rw [Z_sg, hs, ← hm, if_neg Bool.false_ne_true]; exact Int.le_of_lt r1'
        · rw [Z_sg, hs, ← hm, if_neg Bool.false_ne_true]; exact r2'
      rw [hq]
      by_cases h0 : m = 0
      · rw [h0, nearest_zero]
        show Z (wrd false 0) = ((0 : Nat) : Int) * UI
        rw [show Z (wrd false 0) = 0 by decide]; simp
      · obtain ⟨n1, n2, n3, n4⟩ := nst false m h0 (by rw [← hm]; exact Nat.le_of_lt r3)
        rw [n1, Z_wrd false (Nat.le_of_lt n2), n3, if_neg Bool.false_ne_true, Int.natCast_mul]
        rfl
    · rw [hs] at hm
      have hm : whole b + 1 = m := hm
      have hq : Z b / UI = -(m : Int) := by
        have hmi : (m : Int) = (whole b : Int) + 1 := by rw [← hm, Int.natCast_add]; rfl
        have e : (-(m : Int)) * UI = -(((whole b : Int) + 1) * UI) := by rw [Int.neg_mul, hmi]
        have e2 : (-(m : Int) + 1) * UI = -((whole b : Int) * UI) := by
          rw [show -(m : Int) + 1 = -(whole b : Int) by rw [hmi]; omega, Int.neg_mul]
        refine ediv_is hU ?_ ?_
        · rw [Z_sg, hs, e, if_pos rfl]; exact Int.neg_le_neg (Int.le_of_lt r2')
        · rw [Z_sg, hs, e2, if_pos rfl]; exact Int.neg_lt_neg r1'
      rw [hq]
      obtain ⟨n1, n2, n3, n4⟩ := nst true m (by rw [← hm]; exact Nat.succ_ne_zero _) (by rw [← hm]; exact r3)
      rw [n1, Z_wrd true (Nat.le_of_lt n2), n3, if_pos rfl, Int.natCast_mul, Int.neg_mul]
      rfl
theorem floorV_gd {b : Nat} (h : b < 18446744073709551616) (hf : fin b = true) : Gd (floorV b) := by
  obtain ⟨k1, k2⟩ := flW_ok b h hf
  exact pl_gd k1 k2
theorem mul_lt_UI {a b : Int} : a * UI < b * UI ↔ a < b := by
  have hU := UI_pos
  constructor
  · intro h; exact Int.lt_of_mul_lt_mul_right h (Int.le_of_lt hU)
  · intro h; exact Int.mul_lt_mul_of_pos_right h hU
theorem mul_le_UI {a b : Int} : a * UI ≤ b * UI ↔ a ≤ b := by have := mul_lt_UI (a := b) (b := a); omega
theorem floor_le {a b : Nat} (ha : a < 18446744073709551616) (fa : fin a = true) (hb : b < 18446744073709551616) (fb : fin b = true) : Z (floorV a) = Z (floorV b) ↔ flq a = flq b := by
  rw [floor_Z ha fa, floor_Z hb fb]
  constructor
  · intro h
    have h1 := mul_le_UI (a := flq a) (b := flq b)
    have h2 := mul_le_UI (a := flq b) (b := flq a)
    omega
  · intro h; rw [h]
theorem flq_mono {a b : Nat} (h : Z a ≤ Z b) : flq a ≤ flq b := Int.ediv_le_ediv UI_pos h
theorem C53_Zi : Z C53 = 9007199254740992 * UI := by rw [C53_Z, Int.natCast_mul]; rfl
theorem N53_Zi : Z N53 = -9007199254740992 * UI := by rw [N53_Z, Int.natCast_mul, Int.neg_mul]; rfl
theorem gdC : Gd C53 := ⟨by decide, by decide, by decide⟩
theorem gdN : Gd N53 := ⟨by decide, by decide, by decide⟩
theorem conv_whole {x : Nat} {n : Int} (hx : x < 18446744073709551616) (hz : Z x = n * UI) (h1 : -9007199254740992 ≤ n) (h2 : n ≤ 9007199254740992) (hf : fin x = true) : floatToIntVal .f64 x .i64 = some n := by
  have hw : (if sg x then -(whole x : Int) else (whole x : Int)) = n := by
    have hU := UI_pos
    have e : (rv (mg x) : Int) = (n.natAbs : Int) * UI := by
      have := Z_natAbs x
      rw [hz, Int.natAbs_mul] at this
      have h3 : UI.natAbs = 2 ^ BB := Int.natAbs_natCast _
      rw [h3] at this
      unfold UI
      rw [← Int.natCast_mul]
      omega
    have e2 : rv (mg x) = n.natAbs * 2 ^ BB := by
      have h3 : (rv (mg x) : Int) = ((n.natAbs * 2 ^ BB : Nat) : Int) := by rw [e, Int.natCast_mul]; rfl
      exact Int.ofNat_inj.1 h3
    have e3 : whole x = n.natAbs := by unfold whole; rw [e2, Nat.mul_div_cancel _ (Nat.two_pow_pos _)]
    rw [e3]
    have hs := Z_sg (b := x)
    rw [hz, e] at hs
    cases h : sg x
    · rw [h] at hs
      simp only [Bool.false_eq_true, if_false] at hs ⊢
      have k1 := mul_le_UI (a := n) (b := n.natAbs)
      have k2 := mul_le_UI (a := n.natAbs) (b := n)
      omega
    · rw [h] at hs
      simp only [if_true] at hs ⊢
      rw [← Int.neg_mul] at hs
      have k1 := mul_le_UI (a := n) (b := -n.natAbs)
      have k2 := mul_le_UI (a := -n.natAbs) (b := n)
      omega
  unfold floatToIntVal
  have e : (FloatKind.f64.decode x).toInt .zero = some (if sg x then -(whole x : Int) else (whole x : Int)) := toInt_read x hx hf
  rw [e, hw]
  have hb : IntKind.i64.min ≤ n ∧ n ≤ IntKind.i64.max := by
    have e1 : IntKind.i64.min = -9223372036854775808 := by decide
    have e2 : IntKind.i64.max = 9223372036854775807 := by decide
    rw [e1, e2]
    omega
  exact if_pos hb
theorem floor_fin {b : Nat} (h : b < 18446744073709551616) (hf : fin b = true) (h1 : -9007199254740992 ≤ flq b) (h2 : flq b ≤ 9007199254740992) : fin (floorV b) = true := by
  have g := floorV_gd h hf
  have e := floor_Z h hf
  have c1 := Z_fin (b := C53) (by decide)
  have c2 := Z_fin (b := N53) (by decide)
  rw [C53_Zi] at c1
  rw [N53_Zi] at c2
  have k1 := mul_le_UI (a := flq b) (b := 9007199254740992)
  have k2 := mul_le_UI (a := -9007199254740992) (b := flq b)
  exact fin_Z g.nn (by omega) (by omega)

/-- What Floor tells. -/
structure FlSure (a : Sp) (n : Int) : Prop where
  lo : fin a.lo = true
  hi : fin a.hi = true
  el : flq a.lo = n
  eh : flq a.hi = n
  ge : -9007199254740992 ≤ n
  le : n ≤ 9007199254740992
theorem FlSure.wi {a c : Sp} {n : Int} (h : FlSure a n) (k : Wi c a) : FlSure c n := by
  have w : c.wide = false := k.fin (by unfold Sp.wide wd; rw [h.lo, h.hi]; rfl)
  have ⟨f1, f2⟩ := Sp.fins w
  have h1 := flq_mono k.lo
  have h2 := flq_mono k.hi
  have h3 := flq_mono c.vd.le
  have e1 := h.el
  have e2 := h.eh
  exact ⟨f1, f2, by omega, by omega, h.ge, h.le⟩
theorem FlSure.uniq {a : Sp} {n m : Int} (h : FlSure a n) (k : FlSure a m) : n = m := h.el.symm.trans k.el
end Go.Proofs.Ytlpnfgglpoppfaa

