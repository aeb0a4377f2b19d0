/- Plain: what the two sides' roundings have in common. -/
import Derived.Test.YtdgaaceebghcpaaPa
import Derived.Test.YtdgaaceebghcpaaGa
import Derived.Test.YtdgaaceebghcpaaVf
set_option linter.unusedVariables false
set_option linter.unusedSimpArgs false
namespace Go.Proofs.Ytdgaaceebghcpaa

theorem near_self (g : Bool) (b : Nat) (hf : Fl.fin b = true) : Fl.near g (Fl.sM b) (Fl.sE b) false = Fl.mg b := by
  have hm := Fl.mg_of_fin hf
  unfold Fl.near
  by_cases h0 : Fl.sM b = 0
  · rw [if_pos h0, (Fl.sM_zero b).1 h0]
  · rw [if_neg h0]
    have he := Fl.sE_ge b
    obtain ⟨h1, h2⟩ := Fl.rung_of_eq (r := Fl.mg b) (W := Fl.sM b) (e := Fl.sE b + 1074) h0 (by
      rw [show (-(Fl.sE b + 1074)).toNat = 0 by omega, Nat.pow_zero, Nat.mul_one, Fl.sM_rv])
    rw [h1, h2]
    cases g
    · rw [if_neg Bool.false_ne_true]; exact Nat.min_eq_left (by omega)
    · rw [if_pos rfl]
      exact Nat.min_eq_left (Nat.le_of_lt hm)
theorem toVal_self (down : Bool) (b : Nat) (h : b < 18446744073709551616) (hf : Fl.fin b = true) : toVal (Fl.sg b) down (Fl.sM b) (Fl.sE b) false = Fl.pl b := by
  unfold toVal
  rw [near_self _ b hf, Fl.wrd_of b h]
theorem near_zero (g : Bool) (e : Int) (m : Bool) : Fl.near g 0 e m = 0 := by unfold Fl.near; rw [if_pos rfl]
theorem toVal_zero (neg down : Bool) (e : Int) (m : Bool) : toVal neg down 0 e m = 0 := by
  unfold toVal
  rw [near_zero]
  cases neg <;> decide
theorem pl_zero {b : Nat} (h : b < 18446744073709551616) (h0 : Fl.mg b = 0) : Fl.pl b = 0 := by
  rcases Fl.mg_zero_cases h h0 with rfl | rfl <;> decide
theorem pl_nonzero {b : Nat} (h0 : Fl.mg b ≠ 0) : Fl.pl b = b := by
  unfold Fl.pl
  rw [if_neg]
  rintro rfl
  exact h0 (by decide)

theorem sumCore_le (na nb : Bool) (A B : Nat) (ea eb : Int) (h : ea + (Fl.len A : Int) - 126 ≤ eb) :
    sumCore na nb A B ea eb = sumFin na nb (A * 2 ^ (126 - Fl.len A)) (B * 2 ^ (eb - (ea + (Fl.len A : Int) - 126)).toNat) (ea + (Fl.len A : Int) - 126) false := by
  unfold sumCore
  by_cases h1 : ea + (Fl.len A : Int) - 126 < eb
  · rw [if_pos h1]
  · rw [if_neg h1, show (eb - (ea + (Fl.len A : Int) - 126)).toNat = 0 by omega, show (ea + (Fl.len A : Int) - 126 - eb).toNat = 0 by omega, Nat.pow_zero, Nat.div_one, Nat.mul_one, Nat.mod_one]
    rfl
theorem sumCore_gt (na nb : Bool) (A B : Nat) (ea eb : Int) (h : eb < ea + (Fl.len A : Int) - 126) :
    sumCore na nb A B ea eb = sumFin na nb (A * 2 ^ (126 - Fl.len A)) (B / 2 ^ (ea + (Fl.len A : Int) - 126 - eb).toNat) (ea + (Fl.len A : Int) - 126) (B % 2 ^ (ea + (Fl.len A : Int) - 126 - eb).toNat != 0) := by
  unfold sumCore
  rw [if_neg (by omega)]

def toS (down : Bool) (s : Bool × Nat × Int × Bool) : Nat := toVal s.1 down s.2.1 s.2.2.1 s.2.2.2

theorem sumFin_comm (down na nb : Bool) (A1 B1 : Nat) (e1 : Int) : toS down (sumFin na nb A1 B1 e1 false) = toS down (sumFin nb na B1 A1 e1 false) := by
  unfold sumFin
  by_cases hs : (na == nb) = true
  · have hs' : (nb == na) = true := by revert hs; cases na <;> cases nb <;> decide
    have hn : na = nb := by revert hs; cases na <;> cases nb <;> decide
    rw [if_pos hs, if_pos hs', Nat.add_comm, hn]
  · have hs' : ¬ (nb == na) = true := by revert hs; cases na <;> cases nb <;> decide
    rw [if_neg hs, if_neg hs', if_neg Bool.false_ne_true, if_neg Bool.false_ne_true]
    by_cases h1 : A1 < B1
    · rw [if_pos h1, if_neg (by omega), Nat.sub_zero]
    · rw [if_neg h1]
      by_cases h2 : B1 < A1
      · rw [if_pos h2, Nat.sub_zero]
      · rw [if_neg h2, show A1 - B1 - 0 = 0 by omega, show B1 - A1 - 0 = 0 by omega]
        unfold toS
        dsimp only
        rw [toVal_zero, toVal_zero]

theorem sumOf_comm (down na nb : Bool) (A B : Nat) (ea eb : Int) (hA : A < 9007199254740992) (hB : B < 9007199254740992) : toS down (sumOf na nb A B ea eb) = toS down (sumOf nb na B A eb ea) := by
  unfold sumOf
  by_cases hA0 : A = 0
  · by_cases hB0 : B = 0
    · rw [if_pos hA0, if_pos hB0]
      unfold toS
      dsimp only
      rw [hA0, hB0, toVal_zero, toVal_zero]
    · rw [if_pos hA0, if_neg hB0, if_pos hA0]
  · by_cases hB0 : B = 0
    · rw [if_neg hA0, if_pos hB0, if_pos hB0]
    · rw [if_neg hA0, if_neg hB0, if_neg hB0, if_neg hA0]
      by_cases h1 : ea + (Fl.len A : Int) < eb + (Fl.len B : Int)
      · rw [if_pos h1, if_neg (by omega)]
      · by_cases h2 : eb + (Fl.len B : Int) < ea + (Fl.len A : Int)
        · rw [if_neg h1, if_pos h2]
        · rw [if_neg h1, if_neg h2]
          have l1 := len53 hA
          have l2 := len53 hB
          rw [sumCore_le na nb A B ea eb (by omega), sumCore_le nb na B A eb ea (by omega), show (eb - (ea + (Fl.len A : Int) - 126)).toNat = 126 - Fl.len B by omega, show (ea - (eb + (Fl.len B : Int) - 126)).toNat = 126 - Fl.len A by omega,
            show eb + (Fl.len B : Int) - 126 = ea + (Fl.len A : Int) - 126 by omega]
          exact sumFin_comm down na nb _ _ _

/-! ### dropping places that are dropped anyhow -/
theorem cut_len {W k : Nat} (h : k < Fl.len W) : Fl.len (W / 2 ^ k) = Fl.len W - k := Fl.len_div_pow k h
theorem near_cut (g : Bool) (W : Nat) (e : Int) (more : Bool) (k : Nat) (hk : (k : Int) ≤ Fl.drop W (e + 1074)) (hl : k < Fl.len W) :
    Fl.near g (W / 2 ^ k) (e + k) (W % 2 ^ k != 0 || more) = Fl.near g W e more := by
  have hW : W ≠ 0 := by intro e0; rw [e0, Fl.len_zero] at hl; omega
  have hW' : W / 2 ^ k ≠ 0 := by
    intro e0
    have := cut_len hl
    rw [e0, Fl.len_zero] at this; omega
  obtain ⟨d, hd⟩ : ∃ d : Nat, Fl.drop W (e + 1074) = k + d := ⟨(Fl.drop W (e + 1074) - k).toNat, by omega⟩
  have hd' : Fl.drop (W / 2 ^ k) (e + k + 1074) = d := by
    unfold Fl.drop at hd ⊢
    rw [cut_len hl]; omega
  have hdiv : W / 2 ^ k / 2 ^ d = W / 2 ^ (k + d) := by rw [Nat.div_div_eq_div_mul, ← Nat.pow_add]
  have hr : Fl.rung (W / 2 ^ k) (e + k + 1074) = Fl.rung W (e + 1074) := by
    unfold Fl.rung Fl.place Fl.kept
    rw [hd, hd', show ((d : Int)).toNat = d by omega, show (((k : Int) + d)).toNat = k + d by omega, show (-(d : Int)).toNat = 0 by omega, show (-((k : Int) + d)).toNat = 0 by omega, hdiv, show (e + k + 1074 + (d : Int)).toNat = (e + 1074 + ((k : Int) + d)).toNat by omega]
  have hlost : (Fl.lost (W / 2 ^ k) (e + k + 1074) || (W % 2 ^ k != 0 || more)) = (Fl.lost W (e + 1074) || more) := by
    unfold Fl.lost
    rw [hd, hd', show ((d : Int)).toNat = d by omega, show (((k : Int) + d)).toNat = k + d by omega, ← Bool.or_assoc]
    congr 1
    have e1 := Nat.div_add_mod W (2 ^ k)
    have e2 := Nat.div_add_mod (W / 2 ^ k) (2 ^ d)
    have e3 := Nat.div_add_mod W (2 ^ (k + d))
    rw [hdiv] at e2
    have e4 : W % 2 ^ (k + d) = 2 ^ k * (W / 2 ^ k % 2 ^ d) + W % 2 ^ k := by
      rw [Nat.pow_add]
      rw [Nat.mod_mul]
      omega
    rw [e4, Bool.eq_iff_iff]
    simp only [Bool.or_eq_true, bne_iff_ne, ne_eq]
    have hp := Nat.two_pow_pos k
    constructor
    · rintro (h | h) hc
      · have : 2 ^ k * (W / 2 ^ k % 2 ^ d) ≠ 0 := Nat.mul_ne_zero (by omega) h
        omega
      · omega
    · intro h
      by_cases h1 : W / 2 ^ k % 2 ^ d = 0
      · right
        intro h2
        rw [h1, h2] at h
        exact h (by simp)
      · exact .inl h1
  unfold Fl.near
  rw [if_neg hW, if_neg hW', hr, hlost]

/-! ### quotients -/
def qX (a : Nat) : Nat := Fl.sM a * 2 ^ (53 - Fl.len (Fl.sM a))
def qE (a : Nat) : Int := Fl.sE a - ((53 - Fl.len (Fl.sM a) : Nat) : Int)
theorem qX_lt (a : Nat) : qX a < 9007199254740992 := by
  unfold qX
  have h1 := Fl.lt_len (Fl.sM a)
  have h2 := len53 (Fl.sM_lt a)
  have h3 : Fl.sM a * 2 ^ (53 - Fl.len (Fl.sM a)) < 2 ^ Fl.len (Fl.sM a) * 2 ^ (53 - Fl.len (Fl.sM a)) := Nat.mul_lt_mul_of_pos_right h1 (Nat.two_pow_pos _)
  rw [← Nat.pow_add, show Fl.len (Fl.sM a) + (53 - Fl.len (Fl.sM a)) = 53 by omega] at h3
  have h4 : (2 : Nat) ^ 53 = 9007199254740992 := by decide
  omega
theorem qX_ge (a : Nat) (h0 : Fl.sM a ≠ 0) : 4503599627370496 ≤ qX a := by
  unfold qX
  have h1 := Fl.pow_le_of_len h0
  have h2 := len53 (Fl.sM_lt a)
  have h3 := Fl.len_pos h0
  have h4 : 2 ^ (Fl.len (Fl.sM a) - 1) * 2 ^ (53 - Fl.len (Fl.sM a)) ≤ Fl.sM a * 2 ^ (53 - Fl.len (Fl.sM a)) := Nat.mul_le_mul_right _ h1
  rw [← Nat.pow_add, show Fl.len (Fl.sM a) - 1 + (53 - Fl.len (Fl.sM a)) = 52 by omega] at h4
  have h5 : (2 : Nat) ^ 52 = 4503599627370496 := by decide
  omega
theorem qX_zero (a : Nat) (h0 : Fl.sM a = 0) : qX a = 0 := by unfold qX; rw [h0, Nat.zero_mul]
theorem qE_ge (a : Nat) : -1127 ≤ qE a := by
  unfold qE
  have := Fl.sE_ge a
  omega
theorem qE_le (a : Nat) (h : Fl.fin a = true) : qE a ≤ 971 := by
  unfold qE
  have := Fl.sE_le a h
  omega
def divW (a b : Nat) : Nat := qX a * 18446744073709551616 / qX b
def divM (a b : Nat) : Bool := qX a * 18446744073709551616 % qX b != 0
def divE (a b : Nat) : Int := qE a - 64 - qE b
/-- What Div tells. -/
def divV (a b : Nat) (down : Bool) : Nat := toVal (Fl.sg a != Fl.sg b) down (divW a b) (divE a b) (divM a b)

theorem div_big (a b : Nat) (ha : Fl.sM a ≠ 0) (hb : Fl.sM b ≠ 0) : 63 < Fl.len (divW a b) := by
  refine len_ge ?_
  unfold divW
  have h1 := qX_ge a ha
  have h2 := qX_lt b
  have h3 := qX_ge b hb
  rw [Nat.le_div_iff_mul_le (by omega), show (2 : Nat) ^ 63 = 9223372036854775808 by decide]
  omega
theorem div_ok (a b : Nat) (fa : Fl.fin a = true) (fb : Fl.fin b = true) (hb : Fl.sM b ≠ 0) : RoundOk (divW a b) (divE a b) (divM a b) := by
  have h1 := qX_lt a
  have h2 := qX_ge b hb
  have e1 := qE_ge a
  have e2 := qE_le a fa
  have e3 := qE_ge b
  have e4 := qE_le b fb
  by_cases ha : Fl.sM a = 0
  · have hx := qX_zero a ha
    have e5 : qE a = -1127 := by
      unfold qE
      have := (Fl.sM_zero a).1 ha
      unfold Fl.sE
      rw [ha, Fl.len_zero, if_pos (by omega)]; rfl
    unfold divW divE divM
    rw [hx, Nat.zero_mul, Nat.zero_div, Nat.zero_mod]
    exact ⟨by omega, fun _ => rfl, (fun h => by cases h), by omega, .inl (by omega)⟩
  · have h3 := div_big a b ha hb
    have hd : 0 ≤ Fl.drop (divW a b) (divE a b + 1074) := by unfold Fl.drop; omega
    have hlt : divW a b < 340282366920938463463374607431768211456 := by
      unfold divW
      refine Nat.lt_of_le_of_lt (Nat.div_le_self _ _) ?_
      omega
    refine ⟨hlt, ?_, fun _ => hd, by unfold divE; omega, .inr ⟨hd, by unfold divE; omega⟩⟩
    intro h0
    rw [h0, Fl.len_zero] at h3
    omega

theorem cut_more0 {NW Nc R m X c : Nat} (r1 : 2 * NW + R = X * 1152921504606846976) (r2 : 32 * NW + Nc + m = X * 18446744073709551616) (hc : (c = 0 ∧ Nc = 0) ∨ (c ≠ 0 ∧ Nc ≠ 0)) : (R ≠ 0) ↔ (c ≠ 0 ∨ m ≠ 0) := by
  omega
theorem cut_more {N W' W c m R X : Nat} (r1 : 2 * N * W' + R = X * 1152921504606846976) (r2 : N * W + m = X * 18446744073709551616) (r3 : 32 * W' + c = W) (hN : 0 < N) : ((R : Int) != 0) = (c != 0 || m != 0) := by
  have k1 : N * W = 32 * (N * W') + N * c := by rw [← r3, Nat.mul_add, Nat.mul_left_comm]
  have k2 : 2 * N * W' = 2 * (N * W') := by rw [Nat.mul_assoc]
  rw [k1] at r2
  rw [k2] at r1
  have hc : (c = 0 ∧ N * c = 0) ∨ (c ≠ 0 ∧ N * c ≠ 0) := by
    by_cases h : c = 0
    · exact .inl ⟨h, by rw [h, Nat.mul_zero]⟩
    · exact .inr ⟨h, Nat.mul_ne_zero (by omega) h⟩
  have key := cut_more0 r1 r2 hc
  rw [Bool.eq_iff_iff]
  simp only [Bool.or_eq_true, bne_iff_ne, ne_eq]
  have hi : ¬ (R : Int) = 0 ↔ R ≠ 0 := by omega
  rw [hi]
  exact key
theorem tdiv_bound {x : Int} (h1 : -1190 ≤ x) (h2 : x ≤ 971) : -1000 ≤ Int.tdiv x 2 ∧ Int.tdiv x 2 ≤ 971 := by
  rcases Int.le_total 0 x with h | h
  · rw [Int.tdiv_eq_ediv_of_nonneg h]; omega
  · obtain ⟨y, rfl⟩ : ∃ y : Int, x = -y := ⟨-x, by omega⟩
    rw [Int.neg_tdiv, Int.tdiv_eq_ediv_of_nonneg (by omega)]; omega

/-- The document's quotient has five places less. -/
theorem div_cut (a b : Nat) (ha : Fl.sM a ≠ 0) (hb : Fl.sM b ≠ 0) (neg down : Bool) :
    toVal neg down (qX a * 2 ^ 60 / (2 * qX b)) (qE a - qE b - 59) (((qX a * 2 ^ 60 % (2 * qX b) : Nat) : Int) != 0) = toVal neg down (divW a b) (divE a b) (divM a b) ∧
    58 < Fl.len (qX a * 2 ^ 60 / (2 * qX b)) := by
  have hN := qX_ge b hb
  have hbig := div_big a b ha hb
  have hp : (2 : Nat) ^ 60 = 1152921504606846976 := by decide
  have h5 : (2 : Nat) ^ 5 = 32 := by decide
  have hq : qX a * 2 ^ 60 / (2 * qX b) = divW a b / 2 ^ 5 := by
    unfold divW
    rw [Nat.div_div_eq_div_mul, h5, hp]
    have e1 : qX a * 18446744073709551616 = qX a * 1152921504606846976 * 16 := by omega
    have e2 : qX b * 32 = 2 * qX b * 16 := by omega
    rw [e1, e2, Nat.mul_div_mul_right _ _ (by omega)]
  have hm : (((qX a * 2 ^ 60 % (2 * qX b) : Nat) : Int) != 0) = (divW a b % 2 ^ 5 != 0 || divM a b) := by
    have r1 := Nat.div_add_mod (qX a * 2 ^ 60) (2 * qX b)
    have r2 := Nat.div_add_mod (qX a * 18446744073709551616) (qX b)
    have r3 := Nat.div_add_mod (divW a b) (2 ^ 5)
    rw [hq] at r1
    have hdm : divM a b = (qX a * 18446744073709551616 % qX b != 0) := rfl
    have hdw : qX a * 18446744073709551616 / qX b = divW a b := rfl
    rw [hdw] at r2
    rw [hdm]
    rw [h5] at r3
    rw [hp] at r1
    exact cut_more r1 r2 r3 (by omega)
  rw [hq, hm]
  have hn := fun g => near_cut g (divW a b) (divE a b) (divM a b) 5 (by unfold Fl.drop; omega) (by omega)
  have he : qE a - qE b - 59 = divE a b + ((5 : Nat) : Int) := by unfold divE; omega
  rw [he]
  refine ⟨?_, ?_⟩
  · unfold toVal
    rw [hn]
  · rw [cut_len (by omega)]; omega

/-! ### roots -/
def rX (a : Nat) : Nat := Fl.sM a * 2 ^ (115 - Fl.len (Fl.sM a))
def rE (a : Nat) : Int := Fl.sE a - ((115 - Fl.len (Fl.sM a) : Nat) : Int)
theorem rX_lt (a : Nat) : rX a < 41538374868278621028243970633760768 := by
  unfold rX
  have h1 := Fl.lt_len (Fl.sM a)
  have h2 := len53 (Fl.sM_lt a)
  have h3 : Fl.sM a * 2 ^ (115 - Fl.len (Fl.sM a)) < 2 ^ Fl.len (Fl.sM a) * 2 ^ (115 - Fl.len (Fl.sM a)) := Nat.mul_lt_mul_of_pos_right h1 (Nat.two_pow_pos _)
  rw [← Nat.pow_add, show Fl.len (Fl.sM a) + (115 - Fl.len (Fl.sM a)) = 115 by omega] at h3
  have h4 : (2 : Nat) ^ 115 = 41538374868278621028243970633760768 := by decide
  omega
theorem rX_ge (a : Nat) (h0 : Fl.sM a ≠ 0) : 20769187434139310514121985316880384 ≤ rX a := by
  unfold rX
  have h1 := Fl.pow_le_of_len h0
  have h2 := len53 (Fl.sM_lt a)
  have h3 := Fl.len_pos h0
  have h4 : 2 ^ (Fl.len (Fl.sM a) - 1) * 2 ^ (115 - Fl.len (Fl.sM a)) ≤ Fl.sM a * 2 ^ (115 - Fl.len (Fl.sM a)) := Nat.mul_le_mul_right _ h1
  rw [← Nat.pow_add, show Fl.len (Fl.sM a) - 1 + (115 - Fl.len (Fl.sM a)) = 114 by omega] at h4
  have h5 : (2 : Nat) ^ 114 = 20769187434139310514121985316880384 := by decide
  omega
theorem rE_ge (a : Nat) : -1189 ≤ rE a := by
  unfold rE
  have := Fl.sE_ge a
  omega
theorem rE_le (a : Nat) (h : Fl.fin a = true) : rE a ≤ 971 := by
  unfold rE
  have := Fl.sE_le a h
  omega
/-- Is the power odd? -/
def rOdd (a : Nat) : Bool := Int.tmod (rE a) 2 != 0
def rM (a : Nat) : Nat := if rOdd a = true then rX a * 2 else rX a
def rP (a : Nat) : Int := if rOdd a = true then rE a - 1 else rE a
theorem rM_lt (a : Nat) : rM a < 83076749736557242056487941267521536 := by
  have := rX_lt a
  unfold rM; split <;> omega
theorem rM_ge (a : Nat) (h0 : Fl.sM a ≠ 0) : 20769187434139310514121985316880384 ≤ rM a := by
  have := rX_ge a h0
  unfold rM; split <;> omega
/-- What Sqrt tells, R the whole root. -/
def rootV (a R : Nat) (down : Bool) : Nat := toVal false down R (Int.tdiv (rP a) 2) (R * R != rM a)
theorem root_ok (a R : Nat) (hf : Fl.fin a = true) (h0 : Fl.sM a ≠ 0) (h1 : R * R ≤ rM a) (h2 : rM a < (R + 1) * (R + 1)) : RoundOk R (Int.tdiv (rP a) 2) (R * R != rM a) ∧ R < 288230376151711744 := by
  have b1 := rM_lt a
  have b2 := rM_ge a h0
  have hR1 : R < 288230376151711744 := by
    apply Nat.lt_of_not_le
    intro hh
    have : 288230376151711744 * 288230376151711744 ≤ R * R := Nat.mul_le_mul hh hh
    omega
  have hR2 : 144115188075855872 ≤ R := by
    apply Nat.le_of_not_lt
    intro hh
    have : (R + 1) * (R + 1) ≤ 144115188075855872 * 144115188075855872 := Nat.mul_le_mul hh hh
    omega
  have hl : 57 < Fl.len R := len_ge (by rw [show (2 : Nat) ^ 57 = 144115188075855872 by decide]; exact hR2)
  have e1 := rE_ge a
  have e2 := rE_le a hf
  have hP : -1190 ≤ rP a ∧ rP a ≤ 971 := by unfold rP; split <;> omega
  have hT := tdiv_bound hP.1 hP.2
  exact ⟨⟨by omega, fun h => by omega, fun _ => by unfold Fl.drop; omega, by omega, .inl hT.2⟩, hR1⟩
end Go.Proofs.Ytdgaaceebghcpaa
