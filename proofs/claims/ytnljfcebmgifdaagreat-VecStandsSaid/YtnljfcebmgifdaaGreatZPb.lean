/- Shaken: Pb. -/
import Derived.Test.YtnljfcebmgifdaaGreatZPa
import Derived.Test.YtnljfcebmgifdaaGreatZVf
set_option linter.unusedVariables false
set_option linter.unusedSimpArgs false
namespace Go.Proofs.YtnljfcebmgifdaaGreat
theorem near_zero (g : Bool) (e : Int) (m : Bool) : Fl.near g 0 e m = 0 := by unfold Fl.near; rw [if_pos rfl]
theorem toVal_zero (neg down : Bool) (e : Int) (m : Bool) : toVal neg down 0 e m = 0 := by
 unfold toVal
 rw [near_zero]
 cases neg <;> decide
theorem sumCore_le (na nb : Bool) (A B : Nat) (ea eb : Int) (h : ea + (Fl.len A : Int) - 126 ≤ eb) :
   sumCore na nb A B ea eb = sumFin na nb (A * 2 ^ (126 - Fl.len A)) (B * 2 ^ (eb - (ea + (Fl.len A : Int) - 126)).toNat) (ea + (Fl.len A : Int) - 126) false := by
 unfold sumCore
 by_cases h1 : ea + (Fl.len A : Int) - 126 < eb
 · rw [if_pos h1]
 · rw [if_neg h1, show (eb - (ea + (Fl.len A : Int) - 126)).toNat = 0 by omega, show (ea + (Fl.len A : Int) - 126 - eb).toNat = 0 by omega, Nat.pow_zero, Nat.div_one, Nat.mul_one, Nat.mod_one]
   rfl
theorem sumCore_gt (na nb : Bool) (A B : Nat) (ea eb : Int) (h : eb < ea + (Fl.len A : Int) - 126) :
   sumCore na nb A B ea eb = sumFin na nb (A * 2 ^ (126 - Fl.len A)) (B / 2 ^ (ea + (Fl.len A : Int) - 126 - eb).toNat) (ea + (Fl.len A : Int) - 126) (B % 2 ^ (ea + (Fl.len A : Int) - 126 - eb).toNat != 0) := by
 unfold sumCore
 rw [if_neg (by omega)]
def toS (down : Bool) (s : Bool × Nat × Int × Bool) : Nat := toVal s.1 down s.2.1 s.2.2.1 s.2.2.2
theorem sumFin_comm (down na nb : Bool) (A1 B1 : Nat) (e1 : Int) : toS down (sumFin na nb A1 B1 e1 false) = toS down (sumFin nb na B1 A1 e1 false) := by
 unfold sumFin
 by_cases hs : (na == nb) = true
 · have hs' : (nb == na) = true := by revert hs; cases na <;> cases nb <;> decide
   have hn : na = nb := by revert hs; cases na <;> cases nb <;> decide
   rw [if_pos hs, if_pos hs', Nat.add_comm, hn]
 · have hs' : ¬ (nb == na) = true := by revert hs; cases na <;> cases nb <;> decide
   rw [if_neg hs, if_neg hs', if_neg Bool.false_ne_true, if_neg Bool.false_ne_true]
   by_cases h1 : A1 < B1
   · rw [if_pos h1, if_neg (by omega), Nat.sub_zero]
   · rw [if_neg h1]
     by_cases h2 : B1 < A1
     · rw [if_pos h2, Nat.sub_zero]
     · rw [if_neg h2, show A1 - B1 - 0 = 0 by omega, show B1 - A1 - 0 = 0 by omega]
       unfold toS
       dsimp only
       rw [toVal_zero, toVal_zero]
theorem sumOf_comm (down na nb : Bool) (A B : Nat) (ea eb : Int) (hA : A < 9007199254740992) (hB : B < 9007199254740992) : toS down (sumOf na nb A B ea eb) = toS down (sumOf nb na B A eb ea) := by
 unfold sumOf
 by_cases hA0 : A = 0
 · by_cases hB0 : B = 0
   · rw [if_pos hA0, if_pos hB0]
     unfold toS
     dsimp only
     rw [hA0, hB0, toVal_zero, toVal_zero]
   · rw [if_pos hA0, if_neg hB0, if_pos hA0]
 · by_cases hB0 : B = 0
   · rw [if_neg hA0, if_pos hB0, if_pos hB0]
   · rw [if_neg hA0, if_neg hB0, if_neg hB0, if_neg hA0]
     by_cases h1 : ea + (Fl.len A : Int) < eb + (Fl.len B : Int)
     · rw [if_pos h1, if_neg (by omega)]
     · by_cases h2 : eb + (Fl.len B : Int) < ea + (Fl.len A : Int)
       · rw [if_neg h1, if_pos h2]
       · rw [if_neg h1, if_neg h2]
         have l1 := len53 hA
         have l2 := len53 hB
         rw [sumCore_le na nb A B ea eb (by omega), sumCore_le nb na B A eb ea (by omega), show (eb - (ea + (Fl.len A : Int) - 126)).toNat = 126 - Fl.len B by omega, show (ea - (eb + (Fl.len B : Int) - 126)).toNat = 126 - Fl.len A by omega,
           show eb + (Fl.len B : Int) - 126 = ea + (Fl.len A : Int) - 126 by omega]
         exact sumFin_comm down na nb _ _ _
def qX (a : Nat) : Nat := Fl.sM a * 2 ^ (53 - Fl.len (Fl.sM a))
def qE (a : Nat) : Int := Fl.sE a - ((53 - Fl.len (Fl.sM a) : Nat) : Int)
theorem qX_lt (a : Nat) : qX a < 9007199254740992 := by
 unfold qX
 have h1 := Fl.lt_len (Fl.sM a)
 have h2 := len53 (Fl.sM_lt a)
 have h3 : Fl.sM a * 2 ^ (53 - Fl.len (Fl.sM a)) < 2 ^ Fl.len (Fl.sM a) * 2 ^ (53 - Fl.len (Fl.sM a)) := Nat.mul_lt_mul_of_pos_right h1 (Nat.two_pow_pos _)
 rw [← Nat.pow_add, show Fl.len (Fl.sM a) + (53 - Fl.len (Fl.sM a)) = 53 by omega] at h3
 have h4 : (2 : Nat) ^ 53 = 9007199254740992 := by decide
 omega
theorem qX_ge (a : Nat) (h0 : Fl.sM a ≠ 0) : 4503599627370496 ≤ qX a := by
 unfold qX
 have h1 := Fl.pow_le_of_len h0
 have h2 := len53 (Fl.sM_lt a)
 have h3 := Fl.len_pos h0
 have h4 : 2 ^ (Fl.len (Fl.sM a) - 1) * 2 ^ (53 - Fl.len (Fl.sM a)) ≤ Fl.sM a * 2 ^ (53 - Fl.len (Fl.sM a)) := Nat.mul_le_mul_right _ h1
 rw [← Nat.pow_add, show Fl.len (Fl.sM a) - 1 + (53 - Fl.len (Fl.sM a)) = 52 by omega] at h4
 have h5 : (2 : Nat) ^ 52 = 4503599627370496 := by decide
 omega
theorem qX_zero (a : Nat) (h0 : Fl.sM a = 0) : qX a = 0 := by unfold qX; rw [h0, Nat.zero_mul]
theorem qE_ge (a : Nat) : -1127 ≤ qE a := by
 unfold qE
 have := Fl.sE_ge a
 omega
theorem qE_le (a : Nat) (h : Fl.fin a = true) : qE a ≤ 971 := by
 unfold qE
 have := Fl.sE_le a h
 omega
def divW (a b : Nat) : Nat := qX a * 18446744073709551616 / qX b
def divM (a b : Nat) : Bool := qX a * 18446744073709551616 % qX b != 0
def divE (a b : Nat) : Int := qE a - 64 - qE b
/-- What Div tells. -/
def divV (a b : Nat) (down : Bool) : Nat := toVal (Fl.sg a != Fl.sg b) down (divW a b) (divE a b) (divM a b)
theorem div_big (a b : Nat) (ha : Fl.sM a ≠ 0) (hb : Fl.sM b ≠ 0) : 63 < Fl.len (divW a b) := by
 refine len_ge ?_
 unfold divW
 have h1 := qX_ge a ha
 have h2 := qX_lt b
 have h3 := qX_ge b hb
 rw [Nat.le_div_iff_mul_le (by omega), show (2 : Nat) ^ 63 = 9223372036854775808 by decide]
 omega
theorem div_ok (a b : Nat) (fa : Fl.fin a = true) (fb : Fl.fin b = true) (hb : Fl.sM b ≠ 0) : RoundOk (divW a b) (divE a b) (divM a b) := by
 have h1 := qX_lt a
 have h2 := qX_ge b hb
 have e1 := qE_ge a
 have e2 := qE_le a fa
 have e3 := qE_ge b
 have e4 := qE_le b fb
 by_cases ha : Fl.sM a = 0
 · have hx := qX_zero a ha
   have e5 : qE a = -1127 := by
     unfold qE
     have := (Fl.sM_zero a).1 ha
     unfold Fl.sE
     rw [ha, Fl.len_zero, if_pos (by omega)]; rfl
   unfold divW divE divM
   rw [hx, Nat.zero_mul, Nat.zero_div, Nat.zero_mod]
   exact ⟨by omega, fun _ => rfl, (fun h => by cases h), by omega, .inl (by omega)⟩
 · have h3 := div_big a b ha hb
   have hd : 0 ≤ Fl.drop (divW a b) (divE a b + 1074) := by unfold Fl.drop; omega
   have hlt : divW a b < 340282366920938463463374607431768211456 := by
     unfold divW
     refine Nat.lt_of_le_of_lt (Nat.div_le_self _ _) ?_
     omega
   refine ⟨hlt, ?_, fun _ => hd, by unfold divE; omega, .inr ⟨hd, by unfold divE; omega⟩⟩
   intro h0
   rw [h0, Fl.len_zero] at h3
   omega
theorem tdiv_bound {x : Int} (h1 : -1190 ≤ x) (h2 : x ≤ 971) : -1000 ≤ Int.tdiv x 2 ∧ Int.tdiv x 2 ≤ 971 := by
 rcases Int.le_total 0 x with h | h
 · rw [Int.tdiv_eq_ediv_of_nonneg h]; omega
 · obtain ⟨y, rfl⟩ : ∃ y : Int, x = -y := ⟨-x, by omega⟩
   rw [Int.neg_tdiv, Int.tdiv_eq_ediv_of_nonneg (by omega)]; omega
def rX (a : Nat) : Nat := Fl.sM a * 2 ^ (115 - Fl.len (Fl.sM a))
def rE (a : Nat) : Int := Fl.sE a - ((115 - Fl.len (Fl.sM a) : Nat) : Int)
theorem rX_lt (a : Nat) : rX a < 41538374868278621028243970633760768 := by
 unfold rX
 have h1 := Fl.lt_len (Fl.sM a)
 have h2 := len53 (Fl.sM_lt a)
 have h3 : Fl.sM a * 2 ^ (115 - Fl.len (Fl.sM a)) < 2 ^ Fl.len (Fl.sM a) * 2 ^ (115 - Fl.len (Fl.sM a)) := Nat.mul_lt_mul_of_pos_right h1 (Nat.two_pow_pos _)
 rw [← Nat.pow_add, show Fl.len (Fl.sM a) + (115 - Fl.len (Fl.sM a)) = 115 by omega] at h3
 have h4 : (2 : Nat) ^ 115 = 41538374868278621028243970633760768 := by decide
 omega
theorem rX_ge (a : Nat) (h0 : Fl.sM a ≠ 0) : 20769187434139310514121985316880384 ≤ rX a := by
 unfold rX
 have h1 := Fl.pow_le_of_len h0
 have h2 := len53 (Fl.sM_lt a)
 have h3 := Fl.len_pos h0
 have h4 : 2 ^ (Fl.len (Fl.sM a) - 1) * 2 ^ (115 - Fl.len (Fl.sM a)) ≤ Fl.sM a * 2 ^ (115 - Fl.len (Fl.sM a)) := Nat.mul_le_mul_right _ h1
 rw [← Nat.pow_add, show Fl.len (Fl.sM a) - 1 + (115 - Fl.len (Fl.sM a)) = 114 by omega] at h4
 have h5 : (2 : Nat) ^ 114 = 20769187434139310514121985316880384 := by decide
 omega
theorem rE_ge (a : Nat) : -1189 ≤ rE a := by
 unfold rE
 have := Fl.sE_ge a
 omega
theorem rE_le (a : Nat) (h : Fl.fin a = true) : rE a ≤ 971 := by
 unfold rE
 have := Fl.sE_le a h
 omega
/-- Is the power odd? -/
def rOdd (a : Nat) : Bool := Int.tmod (rE a) 2 != 0
def rM (a : Nat) : Nat := if rOdd a = true then rX a * 2 else rX a
def rP (a : Nat) : Int := if rOdd a = true then rE a - 1 else rE a
theorem rM_lt (a : Nat) : rM a < 83076749736557242056487941267521536 := by
 have := rX_lt a
 unfold rM; split <;> omega
theorem rM_ge (a : Nat) (h0 : Fl.sM a ≠ 0) : 20769187434139310514121985316880384 ≤ rM a := by
 have := rX_ge a h0
 unfold rM; split <;> omega
/-- What Sqrt tells, R the whole root. -/
def rootV (a R : Nat) (down : Bool) : Nat := toVal false down R (Int.tdiv (rP a) 2) (R * R != rM a)
theorem root_ok (a R : Nat) (hf : Fl.fin a = true) (h0 : Fl.sM a ≠ 0) (h1 : R * R ≤ rM a) (h2 : rM a < (R + 1) * (R + 1)) : RoundOk R (Int.tdiv (rP a) 2) (R * R != rM a) ∧ R < 288230376151711744 := by
 have b1 := rM_lt a
 have b2 := rM_ge a h0
 have hR1 : R < 288230376151711744 := by
   apply Nat.lt_of_not_le
   intro hh
   have : 288230376151711744 * 288230376151711744 ≤ R * R := Nat.mul_le_mul hh hh
   omega
 have hR2 : 144115188075855872 ≤ R := by
   apply Nat.le_of_not_lt
   intro hh
   have : (R + 1) * (R + 1) ≤ 144115188075855872 * 144115188075855872 := Nat.mul_le_mul hh hh
   omega
 have hl : 57 < Fl.len R := len_ge (by rw [show (2 : Nat) ^ 57 = 144115188075855872 by decide]; exact hR2)
 have e1 := rE_ge a
 have e2 := rE_le a hf
 have hP : -1190 ≤ rP a ∧ rP a ≤ 971 := by unfold rP; split <;> omega
 have hT := tdiv_bound hP.1 hP.2
 exact ⟨⟨by omega, fun h => by omega, fun _ => by unfold Fl.drop; omega, by omega, .inl hT.2⟩, hR1⟩
end Go.Proofs.YtnljfcebmgifdaaGreat
