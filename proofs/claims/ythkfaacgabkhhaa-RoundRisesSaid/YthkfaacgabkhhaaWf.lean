/- What layer 1's last step hands out, in terms of the word alone. -/
import Derived.Test.YthkfaacgabkhhaaWe
set_option linter.unusedVariables false
set_option linter.unusedSimpArgs false
namespace Go.Proofs.Ythkfaacgabkhhaa
open Go.RowKit Ieee

namespace Fl
/-- The magnitude at W times 2 to the e (and something more), or next to it. -/
def near (grow : Bool) (W : Nat) (e : Int) (more : Bool) : Nat :=
  if W = 0 then 0 else if grow then min (rung W (e + 1074) + (lost W (e + 1074) || more).toNat) INF else min (rung W (e + 1074)) (INF - 1)

theorem rung_fit (m q : Nat) (h0 : m ≠ 0) (hm : m ≤ 9007199254740992) (h : q = 0 ∨ 4503599627370496 ≤ m) : rung m (q : Int) = q * 4503599627370496 + m := by
  refine (rung_of_eq h0 ?_).1
  rw [rv_of q m hm h, show (-(q : Int)).toNat = 0 by omega, Nat.pow_zero, Nat.mul_one, Int.toNat_natCast]

theorem ldz_keep (W : Nat) (e : Int) (h0 : W ≠ 0) (n : Nat) (hn : drop W (e + 1074) = n) (up : Nat) (hup : up ≤ 1) :
    ldz (W / 2 ^ n + up) (e + n) = min (rung W (e + 1074) + up) INF := by
  obtain ⟨q, hq⟩ : ∃ q : Nat, place W (e + 1074) = q := ⟨_, rfl⟩
  have hq1 : e + n + 1074 = (q : Int) := by
    have := drop_ge W (e + 1074)
    unfold place at hq
    omega
  have hk : kept W (e + 1074) = W / 2 ^ n := by
    unfold kept
    rw [hn, Int.toNat_natCast, show (-(n : Int)).toNat = 0 by omega, Nat.pow_zero, Nat.mul_one]
  have hpk := place_kept W (e + 1074) h0
  have hkl := kept_lt W (e + 1074)
  rw [hq, hk] at hpk
  rw [hk] at hkl
  have hr : rung W (e + 1074) = q * 4503599627370496 + W / 2 ^ n := by unfold rung; rw [hq, hk]
  rw [hr]
  generalize W / 2 ^ n = m at *
  unfold ldz
  by_cases hm : m + up = 0
  · rw [if_pos hm]
    have h1 : q = 0 := by omega
    have h2 : m = 0 := by omega
    have h3 : up = 0 := by omega
    subst h1 h2 h3
    exact (Nat.min_eq_left (Nat.zero_le _)).symm
  · rw [if_neg hm]
    unfold ld
    rw [hq1, rung_fit (m + up) q hm (by omega) (by omega), Nat.add_assoc]

theorem min_less (R I J : Nat) (h : I = J + 1) : (if min R I = I then J else min R I) = min R (I - 1) := by
  subst h
  rw [Nat.add_sub_cancel]
  by_cases h : J + 1 ≤ R
  · rw [Nat.min_eq_right h, if_pos rfl, Nat.min_eq_right (by omega)]
  · rw [Nat.min_eq_left (by omega), if_neg (by omega), Nat.min_eq_left (by omega)]

theorem key_bool2 (Y R I : Nat) (grow : Bool) : (if (false && grow) = true then Y else min R I) = if grow then min (R + (false || false).toNat) I else min R I := by
  cases grow <;> rfl

theorem key_neg (grow : Bool) (W : Nat) (e : Int) (n : Int) (h0 : W ≠ 0) (hn : drop W (e + 1074) = n) (hneg : n < 0) :
    (if (false && grow) = true then ldz (W + 1) e else ldz W e) = if grow then min (rung W (e + 1074) + (lost W (e + 1074) || false).toNat) INF else min (rung W (e + 1074)) INF := by
  have hl : lost W (e + 1074) = false := by
    unfold lost
    rw [hn, show n.toNat = 0 by omega, Nat.pow_zero, Nat.mod_one]; rfl
  have e1 : ldz W e = min (rung W (e + 1074)) INF := by unfold ldz ld; rw [if_neg h0]
  rw [hl, e1]
  generalize ldz (W + 1) e = Y
  generalize rung W (e + 1074) = R
  generalize INF = I
  exact key_bool2 Y R I grow

theorem key_bool (R I : Nat) (grow more b : Bool) : (if ((more || b) && grow) = true then min (R + 1) I else min R I) = if grow then min (R + (b || more).toNat) I else min R I := by
  cases grow <;> cases more <;> cases b <;> rfl

theorem key_pos (grow : Bool) (W : Nat) (e : Int) (more : Bool) (k : Nat) (h0 : W ≠ 0) (hn : drop W (e + 1074) = k) :
    (if ((more || W % 2 ^ k != 0) && grow) = true then ldz (W / 2 ^ k + 1) (e + k) else ldz (W / 2 ^ k) (e + k)) = if grow then min (rung W (e + 1074) + (lost W (e + 1074) || more).toNat) INF else min (rung W (e + 1074)) INF := by
  have hl : lost W (e + 1074) = (W % 2 ^ k != 0) := by unfold lost; rw [hn, Int.toNat_natCast]
  have q0 := ldz_keep W e h0 k hn 0 (by omega)
  have q1 := ldz_keep W e h0 k hn 1 (by omega)
  rw [Nat.add_zero, Nat.add_zero] at q0
  rw [q0, q1, hl]
  exact key_bool _ _ _ _ _

theorem near_end (R I J : Nat) (h : I = J + 1) (grow b : Bool) (x : Nat) (hx : x = if grow then min (R + b.toNat) I else min R I) :
    (if x = I ∧ grow = false then J else x) = if grow then min (R + b.toNat) I else min R (I - 1) := by
  subst hx
  cases grow
  · have := min_less R I J h
    simp only [Bool.false_eq_true, if_false, and_true]
    exact this
  · simp

theorem inf_eq : INF = 9218868437227405311 + 1 := rfl

theorem near_res (grow : Bool) (W : Nat) (e : Int) (more : Bool) (n : Int) (m0 : Nat) (e' : Int) (more0 : Bool) (h0 : W ≠ 0) (hn : drop W (e + 1074) = n)
    (h : (n ≤ 0 ∧ m0 = W ∧ e' = e ∧ more0 = more ∧ (more = true → n = 0)) ∨ (0 < n ∧ m0 = W / 2 ^ n.toNat ∧ e' = e + n ∧ more0 = (more || W % 2 ^ n.toNat != 0))) (neg : Bool) :
    toRes neg grow (if (more0 && grow) = true then ldz (m0 + 1) e' else ldz m0 e') = pl (wrd neg (near grow W e more)) := by
  have key : (if (more0 && grow) = true then ldz (m0 + 1) e' else ldz m0 e') = if grow then min (rung W (e + 1074) + (lost W (e + 1074) || more).toNat) INF else min (rung W (e + 1074)) INF := by
    by_cases hneg : n < 0
    · rcases h with ⟨_, h1, h2, h3, hm⟩ | ⟨h1, _⟩
      · have hmore : more = false := by
          cases more with
          | false => rfl
          | true => have := hm rfl; omega
        rw [h1, h2, h3, hmore]
        exact key_neg grow W e n h0 hn hneg
      · omega
    · obtain ⟨k, hk⟩ : ∃ k : Nat, n = k := ⟨n.toNat, by omega⟩
      rw [hk] at hn
      have hh : m0 = W / 2 ^ k ∧ e' = e + k ∧ more0 = (more || W % 2 ^ k != 0) := by
        rcases h with ⟨h1, h2, h3, h4, _⟩ | ⟨_, h2, h3, h4⟩
        · have hk0 : k = 0 := by omega
          rw [hk0]
          refine ⟨by rw [Nat.pow_zero, Nat.div_one]; exact h2, by omega, ?_⟩
          rw [Nat.pow_zero, Nat.mod_one, h4]; simp
        · rw [hk, Int.toNat_natCast] at h2 h4
          exact ⟨h2, by omega, h4⟩
      rw [hh.1, hh.2.1, hh.2.2]
      exact key_pos grow W e more k h0 hn
  unfold toRes near
  rw [if_neg h0]
  exact congrArg (fun x => pl (wrd neg x)) (near_end _ INF 9218868437227405311 inf_eq grow _ _ key)
end Fl

theorem max_drop (W : Nat) (e : Int) : max ((Fl.len W : Int) - 53) (-1074 - e) = Fl.drop W (e + 1074) := by
  unfold Fl.drop; omega

/-- What 'to' computes. -/
def toVal (neg down : Bool) (W : Nat) (e : Int) (more : Bool) : Nat := Fl.pl (Fl.wrd neg (Fl.near (neg == down) W e more))

theorem len128 {W : Nat} (hW : W < 340282366920938463463374607431768211456) : Fl.len W ≤ 128 := Fl.len_le_of_lt (by
  have : (2 : Nat) ^ 128 = 340282366920938463463374607431768211456 := by decide
  omega)

theorem to_any (neg down : Bool) (W : Nat) (e : Int) (more : Bool) (hW : W < 340282366920938463463374607431768211456) (h0 : W = 0 → more = false) (hmore : more = true → 0 ≤ Fl.drop W (e + 1074))
    (he : -50000 ≤ e) (he2 : e ≤ 50000) (w : World) :
    Calls Try.prog 46 #[exW neg W e more, .bool down] w fun r w' => r = .returned (.float .f64 (toVal neg down W e more)) ∧ Below w.heap.size w w' := by
  obtain ⟨n, hn⟩ : ∃ n, Fl.drop W (e + 1074) = n := ⟨_, rfl⟩
  have hlen := len128 hW
  have hn1 : n ≤ 100000 := by rw [← hn]; unfold Fl.drop; omega
  have hn2 : (Fl.len W : Int) - 53 ≤ n := by rw [← hn]; unfold Fl.drop; omega
  have hn3 : -1074 - e ≤ n := by rw [← hn]; unfold Fl.drop; omega
  have hmx := (max_drop W e).trans hn
  have HL := fun w => length_any neg (W / 18446744073709551616) (W % 18446744073709551616) e more (by omega) (by omega) w
  rw [show W / 18446744073709551616 * 18446744073709551616 + W % 18446744073709551616 = W by omega] at HL
  have key : ∃ m0 e' more0, RightIs neg (W / 18446744073709551616) (W % 18446744073709551616) e more n m0 e' more0 ∧ m0 < 9007199254740992 ∧ -1074 ≤ e' ∧ e' ≤ 100000 ∧ (W = 0 → m0 = 0 ∧ more0 = false) ∧
      ((n ≤ 0 ∧ m0 = W ∧ e' = e ∧ more0 = more ∧ (more = true → n = 0)) ∨ (0 < n ∧ m0 = W / 2 ^ n.toNat ∧ e' = e + n ∧ more0 = (more || W % 2 ^ n.toNat != 0))) := by
    by_cases hc : n ≤ 0
    · have hW2 : W < 9007199254740992 := by
        have h1 := Fl.lt_len W
        have h2 := Nat.pow_le_pow_right (show 0 < 2 by decide) (show Fl.len W ≤ 53 by omega)
        have h3 : (2 : Nat) ^ 53 = 9007199254740992 := by decide
        omega
      refine ⟨W, e, more, .inl ⟨hc, by omega, rfl, rfl⟩, hW2, by omega, by omega, fun h => ⟨h, h0 h⟩, .inl ⟨hc, rfl, rfl, rfl, ?_⟩⟩
      intro hm
      have := hmore hm
      omega
    · obtain ⟨k, rfl⟩ : ∃ k : Nat, n = k := ⟨n.toNat, by omega⟩
      rw [Int.toNat_natCast]
      have hq : W / 2 ^ k < 9007199254740992 := by
        rw [Nat.div_lt_iff_lt_mul (Nat.two_pow_pos k)]
        have h1 := Fl.lt_len W
        have h2 := Nat.pow_le_pow_right (show 0 < 2 by decide) (show Fl.len W ≤ 53 + k by omega)
        rw [Nat.pow_add, show (2 : Nat) ^ 53 = 9007199254740992 by decide] at h2
        omega
      have hx : ∀ mo : Bool, exW neg (W / 2 ^ k) (e + k) mo = exv neg 0 (W / 2 ^ k) (e + k) mo := by
        intro mo
        unfold exW
        rw [Nat.div_eq_of_lt (show W / 2 ^ k < 18446744073709551616 by omega), Nat.mod_eq_of_lt (show W / 2 ^ k < 18446744073709551616 by omega)]
      refine ⟨W / 2 ^ k, e + k, (more || W % 2 ^ k != 0), ?_, hq, by omega, by omega, ?_, .inr ⟨by omega, rfl, rfl, rfl⟩⟩
      · by_cases hk : k < 128
        · refine .inr (.inl ⟨by omega, fun w => ?_⟩)
          have := right_any neg W e more k hW hk (by omega) (by omega) w
          rw [hx] at this
          exact this
        · cases more
          · refine .inr (.inr ⟨by omega, fun w => ?_⟩)
            have := right_over0 neg W e k hW (by omega) (by omega) (by omega) (by omega) w
            rw [hx] at this
            exact this
          · refine .inr (.inl ⟨by omega, fun w => ?_⟩)
            have := right_over1 neg W e k hW (by omega) (by omega) (by omega) (by omega) w
            rw [hx] at this
            exact this
      · intro hz
        rw [h0 hz, hz]
        refine ⟨Nat.zero_div _, ?_⟩
        rw [Nat.zero_mod]; rfl
  obtain ⟨m0, e', more0, HR, hm0, he', he'2, hz, hcase⟩ := key
  have HD0 : ∀ w, Calls Try.prog 76 #[.float .f64 (floatOfInt .f64 (m0 : Int)), .int .i64 e'] w fun s w' => s = .returned (.float .f64 (ldz m0 e')) ∧ w = w' := by
    intro w
    rw [ofInt_flz m0 (by omega)]
    exact ldexp_all m0 e' (by omega) he' he'2 w
  have HD1 : ∀ w, Calls Try.prog 76 #[.float .f64 (floatOfInt .f64 ((m0 : Int) + 1)), .int .i64 e'] w fun s w' => s = .returned (.float .f64 (ldz (m0 + 1) e')) ∧ w = w' := by
    intro w
    have := ofInt_flz (m0 + 1) (by omega)
    rw [show ((m0 + 1 : Nat) : Int) = (m0 : Int) + 1 by omega] at this
    rw [this]
    exact ldexp_all (m0 + 1) e' (by omega) he' he'2 w
  have main := toA neg down _ _ e more (by omega) (by omega) (by omega) (by omega) w (Fl.len W) hlen HL n hmx m0 e' more0 HR hm0 _ _ (ldz_lt m0 e') (ldz_lt (m0 + 1) e') HD0 HD1
  refine main.mono ?_
  rintro r w' ⟨rfl, hb⟩
  refine ⟨ret_float ?_, hb⟩
  unfold toVal
  by_cases hW0 : W = 0
  · obtain ⟨rfl, rfl⟩ := hz hW0
    have e1 : ldz 0 e' = 0 := by unfold ldz; rfl
    have e2 : Fl.near (neg == down) W e more = 0 := by unfold Fl.near; rw [if_pos hW0]
    rw [e2, e1]
    unfold toRes
    have e3 : ¬ ((0 : Nat) = Fl.INF ∧ (neg == down) = false) := by
      rintro ⟨h, _⟩
      exact absurd h (by decide)
    rw [Bool.false_and, if_neg Bool.false_ne_true, if_neg e3]
  · exact Fl.near_res (neg == down) W e more n m0 e' more0 hW0 hn hcase neg
end Go.Proofs.Ythkfaacgabkhhaa
