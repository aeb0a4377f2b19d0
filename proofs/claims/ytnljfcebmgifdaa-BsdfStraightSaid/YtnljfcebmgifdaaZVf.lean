/- Shaken: Vf. -/
import Derived.Test.YtnljfcebmgifdaaZGv
import Derived.Test.YtnljfcebmgifdaaZGw
set_option linter.unusedVariables false
set_option linter.unusedSimpArgs false
namespace Go.Proofs.Ytnljfcebmgifdaa
open Go.RowKit Ieee
namespace Fl
theorem near_raw (grow : Bool) (W : Nat) (e : Int) (more : Bool) (n : Int) (m0 : Nat) (e' : Int) (more0 : Bool) (h0 : W ≠ 0) (hn : drop W (e + 1074) = n)
   (h : (n ≤ 0 ∧ m0 = W ∧ e' = e ∧ more0 = more ∧ (more = true → n = 0)) ∨ (0 < n ∧ m0 = W / 2 ^ n.toNat ∧ e' = e + n ∧ more0 = (more || W % 2 ^ n.toNat != 0))) (x : Nat) (hx : x = if (more0 && grow) = true then ldz (m0 + 1) e' else ldz m0 e') :
   (if x = INF ∧ grow = false then 9218868437227405311 else x) = near grow W e more := by
 have key : (if (more0 && grow) = true then ldz (m0 + 1) e' else ldz m0 e') = if grow then min (rung W (e + 1074) + (lost W (e + 1074) || more).toNat) INF else min (rung W (e + 1074)) INF := by
   by_cases hneg : n < 0
   · rcases h with ⟨_, h1, h2, h3, hm⟩ | ⟨h1, _⟩
     · have hmore : more = false := by
         cases more with
         | false => rfl
         | true => have := hm rfl; omega
       rw [h1, h2, h3, hmore]
       exact key_neg grow W e n h0 hn hneg
     · omega
   · obtain ⟨k, hk⟩ : ∃ k : Nat, n = k := ⟨n.toNat, by omega⟩
     rw [hk] at hn
     have hh : m0 = W / 2 ^ k ∧ e' = e + k ∧ more0 = (more || W % 2 ^ k != 0) := by
       rcases h with ⟨h1, h2, h3, h4, _⟩ | ⟨_, h2, h3, h4⟩
       · have hk0 : k = 0 := by omega
         rw [hk0]
         refine ⟨by rw [Nat.pow_zero, Nat.div_one]; exact h2, by omega, ?_⟩
         rw [Nat.pow_zero, Nat.mod_one, h4]; simp
       · rw [hk, Int.toNat_natCast] at h2 h4
         exact ⟨h2, by omega, h4⟩
     rw [hh.1, hh.2.1, hh.2.2]
     exact key_pos grow W e more k h0 hn
 unfold near
 rw [if_neg h0, hx]
 exact near_end _ INF 9218868437227405311 inf_eq grow _ _ key
end Fl
theorem down_or (W : Nat) (e : Int) (more : Bool) (n : Int) (hW : W < 340282366920938463463374607431768211456) (hn : Fl.drop W (e + 1074) = n) (he : -50000 ≤ e) (he2 : e ≤ 50000) :
   ∃ m0 e' more0, (∀ w, Calls Try.prog 148 #[wdW W e more, .int .i64 n] w fun r w' => r = .returned (wdv 0 m0 e' more0) ∧ ∃ k o o', w' = ((w.alloc o).alloc o').drewN k) ∧ m0 < 9007199254740992 ∧ -1074 ≤ e' ∧ e' ≤ 100000 ∧
     ((n ≤ 0 ∧ m0 = W ∧ e' = e ∧ more0 = more) ∨ (0 < n ∧ m0 = W / 2 ^ n.toNat ∧ e' = e + n ∧ more0 = (more || W % 2 ^ n.toNat != 0))) := by
 have hlen := len128 hW
 have hn1 : n ≤ 60000 := by rw [← hn]; unfold Fl.drop; omega
 have hn2 : (Fl.len W : Int) - 53 ≤ n := by rw [← hn]; unfold Fl.drop; omega
 have hn3 : -1074 - e ≤ n := by rw [← hn]; unfold Fl.drop; omega
 have hn4 : e + n ≤ 60000 := by rw [← hn]; unfold Fl.drop; omega
 by_cases hc : n ≤ 0
 · have hW2 : W < 9007199254740992 := by
     have h1 := Fl.lt_len W
     have h2 := Nat.pow_le_pow_right (show 0 < 2 by decide) (show Fl.len W ≤ 53 by omega)
     have h3 : (2 : Nat) ^ 53 = 9007199254740992 := by decide
     omega
   refine ⟨W, e, more, fun w => ?_, hW2, by omega, by omega, .inl ⟨hc, rfl, rfl, rfl⟩⟩
   have := down_none (W / 18446744073709551616) (W % 18446744073709551616) e more n hc w
   rw [Nat.div_eq_of_lt (show W < 18446744073709551616 by omega), Nat.mod_eq_of_lt (show W < 18446744073709551616 by omega)] at this
   unfold wdW
   rw [Nat.div_eq_of_lt (show W < 18446744073709551616 by omega), Nat.mod_eq_of_lt (show W < 18446744073709551616 by omega)]
   exact this
 · obtain ⟨k, rfl⟩ : ∃ k : Nat, n = k := ⟨n.toNat, by omega⟩
   rw [Int.toNat_natCast]
   have hq : W / 2 ^ k < 9007199254740992 := by
     rw [Nat.div_lt_iff_lt_mul (Nat.two_pow_pos k)]
     have h1 := Fl.lt_len W
     have h2 := Nat.pow_le_pow_right (show 0 < 2 by decide) (show Fl.len W ≤ 53 + k by omega)
     rw [Nat.pow_add, show (2 : Nat) ^ 53 = 9007199254740992 by decide] at h2
     omega
   refine ⟨W / 2 ^ k, e + k, (more || W % 2 ^ k != 0), fun w => ?_, hq, by omega, by omega, .inr ⟨by omega, rfl, rfl, rfl⟩⟩
   have := down_any W e more k hW (by omega) (by omega) (by omega) (by omega) w
   have hx : wdW (W / 2 ^ k) (e + k) (more || W % 2 ^ k != 0) = wdv 0 (W / 2 ^ k) (e + k) (more || W % 2 ^ k != 0) := by
     unfold wdW
     rw [Nat.div_eq_of_lt (show W / 2 ^ k < 18446744073709551616 by omega), Nat.mod_eq_of_lt (show W / 2 ^ k < 18446744073709551616 by omega)]
   rw [hx] at this
   exact this
theorem wlen_small (m : Nat) (hm : m < 18446744073709551616) (x : Int) (hx : x = (m : Int)) (w : World) : Calls Try.prog 144 #[.agg #[.int .u64 0, .int .u64 x, .int .i64 0, .bool false]] w fun r w' => r = .returned (.int .i64 (Fl.len m : Int)) ∧ ∃ o, w' = w.alloc o := by
 subst hx
 have := wlen_any 0 m 0 false (by omega) hm w
 rw [Nat.zero_mul, Nat.zero_add] at this
 exact this
theorem near_any (grow : Bool) (W : Nat) (e : Int) (more : Bool) (hW : W < 340282366920938463463374607431768211456) (hz : W = 0 → more = false) (hmore : more = true → 0 ≤ Fl.drop W (e + 1074))
   (he : -50000 ≤ e) (he2 : e ≤ 50000) (h971 : e ≤ 971 ∨ 0 ≤ Fl.drop W (e + 1074)) (w : World) :
   Calls Try.prog 161 #[wdW W e more, .bool grow] w fun r w' => r = .returned (.float .f64 (Fl.near grow W e more)) ∧ Below w.heap.size w w' := by
 obtain ⟨n, hn⟩ : ∃ n, Fl.drop W (e + 1074) = n := ⟨_, rfl⟩
 have hlen := len128 hW
 have hdr : n = max ((Fl.len W : Int) - 53) (-1074 - e) := by rw [← hn]; exact (max_drop W e).symm
 obtain ⟨m0, e', more0, HD, hm0, he', he'2, hc⟩ := down_or W e more n hW hn he he2
 have HL0 : ∀ w, Calls Try.prog 144 #[wdW W e more] w fun r w' => r = .returned (.int .i64 (Fl.len W : Int)) ∧ ∃ o, w' = w.alloc o := by
   intro w
   have := wlen_any (W / 18446744073709551616) (W % 18446744073709551616) e more (by omega) (by omega) w
   rw [show W / 18446744073709551616 * 18446744073709551616 + W % 18446744073709551616 = W by omega] at this
   exact this
 have HD' : ∀ (x : Int), ((Fl.len W : Int) - 53 ≤ x ∧ -1074 - e ≤ x ∧ (x = (Fl.len W : Int) - 53 ∨ x = -1074 - e)) → ∀ w, Calls Try.prog 148 #[wdW W e more, .int .i64 x] w fun r w' => r = .returned (wdv 0 m0 e' more0) ∧ ∃ k o o', w' = ((w.alloc o).alloc o').drewN k := by
   intro x hx
   have : x = n := by omega
   rw [this]
   exact HD
 have hc' : (n ≤ 0 ∧ m0 = W ∧ e' = e ∧ more0 = more ∧ (more = true → n = 0)) ∨ (0 < n ∧ m0 = W / 2 ^ n.toNat ∧ e' = e + n ∧ more0 = (more || W % 2 ^ n.toNat != 0)) := by
   rcases hc with ⟨a, b, c, d⟩ | h
   · exact .inl ⟨a, b, c, d, fun h => by have := hmore h; omega⟩
   · exact .inr h
 have hb := Lib.hid (show (-100000 : Int) ≤ e ∧ e ≤ 100000 from ⟨by omega, by omega⟩)
 -- what is handed out
 obtain ⟨m1, hm1⟩ : ∃ m1, m1 = if (more0 && grow) = true then m0 + 1 else m0 := ⟨_, rfl⟩
 have hm1b : m1 ≤ 9007199254740992 := by rw [hm1]; split <;> omega
 have hx : ldz m1 e' = if (more0 && grow) = true then ldz (m0 + 1) e' else ldz m0 e' := by rw [hm1]; split <;> rfl
 have hval : (if ldz m1 e' = Fl.INF ∧ grow = false then 9218868437227405311 else ldz m1 e') = Fl.near grow W e more := by
   by_cases hW0 : W = 0
   · have hmf := hz hW0
     have h00 : m0 = 0 ∧ more0 = false := by
       rcases hc' with ⟨_, b, _, d, _⟩ | ⟨_, b, _, d⟩
       · rw [b, d]; exact ⟨hW0, hmf⟩
       · rw [b, d, hW0, hmf, Nat.zero_div, Nat.zero_mod]; exact ⟨rfl, rfl⟩
     have hm10 : m1 = 0 := by rw [hm1, h00.1, h00.2]; rfl
     have e1 : ldz m1 e' = 0 := by rw [hm10]; rfl
     have e3 : ¬ ((0 : Nat) = Fl.INF ∧ grow = false) := by
       rintro ⟨h, _⟩
       exact absurd h (by decide)
     rw [e1, if_neg e3]
     unfold Fl.near
     rw [if_pos hW0]
   · exact Fl.near_raw grow W e more n m0 e' more0 hW0 hn hc' _ hx
 have h971' : m1 ≠ 0 → (Fl.len m1 : Int) - 1 + e' ≤ 1023 → e' ≤ 971 := by
   intro h1 h2
   rcases hc' with ⟨a, b, c, d, _⟩ | ⟨a, b, c, d⟩
   · rcases h971 with h | h
     · omega
     · have hn0 : n = 0 := by omega
       have hge : m0 ≤ m1 := by rw [hm1]; split <;> omega
       by_cases hl : (Fl.len W : Int) - 53 = 0
       · have h53 : 53 ≤ Fl.len m1 := by
           have hW0 : W ≠ 0 := by intro e0; rw [e0, Fl.len_zero] at hl; omega
           have g1 := Fl.pow_le_of_len hW0
           rw [show Fl.len W - 1 = 52 by omega] at g1
           apply Nat.le_of_not_lt
           intro hlt
           have g2 := Fl.lt_len m1
           have g3 := Nat.pow_le_pow_right (show 0 < 2 by decide) (show Fl.len m1 ≤ 52 by omega)
           omega
         omega
       · omega
   · by_cases hl : n = (Fl.len W : Int) - 53
     · have hge : m0 ≤ m1 := by rw [hm1]; split <;> omega
       have hW0 : W ≠ 0 := by intro e0; rw [e0, Fl.len_zero] at hl; omega
       have g0 := Fl.len_div_pow (n := W) n.toNat (by omega)
       have g1 : 53 = Fl.len m0 := by rw [b, g0]; omega
       have h53 : 53 ≤ Fl.len m1 := by
         have hm00 : m0 ≠ 0 := by intro e0; rw [e0, Fl.len_zero] at g1; omega
         have g2 := Fl.pow_le_of_len hm00
         rw [← g1] at g2
         apply Nat.le_of_not_lt
         intro hlt
         have g3 := Fl.lt_len m1
         have g4 := Nat.pow_le_pow_right (show 0 < 2 by decide) (show Fl.len m1 ≤ 52 by omega)
         omega
       omega
     · omega
 rw [← hval]
 have hmz : ∀ m : Nat, ((m : Int) == 0) = decide (m = 0) := by
   intro m; cases m <;> rfl
 have hmz1 : ∀ m : Nat, (((m : Int) + 1) == 0) = false := by
   intro m; cases m <;> rfl
 have hgt : ∀ hh : 1023 < (Fl.len m1 : Int) - 1 + e', m1 ≠ 0 → ldz m1 e' = Fl.INF := by
   intro hh h1
   unfold ldz
   rw [if_neg h1]
   exact Fl.ld_great h1 (by omega)
 have hle : ∀ hh : (Fl.len m1 : Int) - 1 + e' ≤ 1023, m1 ≠ 0 → ldz m1 e' ≠ Fl.INF := by
   intro hh h1 hc
   unfold ldz Fl.ld at hc
   rw [if_neg h1, Nat.min_eq_left (Nat.le_of_lt (Fl.rung_top m1 e' h1 hh he'))] at hc
   have := Fl.rung_top m1 e' h1 hh he'
   omega
 have hL1 : Fl.len m1 ≤ 128 := by
   have : Fl.len m1 ≤ 54 := Fl.len_le_of_lt (by rw [show (2 : Nat) ^ 54 = 18014398509481984 by decide]; omega)
   omega
 by_cases h1 : m1 = 0
 · have e1 : ldz m1 e' = 0 := by rw [h1]; rfl
   have e3 : ¬ ((0 : Nat) = Fl.INF ∧ grow = false) := by
     rintro ⟨h, _⟩
     exact absurd h (by decide)
   rw [e1, if_neg e3]
   cases more0
   · have : m0 = 0 := by rw [Bool.false_and, if_neg Bool.false_ne_true] at hm1; omega
     exact near_f_Z _ _ e more grow hb.out.1 hb.out.2 _ hlen HL0 m0 hm0 e' he' he'2 HD' (by rw [hmz]; exact decide_eq_true this) w
   · cases grow
     · have : m0 = 0 := by rw [Bool.and_false, if_neg Bool.false_ne_true] at hm1; omega
       exact near_tf_Z _ _ e more hb.out.1 hb.out.2 _ hlen HL0 m0 hm0 e' he' he'2 HD' (by rw [hmz]; exact decide_eq_true this) w
     · rw [Bool.true_and, if_pos rfl] at hm1; omega
 · by_cases h2 : 1023 < (Fl.len m1 : Int) - 1 + e'
   · rw [hgt h2 h1]
     cases more0
     · have hmm : m1 = m0 := by rw [hm1, Bool.false_and, if_neg Bool.false_ne_true]
       rw [hmm] at h1 h2 hL1
       cases grow
       · exact near_f_IM _ _ e more hb.out.1 hb.out.2 _ hlen HL0 m0 hm0 e' he' he'2 HD' (by rw [hmz]; exact decide_eq_false h1) _ hL1 (wlen_small m0 (by omega) _ rfl) h2 w
       · exact near_f_IG _ _ e more hb.out.1 hb.out.2 _ hlen HL0 m0 hm0 e' he' he'2 HD' (by rw [hmz]; exact decide_eq_false h1) _ hL1 (wlen_small m0 (by omega) _ rfl) h2 w
     · cases grow
       · have hmm : m1 = m0 := by rw [hm1, Bool.and_false, if_neg Bool.false_ne_true]
         rw [hmm] at h1 h2 hL1
         exact near_tf_IM _ _ e more hb.out.1 hb.out.2 _ hlen HL0 m0 hm0 e' he' he'2 HD' (by rw [hmz]; exact decide_eq_false h1) _ hL1 (wlen_small m0 (by omega) _ rfl) h2 w
       · have hmm : m1 = m0 + 1 := by rw [hm1, Bool.true_and, if_pos rfl]
         rw [hmm] at h1 h2 hL1
         exact near_tt_IG _ _ e more hb.out.1 hb.out.2 _ hlen HL0 m0 hm0 e' he' he'2 HD' (hmz1 m0) _ hL1 (wlen_small (m0 + 1) (by omega) _ (by omega)) h2 w
   · have h2' : (Fl.len m1 : Int) - 1 + e' ≤ 1023 := by omega
     have h3 := h971' h1 h2'
     rw [if_neg (fun hh => hle h2' h1 hh.1)]
     have hmul := mul_ldz m1 e' h1 hm1b he' (by omega) h2'
     cases more0
     · have hmm : m1 = m0 := by rw [hm1, Bool.false_and, if_neg Bool.false_ne_true]
       rw [hmm] at h1 h2' hL1 hmul ⊢
       exact near_f_F _ _ e more grow hb.out.1 hb.out.2 _ hlen HL0 m0 hm0 e' he' he'2 HD' (by rw [hmz]; exact decide_eq_false h1) _ hL1 (wlen_small m0 (by omega) _ rfl) h2' h3 _ _ (power_any e' he' (by omega)) hmul w
     · cases grow
       · have hmm : m1 = m0 := by rw [hm1, Bool.and_false, if_neg Bool.false_ne_true]
         rw [hmm] at h1 h2' hL1 hmul ⊢
         exact near_tf_F _ _ e more hb.out.1 hb.out.2 _ hlen HL0 m0 hm0 e' he' he'2 HD' (by rw [hmz]; exact decide_eq_false h1) _ hL1 (wlen_small m0 (by omega) _ rfl) h2' h3 _ _ (power_any e' he' (by omega)) hmul w
       · have hmm : m1 = m0 + 1 := by rw [hm1, Bool.true_and, if_pos rfl]
         rw [hmm] at h1 h2' hL1 hmul ⊢
         rw [show ((m0 + 1 : Nat) : Int) = (m0 : Int) + 1 by omega] at hmul
         exact near_tt_F _ _ e more hb.out.1 hb.out.2 _ hlen HL0 m0 hm0 e' he' he'2 HD' (hmz1 m0) _ hL1 (wlen_small (m0 + 1) (by omega) _ (by omega)) h2' h3 _ _ (power_any e' he' (by omega)) hmul w
end Go.Proofs.Ytnljfcebmgifdaa
namespace Go.Proofs.Ytnljfcebmgifdaa
open Go.RowKit Ieee
theorem below_in1 {w w' : World} {o : Obj} (h : Below (w.alloc o).heap.size (w.alloc o) w') : Below w.heap.size w w' := (below_new w o).trans (h.mono (by simp))
theorem rto_pos (W : Nat) (e : Int) (more down : Bool) (x : Nat) (HN : ∀ w, Calls Try.prog 161 #[wdW W e more, .bool (false == down)] w fun r w' => r = .returned (.float .f64 x) ∧ Below w.heap.size w w') (w : World) :
   Calls Try.prog 147 #[wdW W e more, .bool false, .bool down] w fun r w' => r = .returned (.float .f64 x) ∧ Below w.heap.size w w' := by
 have HN' := Lib.hid HN
 clear HN
 generalize hb : (false == down) = b at *
 have hb' := Lib.hid hb
 go_enter Try.func147, Try.ntmps147
 go_wp2_with fail
 refine (HN'.out _).mono ?_
 rintro r w' ⟨rfl, hw⟩
 have HW := Lib.hid hw
 clear hw
 go_wp2_with fail
 go_ret
 exact ⟨rfl, below_in1 HW.out⟩
theorem rto_neg (W : Nat) (e : Int) (more down : Bool) (x y z : Nat) (HN : ∀ w, Calls Try.prog 161 #[wdW W e more, .bool (true == down)] w fun r w' => r = .returned (.float .f64 x) ∧ Below w.heap.size w w')
   (hs : floatBits .sub .f64 0 x = some y) (HZ : ∀ w, Calls Try.prog 92 #[.float .f64 y] w fun r w' => r = .returned (.float .f64 z) ∧ w = w') (w : World) :
   Calls Try.prog 147 #[wdW W e more, .bool true, .bool down] w fun r w' => r = .returned (.float .f64 z) ∧ Below w.heap.size w w' := by
 have HN' := Lib.hid HN
 have HZ' := Lib.hid HZ
 clear HN HZ
 have hr := fun (t : TypeId) (w : World) => run_float_arith (P := Try.prog) w .sub t .f64 _ _ _ hs
 clear hs
 generalize hb : (true == down) = b at *
 have hb' := Lib.hid hb
 go_enter Try.func147, Try.ntmps147
 go_wp2_with fail
 refine (HN'.out _).mono ?_
 rintro r w' ⟨rfl, hw⟩
 have HW := Lib.hid hw
 clear hw
 go_wp2_with fail
 refine (HZ'.out _).mono ?_
 rintro r w2 ⟨rfl, rfl⟩
 go_wp2_with fail
 go_ret
 exact ⟨rfl, below_in1 HW.out⟩
theorem flip_pos {r : Nat} (h : r ≤ Fl.INF) (h0 : r ≠ 0) : Fl.flip r = Fl.wrd true r := by
 have hs : r < Fl.SGN := Nat.lt_of_le_of_lt h Fl.inf_sgn
 have hm : Fl.mg r = r := Nat.mod_eq_of_lt hs
 have e1 : Fl.sg r = false := decide_eq_false (by omega)
 unfold Fl.flip
 rw [hm, e1]; rfl
theorem near_le (grow : Bool) (W : Nat) (e : Int) (more : Bool) : Fl.near grow W e more ≤ Fl.INF := by
 unfold Fl.near
 split
 · exact Nat.zero_le _
 · split
   · exact Nat.min_le_right _ _
   · exact Nat.le_trans (Nat.min_le_right _ _) (Nat.sub_le _ _)
theorem pos_nan {r : Nat} (h : r ≤ Fl.INF) : r < 18446744073709551616 ∧ Fl.nan r = false ∧ Fl.mg r = r := by
 have hs : r < Fl.SGN := Nat.lt_of_le_of_lt h Fl.inf_sgn
 have hm : Fl.mg r = r := Nat.mod_eq_of_lt hs
 refine ⟨Nat.lt_trans hs (by decide), ?_, hm⟩
 unfold Fl.nan
 rw [hm]
 exact decide_eq_false (by omega)
theorem wrd_false (x : Nat) : Fl.wrd false x = x := rfl
theorem pl_pos {x : Nat} (h : x ≤ Fl.INF) : Fl.pl x = x := by
 unfold Fl.pl
 have := Fl.inf_sgn
 generalize Fl.SGN = s at *
 rw [if_neg (by omega)]
theorem pl_neg0 : Fl.pl (Fl.wrd true 0) = Fl.pl 0 := by decide
theorem zero_sub64 (x : Nat) (h : x < 18446744073709551616) (hn : Fl.nan x = false) : floatBits .sub .f64 0 x = some (if Fl.mg x = 0 then 0 else Fl.flip x) := Fl.zero_sub x h hn
theorem rto_any (neg down : Bool) (W : Nat) (e : Int) (more : Bool) (hW : W < 340282366920938463463374607431768211456) (hz : W = 0 → more = false) (hmore : more = true → 0 ≤ Fl.drop W (e + 1074))
   (he : -50000 ≤ e) (he2 : e ≤ 50000) (h971 : e ≤ 971 ∨ 0 ≤ Fl.drop W (e + 1074)) (w : World) :
   Calls Try.prog 147 #[wdW W e more, .bool neg, .bool down] w fun r w' => r = .returned (.float .f64 (toVal neg down W e more)) ∧ Below w.heap.size w w' := by
 have HN := fun grow w => near_any grow W e more hW hz hmore he he2 h971 w
 unfold toVal
 cases neg
 · have h1 := near_le (false == down) W e more
   have e1 : Fl.pl (Fl.wrd false (Fl.near (false == down) W e more)) = Fl.near (false == down) W e more := by
     rw [wrd_false]
     exact pl_pos h1
   rw [e1]
   exact rto_pos W e more down _ (HN _) w
 · have h1 := near_le (true == down) W e more
   obtain ⟨x, hx⟩ : ∃ x, x = Fl.near (true == down) W e more := ⟨_, rfl⟩
   rw [← hx] at h1 ⊢
   obtain ⟨b1, b2, b3⟩ := pos_nan h1
   have hs : floatBits .sub .f64 0 x = some (if Fl.mg x = 0 then 0 else Fl.flip x) := zero_sub64 x b1 b2
   rw [b3] at hs
   have HN' := HN (true == down)
   rw [← hx] at HN'
   by_cases h0 : x = 0
   · rw [if_pos h0] at hs
     have e1 : Fl.pl (Fl.wrd true x) = Fl.pl 0 := by rw [h0]; exact pl_neg0
     rw [e1]
     exact rto_neg W e more down x 0 _ HN' hs (fun w => zeroed_any 0 (by decide) (by decide) w) w
   · rw [if_neg h0, flip_pos h1 h0] at hs
     have hy : Fl.wrd true x < 18446744073709551616 ∧ Fl.nan (Fl.wrd true x) = false := wrd_ok true x h1
     exact rto_neg W e more down x _ _ HN' hs (fun w => zeroed_any _ hy.1 hy.2 w) w
end Go.Proofs.Ytnljfcebmgifdaa
