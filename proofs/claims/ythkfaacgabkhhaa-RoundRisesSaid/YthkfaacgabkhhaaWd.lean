/- The walks of math.Ldexp at the numbers that layer 1 hands it. -/
import Derived.Test.YthkfaacgabkhhaaWc
import Derived.Test.YthkfaacgabkhhaaFl1
import Derived.Laws.Cover2
set_option linter.unusedVariables false
set_option linter.unusedSimpArgs false
namespace Go.Proofs.Ythkfaacgabkhhaa
open Go.RowKit Ieee

theorem ofInt_nat (m : Nat) : floatOfInt .f64 (m : Int) = double.nearest false m 0 := by
  show double.nearest (decide ((m : Int) < 0)) (m : Int).natAbs 0 = _
  rw [show decide ((m : Int) < 0) = false from decide_eq_false (by omega), Int.natAbs_natCast]
theorem ofInt_small (m : Nat) (h0 : m ≠ 0) (hm : m ≤ 9007199254740992) : floatOfInt .f64 (m : Int) = Fl.rung m 1074 := by rw [ofInt_nat, Fl.nearest_small m h0 hm]
theorem ofInt_zero : floatOfInt .f64 0 = 0 := by
  have := ofInt_nat 0
  rw [Fl.nearest_zero] at this
  exact this

/-! ### A positive number that is not too small -/
theorem pos_eq_zero (b : Nat) (h : b < Fl.INF) (h0 : b ≠ 0) : (FloatKind.f64.format.order b 0 == some .eq) = false := by
  have hs : b < Fl.SGN := Nat.lt_trans h Fl.inf_sgn
  have hm : Fl.mg b = b := Nat.mod_eq_of_lt hs
  have hb : b < 18446744073709551616 := Nat.lt_trans hs (by decide)
  show (double.order b 0 == some .eq) = false
  rw [Fl.eq_eq hb (by decide) (Fl.nan_of_fin (Fl.fin_of (by rw [hm]; exact h))) (by decide)]
  refine decide_eq_false ?_
  rw [Fl.Z_eq_iff hb (by decide)]
  rintro (h1 | h1)
  · exact h0 h1
  · exact h0 (hm ▸ h1.1)
theorem pos_lt_norm (b : Nat) (h : b < Fl.INF) (h0 : 4503599627370496 ≤ b) : (FloatKind.f64.format.order b 4503599627370496 == some .lt) = false := by
  have hs : b < Fl.SGN := Nat.lt_trans h Fl.inf_sgn
  have hm : Fl.mg b = b := Nat.mod_eq_of_lt hs
  have hb : b < 18446744073709551616 := Nat.lt_trans hs (by decide)
  show (double.order b 4503599627370496 == some .lt) = false
  rw [Fl.lt_eq hb (by decide) (Fl.nan_of_fin (Fl.fin_of (by rw [hm]; exact h))) (by decide)]
  refine decide_eq_false ?_
  have e1 : Fl.sg b = false := decide_eq_false (by omega)
  have e2 : Fl.Z b = (Fl.rv b : Int) := by unfold Fl.Z; rw [e1, hm]; rfl
  have e3 : Fl.Z 4503599627370496 = (Fl.rv 4503599627370496 : Int) := rfl
  rw [e2, e3]
  have := Fl.rv_le h0
  omega

theorem pos_lt_zero (b : Nat) (h : b < Fl.INF) : (FloatKind.f64.format.order b 0 == some .lt) = false := by
  have hs : b < Fl.SGN := Nat.lt_trans h Fl.inf_sgn
  have hm : Fl.mg b = b := Nat.mod_eq_of_lt hs
  have hb : b < 18446744073709551616 := Nat.lt_trans hs (by decide)
  show (double.order b 0 == some .lt) = false
  rw [Fl.lt_eq hb (by decide) (Fl.nan_of_fin (Fl.fin_of (by rw [hm]; exact h))) (by decide)]
  refine decide_eq_false ?_
  have e1 : Fl.sg b = false := decide_eq_false (by omega)
  have e2 : Fl.Z b = (Fl.rv b : Int) := by unfold Fl.Z; rw [e1, hm]; rfl
  have e3 : Fl.Z 0 = 0 := rfl
  rw [e2, e3]
  omega

theorem normalize_any (b : Nat) (h : b < Fl.INF) (h0 : 4503599627370496 ≤ b) (w : World) :
    Calls Try.prog 91 #[.float .f64 b] w fun e w' => e = .returned (.tuple #[.float .f64 b, .int .i64 0]) ∧ w = w' := by
  have hs : b < Fl.SGN := Nat.lt_trans h Fl.inf_sgn
  have hm : Fl.mg b = b := Nat.mod_eq_of_lt hs
  have hb : b < 18446744073709551616 := Nat.lt_trans hs (by decide)
  have HA := Lib.hid (fun w => abs_any b hb w)
  rw [hm] at HA
  have E := pos_lt_norm b h h0
  clear hs hm hb h h0
  go_enter Try.func91, Try.ntmps91
  go_wp2_with fail
  refine (HA.out _).mono ?_
  rintro e w' ⟨rfl, rfl⟩
  go_wp2_with fail
  go_ret2
  exact ⟨rfl, rfl⟩

theorem i64_and2047 (n : Int) : bits .and .i64 n 2047 = n % 2048 := by
  have h127 : (BitVec.ofInt 64 2047).toNat = 2 ^ 11 - 1 := by decide
  have key : (BitVec.ofInt 64 n &&& BitVec.ofInt 64 2047).toNat = (n % ((2 ^ 64 : Nat) : Int)).toNat % 2 ^ 11 := by
    rw [BitVec.toNat_and, BitVec.toNat_ofInt, h127, Nat.and_two_pow_sub_one_eq_mod]
  show IntKind.i64.wrap ((BitVec.ofInt 64 n &&& BitVec.ofInt 64 2047).toNat : Nat) = n % 2048
  rw [key, IntKind.wrap_i64]
  omega
theorem exp_field (p f : Nat) (hp : p < 2048) (hf : f < 4503599627370496) : bits .and .i64 (((p * 4503599627370496 + f : Nat) : Int) / 4503599627370496) 2047 = (p : Int) := by
  rw [i64_and2047]
  omega
theorem frac_field (p f : Nat) (hp : p < 2048) (hf : f < 4503599627370496) : bits .andNot .u64 ((p * 4503599627370496 + f : Nat) : Int) 9218868437227405312 = (f : Int) := by
  have h := u64_andNot_nat (p * 4503599627370496 + f) 9218868437227405312 (by omega) (by decide)
  refine h.trans ?_
  rw [show 18446744073709551615 - 9218868437227405312 = 2 ^ 63 ||| (2 ^ 52 - 1) by decide, Nat.and_or_distrib_left, nat_bit, Nat.and_two_pow_sub_one_eq_mod]
  rw [show (p * 4503599627370496 + f) / 2 ^ 63 % 2 * 2 ^ 63 = 0 by omega, Nat.zero_or]
  congr 1
  omega
theorem put_field (q f : Nat) (x : Int) (hx : x = q) (hq : q < 2048) (hf : f < 4503599627370496) : (bits .or .u64 (f : Int) (x * 4503599627370496)).toNat = q * 4503599627370496 + f := by
  subst hx
  have e : ((q : Int) * 4503599627370496) = ((q * 4503599627370496 : Nat) : Int) := by omega
  rw [e, u64_or_nat _ _ (by omega) (by omega), Int.toNat_natCast, Nat.or_comm, nat_join 52 _ _ (by omega) (by omega)]

section
variable (p f : Nat) (e : Int) (w : World)
theorem ldexp_a (b : Nat) (hb : b < Fl.INF) (h0 : 4503599627370496 ≤ b) (he : -2000 ≤ e) (he2 : e ≤ 100000) (hp : p ≤ 2046)
    (E2 : bits .and .i64 ((b : Int) / 4503599627370496) 2047 = (p : Int)) (h1 : 1023 < e + p - 1023) :
    Calls Try.prog 87 #[.float .f64 b, .int .i64 e] w fun r w' => r = .returned (.float .f64 9218868437227405312) ∧ w = w' := by
  have hs : b < Fl.SGN := Nat.lt_trans hb Fl.inf_sgn
  have hm : Fl.mg b = b := Nat.mod_eq_of_lt hs
  have hb' : b < 18446744073709551616 := Nat.lt_trans hs (by decide)
  have HI := Lib.hid (fun w => isInf_any b hb' w)
  have HN := Lib.hid (fun w => isNaN_any b hb' w)
  have HZ := Lib.hid (fun w => normalize_any b hb h0 w)
  have HP := Lib.hid (fun w => inf_pos 1 (by decide) w)
  rw [hm, decide_eq_false (Nat.ne_of_lt hb)] at HI
  rw [Fl.nan_of_fin (Fl.fin_of (by rw [hm]; exact hb))] at HN
  have E := pos_eq_zero b hb (by omega)
  have E3 := pos_lt_zero b hb
  go_enter Try.func87, Try.ntmps87
  go_wp2_with fail
  refine (HI.out _).mono ?_
  rintro r w' ⟨rfl, rfl⟩
  go_wp2_with fail
  refine (HN.out _).mono ?_
  rintro r w' ⟨rfl, rfl⟩
  go_wp2_with fail
  refine (HZ.out _).mono ?_
  rintro r w' ⟨rfl, rfl⟩
  go_wp2_with fail
  refine (HP.out _).mono ?_
  rintro r w' ⟨rfl, rfl⟩
  go_wp2_with fail
  go_ret
  exact ⟨rfl, rfl⟩

theorem ldexp_b (b : Nat) (hb : b < Fl.INF) (h0 : 4503599627370496 ≤ b) (he : -2000 ≤ e) (he2 : e ≤ 100000) (hp : p ≤ 2046)
    (E2 : bits .and .i64 ((b : Int) / 4503599627370496) 2047 = (p : Int)) (E4 : bits .andNot .u64 (b : Int) 9218868437227405312 = (f : Int)) (h1 : e + p - 1023 ≤ 1023) (h2 : -1022 ≤ e + p - 1023) (r : Nat)
    (E5 : (bits .or .u64 (f : Int) ((e + ((p : Int) - 1023) + 1023) * 4503599627370496)).toNat = r) (hm : floatBits .mul .f64 4607182418800017408 r = some r) :
    Calls Try.prog 87 #[.float .f64 b, .int .i64 e] w fun s w' => s = .returned (.float .f64 r) ∧ w = w' := by
  have hr := fun (t : TypeId) (w : World) => run_float_arith (P := Try.prog) w .mul t .f64 _ _ _ hm
  clear hm
  have hs : b < Fl.SGN := Nat.lt_trans hb Fl.inf_sgn
  have hm : Fl.mg b = b := Nat.mod_eq_of_lt hs
  have hb' : b < 18446744073709551616 := Nat.lt_trans hs (by decide)
  have HI := Lib.hid (fun w => isInf_any b hb' w)
  have HN := Lib.hid (fun w => isNaN_any b hb' w)
  have HZ := Lib.hid (fun w => normalize_any b hb h0 w)
  rw [hm, decide_eq_false (Nat.ne_of_lt hb)] at HI
  rw [Fl.nan_of_fin (Fl.fin_of (by rw [hm]; exact hb))] at HN
  have E := pos_eq_zero b hb (by omega)
  go_enter Try.func87, Try.ntmps87
  go_wp2_with fail
  refine (HI.out _).mono ?_
  rintro r w' ⟨rfl, rfl⟩
  go_wp2_with fail
  refine (HN.out _).mono ?_
  rintro r w' ⟨rfl, rfl⟩
  go_wp2_with fail
  refine (HZ.out _).mono ?_
  rintro r w' ⟨rfl, rfl⟩
  go_wp2_with fail
  go_ret
  exact ⟨rfl, rfl⟩
theorem ldexp_c (b : Nat) (hb : b < Fl.INF) (h0 : 4503599627370496 ≤ b) (he : -2000 ≤ e) (he2 : e ≤ 100000) (hp : p ≤ 2046)
    (E2 : bits .and .i64 ((b : Int) / 4503599627370496) 2047 = (p : Int)) (E4 : bits .andNot .u64 (b : Int) 9218868437227405312 = (f : Int)) (h1 : e + p - 1023 < -1022) (h2 : -1075 ≤ e + p - 1023) (r r' : Nat)
    (E5 : (bits .or .u64 (f : Int) ((e + ((p : Int) - 1023) + 53 + 1023) * 4503599627370496)).toNat = r) (hm : floatBits .mul .f64 4368491638549381120 r = some r') :
    Calls Try.prog 87 #[.float .f64 b, .int .i64 e] w fun s w' => s = .returned (.float .f64 r') ∧ w = w' := by
  have hr := fun (t : TypeId) (w : World) => run_float_arith (P := Try.prog) w .mul t .f64 _ _ _ hm
  clear hm
  have hs : b < Fl.SGN := Nat.lt_trans hb Fl.inf_sgn
  have hm : Fl.mg b = b := Nat.mod_eq_of_lt hs
  have hb' : b < 18446744073709551616 := Nat.lt_trans hs (by decide)
  have HI := Lib.hid (fun w => isInf_any b hb' w)
  have HN := Lib.hid (fun w => isNaN_any b hb' w)
  have HZ := Lib.hid (fun w => normalize_any b hb h0 w)
  rw [hm, decide_eq_false (Nat.ne_of_lt hb)] at HI
  rw [Fl.nan_of_fin (Fl.fin_of (by rw [hm]; exact hb))] at HN
  have E := pos_eq_zero b hb (by omega)
  go_enter Try.func87, Try.ntmps87
  go_wp2_with fail
  refine (HI.out _).mono ?_
  rintro r w' ⟨rfl, rfl⟩
  go_wp2_with fail
  refine (HN.out _).mono ?_
  rintro r w' ⟨rfl, rfl⟩
  go_wp2_with fail
  refine (HZ.out _).mono ?_
  rintro r w' ⟨rfl, rfl⟩
  go_wp2_with fail
  go_ret
  exact ⟨rfl, rfl⟩
theorem ldexp_zero :
    Calls Try.prog 87 #[.float .f64 0, .int .i64 e] w fun r w' => r = .returned (.float .f64 0) ∧ w = w' := by
  go_enter Try.func87, Try.ntmps87
  go_wp2_with fail
  go_ret
  exact ⟨rfl, rfl⟩
end

theorem pos_mul (a r r' : Nat) (ha : a < Fl.INF) (hr : r < Fl.INF) (hr' : r' ≤ Fl.INF) (h : Fl.rv a * Fl.rv r = Fl.rv r' * 2 ^ Fl.BB) : floatBits .mul .f64 a r = some r' := by
  have hs : r < Fl.SGN := Nat.lt_trans hr Fl.inf_sgn
  have hm : Fl.mg r = r := Nat.mod_eq_of_lt hs
  have has : a < Fl.SGN := Nat.lt_trans ha Fl.inf_sgn
  have ham : Fl.mg a = a := Nat.mod_eq_of_lt has
  have e1 : Fl.sg r = false := decide_eq_false (by omega)
  have e2 : Fl.sg a = false := decide_eq_false (by omega)
  have h64 : Fl.SGN < 18446744073709551616 := by decide
  have := Fl.mul_exact a r r' (Nat.lt_trans has h64) (Nat.lt_trans hs h64) (Fl.fin_of (by rw [ham]; exact ha)) (Fl.fin_of (by rw [hm]; exact hr)) hr' (by rw [hm, ham]; exact h)
  rw [e1, e2] at this
  exact this

theorem rv_one : Fl.rv 4607182418800017408 = 2 ^ Fl.BB := by
  obtain ⟨q, hq⟩ : ∃ q, q = 1022 := ⟨_, rfl⟩
  have h := Fl.rv_of q 4503599627370496 (by decide) (.inr (Nat.le_refl _))
  rw [show q * 4503599627370496 + 4503599627370496 = 4607182418800017408 by omega] at h
  have hB := Fl.BB_eq
  rw [h, show (4503599627370496 : Nat) = 2 ^ 52 by decide, ← Nat.pow_add, show 52 + q = Fl.BB by omega]

theorem one_mul (r : Nat) (hr : r < Fl.INF) : floatBits .mul .f64 4607182418800017408 r = some r :=
  pos_mul _ r r (by unfold Fl.INF; omega) hr (Nat.le_of_lt hr) (by rw [rv_one, Nat.mul_comm])

section
variable (m : Nat) (e : Int) (w : World)
theorem ldexp_1 (h0 : m ≠ 0) (he : -1074 ≤ e) (he2 : e ≤ 100000) (b L f : Nat) (hb : b < Fl.INF) (hb0 : 4503599627370496 ≤ b) (h1 : Fl.len m = L) (h3 : L ≤ 54)
    (E2 : bits .and .i64 ((b : Int) / 4503599627370496) 2047 = ((1022 + L : Nat) : Int)) (c1 : 1023 < e + L - 1) :
    Calls Try.prog 87 #[.float .f64 b, .int .i64 e] w fun s w' => s = .returned (.float .f64 (Fl.ld m e)) ∧ w = w' := by
  rw [Fl.ld_great h0 (by rw [h1]; exact c1)]
  exact ldexp_a (1022 + L) e w _ hb hb0 (by omega) he2 (by omega) E2 (by omega)
theorem ldexp_2 (he : -1074 ≤ e) (he2 : e ≤ 100000) (b L f : Nat) (hb : b < Fl.INF) (hb0 : 4503599627370496 ≤ b) (h1 : Fl.len m = L) (h3 : L ≤ 54) (h4 : f < 4503599627370496) (h5 : Fl.kept m 1074 = 4503599627370496 + f)
    (E2 : bits .and .i64 ((b : Int) / 4503599627370496) 2047 = ((1022 + L : Nat) : Int)) (E4 : bits .andNot .u64 (b : Int) 9218868437227405312 = (f : Int)) (c1 : e + L - 1 ≤ 1023) (c2 : -1022 ≤ e + L - 1) :
    Calls Try.prog 87 #[.float .f64 b, .int .i64 e] w fun s w' => s = .returned (.float .f64 (Fl.ld m e)) ∧ w = w' := by
  rw [Fl.ld_norm h1 h5 h4 c2 c1]
  obtain ⟨q, hq⟩ : ∃ q : Nat, (1022 + (L : Int) + e).toNat = q := ⟨_, rfl⟩
  have hq2 : q < 2048 := by omega
  have hq3 : e + (((1022 + L : Nat) : Int) - 1023) + 1023 = (q : Int) := by omega
  have E5 := put_field q f _ hq3 hq2 h4
  rw [hq]
  have hlt : q * 4503599627370496 + f < Fl.INF := by unfold Fl.INF; omega
  exact ldexp_b (1022 + L) f e w b hb hb0 (by omega) he2 (by omega) E2 E4 (by omega) (by omega) _ E5 (one_mul _ hlt)
theorem ldexp_3 (h0 : m ≠ 0) (he : -1074 ≤ e) (he2 : e ≤ 100000) (b L f : Nat) (hb : b < Fl.INF) (hb0 : 4503599627370496 ≤ b) (h1 : Fl.len m = L) (h2 : 1 ≤ L) (h3 : L ≤ 54) (h4 : f < 4503599627370496)
    (h6 : Fl.rung m 1074 = (1022 + L) * 4503599627370496 + f) (h7 : Fl.rv (Fl.rung m 1074) = m * 2 ^ Fl.BB)
    (E2 : bits .and .i64 ((b : Int) / 4503599627370496) 2047 = ((1022 + L : Nat) : Int)) (E4 : bits .andNot .u64 (b : Int) 9218868437227405312 = (f : Int)) (c2 : e + L - 1 < -1022) :
    Calls Try.prog 87 #[.float .f64 b, .int .i64 e] w fun s w' => s = .returned (.float .f64 (Fl.ld m e)) ∧ w = w' := by
  obtain ⟨q1, q2, q3⟩ := Fl.ld_low h0 h1 h4 h7 h6 he c2
  clear h6 h7
  obtain ⟨q, hq⟩ : ∃ q : Nat, (1022 + (L : Int) + e + 53).toNat = q := ⟨_, rfl⟩
  have hq2 : q < 2048 := by omega
  have hq3 : e + (((1022 + L : Nat) : Int) - 1023) + 53 + 1023 = (q : Int) := by omega
  have E5 := put_field q f _ hq3 hq2 h4
  rw [hq] at q1 q3
  exact ldexp_c (1022 + L) f e w b hb hb0 (by omega) he2 (by omega) E2 E4 (by omega) (by omega) _ _ E5 (pos_mul _ _ _ (by unfold Fl.INF; omega) q3 q2 q1)

theorem ldexp_any (h0 : m ≠ 0) (hm : m ≤ 9007199254740992) (he : -1074 ≤ e) (he2 : e ≤ 100000) :
    Calls Try.prog 87 #[.float .f64 (Fl.rung m 1074), .int .i64 e] w fun s w' => s = .returned (.float .f64 (Fl.ld m e)) ∧ w = w' := by
  have hF := Fl.flt_form m h0 hm
  have hb := Fl.flt_le m h0 hm
  have G1 := fun b L f => @ldexp_1 m e w h0 he he2 b L f
  have G2 := fun b L f => @ldexp_2 m e w he he2 b L f
  have G3 := fun b L f => @ldexp_3 m e w h0 he he2 b L f
  have X2 := fun L f => exp_field (1022 + L) f
  have X4 := fun L f => frac_field (1022 + L) f
  generalize Fl.rung m 1074 = b at *
  generalize Fl.kept m 1074 = kk at *
  generalize Fl.rv b = rr at *
  generalize Fl.lost m 1074 = ll at *
  generalize Fl.ld m e = res at *
  generalize 2 ^ Fl.BB = bb at *
  obtain ⟨L, f, h1, h2, h3, h4, h5, h6, h7, h8⟩ := hF
  have hL : 1022 + L < 2048 := by omega
  have E2 : bits .and .i64 ((b : Int) / 4503599627370496) 2047 = ((1022 + L : Nat) : Int) := by rw [h6]; exact X2 L f hL h4
  have E4 : bits .andNot .u64 (b : Int) 9218868437227405312 = (f : Int) := by rw [h6]; exact X4 L f hL h4
  have hb0 : 4503599627370496 ≤ b := by omega
  clear X2 X4 hL h8
  by_cases c1 : 1023 < e + L - 1
  · exact G1 b L f hb hb0 h1 h3 E2 c1
  · by_cases c2 : -1022 ≤ e + L - 1
    · have c3 : e + L - 1 ≤ 1023 := by omega
      exact G2 b L f hb hb0 h1 h3 h4 h5 E2 E4 c3 c2
    · have c3 : e + L - 1 < -1022 := by omega
      exact G3 b L f hb hb0 h1 h2 h3 h4 h6 h7 E2 E4 c3

theorem ldexp_pub (b r : Nat) (H : Calls Try.prog 87 #[.float .f64 b, .int .i64 e] w fun s w' => s = .returned (.float .f64 r) ∧ w = w') :
    Calls Try.prog 76 #[.float .f64 b, .int .i64 e] w fun s w' => s = .returned (.float .f64 r) ∧ w = w' := by
  have HH := Lib.hid H
  clear H
  go_enter Try.func76, Try.ntmps76
  go_wp2_with fail
  refine HH.out.mono ?_
  rintro r w' ⟨rfl, rfl⟩
  go_wp2_with fail
  go_ret
  exact ⟨rfl, rfl⟩
end
end Go.Proofs.Ythkfaacgabkhhaa
