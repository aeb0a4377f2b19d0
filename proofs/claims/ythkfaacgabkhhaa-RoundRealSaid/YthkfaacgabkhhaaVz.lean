/- The fixed facts (Awake); the walks of the rows of sums, products, quotients. -/
import Derived.Test.YthkfaacgabkhhaaVl
set_option linter.unusedVariables false
set_option linter.unusedSimpArgs false
namespace Go.Proofs.Ythkfaacgabkhhaa
open Go.RowKit Ieee

/-! ### the fixed facts -/
theorem awake1 : addR 4607182418800017408 4336966441157787648 false = (4607182418800017409, 0) := by decide +kernel
theorem awake2 : divR 4607182418800017408 4613937818241073152 true = (4599676419421066581, 0) := by decide +kernel
theorem awake3 : sqrtR 4611686018427387904 false = (4609047870845172685, 0) := by
  have hR : rootOf (rM 4611686018427387904) = 203809653520824722 := by
    refine (rootOf_is _).uniq ?_
    unfold IsRoot
    decide +kernel
  unfold sqrtR
  rw [hR]
  have e1 : Fl.fin 4611686018427387904 = true := by decide +kernel
  have e2 : ¬ Fl.Z 4611686018427387904 < 0 := by decide +kernel
  have e3 : ¬ Fl.mg 4611686018427387904 = 0 := by decide +kernel
  rw [if_pos e1, if_neg e2, if_neg e3]
  decide +kernel

theorem awake (w : World) : Calls Try.prog 13 #[] w fun r w' => r = .returned (.bool true) ∧ Below w.heap.size w w' := by
  have H1 := Lib.hid (fun w => add_any 4607182418800017408 4336966441157787648 false (by decide) (by decide) w)
  have H2 := Lib.hid (fun w => div_any 4607182418800017408 4613937818241073152 true (by decide) (by decide) w)
  have H3 := Lib.hid (fun w => sqrt_any 4611686018427387904 false (by decide) w)
  rw [awake1] at H1
  rw [awake2] at H2
  rw [awake3] at H3
  unfold pV at H1 H2 H3
  have E : (FloatKind.f64.format.order 4607182418800017409 4607182418800017409 == some .eq) = true := by
    refine (Fl.eq_eq (a := 4607182418800017409) (b := 4607182418800017409) (by decide) (by decide) (by decide) (by decide)).trans ?_
    exact decide_eq_true rfl
  go_enter Try.func13, Try.ntmps13
  go_wp2_with fail
  refine (H1.out _).mono ?_
  rintro e w1 ⟨rfl, h1⟩
  have B1 := Lib.hid h1
  clear h1
  go_wp2_with fail
  refine (H2.out _).mono ?_
  rintro e w2 ⟨rfl, h2⟩
  have B2 := Lib.hid h2
  clear h2
  go_wp2_with fail
  refine (H3.out _).mono ?_
  rintro e w3 ⟨rfl, h3⟩
  have B3 := Lib.hid h3
  clear h3
  go_wp2_with fail
  go_ret
  exact ⟨rfl, below_step (below_step B1.out B2.out) B3.out⟩

theorem same_bits (a : Nat) (w : World) : Calls Try.prog 17 #[.float .f64 a, .float .f64 a] w fun r w' => r = .returned (.bool true) ∧ w = w' := by
  go_enter Try.func17, Try.ntmps17
  go_wp2_with fail
  go_ret
  exact ⟨ret_bool (by simp), rfl⟩
theorem same_two (a : Nat) (e : Int) (w : World) : Calls Try.prog 16 #[.float .f64 a, .int .i64 e, .float .f64 a, .int .i64 e] w fun r w' => r = .returned (.bool true) ∧ w = w' := by
  have H := Lib.hid (fun w => same_bits a w)
  have E : ((e == e) : Bool) = true := by simp
  go_enter Try.func16, Try.ntmps16
  go_wp2_with fail
  refine (H.out _).mono ?_
  rintro r w' ⟨rfl, rfl⟩
  go_wp2_with fail
  go_ret
  exact ⟨ret_bool (by simp), rfl⟩

theorem walk_sums (a b : Nat) (down : Bool) (ha : a < 18446744073709551616) (hb : b < 18446744073709551616) (w : World) :
    Calls Try.prog 3 #[.float .f64 a, .float .f64 b, .bool down] w fun r w' => r = .returned (.bool true) ∧ Below w.heap.size w w' := by
  have H0 := Lib.hid awake
  have H1 := Lib.hid (fun w => add_any a b down ha hb w)
  have H2 := Lib.hid (fun w => radd_any a b down ha hb w)
  have H3 := Lib.hid (fun w => add_any b a down hb ha w)
  rw [addR_comm b a down] at H3
  obtain ⟨x, hx⟩ : ∃ x, x = addR a b down := ⟨_, rfl⟩
  rw [← hx] at H1 H2 H3
  obtain ⟨v, e⟩ := x
  clear hx
  unfold pV at H1 H2 H3
  have H4 := Lib.hid (fun w => same_two v (e : Int) w)
  have H5 := Lib.hid (fun w => same_bits v w)
  go_enter Try.func3, Try.ntmps3
  go_wp2_with fail
  refine (H0.out _).mono ?_
  rintro r w0 ⟨rfl, h0⟩
  have B0 := Lib.hid h0
  clear h0
  go_wp2_with fail
  refine (H1.out _).mono ?_
  rintro r w1 ⟨rfl, h1⟩
  have B1 := Lib.hid h1
  clear h1
  go_wp2_with fail
  refine (H2.out _).mono ?_
  rintro r w2 ⟨rfl, h2⟩
  have B2 := Lib.hid h2
  clear h2
  go_wp2_with fail
  refine (H3.out _).mono ?_
  rintro r w3 ⟨rfl, h3⟩
  have B3 := Lib.hid h3
  clear h3
  go_wp2_with fail
  refine (H4.out _).mono ?_
  rintro r w' ⟨rfl, rfl⟩
  go_wp2_with fail
  refine (H5.out _).mono ?_
  rintro r w' ⟨rfl, rfl⟩
  go_wp2_with fail
  go_ret
  exact ⟨ret_bool (by simp), below_step (below_step (below_step B0.out B1.out) B2.out) B3.out⟩

theorem walk_products (a b : Nat) (down : Bool) (ha : a < 18446744073709551616) (hb : b < 18446744073709551616) (w : World) :
    Calls Try.prog 7 #[.float .f64 a, .float .f64 b, .bool down] w fun r w' => r = .returned (.bool true) ∧ Below w.heap.size w w' := by
  have H0 := Lib.hid awake
  have H1 := Lib.hid (fun w => mul_any a b down ha hb w)
  have H2 := Lib.hid (fun w => rmul_any a b down ha hb w)
  have H3 := Lib.hid (fun w => mul_any b a down hb ha w)
  rw [mulR_comm b a down] at H3
  obtain ⟨x, hx⟩ : ∃ x, x = mulR a b down := ⟨_, rfl⟩
  rw [← hx] at H1 H2 H3
  obtain ⟨v, e⟩ := x
  clear hx
  unfold pV at H1 H2 H3
  have H4 := Lib.hid (fun w => same_two v (e : Int) w)
  have H5 := Lib.hid (fun w => same_bits v w)
  go_enter Try.func7, Try.ntmps7
  go_wp2_with fail
  refine (H0.out _).mono ?_
  rintro r w0 ⟨rfl, h0⟩
  have B0 := Lib.hid h0
  clear h0
  go_wp2_with fail
  refine (H1.out _).mono ?_
  rintro r w1 ⟨rfl, h1⟩
  have B1 := Lib.hid h1
  clear h1
  go_wp2_with fail
  refine (H2.out _).mono ?_
  rintro r w2 ⟨rfl, h2⟩
  have B2 := Lib.hid h2
  clear h2
  go_wp2_with fail
  refine (H3.out _).mono ?_
  rintro r w3 ⟨rfl, h3⟩
  have B3 := Lib.hid h3
  clear h3
  go_wp2_with fail
  refine (H4.out _).mono ?_
  rintro r w' ⟨rfl, rfl⟩
  go_wp2_with fail
  refine (H5.out _).mono ?_
  rintro r w' ⟨rfl, rfl⟩
  go_wp2_with fail
  go_ret
  exact ⟨ret_bool (by simp), below_step (below_step (below_step B0.out B1.out) B2.out) B3.out⟩

theorem walk_quotients (a b : Nat) (down : Bool) (ha : a < 18446744073709551616) (hb : b < 18446744073709551616) (w : World) :
    Calls Try.prog 4 #[.float .f64 a, .float .f64 b, .bool down] w fun r w' => r = .returned (.bool true) ∧ Below w.heap.size w w' := by
  have H0 := Lib.hid awake
  have H1 := Lib.hid (fun w => div_any a b down ha hb w)
  have H2 := Lib.hid (fun w => rdiv_any a b down ha hb w)
  obtain ⟨x, hx⟩ : ∃ x, x = divR a b down := ⟨_, rfl⟩
  rw [← hx] at H1 H2
  obtain ⟨v, e⟩ := x
  clear hx
  unfold pV at H1 H2
  have H4 := Lib.hid (fun w => same_two v (e : Int) w)
  go_enter Try.func4, Try.ntmps4
  go_wp2_with fail
  refine (H0.out _).mono ?_
  rintro r w0 ⟨rfl, h0⟩
  have B0 := Lib.hid h0
  clear h0
  go_wp2_with fail
  refine (H1.out _).mono ?_
  rintro r w1 ⟨rfl, h1⟩
  have B1 := Lib.hid h1
  clear h1
  go_wp2_with fail
  refine (H2.out _).mono ?_
  rintro r w2 ⟨rfl, h2⟩
  have B2 := Lib.hid h2
  clear h2
  go_wp2_with fail
  refine (H4.out _).mono ?_
  rintro r w' ⟨rfl, rfl⟩
  go_wp2_with fail
  go_ret
  exact ⟨rfl, below_step (below_step B0.out B1.out) B2.out⟩
end Go.Proofs.Ythkfaacgabkhhaa
