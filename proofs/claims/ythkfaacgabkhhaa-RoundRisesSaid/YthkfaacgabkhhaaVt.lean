/- The walk of RoundRises (gen_vt.py). -/
import Derived.Test.YthkfaacgabkhhaaPg
set_option linter.unusedVariables false
set_option linter.unusedSimpArgs false
namespace Go.Proofs.Ythkfaacgabkhhaa
open Go.RowKit Ieee

theorem rises_e0 (a b c : Nat) (down : Bool) (ha : a < 18446744073709551616) (hb : b < 18446744073709551616) (hc : c < 18446744073709551616) (fa : Fl.fin a = false) (w : World) :
    Calls Try.prog 10 #[.float .f64 a, .float .f64 b, .float .f64 c, .bool down] w fun r w' => r = .returned (.bool true) ∧ Below w.heap.size w w' := by
  have H0 := Lib.hid awake
  have Ha := Lib.hid (fun w => rnum_bad a ha fa w)
  clear fa
  go_enter Try.func10, Try.ntmps10
  go_wp2_with fail
  refine (H0.out _).mono ?_
  rintro r w0 ⟨rfl, h0⟩
  have B0 := Lib.hid h0
  clear h0
  go_wp2_with fail
  refine (Ha.out _).mono ?_
  rintro r w1 ⟨rfl, rfl⟩
  go_wp2_with fail
  go_ret
  exact ⟨rfl, B0.out.drew⟩

theorem rises_e1 (a b c : Nat) (down : Bool) (ha : a < 18446744073709551616) (hb : b < 18446744073709551616) (hc : c < 18446744073709551616) (fa : Fl.fin a = true) (fb : Fl.fin b = false) (w : World) :
    Calls Try.prog 10 #[.float .f64 a, .float .f64 b, .float .f64 c, .bool down] w fun r w' => r = .returned (.bool true) ∧ Below w.heap.size w w' := by
  have H0 := Lib.hid awake
  have Ha := Lib.hid (fun w => rnum_good a ha fa w)
  have Hb := Lib.hid (fun w => rnum_bad b hb fb w)
  clear fa fb
  go_enter Try.func10, Try.ntmps10
  go_wp2_with fail
  refine (H0.out _).mono ?_
  rintro r w0 ⟨rfl, h0⟩
  have B0 := Lib.hid h0
  clear h0
  go_wp2_with fail
  refine (Ha.out _).mono ?_
  rintro r w1 ⟨rfl, rfl⟩
  go_wp2_with fail
  refine (Hb.out _).mono ?_
  rintro r w1 ⟨rfl, rfl⟩
  go_wp2_with fail
  go_ret
  exact ⟨rfl, B0.out.drew⟩

theorem rises_e2 (a b c : Nat) (down : Bool) (ha : a < 18446744073709551616) (hb : b < 18446744073709551616) (hc : c < 18446744073709551616) (fa : Fl.fin a = true) (fb : Fl.fin b = true) (fc : Fl.fin c = false) (w : World) :
    Calls Try.prog 10 #[.float .f64 a, .float .f64 b, .float .f64 c, .bool down] w fun r w' => r = .returned (.bool true) ∧ Below w.heap.size w w' := by
  have H0 := Lib.hid awake
  have Ha := Lib.hid (fun w => rnum_good a ha fa w)
  have Hb := Lib.hid (fun w => rnum_good b hb fb w)
  have Hc := Lib.hid (fun w => rnum_bad c hc fc w)
  clear fa fb fc
  go_enter Try.func10, Try.ntmps10
  go_wp2_with fail
  refine (H0.out _).mono ?_
  rintro r w0 ⟨rfl, h0⟩
  have B0 := Lib.hid h0
  clear h0
  go_wp2_with fail
  refine (Ha.out _).mono ?_
  rintro r w1 ⟨rfl, rfl⟩
  go_wp2_with fail
  refine (Hb.out _).mono ?_
  rintro r w1 ⟨rfl, rfl⟩
  go_wp2_with fail
  refine (Hc.out _).mono ?_
  rintro r w1 ⟨rfl, rfl⟩
  go_wp2_with fail
  go_ret
  exact ⟨rfl, B0.out.drew⟩

theorem rises_e3 (a b c : Nat) (down : Bool) (ha : a < 18446744073709551616) (hb : b < 18446744073709551616) (hc : c < 18446744073709551616) (fa : Fl.fin a = true) (fb : Fl.fin b = true) (fc : Fl.fin c = true) (E1 : (FloatKind.f64.format.order a b == some .gt) = true) (w : World) :
    Calls Try.prog 10 #[.float .f64 a, .float .f64 b, .float .f64 c, .bool down] w fun r w' => r = .returned (.bool true) ∧ Below w.heap.size w w' := by
  have H0 := Lib.hid awake
  have Ha := Lib.hid (fun w => rnum_good a ha fa w)
  have Hb := Lib.hid (fun w => rnum_good b hb fb w)
  have Hc := Lib.hid (fun w => rnum_good c hc fc w)
  clear fa fb fc
  go_enter Try.func10, Try.ntmps10
  go_wp2_with fail
  refine (H0.out _).mono ?_
  rintro r w0 ⟨rfl, h0⟩
  have B0 := Lib.hid h0
  clear h0
  go_wp2_with fail
  refine (Ha.out _).mono ?_
  rintro r w1 ⟨rfl, rfl⟩
  go_wp2_with fail
  refine (Hb.out _).mono ?_
  rintro r w1 ⟨rfl, rfl⟩
  go_wp2_with fail
  refine (Hc.out _).mono ?_
  rintro r w1 ⟨rfl, rfl⟩
  go_wp2_with fail
  go_ret
  exact ⟨rfl, B0.out⟩

set_option maxRecDepth 100000 in
theorem rises_m_t_t (a b c : Nat) (down : Bool) (ha : a < 18446744073709551616) (hb : b < 18446744073709551616) (hc : c < 18446744073709551616) (fa : Fl.fin a = true) (fb : Fl.fin b = true) (fc : Fl.fin c = true) (E1 : (FloatKind.f64.format.order a b == some .gt) = false) (E2 : (FloatKind.f64.format.order c 0 == some .gt || FloatKind.f64.format.order c 0 == some .eq) = true) (E3 : (FloatKind.f64.format.order a 0 == some .lt) = true)
    (x y e1 e2 p q e3 e4 u v e5 e6 : Nat) (h1 : ∀ w, Calls Try.prog 14 #[.float .f64 a, .float .f64 c, .bool down] w fun r w' => r = .returned (numV x e1) ∧ Below w.heap.size w w')
    (h2 : ∀ w, Calls Try.prog 14 #[.float .f64 b, .float .f64 c, .bool down] w fun r w' => r = .returned (numV y e2) ∧ Below w.heap.size w w')
    (G1 : (FloatKind.f64.format.order x y == some .gt) = false)
    (h3 : ∀ w, Calls Try.prog 28 #[.float .f64 a, .float .f64 c, .bool down] w fun r w' => r = .returned (numV p e3) ∧ Below w.heap.size w w')
    (h4 : ∀ w, Calls Try.prog 28 #[.float .f64 b, .float .f64 c, .bool down] w fun r w' => r = .returned (numV q e4) ∧ Below w.heap.size w w')
    (G2 : (FloatKind.f64.format.order p q == some .gt) = false) (h5 : ∀ w, Calls Try.prog 27 #[.float .f64 a, .bool down] w fun r w' => r = .returned (numV u e5) ∧ Below w.heap.size w w')
    (h6 : ∀ w, Calls Try.prog 27 #[.float .f64 b, .bool down] w fun r w' => r = .returned (numV v e6) ∧ Below w.heap.size w w')
    (w : World) :
    Calls Try.prog 10 #[.float .f64 a, .float .f64 b, .float .f64 c, .bool down] w fun r w' => r = .returned (.bool true) ∧ Below w.heap.size w w' := by
  have H0 := Lib.hid awake
  have Ha := Lib.hid (fun w => rnum_good a ha fa w)
  have Hb := Lib.hid (fun w => rnum_good b hb fb w)
  have Hc := Lib.hid (fun w => rnum_good c hc fc w)
  have H1 := Lib.hid h1
  have H2 := Lib.hid h2
  have H3 := Lib.hid h3
  have H4 := Lib.hid h4
  have H5 := Lib.hid h5
  have H6 := Lib.hid h6
  clear fa fb fc h1 h2 h3 h4 h5 h6
  go_enter Try.func10, Try.ntmps10
  go_wp2_with fail
  refine (H0.out _).mono ?_
  rintro r w0 ⟨rfl, h0⟩
  have B0 := Lib.hid h0
  clear h0
  go_wp2_with fail
  refine (Ha.out _).mono ?_
  rintro r w1 ⟨rfl, rfl⟩
  go_wp2_with fail
  refine (Hb.out _).mono ?_
  rintro r w1 ⟨rfl, rfl⟩
  go_wp2_with fail
  refine (Hc.out _).mono ?_
  rintro r w1 ⟨rfl, rfl⟩
  go_wp2_with fail
  refine (H1.out _).mono ?_
  rintro r w1 ⟨rfl, h1⟩
  have B1 := Lib.hid h1
  clear h1
  go_wp2_with fail
  refine (H2.out _).mono ?_
  rintro r w2 ⟨rfl, h2⟩
  have B2 := Lib.hid h2
  clear h2
  go_wp2_with fail
  refine (H3.out _).mono ?_
  rintro r w3 ⟨rfl, h3⟩
  have B3 := Lib.hid h3
  clear h3
  go_wp2_with fail
  refine (H4.out _).mono ?_
  rintro r w4 ⟨rfl, h4⟩
  have B4 := Lib.hid h4
  clear h4
  go_wp2_with fail
  go_ret
  exact ⟨rfl, (below_step (below_step (below_step (below_step B0.out B1.out) B2.out) B3.out) B4.out)⟩

set_option maxRecDepth 100000 in
theorem rises_m_t_f (a b c : Nat) (down : Bool) (ha : a < 18446744073709551616) (hb : b < 18446744073709551616) (hc : c < 18446744073709551616) (fa : Fl.fin a = true) (fb : Fl.fin b = true) (fc : Fl.fin c = true) (E1 : (FloatKind.f64.format.order a b == some .gt) = false) (E2 : (FloatKind.f64.format.order c 0 == some .gt || FloatKind.f64.format.order c 0 == some .eq) = true) (E3 : (FloatKind.f64.format.order a 0 == some .lt) = false)
    (x y e1 e2 p q e3 e4 u v e5 e6 : Nat) (h1 : ∀ w, Calls Try.prog 14 #[.float .f64 a, .float .f64 c, .bool down] w fun r w' => r = .returned (numV x e1) ∧ Below w.heap.size w w')
    (h2 : ∀ w, Calls Try.prog 14 #[.float .f64 b, .float .f64 c, .bool down] w fun r w' => r = .returned (numV y e2) ∧ Below w.heap.size w w')
    (G1 : (FloatKind.f64.format.order x y == some .gt) = false)
    (h3 : ∀ w, Calls Try.prog 28 #[.float .f64 a, .float .f64 c, .bool down] w fun r w' => r = .returned (numV p e3) ∧ Below w.heap.size w w')
    (h4 : ∀ w, Calls Try.prog 28 #[.float .f64 b, .float .f64 c, .bool down] w fun r w' => r = .returned (numV q e4) ∧ Below w.heap.size w w')
    (G2 : (FloatKind.f64.format.order p q == some .gt) = false) (h5 : ∀ w, Calls Try.prog 27 #[.float .f64 a, .bool down] w fun r w' => r = .returned (numV u e5) ∧ Below w.heap.size w w')
    (h6 : ∀ w, Calls Try.prog 27 #[.float .f64 b, .bool down] w fun r w' => r = .returned (numV v e6) ∧ Below w.heap.size w w')
    (G3 : (FloatKind.f64.format.order u v == some .lt || FloatKind.f64.format.order u v == some .eq) = true) (w : World) :
    Calls Try.prog 10 #[.float .f64 a, .float .f64 b, .float .f64 c, .bool down] w fun r w' => r = .returned (.bool true) ∧ Below w.heap.size w w' := by
  have H0 := Lib.hid awake
  have Ha := Lib.hid (fun w => rnum_good a ha fa w)
  have Hb := Lib.hid (fun w => rnum_good b hb fb w)
  have Hc := Lib.hid (fun w => rnum_good c hc fc w)
  have H1 := Lib.hid h1
  have H2 := Lib.hid h2
  have H3 := Lib.hid h3
  have H4 := Lib.hid h4
  have H5 := Lib.hid h5
  have H6 := Lib.hid h6
  clear fa fb fc h1 h2 h3 h4 h5 h6
  go_enter Try.func10, Try.ntmps10
  go_wp2_with fail
  refine (H0.out _).mono ?_
  rintro r w0 ⟨rfl, h0⟩
  have B0 := Lib.hid h0
  clear h0
  go_wp2_with fail
  refine (Ha.out _).mono ?_
  rintro r w1 ⟨rfl, rfl⟩
  go_wp2_with fail
  refine (Hb.out _).mono ?_
  rintro r w1 ⟨rfl, rfl⟩
  go_wp2_with fail
  refine (Hc.out _).mono ?_
  rintro r w1 ⟨rfl, rfl⟩
  go_wp2_with fail
  refine (H1.out _).mono ?_
  rintro r w1 ⟨rfl, h1⟩
  have B1 := Lib.hid h1
  clear h1
  go_wp2_with fail
  refine (H2.out _).mono ?_
  rintro r w2 ⟨rfl, h2⟩
  have B2 := Lib.hid h2
  clear h2
  go_wp2_with fail
  refine (H3.out _).mono ?_
  rintro r w3 ⟨rfl, h3⟩
  have B3 := Lib.hid h3
  clear h3
  go_wp2_with fail
  refine (H4.out _).mono ?_
  rintro r w4 ⟨rfl, h4⟩
  have B4 := Lib.hid h4
  clear h4
  go_wp2_with fail
  refine (H5.out _).mono ?_
  rintro r w5 ⟨rfl, h5⟩
  have B5 := Lib.hid h5
  clear h5
  go_wp2_with fail
  refine (H6.out _).mono ?_
  rintro r w6 ⟨rfl, h6⟩
  have B6 := Lib.hid h6
  clear h6
  go_wp2_with fail
  go_ret
  exact ⟨rfl, (below_step (below_step (below_step (below_step (below_step (below_step B0.out B1.out) B2.out) B3.out) B4.out) B5.out) B6.out)⟩

set_option maxRecDepth 100000 in
theorem rises_m_f_t (a b c : Nat) (down : Bool) (ha : a < 18446744073709551616) (hb : b < 18446744073709551616) (hc : c < 18446744073709551616) (fa : Fl.fin a = true) (fb : Fl.fin b = true) (fc : Fl.fin c = true) (E1 : (FloatKind.f64.format.order a b == some .gt) = false) (E2 : (FloatKind.f64.format.order c 0 == some .gt || FloatKind.f64.format.order c 0 == some .eq) = false) (E3 : (FloatKind.f64.format.order a 0 == some .lt) = true)
    (x y e1 e2 p q e3 e4 u v e5 e6 : Nat) (h1 : ∀ w, Calls Try.prog 14 #[.float .f64 a, .float .f64 c, .bool down] w fun r w' => r = .returned (numV x e1) ∧ Below w.heap.size w w')
    (h2 : ∀ w, Calls Try.prog 14 #[.float .f64 b, .float .f64 c, .bool down] w fun r w' => r = .returned (numV y e2) ∧ Below w.heap.size w w')
    (G1 : (FloatKind.f64.format.order x y == some .gt) = false)
    (h3 : ∀ w, Calls Try.prog 28 #[.float .f64 a, .float .f64 c, .bool down] w fun r w' => r = .returned (numV p e3) ∧ Below w.heap.size w w')
    (h4 : ∀ w, Calls Try.prog 28 #[.float .f64 b, .float .f64 c, .bool down] w fun r w' => r = .returned (numV q e4) ∧ Below w.heap.size w w')
    (h5 : ∀ w, Calls Try.prog 27 #[.float .f64 a, .bool down] w fun r w' => r = .returned (numV u e5) ∧ Below w.heap.size w w')
    (h6 : ∀ w, Calls Try.prog 27 #[.float .f64 b, .bool down] w fun r w' => r = .returned (numV v e6) ∧ Below w.heap.size w w')
    (w : World) :
    Calls Try.prog 10 #[.float .f64 a, .float .f64 b, .float .f64 c, .bool down] w fun r w' => r = .returned (.bool true) ∧ Below w.heap.size w w' := by
  have H0 := Lib.hid awake
  have Ha := Lib.hid (fun w => rnum_good a ha fa w)
  have Hb := Lib.hid (fun w => rnum_good b hb fb w)
  have Hc := Lib.hid (fun w => rnum_good c hc fc w)
  have H1 := Lib.hid h1
  have H2 := Lib.hid h2
  have H3 := Lib.hid h3
  have H4 := Lib.hid h4
  have H5 := Lib.hid h5
  have H6 := Lib.hid h6
  clear fa fb fc h1 h2 h3 h4 h5 h6
  go_enter Try.func10, Try.ntmps10
  go_wp2_with fail
  refine (H0.out _).mono ?_
  rintro r w0 ⟨rfl, h0⟩
  have B0 := Lib.hid h0
  clear h0
  go_wp2_with fail
  refine (Ha.out _).mono ?_
  rintro r w1 ⟨rfl, rfl⟩
  go_wp2_with fail
  refine (Hb.out _).mono ?_
  rintro r w1 ⟨rfl, rfl⟩
  go_wp2_with fail
  refine (Hc.out _).mono ?_
  rintro r w1 ⟨rfl, rfl⟩
  go_wp2_with fail
  refine (H1.out _).mono ?_
  rintro r w1 ⟨rfl, h1⟩
  have B1 := Lib.hid h1
  clear h1
  go_wp2_with fail
  refine (H2.out _).mono ?_
  rintro r w2 ⟨rfl, h2⟩
  have B2 := Lib.hid h2
  clear h2
  go_wp2_with fail
  go_ret
  exact ⟨rfl, (below_step (below_step B0.out B1.out) B2.out)⟩

set_option maxRecDepth 100000 in
theorem rises_m_f_f (a b c : Nat) (down : Bool) (ha : a < 18446744073709551616) (hb : b < 18446744073709551616) (hc : c < 18446744073709551616) (fa : Fl.fin a = true) (fb : Fl.fin b = true) (fc : Fl.fin c = true) (E1 : (FloatKind.f64.format.order a b == some .gt) = false) (E2 : (FloatKind.f64.format.order c 0 == some .gt || FloatKind.f64.format.order c 0 == some .eq) = false) (E3 : (FloatKind.f64.format.order a 0 == some .lt) = false)
    (x y e1 e2 p q e3 e4 u v e5 e6 : Nat) (h1 : ∀ w, Calls Try.prog 14 #[.float .f64 a, .float .f64 c, .bool down] w fun r w' => r = .returned (numV x e1) ∧ Below w.heap.size w w')
    (h2 : ∀ w, Calls Try.prog 14 #[.float .f64 b, .float .f64 c, .bool down] w fun r w' => r = .returned (numV y e2) ∧ Below w.heap.size w w')
    (G1 : (FloatKind.f64.format.order x y == some .gt) = false)
    (h3 : ∀ w, Calls Try.prog 28 #[.float .f64 a, .float .f64 c, .bool down] w fun r w' => r = .returned (numV p e3) ∧ Below w.heap.size w w')
    (h4 : ∀ w, Calls Try.prog 28 #[.float .f64 b, .float .f64 c, .bool down] w fun r w' => r = .returned (numV q e4) ∧ Below w.heap.size w w')
    (h5 : ∀ w, Calls Try.prog 27 #[.float .f64 a, .bool down] w fun r w' => r = .returned (numV u e5) ∧ Below w.heap.size w w')
    (h6 : ∀ w, Calls Try.prog 27 #[.float .f64 b, .bool down] w fun r w' => r = .returned (numV v e6) ∧ Below w.heap.size w w')
    (G3 : (FloatKind.f64.format.order u v == some .lt || FloatKind.f64.format.order u v == some .eq) = true) (w : World) :
    Calls Try.prog 10 #[.float .f64 a, .float .f64 b, .float .f64 c, .bool down] w fun r w' => r = .returned (.bool true) ∧ Below w.heap.size w w' := by
  have H0 := Lib.hid awake
  have Ha := Lib.hid (fun w => rnum_good a ha fa w)
  have Hb := Lib.hid (fun w => rnum_good b hb fb w)
  have Hc := Lib.hid (fun w => rnum_good c hc fc w)
  have H1 := Lib.hid h1
  have H2 := Lib.hid h2
  have H3 := Lib.hid h3
  have H4 := Lib.hid h4
  have H5 := Lib.hid h5
  have H6 := Lib.hid h6
  clear fa fb fc h1 h2 h3 h4 h5 h6
  go_enter Try.func10, Try.ntmps10
  go_wp2_with fail
  refine (H0.out _).mono ?_
  rintro r w0 ⟨rfl, h0⟩
  have B0 := Lib.hid h0
  clear h0
  go_wp2_with fail
  refine (Ha.out _).mono ?_
  rintro r w1 ⟨rfl, rfl⟩
  go_wp2_with fail
  refine (Hb.out _).mono ?_
  rintro r w1 ⟨rfl, rfl⟩
  go_wp2_with fail
  refine (Hc.out _).mono ?_
  rintro r w1 ⟨rfl, rfl⟩
  go_wp2_with fail
  refine (H1.out _).mono ?_
  rintro r w1 ⟨rfl, h1⟩
  have B1 := Lib.hid h1
  clear h1
  go_wp2_with fail
  refine (H2.out _).mono ?_
  rintro r w2 ⟨rfl, h2⟩
  have B2 := Lib.hid h2
  clear h2
  go_wp2_with fail
  refine (H5.out _).mono ?_
  rintro r w3 ⟨rfl, h3⟩
  have B3 := Lib.hid h3
  clear h3
  go_wp2_with fail
  refine (H6.out _).mono ?_
  rintro r w4 ⟨rfl, h4⟩
  have B4 := Lib.hid h4
  clear h4
  go_wp2_with fail
  go_ret
  exact ⟨rfl, (below_step (below_step (below_step (below_step B0.out B1.out) B2.out) B3.out) B4.out)⟩

theorem gt_no {x y : Nat} (hx : x < 18446744073709551616 ∧ Fl.nan x = false) (hy : y < 18446744073709551616 ∧ Fl.nan y = false) (h : Fl.Z x ≤ Fl.Z y) : (FloatKind.f64.format.order x y == some .gt) = false :=
  (Fl.gt_eq (a := x) (b := y) hx.1 hy.1 hx.2 hy.2).trans (decide_eq_false (by omega))
theorem le_yes {x y : Nat} (hx : x < 18446744073709551616 ∧ Fl.nan x = false) (hy : y < 18446744073709551616 ∧ Fl.nan y = false) (h : Fl.Z x ≤ Fl.Z y) : (FloatKind.f64.format.order x y == some .lt || FloatKind.f64.format.order x y == some .eq) = true :=
  (Fl.le_eq (a := x) (b := y) hx.1 hy.1 hx.2 hy.2).trans (decide_eq_true h)
theorem walk_rises (a b c : Nat) (down : Bool) (ha : a < 18446744073709551616) (hb : b < 18446744073709551616) (hc : c < 18446744073709551616) (w : World) :
    Calls Try.prog 10 #[.float .f64 a, .float .f64 b, .float .f64 c, .bool down] w fun r w' => r = .returned (.bool true) ∧ Below w.heap.size w w' := by
  cases fa : Fl.fin a
  · exact rises_e0 a b c down ha hb hc fa w
  · cases fb : Fl.fin b
    · exact rises_e1 a b c down ha hb hc fa fb w
    · cases fc : Fl.fin c
      · exact rises_e2 a b c down ha hb hc fa fb fc w
      · have na := Fl.nan_of_fin fa
        have nb := Fl.nan_of_fin fb
        have nc := Fl.nan_of_fin fc
        have e1 : (FloatKind.f64.format.order a b == some .gt) = decide (Fl.Z b < Fl.Z a) := Fl.gt_eq (a := a) (b := b) ha hb na nb
        by_cases hab : Fl.Z b < Fl.Z a
        · exact rises_e3 a b c down ha hb hc fa fb fc (e1.trans (decide_eq_true hab)) w
        · have E1 := e1.trans (decide_eq_false hab)
          have e2 : (FloatKind.f64.format.order c 0 == some .gt || FloatKind.f64.format.order c 0 == some .eq) = decide (Fl.Z 0 ≤ Fl.Z c) := Fl.ge_eq (a := c) (b := 0) hc (by decide) nc (by decide)
          rw [Z0] at e2
          have e3 := Z_lt0 a ha fa
          have h1 := fun w => add_any a c down ha hc w
          have h2 := fun w => add_any b c down hb hc w
          have h3 := fun w => mul_any a c down ha hc w
          have h4 := fun w => mul_any b c down hb hc w
          have h5 := fun w => sqrt_any a down ha w
          have h6 := fun w => sqrt_any b down hb w
          have G1 := gt_no (addR_ok a c down) (addR_ok b c down) (add_rises a b c down fa fb fc (by omega))
          by_cases hc0 : 0 ≤ Fl.Z c
          · have E2 := e2.trans (decide_eq_true hc0)
            have G2 := gt_no (mulR_ok a c down) (mulR_ok b c down) (mul_rises a b c down fa fb fc (by omega) hc0)
            by_cases ha0 : Fl.Z a < 0
            · exact rises_m_t_t a b c down ha hb hc fa fb fc E1 E2 (e3.trans (decide_eq_true ha0)) _ _ _ _ _ _ _ _ _ _ _ _ h1 h2 G1 h3 h4 G2 h5 h6 w
            · exact rises_m_t_f a b c down ha hb hc fa fb fc E1 E2 (e3.trans (decide_eq_false ha0)) _ _ _ _ _ _ _ _ _ _ _ _ h1 h2 G1 h3 h4 G2 h5 h6 (le_yes (sqrtR_ok a down) (sqrtR_ok b down) (sqrt_rises a b down fa fb ha0 (by omega))) w
          · have E2 := e2.trans (decide_eq_false hc0)
            by_cases ha0 : Fl.Z a < 0
            · exact rises_m_f_t a b c down ha hb hc fa fb fc E1 E2 (e3.trans (decide_eq_true ha0)) _ _ _ _ _ _ _ _ _ _ _ _ h1 h2 G1 h3 h4 h5 h6 w
            · exact rises_m_f_f a b c down ha hb hc fa fb fc E1 E2 (e3.trans (decide_eq_false ha0)) _ _ _ _ _ _ _ _ _ _ _ _ h1 h2 G1 h3 h4 h5 h6 (le_yes (sqrtR_ok a down) (sqrtR_ok b down) (sqrt_rises a b down fa fb ha0 (by omega))) w
end Go.Proofs.Ythkfaacgabkhhaa
