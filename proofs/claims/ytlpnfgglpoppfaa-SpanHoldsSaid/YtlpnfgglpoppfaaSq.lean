/- The walks of the statements' inner and Inner (gen_sq.py). -/
import Derived.Test.YtlpnfgglpoppfaaGf
import Derived.Test.YtlpnfgglpoppfaaQh
set_option linter.unusedVariables false
set_option linter.unusedSimpArgs false
namespace Go.Proofs.Ytlpnfgglpoppfaa
open Go.RowKit Fl

theorem run_mul_nan {P : Program} (w : World) (t : TypeId) (x y : Nat) (h : Ieee.double.mul x y = none) : (binOp .mul t (.float .f64 x) (.float .f64 y)).run P w = .ok (.float .f64 (nanW x y w)) w.drew := by
  have h' : FloatKind.f64.format.mul x y = none := h
  simp [binOp, Op.floatArith, h', Question.forced, nanW]
/-- What inner tells. -/
def InnPost (A : Sp) (w : World) (r : Ending) (w' : World) : Prop := ∃ p, InP A p ∧ r = .returned (.float .f64 p) ∧ Below w.heap.size w w'
set_option maxRecDepth 100000 in
set_option maxHeartbeats 2000000 in
theorem inner_w (A : Sp) (s : Nat) (hs : s < 18446744073709551616) (h : A.wide = true) (w : World) : Calls Try.prog 29 #[.agg #[.float .f64 A.lo, .float .f64 A.hi], .float .f64 s] w (InnPost A w) := by
  have H1 := Lib.hid (fun w => rwide_sp A w)
  rw [h] at H1
  clear h
  have hin := innC_in A
  unfold innC at hin
  have G2 := Lib.hid (fun w => least_any 4607182418800017408 A.hi w)
  have G1 := Lib.hid (fun w => greatest_any (lst 4607182418800017408 A.hi) A.lo w)
  generalize gst (lst 4607182418800017408 A.hi) A.lo = p at *
  generalize lst 4607182418800017408 A.hi = y at *
  clear hs
  go_enter Try.func29, Try.ntmps29
  go_wp2_with fail
  obtain ⟨W, hW, K0, hB, hz⟩ := bx1 w 24 #[Value.float FloatKind.f64 A.lo, Value.float FloatKind.f64 A.hi]
  rw [← hW]
  have K0 := Lib.hid K0
  have HB := Lib.hid hB
  clear hW hB hz
  have HO := Lib.hid (show ∀ w', Below W.heap.size W w' → (Below W.heap.size W w' ∧ w'.cell? ⟨w.heap.size, 0, none⟩ = some (Value.float FloatKind.f64 A.lo) ∧ w'.cell? ⟨w.heap.size, 1, none⟩ = some (Value.float FloatKind.f64 A.hi)) from fun w' h => ⟨h, (K0.out.below h K0.out.lt).cell 0, (K0.out.below h K0.out.lt).cell 1⟩)
  have D0 := Lib.hid (Below.refl W.heap.size W)
  refine (H1.out _).mono ?_
  rintro r w1 ⟨rfl, hb⟩
  have D1 := Lib.hid (below_step D0.out hb)
  clear hb
  obtain ⟨-, q0, q1⟩ := HO.out _ D1.out
  go_wp2_with fail
  go_quiet ((first | (go_at_call 76; exact Calls.quiet_of_same ((G1.out _).mono fun _ _ h => ⟨h.1, h.2.symm⟩)) | (go_at_call 77; exact Calls.quiet_of_same ((G2.out _).mono fun _ _ h => ⟨h.1, h.2.symm⟩))))
  go_wp2_with fail
  go_ret
  exact ⟨_, hin, rfl, below_step HB.out (by first | exact below_drewN D1.out _ | exact D1.out)⟩
set_option maxRecDepth 100000 in
set_option maxHeartbeats 2000000 in
theorem inner_a (A : Sp) (s : Nat) (hs : s < 18446744073709551616) (h : A.wide = false) (e1 : (FloatKind.f64.format.order s 0 == some .gt || FloatKind.f64.format.order s 0 == some .eq) = false) (w : World) : Calls Try.prog 29 #[.agg #[.float .f64 A.lo, .float .f64 A.hi], .float .f64 s] w (InnPost A w) := by
  have H1 := Lib.hid (fun w => rwide_sp A w)
  rw [h] at H1
  clear h
  have hin := innC_in A
  unfold innC at hin
  have G2 := Lib.hid (fun w => least_any 4607182418800017408 A.hi w)
  have G1 := Lib.hid (fun w => greatest_any (lst 4607182418800017408 A.hi) A.lo w)
  generalize gst (lst 4607182418800017408 A.hi) A.lo = p at *
  generalize lst 4607182418800017408 A.hi = y at *
  clear hs
  go_enter Try.func29, Try.ntmps29
  go_wp2_with fail
  obtain ⟨W, hW, K0, hB, hz⟩ := bx1 w 24 #[Value.float FloatKind.f64 A.lo, Value.float FloatKind.f64 A.hi]
  rw [← hW]
  have K0 := Lib.hid K0
  have HB := Lib.hid hB
  clear hW hB hz
  have HO := Lib.hid (show ∀ w', Below W.heap.size W w' → (Below W.heap.size W w' ∧ w'.cell? ⟨w.heap.size, 0, none⟩ = some (Value.float FloatKind.f64 A.lo) ∧ w'.cell? ⟨w.heap.size, 1, none⟩ = some (Value.float FloatKind.f64 A.hi)) from fun w' h => ⟨h, (K0.out.below h K0.out.lt).cell 0, (K0.out.below h K0.out.lt).cell 1⟩)
  have D0 := Lib.hid (Below.refl W.heap.size W)
  refine (H1.out _).mono ?_
  rintro r w1 ⟨rfl, hb⟩
  have D1 := Lib.hid (below_step D0.out hb)
  clear hb
  obtain ⟨-, q0, q1⟩ := HO.out _ D1.out
  go_wp2_with fail
  go_quiet ((first | (go_at_call 76; exact Calls.quiet_of_same ((G1.out _).mono fun _ _ h => ⟨h.1, h.2.symm⟩)) | (go_at_call 77; exact Calls.quiet_of_same ((G2.out _).mono fun _ _ h => ⟨h.1, h.2.symm⟩))))
  go_wp2_with fail
  go_ret
  exact ⟨_, hin, rfl, below_step HB.out (by first | exact below_drewN D1.out _ | exact D1.out)⟩
set_option maxRecDepth 100000 in
set_option maxHeartbeats 2000000 in
theorem inner_b (A : Sp) (s : Nat) (hs : s < 18446744073709551616) (h : A.wide = false) (e1 : (FloatKind.f64.format.order s 0 == some .gt || FloatKind.f64.format.order s 0 == some .eq) = true) (e2 : (FloatKind.f64.format.order s 4607182418800017408 == some .lt || FloatKind.f64.format.order s 4607182418800017408 == some .eq) = false) (w : World) : Calls Try.prog 29 #[.agg #[.float .f64 A.lo, .float .f64 A.hi], .float .f64 s] w (InnPost A w) := by
  have H1 := Lib.hid (fun w => rwide_sp A w)
  rw [h] at H1
  clear h
  have hin := innC_in A
  unfold innC at hin
  have G2 := Lib.hid (fun w => least_any 4607182418800017408 A.hi w)
  have G1 := Lib.hid (fun w => greatest_any (lst 4607182418800017408 A.hi) A.lo w)
  generalize gst (lst 4607182418800017408 A.hi) A.lo = p at *
  generalize lst 4607182418800017408 A.hi = y at *
  clear hs
  go_enter Try.func29, Try.ntmps29
  go_wp2_with fail
  obtain ⟨W, hW, K0, hB, hz⟩ := bx1 w 24 #[Value.float FloatKind.f64 A.lo, Value.float FloatKind.f64 A.hi]
  rw [← hW]
  have K0 := Lib.hid K0
  have HB := Lib.hid hB
  clear hW hB hz
  have HO := Lib.hid (show ∀ w', Below W.heap.size W w' → (Below W.heap.size W w' ∧ w'.cell? ⟨w.heap.size, 0, none⟩ = some (Value.float FloatKind.f64 A.lo) ∧ w'.cell? ⟨w.heap.size, 1, none⟩ = some (Value.float FloatKind.f64 A.hi)) from fun w' h => ⟨h, (K0.out.below h K0.out.lt).cell 0, (K0.out.below h K0.out.lt).cell 1⟩)
  have D0 := Lib.hid (Below.refl W.heap.size W)
  refine (H1.out _).mono ?_
  rintro r w1 ⟨rfl, hb⟩
  have D1 := Lib.hid (below_step D0.out hb)
  clear hb
  obtain ⟨-, q0, q1⟩ := HO.out _ D1.out
  go_wp2_with fail
  go_quiet ((first | (go_at_call 76; exact Calls.quiet_of_same ((G1.out _).mono fun _ _ h => ⟨h.1, h.2.symm⟩)) | (go_at_call 77; exact Calls.quiet_of_same ((G2.out _).mono fun _ _ h => ⟨h.1, h.2.symm⟩))))
  go_wp2_with fail
  go_ret
  exact ⟨_, hin, rfl, below_step HB.out (by first | exact below_drewN D1.out _ | exact D1.out)⟩
set_option maxRecDepth 100000 in
set_option maxHeartbeats 2000000 in
theorem inner_c (A : Sp) (s : Nat) (hs : s < 18446744073709551616) (h : A.wide = false) (e1 : (FloatKind.f64.format.order s 0 == some .gt || FloatKind.f64.format.order s 0 == some .eq) = true) (e2 : (FloatKind.f64.format.order s 4607182418800017408 == some .lt || FloatKind.f64.format.order s 4607182418800017408 == some .eq) = true) (w : World) : Calls Try.prog 29 #[.agg #[.float .f64 A.lo, .float .f64 A.hi], .float .f64 s] w (InnPost A w) := by
  have H1 := Lib.hid (fun w => rwide_sp A w)
  rw [h] at H1
  have ⟨f1, f2⟩ := Sp.fins h
  obtain ⟨d, hd⟩ := sub_some A.vd.h.lt A.vd.l.lt f2 f1
  have hd' : floatBits .sub .f64 A.hi A.lo = some d := hd
  have D1' := fun (t : TypeId) (w : World) => run_float_arith (P := Try.prog) w .sub t .f64 _ _ _ hd'
  clear hd' hd f1 f2 hs
  have GA := Lib.hid (fun (x : Nat) (w : World) => greatest_any x A.lo w)
  have LA := Lib.hid (fun (x : Nat) (w : World) => least_any (gst x A.lo) A.hi w)
  have IN := Lib.hid (fun (x : Nat) (hx : x < 18446744073709551616) => innW_in h hx)
  clear h
  go_enter Try.func29, Try.ntmps29
  go_wp2_with fail
  obtain ⟨W, hW, K0, hB, hz⟩ := bx1 w 24 #[Value.float FloatKind.f64 A.lo, Value.float FloatKind.f64 A.hi]
  rw [← hW]
  have K0 := Lib.hid K0
  have HB := Lib.hid hB
  clear hW hB hz
  have HO := Lib.hid (show ∀ w', Below W.heap.size W w' → (Below W.heap.size W w' ∧ w'.cell? ⟨w.heap.size, 0, none⟩ = some (Value.float FloatKind.f64 A.lo) ∧ w'.cell? ⟨w.heap.size, 1, none⟩ = some (Value.float FloatKind.f64 A.hi)) from fun w' h => ⟨h, (K0.out.below h K0.out.lt).cell 0, (K0.out.below h K0.out.lt).cell 1⟩)
  have D0 := Lib.hid (Below.refl W.heap.size W)
  refine (H1.out _).mono ?_
  rintro r w1 ⟨rfl, hb⟩
  have D1 := Lib.hid (below_step D0.out hb)
  clear hb
  obtain ⟨-, q0, q1⟩ := HO.out _ D1.out
  cases hm : Ieee.double.mul d s with
  | none =>
    have M1 := fun (t : TypeId) (w : World) => run_mul_nan (P := Try.prog) w t _ _ hm
    have A1 := fun (t : TypeId) (u w : World) => run_add_nan (P := Try.prog) w t A.lo (nanW d s u) (add_nan_r (nanW_lt _ _ _) (nanW_nan _ _ _))
    clear hm
    go_wp2_with fail
    have hy := nanW_lt A.lo (nanW d s w1) w1.drew
    generalize nanW A.lo (nanW d s w1) w1.drew = y at hy ⊢
    have HY := Lib.hid hy
    clear hy
    generalize nanW d s w1 = z
    have D2 := D1.out.drew.drew
    clear q0 q1
    obtain ⟨-, q0, q1⟩ := HO.out _ D2
    have D2 := Lib.hid D2
    generalize w1.drew.drew = w2 at D2 q0 q1 ⊢
    go_quiet ((first | (go_at_call 76; exact Calls.quiet_of_same ((GA.out _ _).mono fun _ _ h => ⟨h.1, h.2.symm⟩)) | (go_at_call 77; exact Calls.quiet_of_same ((LA.out _ _).mono fun _ _ h => ⟨h.1, h.2.symm⟩))))
    go_wp2_with fail
    go_ret
    exact ⟨_, IN.out _ HY.out, rfl, below_step HB.out (by first | exact below_drewN D2.out _ | exact D2.out)⟩
  | some m =>
    have hm' : floatBits .mul .f64 d s = some m := hm
    have M1 := fun (t : TypeId) (w : World) => run_float_arith (P := Try.prog) w .mul t .f64 _ _ _ hm'
    clear hm hm'
    cases ha : Ieee.double.add A.lo m with
    | none =>
      have A1 := fun (t : TypeId) (w : World) => run_add_nan (P := Try.prog) w t _ _ ha
      clear ha
      go_wp2_with fail
      have hy := nanW_lt A.lo m w1
      generalize nanW A.lo m w1 = y at hy ⊢
      have HY := Lib.hid hy
      clear hy
      have D2 := D1.out.drew
      clear q0 q1
      obtain ⟨-, q0, q1⟩ := HO.out _ D2
      have D2 := Lib.hid D2
      generalize w1.drew = w2 at D2 q0 q1 ⊢
      go_quiet ((first | (go_at_call 76; exact Calls.quiet_of_same ((GA.out _ _).mono fun _ _ h => ⟨h.1, h.2.symm⟩)) | (go_at_call 77; exact Calls.quiet_of_same ((LA.out _ _).mono fun _ _ h => ⟨h.1, h.2.symm⟩))))
      go_wp2_with fail
      go_ret
      exact ⟨_, IN.out _ HY.out, rfl, below_step HB.out (by first | exact below_drewN D2.out _ | exact D2.out)⟩
    | some x =>
      have hx := Lib.hid (add_lt ha)
      have ha' : floatBits .add .f64 A.lo m = some x := ha
      have A1 := fun (t : TypeId) (w : World) => run_float_arith (P := Try.prog) w .add t .f64 _ _ _ ha'
      clear ha ha'
      go_wp2_with fail
      go_quiet ((first | (go_at_call 76; exact Calls.quiet_of_same ((GA.out _ _).mono fun _ _ h => ⟨h.1, h.2.symm⟩)) | (go_at_call 77; exact Calls.quiet_of_same ((LA.out _ _).mono fun _ _ h => ⟨h.1, h.2.symm⟩))))
      go_wp2_with fail
      go_ret
      exact ⟨_, IN.out _ hx.out, rfl, below_step HB.out (by first | exact below_drewN D1.out _ | exact D1.out)⟩
theorem inner_sp (A : Sp) (s : Nat) (hs : s < 18446744073709551616) (w : World) : Calls Try.prog 29 #[.agg #[.float .f64 A.lo, .float .f64 A.hi], .float .f64 s] w (InnPost A w) := by
  cases h : A.wide
  · cases e1 : (FloatKind.f64.format.order s 0 == some .gt || FloatKind.f64.format.order s 0 == some .eq)
    · exact inner_a A s hs h e1 w
    · cases e2 : (FloatKind.f64.format.order s 4607182418800017408 == some .lt || FloatKind.f64.format.order s 4607182418800017408 == some .eq)
      · exact inner_b A s hs h e1 e2 w
      · exact inner_c A s hs h e1 e2 w
  · exact inner_w A s hs h w
end Go.Proofs.Ytlpnfgglpoppfaa
