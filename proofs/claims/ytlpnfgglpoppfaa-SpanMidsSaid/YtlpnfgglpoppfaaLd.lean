/- The walk of SpanMids (gen_ld.py). -/
import Derived.Test.YtlpnfgglpoppfaaGf
set_option linter.unusedVariables false
set_option linter.unusedSimpArgs false
namespace Go.Proofs.Ytlpnfgglpoppfaa
open Go.RowKit Fl

set_option maxRecDepth 100000 in
theorem mids_n1 (a b : Nat) (ha : a < 18446744073709551616) (hb : b < 18446744073709551616) (h1 : vdB a b = false) (w : World) : Calls Try.prog 6 #[.agg #[.float .f64 a, .float .f64 b]] w fun r w' => r = .returned (.bool true) ∧ Below w.heap.size w w' := by
  have H0 := Lib.hid awake2
  have H1 := Lib.hid (fun w => rvalid_any a b ha hb w)
  rw [h1] at H1
  go_enter Try.func6, Try.ntmps6
  go_wp2_with fail
  obtain ⟨W, hW, K0, hB, hz⟩ := bx1 w 24 #[Value.float FloatKind.f64 a, Value.float FloatKind.f64 b]
  rw [← hW]
  have K0 := Lib.hid K0
  have HB := Lib.hid hB
  clear hW hB hz
  have HO := Lib.hid (show ∀ w', Below W.heap.size W w' → (Below W.heap.size W w' ∧ w'.cell? ⟨w.heap.size, 0, none⟩ = some (Value.float FloatKind.f64 a) ∧ w'.cell? ⟨w.heap.size, 1, none⟩ = some (Value.float FloatKind.f64 b)) from fun w' h => ⟨h, (K0.out.below h K0.out.lt).cell 0, (K0.out.below h K0.out.lt).cell 1⟩)
  have D0 := Lib.hid (Below.refl W.heap.size W)
  refine (H0.out _).mono ?_
  rintro r w1 ⟨rfl, hb⟩
  have D1 := Lib.hid (below_step D0.out hb)
  clear hb
  obtain ⟨-, q0, q1⟩ := HO.out _ D1.out
  go_wp2_with fail
  refine (H1.out _).mono ?_
  clear q0 q1
  rintro r w2 ⟨rfl, hb⟩
  have D2 := Lib.hid (below_step D1.out hb)
  clear hb
  obtain ⟨-, q0, q1⟩ := HO.out _ D2.out
  go_wp2_with fail
  go_ret
  exact ⟨rfl, below_step HB.out D2.out⟩
set_option maxRecDepth 100000 in
set_option maxHeartbeats 2000000 in
theorem mids_w (A : Sp) (h : A.wide = true) (w : World) : Calls Try.prog 6 #[.agg #[.float .f64 A.lo, .float .f64 A.hi]] w fun r w' => r = .returned (.bool true) ∧ Below w.heap.size w w' := by
  have H0 := Lib.hid awake2
  have HV := Lib.hid (fun w => rvalid_any A.lo A.hi A.vd.l.lt A.vd.h.lt w)
  rw [vdB_of A.vd] at HV
  have HW := Lib.hid (fun w => rwide_sp A w)
  rw [h] at HW
  have HM := Lib.hid (fun w => mid_w A h w)
  have HI := Lib.hid (fun w => rinf_any w)
  have e1 : (FloatKind.f64.format.order 0 0 == some .eq) = true := order_self gd0
  have e2 : (FloatKind.f64.format.order 9218868437227405312 9218868437227405312 == some .eq) = true := order_self gdPI
  clear h
  go_enter Try.func6, Try.ntmps6
  go_wp2_with fail
  obtain ⟨W, hW, K0, hB, hz⟩ := bx1 w 24 #[Value.float FloatKind.f64 A.lo, Value.float FloatKind.f64 A.hi]
  rw [← hW]
  have K0 := Lib.hid K0
  have HB := Lib.hid hB
  clear hW hB hz
  have HO := Lib.hid (show ∀ w', Below W.heap.size W w' → (Below W.heap.size W w' ∧ w'.cell? ⟨w.heap.size, 0, none⟩ = some (Value.float FloatKind.f64 A.lo) ∧ w'.cell? ⟨w.heap.size, 1, none⟩ = some (Value.float FloatKind.f64 A.hi)) from fun w' h => ⟨h, (K0.out.below h K0.out.lt).cell 0, (K0.out.below h K0.out.lt).cell 1⟩)
  have D0 := Lib.hid (Below.refl W.heap.size W)
  refine (H0.out _).mono ?_
  rintro r w1 ⟨rfl, hb⟩
  have D1 := Lib.hid (below_step D0.out hb)
  clear hb
  obtain ⟨-, q0, q1⟩ := HO.out _ D1.out
  go_wp2_with fail
  refine (HV.out _).mono ?_
  clear q0 q1
  rintro r w2 ⟨rfl, hb⟩
  have D2 := Lib.hid (below_step D1.out hb)
  clear hb
  obtain ⟨-, q0, q1⟩ := HO.out _ D2.out
  go_wp2_with fail
  refine (HM.out _).mono ?_
  clear q0 q1
  rintro r w3 ⟨rfl, hb⟩
  have D3 := Lib.hid (below_step D2.out hb)
  clear hb
  obtain ⟨-, q0, q1⟩ := HO.out _ D3.out
  go_wp2_with fail
  refine (HW.out _).mono ?_
  clear q0 q1
  rintro r w4 ⟨rfl, hb⟩
  have D4 := Lib.hid (below_step D3.out hb)
  clear hb
  obtain ⟨-, q0, q1⟩ := HO.out _ D4.out
  go_wp2_with fail
  refine (HI.out _).mono ?_
  rintro r w' ⟨rfl, rfl⟩
  go_wp2_with fail
  go_ret
  exact ⟨rfl, below_step HB.out D4.out⟩
set_option maxRecDepth 100000 in
set_option maxHeartbeats 2000000 in
theorem mids_n (A : Sp) (h : A.wide = false) (w : World) : Calls Try.prog 6 #[.agg #[.float .f64 A.lo, .float .f64 A.hi]] w fun r w' => r = .returned (.bool true) ∧ Below w.heap.size w w' := by
  have H0 := Lib.hid awake2
  have HV := Lib.hid (fun w => rvalid_any A.lo A.hi A.vd.l.lt A.vd.h.lt w)
  rw [vdB_of A.vd] at HV
  have HW := Lib.hid (fun w => rwide_sp A w)
  rw [h] at HW
  have HM := Lib.hid (fun w => mid_n A h w)
  obtain ⟨r, s, x1, x2, r1, r2, s1, s2, f1, f2, f3⟩ := mid_facts h
  have x1' : floatBits .sub .f64 A.hi (midV A) = some r := x1
  have x2' : floatBits .sub .f64 (midV A) A.lo = some s := x2
  have D1' := fun (t : TypeId) (w : World) => run_float_arith (P := Try.prog) w .sub t .f64 _ _ _ x1'
  have D2' := fun (t : TypeId) (w : World) => run_float_arith (P := Try.prog) w .sub t .f64 _ _ _ x2'
  have gf := far_gd A
  have gm := mid_gd A
  have i := mid_in A
  have e1 : (FloatKind.f64.format.order A.lo (midV A) == some .lt || FloatKind.f64.format.order A.lo (midV A) == some .eq) = true := (leb A.vd.l gm).trans (decide_eq_true i.1)
  have e2 : (FloatKind.f64.format.order (midV A) A.hi == some .lt || FloatKind.f64.format.order (midV A) A.hi == some .eq) = true := (leb gm A.vd.h).trans (decide_eq_true i.2)
  have e3 : (FloatKind.f64.format.order r (farV A) == some .lt || FloatKind.f64.format.order r (farV A) == some .eq) = true := (le_eq (a := r) (b := farV A) r1 gf.lt r2 gf.nn).trans (decide_eq_true f1)
  have e4 : (FloatKind.f64.format.order s (farV A) == some .lt || FloatKind.f64.format.order s (farV A) == some .eq) = true := (le_eq (a := s) (b := farV A) s1 gf.lt s2 gf.nn).trans (decide_eq_true f2)
  have e5 : (FloatKind.f64.format.order (farV A) 0 == some .gt || FloatKind.f64.format.order (farV A) 0 == some .eq) = true := (ge0_gd gf).trans (decide_eq_true f3)
  clear x1 x2 x1' x2' gf gm i r1 r2 s1 s2 f1 f2 f3 h
  generalize midV A = m at *
  generalize farV A = fr at *
  go_enter Try.func6, Try.ntmps6
  go_wp2_with fail
  obtain ⟨W, hW, K0, hB, hz⟩ := bx1 w 24 #[Value.float FloatKind.f64 A.lo, Value.float FloatKind.f64 A.hi]
  rw [← hW]
  have K0 := Lib.hid K0
  have HB := Lib.hid hB
  clear hW hB hz
  have HO := Lib.hid (show ∀ w', Below W.heap.size W w' → (Below W.heap.size W w' ∧ w'.cell? ⟨w.heap.size, 0, none⟩ = some (Value.float FloatKind.f64 A.lo) ∧ w'.cell? ⟨w.heap.size, 1, none⟩ = some (Value.float FloatKind.f64 A.hi)) from fun w' h => ⟨h, (K0.out.below h K0.out.lt).cell 0, (K0.out.below h K0.out.lt).cell 1⟩)
  have D0 := Lib.hid (Below.refl W.heap.size W)
  refine (H0.out _).mono ?_
  rintro r w1 ⟨rfl, hb⟩
  have D1 := Lib.hid (below_step D0.out hb)
  clear hb
  obtain ⟨-, q0, q1⟩ := HO.out _ D1.out
  go_wp2_with fail
  refine (HV.out _).mono ?_
  clear q0 q1
  rintro r w2 ⟨rfl, hb⟩
  have D2 := Lib.hid (below_step D1.out hb)
  clear hb
  obtain ⟨-, q0, q1⟩ := HO.out _ D2.out
  go_wp2_with fail
  refine (HM.out _).mono ?_
  clear q0 q1
  rintro r w3 ⟨rfl, hb⟩
  have D3 := Lib.hid (below_step D2.out hb)
  clear hb
  obtain ⟨-, q0, q1⟩ := HO.out _ D3.out
  go_wp2_with fail
  refine (HW.out _).mono ?_
  clear q0 q1
  rintro r w4 ⟨rfl, hb⟩
  have D4 := Lib.hid (below_step D3.out hb)
  clear hb
  obtain ⟨-, q0, q1⟩ := HO.out _ D4.out
  go_wp2_with fail
  go_ret
  exact ⟨rfl, below_step HB.out D4.out⟩
theorem walk_mids (a b : Nat) (ha : a < 18446744073709551616) (hb : b < 18446744073709551616) (w : World) : Calls Try.prog 6 #[.agg #[.float .f64 a, .float .f64 b]] w fun r w' => r = .returned (.bool true) ∧ Below w.heap.size w w' := by
  cases h1 : vdB a b
  · exact mids_n1 a b ha hb h1 w
  · cases h : Sp.wide ⟨a, b, vdB_true ha hb h1⟩
    · exact mids_n ⟨a, b, vdB_true ha hb h1⟩ h w
    · exact mids_w ⟨a, b, vdB_true ha hb h1⟩ h w
end Go.Proofs.Ytlpnfgglpoppfaa
