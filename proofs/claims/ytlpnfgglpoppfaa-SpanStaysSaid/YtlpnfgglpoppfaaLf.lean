/- The walk of SpanStays (gen_lf.py). -/
import Derived.Test.YtlpnfgglpoppfaaGf
import Derived.Test.YtlpnfgglpoppfaaSf
import Derived.Test.YtlpnfgglpoppfaaRh
set_option linter.unusedVariables false
set_option linter.unusedSimpArgs false
namespace Go.Proofs.Ytlpnfgglpoppfaa
open Go.RowKit Fl

set_option maxRecDepth 100000 in
theorem stays_n1 (a b c d : Nat) (ha : a < 18446744073709551616) (hb : b < 18446744073709551616) (hc : c < 18446744073709551616) (hd : d < 18446744073709551616) (h1 : vdB a b = false) (w : World) : Calls Try.prog 10 #[.agg #[.float .f64 a, .float .f64 b], .agg #[.float .f64 c, .float .f64 d]] w fun r w' => r = .returned (.bool true) ∧ Below w.heap.size w w' := by
  have H0 := Lib.hid awake2
  have H1 := Lib.hid (fun w => rvalid_any a b ha hb w)
  have H2 := Lib.hid (fun w => rvalid_any c d hc hd w)
  rw [h1] at H1
  go_enter Try.func10, Try.ntmps10
  go_wp2_with fail
  obtain ⟨W, hW, K0, K1, hB, hz⟩ := bx2 w 24 24 #[Value.float FloatKind.f64 a, Value.float FloatKind.f64 b] #[Value.float FloatKind.f64 c, Value.float FloatKind.f64 d]
  rw [← hW]
  have K0 := Lib.hid K0
  have K1 := Lib.hid K1
  have HB := Lib.hid hB
  clear hW hB hz
  have HO := Lib.hid (show ∀ w', Below W.heap.size W w' → (Below W.heap.size W w' ∧ w'.cell? ⟨w.heap.size, 0, none⟩ = some (Value.float FloatKind.f64 a) ∧ w'.cell? ⟨w.heap.size, 1, none⟩ = some (Value.float FloatKind.f64 b) ∧ w'.cell? ⟨w.heap.size + 1, 0, none⟩ = some (Value.float FloatKind.f64 c) ∧ w'.cell? ⟨w.heap.size + 1, 1, none⟩ = some (Value.float FloatKind.f64 d)) from fun w' h => ⟨h, (K0.out.below h K0.out.lt).cell 0, (K0.out.below h K0.out.lt).cell 1, (K1.out.below h K1.out.lt).cell 0, (K1.out.below h K1.out.lt).cell 1⟩)
  have D0 := Lib.hid (Below.refl W.heap.size W)
  refine (H0.out _).mono ?_
  rintro r w1 ⟨rfl, hb⟩
  have D1 := Lib.hid (below_step D0.out hb)
  clear hb
  have hq := (HO.out _ D1.out).2
  go_wp2_with fail
  refine (H1.out _).mono ?_
  clear hq
  rintro r w2 ⟨rfl, hb⟩
  have D2 := Lib.hid (below_step D1.out hb)
  clear hb
  have hq := (HO.out _ D2.out).2
  go_wp2_with fail
  go_ret
  exact ⟨rfl, below_step HB.out D2.out⟩
set_option maxRecDepth 100000 in
theorem stays_n2 (a b c d : Nat) (ha : a < 18446744073709551616) (hb : b < 18446744073709551616) (hc : c < 18446744073709551616) (hd : d < 18446744073709551616) (h1 : vdB a b = true) (h2 : vdB c d = false) (w : World) : Calls Try.prog 10 #[.agg #[.float .f64 a, .float .f64 b], .agg #[.float .f64 c, .float .f64 d]] w fun r w' => r = .returned (.bool true) ∧ Below w.heap.size w w' := by
  have H0 := Lib.hid awake2
  have H1 := Lib.hid (fun w => rvalid_any a b ha hb w)
  have H2 := Lib.hid (fun w => rvalid_any c d hc hd w)
  rw [h1] at H1
  rw [h2] at H2
  go_enter Try.func10, Try.ntmps10
  go_wp2_with fail
  obtain ⟨W, hW, K0, K1, hB, hz⟩ := bx2 w 24 24 #[Value.float FloatKind.f64 a, Value.float FloatKind.f64 b] #[Value.float FloatKind.f64 c, Value.float FloatKind.f64 d]
  rw [← hW]
  have K0 := Lib.hid K0
  have K1 := Lib.hid K1
  have HB := Lib.hid hB
  clear hW hB hz
  have HO := Lib.hid (show ∀ w', Below W.heap.size W w' → (Below W.heap.size W w' ∧ w'.cell? ⟨w.heap.size, 0, none⟩ = some (Value.float FloatKind.f64 a) ∧ w'.cell? ⟨w.heap.size, 1, none⟩ = some (Value.float FloatKind.f64 b) ∧ w'.cell? ⟨w.heap.size + 1, 0, none⟩ = some (Value.float FloatKind.f64 c) ∧ w'.cell? ⟨w.heap.size + 1, 1, none⟩ = some (Value.float FloatKind.f64 d)) from fun w' h => ⟨h, (K0.out.below h K0.out.lt).cell 0, (K0.out.below h K0.out.lt).cell 1, (K1.out.below h K1.out.lt).cell 0, (K1.out.below h K1.out.lt).cell 1⟩)
  have D0 := Lib.hid (Below.refl W.heap.size W)
  refine (H0.out _).mono ?_
  rintro r w1 ⟨rfl, hb⟩
  have D1 := Lib.hid (below_step D0.out hb)
  clear hb
  have hq := (HO.out _ D1.out).2
  go_wp2_with fail
  refine (H1.out _).mono ?_
  clear hq
  rintro r w2 ⟨rfl, hb⟩
  have D2 := Lib.hid (below_step D1.out hb)
  clear hb
  have hq := (HO.out _ D2.out).2
  go_wp2_with fail
  refine (H2.out _).mono ?_
  clear hq
  rintro r w3 ⟨rfl, hb⟩
  have D3 := Lib.hid (below_step D2.out hb)
  clear hb
  have hq := (HO.out _ D3.out).2
  go_wp2_with fail
  go_ret
  exact ⟨rfl, below_step HB.out D3.out⟩
set_option maxRecDepth 100000 in
set_option maxHeartbeats 8000000 in
theorem stays_good (A B : Sp) (w : World) : Calls Try.prog 10 #[.agg #[.float .f64 A.lo, .float .f64 A.hi], .agg #[.float .f64 B.lo, .float .f64 B.hi]] w fun r w' => r = .returned (.bool true) ∧ Below w.heap.size w w' := by
  have H0 := Lib.hid awake2
  have HV := Lib.hid (fun w => rvalid_any A.lo A.hi A.vd.l.lt A.vd.h.lt w)
  have HW := Lib.hid (fun w => rvalid_any B.lo B.hi B.vd.l.lt B.vd.h.lt w)
  rw [vdB_of A.vd] at HV
  rw [vdB_of B.vd] at HW
  have C0 := Lib.hid (fun w => add_sp A B w)
  obtain ⟨s0, hs⟩ : ∃ s, addS A B = s := ⟨_, rfl⟩
  rw [hs] at C0
  clear hs
  have V0' := Lib.hid (fun w => valid_any s0.lo s0.hi s0.vd.l.lt s0.vd.h.lt w)
  rw [vdB_of s0.vd] at V0'
  have R0' := Lib.hid (fun w => rvalid_any s0.lo s0.hi s0.vd.l.lt s0.vd.h.lt w)
  rw [vdB_of s0.vd] at R0'
  have C1 := Lib.hid (fun w => neg_sp A w)
  obtain ⟨s1, hs⟩ : ∃ s, negS A = s := ⟨_, rfl⟩
  rw [hs] at C1
  clear hs
  have V1' := Lib.hid (fun w => valid_any s1.lo s1.hi s1.vd.l.lt s1.vd.h.lt w)
  rw [vdB_of s1.vd] at V1'
  have R1' := Lib.hid (fun w => rvalid_any s1.lo s1.hi s1.vd.l.lt s1.vd.h.lt w)
  rw [vdB_of s1.vd] at R1'
  have C2 := Lib.hid (fun w => sub_sp A B w)
  obtain ⟨s2, hs⟩ : ∃ s, subS A B = s := ⟨_, rfl⟩
  rw [hs] at C2
  clear hs
  have V2' := Lib.hid (fun w => valid_any s2.lo s2.hi s2.vd.l.lt s2.vd.h.lt w)
  rw [vdB_of s2.vd] at V2'
  have R2' := Lib.hid (fun w => rvalid_any s2.lo s2.hi s2.vd.l.lt s2.vd.h.lt w)
  rw [vdB_of s2.vd] at R2'
  have C3 := Lib.hid (fun w => mul_sp A B w)
  obtain ⟨s3, hs⟩ : ∃ s, mulS A B = s := ⟨_, rfl⟩
  rw [hs] at C3
  clear hs
  have V3' := Lib.hid (fun w => valid_any s3.lo s3.hi s3.vd.l.lt s3.vd.h.lt w)
  rw [vdB_of s3.vd] at V3'
  have R3' := Lib.hid (fun w => rvalid_any s3.lo s3.hi s3.vd.l.lt s3.vd.h.lt w)
  rw [vdB_of s3.vd] at R3'
  have C4 := Lib.hid (fun w => div_sp A B w)
  obtain ⟨s4, hs⟩ : ∃ s, divS A B = s := ⟨_, rfl⟩
  rw [hs] at C4
  clear hs
  have V4' := Lib.hid (fun w => valid_any s4.lo s4.hi s4.vd.l.lt s4.vd.h.lt w)
  rw [vdB_of s4.vd] at V4'
  have R4' := Lib.hid (fun w => rvalid_any s4.lo s4.hi s4.vd.l.lt s4.vd.h.lt w)
  rw [vdB_of s4.vd] at R4'
  have C5 := Lib.hid (fun w => sqr_sp A w)
  obtain ⟨s5, hs⟩ : ∃ s, sqrS A = s := ⟨_, rfl⟩
  rw [hs] at C5
  clear hs
  have V5' := Lib.hid (fun w => valid_any s5.lo s5.hi s5.vd.l.lt s5.vd.h.lt w)
  rw [vdB_of s5.vd] at V5'
  have R5' := Lib.hid (fun w => rvalid_any s5.lo s5.hi s5.vd.l.lt s5.vd.h.lt w)
  rw [vdB_of s5.vd] at R5'
  have C6 := Lib.hid (fun w => sqrt_sp A w)
  obtain ⟨s6, hs⟩ : ∃ s, sqrtS A = s := ⟨_, rfl⟩
  rw [hs] at C6
  clear hs
  have V6' := Lib.hid (fun w => valid_any s6.lo s6.hi s6.vd.l.lt s6.vd.h.lt w)
  rw [vdB_of s6.vd] at V6'
  have R6' := Lib.hid (fun w => rvalid_any s6.lo s6.hi s6.vd.l.lt s6.vd.h.lt w)
  rw [vdB_of s6.vd] at R6'
  have C7 := Lib.hid (fun w => min_sp A B w)
  obtain ⟨s7, hs⟩ : ∃ s, minS A B = s := ⟨_, rfl⟩
  rw [hs] at C7
  clear hs
  have V7' := Lib.hid (fun w => valid_any s7.lo s7.hi s7.vd.l.lt s7.vd.h.lt w)
  rw [vdB_of s7.vd] at V7'
  have R7' := Lib.hid (fun w => rvalid_any s7.lo s7.hi s7.vd.l.lt s7.vd.h.lt w)
  rw [vdB_of s7.vd] at R7'
  have C8 := Lib.hid (fun w => max_sp A B w)
  obtain ⟨s8, hs⟩ : ∃ s, maxS A B = s := ⟨_, rfl⟩
  rw [hs] at C8
  clear hs
  have V8' := Lib.hid (fun w => valid_any s8.lo s8.hi s8.vd.l.lt s8.vd.h.lt w)
  rw [vdB_of s8.vd] at V8'
  have R8' := Lib.hid (fun w => rvalid_any s8.lo s8.hi s8.vd.l.lt s8.vd.h.lt w)
  rw [vdB_of s8.vd] at R8'
  have C9 := Lib.hid (fun w => hull_sp A B w)
  obtain ⟨s9, hs⟩ : ∃ s, hullS A B = s := ⟨_, rfl⟩
  rw [hs] at C9
  clear hs
  have V9' := Lib.hid (fun w => valid_any s9.lo s9.hi s9.vd.l.lt s9.vd.h.lt w)
  rw [vdB_of s9.vd] at V9'
  have R9' := Lib.hid (fun w => rvalid_any s9.lo s9.hi s9.vd.l.lt s9.vd.h.lt w)
  rw [vdB_of s9.vd] at R9'
  go_enter Try.func10, Try.ntmps10
  go_wp2_with fail
  obtain ⟨W, hW, K0, K1, hB, hz⟩ := bx2 w 24 24 #[Value.float FloatKind.f64 A.lo, Value.float FloatKind.f64 A.hi] #[Value.float FloatKind.f64 B.lo, Value.float FloatKind.f64 B.hi]
  rw [← hW]
  have K0 := Lib.hid K0
  have K1 := Lib.hid K1
  have HB := Lib.hid hB
  clear hW hB hz
  have HO := Lib.hid (show ∀ w', Below W.heap.size W w' → (Below W.heap.size W w' ∧ w'.cell? ⟨w.heap.size, 0, none⟩ = some (Value.float FloatKind.f64 A.lo) ∧ w'.cell? ⟨w.heap.size, 1, none⟩ = some (Value.float FloatKind.f64 A.hi) ∧ w'.cell? ⟨w.heap.size + 1, 0, none⟩ = some (Value.float FloatKind.f64 B.lo) ∧ w'.cell? ⟨w.heap.size + 1, 1, none⟩ = some (Value.float FloatKind.f64 B.hi)) from fun w' h => ⟨h, (K0.out.below h K0.out.lt).cell 0, (K0.out.below h K0.out.lt).cell 1, (K1.out.below h K1.out.lt).cell 0, (K1.out.below h K1.out.lt).cell 1⟩)
  have D0 := Lib.hid (Below.refl W.heap.size W)
  refine (H0.out _).mono ?_
  rintro r w1 ⟨rfl, hb⟩
  have D1 := Lib.hid (below_step D0.out hb)
  clear hb
  have hq := (HO.out _ D1.out).2
  go_wp2_with fail
  refine (HV.out _).mono ?_
  clear hq
  rintro r w2 ⟨rfl, hb⟩
  have D2 := Lib.hid (below_step D1.out hb)
  clear hb
  have hq := (HO.out _ D2.out).2
  go_wp2_with fail
  refine (HW.out _).mono ?_
  clear hq
  rintro r w3 ⟨rfl, hb⟩
  have D3 := Lib.hid (below_step D2.out hb)
  clear hb
  have hq := (HO.out _ D3.out).2
  go_wp2_with fail
  clear hq
  refine wp_region_held (S := (fun w' => Below W.heap.size W w' ∧ w'.cell? ⟨w.heap.size, 0, none⟩ = some (Value.float FloatKind.f64 A.lo) ∧ w'.cell? ⟨w.heap.size, 1, none⟩ = some (Value.float FloatKind.f64 A.hi) ∧ w'.cell? ⟨w.heap.size + 1, 0, none⟩ = some (Value.float FloatKind.f64 B.lo) ∧ w'.cell? ⟨w.heap.size + 1, 1, none⟩ = some (Value.float FloatKind.f64 B.hi))) (by kernel_rfl) ?_
  (try change wpAnyH _ _ _ _ _ _ _ (World.drew _))
  have hS0 := HO.out _ (Below.drew D3.out)
  refine wpAnyH_takeN (i := 0) (v := ?v5_0) (l' := bm 29 1) (a' := ?a5_0) rfl (by kernel_rfl) (by kernel_rfl) (by kernel_rfl) (fun _ _ _ h => h) (Or.inl ⟨by kernel_rfl, ?h5_0⟩) (by kernel_rfl) ?p5_0 hS0 ?r5_0
  case h5_0 => (intro w hS; go_simp; try with_reducible rfl)
  case p5_0 => (go_simp; try with_reducible rfl)
  refine wpAnyH_takeN (i := 1) (v := ?v5_1) (l' := bm 29 3) (a' := ?a5_1) rfl (by kernel_rfl) (by kernel_rfl) (by kernel_rfl) (fun _ _ _ h => h) (Or.inl ⟨by kernel_rfl, ?h5_1⟩) (by kernel_rfl) ?p5_1 hS0 ?r5_1
  case h5_1 => (intro w hS; go_simp; try with_reducible rfl)
  case p5_1 => (go_simp; try with_reducible rfl)
  refine wpAnyH_takeN (i := 3) (v := ?v5_3) (l' := bm 29 11) (a' := ?a5_3) rfl (by kernel_rfl) (by kernel_rfl) (by kernel_rfl) (fun _ _ _ h => h) (Or.inl ⟨by kernel_rfl, ?h5_3⟩) (by kernel_rfl) ?p5_3 hS0 ?r5_3
  case h5_3 => (intro w hS; go_simp; try with_reducible rfl)
  case p5_3 => (go_simp; try with_reducible rfl)
  refine wpAnyH_takeN (i := 5) (v := ?v5_5) (l' := bm 29 43) (a' := ?a5_5) rfl (by kernel_rfl) (by kernel_rfl) (by kernel_rfl) (fun _ _ _ h => h) (Or.inl ⟨by kernel_rfl, ?h5_5⟩) (by kernel_rfl) ?p5_5 hS0 ?r5_5
  case h5_5 => (intro w hS; go_simp; try with_reducible rfl)
  case p5_5 => (go_simp; try with_reducible rfl)
  refine wpAnyH_takeN (i := 6) (v := ?v5_6) (l' := bm 29 107) (a' := ?a5_6) rfl (by kernel_rfl) (by kernel_rfl) (by kernel_rfl) (fun _ _ _ h => h) (Or.inl ⟨by kernel_rfl, ?h5_6⟩) (by kernel_rfl) ?p5_6 hS0 ?r5_6
  case h5_6 => (intro w hS; go_simp; try with_reducible rfl)
  case p5_6 => (go_simp; try with_reducible rfl)
  refine wpAnyH_takeN (i := 8) (v := ?v5_8) (l' := bm 29 363) (a' := ?a5_8) rfl (by kernel_rfl) (by kernel_rfl) (by kernel_rfl) (fun _ _ _ h => h) (Or.inl ⟨by kernel_rfl, ?h5_8⟩) (by kernel_rfl) ?p5_8 hS0 ?r5_8
  case h5_8 => (intro w hS; go_simp; try with_reducible rfl)
  case p5_8 => (go_simp; try with_reducible rfl)
  refine wpAnyH_takeN (i := 9) (v := ?v5_9) (l' := bm 29 875) (a' := ?a5_9) rfl (by kernel_rfl) (by kernel_rfl) (by kernel_rfl) (fun _ _ _ h => h) (Or.inl ⟨by kernel_rfl, ?h5_9⟩) (by kernel_rfl) ?p5_9 hS0 ?r5_9
  case h5_9 => (intro w hS; go_simp; try with_reducible rfl)
  case p5_9 => (go_simp; try with_reducible rfl)
  refine wpAnyH_takeN (i := 11) (v := ?v5_11) (l' := bm 29 2923) (a' := ?a5_11) rfl (by kernel_rfl) (by kernel_rfl) (by kernel_rfl) (fun _ _ _ h => h) (Or.inl ⟨by kernel_rfl, ?h5_11⟩) (by kernel_rfl) ?p5_11 hS0 ?r5_11
  case h5_11 => (intro w hS; go_simp; try with_reducible rfl)
  case p5_11 => (go_simp; try with_reducible rfl)
  refine wpAnyH_takeN (i := 12) (v := ?v5_12) (l' := bm 29 7019) (a' := ?a5_12) rfl (by kernel_rfl) (by kernel_rfl) (by kernel_rfl) (fun _ _ _ h => h) (Or.inl ⟨by kernel_rfl, ?h5_12⟩) (by kernel_rfl) ?p5_12 hS0 ?r5_12
  case h5_12 => (intro w hS; go_simp; try with_reducible rfl)
  case p5_12 => (go_simp; try with_reducible rfl)
  refine wpAnyH_takeN (i := 14) (v := ?v5_14) (l' := bm 29 23403) (a' := ?a5_14) rfl (by kernel_rfl) (by kernel_rfl) (by kernel_rfl) (fun _ _ _ h => h) (Or.inl ⟨by kernel_rfl, ?h5_14⟩) (by kernel_rfl) ?p5_14 hS0 ?r5_14
  case h5_14 => (intro w hS; go_simp; try with_reducible rfl)
  case p5_14 => (go_simp; try with_reducible rfl)
  refine wpAnyH_takeN (i := 16) (v := ?v5_16) (l' := bm 29 88939) (a' := ?a5_16) rfl (by kernel_rfl) (by kernel_rfl) (by kernel_rfl) (fun _ _ _ h => h) (Or.inl ⟨by kernel_rfl, ?h5_16⟩) (by kernel_rfl) ?p5_16 hS0 ?r5_16
  case h5_16 => (intro w hS; go_simp; try with_reducible rfl)
  case p5_16 => (go_simp; try with_reducible rfl)
  refine wpAnyH_takeN (i := 18) (v := ?v5_18) (l' := bm 29 351083) (a' := ?a5_18) rfl (by kernel_rfl) (by kernel_rfl) (by kernel_rfl) (fun _ _ _ h => h) (Or.inl ⟨by kernel_rfl, ?h5_18⟩) (by kernel_rfl) ?p5_18 hS0 ?r5_18
  case h5_18 => (intro w hS; go_simp; try with_reducible rfl)
  case p5_18 => (go_simp; try with_reducible rfl)
  refine wpAnyH_takeN (i := 19) (v := ?v5_19) (l' := bm 29 875371) (a' := ?a5_19) rfl (by kernel_rfl) (by kernel_rfl) (by kernel_rfl) (fun _ _ _ h => h) (Or.inl ⟨by kernel_rfl, ?h5_19⟩) (by kernel_rfl) ?p5_19 hS0 ?r5_19
  case h5_19 => (intro w hS; go_simp; try with_reducible rfl)
  case p5_19 => (go_simp; try with_reducible rfl)
  refine wpAnyH_takeN (i := 21) (v := ?v5_21) (l' := bm 29 2972523) (a' := ?a5_21) rfl (by kernel_rfl) (by kernel_rfl) (by kernel_rfl) (fun _ _ _ h => h) (Or.inl ⟨by kernel_rfl, ?h5_21⟩) (by kernel_rfl) ?p5_21 hS0 ?r5_21
  case h5_21 => (intro w hS; go_simp; try with_reducible rfl)
  case p5_21 => (go_simp; try with_reducible rfl)
  refine wpAnyH_takeN (i := 22) (v := ?v5_22) (l' := bm 29 7166827) (a' := ?a5_22) rfl (by kernel_rfl) (by kernel_rfl) (by kernel_rfl) (fun _ _ _ h => h) (Or.inl ⟨by kernel_rfl, ?h5_22⟩) (by kernel_rfl) ?p5_22 hS0 ?r5_22
  case h5_22 => (intro w hS; go_simp; try with_reducible rfl)
  case p5_22 => (go_simp; try with_reducible rfl)
  refine wpAnyH_takeN (i := 24) (v := ?v5_24) (l' := bm 29 23944043) (a' := ?a5_24) rfl (by kernel_rfl) (by kernel_rfl) (by kernel_rfl) (fun _ _ _ h => h) (Or.inl ⟨by kernel_rfl, ?h5_24⟩) (by kernel_rfl) ?p5_24 hS0 ?r5_24
  case h5_24 => (intro w hS; go_simp; try with_reducible rfl)
  case p5_24 => (go_simp; try with_reducible rfl)
  refine wpAnyH_takeN (i := 25) (v := ?v5_25) (l' := bm 29 57498475) (a' := ?a5_25) rfl (by kernel_rfl) (by kernel_rfl) (by kernel_rfl) (fun _ _ _ h => h) (Or.inl ⟨by kernel_rfl, ?h5_25⟩) (by kernel_rfl) ?p5_25 hS0 ?r5_25
  case h5_25 => (intro w hS; go_simp; try with_reducible rfl)
  case p5_25 => (go_simp; try with_reducible rfl)
  refine wpAnyH_oneN (i := 2) (l' := bm 29 57498479) rfl (by kernel_rfl) (by kernel_rfl) (by kernel_rfl) (fun K hK => ?_)
  have hP := hS0.1
  go_simp
  go_at_call 37
  refine (C0.out _).mono ?_
  rintro r w4 ⟨rfl, hb⟩
  dsimp only
  have D4 := Lib.hid (below_step hP hb)
  clear hb
  have hS1 := HO.out _ (D4.out)
  clear hP hS0
  refine hK _ _ hS1 ?_
  clear hK K
  refine wpAnyH_oneN (i := 4) (l' := bm 29 57498495) rfl (by kernel_rfl) (by kernel_rfl) (by kernel_rfl) (fun K hK => ?_)
  have hP := hS1.1
  go_simp
  go_at_call 47
  refine (C1.out _).mono ?_
  rintro r w5 ⟨rfl, hb⟩
  dsimp only
  have D5 := Lib.hid (below_step hP hb)
  clear hb
  have hS2 := HO.out _ (D5.out)
  clear hP hS1
  refine hK _ _ hS2 ?_
  clear hK K
  refine wpAnyH_oneN (i := 7) (l' := bm 29 57498623) rfl (by kernel_rfl) (by kernel_rfl) (by kernel_rfl) (fun K hK => ?_)
  have hP := hS2.1
  go_simp
  go_at_call 38
  refine (C2.out _).mono ?_
  rintro r w6 ⟨rfl, hb⟩
  dsimp only
  have D6 := Lib.hid (below_step hP hb)
  clear hb
  have hS3 := HO.out _ (D6.out)
  clear hP hS2
  refine hK _ _ hS3 ?_
  clear hK K
  refine wpAnyH_oneN (i := 10) (l' := bm 29 57499647) rfl (by kernel_rfl) (by kernel_rfl) (by kernel_rfl) (fun K hK => ?_)
  have hP := hS3.1
  go_simp
  go_at_call 39
  refine (C3.out _).mono ?_
  rintro r w7 ⟨rfl, hb⟩
  dsimp only
  have D7 := Lib.hid (below_step hP hb)
  clear hb
  have hS4 := HO.out _ (D7.out)
  clear hP hS3
  refine hK _ _ hS4 ?_
  clear hK K
  refine wpAnyH_oneN (i := 13) (l' := bm 29 57507839) rfl (by kernel_rfl) (by kernel_rfl) (by kernel_rfl) (fun K hK => ?_)
  have hP := hS4.1
  go_simp
  go_at_call 53
  refine (C4.out _).mono ?_
  rintro r w8 ⟨rfl, hb⟩
  dsimp only
  have D8 := Lib.hid (below_step hP hb)
  clear hb
  have hS5 := HO.out _ (D8.out)
  clear hP hS4
  refine hK _ _ hS5 ?_
  clear hK K
  refine wpAnyH_oneN (i := 15) (l' := bm 29 57540607) rfl (by kernel_rfl) (by kernel_rfl) (by kernel_rfl) (fun K hK => ?_)
  have hP := hS5.1
  go_simp
  go_at_call 40
  refine (C5.out _).mono ?_
  rintro r w9 ⟨rfl, hb⟩
  dsimp only
  have D9 := Lib.hid (below_step hP hb)
  clear hb
  have hS6 := HO.out _ (D9.out)
  clear hP hS5
  refine hK _ _ hS6 ?_
  clear hK K
  refine wpAnyH_oneN (i := 17) (l' := bm 29 57671679) rfl (by kernel_rfl) (by kernel_rfl) (by kernel_rfl) (fun K hK => ?_)
  have hP := hS6.1
  go_simp
  go_at_call 54
  refine (C6.out _).mono ?_
  rintro r w10 ⟨rfl, hb⟩
  dsimp only
  have D10 := Lib.hid (below_step hP hb)
  clear hb
  have hS7 := HO.out _ (D10.out)
  clear hP hS6
  refine hK _ _ hS7 ?_
  clear hK K
  refine wpAnyH_oneN (i := 20) (l' := bm 29 58720255) rfl (by kernel_rfl) (by kernel_rfl) (by kernel_rfl) (fun K hK => ?_)
  have hP := hS7.1
  go_simp
  go_at_call 45
  refine (C7.out _).mono ?_
  rintro r w11 ⟨rfl, hb⟩
  dsimp only
  have D11 := Lib.hid (below_step hP hb)
  clear hb
  have hS8 := HO.out _ (D11.out)
  clear hP hS7
  refine hK _ _ hS8 ?_
  clear hK K
  refine wpAnyH_oneN (i := 23) (l' := bm 29 67108863) rfl (by kernel_rfl) (by kernel_rfl) (by kernel_rfl) (fun K hK => ?_)
  have hP := hS8.1
  go_simp
  go_at_call 46
  refine (C8.out _).mono ?_
  rintro r w12 ⟨rfl, hb⟩
  dsimp only
  have D12 := Lib.hid (below_step hP hb)
  clear hb
  have hS9 := HO.out _ (D12.out)
  clear hP hS8
  refine hK _ _ hS9 ?_
  clear hK K
  refine wpAnyH_oneN (i := 26) (l' := bm 29 134217727) rfl (by kernel_rfl) (by kernel_rfl) (by kernel_rfl) (fun K hK => ?_)
  have hP := hS9.1
  go_simp
  go_at_call 17
  refine (C9.out _).mono ?_
  rintro r w13 ⟨rfl, hb⟩
  dsimp only
  have D13 := Lib.hid (below_step hP hb)
  clear hb
  have hS10 := HO.out _ (D13.out)
  clear hP hS9
  refine hK _ _ hS10 ?_
  clear hK K
  refine wpAnyH_oneN (i := 27) (l' := bm 29 268435455) rfl (by kernel_rfl) (by kernel_rfl) (by kernel_rfl) (fun K hK => ?_)
  have hP := hS10.1
  go_simp
  have hS11 := fun o => HO.out _ (below_more hP o)
  clear hP hS10
  refine hK _ _ (hS11 _) ?_
  clear hK K
  refine wpAnyH_takeN (i := 28) (v := ?v5_28) (l' := bm 29 536870911) (a' := ?a5_28) rfl (by kernel_rfl) (by kernel_rfl) (by kernel_rfl) (fun _ _ _ h => h) (Or.inl ⟨by kernel_rfl, ?h5_28⟩) (by kernel_rfl) ?p5_28 (hS11 _) ?r5_28
  case h5_28 => (intro w hS; go_simp; try with_reducible rfl)
  case p5_28 => (go_simp; try with_reducible rfl)
  refine wpAnyH_done (by kernel_rfl) ?_ _
  clear hS11
  obtain ⟨g1, hg1⟩ : ∃ g, w13.heap.size = g := ⟨_, rfl⟩
  obtain ⟨V1, hV⟩ : ∃ V, w13.alloc (.cells #[Value.float FloatKind.f64 s0.lo, Value.float FloatKind.f64 s0.hi, Value.float FloatKind.f64 s1.lo, Value.float FloatKind.f64 s1.hi, Value.float FloatKind.f64 s2.lo, Value.float FloatKind.f64 s2.hi, Value.float FloatKind.f64 s3.lo, Value.float FloatKind.f64 s3.hi, Value.float FloatKind.f64 s4.lo, Value.float FloatKind.f64 s4.hi, Value.float FloatKind.f64 s5.lo, Value.float FloatKind.f64 s5.hi, Value.float FloatKind.f64 s6.lo, Value.float FloatKind.f64 s6.hi, Value.float FloatKind.f64 s7.lo, Value.float FloatKind.f64 s7.hi, Value.float FloatKind.f64 s8.lo, Value.float FloatKind.f64 s8.hi, Value.float FloatKind.f64 s9.lo, Value.float FloatKind.f64 s9.hi] 24) = V := ⟨_, rfl⟩
  rw [hV, hg1]
  have K0' := Lib.hid (hV ▸ Blk.alloc (Blk.below K0.out D13.out K0.out.lt) _ : Blk V1 (w.heap.size) 24 #[Value.float FloatKind.f64 A.lo, Value.float FloatKind.f64 A.hi])
  have K1' := Lib.hid (hV ▸ Blk.alloc (Blk.below K1.out D13.out K1.out.lt) _ : Blk V1 (w.heap.size + 1) 24 #[Value.float FloatKind.f64 B.lo, Value.float FloatKind.f64 B.hi])
  have K2 := Lib.hid (show Blk V1 g1 24 #[Value.float FloatKind.f64 s0.lo, Value.float FloatKind.f64 s0.hi, Value.float FloatKind.f64 s1.lo, Value.float FloatKind.f64 s1.hi, Value.float FloatKind.f64 s2.lo, Value.float FloatKind.f64 s2.hi, Value.float FloatKind.f64 s3.lo, Value.float FloatKind.f64 s3.hi, Value.float FloatKind.f64 s4.lo, Value.float FloatKind.f64 s4.hi, Value.float FloatKind.f64 s5.lo, Value.float FloatKind.f64 s5.hi, Value.float FloatKind.f64 s6.lo, Value.float FloatKind.f64 s6.hi, Value.float FloatKind.f64 s7.lo, Value.float FloatKind.f64 s7.hi, Value.float FloatKind.f64 s8.lo, Value.float FloatKind.f64 s8.hi, Value.float FloatKind.f64 s9.lo, Value.float FloatKind.f64 s9.hi] by rw [← hV, ← hg1]; exact Blk.new_at _ _ _ rfl)
  have HB' := Lib.hid (hV ▸ below_more (below_step HB.out D13.out) _ : Below w.heap.size w V1)
  clear HB HO hV K0 K1
  have HB := HB'
  clear HB'
  have K0 := K0'
  clear K0'
  have K1 := K1'
  clear K1'
  have HO := Lib.hid (show ∀ w', Below V1.heap.size V1 w' → (Below V1.heap.size V1 w' ∧ w'.cell? ⟨w.heap.size, 0, none⟩ = some (Value.float FloatKind.f64 A.lo) ∧ w'.cell? ⟨w.heap.size, 1, none⟩ = some (Value.float FloatKind.f64 A.hi) ∧ w'.cell? ⟨w.heap.size + 1, 0, none⟩ = some (Value.float FloatKind.f64 B.lo) ∧ w'.cell? ⟨w.heap.size + 1, 1, none⟩ = some (Value.float FloatKind.f64 B.hi) ∧ w'.cell? ⟨g1, 0, none⟩ = some (Value.float FloatKind.f64 s0.lo) ∧ w'.cell? ⟨g1, 1, none⟩ = some (Value.float FloatKind.f64 s0.hi) ∧ w'.cell? ⟨g1, 2, none⟩ = some (Value.float FloatKind.f64 s1.lo) ∧ w'.cell? ⟨g1, 3, none⟩ = some (Value.float FloatKind.f64 s1.hi) ∧ w'.cell? ⟨g1, 4, none⟩ = some (Value.float FloatKind.f64 s2.lo) ∧ w'.cell? ⟨g1, 5, none⟩ = some (Value.float FloatKind.f64 s2.hi) ∧ w'.cell? ⟨g1, 6, none⟩ = some (Value.float FloatKind.f64 s3.lo) ∧ w'.cell? ⟨g1, 7, none⟩ = some (Value.float FloatKind.f64 s3.hi) ∧ w'.cell? ⟨g1, 8, none⟩ = some (Value.float FloatKind.f64 s4.lo) ∧ w'.cell? ⟨g1, 9, none⟩ = some (Value.float FloatKind.f64 s4.hi) ∧ w'.cell? ⟨g1, 10, none⟩ = some (Value.float FloatKind.f64 s5.lo) ∧ w'.cell? ⟨g1, 11, none⟩ = some (Value.float FloatKind.f64 s5.hi) ∧ w'.cell? ⟨g1, 12, none⟩ = some (Value.float FloatKind.f64 s6.lo) ∧ w'.cell? ⟨g1, 13, none⟩ = some (Value.float FloatKind.f64 s6.hi) ∧ w'.cell? ⟨g1, 14, none⟩ = some (Value.float FloatKind.f64 s7.lo) ∧ w'.cell? ⟨g1, 15, none⟩ = some (Value.float FloatKind.f64 s7.hi) ∧ w'.cell? ⟨g1, 16, none⟩ = some (Value.float FloatKind.f64 s8.lo) ∧ w'.cell? ⟨g1, 17, none⟩ = some (Value.float FloatKind.f64 s8.hi) ∧ w'.cell? ⟨g1, 18, none⟩ = some (Value.float FloatKind.f64 s9.lo) ∧ w'.cell? ⟨g1, 19, none⟩ = some (Value.float FloatKind.f64 s9.hi)) from fun w' h => ⟨h, (K0.out.below h K0.out.lt).cell 0, (K0.out.below h K0.out.lt).cell 1, (K1.out.below h K1.out.lt).cell 0, (K1.out.below h K1.out.lt).cell 1, (K2.out.below h K2.out.lt).cell 0, (K2.out.below h K2.out.lt).cell 1, (K2.out.below h K2.out.lt).cell 2, (K2.out.below h K2.out.lt).cell 3, (K2.out.below h K2.out.lt).cell 4, (K2.out.below h K2.out.lt).cell 5, (K2.out.below h K2.out.lt).cell 6, (K2.out.below h K2.out.lt).cell 7, (K2.out.below h K2.out.lt).cell 8, (K2.out.below h K2.out.lt).cell 9, (K2.out.below h K2.out.lt).cell 10, (K2.out.below h K2.out.lt).cell 11, (K2.out.below h K2.out.lt).cell 12, (K2.out.below h K2.out.lt).cell 13, (K2.out.below h K2.out.lt).cell 14, (K2.out.below h K2.out.lt).cell 15, (K2.out.below h K2.out.lt).cell 16, (K2.out.below h K2.out.lt).cell 17, (K2.out.below h K2.out.lt).cell 18, (K2.out.below h K2.out.lt).cell 19⟩)
  have D14 := Lib.hid (Below.refl V1.heap.size V1)
  have hq := (HO.out _ D14.out).2
  go_wp2_with fail
  clear hg1
  refine wp_loop_rounds 11 ?_
  rw [rounds_succ]
  go_wp2_with fail
  refine (V0'.out _).mono ?_
  clear hq
  rintro r w15 ⟨rfl, hb⟩
  have D15 := Lib.hid (below_step D14.out hb)
  clear hb
  have hq := (HO.out _ D15.out).2
  go_wp2_with fail
  refine (R0'.out _).mono ?_
  clear hq
  rintro r w16 ⟨rfl, hb⟩
  have D16 := Lib.hid (below_step D15.out hb)
  clear hb
  have hq := (HO.out _ D16.out).2
  go_wp2_with fail
  rw [rounds_succ]
  go_wp2_with fail
  refine (V1'.out _).mono ?_
  clear hq
  rintro r w17 ⟨rfl, hb⟩
  have D17 := Lib.hid (below_step D16.out hb)
  clear hb
  have hq := (HO.out _ D17.out).2
  go_wp2_with fail
  refine (R1'.out _).mono ?_
  clear hq
  rintro r w18 ⟨rfl, hb⟩
  have D18 := Lib.hid (below_step D17.out hb)
  clear hb
  have hq := (HO.out _ D18.out).2
  go_wp2_with fail
  rw [rounds_succ]
  go_wp2_with fail
  refine (V2'.out _).mono ?_
  clear hq
  rintro r w19 ⟨rfl, hb⟩
  have D19 := Lib.hid (below_step D18.out hb)
  clear hb
  have hq := (HO.out _ D19.out).2
  go_wp2_with fail
  refine (R2'.out _).mono ?_
  clear hq
  rintro r w20 ⟨rfl, hb⟩
  have D20 := Lib.hid (below_step D19.out hb)
  clear hb
  have hq := (HO.out _ D20.out).2
  go_wp2_with fail
  rw [rounds_succ]
  go_wp2_with fail
  refine (V3'.out _).mono ?_
  clear hq
  rintro r w21 ⟨rfl, hb⟩
  have D21 := Lib.hid (below_step D20.out hb)
  clear hb
  have hq := (HO.out _ D21.out).2
  go_wp2_with fail
  refine (R3'.out _).mono ?_
  clear hq
  rintro r w22 ⟨rfl, hb⟩
  have D22 := Lib.hid (below_step D21.out hb)
  clear hb
  have hq := (HO.out _ D22.out).2
  go_wp2_with fail
  rw [rounds_succ]
  go_wp2_with fail
  refine (V4'.out _).mono ?_
  clear hq
  rintro r w23 ⟨rfl, hb⟩
  have D23 := Lib.hid (below_step D22.out hb)
  clear hb
  have hq := (HO.out _ D23.out).2
  go_wp2_with fail
  refine (R4'.out _).mono ?_
  clear hq
  rintro r w24 ⟨rfl, hb⟩
  have D24 := Lib.hid (below_step D23.out hb)
  clear hb
  have hq := (HO.out _ D24.out).2
  go_wp2_with fail
  rw [rounds_succ]
  go_wp2_with fail
  refine (V5'.out _).mono ?_
  clear hq
  rintro r w25 ⟨rfl, hb⟩
  have D25 := Lib.hid (below_step D24.out hb)
  clear hb
  have hq := (HO.out _ D25.out).2
  go_wp2_with fail
  refine (R5'.out _).mono ?_
  clear hq
  rintro r w26 ⟨rfl, hb⟩
  have D26 := Lib.hid (below_step D25.out hb)
  clear hb
  have hq := (HO.out _ D26.out).2
  go_wp2_with fail
  rw [rounds_succ]
  go_wp2_with fail
  refine (V6'.out _).mono ?_
  clear hq
  rintro r w27 ⟨rfl, hb⟩
  have D27 := Lib.hid (below_step D26.out hb)
  clear hb
  have hq := (HO.out _ D27.out).2
  go_wp2_with fail
  refine (R6'.out _).mono ?_
  clear hq
  rintro r w28 ⟨rfl, hb⟩
  have D28 := Lib.hid (below_step D27.out hb)
  clear hb
  have hq := (HO.out _ D28.out).2
  go_wp2_with fail
  rw [rounds_succ]
  go_wp2_with fail
  refine (V7'.out _).mono ?_
  clear hq
  rintro r w29 ⟨rfl, hb⟩
  have D29 := Lib.hid (below_step D28.out hb)
  clear hb
  have hq := (HO.out _ D29.out).2
  go_wp2_with fail
  refine (R7'.out _).mono ?_
  clear hq
  rintro r w30 ⟨rfl, hb⟩
  have D30 := Lib.hid (below_step D29.out hb)
  clear hb
  have hq := (HO.out _ D30.out).2
  go_wp2_with fail
  rw [rounds_succ]
  go_wp2_with fail
  refine (V8'.out _).mono ?_
  clear hq
  rintro r w31 ⟨rfl, hb⟩
  have D31 := Lib.hid (below_step D30.out hb)
  clear hb
  have hq := (HO.out _ D31.out).2
  go_wp2_with fail
  refine (R8'.out _).mono ?_
  clear hq
  rintro r w32 ⟨rfl, hb⟩
  have D32 := Lib.hid (below_step D31.out hb)
  clear hb
  have hq := (HO.out _ D32.out).2
  go_wp2_with fail
  rw [rounds_succ]
  go_wp2_with fail
  refine (V9'.out _).mono ?_
  clear hq
  rintro r w33 ⟨rfl, hb⟩
  have D33 := Lib.hid (below_step D32.out hb)
  clear hb
  have hq := (HO.out _ D33.out).2
  go_wp2_with fail
  refine (R9'.out _).mono ?_
  clear hq
  rintro r w34 ⟨rfl, hb⟩
  have D34 := Lib.hid (below_step D33.out hb)
  clear hb
  have hq := (HO.out _ D34.out).2
  go_wp2_with fail
  rw [rounds_succ]
  go_wp2_with fail
  go_ret
  exact ⟨rfl, below_step HB.out D34.out⟩
theorem walk_stays (a b c d : Nat) (ha : a < 18446744073709551616) (hb : b < 18446744073709551616) (hc : c < 18446744073709551616) (hd : d < 18446744073709551616) (w : World) : Calls Try.prog 10 #[.agg #[.float .f64 a, .float .f64 b], .agg #[.float .f64 c, .float .f64 d]] w fun r w' => r = .returned (.bool true) ∧ Below w.heap.size w w' := by
  cases h1 : vdB a b
  · exact stays_n1 a b c d ha hb hc hd h1 w
  · cases h2 : vdB c d
    · exact stays_n2 a b c d ha hb hc hd h1 h2 w
    · exact stays_good ⟨a, b, vdB_true ha hb h1⟩ ⟨c, d, vdB_true hc hd h2⟩ w
end Go.Proofs.Ytlpnfgglpoppfaa
