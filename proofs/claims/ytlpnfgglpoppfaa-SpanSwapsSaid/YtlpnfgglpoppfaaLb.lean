/- The walk of SpanSwaps (gen_lb.py). -/
import Derived.Test.YtlpnfgglpoppfaaGf
set_option linter.unusedVariables false
set_option linter.unusedSimpArgs false
namespace Go.Proofs.Ytlpnfgglpoppfaa
open Go.RowKit Fl

set_option maxRecDepth 100000 in
theorem swaps_n1 (a b c d : Nat) (ha : a < 18446744073709551616) (hb : b < 18446744073709551616) (hc : c < 18446744073709551616) (hd : d < 18446744073709551616) (h1 : vdB a b = false) (w : World) : Calls Try.prog 8 #[.agg #[.float .f64 a, .float .f64 b], .agg #[.float .f64 c, .float .f64 d]] w fun r w' => r = .returned (.bool true) ∧ Below w.heap.size w w' := by
  have H0 := Lib.hid awake2
  have H1 := Lib.hid (fun w => rvalid_any a b ha hb w)
  have H2 := Lib.hid (fun w => rvalid_any c d hc hd w)
  rw [h1] at H1
  go_enter Try.func8, Try.ntmps8
  go_wp2_with fail
  obtain ⟨W, hW, K0, K1, hB, hz⟩ := bx2 w 24 24 #[Value.float FloatKind.f64 a, Value.float FloatKind.f64 b] #[Value.float FloatKind.f64 c, Value.float FloatKind.f64 d]
  rw [← hW]
  have K0 := Lib.hid K0
  have K1 := Lib.hid K1
  have HB := Lib.hid hB
  clear hW hB hz
  have HO := Lib.hid (show ∀ w', Below W.heap.size W w' → (Below W.heap.size W w' ∧ w'.cell? ⟨w.heap.size, 0, none⟩ = some (Value.float FloatKind.f64 a) ∧ w'.cell? ⟨w.heap.size, 1, none⟩ = some (Value.float FloatKind.f64 b) ∧ w'.cell? ⟨w.heap.size + 1, 0, none⟩ = some (Value.float FloatKind.f64 c) ∧ w'.cell? ⟨w.heap.size + 1, 1, none⟩ = some (Value.float FloatKind.f64 d)) from fun w' h => ⟨h, (K0.out.below h K0.out.lt).cell 0, (K0.out.below h K0.out.lt).cell 1, (K1.out.below h K1.out.lt).cell 0, (K1.out.below h K1.out.lt).cell 1⟩)
  have D0 := Lib.hid (Below.refl W.heap.size W)
  refine (H0.out _).mono ?_
  rintro r w1 ⟨rfl, hb⟩
  have D1 := Lib.hid (below_step D0.out hb)
  clear hb
  obtain ⟨-, q0, q1, q2, q3⟩ := HO.out _ D1.out
  go_wp2_with fail
  refine (H1.out _).mono ?_
  clear q0 q1 q2 q3
  rintro r w2 ⟨rfl, hb⟩
  have D2 := Lib.hid (below_step D1.out hb)
  clear hb
  obtain ⟨-, q0, q1, q2, q3⟩ := HO.out _ D2.out
  go_wp2_with fail
  go_ret
  exact ⟨rfl, below_step HB.out D2.out⟩
set_option maxRecDepth 100000 in
theorem swaps_n2 (a b c d : Nat) (ha : a < 18446744073709551616) (hb : b < 18446744073709551616) (hc : c < 18446744073709551616) (hd : d < 18446744073709551616) (h1 : vdB a b = true) (h2 : vdB c d = false) (w : World) : Calls Try.prog 8 #[.agg #[.float .f64 a, .float .f64 b], .agg #[.float .f64 c, .float .f64 d]] w fun r w' => r = .returned (.bool true) ∧ Below w.heap.size w w' := by
  have H0 := Lib.hid awake2
  have H1 := Lib.hid (fun w => rvalid_any a b ha hb w)
  have H2 := Lib.hid (fun w => rvalid_any c d hc hd w)
  rw [h1] at H1
  rw [h2] at H2
  go_enter Try.func8, Try.ntmps8
  go_wp2_with fail
  obtain ⟨W, hW, K0, K1, hB, hz⟩ := bx2 w 24 24 #[Value.float FloatKind.f64 a, Value.float FloatKind.f64 b] #[Value.float FloatKind.f64 c, Value.float FloatKind.f64 d]
  rw [← hW]
  have K0 := Lib.hid K0
  have K1 := Lib.hid K1
  have HB := Lib.hid hB
  clear hW hB hz
  have HO := Lib.hid (show ∀ w', Below W.heap.size W w' → (Below W.heap.size W w' ∧ w'.cell? ⟨w.heap.size, 0, none⟩ = some (Value.float FloatKind.f64 a) ∧ w'.cell? ⟨w.heap.size, 1, none⟩ = some (Value.float FloatKind.f64 b) ∧ w'.cell? ⟨w.heap.size + 1, 0, none⟩ = some (Value.float FloatKind.f64 c) ∧ w'.cell? ⟨w.heap.size + 1, 1, none⟩ = some (Value.float FloatKind.f64 d)) from fun w' h => ⟨h, (K0.out.below h K0.out.lt).cell 0, (K0.out.below h K0.out.lt).cell 1, (K1.out.below h K1.out.lt).cell 0, (K1.out.below h K1.out.lt).cell 1⟩)
  have D0 := Lib.hid (Below.refl W.heap.size W)
  refine (H0.out _).mono ?_
  rintro r w1 ⟨rfl, hb⟩
  have D1 := Lib.hid (below_step D0.out hb)
  clear hb
  obtain ⟨-, q0, q1, q2, q3⟩ := HO.out _ D1.out
  go_wp2_with fail
  refine (H1.out _).mono ?_
  clear q0 q1 q2 q3
  rintro r w2 ⟨rfl, hb⟩
  have D2 := Lib.hid (below_step D1.out hb)
  clear hb
  obtain ⟨-, q0, q1, q2, q3⟩ := HO.out _ D2.out
  go_wp2_with fail
  refine (H2.out _).mono ?_
  clear q0 q1 q2 q3
  rintro r w3 ⟨rfl, hb⟩
  have D3 := Lib.hid (below_step D2.out hb)
  clear hb
  obtain ⟨-, q0, q1, q2, q3⟩ := HO.out _ D3.out
  go_wp2_with fail
  go_ret
  exact ⟨rfl, below_step HB.out D3.out⟩
set_option maxRecDepth 100000 in
set_option maxHeartbeats 8000000 in
theorem swaps_good (A B : Sp) (w : World) : Calls Try.prog 8 #[.agg #[.float .f64 A.lo, .float .f64 A.hi], .agg #[.float .f64 B.lo, .float .f64 B.hi]] w fun r w' => r = .returned (.bool true) ∧ Below w.heap.size w w' := by
  have H0 := Lib.hid awake2
  have HV := Lib.hid (fun w => rvalid_any A.lo A.hi A.vd.l.lt A.vd.h.lt w)
  have HW := Lib.hid (fun w => rvalid_any B.lo B.hi B.vd.l.lt B.vd.h.lt w)
  rw [vdB_of A.vd] at HV
  rw [vdB_of B.vd] at HW
  have C0 := Lib.hid (fun w => add_sp A B w)
  have C1 := Lib.hid (fun w => add_sp B A w)
  rw [addS_comm B A] at C1
  obtain ⟨s0, hs⟩ : ∃ s, addS A B = s := ⟨_, rfl⟩
  rw [hs] at C0 C1
  clear hs
  have e0 := order_self s0.vd.l
  have f0 := order_self s0.vd.h
  have C2 := Lib.hid (fun w => mul_sp A B w)
  have C3 := Lib.hid (fun w => mul_sp B A w)
  rw [mulS_comm B A] at C3
  obtain ⟨s2, hs⟩ : ∃ s, mulS A B = s := ⟨_, rfl⟩
  rw [hs] at C2 C3
  clear hs
  have e2 := order_self s2.vd.l
  have f2 := order_self s2.vd.h
  have C4 := Lib.hid (fun w => min_sp A B w)
  have C5 := Lib.hid (fun w => min_sp B A w)
  rw [minS_comm B A] at C5
  obtain ⟨s4, hs⟩ : ∃ s, minS A B = s := ⟨_, rfl⟩
  rw [hs] at C4 C5
  clear hs
  have e4 := order_self s4.vd.l
  have f4 := order_self s4.vd.h
  have C6 := Lib.hid (fun w => max_sp A B w)
  have C7 := Lib.hid (fun w => max_sp B A w)
  rw [maxS_comm B A] at C7
  obtain ⟨s6, hs⟩ : ∃ s, maxS A B = s := ⟨_, rfl⟩
  rw [hs] at C6 C7
  clear hs
  have e6 := order_self s6.vd.l
  have f6 := order_self s6.vd.h
  have C8 := Lib.hid (fun w => hull_sp A B w)
  have C9 := Lib.hid (fun w => hull_sp B A w)
  rw [hullS_comm B A] at C9
  obtain ⟨s8, hs⟩ : ∃ s, hullS A B = s := ⟨_, rfl⟩
  rw [hs] at C8 C9
  clear hs
  have e8 := order_self s8.vd.l
  have f8 := order_self s8.vd.h
  have C10 := Lib.hid (fun w => sub_sp A B w)
  have C11 := Lib.hid (fun w => sub_sp B A w)
  have C12 := Lib.hid (fun w => neg_sp (subS B A) w)
  rw [neg_sub A B] at C12
  obtain ⟨s10, hs⟩ : ∃ s, subS A B = s := ⟨_, rfl⟩
  rw [hs] at C10 C12
  clear hs
  obtain ⟨s11, hs⟩ : ∃ s, subS B A = s := ⟨_, rfl⟩
  rw [hs] at C11 C12
  clear hs
  have e10 := order_self s10.vd.l
  have f10 := order_self s10.vd.h
  have C13 := Lib.hid (fun w => neg_sp A w)
  have C14 := Lib.hid (fun w => neg_sp (negS A) w)
  rw [neg_neg A] at C14
  obtain ⟨s13, hs⟩ : ∃ s, negS A = s := ⟨_, rfl⟩
  rw [hs] at C13 C14
  clear hs
  have e13 := order_self A.vd.l
  have f13 := order_self A.vd.h
  go_enter Try.func8, Try.ntmps8
  go_wp2_with fail
  obtain ⟨W, hW, K0, K1, hB, hz⟩ := bx2 w 24 24 #[Value.float FloatKind.f64 A.lo, Value.float FloatKind.f64 A.hi] #[Value.float FloatKind.f64 B.lo, Value.float FloatKind.f64 B.hi]
  rw [← hW]
  have K0 := Lib.hid K0
  have K1 := Lib.hid K1
  have HB := Lib.hid hB
  clear hW hB hz
  have HO := Lib.hid (show ∀ w', Below W.heap.size W w' → (Below W.heap.size W w' ∧ w'.cell? ⟨w.heap.size, 0, none⟩ = some (Value.float FloatKind.f64 A.lo) ∧ w'.cell? ⟨w.heap.size, 1, none⟩ = some (Value.float FloatKind.f64 A.hi) ∧ w'.cell? ⟨w.heap.size + 1, 0, none⟩ = some (Value.float FloatKind.f64 B.lo) ∧ w'.cell? ⟨w.heap.size + 1, 1, none⟩ = some (Value.float FloatKind.f64 B.hi)) from fun w' h => ⟨h, (K0.out.below h K0.out.lt).cell 0, (K0.out.below h K0.out.lt).cell 1, (K1.out.below h K1.out.lt).cell 0, (K1.out.below h K1.out.lt).cell 1⟩)
  have D0 := Lib.hid (Below.refl W.heap.size W)
  refine (H0.out _).mono ?_
  rintro r w1 ⟨rfl, hb⟩
  have D1 := Lib.hid (below_step D0.out hb)
  clear hb
  obtain ⟨-, q0, q1, q2, q3⟩ := HO.out _ D1.out
  go_wp2_with fail
  refine (HV.out _).mono ?_
  clear q0 q1 q2 q3
  rintro r w2 ⟨rfl, hb⟩
  have D2 := Lib.hid (below_step D1.out hb)
  clear hb
  obtain ⟨-, q0, q1, q2, q3⟩ := HO.out _ D2.out
  go_wp2_with fail
  refine (HW.out _).mono ?_
  clear q0 q1 q2 q3
  rintro r w3 ⟨rfl, hb⟩
  have D3 := Lib.hid (below_step D2.out hb)
  clear hb
  obtain ⟨-, q0, q1, q2, q3⟩ := HO.out _ D3.out
  go_wp2_with fail
  clear q0 q1 q2 q3
  refine wp_region_held (S := (fun w' => Below W.heap.size W w' ∧ w'.cell? ⟨w.heap.size, 0, none⟩ = some (Value.float FloatKind.f64 A.lo) ∧ w'.cell? ⟨w.heap.size, 1, none⟩ = some (Value.float FloatKind.f64 A.hi) ∧ w'.cell? ⟨w.heap.size + 1, 0, none⟩ = some (Value.float FloatKind.f64 B.lo) ∧ w'.cell? ⟨w.heap.size + 1, 1, none⟩ = some (Value.float FloatKind.f64 B.hi))) (by kernel_rfl) ?_
  (try change wpAnyH _ _ _ _ _ _ _ (World.drew _))
  have hS0 := HO.out _ (Below.drew D3.out)
  refine wpAnyH_takeN (i := 0) (v := ?v5_0) (l' := #[true, false, false, false, false, false, false, false, false, false, false, false, false, false, false, false, false, false, false, false, false, false, false, false, false, false, false, false, false, false, false, false, false, false, false, false, false, false, false, false, false, false, false, false, false, false, false, false, false, false, false, false, false, false, false, false, false, false, false, false, false]) (a' := ?a5_0) rfl (by kernel_rfl) (by kernel_rfl) (by kernel_rfl) (fun _ _ _ h => h) (Or.inl ⟨by kernel_rfl, ?h5_0⟩) rfl ?p5_0 hS0 ?r5_0
  case h5_0 => (intro w hS; obtain ⟨-, s0, s1, s2, s3⟩ := hS; go_simp; try with_reducible rfl)
  case p5_0 => (go_simp; try with_reducible rfl)
  refine wpAnyH_takeN (i := 1) (v := ?v5_1) (l' := #[true, true, false, false, false, false, false, false, false, false, false, false, false, false, false, false, false, false, false, false, false, false, false, false, false, false, false, false, false, false, false, false, false, false, false, false, false, false, false, false, false, false, false, false, false, false, false, false, false, false, false, false, false, false, false, false, false, false, false, false, false]) (a' := ?a5_1) rfl (by kernel_rfl) (by kernel_rfl) (by kernel_rfl) (fun _ _ _ h => h) (Or.inl ⟨by kernel_rfl, ?h5_1⟩) rfl ?p5_1 hS0 ?r5_1
  case h5_1 => (intro w hS; obtain ⟨-, s0, s1, s2, s3⟩ := hS; go_simp; try with_reducible rfl)
  case p5_1 => (go_simp; try with_reducible rfl)
  refine wpAnyH_takeN (i := 3) (v := ?v5_3) (l' := #[true, true, false, true, false, false, false, false, false, false, false, false, false, false, false, false, false, false, false, false, false, false, false, false, false, false, false, false, false, false, false, false, false, false, false, false, false, false, false, false, false, false, false, false, false, false, false, false, false, false, false, false, false, false, false, false, false, false, false, false, false]) (a' := ?a5_3) rfl (by kernel_rfl) (by kernel_rfl) (by kernel_rfl) (fun _ _ _ h => h) (Or.inl ⟨by kernel_rfl, ?h5_3⟩) rfl ?p5_3 hS0 ?r5_3
  case h5_3 => (intro w hS; obtain ⟨-, s0, s1, s2, s3⟩ := hS; go_simp; try with_reducible rfl)
  case p5_3 => (go_simp; try with_reducible rfl)
  refine wpAnyH_takeN (i := 4) (v := ?v5_4) (l' := #[true, true, false, true, true, false, false, false, false, false, false, false, false, false, false, false, false, false, false, false, false, false, false, false, false, false, false, false, false, false, false, false, false, false, false, false, false, false, false, false, false, false, false, false, false, false, false, false, false, false, false, false, false, false, false, false, false, false, false, false, false]) (a' := ?a5_4) rfl (by kernel_rfl) (by kernel_rfl) (by kernel_rfl) (fun _ _ _ h => h) (Or.inl ⟨by kernel_rfl, ?h5_4⟩) rfl ?p5_4 hS0 ?r5_4
  case h5_4 => (intro w hS; obtain ⟨-, s0, s1, s2, s3⟩ := hS; go_simp; try with_reducible rfl)
  case p5_4 => (go_simp; try with_reducible rfl)
  refine wpAnyH_oneN (i := 2) (l' := #[true, true, true, true, true, false, false, false, false, false, false, false, false, false, false, false, false, false, false, false, false, false, false, false, false, false, false, false, false, false, false, false, false, false, false, false, false, false, false, false, false, false, false, false, false, false, false, false, false, false, false, false, false, false, false, false, false, false, false, false, false]) rfl (by kernel_rfl) (by kernel_rfl) rfl (fun K hK => ?_)
  obtain ⟨hP, s0, s1, s2, s3⟩ := hS0
  go_simp
  go_at_call 37
  refine (C0.out _).mono ?_
  rintro r w4 ⟨rfl, hb⟩
  dsimp only
  have D4 := Lib.hid (below_step hP hb)
  clear hb
  have hS1 := HO.out _ (D4.out)
  clear hP s0 s1 s2 s3
  refine hK _ _ hS1 ?_
  clear hK K
  refine wpAnyH_oneN (i := 5) (l' := #[true, true, true, true, true, true, false, false, false, false, false, false, false, false, false, false, false, false, false, false, false, false, false, false, false, false, false, false, false, false, false, false, false, false, false, false, false, false, false, false, false, false, false, false, false, false, false, false, false, false, false, false, false, false, false, false, false, false, false, false, false]) rfl (by kernel_rfl) (by kernel_rfl) rfl (fun K hK => ?_)
  obtain ⟨hP, s0, s1, s2, s3⟩ := hS1
  go_simp
  go_at_call 37
  refine (C1.out _).mono ?_
  rintro r w5 ⟨rfl, hb⟩
  dsimp only
  have D5 := Lib.hid (below_step hP hb)
  clear hb
  have hS2 := HO.out _ (D5.out)
  clear hP s0 s1 s2 s3
  refine hK _ _ hS2 ?_
  clear hK K
  refine wpAnyH_takeN (i := 6) (v := ?v5_6) (l' := #[true, true, true, true, true, true, true, false, false, false, false, false, false, false, false, false, false, false, false, false, false, false, false, false, false, false, false, false, false, false, false, false, false, false, false, false, false, false, false, false, false, false, false, false, false, false, false, false, false, false, false, false, false, false, false, false, false, false, false, false, false]) (a' := ?a5_6) rfl (by kernel_rfl) (by kernel_rfl) (by kernel_rfl) (fun _ _ _ h => h) (Or.inl ⟨by kernel_rfl, ?h5_6⟩) rfl ?p5_6 hS2 ?r5_6
  case h5_6 => (intro w hS; obtain ⟨-, s0, s1, s2, s3⟩ := hS; go_simp; try with_reducible rfl)
  case p5_6 => (go_simp; try with_reducible rfl)
  refine wpAnyH_takeN (i := 7) (v := ?v5_7) (l' := #[true, true, true, true, true, true, true, true, false, false, false, false, false, false, false, false, false, false, false, false, false, false, false, false, false, false, false, false, false, false, false, false, false, false, false, false, false, false, false, false, false, false, false, false, false, false, false, false, false, false, false, false, false, false, false, false, false, false, false, false, false]) (a' := ?a5_7) rfl (by kernel_rfl) (by kernel_rfl) (by kernel_rfl) (fun _ _ _ h => h) (Or.inl ⟨by kernel_rfl, ?h5_7⟩) rfl ?p5_7 hS2 ?r5_7
  case h5_7 => (intro w hS; obtain ⟨-, s0, s1, s2, s3⟩ := hS; go_simp; try with_reducible rfl)
  case p5_7 => (go_simp; try with_reducible rfl)
  refine wpAnyH_takeN (i := 8) (v := ?v5_8) (l' := #[true, true, true, true, true, true, true, true, true, false, false, false, false, false, false, false, false, false, false, false, false, false, false, false, false, false, false, false, false, false, false, false, false, false, false, false, false, false, false, false, false, false, false, false, false, false, false, false, false, false, false, false, false, false, false, false, false, false, false, false, false]) (a' := ?a5_8) rfl (by kernel_rfl) (by kernel_rfl) (by kernel_rfl) (fun _ _ _ h => h) (Or.inl ⟨by kernel_rfl, ?h5_8⟩) rfl ?p5_8 hS2 ?r5_8
  case h5_8 => (intro w hS; obtain ⟨-, s0, s1, s2, s3⟩ := hS; go_simp; try with_reducible rfl)
  case p5_8 => (go_simp; try with_reducible rfl)
  refine wpAnyH_takeN (i := 9) (v := ?v5_9) (l' := #[true, true, true, true, true, true, true, true, true, true, false, false, false, false, false, false, false, false, false, false, false, false, false, false, false, false, false, false, false, false, false, false, false, false, false, false, false, false, false, false, false, false, false, false, false, false, false, false, false, false, false, false, false, false, false, false, false, false, false, false, false]) (a' := ?a5_9) rfl (by kernel_rfl) (by kernel_rfl) (by kernel_rfl) (fun _ _ _ h => h) (Or.inl ⟨by kernel_rfl, ?h5_9⟩) rfl ?p5_9 hS2 ?r5_9
  case h5_9 => (intro w hS; obtain ⟨-, s0, s1, s2, s3⟩ := hS; go_simp; try with_reducible rfl)
  case p5_9 => (go_simp; try with_reducible rfl)
  refine wpAnyH_takeN (i := 11) (v := ?v5_11) (l' := #[true, true, true, true, true, true, true, true, true, true, false, true, false, false, false, false, false, false, false, false, false, false, false, false, false, false, false, false, false, false, false, false, false, false, false, false, false, false, false, false, false, false, false, false, false, false, false, false, false, false, false, false, false, false, false, false, false, false, false, false, false]) (a' := ?a5_11) rfl (by kernel_rfl) (by kernel_rfl) (by kernel_rfl) (fun _ _ _ h => h) (Or.inl ⟨by kernel_rfl, ?h5_11⟩) rfl ?p5_11 hS2 ?r5_11
  case h5_11 => (intro w hS; obtain ⟨-, s0, s1, s2, s3⟩ := hS; go_simp; try with_reducible rfl)
  case p5_11 => (go_simp; try with_reducible rfl)
  refine wpAnyH_takeN (i := 12) (v := ?v5_12) (l' := #[true, true, true, true, true, true, true, true, true, true, false, true, true, false, false, false, false, false, false, false, false, false, false, false, false, false, false, false, false, false, false, false, false, false, false, false, false, false, false, false, false, false, false, false, false, false, false, false, false, false, false, false, false, false, false, false, false, false, false, false, false]) (a' := ?a5_12) rfl (by kernel_rfl) (by kernel_rfl) (by kernel_rfl) (fun _ _ _ h => h) (Or.inl ⟨by kernel_rfl, ?h5_12⟩) rfl ?p5_12 hS2 ?r5_12
  case h5_12 => (intro w hS; obtain ⟨-, s0, s1, s2, s3⟩ := hS; go_simp; try with_reducible rfl)
  case p5_12 => (go_simp; try with_reducible rfl)
  refine wpAnyH_oneN (i := 10) (l' := #[true, true, true, true, true, true, true, true, true, true, true, true, true, false, false, false, false, false, false, false, false, false, false, false, false, false, false, false, false, false, false, false, false, false, false, false, false, false, false, false, false, false, false, false, false, false, false, false, false, false, false, false, false, false, false, false, false, false, false, false, false]) rfl (by kernel_rfl) (by kernel_rfl) rfl (fun K hK => ?_)
  obtain ⟨hP, s0, s1, s2, s3⟩ := hS2
  go_simp
  go_at_call 39
  refine (C2.out _).mono ?_
  rintro r w6 ⟨rfl, hb⟩
  dsimp only
  have D6 := Lib.hid (below_step hP hb)
  clear hb
  have hS3 := HO.out _ (D6.out)
  clear hP s0 s1 s2 s3
  refine hK _ _ hS3 ?_
  clear hK K
  refine wpAnyH_oneN (i := 13) (l' := #[true, true, true, true, true, true, true, true, true, true, true, true, true, true, false, false, false, false, false, false, false, false, false, false, false, false, false, false, false, false, false, false, false, false, false, false, false, false, false, false, false, false, false, false, false, false, false, false, false, false, false, false, false, false, false, false, false, false, false, false, false]) rfl (by kernel_rfl) (by kernel_rfl) rfl (fun K hK => ?_)
  obtain ⟨hP, s0, s1, s2, s3⟩ := hS3
  go_simp
  go_at_call 39
  refine (C3.out _).mono ?_
  rintro r w7 ⟨rfl, hb⟩
  dsimp only
  have D7 := Lib.hid (below_step hP hb)
  clear hb
  have hS4 := HO.out _ (D7.out)
  clear hP s0 s1 s2 s3
  refine hK _ _ hS4 ?_
  clear hK K
  refine wpAnyH_takeN (i := 14) (v := ?v5_14) (l' := #[true, true, true, true, true, true, true, true, true, true, true, true, true, true, true, false, false, false, false, false, false, false, false, false, false, false, false, false, false, false, false, false, false, false, false, false, false, false, false, false, false, false, false, false, false, false, false, false, false, false, false, false, false, false, false, false, false, false, false, false, false]) (a' := ?a5_14) rfl (by kernel_rfl) (by kernel_rfl) (by kernel_rfl) (fun _ _ _ h => h) (Or.inl ⟨by kernel_rfl, ?h5_14⟩) rfl ?p5_14 hS4 ?r5_14
  case h5_14 => (intro w hS; obtain ⟨-, s0, s1, s2, s3⟩ := hS; go_simp; try with_reducible rfl)
  case p5_14 => (go_simp; try with_reducible rfl)
  refine wpAnyH_takeN (i := 15) (v := ?v5_15) (l' := #[true, true, true, true, true, true, true, true, true, true, true, true, true, true, true, true, false, false, false, false, false, false, false, false, false, false, false, false, false, false, false, false, false, false, false, false, false, false, false, false, false, false, false, false, false, false, false, false, false, false, false, false, false, false, false, false, false, false, false, false, false]) (a' := ?a5_15) rfl (by kernel_rfl) (by kernel_rfl) (by kernel_rfl) (fun _ _ _ h => h) (Or.inl ⟨by kernel_rfl, ?h5_15⟩) rfl ?p5_15 hS4 ?r5_15
  case h5_15 => (intro w hS; obtain ⟨-, s0, s1, s2, s3⟩ := hS; go_simp; try with_reducible rfl)
  case p5_15 => (go_simp; try with_reducible rfl)
  refine wpAnyH_takeN (i := 16) (v := ?v5_16) (l' := #[true, true, true, true, true, true, true, true, true, true, true, true, true, true, true, true, true, false, false, false, false, false, false, false, false, false, false, false, false, false, false, false, false, false, false, false, false, false, false, false, false, false, false, false, false, false, false, false, false, false, false, false, false, false, false, false, false, false, false, false, false]) (a' := ?a5_16) rfl (by kernel_rfl) (by kernel_rfl) (by kernel_rfl) (fun _ _ _ h => h) (Or.inl ⟨by kernel_rfl, ?h5_16⟩) rfl ?p5_16 hS4 ?r5_16
  case h5_16 => (intro w hS; obtain ⟨-, s0, s1, s2, s3⟩ := hS; go_simp; try with_reducible rfl)
  case p5_16 => (go_simp; try with_reducible rfl)
  refine wpAnyH_takeN (i := 17) (v := ?v5_17) (l' := #[true, true, true, true, true, true, true, true, true, true, true, true, true, true, true, true, true, true, false, false, false, false, false, false, false, false, false, false, false, false, false, false, false, false, false, false, false, false, false, false, false, false, false, false, false, false, false, false, false, false, false, false, false, false, false, false, false, false, false, false, false]) (a' := ?a5_17) rfl (by kernel_rfl) (by kernel_rfl) (by kernel_rfl) (fun _ _ _ h => h) (Or.inl ⟨by kernel_rfl, ?h5_17⟩) rfl ?p5_17 hS4 ?r5_17
  case h5_17 => (intro w hS; obtain ⟨-, s0, s1, s2, s3⟩ := hS; go_simp; try with_reducible rfl)
  case p5_17 => (go_simp; try with_reducible rfl)
  refine wpAnyH_takeN (i := 18) (v := ?v5_18) (l' := #[true, true, true, true, true, true, true, true, true, true, true, true, true, true, true, true, true, true, true, false, false, false, false, false, false, false, false, false, false, false, false, false, false, false, false, false, false, false, false, false, false, false, false, false, false, false, false, false, false, false, false, false, false, false, false, false, false, false, false, false, false]) (a' := ?a5_18) rfl (by kernel_rfl) (by kernel_rfl) (by kernel_rfl) (fun _ _ _ h => h) (Or.inl ⟨by kernel_rfl, ?h5_18⟩) rfl ?p5_18 hS4 ?r5_18
  case h5_18 => (intro w hS; obtain ⟨-, s0, s1, s2, s3⟩ := hS; go_simp; try with_reducible rfl)
  case p5_18 => (go_simp; try with_reducible rfl)
  refine wpAnyH_takeN (i := 20) (v := ?v5_20) (l' := #[true, true, true, true, true, true, true, true, true, true, true, true, true, true, true, true, true, true, true, false, true, false, false, false, false, false, false, false, false, false, false, false, false, false, false, false, false, false, false, false, false, false, false, false, false, false, false, false, false, false, false, false, false, false, false, false, false, false, false, false, false]) (a' := ?a5_20) rfl (by kernel_rfl) (by kernel_rfl) (by kernel_rfl) (fun _ _ _ h => h) (Or.inl ⟨by kernel_rfl, ?h5_20⟩) rfl ?p5_20 hS4 ?r5_20
  case h5_20 => (intro w hS; obtain ⟨-, s0, s1, s2, s3⟩ := hS; go_simp; try with_reducible rfl)
  case p5_20 => (go_simp; try with_reducible rfl)
  refine wpAnyH_takeN (i := 21) (v := ?v5_21) (l' := #[true, true, true, true, true, true, true, true, true, true, true, true, true, true, true, true, true, true, true, false, true, true, false, false, false, false, false, false, false, false, false, false, false, false, false, false, false, false, false, false, false, false, false, false, false, false, false, false, false, false, false, false, false, false, false, false, false, false, false, false, false]) (a' := ?a5_21) rfl (by kernel_rfl) (by kernel_rfl) (by kernel_rfl) (fun _ _ _ h => h) (Or.inl ⟨by kernel_rfl, ?h5_21⟩) rfl ?p5_21 hS4 ?r5_21
  case h5_21 => (intro w hS; obtain ⟨-, s0, s1, s2, s3⟩ := hS; go_simp; try with_reducible rfl)
  case p5_21 => (go_simp; try with_reducible rfl)
  refine wpAnyH_oneN (i := 19) (l' := #[true, true, true, true, true, true, true, true, true, true, true, true, true, true, true, true, true, true, true, true, true, true, false, false, false, false, false, false, false, false, false, false, false, false, false, false, false, false, false, false, false, false, false, false, false, false, false, false, false, false, false, false, false, false, false, false, false, false, false, false, false]) rfl (by kernel_rfl) (by kernel_rfl) rfl (fun K hK => ?_)
  obtain ⟨hP, s0, s1, s2, s3⟩ := hS4
  go_simp
  go_at_call 45
  refine (C4.out _).mono ?_
  rintro r w8 ⟨rfl, hb⟩
  dsimp only
  have D8 := Lib.hid (below_step hP hb)
  clear hb
  have hS5 := HO.out _ (D8.out)
  clear hP s0 s1 s2 s3
  refine hK _ _ hS5 ?_
  clear hK K
  refine wpAnyH_oneN (i := 22) (l' := #[true, true, true, true, true, true, true, true, true, true, true, true, true, true, true, true, true, true, true, true, true, true, true, false, false, false, false, false, false, false, false, false, false, false, false, false, false, false, false, false, false, false, false, false, false, false, false, false, false, false, false, false, false, false, false, false, false, false, false, false, false]) rfl (by kernel_rfl) (by kernel_rfl) rfl (fun K hK => ?_)
  obtain ⟨hP, s0, s1, s2, s3⟩ := hS5
  go_simp
  go_at_call 45
  refine (C5.out _).mono ?_
  rintro r w9 ⟨rfl, hb⟩
  dsimp only
  have D9 := Lib.hid (below_step hP hb)
  clear hb
  have hS6 := HO.out _ (D9.out)
  clear hP s0 s1 s2 s3
  refine hK _ _ hS6 ?_
  clear hK K
  refine wpAnyH_takeN (i := 23) (v := ?v5_23) (l' := #[true, true, true, true, true, true, true, true, true, true, true, true, true, true, true, true, true, true, true, true, true, true, true, true, false, false, false, false, false, false, false, false, false, false, false, false, false, false, false, false, false, false, false, false, false, false, false, false, false, false, false, false, false, false, false, false, false, false, false, false, false]) (a' := ?a5_23) rfl (by kernel_rfl) (by kernel_rfl) (by kernel_rfl) (fun _ _ _ h => h) (Or.inl ⟨by kernel_rfl, ?h5_23⟩) rfl ?p5_23 hS6 ?r5_23
  case h5_23 => (intro w hS; obtain ⟨-, s0, s1, s2, s3⟩ := hS; go_simp; try with_reducible rfl)
  case p5_23 => (go_simp; try with_reducible rfl)
  refine wpAnyH_takeN (i := 24) (v := ?v5_24) (l' := #[true, true, true, true, true, true, true, true, true, true, true, true, true, true, true, true, true, true, true, true, true, true, true, true, true, false, false, false, false, false, false, false, false, false, false, false, false, false, false, false, false, false, false, false, false, false, false, false, false, false, false, false, false, false, false, false, false, false, false, false, false]) (a' := ?a5_24) rfl (by kernel_rfl) (by kernel_rfl) (by kernel_rfl) (fun _ _ _ h => h) (Or.inl ⟨by kernel_rfl, ?h5_24⟩) rfl ?p5_24 hS6 ?r5_24
  case h5_24 => (intro w hS; obtain ⟨-, s0, s1, s2, s3⟩ := hS; go_simp; try with_reducible rfl)
  case p5_24 => (go_simp; try with_reducible rfl)
  refine wpAnyH_takeN (i := 25) (v := ?v5_25) (l' := #[true, true, true, true, true, true, true, true, true, true, true, true, true, true, true, true, true, true, true, true, true, true, true, true, true, true, false, false, false, false, false, false, false, false, false, false, false, false, false, false, false, false, false, false, false, false, false, false, false, false, false, false, false, false, false, false, false, false, false, false, false]) (a' := ?a5_25) rfl (by kernel_rfl) (by kernel_rfl) (by kernel_rfl) (fun _ _ _ h => h) (Or.inl ⟨by kernel_rfl, ?h5_25⟩) rfl ?p5_25 hS6 ?r5_25
  case h5_25 => (intro w hS; obtain ⟨-, s0, s1, s2, s3⟩ := hS; go_simp; try with_reducible rfl)
  case p5_25 => (go_simp; try with_reducible rfl)
  refine wpAnyH_takeN (i := 26) (v := ?v5_26) (l' := #[true, true, true, true, true, true, true, true, true, true, true, true, true, true, true, true, true, true, true, true, true, true, true, true, true, true, true, false, false, false, false, false, false, false, false, false, false, false, false, false, false, false, false, false, false, false, false, false, false, false, false, false, false, false, false, false, false, false, false, false, false]) (a' := ?a5_26) rfl (by kernel_rfl) (by kernel_rfl) (by kernel_rfl) (fun _ _ _ h => h) (Or.inl ⟨by kernel_rfl, ?h5_26⟩) rfl ?p5_26 hS6 ?r5_26
  case h5_26 => (intro w hS; obtain ⟨-, s0, s1, s2, s3⟩ := hS; go_simp; try with_reducible rfl)
  case p5_26 => (go_simp; try with_reducible rfl)
  refine wpAnyH_takeN (i := 27) (v := ?v5_27) (l' := #[true, true, true, true, true, true, true, true, true, true, true, true, true, true, true, true, true, true, true, true, true, true, true, true, true, true, true, true, false, false, false, false, false, false, false, false, false, false, false, false, false, false, false, false, false, false, false, false, false, false, false, false, false, false, false, false, false, false, false, false, false]) (a' := ?a5_27) rfl (by kernel_rfl) (by kernel_rfl) (by kernel_rfl) (fun _ _ _ h => h) (Or.inl ⟨by kernel_rfl, ?h5_27⟩) rfl ?p5_27 hS6 ?r5_27
  case h5_27 => (intro w hS; obtain ⟨-, s0, s1, s2, s3⟩ := hS; go_simp; try with_reducible rfl)
  case p5_27 => (go_simp; try with_reducible rfl)
  refine wpAnyH_takeN (i := 29) (v := ?v5_29) (l' := #[true, true, true, true, true, true, true, true, true, true, true, true, true, true, true, true, true, true, true, true, true, true, true, true, true, true, true, true, false, true, false, false, false, false, false, false, false, false, false, false, false, false, false, false, false, false, false, false, false, false, false, false, false, false, false, false, false, false, false, false, false]) (a' := ?a5_29) rfl (by kernel_rfl) (by kernel_rfl) (by kernel_rfl) (fun _ _ _ h => h) (Or.inl ⟨by kernel_rfl, ?h5_29⟩) rfl ?p5_29 hS6 ?r5_29
  case h5_29 => (intro w hS; obtain ⟨-, s0, s1, s2, s3⟩ := hS; go_simp; try with_reducible rfl)
  case p5_29 => (go_simp; try with_reducible rfl)
  refine wpAnyH_takeN (i := 30) (v := ?v5_30) (l' := #[true, true, true, true, true, true, true, true, true, true, true, true, true, true, true, true, true, true, true, true, true, true, true, true, true, true, true, true, false, true, true, false, false, false, false, false, false, false, false, false, false, false, false, false, false, false, false, false, false, false, false, false, false, false, false, false, false, false, false, false, false]) (a' := ?a5_30) rfl (by kernel_rfl) (by kernel_rfl) (by kernel_rfl) (fun _ _ _ h => h) (Or.inl ⟨by kernel_rfl, ?h5_30⟩) rfl ?p5_30 hS6 ?r5_30
  case h5_30 => (intro w hS; obtain ⟨-, s0, s1, s2, s3⟩ := hS; go_simp; try with_reducible rfl)
  case p5_30 => (go_simp; try with_reducible rfl)
  refine wpAnyH_oneN (i := 28) (l' := #[true, true, true, true, true, true, true, true, true, true, true, true, true, true, true, true, true, true, true, true, true, true, true, true, true, true, true, true, true, true, true, false, false, false, false, false, false, false, false, false, false, false, false, false, false, false, false, false, false, false, false, false, false, false, false, false, false, false, false, false, false]) rfl (by kernel_rfl) (by kernel_rfl) rfl (fun K hK => ?_)
  obtain ⟨hP, s0, s1, s2, s3⟩ := hS6
  go_simp
  go_at_call 46
  refine (C6.out _).mono ?_
  rintro r w10 ⟨rfl, hb⟩
  dsimp only
  have D10 := Lib.hid (below_step hP hb)
  clear hb
  have hS7 := HO.out _ (D10.out)
  clear hP s0 s1 s2 s3
  refine hK _ _ hS7 ?_
  clear hK K
  refine wpAnyH_oneN (i := 31) (l' := #[true, true, true, true, true, true, true, true, true, true, true, true, true, true, true, true, true, true, true, true, true, true, true, true, true, true, true, true, true, true, true, true, false, false, false, false, false, false, false, false, false, false, false, false, false, false, false, false, false, false, false, false, false, false, false, false, false, false, false, false, false]) rfl (by kernel_rfl) (by kernel_rfl) rfl (fun K hK => ?_)
  obtain ⟨hP, s0, s1, s2, s3⟩ := hS7
  go_simp
  go_at_call 46
  refine (C7.out _).mono ?_
  rintro r w11 ⟨rfl, hb⟩
  dsimp only
  have D11 := Lib.hid (below_step hP hb)
  clear hb
  have hS8 := HO.out _ (D11.out)
  clear hP s0 s1 s2 s3
  refine hK _ _ hS8 ?_
  clear hK K
  refine wpAnyH_takeN (i := 32) (v := ?v5_32) (l' := #[true, true, true, true, true, true, true, true, true, true, true, true, true, true, true, true, true, true, true, true, true, true, true, true, true, true, true, true, true, true, true, true, true, false, false, false, false, false, false, false, false, false, false, false, false, false, false, false, false, false, false, false, false, false, false, false, false, false, false, false, false]) (a' := ?a5_32) rfl (by kernel_rfl) (by kernel_rfl) (by kernel_rfl) (fun _ _ _ h => h) (Or.inl ⟨by kernel_rfl, ?h5_32⟩) rfl ?p5_32 hS8 ?r5_32
  case h5_32 => (intro w hS; obtain ⟨-, s0, s1, s2, s3⟩ := hS; go_simp; try with_reducible rfl)
  case p5_32 => (go_simp; try with_reducible rfl)
  refine wpAnyH_takeN (i := 33) (v := ?v5_33) (l' := #[true, true, true, true, true, true, true, true, true, true, true, true, true, true, true, true, true, true, true, true, true, true, true, true, true, true, true, true, true, true, true, true, true, true, false, false, false, false, false, false, false, false, false, false, false, false, false, false, false, false, false, false, false, false, false, false, false, false, false, false, false]) (a' := ?a5_33) rfl (by kernel_rfl) (by kernel_rfl) (by kernel_rfl) (fun _ _ _ h => h) (Or.inl ⟨by kernel_rfl, ?h5_33⟩) rfl ?p5_33 hS8 ?r5_33
  case h5_33 => (intro w hS; obtain ⟨-, s0, s1, s2, s3⟩ := hS; go_simp; try with_reducible rfl)
  case p5_33 => (go_simp; try with_reducible rfl)
  refine wpAnyH_takeN (i := 34) (v := ?v5_34) (l' := #[true, true, true, true, true, true, true, true, true, true, true, true, true, true, true, true, true, true, true, true, true, true, true, true, true, true, true, true, true, true, true, true, true, true, true, false, false, false, false, false, false, false, false, false, false, false, false, false, false, false, false, false, false, false, false, false, false, false, false, false, false]) (a' := ?a5_34) rfl (by kernel_rfl) (by kernel_rfl) (by kernel_rfl) (fun _ _ _ h => h) (Or.inl ⟨by kernel_rfl, ?h5_34⟩) rfl ?p5_34 hS8 ?r5_34
  case h5_34 => (intro w hS; obtain ⟨-, s0, s1, s2, s3⟩ := hS; go_simp; try with_reducible rfl)
  case p5_34 => (go_simp; try with_reducible rfl)
  refine wpAnyH_takeN (i := 35) (v := ?v5_35) (l' := #[true, true, true, true, true, true, true, true, true, true, true, true, true, true, true, true, true, true, true, true, true, true, true, true, true, true, true, true, true, true, true, true, true, true, true, true, false, false, false, false, false, false, false, false, false, false, false, false, false, false, false, false, false, false, false, false, false, false, false, false, false]) (a' := ?a5_35) rfl (by kernel_rfl) (by kernel_rfl) (by kernel_rfl) (fun _ _ _ h => h) (Or.inl ⟨by kernel_rfl, ?h5_35⟩) rfl ?p5_35 hS8 ?r5_35
  case h5_35 => (intro w hS; obtain ⟨-, s0, s1, s2, s3⟩ := hS; go_simp; try with_reducible rfl)
  case p5_35 => (go_simp; try with_reducible rfl)
  refine wpAnyH_takeN (i := 36) (v := ?v5_36) (l' := #[true, true, true, true, true, true, true, true, true, true, true, true, true, true, true, true, true, true, true, true, true, true, true, true, true, true, true, true, true, true, true, true, true, true, true, true, true, false, false, false, false, false, false, false, false, false, false, false, false, false, false, false, false, false, false, false, false, false, false, false, false]) (a' := ?a5_36) rfl (by kernel_rfl) (by kernel_rfl) (by kernel_rfl) (fun _ _ _ h => h) (Or.inl ⟨by kernel_rfl, ?h5_36⟩) rfl ?p5_36 hS8 ?r5_36
  case h5_36 => (intro w hS; obtain ⟨-, s0, s1, s2, s3⟩ := hS; go_simp; try with_reducible rfl)
  case p5_36 => (go_simp; try with_reducible rfl)
  refine wpAnyH_takeN (i := 38) (v := ?v5_38) (l' := #[true, true, true, true, true, true, true, true, true, true, true, true, true, true, true, true, true, true, true, true, true, true, true, true, true, true, true, true, true, true, true, true, true, true, true, true, true, false, true, false, false, false, false, false, false, false, false, false, false, false, false, false, false, false, false, false, false, false, false, false, false]) (a' := ?a5_38) rfl (by kernel_rfl) (by kernel_rfl) (by kernel_rfl) (fun _ _ _ h => h) (Or.inl ⟨by kernel_rfl, ?h5_38⟩) rfl ?p5_38 hS8 ?r5_38
  case h5_38 => (intro w hS; obtain ⟨-, s0, s1, s2, s3⟩ := hS; go_simp; try with_reducible rfl)
  case p5_38 => (go_simp; try with_reducible rfl)
  refine wpAnyH_takeN (i := 39) (v := ?v5_39) (l' := #[true, true, true, true, true, true, true, true, true, true, true, true, true, true, true, true, true, true, true, true, true, true, true, true, true, true, true, true, true, true, true, true, true, true, true, true, true, false, true, true, false, false, false, false, false, false, false, false, false, false, false, false, false, false, false, false, false, false, false, false, false]) (a' := ?a5_39) rfl (by kernel_rfl) (by kernel_rfl) (by kernel_rfl) (fun _ _ _ h => h) (Or.inl ⟨by kernel_rfl, ?h5_39⟩) rfl ?p5_39 hS8 ?r5_39
  case h5_39 => (intro w hS; obtain ⟨-, s0, s1, s2, s3⟩ := hS; go_simp; try with_reducible rfl)
  case p5_39 => (go_simp; try with_reducible rfl)
  refine wpAnyH_oneN (i := 37) (l' := #[true, true, true, true, true, true, true, true, true, true, true, true, true, true, true, true, true, true, true, true, true, true, true, true, true, true, true, true, true, true, true, true, true, true, true, true, true, true, true, true, false, false, false, false, false, false, false, false, false, false, false, false, false, false, false, false, false, false, false, false, false]) rfl (by kernel_rfl) (by kernel_rfl) rfl (fun K hK => ?_)
  obtain ⟨hP, s0, s1, s2, s3⟩ := hS8
  go_simp
  go_at_call 17
  refine (C8.out _).mono ?_
  rintro r w12 ⟨rfl, hb⟩
  dsimp only
  have D12 := Lib.hid (below_step hP hb)
  clear hb
  have hS9 := HO.out _ (D12.out)
  clear hP s0 s1 s2 s3
  refine hK _ _ hS9 ?_
  clear hK K
  refine wpAnyH_oneN (i := 40) (l' := #[true, true, true, true, true, true, true, true, true, true, true, true, true, true, true, true, true, true, true, true, true, true, true, true, true, true, true, true, true, true, true, true, true, true, true, true, true, true, true, true, true, false, false, false, false, false, false, false, false, false, false, false, false, false, false, false, false, false, false, false, false]) rfl (by kernel_rfl) (by kernel_rfl) rfl (fun K hK => ?_)
  obtain ⟨hP, s0, s1, s2, s3⟩ := hS9
  go_simp
  go_at_call 17
  refine (C9.out _).mono ?_
  rintro r w13 ⟨rfl, hb⟩
  dsimp only
  have D13 := Lib.hid (below_step hP hb)
  clear hb
  have hS10 := HO.out _ (D13.out)
  clear hP s0 s1 s2 s3
  refine hK _ _ hS10 ?_
  clear hK K
  refine wpAnyH_takeN (i := 41) (v := ?v5_41) (l' := #[true, true, true, true, true, true, true, true, true, true, true, true, true, true, true, true, true, true, true, true, true, true, true, true, true, true, true, true, true, true, true, true, true, true, true, true, true, true, true, true, true, true, false, false, false, false, false, false, false, false, false, false, false, false, false, false, false, false, false, false, false]) (a' := ?a5_41) rfl (by kernel_rfl) (by kernel_rfl) (by kernel_rfl) (fun _ _ _ h => h) (Or.inl ⟨by kernel_rfl, ?h5_41⟩) rfl ?p5_41 hS10 ?r5_41
  case h5_41 => (intro w hS; obtain ⟨-, s0, s1, s2, s3⟩ := hS; go_simp; try with_reducible rfl)
  case p5_41 => (go_simp; try with_reducible rfl)
  refine wpAnyH_takeN (i := 42) (v := ?v5_42) (l' := #[true, true, true, true, true, true, true, true, true, true, true, true, true, true, true, true, true, true, true, true, true, true, true, true, true, true, true, true, true, true, true, true, true, true, true, true, true, true, true, true, true, true, true, false, false, false, false, false, false, false, false, false, false, false, false, false, false, false, false, false, false]) (a' := ?a5_42) rfl (by kernel_rfl) (by kernel_rfl) (by kernel_rfl) (fun _ _ _ h => h) (Or.inl ⟨by kernel_rfl, ?h5_42⟩) rfl ?p5_42 hS10 ?r5_42
  case h5_42 => (intro w hS; obtain ⟨-, s0, s1, s2, s3⟩ := hS; go_simp; try with_reducible rfl)
  case p5_42 => (go_simp; try with_reducible rfl)
  refine wpAnyH_takeN (i := 43) (v := ?v5_43) (l' := #[true, true, true, true, true, true, true, true, true, true, true, true, true, true, true, true, true, true, true, true, true, true, true, true, true, true, true, true, true, true, true, true, true, true, true, true, true, true, true, true, true, true, true, true, false, false, false, false, false, false, false, false, false, false, false, false, false, false, false, false, false]) (a' := ?a5_43) rfl (by kernel_rfl) (by kernel_rfl) (by kernel_rfl) (fun _ _ _ h => h) (Or.inl ⟨by kernel_rfl, ?h5_43⟩) rfl ?p5_43 hS10 ?r5_43
  case h5_43 => (intro w hS; obtain ⟨-, s0, s1, s2, s3⟩ := hS; go_simp; try with_reducible rfl)
  case p5_43 => (go_simp; try with_reducible rfl)
  refine wpAnyH_takeN (i := 44) (v := ?v5_44) (l' := #[true, true, true, true, true, true, true, true, true, true, true, true, true, true, true, true, true, true, true, true, true, true, true, true, true, true, true, true, true, true, true, true, true, true, true, true, true, true, true, true, true, true, true, true, true, false, false, false, false, false, false, false, false, false, false, false, false, false, false, false, false]) (a' := ?a5_44) rfl (by kernel_rfl) (by kernel_rfl) (by kernel_rfl) (fun _ _ _ h => h) (Or.inl ⟨by kernel_rfl, ?h5_44⟩) rfl ?p5_44 hS10 ?r5_44
  case h5_44 => (intro w hS; obtain ⟨-, s0, s1, s2, s3⟩ := hS; go_simp; try with_reducible rfl)
  case p5_44 => (go_simp; try with_reducible rfl)
  refine wpAnyH_takeN (i := 45) (v := ?v5_45) (l' := #[true, true, true, true, true, true, true, true, true, true, true, true, true, true, true, true, true, true, true, true, true, true, true, true, true, true, true, true, true, true, true, true, true, true, true, true, true, true, true, true, true, true, true, true, true, true, false, false, false, false, false, false, false, false, false, false, false, false, false, false, false]) (a' := ?a5_45) rfl (by kernel_rfl) (by kernel_rfl) (by kernel_rfl) (fun _ _ _ h => h) (Or.inl ⟨by kernel_rfl, ?h5_45⟩) rfl ?p5_45 hS10 ?r5_45
  case h5_45 => (intro w hS; obtain ⟨-, s0, s1, s2, s3⟩ := hS; go_simp; try with_reducible rfl)
  case p5_45 => (go_simp; try with_reducible rfl)
  refine wpAnyH_takeN (i := 47) (v := ?v5_47) (l' := #[true, true, true, true, true, true, true, true, true, true, true, true, true, true, true, true, true, true, true, true, true, true, true, true, true, true, true, true, true, true, true, true, true, true, true, true, true, true, true, true, true, true, true, true, true, true, false, true, false, false, false, false, false, false, false, false, false, false, false, false, false]) (a' := ?a5_47) rfl (by kernel_rfl) (by kernel_rfl) (by kernel_rfl) (fun _ _ _ h => h) (Or.inl ⟨by kernel_rfl, ?h5_47⟩) rfl ?p5_47 hS10 ?r5_47
  case h5_47 => (intro w hS; obtain ⟨-, s0, s1, s2, s3⟩ := hS; go_simp; try with_reducible rfl)
  case p5_47 => (go_simp; try with_reducible rfl)
  refine wpAnyH_takeN (i := 48) (v := ?v5_48) (l' := #[true, true, true, true, true, true, true, true, true, true, true, true, true, true, true, true, true, true, true, true, true, true, true, true, true, true, true, true, true, true, true, true, true, true, true, true, true, true, true, true, true, true, true, true, true, true, false, true, true, false, false, false, false, false, false, false, false, false, false, false, false]) (a' := ?a5_48) rfl (by kernel_rfl) (by kernel_rfl) (by kernel_rfl) (fun _ _ _ h => h) (Or.inl ⟨by kernel_rfl, ?h5_48⟩) rfl ?p5_48 hS10 ?r5_48
  case h5_48 => (intro w hS; obtain ⟨-, s0, s1, s2, s3⟩ := hS; go_simp; try with_reducible rfl)
  case p5_48 => (go_simp; try with_reducible rfl)
  refine wpAnyH_oneN (i := 46) (l' := #[true, true, true, true, true, true, true, true, true, true, true, true, true, true, true, true, true, true, true, true, true, true, true, true, true, true, true, true, true, true, true, true, true, true, true, true, true, true, true, true, true, true, true, true, true, true, true, true, true, false, false, false, false, false, false, false, false, false, false, false, false]) rfl (by kernel_rfl) (by kernel_rfl) rfl (fun K hK => ?_)
  obtain ⟨hP, s0, s1, s2, s3⟩ := hS10
  go_simp
  go_at_call 38
  refine (C10.out _).mono ?_
  rintro r w14 ⟨rfl, hb⟩
  dsimp only
  have D14 := Lib.hid (below_step hP hb)
  clear hb
  have hS11 := HO.out _ (D14.out)
  clear hP s0 s1 s2 s3
  refine hK _ _ hS11 ?_
  clear hK K
  refine wpAnyH_oneN (i := 49) (l' := #[true, true, true, true, true, true, true, true, true, true, true, true, true, true, true, true, true, true, true, true, true, true, true, true, true, true, true, true, true, true, true, true, true, true, true, true, true, true, true, true, true, true, true, true, true, true, true, true, true, true, false, false, false, false, false, false, false, false, false, false, false]) rfl (by kernel_rfl) (by kernel_rfl) rfl (fun K hK => ?_)
  obtain ⟨hP, s0, s1, s2, s3⟩ := hS11
  go_simp
  go_at_call 38
  refine (C11.out _).mono ?_
  rintro r w15 ⟨rfl, hb⟩
  dsimp only
  have D15 := Lib.hid (below_step hP hb)
  clear hb
  have hS12 := HO.out _ (D15.out)
  clear hP s0 s1 s2 s3
  refine hK _ _ hS12 ?_
  clear hK K
  refine wpAnyH_oneN (i := 50) (l' := #[true, true, true, true, true, true, true, true, true, true, true, true, true, true, true, true, true, true, true, true, true, true, true, true, true, true, true, true, true, true, true, true, true, true, true, true, true, true, true, true, true, true, true, true, true, true, true, true, true, true, true, false, false, false, false, false, false, false, false, false, false]) rfl (by kernel_rfl) (by kernel_rfl) rfl (fun K hK => ?_)
  obtain ⟨hP, s0, s1, s2, s3⟩ := hS12
  go_simp
  go_at_call 47
  refine (C12.out _).mono ?_
  rintro r w16 ⟨rfl, hb⟩
  dsimp only
  have D16 := Lib.hid (below_step hP hb)
  clear hb
  have hS13 := HO.out _ (D16.out)
  clear hP s0 s1 s2 s3
  refine hK _ _ hS13 ?_
  clear hK K
  refine wpAnyH_takeN (i := 51) (v := ?v5_51) (l' := #[true, true, true, true, true, true, true, true, true, true, true, true, true, true, true, true, true, true, true, true, true, true, true, true, true, true, true, true, true, true, true, true, true, true, true, true, true, true, true, true, true, true, true, true, true, true, true, true, true, true, true, true, false, false, false, false, false, false, false, false, false]) (a' := ?a5_51) rfl (by kernel_rfl) (by kernel_rfl) (by kernel_rfl) (fun _ _ _ h => h) (Or.inl ⟨by kernel_rfl, ?h5_51⟩) rfl ?p5_51 hS13 ?r5_51
  case h5_51 => (intro w hS; obtain ⟨-, s0, s1, s2, s3⟩ := hS; go_simp; try with_reducible rfl)
  case p5_51 => (go_simp; try with_reducible rfl)
  refine wpAnyH_takeN (i := 52) (v := ?v5_52) (l' := #[true, true, true, true, true, true, true, true, true, true, true, true, true, true, true, true, true, true, true, true, true, true, true, true, true, true, true, true, true, true, true, true, true, true, true, true, true, true, true, true, true, true, true, true, true, true, true, true, true, true, true, true, true, false, false, false, false, false, false, false, false]) (a' := ?a5_52) rfl (by kernel_rfl) (by kernel_rfl) (by kernel_rfl) (fun _ _ _ h => h) (Or.inl ⟨by kernel_rfl, ?h5_52⟩) rfl ?p5_52 hS13 ?r5_52
  case h5_52 => (intro w hS; obtain ⟨-, s0, s1, s2, s3⟩ := hS; go_simp; try with_reducible rfl)
  case p5_52 => (go_simp; try with_reducible rfl)
  refine wpAnyH_takeN (i := 53) (v := ?v5_53) (l' := #[true, true, true, true, true, true, true, true, true, true, true, true, true, true, true, true, true, true, true, true, true, true, true, true, true, true, true, true, true, true, true, true, true, true, true, true, true, true, true, true, true, true, true, true, true, true, true, true, true, true, true, true, true, true, false, false, false, false, false, false, false]) (a' := ?a5_53) rfl (by kernel_rfl) (by kernel_rfl) (by kernel_rfl) (fun _ _ _ h => h) (Or.inl ⟨by kernel_rfl, ?h5_53⟩) rfl ?p5_53 hS13 ?r5_53
  case h5_53 => (intro w hS; obtain ⟨-, s0, s1, s2, s3⟩ := hS; go_simp; try with_reducible rfl)
  case p5_53 => (go_simp; try with_reducible rfl)
  refine wpAnyH_takeN (i := 54) (v := ?v5_54) (l' := #[true, true, true, true, true, true, true, true, true, true, true, true, true, true, true, true, true, true, true, true, true, true, true, true, true, true, true, true, true, true, true, true, true, true, true, true, true, true, true, true, true, true, true, true, true, true, true, true, true, true, true, true, true, true, true, false, false, false, false, false, false]) (a' := ?a5_54) rfl (by kernel_rfl) (by kernel_rfl) (by kernel_rfl) (fun _ _ _ h => h) (Or.inl ⟨by kernel_rfl, ?h5_54⟩) rfl ?p5_54 hS13 ?r5_54
  case h5_54 => (intro w hS; obtain ⟨-, s0, s1, s2, s3⟩ := hS; go_simp; try with_reducible rfl)
  case p5_54 => (go_simp; try with_reducible rfl)
  refine wpAnyH_takeN (i := 57) (v := ?v5_57) (l' := #[true, true, true, true, true, true, true, true, true, true, true, true, true, true, true, true, true, true, true, true, true, true, true, true, true, true, true, true, true, true, true, true, true, true, true, true, true, true, true, true, true, true, true, true, true, true, true, true, true, true, true, true, true, true, true, false, false, true, false, false, false]) (a' := ?a5_57) rfl (by kernel_rfl) (by kernel_rfl) (by kernel_rfl) (fun _ _ _ h => h) (Or.inl ⟨by kernel_rfl, ?h5_57⟩) rfl ?p5_57 hS13 ?r5_57
  case h5_57 => (intro w hS; obtain ⟨-, s0, s1, s2, s3⟩ := hS; go_simp; try with_reducible rfl)
  case p5_57 => (go_simp; try with_reducible rfl)
  refine wpAnyH_oneN (i := 55) (l' := #[true, true, true, true, true, true, true, true, true, true, true, true, true, true, true, true, true, true, true, true, true, true, true, true, true, true, true, true, true, true, true, true, true, true, true, true, true, true, true, true, true, true, true, true, true, true, true, true, true, true, true, true, true, true, true, true, false, true, false, false, false]) rfl (by kernel_rfl) (by kernel_rfl) rfl (fun K hK => ?_)
  obtain ⟨hP, s0, s1, s2, s3⟩ := hS13
  go_simp
  go_at_call 47
  refine (C13.out _).mono ?_
  rintro r w17 ⟨rfl, hb⟩
  dsimp only
  have D17 := Lib.hid (below_step hP hb)
  clear hb
  have hS14 := HO.out _ (D17.out)
  clear hP s0 s1 s2 s3
  refine hK _ _ hS14 ?_
  clear hK K
  refine wpAnyH_oneN (i := 56) (l' := #[true, true, true, true, true, true, true, true, true, true, true, true, true, true, true, true, true, true, true, true, true, true, true, true, true, true, true, true, true, true, true, true, true, true, true, true, true, true, true, true, true, true, true, true, true, true, true, true, true, true, true, true, true, true, true, true, true, true, false, false, false]) rfl (by kernel_rfl) (by kernel_rfl) rfl (fun K hK => ?_)
  obtain ⟨hP, s0, s1, s2, s3⟩ := hS14
  go_simp
  go_at_call 47
  refine (C14.out _).mono ?_
  rintro r w18 ⟨rfl, hb⟩
  dsimp only
  have D18 := Lib.hid (below_step hP hb)
  clear hb
  have hS15 := HO.out _ (D18.out)
  clear hP s0 s1 s2 s3
  refine hK _ _ hS15 ?_
  clear hK K
  refine wpAnyH_takeN (i := 58) (v := ?v5_58) (l' := #[true, true, true, true, true, true, true, true, true, true, true, true, true, true, true, true, true, true, true, true, true, true, true, true, true, true, true, true, true, true, true, true, true, true, true, true, true, true, true, true, true, true, true, true, true, true, true, true, true, true, true, true, true, true, true, true, true, true, true, false, false]) (a' := ?a5_58) rfl (by kernel_rfl) (by kernel_rfl) (by kernel_rfl) (fun _ _ _ h => h) (Or.inl ⟨by kernel_rfl, ?h5_58⟩) rfl ?p5_58 hS15 ?r5_58
  case h5_58 => (intro w hS; obtain ⟨-, s0, s1, s2, s3⟩ := hS; go_simp; try with_reducible rfl)
  case p5_58 => (go_simp; try with_reducible rfl)
  refine wpAnyH_takeN (i := 59) (v := ?v5_59) (l' := #[true, true, true, true, true, true, true, true, true, true, true, true, true, true, true, true, true, true, true, true, true, true, true, true, true, true, true, true, true, true, true, true, true, true, true, true, true, true, true, true, true, true, true, true, true, true, true, true, true, true, true, true, true, true, true, true, true, true, true, true, false]) (a' := ?a5_59) rfl (by kernel_rfl) (by kernel_rfl) (by kernel_rfl) (fun _ _ _ h => h) (Or.inl ⟨by kernel_rfl, ?h5_59⟩) rfl ?p5_59 hS15 ?r5_59
  case h5_59 => (intro w hS; obtain ⟨-, s0, s1, s2, s3⟩ := hS; go_simp; try with_reducible rfl)
  case p5_59 => (go_simp; try with_reducible rfl)
  refine wpAnyH_takeN (i := 60) (v := ?v5_60) (l' := #[true, true, true, true, true, true, true, true, true, true, true, true, true, true, true, true, true, true, true, true, true, true, true, true, true, true, true, true, true, true, true, true, true, true, true, true, true, true, true, true, true, true, true, true, true, true, true, true, true, true, true, true, true, true, true, true, true, true, true, true, true]) (a' := ?a5_60) rfl (by kernel_rfl) (by kernel_rfl) (by kernel_rfl) (fun _ _ _ h => h) (Or.inl ⟨by kernel_rfl, ?h5_60⟩) rfl ?p5_60 hS15 ?r5_60
  case h5_60 => (intro w hS; obtain ⟨-, s0, s1, s2, s3⟩ := hS; go_simp; try with_reducible rfl)
  case p5_60 => (go_simp; try with_reducible rfl)
  refine wpAnyH_done (by kernel_rfl) ?_ _
  clear hS15
  obtain ⟨-, q0, q1, q2, q3⟩ := HO.out _ D18.out
  go_wp2_with fail
  go_ret
  exact ⟨rfl, below_step HB.out D18.out⟩
theorem walk_swaps (a b c d : Nat) (ha : a < 18446744073709551616) (hb : b < 18446744073709551616) (hc : c < 18446744073709551616) (hd : d < 18446744073709551616) (w : World) : Calls Try.prog 8 #[.agg #[.float .f64 a, .float .f64 b], .agg #[.float .f64 c, .float .f64 d]] w fun r w' => r = .returned (.bool true) ∧ Below w.heap.size w w' := by
  cases h1 : vdB a b
  · exact swaps_n1 a b c d ha hb hc hd h1 w
  · cases h2 : vdB c d
    · exact swaps_n2 a b c d ha hb hc hd h1 h2 w
    · exact swaps_good ⟨a, b, vdB_true ha hb h1⟩ ⟨c, d, vdB_true hc hd h2⟩ w
end Go.Proofs.Ytlpnfgglpoppfaa
