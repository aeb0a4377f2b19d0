/- The walk of SpanAsks (gen_le.py). -/
import Derived.Test.YtlpnfgglpoppfaaGf
set_option linter.unusedVariables false
set_option linter.unusedSimpArgs false
namespace Go.Proofs.Ytlpnfgglpoppfaa
open Go.RowKit Fl

set_option maxRecDepth 100000 in
theorem asks_n1 (a b c d : Nat) (ha : a < 18446744073709551616) (hb : b < 18446744073709551616) (hc : c < 18446744073709551616) (hd : d < 18446744073709551616) (h1 : vdB a b = false) (w : World) : Calls Try.prog 9 #[.agg #[.float .f64 a, .float .f64 b], .agg #[.float .f64 c, .float .f64 d]] w fun r w' => r = .returned (.bool true) ∧ Below w.heap.size w w' := by
  have H0 := Lib.hid awake2
  have H1 := Lib.hid (fun w => rvalid_any a b ha hb w)
  have H2 := Lib.hid (fun w => rvalid_any c d hc hd w)
  rw [h1] at H1
  go_enter Try.func9, Try.ntmps9
  go_wp2_with fail
  obtain ⟨W, hW, K0, K1, hB, hz⟩ := bx2 w 24 24 #[Value.float FloatKind.f64 a, Value.float FloatKind.f64 b] #[Value.float FloatKind.f64 c, Value.float FloatKind.f64 d]
  rw [← hW]
  have K0 := Lib.hid K0
  have K1 := Lib.hid K1
  have HB := Lib.hid hB
  clear hW hB hz
  have HO := Lib.hid (show ∀ w', Below W.heap.size W w' → (Below W.heap.size W w' ∧ w'.cell? ⟨w.heap.size, 0, none⟩ = some (Value.float FloatKind.f64 a) ∧ w'.cell? ⟨w.heap.size, 1, none⟩ = some (Value.float FloatKind.f64 b) ∧ w'.cell? ⟨w.heap.size + 1, 0, none⟩ = some (Value.float FloatKind.f64 c) ∧ w'.cell? ⟨w.heap.size + 1, 1, none⟩ = some (Value.float FloatKind.f64 d)) from fun w' h => ⟨h, (K0.out.below h K0.out.lt).cell 0, (K0.out.below h K0.out.lt).cell 1, (K1.out.below h K1.out.lt).cell 0, (K1.out.below h K1.out.lt).cell 1⟩)
  have D0 := Lib.hid (Below.refl W.heap.size W)
  refine (H0.out _).mono ?_
  rintro r w1 ⟨rfl, hb⟩
  have D1 := Lib.hid (below_step D0.out hb)
  clear hb
  obtain ⟨-, q0, q1, q2, q3⟩ := HO.out _ D1.out
  go_wp2_with fail
  refine (H1.out _).mono ?_
  clear q0 q1 q2 q3
  rintro r w2 ⟨rfl, hb⟩
  have D2 := Lib.hid (below_step D1.out hb)
  clear hb
  obtain ⟨-, q0, q1, q2, q3⟩ := HO.out _ D2.out
  go_wp2_with fail
  go_ret
  exact ⟨rfl, below_step HB.out D2.out⟩
set_option maxRecDepth 100000 in
theorem asks_n2 (a b c d : Nat) (ha : a < 18446744073709551616) (hb : b < 18446744073709551616) (hc : c < 18446744073709551616) (hd : d < 18446744073709551616) (h1 : vdB a b = true) (h2 : vdB c d = false) (w : World) : Calls Try.prog 9 #[.agg #[.float .f64 a, .float .f64 b], .agg #[.float .f64 c, .float .f64 d]] w fun r w' => r = .returned (.bool true) ∧ Below w.heap.size w w' := by
  have H0 := Lib.hid awake2
  have H1 := Lib.hid (fun w => rvalid_any a b ha hb w)
  have H2 := Lib.hid (fun w => rvalid_any c d hc hd w)
  rw [h1] at H1
  rw [h2] at H2
  go_enter Try.func9, Try.ntmps9
  go_wp2_with fail
  obtain ⟨W, hW, K0, K1, hB, hz⟩ := bx2 w 24 24 #[Value.float FloatKind.f64 a, Value.float FloatKind.f64 b] #[Value.float FloatKind.f64 c, Value.float FloatKind.f64 d]
  rw [← hW]
  have K0 := Lib.hid K0
  have K1 := Lib.hid K1
  have HB := Lib.hid hB
  clear hW hB hz
  have HO := Lib.hid (show ∀ w', Below W.heap.size W w' → (Below W.heap.size W w' ∧ w'.cell? ⟨w.heap.size, 0, none⟩ = some (Value.float FloatKind.f64 a) ∧ w'.cell? ⟨w.heap.size, 1, none⟩ = some (Value.float FloatKind.f64 b) ∧ w'.cell? ⟨w.heap.size + 1, 0, none⟩ = some (Value.float FloatKind.f64 c) ∧ w'.cell? ⟨w.heap.size + 1, 1, none⟩ = some (Value.float FloatKind.f64 d)) from fun w' h => ⟨h, (K0.out.below h K0.out.lt).cell 0, (K0.out.below h K0.out.lt).cell 1, (K1.out.below h K1.out.lt).cell 0, (K1.out.below h K1.out.lt).cell 1⟩)
  have D0 := Lib.hid (Below.refl W.heap.size W)
  refine (H0.out _).mono ?_
  rintro r w1 ⟨rfl, hb⟩
  have D1 := Lib.hid (below_step D0.out hb)
  clear hb
  obtain ⟨-, q0, q1, q2, q3⟩ := HO.out _ D1.out
  go_wp2_with fail
  refine (H1.out _).mono ?_
  clear q0 q1 q2 q3
  rintro r w2 ⟨rfl, hb⟩
  have D2 := Lib.hid (below_step D1.out hb)
  clear hb
  obtain ⟨-, q0, q1, q2, q3⟩ := HO.out _ D2.out
  go_wp2_with fail
  refine (H2.out _).mono ?_
  clear q0 q1 q2 q3
  rintro r w3 ⟨rfl, hb⟩
  have D3 := Lib.hid (below_step D2.out hb)
  clear hb
  obtain ⟨-, q0, q1, q2, q3⟩ := HO.out _ D3.out
  go_wp2_with fail
  go_ret
  exact ⟨rfl, below_step HB.out D3.out⟩
set_option maxRecDepth 100000 in
set_option maxHeartbeats 8000000 in
theorem asks_gen (A B : Sp) (n k : Int) (x y : Nat) (F1 : (∀ w, Calls Try.prog 32 #[.agg #[.float .f64 A.lo, .float .f64 A.hi]] w fun r w' => r = .returned (.tuple #[.int .i64 n, .int .i64 k]) ∧ Below w.heap.size w w')) (F2 : (∀ w, Calls Try.prog 48 #[.agg #[.float .f64 A.lo, .float .f64 A.hi]] w fun r w' => r = .returned (.tuple #[.int .i64 n, .int .i64 k]) ∧ Below w.heap.size w w')) (M1 : (∀ w, Calls Try.prog 33 #[.agg #[.float .f64 A.lo, .float .f64 A.hi]] w fun r w' => r = .returned (.tuple #[.float .f64 x, .float .f64 y]) ∧ Below w.heap.size w w')) (M2 : (∀ w, Calls Try.prog 49 #[.agg #[.float .f64 A.lo, .float .f64 A.hi]] w fun r w' => r = .returned (.tuple #[.float .f64 x, .float .f64 y]) ∧ Below w.heap.size w w')) (w : World) : Calls Try.prog 9 #[.agg #[.float .f64 A.lo, .float .f64 A.hi], .agg #[.float .f64 B.lo, .float .f64 B.hi]] w fun r w' => r = .returned (.bool true) ∧ Below w.heap.size w w' := by
  have H0 := Lib.hid awake2
  have HV := Lib.hid (fun w => rvalid_any A.lo A.hi A.vd.l.lt A.vd.h.lt w)
  have HW := Lib.hid (fun w => rvalid_any B.lo B.hi B.vd.l.lt B.vd.h.lt w)
  rw [vdB_of A.vd] at HV
  rw [vdB_of B.vd] at HW
  have F1 := Lib.hid F1
  have F2 := Lib.hid F2
  have M1 := Lib.hid M1
  have M2 := Lib.hid M2
  have P1 := Lib.hid (fun w => pos_sp A w)
  have P2 := Lib.hid (fun w => rpos_sp A w)
  have L1 := Lib.hid (fun w => less_sp A B w)
  have L2 := Lib.hid (fun w => rless_sp A B w)
  generalize posS A = p at *
  generalize lessS A B = q at *
  go_enter Try.func9, Try.ntmps9
  go_wp2_with fail
  obtain ⟨W, hW, K0, K1, hB, hz⟩ := bx2 w 24 24 #[Value.float FloatKind.f64 A.lo, Value.float FloatKind.f64 A.hi] #[Value.float FloatKind.f64 B.lo, Value.float FloatKind.f64 B.hi]
  rw [← hW]
  have K0 := Lib.hid K0
  have K1 := Lib.hid K1
  have HB := Lib.hid hB
  clear hW hB hz
  have HO := Lib.hid (show ∀ w', Below W.heap.size W w' → (Below W.heap.size W w' ∧ w'.cell? ⟨w.heap.size, 0, none⟩ = some (Value.float FloatKind.f64 A.lo) ∧ w'.cell? ⟨w.heap.size, 1, none⟩ = some (Value.float FloatKind.f64 A.hi) ∧ w'.cell? ⟨w.heap.size + 1, 0, none⟩ = some (Value.float FloatKind.f64 B.lo) ∧ w'.cell? ⟨w.heap.size + 1, 1, none⟩ = some (Value.float FloatKind.f64 B.hi)) from fun w' h => ⟨h, (K0.out.below h K0.out.lt).cell 0, (K0.out.below h K0.out.lt).cell 1, (K1.out.below h K1.out.lt).cell 0, (K1.out.below h K1.out.lt).cell 1⟩)
  have D0 := Lib.hid (Below.refl W.heap.size W)
  refine (H0.out _).mono ?_
  rintro r w1 ⟨rfl, hb⟩
  have D1 := Lib.hid (below_step D0.out hb)
  clear hb
  obtain ⟨-, q0, q1, q2, q3⟩ := HO.out _ D1.out
  go_wp2_with fail
  refine (HV.out _).mono ?_
  clear q0 q1 q2 q3
  rintro r w2 ⟨rfl, hb⟩
  have D2 := Lib.hid (below_step D1.out hb)
  clear hb
  obtain ⟨-, q0, q1, q2, q3⟩ := HO.out _ D2.out
  go_wp2_with fail
  refine (HW.out _).mono ?_
  clear q0 q1 q2 q3
  rintro r w3 ⟨rfl, hb⟩
  have D3 := Lib.hid (below_step D2.out hb)
  clear hb
  obtain ⟨-, q0, q1, q2, q3⟩ := HO.out _ D3.out
  go_wp2_with fail
  refine (F1.out _).mono ?_
  clear q0 q1 q2 q3
  rintro r w4 ⟨rfl, hb⟩
  have D4 := Lib.hid (below_step D3.out hb)
  clear hb
  obtain ⟨-, q0, q1, q2, q3⟩ := HO.out _ D4.out
  go_wp2_with fail
  refine (F2.out _).mono ?_
  clear q0 q1 q2 q3
  rintro r w5 ⟨rfl, hb⟩
  have D5 := Lib.hid (below_step D4.out hb)
  clear hb
  obtain ⟨-, q0, q1, q2, q3⟩ := HO.out _ D5.out
  go_wp2_with fail
  refine (M1.out _).mono ?_
  clear q0 q1 q2 q3
  rintro r w6 ⟨rfl, hb⟩
  have D6 := Lib.hid (below_step D5.out hb)
  clear hb
  obtain ⟨-, q0, q1, q2, q3⟩ := HO.out _ D6.out
  go_wp2_with fail
  refine (M2.out _).mono ?_
  clear q0 q1 q2 q3
  rintro r w7 ⟨rfl, hb⟩
  have D7 := Lib.hid (below_step D6.out hb)
  clear hb
  obtain ⟨-, q0, q1, q2, q3⟩ := HO.out _ D7.out
  go_wp2_with fail
  clear q0 q1 q2 q3
  refine wp_region_held (S := (fun w' => Below W.heap.size W w' ∧ w'.cell? ⟨w.heap.size, 0, none⟩ = some (Value.float FloatKind.f64 A.lo) ∧ w'.cell? ⟨w.heap.size, 1, none⟩ = some (Value.float FloatKind.f64 A.hi) ∧ w'.cell? ⟨w.heap.size + 1, 0, none⟩ = some (Value.float FloatKind.f64 B.lo) ∧ w'.cell? ⟨w.heap.size + 1, 1, none⟩ = some (Value.float FloatKind.f64 B.hi))) (by kernel_rfl) ?_
  (try change wpAnyH _ _ _ _ _ _ _ (World.drew _))
  have hS0 := HO.out _ (Below.drew D7.out)
  refine wpAnyH_takeN (i := 0) (v := ?v9_0) (l' := #[true, false, false, false, false, false, false, false, false, false, false, false, false, false, false, false, false, false, false, false, false, false, false, false, false, false, false, false, false, false, false, false, false, false, false, false, false, false, false]) (a' := ?a9_0) rfl (by kernel_rfl) (by kernel_rfl) (by kernel_rfl) (fun _ _ _ h => h) (Or.inl ⟨by kernel_rfl, ?h9_0⟩) rfl ?p9_0 hS0 ?r9_0
  case h9_0 => (intro w hS; obtain ⟨-, s0, s1, s2, s3⟩ := hS; go_simp; try with_reducible rfl)
  case p9_0 => (go_simp; try with_reducible rfl)
  refine wpAnyH_takeN (i := 2) (v := ?v9_2) (l' := #[true, false, true, false, false, false, false, false, false, false, false, false, false, false, false, false, false, false, false, false, false, false, false, false, false, false, false, false, false, false, false, false, false, false, false, false, false, false, false]) (a' := ?a9_2) rfl (by kernel_rfl) (by kernel_rfl) (by kernel_rfl) (fun _ _ _ h => h) (Or.inl ⟨by kernel_rfl, ?h9_2⟩) rfl ?p9_2 hS0 ?r9_2
  case h9_2 => (intro w hS; obtain ⟨-, s0, s1, s2, s3⟩ := hS; go_simp; try with_reducible rfl)
  case p9_2 => (go_simp; try with_reducible rfl)
  refine wpAnyH_oneN (i := 1) (l' := #[true, true, true, false, false, false, false, false, false, false, false, false, false, false, false, false, false, false, false, false, false, false, false, false, false, false, false, false, false, false, false, false, false, false, false, false, false, false, false]) rfl (by kernel_rfl) (by kernel_rfl) rfl (fun K hK => ?_)
  obtain ⟨hP, s0, s1, s2, s3⟩ := hS0
  go_simp
  go_at_call 30
  refine (P1.out _).mono ?_
  rintro r w8 ⟨rfl, hb⟩
  dsimp only
  have D8 := Lib.hid (below_step hP hb)
  clear hb
  have hS1 := HO.out _ (D8.out)
  clear hP s0 s1 s2 s3
  refine hK _ _ hS1 ?_
  clear hK K
  refine wpAnyH_oneN (i := 3) (l' := #[true, true, true, true, false, false, false, false, false, false, false, false, false, false, false, false, false, false, false, false, false, false, false, false, false, false, false, false, false, false, false, false, false, false, false, false, false, false, false]) rfl (by kernel_rfl) (by kernel_rfl) rfl (fun K hK => ?_)
  obtain ⟨hP, s0, s1, s2, s3⟩ := hS1
  go_simp
  go_at_call 50
  refine (P2.out _).mono ?_
  rintro r w9 ⟨rfl, hb⟩
  dsimp only
  have D9 := Lib.hid (below_step hP hb)
  clear hb
  have hS2 := HO.out _ (D9.out)
  clear hP s0 s1 s2 s3
  refine hK _ _ hS2 ?_
  clear hK K
  refine wpAnyH_takeN (i := 4) (v := ?v9_4) (l' := #[true, true, true, true, true, false, false, false, false, false, false, false, false, false, false, false, false, false, false, false, false, false, false, false, false, false, false, false, false, false, false, false, false, false, false, false, false, false, false]) (a' := ?a9_4) rfl (by kernel_rfl) (by kernel_rfl) (by kernel_rfl) (fun _ _ _ h => h) (Or.inl ⟨by kernel_rfl, ?h9_4⟩) rfl ?p9_4 hS2 ?r9_4
  case h9_4 => (intro w hS; obtain ⟨-, s0, s1, s2, s3⟩ := hS; go_simp; try with_reducible rfl)
  case p9_4 => (go_simp; try with_reducible rfl)
  refine wpAnyH_takeN (i := 5) (v := ?v9_5) (l' := #[true, true, true, true, true, true, false, false, false, false, false, false, false, false, false, false, false, false, false, false, false, false, false, false, false, false, false, false, false, false, false, false, false, false, false, false, false, false, false]) (a' := ?a9_5) rfl (by kernel_rfl) (by kernel_rfl) (by kernel_rfl) (fun _ _ _ h => h) (Or.inl ⟨by kernel_rfl, ?h9_5⟩) rfl ?p9_5 hS2 ?r9_5
  case h9_5 => (intro w hS; obtain ⟨-, s0, s1, s2, s3⟩ := hS; go_simp; try with_reducible rfl)
  case p9_5 => (go_simp; try with_reducible rfl)
  refine wpAnyH_takeN (i := 6) (v := ?v9_6) (l' := #[true, true, true, true, true, true, true, false, false, false, false, false, false, false, false, false, false, false, false, false, false, false, false, false, false, false, false, false, false, false, false, false, false, false, false, false, false, false, false]) (a' := ?a9_6) rfl (by kernel_rfl) (by kernel_rfl) (by kernel_rfl) (fun _ _ _ h => h) (Or.inl ⟨by kernel_rfl, ?h9_6⟩) rfl ?p9_6 hS2 ?r9_6
  case h9_6 => (intro w hS; obtain ⟨-, s0, s1, s2, s3⟩ := hS; go_simp; try with_reducible rfl)
  case p9_6 => (go_simp; try with_reducible rfl)
  refine wpAnyH_takeN (i := 7) (v := ?v9_7) (l' := #[true, true, true, true, true, true, true, true, false, false, false, false, false, false, false, false, false, false, false, false, false, false, false, false, false, false, false, false, false, false, false, false, false, false, false, false, false, false, false]) (a' := ?a9_7) rfl (by kernel_rfl) (by kernel_rfl) (by kernel_rfl) (fun _ _ _ h => h) (Or.inl ⟨by kernel_rfl, ?h9_7⟩) rfl ?p9_7 hS2 ?r9_7
  case h9_7 => (intro w hS; obtain ⟨-, s0, s1, s2, s3⟩ := hS; go_simp; try with_reducible rfl)
  case p9_7 => (go_simp; try with_reducible rfl)
  refine wpAnyH_takeN (i := 9) (v := ?v9_9) (l' := #[true, true, true, true, true, true, true, true, false, true, false, false, false, false, false, false, false, false, false, false, false, false, false, false, false, false, false, false, false, false, false, false, false, false, false, false, false, false, false]) (a' := ?a9_9) rfl (by kernel_rfl) (by kernel_rfl) (by kernel_rfl) (fun _ _ _ h => h) (Or.inl ⟨by kernel_rfl, ?h9_9⟩) rfl ?p9_9 hS2 ?r9_9
  case h9_9 => (intro w hS; obtain ⟨-, s0, s1, s2, s3⟩ := hS; go_simp; try with_reducible rfl)
  case p9_9 => (go_simp; try with_reducible rfl)
  refine wpAnyH_takeN (i := 10) (v := ?v9_10) (l' := #[true, true, true, true, true, true, true, true, false, true, true, false, false, false, false, false, false, false, false, false, false, false, false, false, false, false, false, false, false, false, false, false, false, false, false, false, false, false, false]) (a' := ?a9_10) rfl (by kernel_rfl) (by kernel_rfl) (by kernel_rfl) (fun _ _ _ h => h) (Or.inl ⟨by kernel_rfl, ?h9_10⟩) rfl ?p9_10 hS2 ?r9_10
  case h9_10 => (intro w hS; obtain ⟨-, s0, s1, s2, s3⟩ := hS; go_simp; try with_reducible rfl)
  case p9_10 => (go_simp; try with_reducible rfl)
  refine wpAnyH_oneN (i := 8) (l' := #[true, true, true, true, true, true, true, true, true, true, true, false, false, false, false, false, false, false, false, false, false, false, false, false, false, false, false, false, false, false, false, false, false, false, false, false, false, false, false]) rfl (by kernel_rfl) (by kernel_rfl) rfl (fun K hK => ?_)
  obtain ⟨hP, s0, s1, s2, s3⟩ := hS2
  go_simp
  go_at_call 31
  refine (L1.out _).mono ?_
  rintro r w10 ⟨rfl, hb⟩
  dsimp only
  have D10 := Lib.hid (below_step hP hb)
  clear hb
  have hS3 := HO.out _ (D10.out)
  clear hP s0 s1 s2 s3
  refine hK _ _ hS3 ?_
  clear hK K
  refine wpAnyH_oneN (i := 11) (l' := #[true, true, true, true, true, true, true, true, true, true, true, true, false, false, false, false, false, false, false, false, false, false, false, false, false, false, false, false, false, false, false, false, false, false, false, false, false, false, false]) rfl (by kernel_rfl) (by kernel_rfl) rfl (fun K hK => ?_)
  obtain ⟨hP, s0, s1, s2, s3⟩ := hS3
  go_simp
  go_at_call 51
  refine (L2.out _).mono ?_
  rintro r w11 ⟨rfl, hb⟩
  dsimp only
  have D11 := Lib.hid (below_step hP hb)
  clear hb
  have hS4 := HO.out _ (D11.out)
  clear hP s0 s1 s2 s3
  refine hK _ _ hS4 ?_
  clear hK K
  refine wpAnyH_takeN (i := 12) (v := ?v9_12) (l' := #[true, true, true, true, true, true, true, true, true, true, true, true, true, false, false, false, false, false, false, false, false, false, false, false, false, false, false, false, false, false, false, false, false, false, false, false, false, false, false]) (a' := ?a9_12) rfl (by kernel_rfl) (by kernel_rfl) (by kernel_rfl) (fun _ _ _ h => h) (Or.inl ⟨by kernel_rfl, ?h9_12⟩) rfl ?p9_12 hS4 ?r9_12
  case h9_12 => (intro w hS; obtain ⟨-, s0, s1, s2, s3⟩ := hS; go_simp; try with_reducible rfl)
  case p9_12 => (go_simp; try with_reducible rfl)
  refine wpAnyH_takeN (i := 13) (v := ?v9_13) (l' := #[true, true, true, true, true, true, true, true, true, true, true, true, true, true, false, false, false, false, false, false, false, false, false, false, false, false, false, false, false, false, false, false, false, false, false, false, false, false, false]) (a' := ?a9_13) rfl (by kernel_rfl) (by kernel_rfl) (by kernel_rfl) (fun _ _ _ h => h) (Or.inl ⟨by kernel_rfl, ?h9_13⟩) rfl ?p9_13 hS4 ?r9_13
  case h9_13 => (intro w hS; obtain ⟨-, s0, s1, s2, s3⟩ := hS; go_simp; try with_reducible rfl)
  case p9_13 => (go_simp; try with_reducible rfl)
  refine wpAnyH_takeN (i := 14) (v := ?v9_14) (l' := #[true, true, true, true, true, true, true, true, true, true, true, true, true, true, true, false, false, false, false, false, false, false, false, false, false, false, false, false, false, false, false, false, false, false, false, false, false, false, false]) (a' := ?a9_14) rfl (by kernel_rfl) (by kernel_rfl) (by kernel_rfl) (fun _ _ _ h => h) (Or.inl ⟨by kernel_rfl, ?h9_14⟩) rfl ?p9_14 hS4 ?r9_14
  case h9_14 => (intro w hS; obtain ⟨-, s0, s1, s2, s3⟩ := hS; go_simp; try with_reducible rfl)
  case p9_14 => (go_simp; try with_reducible rfl)
  refine wpAnyH_takeN (i := 15) (v := ?v9_15) (l' := #[true, true, true, true, true, true, true, true, true, true, true, true, true, true, true, true, false, false, false, false, false, false, false, false, false, false, false, false, false, false, false, false, false, false, false, false, false, false, false]) (a' := ?a9_15) rfl (by kernel_rfl) (by kernel_rfl) (by kernel_rfl) (fun _ _ _ h => h) (Or.inl ⟨by kernel_rfl, ?h9_15⟩) rfl ?p9_15 hS4 ?r9_15
  case h9_15 => (intro w hS; obtain ⟨-, s0, s1, s2, s3⟩ := hS; go_simp; try with_reducible rfl)
  case p9_15 => (go_simp; try with_reducible rfl)
  refine wpAnyH_takeN (i := 16) (v := ?v9_16) (l' := #[true, true, true, true, true, true, true, true, true, true, true, true, true, true, true, true, true, false, false, false, false, false, false, false, false, false, false, false, false, false, false, false, false, false, false, false, false, false, false]) (a' := ?a9_16) rfl (by kernel_rfl) (by kernel_rfl) (by kernel_rfl) (fun _ _ _ h => h) (Or.inl ⟨by kernel_rfl, ?h9_16⟩) rfl ?p9_16 hS4 ?r9_16
  case h9_16 => (intro w hS; obtain ⟨-, s0, s1, s2, s3⟩ := hS; go_simp; try with_reducible rfl)
  case p9_16 => (go_simp; try with_reducible rfl)
  refine wpAnyH_takeN (i := 17) (v := ?v9_17) (l' := #[true, true, true, true, true, true, true, true, true, true, true, true, true, true, true, true, true, true, false, false, false, false, false, false, false, false, false, false, false, false, false, false, false, false, false, false, false, false, false]) (a' := ?a9_17) rfl (by kernel_rfl) (by kernel_rfl) (by kernel_rfl) (fun _ _ _ h => h) (Or.inl ⟨by kernel_rfl, ?h9_17⟩) rfl ?p9_17 hS4 ?r9_17
  case h9_17 => (intro w hS; obtain ⟨-, s0, s1, s2, s3⟩ := hS; go_simp; try with_reducible rfl)
  case p9_17 => (go_simp; try with_reducible rfl)
  refine wpAnyH_takeN (i := 18) (v := ?v9_18) (l' := #[true, true, true, true, true, true, true, true, true, true, true, true, true, true, true, true, true, true, true, false, false, false, false, false, false, false, false, false, false, false, false, false, false, false, false, false, false, false, false]) (a' := ?a9_18) rfl (by kernel_rfl) (by kernel_rfl) (by kernel_rfl) (fun _ _ _ h => h) (Or.inl ⟨by kernel_rfl, ?h9_18⟩) rfl ?p9_18 hS4 ?r9_18
  case h9_18 => (intro w hS; obtain ⟨-, s0, s1, s2, s3⟩ := hS; go_simp; try with_reducible rfl)
  case p9_18 => (go_simp; try with_reducible rfl)
  refine wpAnyH_takeN (i := 19) (v := ?v9_19) (l' := #[true, true, true, true, true, true, true, true, true, true, true, true, true, true, true, true, true, true, true, true, false, false, false, false, false, false, false, false, false, false, false, false, false, false, false, false, false, false, false]) (a' := ?a9_19) rfl (by kernel_rfl) (by kernel_rfl) (by kernel_rfl) (fun _ _ _ h => h) (Or.inl ⟨by kernel_rfl, ?h9_19⟩) rfl ?p9_19 hS4 ?r9_19
  case h9_19 => (intro w hS; obtain ⟨-, s0, s1, s2, s3⟩ := hS; go_simp; try with_reducible rfl)
  case p9_19 => (go_simp; try with_reducible rfl)
  refine wpAnyH_takeN (i := 20) (v := ?v9_20) (l' := #[true, true, true, true, true, true, true, true, true, true, true, true, true, true, true, true, true, true, true, true, true, false, false, false, false, false, false, false, false, false, false, false, false, false, false, false, false, false, false]) (a' := ?a9_20) rfl (by kernel_rfl) (by kernel_rfl) (by kernel_rfl) (fun _ _ _ h => h) (Or.inl ⟨by kernel_rfl, ?h9_20⟩) rfl ?p9_20 hS4 ?r9_20
  case h9_20 => (intro w hS; obtain ⟨-, s0, s1, s2, s3⟩ := hS; go_simp; try with_reducible rfl)
  case p9_20 => (go_simp; try with_reducible rfl)
  refine wpAnyH_takeN (i := 21) (v := ?v9_21) (l' := #[true, true, true, true, true, true, true, true, true, true, true, true, true, true, true, true, true, true, true, true, true, true, false, false, false, false, false, false, false, false, false, false, false, false, false, false, false, false, false]) (a' := ?a9_21) rfl (by kernel_rfl) (by kernel_rfl) (by kernel_rfl) (fun _ _ _ h => h) (Or.inl ⟨by kernel_rfl, ?h9_21⟩) rfl ?p9_21 hS4 ?r9_21
  case h9_21 => (intro w hS; obtain ⟨-, s0, s1, s2, s3⟩ := hS; go_simp; try with_reducible rfl)
  case p9_21 => (go_simp; try with_reducible rfl)
  refine wpAnyH_takeN (i := 22) (v := ?v9_22) (l' := #[true, true, true, true, true, true, true, true, true, true, true, true, true, true, true, true, true, true, true, true, true, true, true, false, false, false, false, false, false, false, false, false, false, false, false, false, false, false, false]) (a' := ?a9_22) rfl (by kernel_rfl) (by kernel_rfl) (by kernel_rfl) (fun _ _ _ h => h) (Or.inl ⟨by kernel_rfl, ?h9_22⟩) rfl ?p9_22 hS4 ?r9_22
  case h9_22 => (intro w hS; obtain ⟨-, s0, s1, s2, s3⟩ := hS; go_simp; try with_reducible rfl)
  case p9_22 => (go_simp; try with_reducible rfl)
  refine wpAnyH_takeN (i := 23) (v := ?v9_23) (l' := #[true, true, true, true, true, true, true, true, true, true, true, true, true, true, true, true, true, true, true, true, true, true, true, true, false, false, false, false, false, false, false, false, false, false, false, false, false, false, false]) (a' := ?a9_23) rfl (by kernel_rfl) (by kernel_rfl) (by kernel_rfl) (fun _ _ _ h => h) (Or.inl ⟨by kernel_rfl, ?h9_23⟩) rfl ?p9_23 hS4 ?r9_23
  case h9_23 => (intro w hS; obtain ⟨-, s0, s1, s2, s3⟩ := hS; go_simp; try with_reducible rfl)
  case p9_23 => (go_simp; try with_reducible rfl)
  refine wpAnyH_takeN (i := 24) (v := ?v9_24) (l' := #[true, true, true, true, true, true, true, true, true, true, true, true, true, true, true, true, true, true, true, true, true, true, true, true, true, false, false, false, false, false, false, false, false, false, false, false, false, false, false]) (a' := ?a9_24) rfl (by kernel_rfl) (by kernel_rfl) (by kernel_rfl) (fun _ _ _ h => h) (Or.inl ⟨by kernel_rfl, ?h9_24⟩) rfl ?p9_24 hS4 ?r9_24
  case h9_24 => (intro w hS; obtain ⟨-, s0, s1, s2, s3⟩ := hS; go_simp; try with_reducible rfl)
  case p9_24 => (go_simp; try with_reducible rfl)
  refine wpAnyH_takeN (i := 25) (v := ?v9_25) (l' := #[true, true, true, true, true, true, true, true, true, true, true, true, true, true, true, true, true, true, true, true, true, true, true, true, true, true, false, false, false, false, false, false, false, false, false, false, false, false, false]) (a' := ?a9_25) rfl (by kernel_rfl) (by kernel_rfl) (by kernel_rfl) (fun _ _ _ h => h) (Or.inl ⟨by kernel_rfl, ?h9_25⟩) rfl ?p9_25 hS4 ?r9_25
  case h9_25 => (intro w hS; obtain ⟨-, s0, s1, s2, s3⟩ := hS; go_simp; try with_reducible rfl)
  case p9_25 => (go_simp; try with_reducible rfl)
  refine wpAnyH_takeN (i := 26) (v := ?v9_26) (l' := #[true, true, true, true, true, true, true, true, true, true, true, true, true, true, true, true, true, true, true, true, true, true, true, true, true, true, true, false, false, false, false, false, false, false, false, false, false, false, false]) (a' := ?a9_26) rfl (by kernel_rfl) (by kernel_rfl) (by kernel_rfl) (fun _ _ _ h => h) (Or.inl ⟨by kernel_rfl, ?h9_26⟩) rfl ?p9_26 hS4 ?r9_26
  case h9_26 => (intro w hS; obtain ⟨-, s0, s1, s2, s3⟩ := hS; go_simp; try with_reducible rfl)
  case p9_26 => (go_simp; try with_reducible rfl)
  refine wpAnyH_takeN (i := 27) (v := ?v9_27) (l' := #[true, true, true, true, true, true, true, true, true, true, true, true, true, true, true, true, true, true, true, true, true, true, true, true, true, true, true, true, false, false, false, false, false, false, false, false, false, false, false]) (a' := ?a9_27) rfl (by kernel_rfl) (by kernel_rfl) (by kernel_rfl) (fun _ _ _ h => h) (Or.inl ⟨by kernel_rfl, ?h9_27⟩) rfl ?p9_27 hS4 ?r9_27
  case h9_27 => (intro w hS; obtain ⟨-, s0, s1, s2, s3⟩ := hS; go_simp; try with_reducible rfl)
  case p9_27 => (go_simp; try with_reducible rfl)
  refine wpAnyH_takeN (i := 28) (v := ?v9_28) (l' := #[true, true, true, true, true, true, true, true, true, true, true, true, true, true, true, true, true, true, true, true, true, true, true, true, true, true, true, true, true, false, false, false, false, false, false, false, false, false, false]) (a' := ?a9_28) rfl (by kernel_rfl) (by kernel_rfl) (by kernel_rfl) (fun _ _ _ h => h) (Or.inl ⟨by kernel_rfl, ?h9_28⟩) rfl ?p9_28 hS4 ?r9_28
  case h9_28 => (intro w hS; obtain ⟨-, s0, s1, s2, s3⟩ := hS; go_simp; try with_reducible rfl)
  case p9_28 => (go_simp; try with_reducible rfl)
  refine wpAnyH_takeN (i := 29) (v := ?v9_29) (l' := #[true, true, true, true, true, true, true, true, true, true, true, true, true, true, true, true, true, true, true, true, true, true, true, true, true, true, true, true, true, true, false, false, false, false, false, false, false, false, false]) (a' := ?a9_29) rfl (by kernel_rfl) (by kernel_rfl) (by kernel_rfl) (fun _ _ _ h => h) (Or.inl ⟨by kernel_rfl, ?h9_29⟩) rfl ?p9_29 hS4 ?r9_29
  case h9_29 => (intro w hS; obtain ⟨-, s0, s1, s2, s3⟩ := hS; go_simp; try with_reducible rfl)
  case p9_29 => (go_simp; try with_reducible rfl)
  refine wpAnyH_takeN (i := 30) (v := ?v9_30) (l' := #[true, true, true, true, true, true, true, true, true, true, true, true, true, true, true, true, true, true, true, true, true, true, true, true, true, true, true, true, true, true, true, false, false, false, false, false, false, false, false]) (a' := ?a9_30) rfl (by kernel_rfl) (by kernel_rfl) (by kernel_rfl) (fun _ _ _ h => h) (Or.inl ⟨by kernel_rfl, ?h9_30⟩) rfl ?p9_30 hS4 ?r9_30
  case h9_30 => (intro w hS; obtain ⟨-, s0, s1, s2, s3⟩ := hS; go_simp; try with_reducible rfl)
  case p9_30 => (go_simp; try with_reducible rfl)
  refine wpAnyH_takeN (i := 31) (v := ?v9_31) (l' := #[true, true, true, true, true, true, true, true, true, true, true, true, true, true, true, true, true, true, true, true, true, true, true, true, true, true, true, true, true, true, true, true, false, false, false, false, false, false, false]) (a' := ?a9_31) rfl (by kernel_rfl) (by kernel_rfl) (by kernel_rfl) (fun _ _ _ h => h) (Or.inl ⟨by kernel_rfl, ?h9_31⟩) rfl ?p9_31 hS4 ?r9_31
  case h9_31 => (intro w hS; obtain ⟨-, s0, s1, s2, s3⟩ := hS; go_simp; try with_reducible rfl)
  case p9_31 => (go_simp; try with_reducible rfl)
  refine wpAnyH_takeN (i := 32) (v := ?v9_32) (l' := #[true, true, true, true, true, true, true, true, true, true, true, true, true, true, true, true, true, true, true, true, true, true, true, true, true, true, true, true, true, true, true, true, true, false, false, false, false, false, false]) (a' := ?a9_32) rfl (by kernel_rfl) (by kernel_rfl) (by kernel_rfl) (fun _ _ _ h => h) (Or.inl ⟨by kernel_rfl, ?h9_32⟩) rfl ?p9_32 hS4 ?r9_32
  case h9_32 => (intro w hS; obtain ⟨-, s0, s1, s2, s3⟩ := hS; go_simp; try with_reducible rfl)
  case p9_32 => (go_simp; try with_reducible rfl)
  refine wpAnyH_takeN (i := 33) (v := ?v9_33) (l' := #[true, true, true, true, true, true, true, true, true, true, true, true, true, true, true, true, true, true, true, true, true, true, true, true, true, true, true, true, true, true, true, true, true, true, false, false, false, false, false]) (a' := ?a9_33) rfl (by kernel_rfl) (by kernel_rfl) (by kernel_rfl) (fun _ _ _ h => h) (Or.inl ⟨by kernel_rfl, ?h9_33⟩) rfl ?p9_33 hS4 ?r9_33
  case h9_33 => (intro w hS; obtain ⟨-, s0, s1, s2, s3⟩ := hS; go_simp; try with_reducible rfl)
  case p9_33 => (go_simp; try with_reducible rfl)
  refine wpAnyH_takeN (i := 34) (v := ?v9_34) (l' := #[true, true, true, true, true, true, true, true, true, true, true, true, true, true, true, true, true, true, true, true, true, true, true, true, true, true, true, true, true, true, true, true, true, true, true, false, false, false, false]) (a' := ?a9_34) rfl (by kernel_rfl) (by kernel_rfl) (by kernel_rfl) (fun _ _ _ h => h) (Or.inl ⟨by kernel_rfl, ?h9_34⟩) rfl ?p9_34 hS4 ?r9_34
  case h9_34 => (intro w hS; obtain ⟨-, s0, s1, s2, s3⟩ := hS; go_simp; try with_reducible rfl)
  case p9_34 => (go_simp; try with_reducible rfl)
  refine wpAnyH_takeN (i := 35) (v := ?v9_35) (l' := #[true, true, true, true, true, true, true, true, true, true, true, true, true, true, true, true, true, true, true, true, true, true, true, true, true, true, true, true, true, true, true, true, true, true, true, true, false, false, false]) (a' := ?a9_35) rfl (by kernel_rfl) (by kernel_rfl) (by kernel_rfl) (fun _ _ _ h => h) (Or.inl ⟨by kernel_rfl, ?h9_35⟩) rfl ?p9_35 hS4 ?r9_35
  case h9_35 => (intro w hS; obtain ⟨-, s0, s1, s2, s3⟩ := hS; go_simp; try with_reducible rfl)
  case p9_35 => (go_simp; try with_reducible rfl)
  refine wpAnyH_takeN (i := 36) (v := ?v9_36) (l' := #[true, true, true, true, true, true, true, true, true, true, true, true, true, true, true, true, true, true, true, true, true, true, true, true, true, true, true, true, true, true, true, true, true, true, true, true, true, false, false]) (a' := ?a9_36) rfl (by kernel_rfl) (by kernel_rfl) (by kernel_rfl) (fun _ _ _ h => h) (Or.inl ⟨by kernel_rfl, ?h9_36⟩) rfl ?p9_36 hS4 ?r9_36
  case h9_36 => (intro w hS; obtain ⟨-, s0, s1, s2, s3⟩ := hS; go_simp; try with_reducible rfl)
  case p9_36 => (go_simp; try with_reducible rfl)
  refine wpAnyH_takeN (i := 37) (v := ?v9_37) (l' := #[true, true, true, true, true, true, true, true, true, true, true, true, true, true, true, true, true, true, true, true, true, true, true, true, true, true, true, true, true, true, true, true, true, true, true, true, true, true, false]) (a' := ?a9_37) rfl (by kernel_rfl) (by kernel_rfl) (by kernel_rfl) (fun _ _ _ h => h) (Or.inl ⟨by kernel_rfl, ?h9_37⟩) rfl ?p9_37 hS4 ?r9_37
  case h9_37 => (intro w hS; obtain ⟨-, s0, s1, s2, s3⟩ := hS; go_simp; try with_reducible rfl)
  case p9_37 => (go_simp; try with_reducible rfl)
  refine wpAnyH_takeN (i := 38) (v := ?v9_38) (l' := #[true, true, true, true, true, true, true, true, true, true, true, true, true, true, true, true, true, true, true, true, true, true, true, true, true, true, true, true, true, true, true, true, true, true, true, true, true, true, true]) (a' := ?a9_38) rfl (by kernel_rfl) (by kernel_rfl) (by kernel_rfl) (fun _ _ _ h => h) (Or.inl ⟨by kernel_rfl, ?h9_38⟩) rfl ?p9_38 hS4 ?r9_38
  case h9_38 => (intro w hS; obtain ⟨-, s0, s1, s2, s3⟩ := hS; go_simp; try with_reducible rfl)
  case p9_38 => (go_simp; try with_reducible rfl)
  refine wpAnyH_done (by kernel_rfl) ?_ _
  clear hS4
  obtain ⟨-, q0, q1, q2, q3⟩ := HO.out _ D11.out
  go_wp2_with fail
  go_ret
  exact ⟨ret_bool (by simp), below_step HB.out D11.out⟩
theorem asks_good (A B : Sp) (w : World) : Calls Try.prog 9 #[.agg #[.float .f64 A.lo, .float .f64 A.hi], .agg #[.float .f64 B.lo, .float .f64 B.hi]] w fun r w' => r = .returned (.bool true) ∧ Below w.heap.size w w' := by
  have key : ∃ x y : Nat, (∀ w, Calls Try.prog 33 #[.agg #[.float .f64 A.lo, .float .f64 A.hi]] w fun r w' => r = .returned (.tuple #[.float .f64 x, .float .f64 y]) ∧ Below w.heap.size w w') ∧ (∀ w, Calls Try.prog 49 #[.agg #[.float .f64 A.lo, .float .f64 A.hi]] w fun r w' => r = .returned (.tuple #[.float .f64 x, .float .f64 y]) ∧ Below w.heap.size w w') := by
    cases h : A.wide
    · exact ⟨_, _, fun w => mid_n A h w, fun w => rmid_n A h w⟩
    · exact ⟨_, _, fun w => mid_w A h w, fun w => rmid_w A h w⟩
  obtain ⟨x, y, m1, m2⟩ := key
  by_cases s : ∃ n, FlSure A n
  · obtain ⟨n, s⟩ := s
    exact asks_gen A B n 1 x y (fun w => flo_sure A n s w) (fun w => rflo_sure A n s w) m1 m2 w
  · exact asks_gen A B 0 2 x y (fun w => flo_not A (fun n q => s ⟨n, q⟩) w) (fun w => rflo_not A (fun n q => s ⟨n, q⟩) w) m1 m2 w
theorem walk_asks (a b c d : Nat) (ha : a < 18446744073709551616) (hb : b < 18446744073709551616) (hc : c < 18446744073709551616) (hd : d < 18446744073709551616) (w : World) : Calls Try.prog 9 #[.agg #[.float .f64 a, .float .f64 b], .agg #[.float .f64 c, .float .f64 d]] w fun r w' => r = .returned (.bool true) ∧ Below w.heap.size w w' := by
  cases h1 : vdB a b
  · exact asks_n1 a b c d ha hb hc hd h1 w
  · cases h2 : vdB c d
    · exact asks_n2 a b c d ha hb hc hd h1 h2 w
    · exact asks_good ⟨a, b, vdB_true ha hb h1⟩ ⟨c, d, vdB_true hc hd h2⟩ w
end Go.Proofs.Ytlpnfgglpoppfaa
