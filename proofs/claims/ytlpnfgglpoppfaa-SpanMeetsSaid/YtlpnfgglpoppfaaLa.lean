/- The walk of SpanMeets (gen_la.py). -/
import Derived.Test.YtlpnfgglpoppfaaGf
set_option linter.unusedVariables false
set_option linter.unusedSimpArgs false
namespace Go.Proofs.Ytlpnfgglpoppfaa
open Go.RowKit Fl

set_option maxRecDepth 100000 in
theorem meets_n1 (a b c d x : Nat) (ha : a < 18446744073709551616) (hb : b < 18446744073709551616) (hc : c < 18446744073709551616) (hd : d < 18446744073709551616) (h1 : vdB a b = false) (w : World) : Calls Try.prog 3 #[.agg #[.float .f64 a, .float .f64 b], .agg #[.float .f64 c, .float .f64 d], .float .f64 x] w fun r w' => r = .returned (.bool true) ∧ Below w.heap.size w w' := by
  have H0 := Lib.hid awake2
  have H1 := Lib.hid (fun w => rvalid_any a b ha hb w)
  have H2 := Lib.hid (fun w => rvalid_any c d hc hd w)
  rw [h1] at H1
  go_enter Try.func3, Try.ntmps3
  go_wp2_with fail
  obtain ⟨W, hW, K0, K1, hB, hz⟩ := bx2 w 24 24 #[Value.float FloatKind.f64 a, Value.float FloatKind.f64 b] #[Value.float FloatKind.f64 c, Value.float FloatKind.f64 d]
  rw [← hW]
  have K0 := Lib.hid K0
  have K1 := Lib.hid K1
  have HB := Lib.hid hB
  clear hW hB hz
  have HO := Lib.hid (show ∀ w', Below W.heap.size W w' → (Below W.heap.size W w' ∧ w'.cell? ⟨w.heap.size, 0, none⟩ = some (Value.float FloatKind.f64 a) ∧ w'.cell? ⟨w.heap.size, 1, none⟩ = some (Value.float FloatKind.f64 b) ∧ w'.cell? ⟨w.heap.size + 1, 0, none⟩ = some (Value.float FloatKind.f64 c) ∧ w'.cell? ⟨w.heap.size + 1, 1, none⟩ = some (Value.float FloatKind.f64 d)) from fun w' h => ⟨h, (K0.out.below h K0.out.lt).cell 0, (K0.out.below h K0.out.lt).cell 1, (K1.out.below h K1.out.lt).cell 0, (K1.out.below h K1.out.lt).cell 1⟩)
  have D0 := Lib.hid (Below.refl W.heap.size W)
  refine (H0.out _).mono ?_
  rintro r w1 ⟨rfl, hb⟩
  have D1 := Lib.hid (below_step D0.out hb)
  clear hb
  obtain ⟨-, q0, q1, q2, q3⟩ := HO.out _ D1.out
  go_wp2_with fail
  refine (H1.out _).mono ?_
  clear q0 q1 q2 q3
  rintro r w2 ⟨rfl, hb⟩
  have D2 := Lib.hid (below_step D1.out hb)
  clear hb
  obtain ⟨-, q0, q1, q2, q3⟩ := HO.out _ D2.out
  go_wp2_with fail
  go_ret
  exact ⟨rfl, below_step HB.out D2.out⟩
set_option maxRecDepth 100000 in
theorem meets_n2 (a b c d x : Nat) (ha : a < 18446744073709551616) (hb : b < 18446744073709551616) (hc : c < 18446744073709551616) (hd : d < 18446744073709551616) (h1 : vdB a b = true) (h2 : vdB c d = false) (w : World) : Calls Try.prog 3 #[.agg #[.float .f64 a, .float .f64 b], .agg #[.float .f64 c, .float .f64 d], .float .f64 x] w fun r w' => r = .returned (.bool true) ∧ Below w.heap.size w w' := by
  have H0 := Lib.hid awake2
  have H1 := Lib.hid (fun w => rvalid_any a b ha hb w)
  have H2 := Lib.hid (fun w => rvalid_any c d hc hd w)
  rw [h1] at H1
  rw [h2] at H2
  go_enter Try.func3, Try.ntmps3
  go_wp2_with fail
  obtain ⟨W, hW, K0, K1, hB, hz⟩ := bx2 w 24 24 #[Value.float FloatKind.f64 a, Value.float FloatKind.f64 b] #[Value.float FloatKind.f64 c, Value.float FloatKind.f64 d]
  rw [← hW]
  have K0 := Lib.hid K0
  have K1 := Lib.hid K1
  have HB := Lib.hid hB
  clear hW hB hz
  have HO := Lib.hid (show ∀ w', Below W.heap.size W w' → (Below W.heap.size W w' ∧ w'.cell? ⟨w.heap.size, 0, none⟩ = some (Value.float FloatKind.f64 a) ∧ w'.cell? ⟨w.heap.size, 1, none⟩ = some (Value.float FloatKind.f64 b) ∧ w'.cell? ⟨w.heap.size + 1, 0, none⟩ = some (Value.float FloatKind.f64 c) ∧ w'.cell? ⟨w.heap.size + 1, 1, none⟩ = some (Value.float FloatKind.f64 d)) from fun w' h => ⟨h, (K0.out.below h K0.out.lt).cell 0, (K0.out.below h K0.out.lt).cell 1, (K1.out.below h K1.out.lt).cell 0, (K1.out.below h K1.out.lt).cell 1⟩)
  have D0 := Lib.hid (Below.refl W.heap.size W)
  refine (H0.out _).mono ?_
  rintro r w1 ⟨rfl, hb⟩
  have D1 := Lib.hid (below_step D0.out hb)
  clear hb
  obtain ⟨-, q0, q1, q2, q3⟩ := HO.out _ D1.out
  go_wp2_with fail
  refine (H1.out _).mono ?_
  clear q0 q1 q2 q3
  rintro r w2 ⟨rfl, hb⟩
  have D2 := Lib.hid (below_step D1.out hb)
  clear hb
  obtain ⟨-, q0, q1, q2, q3⟩ := HO.out _ D2.out
  go_wp2_with fail
  refine (H2.out _).mono ?_
  clear q0 q1 q2 q3
  rintro r w3 ⟨rfl, hb⟩
  have D3 := Lib.hid (below_step D2.out hb)
  clear hb
  obtain ⟨-, q0, q1, q2, q3⟩ := HO.out _ D3.out
  go_wp2_with fail
  go_ret
  exact ⟨rfl, below_step HB.out D3.out⟩
set_option maxRecDepth 100000 in
set_option maxHeartbeats 2000000 in
theorem meets_y00 (A B H : Sp) (m : Sp) (x : Nat) (ea : hasB A x = false) (eb : hasB B x = false) (em : hasB m x = false) (HM : ∀ w, Calls Try.prog 16 #[.agg #[.float .f64 A.lo, .float .f64 A.hi], .agg #[.float .f64 B.lo, .float .f64 B.hi]] w fun r w' => r = .returned (.tuple #[.agg #[.float .f64 m.lo, .float .f64 m.hi], .bool true]) ∧ Below w.heap.size w w') (HH : ∀ w, Calls Try.prog 17 #[.agg #[.float .f64 A.lo, .float .f64 A.hi], .agg #[.float .f64 B.lo, .float .f64 B.hi]] w fun r w' => r = .returned (.agg #[.float .f64 H.lo, .float .f64 H.hi]) ∧ Below w.heap.size w w') (w : World) : Calls Try.prog 3 #[.agg #[.float .f64 A.lo, .float .f64 A.hi], .agg #[.float .f64 B.lo, .float .f64 B.hi], .float .f64 x] w fun r w' => r = .returned (.bool true) ∧ Below w.heap.size w w' := by
  have H0 := Lib.hid awake2
  have H1 := Lib.hid (fun w => rvalid_any A.lo A.hi A.vd.l.lt A.vd.h.lt w)
  have H2 := Lib.hid (fun w => rvalid_any B.lo B.hi B.vd.l.lt B.vd.h.lt w)
  rw [vdB_of A.vd] at H1
  rw [vdB_of B.vd] at H2
  have HM := Lib.hid HM
  have HH := Lib.hid HH
  have Ha := Lib.hid (fun w => has_sp A x w)
  have Hb := Lib.hid (fun w => has_sp B x w)
  rw [ea] at Ha
  rw [eb] at Hb
  have Hm := Lib.hid (fun w => has_sp m x w)
  rw [em] at Hm
  clear em
  clear ea eb
  go_enter Try.func3, Try.ntmps3
  go_wp2_with fail
  obtain ⟨W, hW, K0, K1, hB, hz⟩ := bx2 w 24 24 #[Value.float FloatKind.f64 A.lo, Value.float FloatKind.f64 A.hi] #[Value.float FloatKind.f64 B.lo, Value.float FloatKind.f64 B.hi]
  rw [← hW]
  have K0 := Lib.hid K0
  have K1 := Lib.hid K1
  have HB := Lib.hid hB
  clear hW hB hz
  have HO := Lib.hid (show ∀ w', Below W.heap.size W w' → (Below W.heap.size W w' ∧ w'.cell? ⟨w.heap.size, 0, none⟩ = some (Value.float FloatKind.f64 A.lo) ∧ w'.cell? ⟨w.heap.size, 1, none⟩ = some (Value.float FloatKind.f64 A.hi) ∧ w'.cell? ⟨w.heap.size + 1, 0, none⟩ = some (Value.float FloatKind.f64 B.lo) ∧ w'.cell? ⟨w.heap.size + 1, 1, none⟩ = some (Value.float FloatKind.f64 B.hi)) from fun w' h => ⟨h, (K0.out.below h K0.out.lt).cell 0, (K0.out.below h K0.out.lt).cell 1, (K1.out.below h K1.out.lt).cell 0, (K1.out.below h K1.out.lt).cell 1⟩)
  have D0 := Lib.hid (Below.refl W.heap.size W)
  refine (H0.out _).mono ?_
  rintro r w1 ⟨rfl, hb⟩
  have D1 := Lib.hid (below_step D0.out hb)
  clear hb
  obtain ⟨-, q0, q1, q2, q3⟩ := HO.out _ D1.out
  go_wp2_with fail
  refine (H1.out _).mono ?_
  clear q0 q1 q2 q3
  rintro r w2 ⟨rfl, hb⟩
  have D2 := Lib.hid (below_step D1.out hb)
  clear hb
  obtain ⟨-, q0, q1, q2, q3⟩ := HO.out _ D2.out
  go_wp2_with fail
  refine (H2.out _).mono ?_
  clear q0 q1 q2 q3
  rintro r w3 ⟨rfl, hb⟩
  have D3 := Lib.hid (below_step D2.out hb)
  clear hb
  obtain ⟨-, q0, q1, q2, q3⟩ := HO.out _ D3.out
  go_wp2_with fail
  refine (HM.out _).mono ?_
  clear q0 q1 q2 q3
  rintro r w4 ⟨rfl, hb⟩
  have D4 := Lib.hid (below_step D3.out hb)
  clear hb
  obtain ⟨-, q0, q1, q2, q3⟩ := HO.out _ D4.out
  obtain ⟨g1, hg1⟩ : ∃ g, w4.heap.size = g := ⟨_, rfl⟩
  obtain ⟨V1, hV⟩ : ∃ V, w4.alloc (.cells #[Value.float FloatKind.f64 m.lo, Value.float FloatKind.f64 m.hi] 24) = V := ⟨_, rfl⟩
  have K0' := Lib.hid (hV ▸ Blk.alloc (Blk.below K0.out D4.out K0.out.lt) _ : Blk V1 (w.heap.size) 24 #[Value.float FloatKind.f64 A.lo, Value.float FloatKind.f64 A.hi])
  have K1' := Lib.hid (hV ▸ Blk.alloc (Blk.below K1.out D4.out K1.out.lt) _ : Blk V1 (w.heap.size + 1) 24 #[Value.float FloatKind.f64 B.lo, Value.float FloatKind.f64 B.hi])
  have K2 := Lib.hid (show Blk V1 g1 24 #[Value.float FloatKind.f64 m.lo, Value.float FloatKind.f64 m.hi] by rw [← hV, ← hg1]; exact Blk.new_at _ _ _ rfl)
  have HB' := Lib.hid (hV ▸ below_more (below_step HB.out D4.out) _ : Below w.heap.size w V1)
  clear HB HO K0 K1
  have HB := HB'
  clear HB'
  have K0 := K0'
  clear K0'
  have K1 := K1'
  clear K1'
  have HO := Lib.hid (show ∀ w', Below V1.heap.size V1 w' → (Below V1.heap.size V1 w' ∧ w'.cell? ⟨w.heap.size, 0, none⟩ = some (Value.float FloatKind.f64 A.lo) ∧ w'.cell? ⟨w.heap.size, 1, none⟩ = some (Value.float FloatKind.f64 A.hi) ∧ w'.cell? ⟨w.heap.size + 1, 0, none⟩ = some (Value.float FloatKind.f64 B.lo) ∧ w'.cell? ⟨w.heap.size + 1, 1, none⟩ = some (Value.float FloatKind.f64 B.hi) ∧ w'.cell? ⟨g1, 0, none⟩ = some (Value.float FloatKind.f64 m.lo) ∧ w'.cell? ⟨g1, 1, none⟩ = some (Value.float FloatKind.f64 m.hi)) from fun w' h => ⟨h, (K0.out.below h K0.out.lt).cell 0, (K0.out.below h K0.out.lt).cell 1, (K1.out.below h K1.out.lt).cell 0, (K1.out.below h K1.out.lt).cell 1, (K2.out.below h K2.out.lt).cell 0, (K2.out.below h K2.out.lt).cell 1⟩)
  have D5 := Lib.hid (Below.refl V1.heap.size V1)
  obtain ⟨-, p0, p1, p2, p3, p4, p5⟩ := HO.out _ D5.out
  go_wp2_with fail
  clear hV hg1 q0 q1 q2 q3
  have q0 := p0
  clear p0
  have q1 := p1
  clear p1
  have q2 := p2
  clear p2
  have q3 := p3
  clear p3
  have q4 := p4
  clear p4
  have q5 := p5
  clear p5
  refine (HH.out _).mono ?_
  clear q0 q1 q2 q3 q4 q5
  rintro r w6 ⟨rfl, hb⟩
  have D6 := Lib.hid (below_step D5.out hb)
  clear hb
  obtain ⟨-, q0, q1, q2, q3, q4, q5⟩ := HO.out _ D6.out
  obtain ⟨g2, hg2⟩ : ∃ g, w6.heap.size = g := ⟨_, rfl⟩
  obtain ⟨V2, hV⟩ : ∃ V, w6.alloc (.cells #[Value.float FloatKind.f64 H.lo, Value.float FloatKind.f64 H.hi] 24) = V := ⟨_, rfl⟩
  have K0' := Lib.hid (hV ▸ Blk.alloc (Blk.below K0.out D6.out K0.out.lt) _ : Blk V2 (w.heap.size) 24 #[Value.float FloatKind.f64 A.lo, Value.float FloatKind.f64 A.hi])
  have K1' := Lib.hid (hV ▸ Blk.alloc (Blk.below K1.out D6.out K1.out.lt) _ : Blk V2 (w.heap.size + 1) 24 #[Value.float FloatKind.f64 B.lo, Value.float FloatKind.f64 B.hi])
  have K2' := Lib.hid (hV ▸ Blk.alloc (Blk.below K2.out D6.out K2.out.lt) _ : Blk V2 (g1) 24 #[Value.float FloatKind.f64 m.lo, Value.float FloatKind.f64 m.hi])
  have K3 := Lib.hid (show Blk V2 g2 24 #[Value.float FloatKind.f64 H.lo, Value.float FloatKind.f64 H.hi] by rw [← hV, ← hg2]; exact Blk.new_at _ _ _ rfl)
  have HB' := Lib.hid (hV ▸ below_more (below_step HB.out D6.out) _ : Below w.heap.size w V2)
  clear HB HO K0 K1 K2
  have HB := HB'
  clear HB'
  have K0 := K0'
  clear K0'
  have K1 := K1'
  clear K1'
  have K2 := K2'
  clear K2'
  have HO := Lib.hid (show ∀ w', Below V2.heap.size V2 w' → (Below V2.heap.size V2 w' ∧ w'.cell? ⟨w.heap.size, 0, none⟩ = some (Value.float FloatKind.f64 A.lo) ∧ w'.cell? ⟨w.heap.size, 1, none⟩ = some (Value.float FloatKind.f64 A.hi) ∧ w'.cell? ⟨w.heap.size + 1, 0, none⟩ = some (Value.float FloatKind.f64 B.lo) ∧ w'.cell? ⟨w.heap.size + 1, 1, none⟩ = some (Value.float FloatKind.f64 B.hi) ∧ w'.cell? ⟨g1, 0, none⟩ = some (Value.float FloatKind.f64 m.lo) ∧ w'.cell? ⟨g1, 1, none⟩ = some (Value.float FloatKind.f64 m.hi) ∧ w'.cell? ⟨g2, 0, none⟩ = some (Value.float FloatKind.f64 H.lo) ∧ w'.cell? ⟨g2, 1, none⟩ = some (Value.float FloatKind.f64 H.hi)) from fun w' h => ⟨h, (K0.out.below h K0.out.lt).cell 0, (K0.out.below h K0.out.lt).cell 1, (K1.out.below h K1.out.lt).cell 0, (K1.out.below h K1.out.lt).cell 1, (K2.out.below h K2.out.lt).cell 0, (K2.out.below h K2.out.lt).cell 1, (K3.out.below h K3.out.lt).cell 0, (K3.out.below h K3.out.lt).cell 1⟩)
  have D7 := Lib.hid (Below.refl V2.heap.size V2)
  obtain ⟨-, p0, p1, p2, p3, p4, p5, p6, p7⟩ := HO.out _ D7.out
  go_wp2_with fail
  clear hV hg2 q0 q1 q2 q3 q4 q5
  have q0 := p0
  clear p0
  have q1 := p1
  clear p1
  have q2 := p2
  clear p2
  have q3 := p3
  clear p3
  have q4 := p4
  clear p4
  have q5 := p5
  clear p5
  have q6 := p6
  clear p6
  have q7 := p7
  clear p7
  go_wp2_with fail
  clear q0 q1 q2 q3 q4 q5 q6 q7
  refine wp_region_held (S := (fun w' => Below V2.heap.size V2 w' ∧ w'.cell? ⟨w.heap.size, 0, none⟩ = some (Value.float FloatKind.f64 A.lo) ∧ w'.cell? ⟨w.heap.size, 1, none⟩ = some (Value.float FloatKind.f64 A.hi) ∧ w'.cell? ⟨w.heap.size + 1, 0, none⟩ = some (Value.float FloatKind.f64 B.lo) ∧ w'.cell? ⟨w.heap.size + 1, 1, none⟩ = some (Value.float FloatKind.f64 B.hi) ∧ w'.cell? ⟨g1, 0, none⟩ = some (Value.float FloatKind.f64 m.lo) ∧ w'.cell? ⟨g1, 1, none⟩ = some (Value.float FloatKind.f64 m.hi) ∧ w'.cell? ⟨g2, 0, none⟩ = some (Value.float FloatKind.f64 H.lo) ∧ w'.cell? ⟨g2, 1, none⟩ = some (Value.float FloatKind.f64 H.hi))) (by kernel_rfl) ?_
  (try change wpAnyH _ _ _ _ _ _ _ (World.drew _))
  have hS0 := HO.out _ (Below.drew D7.out)
  refine wpAnyH_takeN (i := 0) (v := ?v7_0) (l' := #[true, false, false, false, false, false, false, false, false, false, false, false, false, false, false, false, false, false]) (a' := ?a7_0) rfl (by kernel_rfl) (by kernel_rfl) (by kernel_rfl) (fun _ _ _ h => h) (Or.inl ⟨by kernel_rfl, ?h7_0⟩) rfl ?p7_0 hS0 ?r7_0
  case h7_0 => (intro w hS; obtain ⟨-, s0, s1, s2, s3, s4, s5, s6, s7⟩ := hS; go_simp; try with_reducible rfl)
  case p7_0 => (go_simp; try with_reducible rfl)
  refine wpAnyH_takeN (i := 1) (v := ?v7_1) (l' := #[true, true, false, false, false, false, false, false, false, false, false, false, false, false, false, false, false, false]) (a' := ?a7_1) rfl (by kernel_rfl) (by kernel_rfl) (by kernel_rfl) (fun _ _ _ h => h) (Or.inl ⟨by kernel_rfl, ?h7_1⟩) rfl ?p7_1 hS0 ?r7_1
  case h7_1 => (intro w hS; obtain ⟨-, s0, s1, s2, s3, s4, s5, s6, s7⟩ := hS; go_simp; try with_reducible rfl)
  case p7_1 => (go_simp; try with_reducible rfl)
  refine wpAnyH_takeN (i := 8) (v := ?v7_8) (l' := #[true, true, false, false, false, false, false, false, true, false, false, false, false, false, false, false, false, false]) (a' := ?a7_8) rfl (by kernel_rfl) (by kernel_rfl) (by kernel_rfl) (fun _ _ _ h => h) (Or.inl ⟨by kernel_rfl, ?h7_8⟩) rfl ?p7_8 hS0 ?r7_8
  case h7_8 => (intro w hS; obtain ⟨-, s0, s1, s2, s3, s4, s5, s6, s7⟩ := hS; go_simp; try with_reducible rfl)
  case p7_8 => (go_simp; try with_reducible rfl)
  refine wpAnyH_takeN (i := 9) (v := ?v7_9) (l' := #[true, true, false, false, false, false, false, false, true, true, false, false, false, false, false, false, false, false]) (a' := ?a7_9) rfl (by kernel_rfl) (by kernel_rfl) (by kernel_rfl) (fun _ _ _ h => h) (Or.inl ⟨by kernel_rfl, ?h7_9⟩) rfl ?p7_9 hS0 ?r7_9
  case h7_9 => (intro w hS; obtain ⟨-, s0, s1, s2, s3, s4, s5, s6, s7⟩ := hS; go_simp; try with_reducible rfl)
  case p7_9 => (go_simp; try with_reducible rfl)
  refine wpAnyH_oneN (i := 2) (l' := #[true, true, true, false, false, false, false, false, true, true, false, false, false, false, false, false, false, false]) rfl (by kernel_rfl) (by kernel_rfl) rfl (fun K hK => ?_)
  obtain ⟨hP, s0, s1, s2, s3, s4, s5, s6, s7⟩ := hS0
  go_simp
  go_at_call 18
  refine (Ha.out _).mono ?_
  rintro r w8 ⟨rfl, hb⟩
  dsimp only
  have D8 := Lib.hid (below_step hP hb)
  clear hb
  have hS1 := HO.out _ (D8.out)
  clear hP s0 s1 s2 s3 s4 s5 s6 s7
  refine hK _ _ hS1 ?_
  clear hK K
  refine wpAnyH_takeN (i := 3) (v := ?v7_3) (l' := #[true, true, true, true, false, false, false, false, true, true, false, false, false, false, false, false, false, false]) (a' := ?a7_3) rfl (by kernel_rfl) (by kernel_rfl) (by kernel_rfl) (fun _ _ _ h => h) (Or.inl ⟨by kernel_rfl, ?h7_3⟩) rfl ?p7_3 hS1 ?r7_3
  case h7_3 => (intro w hS; obtain ⟨-, s0, s1, s2, s3, s4, s5, s6, s7⟩ := hS; go_simp; try with_reducible rfl)
  case p7_3 => (go_simp; try with_reducible rfl)
  refine wpAnyH_takeN (i := 4) (v := undef) (l' := #[true, true, true, true, true, false, false, false, true, true, false, false, false, false, false, false, false, false]) (a' := ?a7_4) rfl (by kernel_rfl) (by kernel_rfl) (by kernel_rfl) (fun _ _ _ h => h) (Or.inr ⟨by kernel_rfl, rfl⟩) rfl ?p7_4 hS1 ?_
  case p7_4 => (go_simp; try with_reducible rfl)
  refine wpAnyH_takeN (i := 5) (v := undef) (l' := #[true, true, true, true, true, true, false, false, true, true, false, false, false, false, false, false, false, false]) (a' := ?a7_5) rfl (by kernel_rfl) (by kernel_rfl) (by kernel_rfl) (fun _ _ _ h => h) (Or.inr ⟨by kernel_rfl, rfl⟩) rfl ?p7_5 hS1 ?_
  case p7_5 => (go_simp; try with_reducible rfl)
  refine wpAnyH_takeN (i := 6) (v := undef) (l' := #[true, true, true, true, true, true, true, false, true, true, false, false, false, false, false, false, false, false]) (a' := ?a7_6) rfl (by kernel_rfl) (by kernel_rfl) (by kernel_rfl) (fun _ _ _ h => h) (Or.inr ⟨by kernel_rfl, rfl⟩) rfl ?p7_6 hS1 ?_
  case p7_6 => (go_simp; try with_reducible rfl)
  refine wpAnyH_takeN (i := 7) (v := ?v7_7) (l' := #[true, true, true, true, true, true, true, true, true, true, false, false, false, false, false, false, false, false]) (a' := ?a7_7) rfl (by kernel_rfl) (by kernel_rfl) (by kernel_rfl) (fun _ _ _ h => h) (Or.inl ⟨by kernel_rfl, ?h7_7⟩) rfl ?p7_7 hS1 ?r7_7
  case h7_7 => (intro w hS; obtain ⟨-, s0, s1, s2, s3, s4, s5, s6, s7⟩ := hS; go_simp; try with_reducible rfl)
  case p7_7 => (go_simp; try with_reducible rfl)
  refine wpAnyH_oneN (i := 10) (l' := #[true, true, true, true, true, true, true, true, true, true, true, false, false, false, false, false, false, false]) rfl (by kernel_rfl) (by kernel_rfl) rfl (fun K hK => ?_)
  obtain ⟨hP, s0, s1, s2, s3, s4, s5, s6, s7⟩ := hS1
  go_simp
  go_at_call 18
  refine (Ha.out _).mono ?_
  rintro r w9 ⟨rfl, hb⟩
  dsimp only
  have D9 := Lib.hid (below_step hP hb)
  clear hb
  have hS2 := HO.out _ (D9.out)
  clear hP s0 s1 s2 s3 s4 s5 s6 s7
  refine hK _ _ hS2 ?_
  clear hK K
  refine wpAnyH_takeN (i := 11) (v := ?v7_11) (l' := #[true, true, true, true, true, true, true, true, true, true, true, true, false, false, false, false, false, false]) (a' := ?a7_11) rfl (by kernel_rfl) (by kernel_rfl) (by kernel_rfl) (fun _ _ _ h => h) (Or.inl ⟨by kernel_rfl, ?h7_11⟩) rfl ?p7_11 hS2 ?r7_11
  case h7_11 => (intro w hS; obtain ⟨-, s0, s1, s2, s3, s4, s5, s6, s7⟩ := hS; go_simp; try with_reducible rfl)
  case p7_11 => (go_simp; try with_reducible rfl)
  refine wpAnyH_takeN (i := 12) (v := ?v7_12) (l' := #[true, true, true, true, true, true, true, true, true, true, true, true, true, false, false, false, false, false]) (a' := ?a7_12) rfl (by kernel_rfl) (by kernel_rfl) (by kernel_rfl) (fun _ _ _ h => h) (Or.inl ⟨by kernel_rfl, ?h7_12⟩) rfl ?p7_12 hS2 ?r7_12
  case h7_12 => (intro w hS; obtain ⟨-, s0, s1, s2, s3, s4, s5, s6, s7⟩ := hS; go_simp; try with_reducible rfl)
  case p7_12 => (go_simp; try with_reducible rfl)
  refine wpAnyH_takeN (i := 13) (v := ?v7_13) (l' := #[true, true, true, true, true, true, true, true, true, true, true, true, true, true, false, false, false, false]) (a' := ?a7_13) rfl (by kernel_rfl) (by kernel_rfl) (by kernel_rfl) (fun _ _ _ h => h) (Or.inl ⟨by kernel_rfl, ?h7_13⟩) rfl ?p7_13 hS2 ?r7_13
  case h7_13 => (intro w hS; obtain ⟨-, s0, s1, s2, s3, s4, s5, s6, s7⟩ := hS; go_simp; try with_reducible rfl)
  case p7_13 => (go_simp; try with_reducible rfl)
  refine wpAnyH_oneN (i := 14) (l' := #[true, true, true, true, true, true, true, true, true, true, true, true, true, true, true, false, false, false]) rfl (by kernel_rfl) (by kernel_rfl) rfl (fun K hK => ?_)
  obtain ⟨hP, s0, s1, s2, s3, s4, s5, s6, s7⟩ := hS2
  go_simp
  go_at_call 18
  refine (Hb.out _).mono ?_
  rintro r w10 ⟨rfl, hb⟩
  dsimp only
  have D10 := Lib.hid (below_step hP hb)
  clear hb
  have hS3 := HO.out _ (D10.out)
  clear hP s0 s1 s2 s3 s4 s5 s6 s7
  refine hK _ _ hS3 ?_
  clear hK K
  refine wpAnyH_takeN (i := 15) (v := ?v7_15) (l' := #[true, true, true, true, true, true, true, true, true, true, true, true, true, true, true, true, false, false]) (a' := ?a7_15) rfl (by kernel_rfl) (by kernel_rfl) (by kernel_rfl) (fun _ _ _ h => h) (Or.inl ⟨by kernel_rfl, ?h7_15⟩) rfl ?p7_15 hS3 ?r7_15
  case h7_15 => (intro w hS; obtain ⟨-, s0, s1, s2, s3, s4, s5, s6, s7⟩ := hS; go_simp; try with_reducible rfl)
  case p7_15 => (go_simp; try with_reducible rfl)
  refine wpAnyH_takeN (i := 16) (v := ?v7_16) (l' := #[true, true, true, true, true, true, true, true, true, true, true, true, true, true, true, true, true, false]) (a' := ?a7_16) rfl (by kernel_rfl) (by kernel_rfl) (by kernel_rfl) (fun _ _ _ h => h) (Or.inl ⟨by kernel_rfl, ?h7_16⟩) rfl ?p7_16 hS3 ?r7_16
  case h7_16 => (intro w hS; obtain ⟨-, s0, s1, s2, s3, s4, s5, s6, s7⟩ := hS; go_simp; try with_reducible rfl)
  case p7_16 => (go_simp; try with_reducible rfl)
  refine wpAnyH_takeN (i := 17) (v := ?v7_17) (l' := #[true, true, true, true, true, true, true, true, true, true, true, true, true, true, true, true, true, true]) (a' := ?a7_17) rfl (by kernel_rfl) (by kernel_rfl) (by kernel_rfl) (fun _ _ _ h => h) (Or.inl ⟨by kernel_rfl, ?h7_17⟩) rfl ?p7_17 hS3 ?r7_17
  case h7_17 => (intro w hS; obtain ⟨-, s0, s1, s2, s3, s4, s5, s6, s7⟩ := hS; go_simp; try with_reducible rfl)
  case p7_17 => (go_simp; try with_reducible rfl)
  refine wpAnyH_done (by kernel_rfl) ?_ _
  clear hS3
  obtain ⟨-, q0, q1, q2, q3, q4, q5, q6, q7⟩ := HO.out _ D10.out
  go_wp2_with fail
  refine (Hm.out _).mono ?_
  clear q0 q1 q2 q3 q4 q5 q6 q7
  rintro r w11 ⟨rfl, hb⟩
  have D11 := Lib.hid (below_step D10.out hb)
  clear hb
  obtain ⟨-, q0, q1, q2, q3, q4, q5, q6, q7⟩ := HO.out _ D11.out
  go_wp2_with fail
  go_ret
  exact ⟨rfl, below_step HB.out D11.out⟩
set_option maxRecDepth 100000 in
set_option maxHeartbeats 2000000 in
theorem meets_y01 (A B H : Sp) (m : Sp) (x : Nat) (ea : hasB A x = false) (eb : hasB B x = true) (em : hasB m x = false) (eh : hasB H x = true) (HM : ∀ w, Calls Try.prog 16 #[.agg #[.float .f64 A.lo, .float .f64 A.hi], .agg #[.float .f64 B.lo, .float .f64 B.hi]] w fun r w' => r = .returned (.tuple #[.agg #[.float .f64 m.lo, .float .f64 m.hi], .bool true]) ∧ Below w.heap.size w w') (HH : ∀ w, Calls Try.prog 17 #[.agg #[.float .f64 A.lo, .float .f64 A.hi], .agg #[.float .f64 B.lo, .float .f64 B.hi]] w fun r w' => r = .returned (.agg #[.float .f64 H.lo, .float .f64 H.hi]) ∧ Below w.heap.size w w') (w : World) : Calls Try.prog 3 #[.agg #[.float .f64 A.lo, .float .f64 A.hi], .agg #[.float .f64 B.lo, .float .f64 B.hi], .float .f64 x] w fun r w' => r = .returned (.bool true) ∧ Below w.heap.size w w' := by
  have H0 := Lib.hid awake2
  have H1 := Lib.hid (fun w => rvalid_any A.lo A.hi A.vd.l.lt A.vd.h.lt w)
  have H2 := Lib.hid (fun w => rvalid_any B.lo B.hi B.vd.l.lt B.vd.h.lt w)
  rw [vdB_of A.vd] at H1
  rw [vdB_of B.vd] at H2
  have HM := Lib.hid HM
  have HH := Lib.hid HH
  have Ha := Lib.hid (fun w => has_sp A x w)
  have Hb := Lib.hid (fun w => has_sp B x w)
  rw [ea] at Ha
  rw [eb] at Hb
  have Hm := Lib.hid (fun w => has_sp m x w)
  rw [em] at Hm
  clear em
  have Hh := Lib.hid (fun w => has_sp H x w)
  rw [eh] at Hh
  clear eh
  clear ea eb
  go_enter Try.func3, Try.ntmps3
  go_wp2_with fail
  obtain ⟨W, hW, K0, K1, hB, hz⟩ := bx2 w 24 24 #[Value.float FloatKind.f64 A.lo, Value.float FloatKind.f64 A.hi] #[Value.float FloatKind.f64 B.lo, Value.float FloatKind.f64 B.hi]
  rw [← hW]
  have K0 := Lib.hid K0
  have K1 := Lib.hid K1
  have HB := Lib.hid hB
  clear hW hB hz
  have HO := Lib.hid (show ∀ w', Below W.heap.size W w' → (Below W.heap.size W w' ∧ w'.cell? ⟨w.heap.size, 0, none⟩ = some (Value.float FloatKind.f64 A.lo) ∧ w'.cell? ⟨w.heap.size, 1, none⟩ = some (Value.float FloatKind.f64 A.hi) ∧ w'.cell? ⟨w.heap.size + 1, 0, none⟩ = some (Value.float FloatKind.f64 B.lo) ∧ w'.cell? ⟨w.heap.size + 1, 1, none⟩ = some (Value.float FloatKind.f64 B.hi)) from fun w' h => ⟨h, (K0.out.below h K0.out.lt).cell 0, (K0.out.below h K0.out.lt).cell 1, (K1.out.below h K1.out.lt).cell 0, (K1.out.below h K1.out.lt).cell 1⟩)
  have D0 := Lib.hid (Below.refl W.heap.size W)
  refine (H0.out _).mono ?_
  rintro r w1 ⟨rfl, hb⟩
  have D1 := Lib.hid (below_step D0.out hb)
  clear hb
  obtain ⟨-, q0, q1, q2, q3⟩ := HO.out _ D1.out
  go_wp2_with fail
  refine (H1.out _).mono ?_
  clear q0 q1 q2 q3
  rintro r w2 ⟨rfl, hb⟩
  have D2 := Lib.hid (below_step D1.out hb)
  clear hb
  obtain ⟨-, q0, q1, q2, q3⟩ := HO.out _ D2.out
  go_wp2_with fail
  refine (H2.out _).mono ?_
  clear q0 q1 q2 q3
  rintro r w3 ⟨rfl, hb⟩
  have D3 := Lib.hid (below_step D2.out hb)
  clear hb
  obtain ⟨-, q0, q1, q2, q3⟩ := HO.out _ D3.out
  go_wp2_with fail
  refine (HM.out _).mono ?_
  clear q0 q1 q2 q3
  rintro r w4 ⟨rfl, hb⟩
  have D4 := Lib.hid (below_step D3.out hb)
  clear hb
  obtain ⟨-, q0, q1, q2, q3⟩ := HO.out _ D4.out
  obtain ⟨g1, hg1⟩ : ∃ g, w4.heap.size = g := ⟨_, rfl⟩
  obtain ⟨V1, hV⟩ : ∃ V, w4.alloc (.cells #[Value.float FloatKind.f64 m.lo, Value.float FloatKind.f64 m.hi] 24) = V := ⟨_, rfl⟩
  have K0' := Lib.hid (hV ▸ Blk.alloc (Blk.below K0.out D4.out K0.out.lt) _ : Blk V1 (w.heap.size) 24 #[Value.float FloatKind.f64 A.lo, Value.float FloatKind.f64 A.hi])
  have K1' := Lib.hid (hV ▸ Blk.alloc (Blk.below K1.out D4.out K1.out.lt) _ : Blk V1 (w.heap.size + 1) 24 #[Value.float FloatKind.f64 B.lo, Value.float FloatKind.f64 B.hi])
  have K2 := Lib.hid (show Blk V1 g1 24 #[Value.float FloatKind.f64 m.lo, Value.float FloatKind.f64 m.hi] by rw [← hV, ← hg1]; exact Blk.new_at _ _ _ rfl)
  have HB' := Lib.hid (hV ▸ below_more (below_step HB.out D4.out) _ : Below w.heap.size w V1)
  clear HB HO K0 K1
  have HB := HB'
  clear HB'
  have K0 := K0'
  clear K0'
  have K1 := K1'
  clear K1'
  have HO := Lib.hid (show ∀ w', Below V1.heap.size V1 w' → (Below V1.heap.size V1 w' ∧ w'.cell? ⟨w.heap.size, 0, none⟩ = some (Value.float FloatKind.f64 A.lo) ∧ w'.cell? ⟨w.heap.size, 1, none⟩ = some (Value.float FloatKind.f64 A.hi) ∧ w'.cell? ⟨w.heap.size + 1, 0, none⟩ = some (Value.float FloatKind.f64 B.lo) ∧ w'.cell? ⟨w.heap.size + 1, 1, none⟩ = some (Value.float FloatKind.f64 B.hi) ∧ w'.cell? ⟨g1, 0, none⟩ = some (Value.float FloatKind.f64 m.lo) ∧ w'.cell? ⟨g1, 1, none⟩ = some (Value.float FloatKind.f64 m.hi)) from fun w' h => ⟨h, (K0.out.below h K0.out.lt).cell 0, (K0.out.below h K0.out.lt).cell 1, (K1.out.below h K1.out.lt).cell 0, (K1.out.below h K1.out.lt).cell 1, (K2.out.below h K2.out.lt).cell 0, (K2.out.below h K2.out.lt).cell 1⟩)
  have D5 := Lib.hid (Below.refl V1.heap.size V1)
  obtain ⟨-, p0, p1, p2, p3, p4, p5⟩ := HO.out _ D5.out
  go_wp2_with fail
  clear hV hg1 q0 q1 q2 q3
  have q0 := p0
  clear p0
  have q1 := p1
  clear p1
  have q2 := p2
  clear p2
  have q3 := p3
  clear p3
  have q4 := p4
  clear p4
  have q5 := p5
  clear p5
  refine (HH.out _).mono ?_
  clear q0 q1 q2 q3 q4 q5
  rintro r w6 ⟨rfl, hb⟩
  have D6 := Lib.hid (below_step D5.out hb)
  clear hb
  obtain ⟨-, q0, q1, q2, q3, q4, q5⟩ := HO.out _ D6.out
  obtain ⟨g2, hg2⟩ : ∃ g, w6.heap.size = g := ⟨_, rfl⟩
  obtain ⟨V2, hV⟩ : ∃ V, w6.alloc (.cells #[Value.float FloatKind.f64 H.lo, Value.float FloatKind.f64 H.hi] 24) = V := ⟨_, rfl⟩
  have K0' := Lib.hid (hV ▸ Blk.alloc (Blk.below K0.out D6.out K0.out.lt) _ : Blk V2 (w.heap.size) 24 #[Value.float FloatKind.f64 A.lo, Value.float FloatKind.f64 A.hi])
  have K1' := Lib.hid (hV ▸ Blk.alloc (Blk.below K1.out D6.out K1.out.lt) _ : Blk V2 (w.heap.size + 1) 24 #[Value.float FloatKind.f64 B.lo, Value.float FloatKind.f64 B.hi])
  have K2' := Lib.hid (hV ▸ Blk.alloc (Blk.below K2.out D6.out K2.out.lt) _ : Blk V2 (g1) 24 #[Value.float FloatKind.f64 m.lo, Value.float FloatKind.f64 m.hi])
  have K3 := Lib.hid (show Blk V2 g2 24 #[Value.float FloatKind.f64 H.lo, Value.float FloatKind.f64 H.hi] by rw [← hV, ← hg2]; exact Blk.new_at _ _ _ rfl)
  have HB' := Lib.hid (hV ▸ below_more (below_step HB.out D6.out) _ : Below w.heap.size w V2)
  clear HB HO K0 K1 K2
  have HB := HB'
  clear HB'
  have K0 := K0'
  clear K0'
  have K1 := K1'
  clear K1'
  have K2 := K2'
  clear K2'
  have HO := Lib.hid (show ∀ w', Below V2.heap.size V2 w' → (Below V2.heap.size V2 w' ∧ w'.cell? ⟨w.heap.size, 0, none⟩ = some (Value.float FloatKind.f64 A.lo) ∧ w'.cell? ⟨w.heap.size, 1, none⟩ = some (Value.float FloatKind.f64 A.hi) ∧ w'.cell? ⟨w.heap.size + 1, 0, none⟩ = some (Value.float FloatKind.f64 B.lo) ∧ w'.cell? ⟨w.heap.size + 1, 1, none⟩ = some (Value.float FloatKind.f64 B.hi) ∧ w'.cell? ⟨g1, 0, none⟩ = some (Value.float FloatKind.f64 m.lo) ∧ w'.cell? ⟨g1, 1, none⟩ = some (Value.float FloatKind.f64 m.hi) ∧ w'.cell? ⟨g2, 0, none⟩ = some (Value.float FloatKind.f64 H.lo) ∧ w'.cell? ⟨g2, 1, none⟩ = some (Value.float FloatKind.f64 H.hi)) from fun w' h => ⟨h, (K0.out.below h K0.out.lt).cell 0, (K0.out.below h K0.out.lt).cell 1, (K1.out.below h K1.out.lt).cell 0, (K1.out.below h K1.out.lt).cell 1, (K2.out.below h K2.out.lt).cell 0, (K2.out.below h K2.out.lt).cell 1, (K3.out.below h K3.out.lt).cell 0, (K3.out.below h K3.out.lt).cell 1⟩)
  have D7 := Lib.hid (Below.refl V2.heap.size V2)
  obtain ⟨-, p0, p1, p2, p3, p4, p5, p6, p7⟩ := HO.out _ D7.out
  go_wp2_with fail
  clear hV hg2 q0 q1 q2 q3 q4 q5
  have q0 := p0
  clear p0
  have q1 := p1
  clear p1
  have q2 := p2
  clear p2
  have q3 := p3
  clear p3
  have q4 := p4
  clear p4
  have q5 := p5
  clear p5
  have q6 := p6
  clear p6
  have q7 := p7
  clear p7
  go_wp2_with fail
  clear q0 q1 q2 q3 q4 q5 q6 q7
  refine wp_region_held (S := (fun w' => Below V2.heap.size V2 w' ∧ w'.cell? ⟨w.heap.size, 0, none⟩ = some (Value.float FloatKind.f64 A.lo) ∧ w'.cell? ⟨w.heap.size, 1, none⟩ = some (Value.float FloatKind.f64 A.hi) ∧ w'.cell? ⟨w.heap.size + 1, 0, none⟩ = some (Value.float FloatKind.f64 B.lo) ∧ w'.cell? ⟨w.heap.size + 1, 1, none⟩ = some (Value.float FloatKind.f64 B.hi) ∧ w'.cell? ⟨g1, 0, none⟩ = some (Value.float FloatKind.f64 m.lo) ∧ w'.cell? ⟨g1, 1, none⟩ = some (Value.float FloatKind.f64 m.hi) ∧ w'.cell? ⟨g2, 0, none⟩ = some (Value.float FloatKind.f64 H.lo) ∧ w'.cell? ⟨g2, 1, none⟩ = some (Value.float FloatKind.f64 H.hi))) (by kernel_rfl) ?_
  (try change wpAnyH _ _ _ _ _ _ _ (World.drew _))
  have hS0 := HO.out _ (Below.drew D7.out)
  refine wpAnyH_takeN (i := 0) (v := ?v7_0) (l' := #[true, false, false, false, false, false, false, false, false, false, false, false, false, false, false, false, false, false]) (a' := ?a7_0) rfl (by kernel_rfl) (by kernel_rfl) (by kernel_rfl) (fun _ _ _ h => h) (Or.inl ⟨by kernel_rfl, ?h7_0⟩) rfl ?p7_0 hS0 ?r7_0
  case h7_0 => (intro w hS; obtain ⟨-, s0, s1, s2, s3, s4, s5, s6, s7⟩ := hS; go_simp; try with_reducible rfl)
  case p7_0 => (go_simp; try with_reducible rfl)
  refine wpAnyH_takeN (i := 1) (v := ?v7_1) (l' := #[true, true, false, false, false, false, false, false, false, false, false, false, false, false, false, false, false, false]) (a' := ?a7_1) rfl (by kernel_rfl) (by kernel_rfl) (by kernel_rfl) (fun _ _ _ h => h) (Or.inl ⟨by kernel_rfl, ?h7_1⟩) rfl ?p7_1 hS0 ?r7_1
  case h7_1 => (intro w hS; obtain ⟨-, s0, s1, s2, s3, s4, s5, s6, s7⟩ := hS; go_simp; try with_reducible rfl)
  case p7_1 => (go_simp; try with_reducible rfl)
  refine wpAnyH_takeN (i := 8) (v := ?v7_8) (l' := #[true, true, false, false, false, false, false, false, true, false, false, false, false, false, false, false, false, false]) (a' := ?a7_8) rfl (by kernel_rfl) (by kernel_rfl) (by kernel_rfl) (fun _ _ _ h => h) (Or.inl ⟨by kernel_rfl, ?h7_8⟩) rfl ?p7_8 hS0 ?r7_8
  case h7_8 => (intro w hS; obtain ⟨-, s0, s1, s2, s3, s4, s5, s6, s7⟩ := hS; go_simp; try with_reducible rfl)
  case p7_8 => (go_simp; try with_reducible rfl)
  refine wpAnyH_takeN (i := 9) (v := ?v7_9) (l' := #[true, true, false, false, false, false, false, false, true, true, false, false, false, false, false, false, false, false]) (a' := ?a7_9) rfl (by kernel_rfl) (by kernel_rfl) (by kernel_rfl) (fun _ _ _ h => h) (Or.inl ⟨by kernel_rfl, ?h7_9⟩) rfl ?p7_9 hS0 ?r7_9
  case h7_9 => (intro w hS; obtain ⟨-, s0, s1, s2, s3, s4, s5, s6, s7⟩ := hS; go_simp; try with_reducible rfl)
  case p7_9 => (go_simp; try with_reducible rfl)
  refine wpAnyH_oneN (i := 2) (l' := #[true, true, true, false, false, false, false, false, true, true, false, false, false, false, false, false, false, false]) rfl (by kernel_rfl) (by kernel_rfl) rfl (fun K hK => ?_)
  obtain ⟨hP, s0, s1, s2, s3, s4, s5, s6, s7⟩ := hS0
  go_simp
  go_at_call 18
  refine (Ha.out _).mono ?_
  rintro r w8 ⟨rfl, hb⟩
  dsimp only
  have D8 := Lib.hid (below_step hP hb)
  clear hb
  have hS1 := HO.out _ (D8.out)
  clear hP s0 s1 s2 s3 s4 s5 s6 s7
  refine hK _ _ hS1 ?_
  clear hK K
  refine wpAnyH_takeN (i := 3) (v := ?v7_3) (l' := #[true, true, true, true, false, false, false, false, true, true, false, false, false, false, false, false, false, false]) (a' := ?a7_3) rfl (by kernel_rfl) (by kernel_rfl) (by kernel_rfl) (fun _ _ _ h => h) (Or.inl ⟨by kernel_rfl, ?h7_3⟩) rfl ?p7_3 hS1 ?r7_3
  case h7_3 => (intro w hS; obtain ⟨-, s0, s1, s2, s3, s4, s5, s6, s7⟩ := hS; go_simp; try with_reducible rfl)
  case p7_3 => (go_simp; try with_reducible rfl)
  refine wpAnyH_takeN (i := 4) (v := undef) (l' := #[true, true, true, true, true, false, false, false, true, true, false, false, false, false, false, false, false, false]) (a' := ?a7_4) rfl (by kernel_rfl) (by kernel_rfl) (by kernel_rfl) (fun _ _ _ h => h) (Or.inr ⟨by kernel_rfl, rfl⟩) rfl ?p7_4 hS1 ?_
  case p7_4 => (go_simp; try with_reducible rfl)
  refine wpAnyH_takeN (i := 5) (v := undef) (l' := #[true, true, true, true, true, true, false, false, true, true, false, false, false, false, false, false, false, false]) (a' := ?a7_5) rfl (by kernel_rfl) (by kernel_rfl) (by kernel_rfl) (fun _ _ _ h => h) (Or.inr ⟨by kernel_rfl, rfl⟩) rfl ?p7_5 hS1 ?_
  case p7_5 => (go_simp; try with_reducible rfl)
  refine wpAnyH_takeN (i := 6) (v := undef) (l' := #[true, true, true, true, true, true, true, false, true, true, false, false, false, false, false, false, false, false]) (a' := ?a7_6) rfl (by kernel_rfl) (by kernel_rfl) (by kernel_rfl) (fun _ _ _ h => h) (Or.inr ⟨by kernel_rfl, rfl⟩) rfl ?p7_6 hS1 ?_
  case p7_6 => (go_simp; try with_reducible rfl)
  refine wpAnyH_takeN (i := 7) (v := ?v7_7) (l' := #[true, true, true, true, true, true, true, true, true, true, false, false, false, false, false, false, false, false]) (a' := ?a7_7) rfl (by kernel_rfl) (by kernel_rfl) (by kernel_rfl) (fun _ _ _ h => h) (Or.inl ⟨by kernel_rfl, ?h7_7⟩) rfl ?p7_7 hS1 ?r7_7
  case h7_7 => (intro w hS; obtain ⟨-, s0, s1, s2, s3, s4, s5, s6, s7⟩ := hS; go_simp; try with_reducible rfl)
  case p7_7 => (go_simp; try with_reducible rfl)
  refine wpAnyH_oneN (i := 10) (l' := #[true, true, true, true, true, true, true, true, true, true, true, false, false, false, false, false, false, false]) rfl (by kernel_rfl) (by kernel_rfl) rfl (fun K hK => ?_)
  obtain ⟨hP, s0, s1, s2, s3, s4, s5, s6, s7⟩ := hS1
  go_simp
  go_at_call 18
  refine (Ha.out _).mono ?_
  rintro r w9 ⟨rfl, hb⟩
  dsimp only
  have D9 := Lib.hid (below_step hP hb)
  clear hb
  have hS2 := HO.out _ (D9.out)
  clear hP s0 s1 s2 s3 s4 s5 s6 s7
  refine hK _ _ hS2 ?_
  clear hK K
  refine wpAnyH_takeN (i := 11) (v := ?v7_11) (l' := #[true, true, true, true, true, true, true, true, true, true, true, true, false, false, false, false, false, false]) (a' := ?a7_11) rfl (by kernel_rfl) (by kernel_rfl) (by kernel_rfl) (fun _ _ _ h => h) (Or.inl ⟨by kernel_rfl, ?h7_11⟩) rfl ?p7_11 hS2 ?r7_11
  case h7_11 => (intro w hS; obtain ⟨-, s0, s1, s2, s3, s4, s5, s6, s7⟩ := hS; go_simp; try with_reducible rfl)
  case p7_11 => (go_simp; try with_reducible rfl)
  refine wpAnyH_takeN (i := 12) (v := ?v7_12) (l' := #[true, true, true, true, true, true, true, true, true, true, true, true, true, false, false, false, false, false]) (a' := ?a7_12) rfl (by kernel_rfl) (by kernel_rfl) (by kernel_rfl) (fun _ _ _ h => h) (Or.inl ⟨by kernel_rfl, ?h7_12⟩) rfl ?p7_12 hS2 ?r7_12
  case h7_12 => (intro w hS; obtain ⟨-, s0, s1, s2, s3, s4, s5, s6, s7⟩ := hS; go_simp; try with_reducible rfl)
  case p7_12 => (go_simp; try with_reducible rfl)
  refine wpAnyH_takeN (i := 13) (v := ?v7_13) (l' := #[true, true, true, true, true, true, true, true, true, true, true, true, true, true, false, false, false, false]) (a' := ?a7_13) rfl (by kernel_rfl) (by kernel_rfl) (by kernel_rfl) (fun _ _ _ h => h) (Or.inl ⟨by kernel_rfl, ?h7_13⟩) rfl ?p7_13 hS2 ?r7_13
  case h7_13 => (intro w hS; obtain ⟨-, s0, s1, s2, s3, s4, s5, s6, s7⟩ := hS; go_simp; try with_reducible rfl)
  case p7_13 => (go_simp; try with_reducible rfl)
  refine wpAnyH_oneN (i := 14) (l' := #[true, true, true, true, true, true, true, true, true, true, true, true, true, true, true, false, false, false]) rfl (by kernel_rfl) (by kernel_rfl) rfl (fun K hK => ?_)
  obtain ⟨hP, s0, s1, s2, s3, s4, s5, s6, s7⟩ := hS2
  go_simp
  go_at_call 18
  refine (Hb.out _).mono ?_
  rintro r w10 ⟨rfl, hb⟩
  dsimp only
  have D10 := Lib.hid (below_step hP hb)
  clear hb
  have hS3 := HO.out _ (D10.out)
  clear hP s0 s1 s2 s3 s4 s5 s6 s7
  refine hK _ _ hS3 ?_
  clear hK K
  refine wpAnyH_takeN (i := 15) (v := ?v7_15) (l' := #[true, true, true, true, true, true, true, true, true, true, true, true, true, true, true, true, false, false]) (a' := ?a7_15) rfl (by kernel_rfl) (by kernel_rfl) (by kernel_rfl) (fun _ _ _ h => h) (Or.inl ⟨by kernel_rfl, ?h7_15⟩) rfl ?p7_15 hS3 ?r7_15
  case h7_15 => (intro w hS; obtain ⟨-, s0, s1, s2, s3, s4, s5, s6, s7⟩ := hS; go_simp; try with_reducible rfl)
  case p7_15 => (go_simp; try with_reducible rfl)
  refine wpAnyH_takeN (i := 16) (v := ?v7_16) (l' := #[true, true, true, true, true, true, true, true, true, true, true, true, true, true, true, true, true, false]) (a' := ?a7_16) rfl (by kernel_rfl) (by kernel_rfl) (by kernel_rfl) (fun _ _ _ h => h) (Or.inl ⟨by kernel_rfl, ?h7_16⟩) rfl ?p7_16 hS3 ?r7_16
  case h7_16 => (intro w hS; obtain ⟨-, s0, s1, s2, s3, s4, s5, s6, s7⟩ := hS; go_simp; try with_reducible rfl)
  case p7_16 => (go_simp; try with_reducible rfl)
  refine wpAnyH_takeN (i := 17) (v := ?v7_17) (l' := #[true, true, true, true, true, true, true, true, true, true, true, true, true, true, true, true, true, true]) (a' := ?a7_17) rfl (by kernel_rfl) (by kernel_rfl) (by kernel_rfl) (fun _ _ _ h => h) (Or.inl ⟨by kernel_rfl, ?h7_17⟩) rfl ?p7_17 hS3 ?r7_17
  case h7_17 => (intro w hS; obtain ⟨-, s0, s1, s2, s3, s4, s5, s6, s7⟩ := hS; go_simp; try with_reducible rfl)
  case p7_17 => (go_simp; try with_reducible rfl)
  refine wpAnyH_done (by kernel_rfl) ?_ _
  clear hS3
  obtain ⟨-, q0, q1, q2, q3, q4, q5, q6, q7⟩ := HO.out _ D10.out
  go_wp2_with fail
  refine (Hm.out _).mono ?_
  clear q0 q1 q2 q3 q4 q5 q6 q7
  rintro r w11 ⟨rfl, hb⟩
  have D11 := Lib.hid (below_step D10.out hb)
  clear hb
  obtain ⟨-, q0, q1, q2, q3, q4, q5, q6, q7⟩ := HO.out _ D11.out
  go_wp2_with fail
  refine (Hh.out _).mono ?_
  clear q0 q1 q2 q3 q4 q5 q6 q7
  rintro r w12 ⟨rfl, hb⟩
  have D12 := Lib.hid (below_step D11.out hb)
  clear hb
  obtain ⟨-, q0, q1, q2, q3, q4, q5, q6, q7⟩ := HO.out _ D12.out
  go_wp2_with fail
  go_ret
  exact ⟨rfl, below_step HB.out D12.out⟩
set_option maxRecDepth 100000 in
set_option maxHeartbeats 2000000 in
theorem meets_y10 (A B H : Sp) (m : Sp) (x : Nat) (ea : hasB A x = true) (eb : hasB B x = false) (em : hasB m x = false) (eh : hasB H x = true) (HM : ∀ w, Calls Try.prog 16 #[.agg #[.float .f64 A.lo, .float .f64 A.hi], .agg #[.float .f64 B.lo, .float .f64 B.hi]] w fun r w' => r = .returned (.tuple #[.agg #[.float .f64 m.lo, .float .f64 m.hi], .bool true]) ∧ Below w.heap.size w w') (HH : ∀ w, Calls Try.prog 17 #[.agg #[.float .f64 A.lo, .float .f64 A.hi], .agg #[.float .f64 B.lo, .float .f64 B.hi]] w fun r w' => r = .returned (.agg #[.float .f64 H.lo, .float .f64 H.hi]) ∧ Below w.heap.size w w') (w : World) : Calls Try.prog 3 #[.agg #[.float .f64 A.lo, .float .f64 A.hi], .agg #[.float .f64 B.lo, .float .f64 B.hi], .float .f64 x] w fun r w' => r = .returned (.bool true) ∧ Below w.heap.size w w' := by
  have H0 := Lib.hid awake2
  have H1 := Lib.hid (fun w => rvalid_any A.lo A.hi A.vd.l.lt A.vd.h.lt w)
  have H2 := Lib.hid (fun w => rvalid_any B.lo B.hi B.vd.l.lt B.vd.h.lt w)
  rw [vdB_of A.vd] at H1
  rw [vdB_of B.vd] at H2
  have HM := Lib.hid HM
  have HH := Lib.hid HH
  have Ha := Lib.hid (fun w => has_sp A x w)
  have Hb := Lib.hid (fun w => has_sp B x w)
  rw [ea] at Ha
  rw [eb] at Hb
  have Hm := Lib.hid (fun w => has_sp m x w)
  rw [em] at Hm
  clear em
  have Hh := Lib.hid (fun w => has_sp H x w)
  rw [eh] at Hh
  clear eh
  clear ea eb
  go_enter Try.func3, Try.ntmps3
  go_wp2_with fail
  obtain ⟨W, hW, K0, K1, hB, hz⟩ := bx2 w 24 24 #[Value.float FloatKind.f64 A.lo, Value.float FloatKind.f64 A.hi] #[Value.float FloatKind.f64 B.lo, Value.float FloatKind.f64 B.hi]
  rw [← hW]
  have K0 := Lib.hid K0
  have K1 := Lib.hid K1
  have HB := Lib.hid hB
  clear hW hB hz
  have HO := Lib.hid (show ∀ w', Below W.heap.size W w' → (Below W.heap.size W w' ∧ w'.cell? ⟨w.heap.size, 0, none⟩ = some (Value.float FloatKind.f64 A.lo) ∧ w'.cell? ⟨w.heap.size, 1, none⟩ = some (Value.float FloatKind.f64 A.hi) ∧ w'.cell? ⟨w.heap.size + 1, 0, none⟩ = some (Value.float FloatKind.f64 B.lo) ∧ w'.cell? ⟨w.heap.size + 1, 1, none⟩ = some (Value.float FloatKind.f64 B.hi)) from fun w' h => ⟨h, (K0.out.below h K0.out.lt).cell 0, (K0.out.below h K0.out.lt).cell 1, (K1.out.below h K1.out.lt).cell 0, (K1.out.below h K1.out.lt).cell 1⟩)
  have D0 := Lib.hid (Below.refl W.heap.size W)
  refine (H0.out _).mono ?_
  rintro r w1 ⟨rfl, hb⟩
  have D1 := Lib.hid (below_step D0.out hb)
  clear hb
  obtain ⟨-, q0, q1, q2, q3⟩ := HO.out _ D1.out
  go_wp2_with fail
  refine (H1.out _).mono ?_
  clear q0 q1 q2 q3
  rintro r w2 ⟨rfl, hb⟩
  have D2 := Lib.hid (below_step D1.out hb)
  clear hb
  obtain ⟨-, q0, q1, q2, q3⟩ := HO.out _ D2.out
  go_wp2_with fail
  refine (H2.out _).mono ?_
  clear q0 q1 q2 q3
  rintro r w3 ⟨rfl, hb⟩
  have D3 := Lib.hid (below_step D2.out hb)
  clear hb
  obtain ⟨-, q0, q1, q2, q3⟩ := HO.out _ D3.out
  go_wp2_with fail
  refine (HM.out _).mono ?_
  clear q0 q1 q2 q3
  rintro r w4 ⟨rfl, hb⟩
  have D4 := Lib.hid (below_step D3.out hb)
  clear hb
  obtain ⟨-, q0, q1, q2, q3⟩ := HO.out _ D4.out
  obtain ⟨g1, hg1⟩ : ∃ g, w4.heap.size = g := ⟨_, rfl⟩
  obtain ⟨V1, hV⟩ : ∃ V, w4.alloc (.cells #[Value.float FloatKind.f64 m.lo, Value.float FloatKind.f64 m.hi] 24) = V := ⟨_, rfl⟩
  have K0' := Lib.hid (hV ▸ Blk.alloc (Blk.below K0.out D4.out K0.out.lt) _ : Blk V1 (w.heap.size) 24 #[Value.float FloatKind.f64 A.lo, Value.float FloatKind.f64 A.hi])
  have K1' := Lib.hid (hV ▸ Blk.alloc (Blk.below K1.out D4.out K1.out.lt) _ : Blk V1 (w.heap.size + 1) 24 #[Value.float FloatKind.f64 B.lo, Value.float FloatKind.f64 B.hi])
  have K2 := Lib.hid (show Blk V1 g1 24 #[Value.float FloatKind.f64 m.lo, Value.float FloatKind.f64 m.hi] by rw [← hV, ← hg1]; exact Blk.new_at _ _ _ rfl)
  have HB' := Lib.hid (hV ▸ below_more (below_step HB.out D4.out) _ : Below w.heap.size w V1)
  clear HB HO K0 K1
  have HB := HB'
  clear HB'
  have K0 := K0'
  clear K0'
  have K1 := K1'
  clear K1'
  have HO := Lib.hid (show ∀ w', Below V1.heap.size V1 w' → (Below V1.heap.size V1 w' ∧ w'.cell? ⟨w.heap.size, 0, none⟩ = some (Value.float FloatKind.f64 A.lo) ∧ w'.cell? ⟨w.heap.size, 1, none⟩ = some (Value.float FloatKind.f64 A.hi) ∧ w'.cell? ⟨w.heap.size + 1, 0, none⟩ = some (Value.float FloatKind.f64 B.lo) ∧ w'.cell? ⟨w.heap.size + 1, 1, none⟩ = some (Value.float FloatKind.f64 B.hi) ∧ w'.cell? ⟨g1, 0, none⟩ = some (Value.float FloatKind.f64 m.lo) ∧ w'.cell? ⟨g1, 1, none⟩ = some (Value.float FloatKind.f64 m.hi)) from fun w' h => ⟨h, (K0.out.below h K0.out.lt).cell 0, (K0.out.below h K0.out.lt).cell 1, (K1.out.below h K1.out.lt).cell 0, (K1.out.below h K1.out.lt).cell 1, (K2.out.below h K2.out.lt).cell 0, (K2.out.below h K2.out.lt).cell 1⟩)
  have D5 := Lib.hid (Below.refl V1.heap.size V1)
  obtain ⟨-, p0, p1, p2, p3, p4, p5⟩ := HO.out _ D5.out
  go_wp2_with fail
  clear hV hg1 q0 q1 q2 q3
  have q0 := p0
  clear p0
  have q1 := p1
  clear p1
  have q2 := p2
  clear p2
  have q3 := p3
  clear p3
  have q4 := p4
  clear p4
  have q5 := p5
  clear p5
  refine (HH.out _).mono ?_
  clear q0 q1 q2 q3 q4 q5
  rintro r w6 ⟨rfl, hb⟩
  have D6 := Lib.hid (below_step D5.out hb)
  clear hb
  obtain ⟨-, q0, q1, q2, q3, q4, q5⟩ := HO.out _ D6.out
  obtain ⟨g2, hg2⟩ : ∃ g, w6.heap.size = g := ⟨_, rfl⟩
  obtain ⟨V2, hV⟩ : ∃ V, w6.alloc (.cells #[Value.float FloatKind.f64 H.lo, Value.float FloatKind.f64 H.hi] 24) = V := ⟨_, rfl⟩
  have K0' := Lib.hid (hV ▸ Blk.alloc (Blk.below K0.out D6.out K0.out.lt) _ : Blk V2 (w.heap.size) 24 #[Value.float FloatKind.f64 A.lo, Value.float FloatKind.f64 A.hi])
  have K1' := Lib.hid (hV ▸ Blk.alloc (Blk.below K1.out D6.out K1.out.lt) _ : Blk V2 (w.heap.size + 1) 24 #[Value.float FloatKind.f64 B.lo, Value.float FloatKind.f64 B.hi])
  have K2' := Lib.hid (hV ▸ Blk.alloc (Blk.below K2.out D6.out K2.out.lt) _ : Blk V2 (g1) 24 #[Value.float FloatKind.f64 m.lo, Value.float FloatKind.f64 m.hi])
  have K3 := Lib.hid (show Blk V2 g2 24 #[Value.float FloatKind.f64 H.lo, Value.float FloatKind.f64 H.hi] by rw [← hV, ← hg2]; exact Blk.new_at _ _ _ rfl)
  have HB' := Lib.hid (hV ▸ below_more (below_step HB.out D6.out) _ : Below w.heap.size w V2)
  clear HB HO K0 K1 K2
  have HB := HB'
  clear HB'
  have K0 := K0'
  clear K0'
  have K1 := K1'
  clear K1'
  have K2 := K2'
  clear K2'
  have HO := Lib.hid (show ∀ w', Below V2.heap.size V2 w' → (Below V2.heap.size V2 w' ∧ w'.cell? ⟨w.heap.size, 0, none⟩ = some (Value.float FloatKind.f64 A.lo) ∧ w'.cell? ⟨w.heap.size, 1, none⟩ = some (Value.float FloatKind.f64 A.hi) ∧ w'.cell? ⟨w.heap.size + 1, 0, none⟩ = some (Value.float FloatKind.f64 B.lo) ∧ w'.cell? ⟨w.heap.size + 1, 1, none⟩ = some (Value.float FloatKind.f64 B.hi) ∧ w'.cell? ⟨g1, 0, none⟩ = some (Value.float FloatKind.f64 m.lo) ∧ w'.cell? ⟨g1, 1, none⟩ = some (Value.float FloatKind.f64 m.hi) ∧ w'.cell? ⟨g2, 0, none⟩ = some (Value.float FloatKind.f64 H.lo) ∧ w'.cell? ⟨g2, 1, none⟩ = some (Value.float FloatKind.f64 H.hi)) from fun w' h => ⟨h, (K0.out.below h K0.out.lt).cell 0, (K0.out.below h K0.out.lt).cell 1, (K1.out.below h K1.out.lt).cell 0, (K1.out.below h K1.out.lt).cell 1, (K2.out.below h K2.out.lt).cell 0, (K2.out.below h K2.out.lt).cell 1, (K3.out.below h K3.out.lt).cell 0, (K3.out.below h K3.out.lt).cell 1⟩)
  have D7 := Lib.hid (Below.refl V2.heap.size V2)
  obtain ⟨-, p0, p1, p2, p3, p4, p5, p6, p7⟩ := HO.out _ D7.out
  go_wp2_with fail
  clear hV hg2 q0 q1 q2 q3 q4 q5
  have q0 := p0
  clear p0
  have q1 := p1
  clear p1
  have q2 := p2
  clear p2
  have q3 := p3
  clear p3
  have q4 := p4
  clear p4
  have q5 := p5
  clear p5
  have q6 := p6
  clear p6
  have q7 := p7
  clear p7
  go_wp2_with fail
  clear q0 q1 q2 q3 q4 q5 q6 q7
  refine wp_region_held (S := (fun w' => Below V2.heap.size V2 w' ∧ w'.cell? ⟨w.heap.size, 0, none⟩ = some (Value.float FloatKind.f64 A.lo) ∧ w'.cell? ⟨w.heap.size, 1, none⟩ = some (Value.float FloatKind.f64 A.hi) ∧ w'.cell? ⟨w.heap.size + 1, 0, none⟩ = some (Value.float FloatKind.f64 B.lo) ∧ w'.cell? ⟨w.heap.size + 1, 1, none⟩ = some (Value.float FloatKind.f64 B.hi) ∧ w'.cell? ⟨g1, 0, none⟩ = some (Value.float FloatKind.f64 m.lo) ∧ w'.cell? ⟨g1, 1, none⟩ = some (Value.float FloatKind.f64 m.hi) ∧ w'.cell? ⟨g2, 0, none⟩ = some (Value.float FloatKind.f64 H.lo) ∧ w'.cell? ⟨g2, 1, none⟩ = some (Value.float FloatKind.f64 H.hi))) (by kernel_rfl) ?_
  (try change wpAnyH _ _ _ _ _ _ _ (World.drew _))
  have hS0 := HO.out _ (Below.drew D7.out)
  refine wpAnyH_takeN (i := 0) (v := ?v7_0) (l' := #[true, false, false, false, false, false, false, false, false, false, false, false, false, false, false, false, false, false]) (a' := ?a7_0) rfl (by kernel_rfl) (by kernel_rfl) (by kernel_rfl) (fun _ _ _ h => h) (Or.inl ⟨by kernel_rfl, ?h7_0⟩) rfl ?p7_0 hS0 ?r7_0
  case h7_0 => (intro w hS; obtain ⟨-, s0, s1, s2, s3, s4, s5, s6, s7⟩ := hS; go_simp; try with_reducible rfl)
  case p7_0 => (go_simp; try with_reducible rfl)
  refine wpAnyH_takeN (i := 1) (v := ?v7_1) (l' := #[true, true, false, false, false, false, false, false, false, false, false, false, false, false, false, false, false, false]) (a' := ?a7_1) rfl (by kernel_rfl) (by kernel_rfl) (by kernel_rfl) (fun _ _ _ h => h) (Or.inl ⟨by kernel_rfl, ?h7_1⟩) rfl ?p7_1 hS0 ?r7_1
  case h7_1 => (intro w hS; obtain ⟨-, s0, s1, s2, s3, s4, s5, s6, s7⟩ := hS; go_simp; try with_reducible rfl)
  case p7_1 => (go_simp; try with_reducible rfl)
  refine wpAnyH_takeN (i := 8) (v := ?v7_8) (l' := #[true, true, false, false, false, false, false, false, true, false, false, false, false, false, false, false, false, false]) (a' := ?a7_8) rfl (by kernel_rfl) (by kernel_rfl) (by kernel_rfl) (fun _ _ _ h => h) (Or.inl ⟨by kernel_rfl, ?h7_8⟩) rfl ?p7_8 hS0 ?r7_8
  case h7_8 => (intro w hS; obtain ⟨-, s0, s1, s2, s3, s4, s5, s6, s7⟩ := hS; go_simp; try with_reducible rfl)
  case p7_8 => (go_simp; try with_reducible rfl)
  refine wpAnyH_takeN (i := 9) (v := ?v7_9) (l' := #[true, true, false, false, false, false, false, false, true, true, false, false, false, false, false, false, false, false]) (a' := ?a7_9) rfl (by kernel_rfl) (by kernel_rfl) (by kernel_rfl) (fun _ _ _ h => h) (Or.inl ⟨by kernel_rfl, ?h7_9⟩) rfl ?p7_9 hS0 ?r7_9
  case h7_9 => (intro w hS; obtain ⟨-, s0, s1, s2, s3, s4, s5, s6, s7⟩ := hS; go_simp; try with_reducible rfl)
  case p7_9 => (go_simp; try with_reducible rfl)
  refine wpAnyH_oneN (i := 2) (l' := #[true, true, true, false, false, false, false, false, true, true, false, false, false, false, false, false, false, false]) rfl (by kernel_rfl) (by kernel_rfl) rfl (fun K hK => ?_)
  obtain ⟨hP, s0, s1, s2, s3, s4, s5, s6, s7⟩ := hS0
  go_simp
  go_at_call 18
  refine (Ha.out _).mono ?_
  rintro r w8 ⟨rfl, hb⟩
  dsimp only
  have D8 := Lib.hid (below_step hP hb)
  clear hb
  have hS1 := HO.out _ (D8.out)
  clear hP s0 s1 s2 s3 s4 s5 s6 s7
  refine hK _ _ hS1 ?_
  clear hK K
  refine wpAnyH_takeN (i := 3) (v := ?v7_3) (l' := #[true, true, true, true, false, false, false, false, true, true, false, false, false, false, false, false, false, false]) (a' := ?a7_3) rfl (by kernel_rfl) (by kernel_rfl) (by kernel_rfl) (fun _ _ _ h => h) (Or.inl ⟨by kernel_rfl, ?h7_3⟩) rfl ?p7_3 hS1 ?r7_3
  case h7_3 => (intro w hS; obtain ⟨-, s0, s1, s2, s3, s4, s5, s6, s7⟩ := hS; go_simp; try with_reducible rfl)
  case p7_3 => (go_simp; try with_reducible rfl)
  refine wpAnyH_takeN (i := 4) (v := ?v7_4) (l' := #[true, true, true, true, true, false, false, false, true, true, false, false, false, false, false, false, false, false]) (a' := ?a7_4) rfl (by kernel_rfl) (by kernel_rfl) (by kernel_rfl) (fun _ _ _ h => h) (Or.inl ⟨by kernel_rfl, ?h7_4⟩) rfl ?p7_4 hS1 ?r7_4
  case h7_4 => (intro w hS; obtain ⟨-, s0, s1, s2, s3, s4, s5, s6, s7⟩ := hS; go_simp; try with_reducible rfl)
  case p7_4 => (go_simp; try with_reducible rfl)
  refine wpAnyH_takeN (i := 5) (v := ?v7_5) (l' := #[true, true, true, true, true, true, false, false, true, true, false, false, false, false, false, false, false, false]) (a' := ?a7_5) rfl (by kernel_rfl) (by kernel_rfl) (by kernel_rfl) (fun _ _ _ h => h) (Or.inl ⟨by kernel_rfl, ?h7_5⟩) rfl ?p7_5 hS1 ?r7_5
  case h7_5 => (intro w hS; obtain ⟨-, s0, s1, s2, s3, s4, s5, s6, s7⟩ := hS; go_simp; try with_reducible rfl)
  case p7_5 => (go_simp; try with_reducible rfl)
  refine wpAnyH_oneN (i := 6) (l' := #[true, true, true, true, true, true, true, false, true, true, false, false, false, false, false, false, false, false]) rfl (by kernel_rfl) (by kernel_rfl) rfl (fun K hK => ?_)
  obtain ⟨hP, s0, s1, s2, s3, s4, s5, s6, s7⟩ := hS1
  go_simp
  go_at_call 18
  refine (Hb.out _).mono ?_
  rintro r w9 ⟨rfl, hb⟩
  dsimp only
  have D9 := Lib.hid (below_step hP hb)
  clear hb
  have hS2 := HO.out _ (D9.out)
  clear hP s0 s1 s2 s3 s4 s5 s6 s7
  refine hK _ _ hS2 ?_
  clear hK K
  refine wpAnyH_takeN (i := 7) (v := ?v7_7) (l' := #[true, true, true, true, true, true, true, true, true, true, false, false, false, false, false, false, false, false]) (a' := ?a7_7) rfl (by kernel_rfl) (by kernel_rfl) (by kernel_rfl) (fun _ _ _ h => h) (Or.inl ⟨by kernel_rfl, ?h7_7⟩) rfl ?p7_7 hS2 ?r7_7
  case h7_7 => (intro w hS; obtain ⟨-, s0, s1, s2, s3, s4, s5, s6, s7⟩ := hS; go_simp; try with_reducible rfl)
  case p7_7 => (go_simp; try with_reducible rfl)
  refine wpAnyH_oneN (i := 10) (l' := #[true, true, true, true, true, true, true, true, true, true, true, false, false, false, false, false, false, false]) rfl (by kernel_rfl) (by kernel_rfl) rfl (fun K hK => ?_)
  obtain ⟨hP, s0, s1, s2, s3, s4, s5, s6, s7⟩ := hS2
  go_simp
  go_at_call 18
  refine (Ha.out _).mono ?_
  rintro r w10 ⟨rfl, hb⟩
  dsimp only
  have D10 := Lib.hid (below_step hP hb)
  clear hb
  have hS3 := HO.out _ (D10.out)
  clear hP s0 s1 s2 s3 s4 s5 s6 s7
  refine hK _ _ hS3 ?_
  clear hK K
  refine wpAnyH_takeN (i := 11) (v := ?v7_11) (l' := #[true, true, true, true, true, true, true, true, true, true, true, true, false, false, false, false, false, false]) (a' := ?a7_11) rfl (by kernel_rfl) (by kernel_rfl) (by kernel_rfl) (fun _ _ _ h => h) (Or.inl ⟨by kernel_rfl, ?h7_11⟩) rfl ?p7_11 hS3 ?r7_11
  case h7_11 => (intro w hS; obtain ⟨-, s0, s1, s2, s3, s4, s5, s6, s7⟩ := hS; go_simp; try with_reducible rfl)
  case p7_11 => (go_simp; try with_reducible rfl)
  refine wpAnyH_takeN (i := 12) (v := undef) (l' := #[true, true, true, true, true, true, true, true, true, true, true, true, true, false, false, false, false, false]) (a' := ?a7_12) rfl (by kernel_rfl) (by kernel_rfl) (by kernel_rfl) (fun _ _ _ h => h) (Or.inr ⟨by kernel_rfl, rfl⟩) rfl ?p7_12 hS3 ?_
  case p7_12 => (go_simp; try with_reducible rfl)
  refine wpAnyH_takeN (i := 13) (v := undef) (l' := #[true, true, true, true, true, true, true, true, true, true, true, true, true, true, false, false, false, false]) (a' := ?a7_13) rfl (by kernel_rfl) (by kernel_rfl) (by kernel_rfl) (fun _ _ _ h => h) (Or.inr ⟨by kernel_rfl, rfl⟩) rfl ?p7_13 hS3 ?_
  case p7_13 => (go_simp; try with_reducible rfl)
  refine wpAnyH_takeN (i := 14) (v := undef) (l' := #[true, true, true, true, true, true, true, true, true, true, true, true, true, true, true, false, false, false]) (a' := ?a7_14) rfl (by kernel_rfl) (by kernel_rfl) (by kernel_rfl) (fun _ _ _ h => h) (Or.inr ⟨by kernel_rfl, rfl⟩) rfl ?p7_14 hS3 ?_
  case p7_14 => (go_simp; try with_reducible rfl)
  refine wpAnyH_takeN (i := 15) (v := ?v7_15) (l' := #[true, true, true, true, true, true, true, true, true, true, true, true, true, true, true, true, false, false]) (a' := ?a7_15) rfl (by kernel_rfl) (by kernel_rfl) (by kernel_rfl) (fun _ _ _ h => h) (Or.inl ⟨by kernel_rfl, ?h7_15⟩) rfl ?p7_15 hS3 ?r7_15
  case h7_15 => (intro w hS; obtain ⟨-, s0, s1, s2, s3, s4, s5, s6, s7⟩ := hS; go_simp; try with_reducible rfl)
  case p7_15 => (go_simp; try with_reducible rfl)
  refine wpAnyH_takeN (i := 16) (v := ?v7_16) (l' := #[true, true, true, true, true, true, true, true, true, true, true, true, true, true, true, true, true, false]) (a' := ?a7_16) rfl (by kernel_rfl) (by kernel_rfl) (by kernel_rfl) (fun _ _ _ h => h) (Or.inl ⟨by kernel_rfl, ?h7_16⟩) rfl ?p7_16 hS3 ?r7_16
  case h7_16 => (intro w hS; obtain ⟨-, s0, s1, s2, s3, s4, s5, s6, s7⟩ := hS; go_simp; try with_reducible rfl)
  case p7_16 => (go_simp; try with_reducible rfl)
  refine wpAnyH_takeN (i := 17) (v := ?v7_17) (l' := #[true, true, true, true, true, true, true, true, true, true, true, true, true, true, true, true, true, true]) (a' := ?a7_17) rfl (by kernel_rfl) (by kernel_rfl) (by kernel_rfl) (fun _ _ _ h => h) (Or.inl ⟨by kernel_rfl, ?h7_17⟩) rfl ?p7_17 hS3 ?r7_17
  case h7_17 => (intro w hS; obtain ⟨-, s0, s1, s2, s3, s4, s5, s6, s7⟩ := hS; go_simp; try with_reducible rfl)
  case p7_17 => (go_simp; try with_reducible rfl)
  refine wpAnyH_done (by kernel_rfl) ?_ _
  clear hS3
  obtain ⟨-, q0, q1, q2, q3, q4, q5, q6, q7⟩ := HO.out _ D10.out
  go_wp2_with fail
  refine (Hm.out _).mono ?_
  clear q0 q1 q2 q3 q4 q5 q6 q7
  rintro r w11 ⟨rfl, hb⟩
  have D11 := Lib.hid (below_step D10.out hb)
  clear hb
  obtain ⟨-, q0, q1, q2, q3, q4, q5, q6, q7⟩ := HO.out _ D11.out
  go_wp2_with fail
  refine (Hh.out _).mono ?_
  clear q0 q1 q2 q3 q4 q5 q6 q7
  rintro r w12 ⟨rfl, hb⟩
  have D12 := Lib.hid (below_step D11.out hb)
  clear hb
  obtain ⟨-, q0, q1, q2, q3, q4, q5, q6, q7⟩ := HO.out _ D12.out
  go_wp2_with fail
  go_ret
  exact ⟨rfl, below_step HB.out D12.out⟩
set_option maxRecDepth 100000 in
set_option maxHeartbeats 2000000 in
theorem meets_y11 (A B H : Sp) (m : Sp) (x : Nat) (ea : hasB A x = true) (eb : hasB B x = true) (em : hasB m x = true) (eh : hasB H x = true) (HM : ∀ w, Calls Try.prog 16 #[.agg #[.float .f64 A.lo, .float .f64 A.hi], .agg #[.float .f64 B.lo, .float .f64 B.hi]] w fun r w' => r = .returned (.tuple #[.agg #[.float .f64 m.lo, .float .f64 m.hi], .bool true]) ∧ Below w.heap.size w w') (HH : ∀ w, Calls Try.prog 17 #[.agg #[.float .f64 A.lo, .float .f64 A.hi], .agg #[.float .f64 B.lo, .float .f64 B.hi]] w fun r w' => r = .returned (.agg #[.float .f64 H.lo, .float .f64 H.hi]) ∧ Below w.heap.size w w') (w : World) : Calls Try.prog 3 #[.agg #[.float .f64 A.lo, .float .f64 A.hi], .agg #[.float .f64 B.lo, .float .f64 B.hi], .float .f64 x] w fun r w' => r = .returned (.bool true) ∧ Below w.heap.size w w' := by
  have H0 := Lib.hid awake2
  have H1 := Lib.hid (fun w => rvalid_any A.lo A.hi A.vd.l.lt A.vd.h.lt w)
  have H2 := Lib.hid (fun w => rvalid_any B.lo B.hi B.vd.l.lt B.vd.h.lt w)
  rw [vdB_of A.vd] at H1
  rw [vdB_of B.vd] at H2
  have HM := Lib.hid HM
  have HH := Lib.hid HH
  have Ha := Lib.hid (fun w => has_sp A x w)
  have Hb := Lib.hid (fun w => has_sp B x w)
  rw [ea] at Ha
  rw [eb] at Hb
  have Hm := Lib.hid (fun w => has_sp m x w)
  rw [em] at Hm
  clear em
  have Hh := Lib.hid (fun w => has_sp H x w)
  rw [eh] at Hh
  clear eh
  clear ea eb
  go_enter Try.func3, Try.ntmps3
  go_wp2_with fail
  obtain ⟨W, hW, K0, K1, hB, hz⟩ := bx2 w 24 24 #[Value.float FloatKind.f64 A.lo, Value.float FloatKind.f64 A.hi] #[Value.float FloatKind.f64 B.lo, Value.float FloatKind.f64 B.hi]
  rw [← hW]
  have K0 := Lib.hid K0
  have K1 := Lib.hid K1
  have HB := Lib.hid hB
  clear hW hB hz
  have HO := Lib.hid (show ∀ w', Below W.heap.size W w' → (Below W.heap.size W w' ∧ w'.cell? ⟨w.heap.size, 0, none⟩ = some (Value.float FloatKind.f64 A.lo) ∧ w'.cell? ⟨w.heap.size, 1, none⟩ = some (Value.float FloatKind.f64 A.hi) ∧ w'.cell? ⟨w.heap.size + 1, 0, none⟩ = some (Value.float FloatKind.f64 B.lo) ∧ w'.cell? ⟨w.heap.size + 1, 1, none⟩ = some (Value.float FloatKind.f64 B.hi)) from fun w' h => ⟨h, (K0.out.below h K0.out.lt).cell 0, (K0.out.below h K0.out.lt).cell 1, (K1.out.below h K1.out.lt).cell 0, (K1.out.below h K1.out.lt).cell 1⟩)
  have D0 := Lib.hid (Below.refl W.heap.size W)
  refine (H0.out _).mono ?_
  rintro r w1 ⟨rfl, hb⟩
  have D1 := Lib.hid (below_step D0.out hb)
  clear hb
  obtain ⟨-, q0, q1, q2, q3⟩ := HO.out _ D1.out
  go_wp2_with fail
  refine (H1.out _).mono ?_
  clear q0 q1 q2 q3
  rintro r w2 ⟨rfl, hb⟩
  have D2 := Lib.hid (below_step D1.out hb)
  clear hb
  obtain ⟨-, q0, q1, q2, q3⟩ := HO.out _ D2.out
  go_wp2_with fail
  refine (H2.out _).mono ?_
  clear q0 q1 q2 q3
  rintro r w3 ⟨rfl, hb⟩
  have D3 := Lib.hid (below_step D2.out hb)
  clear hb
  obtain ⟨-, q0, q1, q2, q3⟩ := HO.out _ D3.out
  go_wp2_with fail
  refine (HM.out _).mono ?_
  clear q0 q1 q2 q3
  rintro r w4 ⟨rfl, hb⟩
  have D4 := Lib.hid (below_step D3.out hb)
  clear hb
  obtain ⟨-, q0, q1, q2, q3⟩ := HO.out _ D4.out
  obtain ⟨g1, hg1⟩ : ∃ g, w4.heap.size = g := ⟨_, rfl⟩
  obtain ⟨V1, hV⟩ : ∃ V, w4.alloc (.cells #[Value.float FloatKind.f64 m.lo, Value.float FloatKind.f64 m.hi] 24) = V := ⟨_, rfl⟩
  have K0' := Lib.hid (hV ▸ Blk.alloc (Blk.below K0.out D4.out K0.out.lt) _ : Blk V1 (w.heap.size) 24 #[Value.float FloatKind.f64 A.lo, Value.float FloatKind.f64 A.hi])
  have K1' := Lib.hid (hV ▸ Blk.alloc (Blk.below K1.out D4.out K1.out.lt) _ : Blk V1 (w.heap.size + 1) 24 #[Value.float FloatKind.f64 B.lo, Value.float FloatKind.f64 B.hi])
  have K2 := Lib.hid (show Blk V1 g1 24 #[Value.float FloatKind.f64 m.lo, Value.float FloatKind.f64 m.hi] by rw [← hV, ← hg1]; exact Blk.new_at _ _ _ rfl)
  have HB' := Lib.hid (hV ▸ below_more (below_step HB.out D4.out) _ : Below w.heap.size w V1)
  clear HB HO K0 K1
  have HB := HB'
  clear HB'
  have K0 := K0'
  clear K0'
  have K1 := K1'
  clear K1'
  have HO := Lib.hid (show ∀ w', Below V1.heap.size V1 w' → (Below V1.heap.size V1 w' ∧ w'.cell? ⟨w.heap.size, 0, none⟩ = some (Value.float FloatKind.f64 A.lo) ∧ w'.cell? ⟨w.heap.size, 1, none⟩ = some (Value.float FloatKind.f64 A.hi) ∧ w'.cell? ⟨w.heap.size + 1, 0, none⟩ = some (Value.float FloatKind.f64 B.lo) ∧ w'.cell? ⟨w.heap.size + 1, 1, none⟩ = some (Value.float FloatKind.f64 B.hi) ∧ w'.cell? ⟨g1, 0, none⟩ = some (Value.float FloatKind.f64 m.lo) ∧ w'.cell? ⟨g1, 1, none⟩ = some (Value.float FloatKind.f64 m.hi)) from fun w' h => ⟨h, (K0.out.below h K0.out.lt).cell 0, (K0.out.below h K0.out.lt).cell 1, (K1.out.below h K1.out.lt).cell 0, (K1.out.below h K1.out.lt).cell 1, (K2.out.below h K2.out.lt).cell 0, (K2.out.below h K2.out.lt).cell 1⟩)
  have D5 := Lib.hid (Below.refl V1.heap.size V1)
  obtain ⟨-, p0, p1, p2, p3, p4, p5⟩ := HO.out _ D5.out
  go_wp2_with fail
  clear hV hg1 q0 q1 q2 q3
  have q0 := p0
  clear p0
  have q1 := p1
  clear p1
  have q2 := p2
  clear p2
  have q3 := p3
  clear p3
  have q4 := p4
  clear p4
  have q5 := p5
  clear p5
  refine (HH.out _).mono ?_
  clear q0 q1 q2 q3 q4 q5
  rintro r w6 ⟨rfl, hb⟩
  have D6 := Lib.hid (below_step D5.out hb)
  clear hb
  obtain ⟨-, q0, q1, q2, q3, q4, q5⟩ := HO.out _ D6.out
  obtain ⟨g2, hg2⟩ : ∃ g, w6.heap.size = g := ⟨_, rfl⟩
  obtain ⟨V2, hV⟩ : ∃ V, w6.alloc (.cells #[Value.float FloatKind.f64 H.lo, Value.float FloatKind.f64 H.hi] 24) = V := ⟨_, rfl⟩
  have K0' := Lib.hid (hV ▸ Blk.alloc (Blk.below K0.out D6.out K0.out.lt) _ : Blk V2 (w.heap.size) 24 #[Value.float FloatKind.f64 A.lo, Value.float FloatKind.f64 A.hi])
  have K1' := Lib.hid (hV ▸ Blk.alloc (Blk.below K1.out D6.out K1.out.lt) _ : Blk V2 (w.heap.size + 1) 24 #[Value.float FloatKind.f64 B.lo, Value.float FloatKind.f64 B.hi])
  have K2' := Lib.hid (hV ▸ Blk.alloc (Blk.below K2.out D6.out K2.out.lt) _ : Blk V2 (g1) 24 #[Value.float FloatKind.f64 m.lo, Value.float FloatKind.f64 m.hi])
  have K3 := Lib.hid (show Blk V2 g2 24 #[Value.float FloatKind.f64 H.lo, Value.float FloatKind.f64 H.hi] by rw [← hV, ← hg2]; exact Blk.new_at _ _ _ rfl)
  have HB' := Lib.hid (hV ▸ below_more (below_step HB.out D6.out) _ : Below w.heap.size w V2)
  clear HB HO K0 K1 K2
  have HB := HB'
  clear HB'
  have K0 := K0'
  clear K0'
  have K1 := K1'
  clear K1'
  have K2 := K2'
  clear K2'
  have HO := Lib.hid (show ∀ w', Below V2.heap.size V2 w' → (Below V2.heap.size V2 w' ∧ w'.cell? ⟨w.heap.size, 0, none⟩ = some (Value.float FloatKind.f64 A.lo) ∧ w'.cell? ⟨w.heap.size, 1, none⟩ = some (Value.float FloatKind.f64 A.hi) ∧ w'.cell? ⟨w.heap.size + 1, 0, none⟩ = some (Value.float FloatKind.f64 B.lo) ∧ w'.cell? ⟨w.heap.size + 1, 1, none⟩ = some (Value.float FloatKind.f64 B.hi) ∧ w'.cell? ⟨g1, 0, none⟩ = some (Value.float FloatKind.f64 m.lo) ∧ w'.cell? ⟨g1, 1, none⟩ = some (Value.float FloatKind.f64 m.hi) ∧ w'.cell? ⟨g2, 0, none⟩ = some (Value.float FloatKind.f64 H.lo) ∧ w'.cell? ⟨g2, 1, none⟩ = some (Value.float FloatKind.f64 H.hi)) from fun w' h => ⟨h, (K0.out.below h K0.out.lt).cell 0, (K0.out.below h K0.out.lt).cell 1, (K1.out.below h K1.out.lt).cell 0, (K1.out.below h K1.out.lt).cell 1, (K2.out.below h K2.out.lt).cell 0, (K2.out.below h K2.out.lt).cell 1, (K3.out.below h K3.out.lt).cell 0, (K3.out.below h K3.out.lt).cell 1⟩)
  have D7 := Lib.hid (Below.refl V2.heap.size V2)
  obtain ⟨-, p0, p1, p2, p3, p4, p5, p6, p7⟩ := HO.out _ D7.out
  go_wp2_with fail
  clear hV hg2 q0 q1 q2 q3 q4 q5
  have q0 := p0
  clear p0
  have q1 := p1
  clear p1
  have q2 := p2
  clear p2
  have q3 := p3
  clear p3
  have q4 := p4
  clear p4
  have q5 := p5
  clear p5
  have q6 := p6
  clear p6
  have q7 := p7
  clear p7
  go_wp2_with fail
  clear q0 q1 q2 q3 q4 q5 q6 q7
  refine wp_region_held (S := (fun w' => Below V2.heap.size V2 w' ∧ w'.cell? ⟨w.heap.size, 0, none⟩ = some (Value.float FloatKind.f64 A.lo) ∧ w'.cell? ⟨w.heap.size, 1, none⟩ = some (Value.float FloatKind.f64 A.hi) ∧ w'.cell? ⟨w.heap.size + 1, 0, none⟩ = some (Value.float FloatKind.f64 B.lo) ∧ w'.cell? ⟨w.heap.size + 1, 1, none⟩ = some (Value.float FloatKind.f64 B.hi) ∧ w'.cell? ⟨g1, 0, none⟩ = some (Value.float FloatKind.f64 m.lo) ∧ w'.cell? ⟨g1, 1, none⟩ = some (Value.float FloatKind.f64 m.hi) ∧ w'.cell? ⟨g2, 0, none⟩ = some (Value.float FloatKind.f64 H.lo) ∧ w'.cell? ⟨g2, 1, none⟩ = some (Value.float FloatKind.f64 H.hi))) (by kernel_rfl) ?_
  (try change wpAnyH _ _ _ _ _ _ _ (World.drew _))
  have hS0 := HO.out _ (Below.drew D7.out)
  refine wpAnyH_takeN (i := 0) (v := ?v7_0) (l' := #[true, false, false, false, false, false, false, false, false, false, false, false, false, false, false, false, false, false]) (a' := ?a7_0) rfl (by kernel_rfl) (by kernel_rfl) (by kernel_rfl) (fun _ _ _ h => h) (Or.inl ⟨by kernel_rfl, ?h7_0⟩) rfl ?p7_0 hS0 ?r7_0
  case h7_0 => (intro w hS; obtain ⟨-, s0, s1, s2, s3, s4, s5, s6, s7⟩ := hS; go_simp; try with_reducible rfl)
  case p7_0 => (go_simp; try with_reducible rfl)
  refine wpAnyH_takeN (i := 1) (v := ?v7_1) (l' := #[true, true, false, false, false, false, false, false, false, false, false, false, false, false, false, false, false, false]) (a' := ?a7_1) rfl (by kernel_rfl) (by kernel_rfl) (by kernel_rfl) (fun _ _ _ h => h) (Or.inl ⟨by kernel_rfl, ?h7_1⟩) rfl ?p7_1 hS0 ?r7_1
  case h7_1 => (intro w hS; obtain ⟨-, s0, s1, s2, s3, s4, s5, s6, s7⟩ := hS; go_simp; try with_reducible rfl)
  case p7_1 => (go_simp; try with_reducible rfl)
  refine wpAnyH_takeN (i := 8) (v := ?v7_8) (l' := #[true, true, false, false, false, false, false, false, true, false, false, false, false, false, false, false, false, false]) (a' := ?a7_8) rfl (by kernel_rfl) (by kernel_rfl) (by kernel_rfl) (fun _ _ _ h => h) (Or.inl ⟨by kernel_rfl, ?h7_8⟩) rfl ?p7_8 hS0 ?r7_8
  case h7_8 => (intro w hS; obtain ⟨-, s0, s1, s2, s3, s4, s5, s6, s7⟩ := hS; go_simp; try with_reducible rfl)
  case p7_8 => (go_simp; try with_reducible rfl)
  refine wpAnyH_takeN (i := 9) (v := ?v7_9) (l' := #[true, true, false, false, false, false, false, false, true, true, false, false, false, false, false, false, false, false]) (a' := ?a7_9) rfl (by kernel_rfl) (by kernel_rfl) (by kernel_rfl) (fun _ _ _ h => h) (Or.inl ⟨by kernel_rfl, ?h7_9⟩) rfl ?p7_9 hS0 ?r7_9
  case h7_9 => (intro w hS; obtain ⟨-, s0, s1, s2, s3, s4, s5, s6, s7⟩ := hS; go_simp; try with_reducible rfl)
  case p7_9 => (go_simp; try with_reducible rfl)
  refine wpAnyH_oneN (i := 2) (l' := #[true, true, true, false, false, false, false, false, true, true, false, false, false, false, false, false, false, false]) rfl (by kernel_rfl) (by kernel_rfl) rfl (fun K hK => ?_)
  obtain ⟨hP, s0, s1, s2, s3, s4, s5, s6, s7⟩ := hS0
  go_simp
  go_at_call 18
  refine (Ha.out _).mono ?_
  rintro r w8 ⟨rfl, hb⟩
  dsimp only
  have D8 := Lib.hid (below_step hP hb)
  clear hb
  have hS1 := HO.out _ (D8.out)
  clear hP s0 s1 s2 s3 s4 s5 s6 s7
  refine hK _ _ hS1 ?_
  clear hK K
  refine wpAnyH_takeN (i := 3) (v := ?v7_3) (l' := #[true, true, true, true, false, false, false, false, true, true, false, false, false, false, false, false, false, false]) (a' := ?a7_3) rfl (by kernel_rfl) (by kernel_rfl) (by kernel_rfl) (fun _ _ _ h => h) (Or.inl ⟨by kernel_rfl, ?h7_3⟩) rfl ?p7_3 hS1 ?r7_3
  case h7_3 => (intro w hS; obtain ⟨-, s0, s1, s2, s3, s4, s5, s6, s7⟩ := hS; go_simp; try with_reducible rfl)
  case p7_3 => (go_simp; try with_reducible rfl)
  refine wpAnyH_takeN (i := 4) (v := ?v7_4) (l' := #[true, true, true, true, true, false, false, false, true, true, false, false, false, false, false, false, false, false]) (a' := ?a7_4) rfl (by kernel_rfl) (by kernel_rfl) (by kernel_rfl) (fun _ _ _ h => h) (Or.inl ⟨by kernel_rfl, ?h7_4⟩) rfl ?p7_4 hS1 ?r7_4
  case h7_4 => (intro w hS; obtain ⟨-, s0, s1, s2, s3, s4, s5, s6, s7⟩ := hS; go_simp; try with_reducible rfl)
  case p7_4 => (go_simp; try with_reducible rfl)
  refine wpAnyH_takeN (i := 5) (v := ?v7_5) (l' := #[true, true, true, true, true, true, false, false, true, true, false, false, false, false, false, false, false, false]) (a' := ?a7_5) rfl (by kernel_rfl) (by kernel_rfl) (by kernel_rfl) (fun _ _ _ h => h) (Or.inl ⟨by kernel_rfl, ?h7_5⟩) rfl ?p7_5 hS1 ?r7_5
  case h7_5 => (intro w hS; obtain ⟨-, s0, s1, s2, s3, s4, s5, s6, s7⟩ := hS; go_simp; try with_reducible rfl)
  case p7_5 => (go_simp; try with_reducible rfl)
  refine wpAnyH_oneN (i := 6) (l' := #[true, true, true, true, true, true, true, false, true, true, false, false, false, false, false, false, false, false]) rfl (by kernel_rfl) (by kernel_rfl) rfl (fun K hK => ?_)
  obtain ⟨hP, s0, s1, s2, s3, s4, s5, s6, s7⟩ := hS1
  go_simp
  go_at_call 18
  refine (Hb.out _).mono ?_
  rintro r w9 ⟨rfl, hb⟩
  dsimp only
  have D9 := Lib.hid (below_step hP hb)
  clear hb
  have hS2 := HO.out _ (D9.out)
  clear hP s0 s1 s2 s3 s4 s5 s6 s7
  refine hK _ _ hS2 ?_
  clear hK K
  refine wpAnyH_takeN (i := 7) (v := ?v7_7) (l' := #[true, true, true, true, true, true, true, true, true, true, false, false, false, false, false, false, false, false]) (a' := ?a7_7) rfl (by kernel_rfl) (by kernel_rfl) (by kernel_rfl) (fun _ _ _ h => h) (Or.inl ⟨by kernel_rfl, ?h7_7⟩) rfl ?p7_7 hS2 ?r7_7
  case h7_7 => (intro w hS; obtain ⟨-, s0, s1, s2, s3, s4, s5, s6, s7⟩ := hS; go_simp; try with_reducible rfl)
  case p7_7 => (go_simp; try with_reducible rfl)
  refine wpAnyH_oneN (i := 10) (l' := #[true, true, true, true, true, true, true, true, true, true, true, false, false, false, false, false, false, false]) rfl (by kernel_rfl) (by kernel_rfl) rfl (fun K hK => ?_)
  obtain ⟨hP, s0, s1, s2, s3, s4, s5, s6, s7⟩ := hS2
  go_simp
  go_at_call 18
  refine (Ha.out _).mono ?_
  rintro r w10 ⟨rfl, hb⟩
  dsimp only
  have D10 := Lib.hid (below_step hP hb)
  clear hb
  have hS3 := HO.out _ (D10.out)
  clear hP s0 s1 s2 s3 s4 s5 s6 s7
  refine hK _ _ hS3 ?_
  clear hK K
  refine wpAnyH_takeN (i := 11) (v := ?v7_11) (l' := #[true, true, true, true, true, true, true, true, true, true, true, true, false, false, false, false, false, false]) (a' := ?a7_11) rfl (by kernel_rfl) (by kernel_rfl) (by kernel_rfl) (fun _ _ _ h => h) (Or.inl ⟨by kernel_rfl, ?h7_11⟩) rfl ?p7_11 hS3 ?r7_11
  case h7_11 => (intro w hS; obtain ⟨-, s0, s1, s2, s3, s4, s5, s6, s7⟩ := hS; go_simp; try with_reducible rfl)
  case p7_11 => (go_simp; try with_reducible rfl)
  refine wpAnyH_takeN (i := 12) (v := undef) (l' := #[true, true, true, true, true, true, true, true, true, true, true, true, true, false, false, false, false, false]) (a' := ?a7_12) rfl (by kernel_rfl) (by kernel_rfl) (by kernel_rfl) (fun _ _ _ h => h) (Or.inr ⟨by kernel_rfl, rfl⟩) rfl ?p7_12 hS3 ?_
  case p7_12 => (go_simp; try with_reducible rfl)
  refine wpAnyH_takeN (i := 13) (v := undef) (l' := #[true, true, true, true, true, true, true, true, true, true, true, true, true, true, false, false, false, false]) (a' := ?a7_13) rfl (by kernel_rfl) (by kernel_rfl) (by kernel_rfl) (fun _ _ _ h => h) (Or.inr ⟨by kernel_rfl, rfl⟩) rfl ?p7_13 hS3 ?_
  case p7_13 => (go_simp; try with_reducible rfl)
  refine wpAnyH_takeN (i := 14) (v := undef) (l' := #[true, true, true, true, true, true, true, true, true, true, true, true, true, true, true, false, false, false]) (a' := ?a7_14) rfl (by kernel_rfl) (by kernel_rfl) (by kernel_rfl) (fun _ _ _ h => h) (Or.inr ⟨by kernel_rfl, rfl⟩) rfl ?p7_14 hS3 ?_
  case p7_14 => (go_simp; try with_reducible rfl)
  refine wpAnyH_takeN (i := 15) (v := ?v7_15) (l' := #[true, true, true, true, true, true, true, true, true, true, true, true, true, true, true, true, false, false]) (a' := ?a7_15) rfl (by kernel_rfl) (by kernel_rfl) (by kernel_rfl) (fun _ _ _ h => h) (Or.inl ⟨by kernel_rfl, ?h7_15⟩) rfl ?p7_15 hS3 ?r7_15
  case h7_15 => (intro w hS; obtain ⟨-, s0, s1, s2, s3, s4, s5, s6, s7⟩ := hS; go_simp; try with_reducible rfl)
  case p7_15 => (go_simp; try with_reducible rfl)
  refine wpAnyH_takeN (i := 16) (v := ?v7_16) (l' := #[true, true, true, true, true, true, true, true, true, true, true, true, true, true, true, true, true, false]) (a' := ?a7_16) rfl (by kernel_rfl) (by kernel_rfl) (by kernel_rfl) (fun _ _ _ h => h) (Or.inl ⟨by kernel_rfl, ?h7_16⟩) rfl ?p7_16 hS3 ?r7_16
  case h7_16 => (intro w hS; obtain ⟨-, s0, s1, s2, s3, s4, s5, s6, s7⟩ := hS; go_simp; try with_reducible rfl)
  case p7_16 => (go_simp; try with_reducible rfl)
  refine wpAnyH_takeN (i := 17) (v := ?v7_17) (l' := #[true, true, true, true, true, true, true, true, true, true, true, true, true, true, true, true, true, true]) (a' := ?a7_17) rfl (by kernel_rfl) (by kernel_rfl) (by kernel_rfl) (fun _ _ _ h => h) (Or.inl ⟨by kernel_rfl, ?h7_17⟩) rfl ?p7_17 hS3 ?r7_17
  case h7_17 => (intro w hS; obtain ⟨-, s0, s1, s2, s3, s4, s5, s6, s7⟩ := hS; go_simp; try with_reducible rfl)
  case p7_17 => (go_simp; try with_reducible rfl)
  refine wpAnyH_done (by kernel_rfl) ?_ _
  clear hS3
  obtain ⟨-, q0, q1, q2, q3, q4, q5, q6, q7⟩ := HO.out _ D10.out
  go_wp2_with fail
  refine (Hm.out _).mono ?_
  clear q0 q1 q2 q3 q4 q5 q6 q7
  rintro r w11 ⟨rfl, hb⟩
  have D11 := Lib.hid (below_step D10.out hb)
  clear hb
  obtain ⟨-, q0, q1, q2, q3, q4, q5, q6, q7⟩ := HO.out _ D11.out
  go_wp2_with fail
  refine (Hh.out _).mono ?_
  clear q0 q1 q2 q3 q4 q5 q6 q7
  rintro r w12 ⟨rfl, hb⟩
  have D12 := Lib.hid (below_step D11.out hb)
  clear hb
  obtain ⟨-, q0, q1, q2, q3, q4, q5, q6, q7⟩ := HO.out _ D12.out
  go_wp2_with fail
  go_ret
  exact ⟨rfl, below_step HB.out D12.out⟩
set_option maxRecDepth 100000 in
set_option maxHeartbeats 2000000 in
theorem meets_n00 (A B H : Sp) (x : Nat) (ea : hasB A x = false) (eb : hasB B x = false) (HM : ∀ w, Calls Try.prog 16 #[.agg #[.float .f64 A.lo, .float .f64 A.hi], .agg #[.float .f64 B.lo, .float .f64 B.hi]] w fun r w' => r = .returned (.tuple #[.agg #[.float .f64 0, .float .f64 0], .bool false]) ∧ Below w.heap.size w w') (HH : ∀ w, Calls Try.prog 17 #[.agg #[.float .f64 A.lo, .float .f64 A.hi], .agg #[.float .f64 B.lo, .float .f64 B.hi]] w fun r w' => r = .returned (.agg #[.float .f64 H.lo, .float .f64 H.hi]) ∧ Below w.heap.size w w') (w : World) : Calls Try.prog 3 #[.agg #[.float .f64 A.lo, .float .f64 A.hi], .agg #[.float .f64 B.lo, .float .f64 B.hi], .float .f64 x] w fun r w' => r = .returned (.bool true) ∧ Below w.heap.size w w' := by
  have H0 := Lib.hid awake2
  have H1 := Lib.hid (fun w => rvalid_any A.lo A.hi A.vd.l.lt A.vd.h.lt w)
  have H2 := Lib.hid (fun w => rvalid_any B.lo B.hi B.vd.l.lt B.vd.h.lt w)
  rw [vdB_of A.vd] at H1
  rw [vdB_of B.vd] at H2
  have HM := Lib.hid HM
  have HH := Lib.hid HH
  have Ha := Lib.hid (fun w => has_sp A x w)
  have Hb := Lib.hid (fun w => has_sp B x w)
  rw [ea] at Ha
  rw [eb] at Hb
  have zz := zero_isZW
  clear ea eb
  go_enter Try.func3, Try.ntmps3
  go_wp2_with fail
  obtain ⟨W, hW, K0, K1, hB, hz⟩ := bx2 w 24 24 #[Value.float FloatKind.f64 A.lo, Value.float FloatKind.f64 A.hi] #[Value.float FloatKind.f64 B.lo, Value.float FloatKind.f64 B.hi]
  rw [← hW]
  have K0 := Lib.hid K0
  have K1 := Lib.hid K1
  have HB := Lib.hid hB
  clear hW hB hz
  have HO := Lib.hid (show ∀ w', Below W.heap.size W w' → (Below W.heap.size W w' ∧ w'.cell? ⟨w.heap.size, 0, none⟩ = some (Value.float FloatKind.f64 A.lo) ∧ w'.cell? ⟨w.heap.size, 1, none⟩ = some (Value.float FloatKind.f64 A.hi) ∧ w'.cell? ⟨w.heap.size + 1, 0, none⟩ = some (Value.float FloatKind.f64 B.lo) ∧ w'.cell? ⟨w.heap.size + 1, 1, none⟩ = some (Value.float FloatKind.f64 B.hi)) from fun w' h => ⟨h, (K0.out.below h K0.out.lt).cell 0, (K0.out.below h K0.out.lt).cell 1, (K1.out.below h K1.out.lt).cell 0, (K1.out.below h K1.out.lt).cell 1⟩)
  have D0 := Lib.hid (Below.refl W.heap.size W)
  refine (H0.out _).mono ?_
  rintro r w1 ⟨rfl, hb⟩
  have D1 := Lib.hid (below_step D0.out hb)
  clear hb
  obtain ⟨-, q0, q1, q2, q3⟩ := HO.out _ D1.out
  go_wp2_with fail
  refine (H1.out _).mono ?_
  clear q0 q1 q2 q3
  rintro r w2 ⟨rfl, hb⟩
  have D2 := Lib.hid (below_step D1.out hb)
  clear hb
  obtain ⟨-, q0, q1, q2, q3⟩ := HO.out _ D2.out
  go_wp2_with fail
  refine (H2.out _).mono ?_
  clear q0 q1 q2 q3
  rintro r w3 ⟨rfl, hb⟩
  have D3 := Lib.hid (below_step D2.out hb)
  clear hb
  obtain ⟨-, q0, q1, q2, q3⟩ := HO.out _ D3.out
  go_wp2_with fail
  refine (HM.out _).mono ?_
  clear q0 q1 q2 q3
  rintro r w4 ⟨rfl, hb⟩
  have D4 := Lib.hid (below_step D3.out hb)
  clear hb
  obtain ⟨-, q0, q1, q2, q3⟩ := HO.out _ D4.out
  obtain ⟨g1, hg1⟩ : ∃ g, w4.heap.size = g := ⟨_, rfl⟩
  have y0 : w.heap.size < g1 := by have := (K0.out.below D4.out K0.out.lt).lt; rw [hg1] at this; exact this
  have y1 : w.heap.size + 1 < g1 := by have := (K1.out.below D4.out K1.out.lt).lt; rw [hg1] at this; exact this
  go_wp2_with fail
  obtain ⟨V1, hV⟩ : ∃ V, w4.alloc (.cells #[Value.float FloatKind.f64 0, Value.float FloatKind.f64 0] 24) = V := ⟨_, rfl⟩
  rw [hV]
  clear q0 q1 q2 q3
  have K0' := Lib.hid (hV ▸ Blk.alloc (Blk.below K0.out D4.out K0.out.lt) _ : Blk V1 (w.heap.size) 24 #[Value.float FloatKind.f64 A.lo, Value.float FloatKind.f64 A.hi])
  have K1' := Lib.hid (hV ▸ Blk.alloc (Blk.below K1.out D4.out K1.out.lt) _ : Blk V1 (w.heap.size + 1) 24 #[Value.float FloatKind.f64 B.lo, Value.float FloatKind.f64 B.hi])
  have K2 := Lib.hid (show Blk V1 g1 24 #[Value.float FloatKind.f64 0, Value.float FloatKind.f64 0] by rw [← hV, ← hg1]; exact Blk.new_at _ _ _ rfl)
  have HB' := Lib.hid (hV ▸ below_more (below_step HB.out D4.out) _ : Below w.heap.size w V1)
  clear HB HO hV hg1 K0 K1 y0 y1
  have HB := HB'
  clear HB'
  have K0 := K0'
  clear K0'
  have K1 := K1'
  clear K1'
  have HO := Lib.hid (show ∀ w', Below V1.heap.size V1 w' → (Below V1.heap.size V1 w' ∧ w'.cell? ⟨w.heap.size, 0, none⟩ = some (Value.float FloatKind.f64 A.lo) ∧ w'.cell? ⟨w.heap.size, 1, none⟩ = some (Value.float FloatKind.f64 A.hi) ∧ w'.cell? ⟨w.heap.size + 1, 0, none⟩ = some (Value.float FloatKind.f64 B.lo) ∧ w'.cell? ⟨w.heap.size + 1, 1, none⟩ = some (Value.float FloatKind.f64 B.hi) ∧ w'.cell? ⟨g1, 0, none⟩ = some (Value.float FloatKind.f64 0) ∧ w'.cell? ⟨g1, 1, none⟩ = some (Value.float FloatKind.f64 0)) from fun w' h => ⟨h, (K0.out.below h K0.out.lt).cell 0, (K0.out.below h K0.out.lt).cell 1, (K1.out.below h K1.out.lt).cell 0, (K1.out.below h K1.out.lt).cell 1, (K2.out.below h K2.out.lt).cell 0, (K2.out.below h K2.out.lt).cell 1⟩)
  have D5 := Lib.hid (Below.refl V1.heap.size V1)
  obtain ⟨-, q0, q1, q2, q3, q4, q5⟩ := HO.out _ D5.out
  refine (HH.out _).mono ?_
  clear q0 q1 q2 q3 q4 q5
  rintro r w6 ⟨rfl, hb⟩
  have D6 := Lib.hid (below_step D5.out hb)
  clear hb
  obtain ⟨-, q0, q1, q2, q3, q4, q5⟩ := HO.out _ D6.out
  obtain ⟨g2, hg2⟩ : ∃ g, w6.heap.size = g := ⟨_, rfl⟩
  obtain ⟨V2, hV⟩ : ∃ V, w6.alloc (.cells #[Value.float FloatKind.f64 H.lo, Value.float FloatKind.f64 H.hi] 24) = V := ⟨_, rfl⟩
  have K0' := Lib.hid (hV ▸ Blk.alloc (Blk.below K0.out D6.out K0.out.lt) _ : Blk V2 (w.heap.size) 24 #[Value.float FloatKind.f64 A.lo, Value.float FloatKind.f64 A.hi])
  have K1' := Lib.hid (hV ▸ Blk.alloc (Blk.below K1.out D6.out K1.out.lt) _ : Blk V2 (w.heap.size + 1) 24 #[Value.float FloatKind.f64 B.lo, Value.float FloatKind.f64 B.hi])
  have K2' := Lib.hid (hV ▸ Blk.alloc (Blk.below K2.out D6.out K2.out.lt) _ : Blk V2 (g1) 24 #[Value.float FloatKind.f64 0, Value.float FloatKind.f64 0])
  have K3 := Lib.hid (show Blk V2 g2 24 #[Value.float FloatKind.f64 H.lo, Value.float FloatKind.f64 H.hi] by rw [← hV, ← hg2]; exact Blk.new_at _ _ _ rfl)
  have HB' := Lib.hid (hV ▸ below_more (below_step HB.out D6.out) _ : Below w.heap.size w V2)
  clear HB HO K0 K1 K2
  have HB := HB'
  clear HB'
  have K0 := K0'
  clear K0'
  have K1 := K1'
  clear K1'
  have K2 := K2'
  clear K2'
  have HO := Lib.hid (show ∀ w', Below V2.heap.size V2 w' → (Below V2.heap.size V2 w' ∧ w'.cell? ⟨w.heap.size, 0, none⟩ = some (Value.float FloatKind.f64 A.lo) ∧ w'.cell? ⟨w.heap.size, 1, none⟩ = some (Value.float FloatKind.f64 A.hi) ∧ w'.cell? ⟨w.heap.size + 1, 0, none⟩ = some (Value.float FloatKind.f64 B.lo) ∧ w'.cell? ⟨w.heap.size + 1, 1, none⟩ = some (Value.float FloatKind.f64 B.hi) ∧ w'.cell? ⟨g1, 0, none⟩ = some (Value.float FloatKind.f64 0) ∧ w'.cell? ⟨g1, 1, none⟩ = some (Value.float FloatKind.f64 0) ∧ w'.cell? ⟨g2, 0, none⟩ = some (Value.float FloatKind.f64 H.lo) ∧ w'.cell? ⟨g2, 1, none⟩ = some (Value.float FloatKind.f64 H.hi)) from fun w' h => ⟨h, (K0.out.below h K0.out.lt).cell 0, (K0.out.below h K0.out.lt).cell 1, (K1.out.below h K1.out.lt).cell 0, (K1.out.below h K1.out.lt).cell 1, (K2.out.below h K2.out.lt).cell 0, (K2.out.below h K2.out.lt).cell 1, (K3.out.below h K3.out.lt).cell 0, (K3.out.below h K3.out.lt).cell 1⟩)
  have D7 := Lib.hid (Below.refl V2.heap.size V2)
  obtain ⟨-, p0, p1, p2, p3, p4, p5, p6, p7⟩ := HO.out _ D7.out
  go_wp2_with fail
  clear hV hg2 q0 q1 q2 q3 q4 q5
  have q0 := p0
  clear p0
  have q1 := p1
  clear p1
  have q2 := p2
  clear p2
  have q3 := p3
  clear p3
  have q4 := p4
  clear p4
  have q5 := p5
  clear p5
  have q6 := p6
  clear p6
  have q7 := p7
  clear p7
  go_wp2_with fail
  clear q0 q1 q2 q3 q4 q5 q6 q7
  refine wp_region_held (S := (fun w' => Below V2.heap.size V2 w' ∧ w'.cell? ⟨w.heap.size, 0, none⟩ = some (Value.float FloatKind.f64 A.lo) ∧ w'.cell? ⟨w.heap.size, 1, none⟩ = some (Value.float FloatKind.f64 A.hi) ∧ w'.cell? ⟨w.heap.size + 1, 0, none⟩ = some (Value.float FloatKind.f64 B.lo) ∧ w'.cell? ⟨w.heap.size + 1, 1, none⟩ = some (Value.float FloatKind.f64 B.hi) ∧ w'.cell? ⟨g1, 0, none⟩ = some (Value.float FloatKind.f64 0) ∧ w'.cell? ⟨g1, 1, none⟩ = some (Value.float FloatKind.f64 0) ∧ w'.cell? ⟨g2, 0, none⟩ = some (Value.float FloatKind.f64 H.lo) ∧ w'.cell? ⟨g2, 1, none⟩ = some (Value.float FloatKind.f64 H.hi))) (by kernel_rfl) ?_
  (try change wpAnyH _ _ _ _ _ _ _ (World.drew _))
  have hS0 := HO.out _ (Below.drew D7.out)
  refine wpAnyH_takeN (i := 0) (v := ?v7_0) (l' := #[true, false, false, false, false, false, false, false, false, false, false, false, false, false, false, false, false, false]) (a' := ?a7_0) rfl (by kernel_rfl) (by kernel_rfl) (by kernel_rfl) (fun _ _ _ h => h) (Or.inl ⟨by kernel_rfl, ?h7_0⟩) rfl ?p7_0 hS0 ?r7_0
  case h7_0 => (intro w hS; obtain ⟨-, s0, s1, s2, s3, s4, s5, s6, s7⟩ := hS; go_simp; try with_reducible rfl)
  case p7_0 => (go_simp; try with_reducible rfl)
  refine wpAnyH_takeN (i := 1) (v := ?v7_1) (l' := #[true, true, false, false, false, false, false, false, false, false, false, false, false, false, false, false, false, false]) (a' := ?a7_1) rfl (by kernel_rfl) (by kernel_rfl) (by kernel_rfl) (fun _ _ _ h => h) (Or.inl ⟨by kernel_rfl, ?h7_1⟩) rfl ?p7_1 hS0 ?r7_1
  case h7_1 => (intro w hS; obtain ⟨-, s0, s1, s2, s3, s4, s5, s6, s7⟩ := hS; go_simp; try with_reducible rfl)
  case p7_1 => (go_simp; try with_reducible rfl)
  refine wpAnyH_takeN (i := 8) (v := ?v7_8) (l' := #[true, true, false, false, false, false, false, false, true, false, false, false, false, false, false, false, false, false]) (a' := ?a7_8) rfl (by kernel_rfl) (by kernel_rfl) (by kernel_rfl) (fun _ _ _ h => h) (Or.inl ⟨by kernel_rfl, ?h7_8⟩) rfl ?p7_8 hS0 ?r7_8
  case h7_8 => (intro w hS; obtain ⟨-, s0, s1, s2, s3, s4, s5, s6, s7⟩ := hS; go_simp; try with_reducible rfl)
  case p7_8 => (go_simp; try with_reducible rfl)
  refine wpAnyH_takeN (i := 9) (v := ?v7_9) (l' := #[true, true, false, false, false, false, false, false, true, true, false, false, false, false, false, false, false, false]) (a' := ?a7_9) rfl (by kernel_rfl) (by kernel_rfl) (by kernel_rfl) (fun _ _ _ h => h) (Or.inl ⟨by kernel_rfl, ?h7_9⟩) rfl ?p7_9 hS0 ?r7_9
  case h7_9 => (intro w hS; obtain ⟨-, s0, s1, s2, s3, s4, s5, s6, s7⟩ := hS; go_simp; try with_reducible rfl)
  case p7_9 => (go_simp; try with_reducible rfl)
  refine wpAnyH_oneN (i := 2) (l' := #[true, true, true, false, false, false, false, false, true, true, false, false, false, false, false, false, false, false]) rfl (by kernel_rfl) (by kernel_rfl) rfl (fun K hK => ?_)
  obtain ⟨hP, s0, s1, s2, s3, s4, s5, s6, s7⟩ := hS0
  go_simp
  go_at_call 18
  refine (Ha.out _).mono ?_
  rintro r w8 ⟨rfl, hb⟩
  dsimp only
  have D8 := Lib.hid (below_step hP hb)
  clear hb
  have hS1 := HO.out _ (D8.out)
  clear hP s0 s1 s2 s3 s4 s5 s6 s7
  refine hK _ _ hS1 ?_
  clear hK K
  refine wpAnyH_takeN (i := 3) (v := ?v7_3) (l' := #[true, true, true, true, false, false, false, false, true, true, false, false, false, false, false, false, false, false]) (a' := ?a7_3) rfl (by kernel_rfl) (by kernel_rfl) (by kernel_rfl) (fun _ _ _ h => h) (Or.inl ⟨by kernel_rfl, ?h7_3⟩) rfl ?p7_3 hS1 ?r7_3
  case h7_3 => (intro w hS; obtain ⟨-, s0, s1, s2, s3, s4, s5, s6, s7⟩ := hS; go_simp; try with_reducible rfl)
  case p7_3 => (go_simp; try with_reducible rfl)
  refine wpAnyH_takeN (i := 4) (v := undef) (l' := #[true, true, true, true, true, false, false, false, true, true, false, false, false, false, false, false, false, false]) (a' := ?a7_4) rfl (by kernel_rfl) (by kernel_rfl) (by kernel_rfl) (fun _ _ _ h => h) (Or.inr ⟨by kernel_rfl, rfl⟩) rfl ?p7_4 hS1 ?_
  case p7_4 => (go_simp; try with_reducible rfl)
  refine wpAnyH_takeN (i := 5) (v := undef) (l' := #[true, true, true, true, true, true, false, false, true, true, false, false, false, false, false, false, false, false]) (a' := ?a7_5) rfl (by kernel_rfl) (by kernel_rfl) (by kernel_rfl) (fun _ _ _ h => h) (Or.inr ⟨by kernel_rfl, rfl⟩) rfl ?p7_5 hS1 ?_
  case p7_5 => (go_simp; try with_reducible rfl)
  refine wpAnyH_takeN (i := 6) (v := undef) (l' := #[true, true, true, true, true, true, true, false, true, true, false, false, false, false, false, false, false, false]) (a' := ?a7_6) rfl (by kernel_rfl) (by kernel_rfl) (by kernel_rfl) (fun _ _ _ h => h) (Or.inr ⟨by kernel_rfl, rfl⟩) rfl ?p7_6 hS1 ?_
  case p7_6 => (go_simp; try with_reducible rfl)
  refine wpAnyH_takeN (i := 7) (v := ?v7_7) (l' := #[true, true, true, true, true, true, true, true, true, true, false, false, false, false, false, false, false, false]) (a' := ?a7_7) rfl (by kernel_rfl) (by kernel_rfl) (by kernel_rfl) (fun _ _ _ h => h) (Or.inl ⟨by kernel_rfl, ?h7_7⟩) rfl ?p7_7 hS1 ?r7_7
  case h7_7 => (intro w hS; obtain ⟨-, s0, s1, s2, s3, s4, s5, s6, s7⟩ := hS; go_simp; try with_reducible rfl)
  case p7_7 => (go_simp; try with_reducible rfl)
  refine wpAnyH_oneN (i := 10) (l' := #[true, true, true, true, true, true, true, true, true, true, true, false, false, false, false, false, false, false]) rfl (by kernel_rfl) (by kernel_rfl) rfl (fun K hK => ?_)
  obtain ⟨hP, s0, s1, s2, s3, s4, s5, s6, s7⟩ := hS1
  go_simp
  go_at_call 18
  refine (Ha.out _).mono ?_
  rintro r w9 ⟨rfl, hb⟩
  dsimp only
  have D9 := Lib.hid (below_step hP hb)
  clear hb
  have hS2 := HO.out _ (D9.out)
  clear hP s0 s1 s2 s3 s4 s5 s6 s7
  refine hK _ _ hS2 ?_
  clear hK K
  refine wpAnyH_takeN (i := 11) (v := ?v7_11) (l' := #[true, true, true, true, true, true, true, true, true, true, true, true, false, false, false, false, false, false]) (a' := ?a7_11) rfl (by kernel_rfl) (by kernel_rfl) (by kernel_rfl) (fun _ _ _ h => h) (Or.inl ⟨by kernel_rfl, ?h7_11⟩) rfl ?p7_11 hS2 ?r7_11
  case h7_11 => (intro w hS; obtain ⟨-, s0, s1, s2, s3, s4, s5, s6, s7⟩ := hS; go_simp; try with_reducible rfl)
  case p7_11 => (go_simp; try with_reducible rfl)
  refine wpAnyH_takeN (i := 12) (v := ?v7_12) (l' := #[true, true, true, true, true, true, true, true, true, true, true, true, true, false, false, false, false, false]) (a' := ?a7_12) rfl (by kernel_rfl) (by kernel_rfl) (by kernel_rfl) (fun _ _ _ h => h) (Or.inl ⟨by kernel_rfl, ?h7_12⟩) rfl ?p7_12 hS2 ?r7_12
  case h7_12 => (intro w hS; obtain ⟨-, s0, s1, s2, s3, s4, s5, s6, s7⟩ := hS; go_simp; try with_reducible rfl)
  case p7_12 => (go_simp; try with_reducible rfl)
  refine wpAnyH_takeN (i := 13) (v := ?v7_13) (l' := #[true, true, true, true, true, true, true, true, true, true, true, true, true, true, false, false, false, false]) (a' := ?a7_13) rfl (by kernel_rfl) (by kernel_rfl) (by kernel_rfl) (fun _ _ _ h => h) (Or.inl ⟨by kernel_rfl, ?h7_13⟩) rfl ?p7_13 hS2 ?r7_13
  case h7_13 => (intro w hS; obtain ⟨-, s0, s1, s2, s3, s4, s5, s6, s7⟩ := hS; go_simp; try with_reducible rfl)
  case p7_13 => (go_simp; try with_reducible rfl)
  refine wpAnyH_oneN (i := 14) (l' := #[true, true, true, true, true, true, true, true, true, true, true, true, true, true, true, false, false, false]) rfl (by kernel_rfl) (by kernel_rfl) rfl (fun K hK => ?_)
  obtain ⟨hP, s0, s1, s2, s3, s4, s5, s6, s7⟩ := hS2
  go_simp
  go_at_call 18
  refine (Hb.out _).mono ?_
  rintro r w10 ⟨rfl, hb⟩
  dsimp only
  have D10 := Lib.hid (below_step hP hb)
  clear hb
  have hS3 := HO.out _ (D10.out)
  clear hP s0 s1 s2 s3 s4 s5 s6 s7
  refine hK _ _ hS3 ?_
  clear hK K
  refine wpAnyH_takeN (i := 15) (v := ?v7_15) (l' := #[true, true, true, true, true, true, true, true, true, true, true, true, true, true, true, true, false, false]) (a' := ?a7_15) rfl (by kernel_rfl) (by kernel_rfl) (by kernel_rfl) (fun _ _ _ h => h) (Or.inl ⟨by kernel_rfl, ?h7_15⟩) rfl ?p7_15 hS3 ?r7_15
  case h7_15 => (intro w hS; obtain ⟨-, s0, s1, s2, s3, s4, s5, s6, s7⟩ := hS; go_simp; try with_reducible rfl)
  case p7_15 => (go_simp; try with_reducible rfl)
  refine wpAnyH_takeN (i := 16) (v := ?v7_16) (l' := #[true, true, true, true, true, true, true, true, true, true, true, true, true, true, true, true, true, false]) (a' := ?a7_16) rfl (by kernel_rfl) (by kernel_rfl) (by kernel_rfl) (fun _ _ _ h => h) (Or.inl ⟨by kernel_rfl, ?h7_16⟩) rfl ?p7_16 hS3 ?r7_16
  case h7_16 => (intro w hS; obtain ⟨-, s0, s1, s2, s3, s4, s5, s6, s7⟩ := hS; go_simp; try with_reducible rfl)
  case p7_16 => (go_simp; try with_reducible rfl)
  refine wpAnyH_takeN (i := 17) (v := ?v7_17) (l' := #[true, true, true, true, true, true, true, true, true, true, true, true, true, true, true, true, true, true]) (a' := ?a7_17) rfl (by kernel_rfl) (by kernel_rfl) (by kernel_rfl) (fun _ _ _ h => h) (Or.inl ⟨by kernel_rfl, ?h7_17⟩) rfl ?p7_17 hS3 ?r7_17
  case h7_17 => (intro w hS; obtain ⟨-, s0, s1, s2, s3, s4, s5, s6, s7⟩ := hS; go_simp; try with_reducible rfl)
  case p7_17 => (go_simp; try with_reducible rfl)
  refine wpAnyH_done (by kernel_rfl) ?_ _
  clear hS3
  obtain ⟨-, q0, q1, q2, q3, q4, q5, q6, q7⟩ := HO.out _ D10.out
  go_wp2_with fail
  go_ret
  exact ⟨rfl, below_step HB.out D10.out⟩
set_option maxRecDepth 100000 in
set_option maxHeartbeats 2000000 in
theorem meets_n01 (A B H : Sp) (x : Nat) (ea : hasB A x = false) (eb : hasB B x = true) (eh : hasB H x = true) (HM : ∀ w, Calls Try.prog 16 #[.agg #[.float .f64 A.lo, .float .f64 A.hi], .agg #[.float .f64 B.lo, .float .f64 B.hi]] w fun r w' => r = .returned (.tuple #[.agg #[.float .f64 0, .float .f64 0], .bool false]) ∧ Below w.heap.size w w') (HH : ∀ w, Calls Try.prog 17 #[.agg #[.float .f64 A.lo, .float .f64 A.hi], .agg #[.float .f64 B.lo, .float .f64 B.hi]] w fun r w' => r = .returned (.agg #[.float .f64 H.lo, .float .f64 H.hi]) ∧ Below w.heap.size w w') (w : World) : Calls Try.prog 3 #[.agg #[.float .f64 A.lo, .float .f64 A.hi], .agg #[.float .f64 B.lo, .float .f64 B.hi], .float .f64 x] w fun r w' => r = .returned (.bool true) ∧ Below w.heap.size w w' := by
  have H0 := Lib.hid awake2
  have H1 := Lib.hid (fun w => rvalid_any A.lo A.hi A.vd.l.lt A.vd.h.lt w)
  have H2 := Lib.hid (fun w => rvalid_any B.lo B.hi B.vd.l.lt B.vd.h.lt w)
  rw [vdB_of A.vd] at H1
  rw [vdB_of B.vd] at H2
  have HM := Lib.hid HM
  have HH := Lib.hid HH
  have Ha := Lib.hid (fun w => has_sp A x w)
  have Hb := Lib.hid (fun w => has_sp B x w)
  rw [ea] at Ha
  rw [eb] at Hb
  have zz := zero_isZW
  have Hh := Lib.hid (fun w => has_sp H x w)
  rw [eh] at Hh
  clear eh
  clear ea eb
  go_enter Try.func3, Try.ntmps3
  go_wp2_with fail
  obtain ⟨W, hW, K0, K1, hB, hz⟩ := bx2 w 24 24 #[Value.float FloatKind.f64 A.lo, Value.float FloatKind.f64 A.hi] #[Value.float FloatKind.f64 B.lo, Value.float FloatKind.f64 B.hi]
  rw [← hW]
  have K0 := Lib.hid K0
  have K1 := Lib.hid K1
  have HB := Lib.hid hB
  clear hW hB hz
  have HO := Lib.hid (show ∀ w', Below W.heap.size W w' → (Below W.heap.size W w' ∧ w'.cell? ⟨w.heap.size, 0, none⟩ = some (Value.float FloatKind.f64 A.lo) ∧ w'.cell? ⟨w.heap.size, 1, none⟩ = some (Value.float FloatKind.f64 A.hi) ∧ w'.cell? ⟨w.heap.size + 1, 0, none⟩ = some (Value.float FloatKind.f64 B.lo) ∧ w'.cell? ⟨w.heap.size + 1, 1, none⟩ = some (Value.float FloatKind.f64 B.hi)) from fun w' h => ⟨h, (K0.out.below h K0.out.lt).cell 0, (K0.out.below h K0.out.lt).cell 1, (K1.out.below h K1.out.lt).cell 0, (K1.out.below h K1.out.lt).cell 1⟩)
  have D0 := Lib.hid (Below.refl W.heap.size W)
  refine (H0.out _).mono ?_
  rintro r w1 ⟨rfl, hb⟩
  have D1 := Lib.hid (below_step D0.out hb)
  clear hb
  obtain ⟨-, q0, q1, q2, q3⟩ := HO.out _ D1.out
  go_wp2_with fail
  refine (H1.out _).mono ?_
  clear q0 q1 q2 q3
  rintro r w2 ⟨rfl, hb⟩
  have D2 := Lib.hid (below_step D1.out hb)
  clear hb
  obtain ⟨-, q0, q1, q2, q3⟩ := HO.out _ D2.out
  go_wp2_with fail
  refine (H2.out _).mono ?_
  clear q0 q1 q2 q3
  rintro r w3 ⟨rfl, hb⟩
  have D3 := Lib.hid (below_step D2.out hb)
  clear hb
  obtain ⟨-, q0, q1, q2, q3⟩ := HO.out _ D3.out
  go_wp2_with fail
  refine (HM.out _).mono ?_
  clear q0 q1 q2 q3
  rintro r w4 ⟨rfl, hb⟩
  have D4 := Lib.hid (below_step D3.out hb)
  clear hb
  obtain ⟨-, q0, q1, q2, q3⟩ := HO.out _ D4.out
  obtain ⟨g1, hg1⟩ : ∃ g, w4.heap.size = g := ⟨_, rfl⟩
  have y0 : w.heap.size < g1 := by have := (K0.out.below D4.out K0.out.lt).lt; rw [hg1] at this; exact this
  have y1 : w.heap.size + 1 < g1 := by have := (K1.out.below D4.out K1.out.lt).lt; rw [hg1] at this; exact this
  go_wp2_with fail
  obtain ⟨V1, hV⟩ : ∃ V, w4.alloc (.cells #[Value.float FloatKind.f64 0, Value.float FloatKind.f64 0] 24) = V := ⟨_, rfl⟩
  rw [hV]
  clear q0 q1 q2 q3
  have K0' := Lib.hid (hV ▸ Blk.alloc (Blk.below K0.out D4.out K0.out.lt) _ : Blk V1 (w.heap.size) 24 #[Value.float FloatKind.f64 A.lo, Value.float FloatKind.f64 A.hi])
  have K1' := Lib.hid (hV ▸ Blk.alloc (Blk.below K1.out D4.out K1.out.lt) _ : Blk V1 (w.heap.size + 1) 24 #[Value.float FloatKind.f64 B.lo, Value.float FloatKind.f64 B.hi])
  have K2 := Lib.hid (show Blk V1 g1 24 #[Value.float FloatKind.f64 0, Value.float FloatKind.f64 0] by rw [← hV, ← hg1]; exact Blk.new_at _ _ _ rfl)
  have HB' := Lib.hid (hV ▸ below_more (below_step HB.out D4.out) _ : Below w.heap.size w V1)
  clear HB HO hV hg1 K0 K1 y0 y1
  have HB := HB'
  clear HB'
  have K0 := K0'
  clear K0'
  have K1 := K1'
  clear K1'
  have HO := Lib.hid (show ∀ w', Below V1.heap.size V1 w' → (Below V1.heap.size V1 w' ∧ w'.cell? ⟨w.heap.size, 0, none⟩ = some (Value.float FloatKind.f64 A.lo) ∧ w'.cell? ⟨w.heap.size, 1, none⟩ = some (Value.float FloatKind.f64 A.hi) ∧ w'.cell? ⟨w.heap.size + 1, 0, none⟩ = some (Value.float FloatKind.f64 B.lo) ∧ w'.cell? ⟨w.heap.size + 1, 1, none⟩ = some (Value.float FloatKind.f64 B.hi) ∧ w'.cell? ⟨g1, 0, none⟩ = some (Value.float FloatKind.f64 0) ∧ w'.cell? ⟨g1, 1, none⟩ = some (Value.float FloatKind.f64 0)) from fun w' h => ⟨h, (K0.out.below h K0.out.lt).cell 0, (K0.out.below h K0.out.lt).cell 1, (K1.out.below h K1.out.lt).cell 0, (K1.out.below h K1.out.lt).cell 1, (K2.out.below h K2.out.lt).cell 0, (K2.out.below h K2.out.lt).cell 1⟩)
  have D5 := Lib.hid (Below.refl V1.heap.size V1)
  obtain ⟨-, q0, q1, q2, q3, q4, q5⟩ := HO.out _ D5.out
  refine (HH.out _).mono ?_
  clear q0 q1 q2 q3 q4 q5
  rintro r w6 ⟨rfl, hb⟩
  have D6 := Lib.hid (below_step D5.out hb)
  clear hb
  obtain ⟨-, q0, q1, q2, q3, q4, q5⟩ := HO.out _ D6.out
  obtain ⟨g2, hg2⟩ : ∃ g, w6.heap.size = g := ⟨_, rfl⟩
  obtain ⟨V2, hV⟩ : ∃ V, w6.alloc (.cells #[Value.float FloatKind.f64 H.lo, Value.float FloatKind.f64 H.hi] 24) = V := ⟨_, rfl⟩
  have K0' := Lib.hid (hV ▸ Blk.alloc (Blk.below K0.out D6.out K0.out.lt) _ : Blk V2 (w.heap.size) 24 #[Value.float FloatKind.f64 A.lo, Value.float FloatKind.f64 A.hi])
  have K1' := Lib.hid (hV ▸ Blk.alloc (Blk.below K1.out D6.out K1.out.lt) _ : Blk V2 (w.heap.size + 1) 24 #[Value.float FloatKind.f64 B.lo, Value.float FloatKind.f64 B.hi])
  have K2' := Lib.hid (hV ▸ Blk.alloc (Blk.below K2.out D6.out K2.out.lt) _ : Blk V2 (g1) 24 #[Value.float FloatKind.f64 0, Value.float FloatKind.f64 0])
  have K3 := Lib.hid (show Blk V2 g2 24 #[Value.float FloatKind.f64 H.lo, Value.float FloatKind.f64 H.hi] by rw [← hV, ← hg2]; exact Blk.new_at _ _ _ rfl)
  have HB' := Lib.hid (hV ▸ below_more (below_step HB.out D6.out) _ : Below w.heap.size w V2)
  clear HB HO K0 K1 K2
  have HB := HB'
  clear HB'
  have K0 := K0'
  clear K0'
  have K1 := K1'
  clear K1'
  have K2 := K2'
  clear K2'
  have HO := Lib.hid (show ∀ w', Below V2.heap.size V2 w' → (Below V2.heap.size V2 w' ∧ w'.cell? ⟨w.heap.size, 0, none⟩ = some (Value.float FloatKind.f64 A.lo) ∧ w'.cell? ⟨w.heap.size, 1, none⟩ = some (Value.float FloatKind.f64 A.hi) ∧ w'.cell? ⟨w.heap.size + 1, 0, none⟩ = some (Value.float FloatKind.f64 B.lo) ∧ w'.cell? ⟨w.heap.size + 1, 1, none⟩ = some (Value.float FloatKind.f64 B.hi) ∧ w'.cell? ⟨g1, 0, none⟩ = some (Value.float FloatKind.f64 0) ∧ w'.cell? ⟨g1, 1, none⟩ = some (Value.float FloatKind.f64 0) ∧ w'.cell? ⟨g2, 0, none⟩ = some (Value.float FloatKind.f64 H.lo) ∧ w'.cell? ⟨g2, 1, none⟩ = some (Value.float FloatKind.f64 H.hi)) from fun w' h => ⟨h, (K0.out.below h K0.out.lt).cell 0, (K0.out.below h K0.out.lt).cell 1, (K1.out.below h K1.out.lt).cell 0, (K1.out.below h K1.out.lt).cell 1, (K2.out.below h K2.out.lt).cell 0, (K2.out.below h K2.out.lt).cell 1, (K3.out.below h K3.out.lt).cell 0, (K3.out.below h K3.out.lt).cell 1⟩)
  have D7 := Lib.hid (Below.refl V2.heap.size V2)
  obtain ⟨-, p0, p1, p2, p3, p4, p5, p6, p7⟩ := HO.out _ D7.out
  go_wp2_with fail
  clear hV hg2 q0 q1 q2 q3 q4 q5
  have q0 := p0
  clear p0
  have q1 := p1
  clear p1
  have q2 := p2
  clear p2
  have q3 := p3
  clear p3
  have q4 := p4
  clear p4
  have q5 := p5
  clear p5
  have q6 := p6
  clear p6
  have q7 := p7
  clear p7
  go_wp2_with fail
  clear q0 q1 q2 q3 q4 q5 q6 q7
  refine wp_region_held (S := (fun w' => Below V2.heap.size V2 w' ∧ w'.cell? ⟨w.heap.size, 0, none⟩ = some (Value.float FloatKind.f64 A.lo) ∧ w'.cell? ⟨w.heap.size, 1, none⟩ = some (Value.float FloatKind.f64 A.hi) ∧ w'.cell? ⟨w.heap.size + 1, 0, none⟩ = some (Value.float FloatKind.f64 B.lo) ∧ w'.cell? ⟨w.heap.size + 1, 1, none⟩ = some (Value.float FloatKind.f64 B.hi) ∧ w'.cell? ⟨g1, 0, none⟩ = some (Value.float FloatKind.f64 0) ∧ w'.cell? ⟨g1, 1, none⟩ = some (Value.float FloatKind.f64 0) ∧ w'.cell? ⟨g2, 0, none⟩ = some (Value.float FloatKind.f64 H.lo) ∧ w'.cell? ⟨g2, 1, none⟩ = some (Value.float FloatKind.f64 H.hi))) (by kernel_rfl) ?_
  (try change wpAnyH _ _ _ _ _ _ _ (World.drew _))
  have hS0 := HO.out _ (Below.drew D7.out)
  refine wpAnyH_takeN (i := 0) (v := ?v7_0) (l' := #[true, false, false, false, false, false, false, false, false, false, false, false, false, false, false, false, false, false]) (a' := ?a7_0) rfl (by kernel_rfl) (by kernel_rfl) (by kernel_rfl) (fun _ _ _ h => h) (Or.inl ⟨by kernel_rfl, ?h7_0⟩) rfl ?p7_0 hS0 ?r7_0
  case h7_0 => (intro w hS; obtain ⟨-, s0, s1, s2, s3, s4, s5, s6, s7⟩ := hS; go_simp; try with_reducible rfl)
  case p7_0 => (go_simp; try with_reducible rfl)
  refine wpAnyH_takeN (i := 1) (v := ?v7_1) (l' := #[true, true, false, false, false, false, false, false, false, false, false, false, false, false, false, false, false, false]) (a' := ?a7_1) rfl (by kernel_rfl) (by kernel_rfl) (by kernel_rfl) (fun _ _ _ h => h) (Or.inl ⟨by kernel_rfl, ?h7_1⟩) rfl ?p7_1 hS0 ?r7_1
  case h7_1 => (intro w hS; obtain ⟨-, s0, s1, s2, s3, s4, s5, s6, s7⟩ := hS; go_simp; try with_reducible rfl)
  case p7_1 => (go_simp; try with_reducible rfl)
  refine wpAnyH_takeN (i := 8) (v := ?v7_8) (l' := #[true, true, false, false, false, false, false, false, true, false, false, false, false, false, false, false, false, false]) (a' := ?a7_8) rfl (by kernel_rfl) (by kernel_rfl) (by kernel_rfl) (fun _ _ _ h => h) (Or.inl ⟨by kernel_rfl, ?h7_8⟩) rfl ?p7_8 hS0 ?r7_8
  case h7_8 => (intro w hS; obtain ⟨-, s0, s1, s2, s3, s4, s5, s6, s7⟩ := hS; go_simp; try with_reducible rfl)
  case p7_8 => (go_simp; try with_reducible rfl)
  refine wpAnyH_takeN (i := 9) (v := ?v7_9) (l' := #[true, true, false, false, false, false, false, false, true, true, false, false, false, false, false, false, false, false]) (a' := ?a7_9) rfl (by kernel_rfl) (by kernel_rfl) (by kernel_rfl) (fun _ _ _ h => h) (Or.inl ⟨by kernel_rfl, ?h7_9⟩) rfl ?p7_9 hS0 ?r7_9
  case h7_9 => (intro w hS; obtain ⟨-, s0, s1, s2, s3, s4, s5, s6, s7⟩ := hS; go_simp; try with_reducible rfl)
  case p7_9 => (go_simp; try with_reducible rfl)
  refine wpAnyH_oneN (i := 2) (l' := #[true, true, true, false, false, false, false, false, true, true, false, false, false, false, false, false, false, false]) rfl (by kernel_rfl) (by kernel_rfl) rfl (fun K hK => ?_)
  obtain ⟨hP, s0, s1, s2, s3, s4, s5, s6, s7⟩ := hS0
  go_simp
  go_at_call 18
  refine (Ha.out _).mono ?_
  rintro r w8 ⟨rfl, hb⟩
  dsimp only
  have D8 := Lib.hid (below_step hP hb)
  clear hb
  have hS1 := HO.out _ (D8.out)
  clear hP s0 s1 s2 s3 s4 s5 s6 s7
  refine hK _ _ hS1 ?_
  clear hK K
  refine wpAnyH_takeN (i := 3) (v := ?v7_3) (l' := #[true, true, true, true, false, false, false, false, true, true, false, false, false, false, false, false, false, false]) (a' := ?a7_3) rfl (by kernel_rfl) (by kernel_rfl) (by kernel_rfl) (fun _ _ _ h => h) (Or.inl ⟨by kernel_rfl, ?h7_3⟩) rfl ?p7_3 hS1 ?r7_3
  case h7_3 => (intro w hS; obtain ⟨-, s0, s1, s2, s3, s4, s5, s6, s7⟩ := hS; go_simp; try with_reducible rfl)
  case p7_3 => (go_simp; try with_reducible rfl)
  refine wpAnyH_takeN (i := 4) (v := undef) (l' := #[true, true, true, true, true, false, false, false, true, true, false, false, false, false, false, false, false, false]) (a' := ?a7_4) rfl (by kernel_rfl) (by kernel_rfl) (by kernel_rfl) (fun _ _ _ h => h) (Or.inr ⟨by kernel_rfl, rfl⟩) rfl ?p7_4 hS1 ?_
  case p7_4 => (go_simp; try with_reducible rfl)
  refine wpAnyH_takeN (i := 5) (v := undef) (l' := #[true, true, true, true, true, true, false, false, true, true, false, false, false, false, false, false, false, false]) (a' := ?a7_5) rfl (by kernel_rfl) (by kernel_rfl) (by kernel_rfl) (fun _ _ _ h => h) (Or.inr ⟨by kernel_rfl, rfl⟩) rfl ?p7_5 hS1 ?_
  case p7_5 => (go_simp; try with_reducible rfl)
  refine wpAnyH_takeN (i := 6) (v := undef) (l' := #[true, true, true, true, true, true, true, false, true, true, false, false, false, false, false, false, false, false]) (a' := ?a7_6) rfl (by kernel_rfl) (by kernel_rfl) (by kernel_rfl) (fun _ _ _ h => h) (Or.inr ⟨by kernel_rfl, rfl⟩) rfl ?p7_6 hS1 ?_
  case p7_6 => (go_simp; try with_reducible rfl)
  refine wpAnyH_takeN (i := 7) (v := ?v7_7) (l' := #[true, true, true, true, true, true, true, true, true, true, false, false, false, false, false, false, false, false]) (a' := ?a7_7) rfl (by kernel_rfl) (by kernel_rfl) (by kernel_rfl) (fun _ _ _ h => h) (Or.inl ⟨by kernel_rfl, ?h7_7⟩) rfl ?p7_7 hS1 ?r7_7
  case h7_7 => (intro w hS; obtain ⟨-, s0, s1, s2, s3, s4, s5, s6, s7⟩ := hS; go_simp; try with_reducible rfl)
  case p7_7 => (go_simp; try with_reducible rfl)
  refine wpAnyH_oneN (i := 10) (l' := #[true, true, true, true, true, true, true, true, true, true, true, false, false, false, false, false, false, false]) rfl (by kernel_rfl) (by kernel_rfl) rfl (fun K hK => ?_)
  obtain ⟨hP, s0, s1, s2, s3, s4, s5, s6, s7⟩ := hS1
  go_simp
  go_at_call 18
  refine (Ha.out _).mono ?_
  rintro r w9 ⟨rfl, hb⟩
  dsimp only
  have D9 := Lib.hid (below_step hP hb)
  clear hb
  have hS2 := HO.out _ (D9.out)
  clear hP s0 s1 s2 s3 s4 s5 s6 s7
  refine hK _ _ hS2 ?_
  clear hK K
  refine wpAnyH_takeN (i := 11) (v := ?v7_11) (l' := #[true, true, true, true, true, true, true, true, true, true, true, true, false, false, false, false, false, false]) (a' := ?a7_11) rfl (by kernel_rfl) (by kernel_rfl) (by kernel_rfl) (fun _ _ _ h => h) (Or.inl ⟨by kernel_rfl, ?h7_11⟩) rfl ?p7_11 hS2 ?r7_11
  case h7_11 => (intro w hS; obtain ⟨-, s0, s1, s2, s3, s4, s5, s6, s7⟩ := hS; go_simp; try with_reducible rfl)
  case p7_11 => (go_simp; try with_reducible rfl)
  refine wpAnyH_takeN (i := 12) (v := ?v7_12) (l' := #[true, true, true, true, true, true, true, true, true, true, true, true, true, false, false, false, false, false]) (a' := ?a7_12) rfl (by kernel_rfl) (by kernel_rfl) (by kernel_rfl) (fun _ _ _ h => h) (Or.inl ⟨by kernel_rfl, ?h7_12⟩) rfl ?p7_12 hS2 ?r7_12
  case h7_12 => (intro w hS; obtain ⟨-, s0, s1, s2, s3, s4, s5, s6, s7⟩ := hS; go_simp; try with_reducible rfl)
  case p7_12 => (go_simp; try with_reducible rfl)
  refine wpAnyH_takeN (i := 13) (v := ?v7_13) (l' := #[true, true, true, true, true, true, true, true, true, true, true, true, true, true, false, false, false, false]) (a' := ?a7_13) rfl (by kernel_rfl) (by kernel_rfl) (by kernel_rfl) (fun _ _ _ h => h) (Or.inl ⟨by kernel_rfl, ?h7_13⟩) rfl ?p7_13 hS2 ?r7_13
  case h7_13 => (intro w hS; obtain ⟨-, s0, s1, s2, s3, s4, s5, s6, s7⟩ := hS; go_simp; try with_reducible rfl)
  case p7_13 => (go_simp; try with_reducible rfl)
  refine wpAnyH_oneN (i := 14) (l' := #[true, true, true, true, true, true, true, true, true, true, true, true, true, true, true, false, false, false]) rfl (by kernel_rfl) (by kernel_rfl) rfl (fun K hK => ?_)
  obtain ⟨hP, s0, s1, s2, s3, s4, s5, s6, s7⟩ := hS2
  go_simp
  go_at_call 18
  refine (Hb.out _).mono ?_
  rintro r w10 ⟨rfl, hb⟩
  dsimp only
  have D10 := Lib.hid (below_step hP hb)
  clear hb
  have hS3 := HO.out _ (D10.out)
  clear hP s0 s1 s2 s3 s4 s5 s6 s7
  refine hK _ _ hS3 ?_
  clear hK K
  refine wpAnyH_takeN (i := 15) (v := ?v7_15) (l' := #[true, true, true, true, true, true, true, true, true, true, true, true, true, true, true, true, false, false]) (a' := ?a7_15) rfl (by kernel_rfl) (by kernel_rfl) (by kernel_rfl) (fun _ _ _ h => h) (Or.inl ⟨by kernel_rfl, ?h7_15⟩) rfl ?p7_15 hS3 ?r7_15
  case h7_15 => (intro w hS; obtain ⟨-, s0, s1, s2, s3, s4, s5, s6, s7⟩ := hS; go_simp; try with_reducible rfl)
  case p7_15 => (go_simp; try with_reducible rfl)
  refine wpAnyH_takeN (i := 16) (v := ?v7_16) (l' := #[true, true, true, true, true, true, true, true, true, true, true, true, true, true, true, true, true, false]) (a' := ?a7_16) rfl (by kernel_rfl) (by kernel_rfl) (by kernel_rfl) (fun _ _ _ h => h) (Or.inl ⟨by kernel_rfl, ?h7_16⟩) rfl ?p7_16 hS3 ?r7_16
  case h7_16 => (intro w hS; obtain ⟨-, s0, s1, s2, s3, s4, s5, s6, s7⟩ := hS; go_simp; try with_reducible rfl)
  case p7_16 => (go_simp; try with_reducible rfl)
  refine wpAnyH_takeN (i := 17) (v := ?v7_17) (l' := #[true, true, true, true, true, true, true, true, true, true, true, true, true, true, true, true, true, true]) (a' := ?a7_17) rfl (by kernel_rfl) (by kernel_rfl) (by kernel_rfl) (fun _ _ _ h => h) (Or.inl ⟨by kernel_rfl, ?h7_17⟩) rfl ?p7_17 hS3 ?r7_17
  case h7_17 => (intro w hS; obtain ⟨-, s0, s1, s2, s3, s4, s5, s6, s7⟩ := hS; go_simp; try with_reducible rfl)
  case p7_17 => (go_simp; try with_reducible rfl)
  refine wpAnyH_done (by kernel_rfl) ?_ _
  clear hS3
  obtain ⟨-, q0, q1, q2, q3, q4, q5, q6, q7⟩ := HO.out _ D10.out
  go_wp2_with fail
  refine (Hh.out _).mono ?_
  clear q0 q1 q2 q3 q4 q5 q6 q7
  rintro r w11 ⟨rfl, hb⟩
  have D11 := Lib.hid (below_step D10.out hb)
  clear hb
  obtain ⟨-, q0, q1, q2, q3, q4, q5, q6, q7⟩ := HO.out _ D11.out
  go_wp2_with fail
  go_ret
  exact ⟨rfl, below_step HB.out D11.out⟩
set_option maxRecDepth 100000 in
set_option maxHeartbeats 2000000 in
theorem meets_n10 (A B H : Sp) (x : Nat) (ea : hasB A x = true) (eb : hasB B x = false) (eh : hasB H x = true) (HM : ∀ w, Calls Try.prog 16 #[.agg #[.float .f64 A.lo, .float .f64 A.hi], .agg #[.float .f64 B.lo, .float .f64 B.hi]] w fun r w' => r = .returned (.tuple #[.agg #[.float .f64 0, .float .f64 0], .bool false]) ∧ Below w.heap.size w w') (HH : ∀ w, Calls Try.prog 17 #[.agg #[.float .f64 A.lo, .float .f64 A.hi], .agg #[.float .f64 B.lo, .float .f64 B.hi]] w fun r w' => r = .returned (.agg #[.float .f64 H.lo, .float .f64 H.hi]) ∧ Below w.heap.size w w') (w : World) : Calls Try.prog 3 #[.agg #[.float .f64 A.lo, .float .f64 A.hi], .agg #[.float .f64 B.lo, .float .f64 B.hi], .float .f64 x] w fun r w' => r = .returned (.bool true) ∧ Below w.heap.size w w' := by
  have H0 := Lib.hid awake2
  have H1 := Lib.hid (fun w => rvalid_any A.lo A.hi A.vd.l.lt A.vd.h.lt w)
  have H2 := Lib.hid (fun w => rvalid_any B.lo B.hi B.vd.l.lt B.vd.h.lt w)
  rw [vdB_of A.vd] at H1
  rw [vdB_of B.vd] at H2
  have HM := Lib.hid HM
  have HH := Lib.hid HH
  have Ha := Lib.hid (fun w => has_sp A x w)
  have Hb := Lib.hid (fun w => has_sp B x w)
  rw [ea] at Ha
  rw [eb] at Hb
  have zz := zero_isZW
  have Hh := Lib.hid (fun w => has_sp H x w)
  rw [eh] at Hh
  clear eh
  clear ea eb
  go_enter Try.func3, Try.ntmps3
  go_wp2_with fail
  obtain ⟨W, hW, K0, K1, hB, hz⟩ := bx2 w 24 24 #[Value.float FloatKind.f64 A.lo, Value.float FloatKind.f64 A.hi] #[Value.float FloatKind.f64 B.lo, Value.float FloatKind.f64 B.hi]
  rw [← hW]
  have K0 := Lib.hid K0
  have K1 := Lib.hid K1
  have HB := Lib.hid hB
  clear hW hB hz
  have HO := Lib.hid (show ∀ w', Below W.heap.size W w' → (Below W.heap.size W w' ∧ w'.cell? ⟨w.heap.size, 0, none⟩ = some (Value.float FloatKind.f64 A.lo) ∧ w'.cell? ⟨w.heap.size, 1, none⟩ = some (Value.float FloatKind.f64 A.hi) ∧ w'.cell? ⟨w.heap.size + 1, 0, none⟩ = some (Value.float FloatKind.f64 B.lo) ∧ w'.cell? ⟨w.heap.size + 1, 1, none⟩ = some (Value.float FloatKind.f64 B.hi)) from fun w' h => ⟨h, (K0.out.below h K0.out.lt).cell 0, (K0.out.below h K0.out.lt).cell 1, (K1.out.below h K1.out.lt).cell 0, (K1.out.below h K1.out.lt).cell 1⟩)
  have D0 := Lib.hid (Below.refl W.heap.size W)
  refine (H0.out _).mono ?_
  rintro r w1 ⟨rfl, hb⟩
  have D1 := Lib.hid (below_step D0.out hb)
  clear hb
  obtain ⟨-, q0, q1, q2, q3⟩ := HO.out _ D1.out
  go_wp2_with fail
  refine (H1.out _).mono ?_
  clear q0 q1 q2 q3
  rintro r w2 ⟨rfl, hb⟩
  have D2 := Lib.hid (below_step D1.out hb)
  clear hb
  obtain ⟨-, q0, q1, q2, q3⟩ := HO.out _ D2.out
  go_wp2_with fail
  refine (H2.out _).mono ?_
  clear q0 q1 q2 q3
  rintro r w3 ⟨rfl, hb⟩
  have D3 := Lib.hid (below_step D2.out hb)
  clear hb
  obtain ⟨-, q0, q1, q2, q3⟩ := HO.out _ D3.out
  go_wp2_with fail
  refine (HM.out _).mono ?_
  clear q0 q1 q2 q3
  rintro r w4 ⟨rfl, hb⟩
  have D4 := Lib.hid (below_step D3.out hb)
  clear hb
  obtain ⟨-, q0, q1, q2, q3⟩ := HO.out _ D4.out
  obtain ⟨g1, hg1⟩ : ∃ g, w4.heap.size = g := ⟨_, rfl⟩
  have y0 : w.heap.size < g1 := by have := (K0.out.below D4.out K0.out.lt).lt; rw [hg1] at this; exact this
  have y1 : w.heap.size + 1 < g1 := by have := (K1.out.below D4.out K1.out.lt).lt; rw [hg1] at this; exact this
  go_wp2_with fail
  obtain ⟨V1, hV⟩ : ∃ V, w4.alloc (.cells #[Value.float FloatKind.f64 0, Value.float FloatKind.f64 0] 24) = V := ⟨_, rfl⟩
  rw [hV]
  clear q0 q1 q2 q3
  have K0' := Lib.hid (hV ▸ Blk.alloc (Blk.below K0.out D4.out K0.out.lt) _ : Blk V1 (w.heap.size) 24 #[Value.float FloatKind.f64 A.lo, Value.float FloatKind.f64 A.hi])
  have K1' := Lib.hid (hV ▸ Blk.alloc (Blk.below K1.out D4.out K1.out.lt) _ : Blk V1 (w.heap.size + 1) 24 #[Value.float FloatKind.f64 B.lo, Value.float FloatKind.f64 B.hi])
  have K2 := Lib.hid (show Blk V1 g1 24 #[Value.float FloatKind.f64 0, Value.float FloatKind.f64 0] by rw [← hV, ← hg1]; exact Blk.new_at _ _ _ rfl)
  have HB' := Lib.hid (hV ▸ below_more (below_step HB.out D4.out) _ : Below w.heap.size w V1)
  clear HB HO hV hg1 K0 K1 y0 y1
  have HB := HB'
  clear HB'
  have K0 := K0'
  clear K0'
  have K1 := K1'
  clear K1'
  have HO := Lib.hid (show ∀ w', Below V1.heap.size V1 w' → (Below V1.heap.size V1 w' ∧ w'.cell? ⟨w.heap.size, 0, none⟩ = some (Value.float FloatKind.f64 A.lo) ∧ w'.cell? ⟨w.heap.size, 1, none⟩ = some (Value.float FloatKind.f64 A.hi) ∧ w'.cell? ⟨w.heap.size + 1, 0, none⟩ = some (Value.float FloatKind.f64 B.lo) ∧ w'.cell? ⟨w.heap.size + 1, 1, none⟩ = some (Value.float FloatKind.f64 B.hi) ∧ w'.cell? ⟨g1, 0, none⟩ = some (Value.float FloatKind.f64 0) ∧ w'.cell? ⟨g1, 1, none⟩ = some (Value.float FloatKind.f64 0)) from fun w' h => ⟨h, (K0.out.below h K0.out.lt).cell 0, (K0.out.below h K0.out.lt).cell 1, (K1.out.below h K1.out.lt).cell 0, (K1.out.below h K1.out.lt).cell 1, (K2.out.below h K2.out.lt).cell 0, (K2.out.below h K2.out.lt).cell 1⟩)
  have D5 := Lib.hid (Below.refl V1.heap.size V1)
  obtain ⟨-, q0, q1, q2, q3, q4, q5⟩ := HO.out _ D5.out
  refine (HH.out _).mono ?_
  clear q0 q1 q2 q3 q4 q5
  rintro r w6 ⟨rfl, hb⟩
  have D6 := Lib.hid (below_step D5.out hb)
  clear hb
  obtain ⟨-, q0, q1, q2, q3, q4, q5⟩ := HO.out _ D6.out
  obtain ⟨g2, hg2⟩ : ∃ g, w6.heap.size = g := ⟨_, rfl⟩
  obtain ⟨V2, hV⟩ : ∃ V, w6.alloc (.cells #[Value.float FloatKind.f64 H.lo, Value.float FloatKind.f64 H.hi] 24) = V := ⟨_, rfl⟩
  have K0' := Lib.hid (hV ▸ Blk.alloc (Blk.below K0.out D6.out K0.out.lt) _ : Blk V2 (w.heap.size) 24 #[Value.float FloatKind.f64 A.lo, Value.float FloatKind.f64 A.hi])
  have K1' := Lib.hid (hV ▸ Blk.alloc (Blk.below K1.out D6.out K1.out.lt) _ : Blk V2 (w.heap.size + 1) 24 #[Value.float FloatKind.f64 B.lo, Value.float FloatKind.f64 B.hi])
  have K2' := Lib.hid (hV ▸ Blk.alloc (Blk.below K2.out D6.out K2.out.lt) _ : Blk V2 (g1) 24 #[Value.float FloatKind.f64 0, Value.float FloatKind.f64 0])
  have K3 := Lib.hid (show Blk V2 g2 24 #[Value.float FloatKind.f64 H.lo, Value.float FloatKind.f64 H.hi] by rw [← hV, ← hg2]; exact Blk.new_at _ _ _ rfl)
  have HB' := Lib.hid (hV ▸ below_more (below_step HB.out D6.out) _ : Below w.heap.size w V2)
  clear HB HO K0 K1 K2
  have HB := HB'
  clear HB'
  have K0 := K0'
  clear K0'
  have K1 := K1'
  clear K1'
  have K2 := K2'
  clear K2'
  have HO := Lib.hid (show ∀ w', Below V2.heap.size V2 w' → (Below V2.heap.size V2 w' ∧ w'.cell? ⟨w.heap.size, 0, none⟩ = some (Value.float FloatKind.f64 A.lo) ∧ w'.cell? ⟨w.heap.size, 1, none⟩ = some (Value.float FloatKind.f64 A.hi) ∧ w'.cell? ⟨w.heap.size + 1, 0, none⟩ = some (Value.float FloatKind.f64 B.lo) ∧ w'.cell? ⟨w.heap.size + 1, 1, none⟩ = some (Value.float FloatKind.f64 B.hi) ∧ w'.cell? ⟨g1, 0, none⟩ = some (Value.float FloatKind.f64 0) ∧ w'.cell? ⟨g1, 1, none⟩ = some (Value.float FloatKind.f64 0) ∧ w'.cell? ⟨g2, 0, none⟩ = some (Value.float FloatKind.f64 H.lo) ∧ w'.cell? ⟨g2, 1, none⟩ = some (Value.float FloatKind.f64 H.hi)) from fun w' h => ⟨h, (K0.out.below h K0.out.lt).cell 0, (K0.out.below h K0.out.lt).cell 1, (K1.out.below h K1.out.lt).cell 0, (K1.out.below h K1.out.lt).cell 1, (K2.out.below h K2.out.lt).cell 0, (K2.out.below h K2.out.lt).cell 1, (K3.out.below h K3.out.lt).cell 0, (K3.out.below h K3.out.lt).cell 1⟩)
  have D7 := Lib.hid (Below.refl V2.heap.size V2)
  obtain ⟨-, p0, p1, p2, p3, p4, p5, p6, p7⟩ := HO.out _ D7.out
  go_wp2_with fail
  clear hV hg2 q0 q1 q2 q3 q4 q5
  have q0 := p0
  clear p0
  have q1 := p1
  clear p1
  have q2 := p2
  clear p2
  have q3 := p3
  clear p3
  have q4 := p4
  clear p4
  have q5 := p5
  clear p5
  have q6 := p6
  clear p6
  have q7 := p7
  clear p7
  go_wp2_with fail
  clear q0 q1 q2 q3 q4 q5 q6 q7
  refine wp_region_held (S := (fun w' => Below V2.heap.size V2 w' ∧ w'.cell? ⟨w.heap.size, 0, none⟩ = some (Value.float FloatKind.f64 A.lo) ∧ w'.cell? ⟨w.heap.size, 1, none⟩ = some (Value.float FloatKind.f64 A.hi) ∧ w'.cell? ⟨w.heap.size + 1, 0, none⟩ = some (Value.float FloatKind.f64 B.lo) ∧ w'.cell? ⟨w.heap.size + 1, 1, none⟩ = some (Value.float FloatKind.f64 B.hi) ∧ w'.cell? ⟨g1, 0, none⟩ = some (Value.float FloatKind.f64 0) ∧ w'.cell? ⟨g1, 1, none⟩ = some (Value.float FloatKind.f64 0) ∧ w'.cell? ⟨g2, 0, none⟩ = some (Value.float FloatKind.f64 H.lo) ∧ w'.cell? ⟨g2, 1, none⟩ = some (Value.float FloatKind.f64 H.hi))) (by kernel_rfl) ?_
  (try change wpAnyH _ _ _ _ _ _ _ (World.drew _))
  have hS0 := HO.out _ (Below.drew D7.out)
  refine wpAnyH_takeN (i := 0) (v := ?v7_0) (l' := #[true, false, false, false, false, false, false, false, false, false, false, false, false, false, false, false, false, false]) (a' := ?a7_0) rfl (by kernel_rfl) (by kernel_rfl) (by kernel_rfl) (fun _ _ _ h => h) (Or.inl ⟨by kernel_rfl, ?h7_0⟩) rfl ?p7_0 hS0 ?r7_0
  case h7_0 => (intro w hS; obtain ⟨-, s0, s1, s2, s3, s4, s5, s6, s7⟩ := hS; go_simp; try with_reducible rfl)
  case p7_0 => (go_simp; try with_reducible rfl)
  refine wpAnyH_takeN (i := 1) (v := ?v7_1) (l' := #[true, true, false, false, false, false, false, false, false, false, false, false, false, false, false, false, false, false]) (a' := ?a7_1) rfl (by kernel_rfl) (by kernel_rfl) (by kernel_rfl) (fun _ _ _ h => h) (Or.inl ⟨by kernel_rfl, ?h7_1⟩) rfl ?p7_1 hS0 ?r7_1
  case h7_1 => (intro w hS; obtain ⟨-, s0, s1, s2, s3, s4, s5, s6, s7⟩ := hS; go_simp; try with_reducible rfl)
  case p7_1 => (go_simp; try with_reducible rfl)
  refine wpAnyH_takeN (i := 8) (v := ?v7_8) (l' := #[true, true, false, false, false, false, false, false, true, false, false, false, false, false, false, false, false, false]) (a' := ?a7_8) rfl (by kernel_rfl) (by kernel_rfl) (by kernel_rfl) (fun _ _ _ h => h) (Or.inl ⟨by kernel_rfl, ?h7_8⟩) rfl ?p7_8 hS0 ?r7_8
  case h7_8 => (intro w hS; obtain ⟨-, s0, s1, s2, s3, s4, s5, s6, s7⟩ := hS; go_simp; try with_reducible rfl)
  case p7_8 => (go_simp; try with_reducible rfl)
  refine wpAnyH_takeN (i := 9) (v := ?v7_9) (l' := #[true, true, false, false, false, false, false, false, true, true, false, false, false, false, false, false, false, false]) (a' := ?a7_9) rfl (by kernel_rfl) (by kernel_rfl) (by kernel_rfl) (fun _ _ _ h => h) (Or.inl ⟨by kernel_rfl, ?h7_9⟩) rfl ?p7_9 hS0 ?r7_9
  case h7_9 => (intro w hS; obtain ⟨-, s0, s1, s2, s3, s4, s5, s6, s7⟩ := hS; go_simp; try with_reducible rfl)
  case p7_9 => (go_simp; try with_reducible rfl)
  refine wpAnyH_oneN (i := 2) (l' := #[true, true, true, false, false, false, false, false, true, true, false, false, false, false, false, false, false, false]) rfl (by kernel_rfl) (by kernel_rfl) rfl (fun K hK => ?_)
  obtain ⟨hP, s0, s1, s2, s3, s4, s5, s6, s7⟩ := hS0
  go_simp
  go_at_call 18
  refine (Ha.out _).mono ?_
  rintro r w8 ⟨rfl, hb⟩
  dsimp only
  have D8 := Lib.hid (below_step hP hb)
  clear hb
  have hS1 := HO.out _ (D8.out)
  clear hP s0 s1 s2 s3 s4 s5 s6 s7
  refine hK _ _ hS1 ?_
  clear hK K
  refine wpAnyH_takeN (i := 3) (v := ?v7_3) (l' := #[true, true, true, true, false, false, false, false, true, true, false, false, false, false, false, false, false, false]) (a' := ?a7_3) rfl (by kernel_rfl) (by kernel_rfl) (by kernel_rfl) (fun _ _ _ h => h) (Or.inl ⟨by kernel_rfl, ?h7_3⟩) rfl ?p7_3 hS1 ?r7_3
  case h7_3 => (intro w hS; obtain ⟨-, s0, s1, s2, s3, s4, s5, s6, s7⟩ := hS; go_simp; try with_reducible rfl)
  case p7_3 => (go_simp; try with_reducible rfl)
  refine wpAnyH_takeN (i := 4) (v := ?v7_4) (l' := #[true, true, true, true, true, false, false, false, true, true, false, false, false, false, false, false, false, false]) (a' := ?a7_4) rfl (by kernel_rfl) (by kernel_rfl) (by kernel_rfl) (fun _ _ _ h => h) (Or.inl ⟨by kernel_rfl, ?h7_4⟩) rfl ?p7_4 hS1 ?r7_4
  case h7_4 => (intro w hS; obtain ⟨-, s0, s1, s2, s3, s4, s5, s6, s7⟩ := hS; go_simp; try with_reducible rfl)
  case p7_4 => (go_simp; try with_reducible rfl)
  refine wpAnyH_takeN (i := 5) (v := ?v7_5) (l' := #[true, true, true, true, true, true, false, false, true, true, false, false, false, false, false, false, false, false]) (a' := ?a7_5) rfl (by kernel_rfl) (by kernel_rfl) (by kernel_rfl) (fun _ _ _ h => h) (Or.inl ⟨by kernel_rfl, ?h7_5⟩) rfl ?p7_5 hS1 ?r7_5
  case h7_5 => (intro w hS; obtain ⟨-, s0, s1, s2, s3, s4, s5, s6, s7⟩ := hS; go_simp; try with_reducible rfl)
  case p7_5 => (go_simp; try with_reducible rfl)
  refine wpAnyH_oneN (i := 6) (l' := #[true, true, true, true, true, true, true, false, true, true, false, false, false, false, false, false, false, false]) rfl (by kernel_rfl) (by kernel_rfl) rfl (fun K hK => ?_)
  obtain ⟨hP, s0, s1, s2, s3, s4, s5, s6, s7⟩ := hS1
  go_simp
  go_at_call 18
  refine (Hb.out _).mono ?_
  rintro r w9 ⟨rfl, hb⟩
  dsimp only
  have D9 := Lib.hid (below_step hP hb)
  clear hb
  have hS2 := HO.out _ (D9.out)
  clear hP s0 s1 s2 s3 s4 s5 s6 s7
  refine hK _ _ hS2 ?_
  clear hK K
  refine wpAnyH_takeN (i := 7) (v := ?v7_7) (l' := #[true, true, true, true, true, true, true, true, true, true, false, false, false, false, false, false, false, false]) (a' := ?a7_7) rfl (by kernel_rfl) (by kernel_rfl) (by kernel_rfl) (fun _ _ _ h => h) (Or.inl ⟨by kernel_rfl, ?h7_7⟩) rfl ?p7_7 hS2 ?r7_7
  case h7_7 => (intro w hS; obtain ⟨-, s0, s1, s2, s3, s4, s5, s6, s7⟩ := hS; go_simp; try with_reducible rfl)
  case p7_7 => (go_simp; try with_reducible rfl)
  refine wpAnyH_oneN (i := 10) (l' := #[true, true, true, true, true, true, true, true, true, true, true, false, false, false, false, false, false, false]) rfl (by kernel_rfl) (by kernel_rfl) rfl (fun K hK => ?_)
  obtain ⟨hP, s0, s1, s2, s3, s4, s5, s6, s7⟩ := hS2
  go_simp
  go_at_call 18
  refine (Ha.out _).mono ?_
  rintro r w10 ⟨rfl, hb⟩
  dsimp only
  have D10 := Lib.hid (below_step hP hb)
  clear hb
  have hS3 := HO.out _ (D10.out)
  clear hP s0 s1 s2 s3 s4 s5 s6 s7
  refine hK _ _ hS3 ?_
  clear hK K
  refine wpAnyH_takeN (i := 11) (v := ?v7_11) (l' := #[true, true, true, true, true, true, true, true, true, true, true, true, false, false, false, false, false, false]) (a' := ?a7_11) rfl (by kernel_rfl) (by kernel_rfl) (by kernel_rfl) (fun _ _ _ h => h) (Or.inl ⟨by kernel_rfl, ?h7_11⟩) rfl ?p7_11 hS3 ?r7_11
  case h7_11 => (intro w hS; obtain ⟨-, s0, s1, s2, s3, s4, s5, s6, s7⟩ := hS; go_simp; try with_reducible rfl)
  case p7_11 => (go_simp; try with_reducible rfl)
  refine wpAnyH_takeN (i := 12) (v := undef) (l' := #[true, true, true, true, true, true, true, true, true, true, true, true, true, false, false, false, false, false]) (a' := ?a7_12) rfl (by kernel_rfl) (by kernel_rfl) (by kernel_rfl) (fun _ _ _ h => h) (Or.inr ⟨by kernel_rfl, rfl⟩) rfl ?p7_12 hS3 ?_
  case p7_12 => (go_simp; try with_reducible rfl)
  refine wpAnyH_takeN (i := 13) (v := undef) (l' := #[true, true, true, true, true, true, true, true, true, true, true, true, true, true, false, false, false, false]) (a' := ?a7_13) rfl (by kernel_rfl) (by kernel_rfl) (by kernel_rfl) (fun _ _ _ h => h) (Or.inr ⟨by kernel_rfl, rfl⟩) rfl ?p7_13 hS3 ?_
  case p7_13 => (go_simp; try with_reducible rfl)
  refine wpAnyH_takeN (i := 14) (v := undef) (l' := #[true, true, true, true, true, true, true, true, true, true, true, true, true, true, true, false, false, false]) (a' := ?a7_14) rfl (by kernel_rfl) (by kernel_rfl) (by kernel_rfl) (fun _ _ _ h => h) (Or.inr ⟨by kernel_rfl, rfl⟩) rfl ?p7_14 hS3 ?_
  case p7_14 => (go_simp; try with_reducible rfl)
  refine wpAnyH_takeN (i := 15) (v := ?v7_15) (l' := #[true, true, true, true, true, true, true, true, true, true, true, true, true, true, true, true, false, false]) (a' := ?a7_15) rfl (by kernel_rfl) (by kernel_rfl) (by kernel_rfl) (fun _ _ _ h => h) (Or.inl ⟨by kernel_rfl, ?h7_15⟩) rfl ?p7_15 hS3 ?r7_15
  case h7_15 => (intro w hS; obtain ⟨-, s0, s1, s2, s3, s4, s5, s6, s7⟩ := hS; go_simp; try with_reducible rfl)
  case p7_15 => (go_simp; try with_reducible rfl)
  refine wpAnyH_takeN (i := 16) (v := ?v7_16) (l' := #[true, true, true, true, true, true, true, true, true, true, true, true, true, true, true, true, true, false]) (a' := ?a7_16) rfl (by kernel_rfl) (by kernel_rfl) (by kernel_rfl) (fun _ _ _ h => h) (Or.inl ⟨by kernel_rfl, ?h7_16⟩) rfl ?p7_16 hS3 ?r7_16
  case h7_16 => (intro w hS; obtain ⟨-, s0, s1, s2, s3, s4, s5, s6, s7⟩ := hS; go_simp; try with_reducible rfl)
  case p7_16 => (go_simp; try with_reducible rfl)
  refine wpAnyH_takeN (i := 17) (v := ?v7_17) (l' := #[true, true, true, true, true, true, true, true, true, true, true, true, true, true, true, true, true, true]) (a' := ?a7_17) rfl (by kernel_rfl) (by kernel_rfl) (by kernel_rfl) (fun _ _ _ h => h) (Or.inl ⟨by kernel_rfl, ?h7_17⟩) rfl ?p7_17 hS3 ?r7_17
  case h7_17 => (intro w hS; obtain ⟨-, s0, s1, s2, s3, s4, s5, s6, s7⟩ := hS; go_simp; try with_reducible rfl)
  case p7_17 => (go_simp; try with_reducible rfl)
  refine wpAnyH_done (by kernel_rfl) ?_ _
  clear hS3
  obtain ⟨-, q0, q1, q2, q3, q4, q5, q6, q7⟩ := HO.out _ D10.out
  go_wp2_with fail
  refine (Hh.out _).mono ?_
  clear q0 q1 q2 q3 q4 q5 q6 q7
  rintro r w11 ⟨rfl, hb⟩
  have D11 := Lib.hid (below_step D10.out hb)
  clear hb
  obtain ⟨-, q0, q1, q2, q3, q4, q5, q6, q7⟩ := HO.out _ D11.out
  go_wp2_with fail
  go_ret
  exact ⟨rfl, below_step HB.out D11.out⟩
theorem meets_good (A B : Sp) (x : Nat) (hx : x < 18446744073709551616) (w : World) : Calls Try.prog 3 #[.agg #[.float .f64 A.lo, .float .f64 A.hi], .agg #[.float .f64 B.lo, .float .f64 B.hi], .float .f64 x] w fun r w' => r = .returned (.bool true) ∧ Below w.heap.size w w' := by
  have f := meet_facts A B x hx
  by_cases h : Z (mn A.hi B.hi) < Z (mx A.lo B.lo)
  · have n := meet_none A B x hx h
    cases ea : hasB A x <;> cases eb : hasB B x
    · exact meets_n00 A B (hullS A B) x ea eb (fun w => meet_sp0 A B h w) (fun w => hull_sp A B w) w
    · exact meets_n01 A B (hullS A B) x ea eb (f.resolve_right (by rw [ea, eb]; decide)) (fun w => meet_sp0 A B h w) (fun w => hull_sp A B w) w
    · exact meets_n10 A B (hullS A B) x ea eb (f.resolve_right (by rw [ea, eb]; decide)) (fun w => meet_sp0 A B h w) (fun w => hull_sp A B w) w
    · rw [ea, eb] at n; exact absurd n (by decide)
  · have n := meet_some A B (meetS A B h) x hx rfl rfl
    cases ea : hasB A x <;> cases eb : hasB B x <;> rw [ea, eb] at n
    · exact meets_y00 A B (hullS A B) (meetS A B h) x ea eb n (fun w => meet_sp1 A B h w) (fun w => hull_sp A B w) w
    · exact meets_y01 A B (hullS A B) (meetS A B h) x ea eb n (f.resolve_right (by rw [ea, eb]; decide)) (fun w => meet_sp1 A B h w) (fun w => hull_sp A B w) w
    · exact meets_y10 A B (hullS A B) (meetS A B h) x ea eb n (f.resolve_right (by rw [ea, eb]; decide)) (fun w => meet_sp1 A B h w) (fun w => hull_sp A B w) w
    · exact meets_y11 A B (hullS A B) (meetS A B h) x ea eb n (f.resolve_right (by rw [ea, eb]; decide)) (fun w => meet_sp1 A B h w) (fun w => hull_sp A B w) w
theorem walk_meets (a b c d x : Nat) (ha : a < 18446744073709551616) (hb : b < 18446744073709551616) (hc : c < 18446744073709551616) (hd : d < 18446744073709551616) (hx : x < 18446744073709551616) (w : World) : Calls Try.prog 3 #[.agg #[.float .f64 a, .float .f64 b], .agg #[.float .f64 c, .float .f64 d], .float .f64 x] w fun r w' => r = .returned (.bool true) ∧ Below w.heap.size w w' := by
  cases h1 : vdB a b
  · exact meets_n1 a b c d x ha hb hc hd h1 w
  · cases h2 : vdB c d
    · exact meets_n2 a b c d x ha hb hc hd h1 h2 w
    · exact meets_good ⟨a, b, vdB_true ha hb h1⟩ ⟨c, d, vdB_true hc hd h2⟩ x hx w
end Go.Proofs.Ytlpnfgglpoppfaa
