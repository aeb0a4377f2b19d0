/- The walk of SpanReckons, they don't (gen_lb.py). -/
import Derived.Test.YtlpnfgglpoppfaaGf
import Derived.Test.YtlpnfgglpoppfaaSf
set_option linter.unusedVariables false
set_option linter.unusedSimpArgs false
namespace Go.Proofs.Ytlpnfgglpoppfaa
open Go.RowKit Fl

set_option maxRecDepth 100000 in
set_option maxHeartbeats 8000000 in
theorem reckons_n (A B : Sp) (h :  Z (mn A.hi B.hi) < Z (mx A.lo B.lo)) (w : World) : Calls Try.prog 11 #[.agg #[.float .f64 A.lo, .float .f64 A.hi], .agg #[.float .f64 B.lo, .float .f64 B.hi]] w fun r w' => r = .returned (.bool true) ∧ Below w.heap.size w w' := by
  have H0 := Lib.hid awake2
  have HV := Lib.hid (fun w => rvalid_any A.lo A.hi A.vd.l.lt A.vd.h.lt w)
  have HW := Lib.hid (fun w => rvalid_any B.lo B.hi B.vd.l.lt B.vd.h.lt w)
  rw [vdB_of A.vd] at HV
  rw [vdB_of B.vd] at HW
  have C0 := Lib.hid (fun w => add_sp A B w)
  have R0 := Lib.hid (fun w => radd_sp A B w)
  obtain ⟨s0, hs⟩ : ∃ s, addS A B = s := ⟨_, rfl⟩
  rw [hs] at C0 R0
  clear hs
  have Q0 := Lib.hid (fun w => rsame_sp s0 w)
  have C1 := Lib.hid (fun w => neg_sp A w)
  have R1 := Lib.hid (fun w => rneg_sp A w)
  obtain ⟨s1, hs⟩ : ∃ s, negS A = s := ⟨_, rfl⟩
  rw [hs] at C1 R1
  clear hs
  have Q1 := Lib.hid (fun w => rsame_sp s1 w)
  have C2 := Lib.hid (fun w => sub_sp A B w)
  have R2 := Lib.hid (fun w => rsub_sp A B w)
  obtain ⟨s2, hs⟩ : ∃ s, subS A B = s := ⟨_, rfl⟩
  rw [hs] at C2 R2
  clear hs
  have Q2 := Lib.hid (fun w => rsame_sp s2 w)
  have C3 := Lib.hid (fun w => mul_sp A B w)
  have R3 := Lib.hid (fun w => rmul_sp A B w)
  obtain ⟨s3, hs⟩ : ∃ s, mulS A B = s := ⟨_, rfl⟩
  rw [hs] at C3 R3
  clear hs
  have Q3 := Lib.hid (fun w => rsame_sp s3 w)
  have C4 := Lib.hid (fun w => div_sp A B w)
  have R4 := Lib.hid (fun w => rdiv_sp A B w)
  obtain ⟨s4, hs⟩ : ∃ s, divS A B = s := ⟨_, rfl⟩
  rw [hs] at C4 R4
  clear hs
  have Q4 := Lib.hid (fun w => rsame_sp s4 w)
  have C5 := Lib.hid (fun w => sqr_sp A w)
  have R5 := Lib.hid (fun w => rsqr_sp A w)
  obtain ⟨s5, hs⟩ : ∃ s, sqrS A = s := ⟨_, rfl⟩
  rw [hs] at C5 R5
  clear hs
  have Q5 := Lib.hid (fun w => rsame_sp s5 w)
  have C6 := Lib.hid (fun w => sqrt_sp A w)
  have R6 := Lib.hid (fun w => rsqrt_sp A w)
  obtain ⟨s6, hs⟩ : ∃ s, sqrtS A = s := ⟨_, rfl⟩
  rw [hs] at C6 R6
  clear hs
  have Q6 := Lib.hid (fun w => rsame_sp s6 w)
  have C7 := Lib.hid (fun w => min_sp A B w)
  have R7 := Lib.hid (fun w => rmin_sp A B w)
  obtain ⟨s7, hs⟩ : ∃ s, minS A B = s := ⟨_, rfl⟩
  rw [hs] at C7 R7
  clear hs
  have Q7 := Lib.hid (fun w => rsame_sp s7 w)
  have C8 := Lib.hid (fun w => max_sp A B w)
  have R8 := Lib.hid (fun w => rmax_sp A B w)
  obtain ⟨s8, hs⟩ : ∃ s, maxS A B = s := ⟨_, rfl⟩
  rw [hs] at C8 R8
  clear hs
  have Q8 := Lib.hid (fun w => rsame_sp s8 w)
  have C9 := Lib.hid (fun w => hull_sp A B w)
  have R9 := Lib.hid (fun w => rhull_sp A B w)
  obtain ⟨s9, hs⟩ : ∃ s, hullS A B = s := ⟨_, rfl⟩
  rw [hs] at C9 R9
  clear hs
  have Q9 := Lib.hid (fun w => rsame_sp s9 w)
  have CM := Lib.hid (fun w => meet_sp0 A B h w)
  have RM := Lib.hid (fun w => rmeet_sp0 A B h w)
  have QM := Lib.hid (fun w => rsame_any 0 0 w)
  clear h
  go_enter Try.func11, Try.ntmps11
  go_wp2_with fail
  obtain ⟨W, hW, K0, K1, hB, hz⟩ := bx2 w 24 24 #[Value.float FloatKind.f64 A.lo, Value.float FloatKind.f64 A.hi] #[Value.float FloatKind.f64 B.lo, Value.float FloatKind.f64 B.hi]
  rw [← hW]
  have K0 := Lib.hid K0
  have K1 := Lib.hid K1
  have HB := Lib.hid hB
  clear hW hB hz
  have HO := Lib.hid (show ∀ w', Below W.heap.size W w' → (Below W.heap.size W w' ∧ w'.cell? ⟨w.heap.size, 0, none⟩ = some (Value.float FloatKind.f64 A.lo) ∧ w'.cell? ⟨w.heap.size, 1, none⟩ = some (Value.float FloatKind.f64 A.hi) ∧ w'.cell? ⟨w.heap.size + 1, 0, none⟩ = some (Value.float FloatKind.f64 B.lo) ∧ w'.cell? ⟨w.heap.size + 1, 1, none⟩ = some (Value.float FloatKind.f64 B.hi)) from fun w' h => ⟨h, (K0.out.below h K0.out.lt).cell 0, (K0.out.below h K0.out.lt).cell 1, (K1.out.below h K1.out.lt).cell 0, (K1.out.below h K1.out.lt).cell 1⟩)
  have D0 := Lib.hid (Below.refl W.heap.size W)
  refine (H0.out _).mono ?_
  rintro r w1 ⟨rfl, hb⟩
  have D1 := Lib.hid (below_step D0.out hb)
  clear hb
  obtain ⟨-, q0, q1, q2, q3⟩ := HO.out _ D1.out
  go_wp2_with fail
  refine (HV.out _).mono ?_
  clear q0 q1 q2 q3
  rintro r w2 ⟨rfl, hb⟩
  have D2 := Lib.hid (below_step D1.out hb)
  clear hb
  obtain ⟨-, q0, q1, q2, q3⟩ := HO.out _ D2.out
  go_wp2_with fail
  refine (HW.out _).mono ?_
  clear q0 q1 q2 q3
  rintro r w3 ⟨rfl, hb⟩
  have D3 := Lib.hid (below_step D2.out hb)
  clear hb
  obtain ⟨-, q0, q1, q2, q3⟩ := HO.out _ D3.out
  go_wp2_with fail
  refine (CM.out _).mono ?_
  clear q0 q1 q2 q3
  rintro r w4 ⟨rfl, hb⟩
  have D4 := Lib.hid (below_step D3.out hb)
  clear hb
  obtain ⟨-, q0, q1, q2, q3⟩ := HO.out _ D4.out
  obtain ⟨g1, hg1⟩ : ∃ g, w4.heap.size = g := ⟨_, rfl⟩
  have y0 : w.heap.size < g1 := by have := (K0.out.below D4.out K0.out.lt).lt; rw [hg1] at this; exact this
  have y1 : w.heap.size + 1 < g1 := by have := (K1.out.below D4.out K1.out.lt).lt; rw [hg1] at this; exact this
  go_wp2_with fail
  obtain ⟨V1, hV⟩ : ∃ V, w4.alloc (.cells #[Value.float FloatKind.f64 0, Value.float FloatKind.f64 0] 24) = V := ⟨_, rfl⟩
  rw [hV]
  clear q0 q1 q2 q3
  have K0' := Lib.hid (hV ▸ Blk.alloc (Blk.below K0.out D4.out K0.out.lt) _ : Blk V1 (w.heap.size) 24 #[Value.float FloatKind.f64 A.lo, Value.float FloatKind.f64 A.hi])
  have K1' := Lib.hid (hV ▸ Blk.alloc (Blk.below K1.out D4.out K1.out.lt) _ : Blk V1 (w.heap.size + 1) 24 #[Value.float FloatKind.f64 B.lo, Value.float FloatKind.f64 B.hi])
  have K2 := Lib.hid (show Blk V1 g1 24 #[Value.float FloatKind.f64 0, Value.float FloatKind.f64 0] by rw [← hV, ← hg1]; exact Blk.new_at _ _ _ rfl)
  have HB' := Lib.hid (hV ▸ below_more (below_step HB.out D4.out) _ : Below w.heap.size w V1)
  clear HB HO hV hg1 K0 K1 y0 y1
  have HB := HB'
  clear HB'
  have K0 := K0'
  clear K0'
  have K1 := K1'
  clear K1'
  have HO := Lib.hid (show ∀ w', Below V1.heap.size V1 w' → (Below V1.heap.size V1 w' ∧ w'.cell? ⟨w.heap.size, 0, none⟩ = some (Value.float FloatKind.f64 A.lo) ∧ w'.cell? ⟨w.heap.size, 1, none⟩ = some (Value.float FloatKind.f64 A.hi) ∧ w'.cell? ⟨w.heap.size + 1, 0, none⟩ = some (Value.float FloatKind.f64 B.lo) ∧ w'.cell? ⟨w.heap.size + 1, 1, none⟩ = some (Value.float FloatKind.f64 B.hi) ∧ w'.cell? ⟨g1, 0, none⟩ = some (Value.float FloatKind.f64 0) ∧ w'.cell? ⟨g1, 1, none⟩ = some (Value.float FloatKind.f64 0)) from fun w' h => ⟨h, (K0.out.below h K0.out.lt).cell 0, (K0.out.below h K0.out.lt).cell 1, (K1.out.below h K1.out.lt).cell 0, (K1.out.below h K1.out.lt).cell 1, (K2.out.below h K2.out.lt).cell 0, (K2.out.below h K2.out.lt).cell 1⟩)
  have D5 := Lib.hid (Below.refl V1.heap.size V1)
  obtain ⟨-, q0, q1, q2, q3, q4, q5⟩ := HO.out _ D5.out
  refine (RM.out _).mono ?_
  clear q0 q1 q2 q3 q4 q5
  rintro r w6 ⟨rfl, hb⟩
  have D6 := Lib.hid (below_step D5.out hb)
  clear hb
  obtain ⟨-, q0, q1, q2, q3, q4, q5⟩ := HO.out _ D6.out
  obtain ⟨g2, hg2⟩ : ∃ g, w6.heap.size = g := ⟨_, rfl⟩
  have y0 : w.heap.size < g2 := by have := (K0.out.below D6.out K0.out.lt).lt; rw [hg2] at this; exact this
  have y1 : w.heap.size + 1 < g2 := by have := (K1.out.below D6.out K1.out.lt).lt; rw [hg2] at this; exact this
  have y2 : g1 < g2 := by have := (K2.out.below D6.out K2.out.lt).lt; rw [hg2] at this; exact this
  go_wp2_with fail
  obtain ⟨V2, hV⟩ : ∃ V, w6.alloc (.cells #[Value.float FloatKind.f64 0, Value.float FloatKind.f64 0] 24) = V := ⟨_, rfl⟩
  rw [hV]
  clear q0 q1 q2 q3 q4 q5
  have K0' := Lib.hid (hV ▸ Blk.alloc (Blk.below K0.out D6.out K0.out.lt) _ : Blk V2 (w.heap.size) 24 #[Value.float FloatKind.f64 A.lo, Value.float FloatKind.f64 A.hi])
  have K1' := Lib.hid (hV ▸ Blk.alloc (Blk.below K1.out D6.out K1.out.lt) _ : Blk V2 (w.heap.size + 1) 24 #[Value.float FloatKind.f64 B.lo, Value.float FloatKind.f64 B.hi])
  have K2' := Lib.hid (hV ▸ Blk.alloc (Blk.below K2.out D6.out K2.out.lt) _ : Blk V2 (g1) 24 #[Value.float FloatKind.f64 0, Value.float FloatKind.f64 0])
  have K3 := Lib.hid (show Blk V2 g2 24 #[Value.float FloatKind.f64 0, Value.float FloatKind.f64 0] by rw [← hV, ← hg2]; exact Blk.new_at _ _ _ rfl)
  have HB' := Lib.hid (hV ▸ below_more (below_step HB.out D6.out) _ : Below w.heap.size w V2)
  clear HB HO hV hg2 K0 K1 K2 y0 y1 y2
  have HB := HB'
  clear HB'
  have K0 := K0'
  clear K0'
  have K1 := K1'
  clear K1'
  have K2 := K2'
  clear K2'
  have HO := Lib.hid (show ∀ w', Below V2.heap.size V2 w' → (Below V2.heap.size V2 w' ∧ w'.cell? ⟨w.heap.size, 0, none⟩ = some (Value.float FloatKind.f64 A.lo) ∧ w'.cell? ⟨w.heap.size, 1, none⟩ = some (Value.float FloatKind.f64 A.hi) ∧ w'.cell? ⟨w.heap.size + 1, 0, none⟩ = some (Value.float FloatKind.f64 B.lo) ∧ w'.cell? ⟨w.heap.size + 1, 1, none⟩ = some (Value.float FloatKind.f64 B.hi) ∧ w'.cell? ⟨g1, 0, none⟩ = some (Value.float FloatKind.f64 0) ∧ w'.cell? ⟨g1, 1, none⟩ = some (Value.float FloatKind.f64 0) ∧ w'.cell? ⟨g2, 0, none⟩ = some (Value.float FloatKind.f64 0) ∧ w'.cell? ⟨g2, 1, none⟩ = some (Value.float FloatKind.f64 0)) from fun w' h => ⟨h, (K0.out.below h K0.out.lt).cell 0, (K0.out.below h K0.out.lt).cell 1, (K1.out.below h K1.out.lt).cell 0, (K1.out.below h K1.out.lt).cell 1, (K2.out.below h K2.out.lt).cell 0, (K2.out.below h K2.out.lt).cell 1, (K3.out.below h K3.out.lt).cell 0, (K3.out.below h K3.out.lt).cell 1⟩)
  have D7 := Lib.hid (Below.refl V2.heap.size V2)
  obtain ⟨-, q0, q1, q2, q3, q4, q5, q6, q7⟩ := HO.out _ D7.out
  go_wp2_with fail
  clear q0 q1 q2 q3 q4 q5 q6 q7
  refine wp_region_held (S := (fun w' => Below V2.heap.size V2 w' ∧ w'.cell? ⟨w.heap.size, 0, none⟩ = some (Value.float FloatKind.f64 A.lo) ∧ w'.cell? ⟨w.heap.size, 1, none⟩ = some (Value.float FloatKind.f64 A.hi) ∧ w'.cell? ⟨w.heap.size + 1, 0, none⟩ = some (Value.float FloatKind.f64 B.lo) ∧ w'.cell? ⟨w.heap.size + 1, 1, none⟩ = some (Value.float FloatKind.f64 B.hi) ∧ w'.cell? ⟨g1, 0, none⟩ = some (Value.float FloatKind.f64 0) ∧ w'.cell? ⟨g1, 1, none⟩ = some (Value.float FloatKind.f64 0) ∧ w'.cell? ⟨g2, 0, none⟩ = some (Value.float FloatKind.f64 0) ∧ w'.cell? ⟨g2, 1, none⟩ = some (Value.float FloatKind.f64 0))) (by kernel_rfl) ?_
  (try change wpAnyH _ _ _ _ _ _ _ (World.drew _))
  have hS0 := HO.out _ (Below.drew D7.out)
  refine wpAnyH_takeN (i := 0) (v := ?v7_0) (l' := #[true, false, false, false, false, false, false, false, false, false, false, false, false, false, false, false, false, false, false, false, false, false, false, false, false, false, false, false, false, false, false, false, false, false, false, false, false, false, false, false, false, false, false, false, false, false]) (a' := ?a7_0) rfl (by kernel_rfl) (by kernel_rfl) (by kernel_rfl) (fun _ _ _ h => h) (Or.inl ⟨by kernel_rfl, ?h7_0⟩) rfl ?p7_0 hS0 ?r7_0
  case h7_0 => (intro w hS; obtain ⟨-, s0, s1, s2, s3, s4, s5, s6, s7⟩ := hS; go_simp; try with_reducible rfl)
  case p7_0 => (go_simp; try with_reducible rfl)
  refine wpAnyH_takeN (i := 1) (v := ?v7_1) (l' := #[true, true, false, false, false, false, false, false, false, false, false, false, false, false, false, false, false, false, false, false, false, false, false, false, false, false, false, false, false, false, false, false, false, false, false, false, false, false, false, false, false, false, false, false, false, false]) (a' := ?a7_1) rfl (by kernel_rfl) (by kernel_rfl) (by kernel_rfl) (fun _ _ _ h => h) (Or.inl ⟨by kernel_rfl, ?h7_1⟩) rfl ?p7_1 hS0 ?r7_1
  case h7_1 => (intro w hS; obtain ⟨-, s0, s1, s2, s3, s4, s5, s6, s7⟩ := hS; go_simp; try with_reducible rfl)
  case p7_1 => (go_simp; try with_reducible rfl)
  refine wpAnyH_takeN (i := 3) (v := ?v7_3) (l' := #[true, true, false, true, false, false, false, false, false, false, false, false, false, false, false, false, false, false, false, false, false, false, false, false, false, false, false, false, false, false, false, false, false, false, false, false, false, false, false, false, false, false, false, false, false, false]) (a' := ?a7_3) rfl (by kernel_rfl) (by kernel_rfl) (by kernel_rfl) (fun _ _ _ h => h) (Or.inl ⟨by kernel_rfl, ?h7_3⟩) rfl ?p7_3 hS0 ?r7_3
  case h7_3 => (intro w hS; obtain ⟨-, s0, s1, s2, s3, s4, s5, s6, s7⟩ := hS; go_simp; try with_reducible rfl)
  case p7_3 => (go_simp; try with_reducible rfl)
  refine wpAnyH_takeN (i := 4) (v := ?v7_4) (l' := #[true, true, false, true, true, false, false, false, false, false, false, false, false, false, false, false, false, false, false, false, false, false, false, false, false, false, false, false, false, false, false, false, false, false, false, false, false, false, false, false, false, false, false, false, false, false]) (a' := ?a7_4) rfl (by kernel_rfl) (by kernel_rfl) (by kernel_rfl) (fun _ _ _ h => h) (Or.inl ⟨by kernel_rfl, ?h7_4⟩) rfl ?p7_4 hS0 ?r7_4
  case h7_4 => (intro w hS; obtain ⟨-, s0, s1, s2, s3, s4, s5, s6, s7⟩ := hS; go_simp; try with_reducible rfl)
  case p7_4 => (go_simp; try with_reducible rfl)
  refine wpAnyH_oneN (i := 2) (l' := #[true, true, true, true, true, false, false, false, false, false, false, false, false, false, false, false, false, false, false, false, false, false, false, false, false, false, false, false, false, false, false, false, false, false, false, false, false, false, false, false, false, false, false, false, false, false]) rfl (by kernel_rfl) (by kernel_rfl) rfl (fun K hK => ?_)
  obtain ⟨hP, s0, s1, s2, s3, s4, s5, s6, s7⟩ := hS0
  go_simp
  go_at_call 37
  refine (C0.out _).mono ?_
  rintro r w8 ⟨rfl, hb⟩
  dsimp only
  have D8 := Lib.hid (below_step hP hb)
  clear hb
  have hS1 := HO.out _ (D8.out)
  clear hP s0 s1 s2 s3 s4 s5 s6 s7
  refine hK _ _ hS1 ?_
  clear hK K
  refine wpAnyH_oneN (i := 5) (l' := #[true, true, true, true, true, true, false, false, false, false, false, false, false, false, false, false, false, false, false, false, false, false, false, false, false, false, false, false, false, false, false, false, false, false, false, false, false, false, false, false, false, false, false, false, false, false]) rfl (by kernel_rfl) (by kernel_rfl) rfl (fun K hK => ?_)
  obtain ⟨hP, s0, s1, s2, s3, s4, s5, s6, s7⟩ := hS1
  go_simp
  go_at_call 56
  refine (R0.out _).mono ?_
  rintro r w9 ⟨rfl, hb⟩
  dsimp only
  have D9 := Lib.hid (below_step hP hb)
  clear hb
  have hS2 := HO.out _ (D9.out)
  clear hP s0 s1 s2 s3 s4 s5 s6 s7
  refine hK _ _ hS2 ?_
  clear hK K
  refine wpAnyH_oneN (i := 6) (l' := #[true, true, true, true, true, true, true, false, false, false, false, false, false, false, false, false, false, false, false, false, false, false, false, false, false, false, false, false, false, false, false, false, false, false, false, false, false, false, false, false, false, false, false, false, false, false]) rfl (by kernel_rfl) (by kernel_rfl) rfl (fun K hK => ?_)
  obtain ⟨hP, s0, s1, s2, s3, s4, s5, s6, s7⟩ := hS2
  go_simp
  go_at_call 21
  refine (Q0.out _).mono ?_
  rintro r w10 ⟨rfl, hb⟩
  dsimp only
  have D10 := Lib.hid (below_step hP hb)
  clear hb
  have hS3 := HO.out _ (D10.out)
  clear hP s0 s1 s2 s3 s4 s5 s6 s7
  refine hK _ _ hS3 ?_
  clear hK K
  refine wpAnyH_takeN (i := 7) (v := ?v7_7) (l' := #[true, true, true, true, true, true, true, true, false, false, false, false, false, false, false, false, false, false, false, false, false, false, false, false, false, false, false, false, false, false, false, false, false, false, false, false, false, false, false, false, false, false, false, false, false, false]) (a' := ?a7_7) rfl (by kernel_rfl) (by kernel_rfl) (by kernel_rfl) (fun _ _ _ h => h) (Or.inl ⟨by kernel_rfl, ?h7_7⟩) rfl ?p7_7 hS3 ?r7_7
  case h7_7 => (intro w hS; obtain ⟨-, s0, s1, s2, s3, s4, s5, s6, s7⟩ := hS; go_simp; try with_reducible rfl)
  case p7_7 => (go_simp; try with_reducible rfl)
  refine wpAnyH_takeN (i := 8) (v := ?v7_8) (l' := #[true, true, true, true, true, true, true, true, true, false, false, false, false, false, false, false, false, false, false, false, false, false, false, false, false, false, false, false, false, false, false, false, false, false, false, false, false, false, false, false, false, false, false, false, false, false]) (a' := ?a7_8) rfl (by kernel_rfl) (by kernel_rfl) (by kernel_rfl) (fun _ _ _ h => h) (Or.inl ⟨by kernel_rfl, ?h7_8⟩) rfl ?p7_8 hS3 ?r7_8
  case h7_8 => (intro w hS; obtain ⟨-, s0, s1, s2, s3, s4, s5, s6, s7⟩ := hS; go_simp; try with_reducible rfl)
  case p7_8 => (go_simp; try with_reducible rfl)
  refine wpAnyH_takeN (i := 9) (v := ?v7_9) (l' := #[true, true, true, true, true, true, true, true, true, true, false, false, false, false, false, false, false, false, false, false, false, false, false, false, false, false, false, false, false, false, false, false, false, false, false, false, false, false, false, false, false, false, false, false, false, false]) (a' := ?a7_9) rfl (by kernel_rfl) (by kernel_rfl) (by kernel_rfl) (fun _ _ _ h => h) (Or.inl ⟨by kernel_rfl, ?h7_9⟩) rfl ?p7_9 hS3 ?r7_9
  case h7_9 => (intro w hS; obtain ⟨-, s0, s1, s2, s3, s4, s5, s6, s7⟩ := hS; go_simp; try with_reducible rfl)
  case p7_9 => (go_simp; try with_reducible rfl)
  refine wpAnyH_takeN (i := 11) (v := ?v7_11) (l' := #[true, true, true, true, true, true, true, true, true, true, false, true, false, false, false, false, false, false, false, false, false, false, false, false, false, false, false, false, false, false, false, false, false, false, false, false, false, false, false, false, false, false, false, false, false, false]) (a' := ?a7_11) rfl (by kernel_rfl) (by kernel_rfl) (by kernel_rfl) (fun _ _ _ h => h) (Or.inl ⟨by kernel_rfl, ?h7_11⟩) rfl ?p7_11 hS3 ?r7_11
  case h7_11 => (intro w hS; obtain ⟨-, s0, s1, s2, s3, s4, s5, s6, s7⟩ := hS; go_simp; try with_reducible rfl)
  case p7_11 => (go_simp; try with_reducible rfl)
  refine wpAnyH_oneN (i := 10) (l' := #[true, true, true, true, true, true, true, true, true, true, true, true, false, false, false, false, false, false, false, false, false, false, false, false, false, false, false, false, false, false, false, false, false, false, false, false, false, false, false, false, false, false, false, false, false, false]) rfl (by kernel_rfl) (by kernel_rfl) rfl (fun K hK => ?_)
  obtain ⟨hP, s0, s1, s2, s3, s4, s5, s6, s7⟩ := hS3
  go_simp
  go_at_call 47
  refine (C1.out _).mono ?_
  rintro r w11 ⟨rfl, hb⟩
  dsimp only
  have D11 := Lib.hid (below_step hP hb)
  clear hb
  have hS4 := HO.out _ (D11.out)
  clear hP s0 s1 s2 s3 s4 s5 s6 s7
  refine hK _ _ hS4 ?_
  clear hK K
  refine wpAnyH_oneN (i := 12) (l' := #[true, true, true, true, true, true, true, true, true, true, true, true, true, false, false, false, false, false, false, false, false, false, false, false, false, false, false, false, false, false, false, false, false, false, false, false, false, false, false, false, false, false, false, false, false, false]) rfl (by kernel_rfl) (by kernel_rfl) rfl (fun K hK => ?_)
  obtain ⟨hP, s0, s1, s2, s3, s4, s5, s6, s7⟩ := hS4
  go_simp
  go_at_call 57
  refine (R1.out _).mono ?_
  rintro r w12 ⟨rfl, hb⟩
  dsimp only
  have D12 := Lib.hid (below_step hP hb)
  clear hb
  have hS5 := HO.out _ (D12.out)
  clear hP s0 s1 s2 s3 s4 s5 s6 s7
  refine hK _ _ hS5 ?_
  clear hK K
  refine wpAnyH_oneN (i := 13) (l' := #[true, true, true, true, true, true, true, true, true, true, true, true, true, true, false, false, false, false, false, false, false, false, false, false, false, false, false, false, false, false, false, false, false, false, false, false, false, false, false, false, false, false, false, false, false, false]) rfl (by kernel_rfl) (by kernel_rfl) rfl (fun K hK => ?_)
  obtain ⟨hP, s0, s1, s2, s3, s4, s5, s6, s7⟩ := hS5
  go_simp
  go_at_call 21
  refine (Q1.out _).mono ?_
  rintro r w13 ⟨rfl, hb⟩
  dsimp only
  have D13 := Lib.hid (below_step hP hb)
  clear hb
  have hS6 := HO.out _ (D13.out)
  clear hP s0 s1 s2 s3 s4 s5 s6 s7
  refine hK _ _ hS6 ?_
  clear hK K
  refine wpAnyH_takeN (i := 14) (v := ?v7_14) (l' := #[true, true, true, true, true, true, true, true, true, true, true, true, true, true, true, false, false, false, false, false, false, false, false, false, false, false, false, false, false, false, false, false, false, false, false, false, false, false, false, false, false, false, false, false, false, false]) (a' := ?a7_14) rfl (by kernel_rfl) (by kernel_rfl) (by kernel_rfl) (fun _ _ _ h => h) (Or.inl ⟨by kernel_rfl, ?h7_14⟩) rfl ?p7_14 hS6 ?r7_14
  case h7_14 => (intro w hS; obtain ⟨-, s0, s1, s2, s3, s4, s5, s6, s7⟩ := hS; go_simp; try with_reducible rfl)
  case p7_14 => (go_simp; try with_reducible rfl)
  refine wpAnyH_takeN (i := 15) (v := ?v7_15) (l' := #[true, true, true, true, true, true, true, true, true, true, true, true, true, true, true, true, false, false, false, false, false, false, false, false, false, false, false, false, false, false, false, false, false, false, false, false, false, false, false, false, false, false, false, false, false, false]) (a' := ?a7_15) rfl (by kernel_rfl) (by kernel_rfl) (by kernel_rfl) (fun _ _ _ h => h) (Or.inl ⟨by kernel_rfl, ?h7_15⟩) rfl ?p7_15 hS6 ?r7_15
  case h7_15 => (intro w hS; obtain ⟨-, s0, s1, s2, s3, s4, s5, s6, s7⟩ := hS; go_simp; try with_reducible rfl)
  case p7_15 => (go_simp; try with_reducible rfl)
  refine wpAnyH_takeN (i := 16) (v := ?v7_16) (l' := #[true, true, true, true, true, true, true, true, true, true, true, true, true, true, true, true, true, false, false, false, false, false, false, false, false, false, false, false, false, false, false, false, false, false, false, false, false, false, false, false, false, false, false, false, false, false]) (a' := ?a7_16) rfl (by kernel_rfl) (by kernel_rfl) (by kernel_rfl) (fun _ _ _ h => h) (Or.inl ⟨by kernel_rfl, ?h7_16⟩) rfl ?p7_16 hS6 ?r7_16
  case h7_16 => (intro w hS; obtain ⟨-, s0, s1, s2, s3, s4, s5, s6, s7⟩ := hS; go_simp; try with_reducible rfl)
  case p7_16 => (go_simp; try with_reducible rfl)
  refine wpAnyH_takeN (i := 17) (v := ?v7_17) (l' := #[true, true, true, true, true, true, true, true, true, true, true, true, true, true, true, true, true, true, false, false, false, false, false, false, false, false, false, false, false, false, false, false, false, false, false, false, false, false, false, false, false, false, false, false, false, false]) (a' := ?a7_17) rfl (by kernel_rfl) (by kernel_rfl) (by kernel_rfl) (fun _ _ _ h => h) (Or.inl ⟨by kernel_rfl, ?h7_17⟩) rfl ?p7_17 hS6 ?r7_17
  case h7_17 => (intro w hS; obtain ⟨-, s0, s1, s2, s3, s4, s5, s6, s7⟩ := hS; go_simp; try with_reducible rfl)
  case p7_17 => (go_simp; try with_reducible rfl)
  refine wpAnyH_takeN (i := 18) (v := ?v7_18) (l' := #[true, true, true, true, true, true, true, true, true, true, true, true, true, true, true, true, true, true, true, false, false, false, false, false, false, false, false, false, false, false, false, false, false, false, false, false, false, false, false, false, false, false, false, false, false, false]) (a' := ?a7_18) rfl (by kernel_rfl) (by kernel_rfl) (by kernel_rfl) (fun _ _ _ h => h) (Or.inl ⟨by kernel_rfl, ?h7_18⟩) rfl ?p7_18 hS6 ?r7_18
  case h7_18 => (intro w hS; obtain ⟨-, s0, s1, s2, s3, s4, s5, s6, s7⟩ := hS; go_simp; try with_reducible rfl)
  case p7_18 => (go_simp; try with_reducible rfl)
  refine wpAnyH_takeN (i := 20) (v := ?v7_20) (l' := #[true, true, true, true, true, true, true, true, true, true, true, true, true, true, true, true, true, true, true, false, true, false, false, false, false, false, false, false, false, false, false, false, false, false, false, false, false, false, false, false, false, false, false, false, false, false]) (a' := ?a7_20) rfl (by kernel_rfl) (by kernel_rfl) (by kernel_rfl) (fun _ _ _ h => h) (Or.inl ⟨by kernel_rfl, ?h7_20⟩) rfl ?p7_20 hS6 ?r7_20
  case h7_20 => (intro w hS; obtain ⟨-, s0, s1, s2, s3, s4, s5, s6, s7⟩ := hS; go_simp; try with_reducible rfl)
  case p7_20 => (go_simp; try with_reducible rfl)
  refine wpAnyH_takeN (i := 21) (v := ?v7_21) (l' := #[true, true, true, true, true, true, true, true, true, true, true, true, true, true, true, true, true, true, true, false, true, true, false, false, false, false, false, false, false, false, false, false, false, false, false, false, false, false, false, false, false, false, false, false, false, false]) (a' := ?a7_21) rfl (by kernel_rfl) (by kernel_rfl) (by kernel_rfl) (fun _ _ _ h => h) (Or.inl ⟨by kernel_rfl, ?h7_21⟩) rfl ?p7_21 hS6 ?r7_21
  case h7_21 => (intro w hS; obtain ⟨-, s0, s1, s2, s3, s4, s5, s6, s7⟩ := hS; go_simp; try with_reducible rfl)
  case p7_21 => (go_simp; try with_reducible rfl)
  refine wpAnyH_oneN (i := 19) (l' := #[true, true, true, true, true, true, true, true, true, true, true, true, true, true, true, true, true, true, true, true, true, true, false, false, false, false, false, false, false, false, false, false, false, false, false, false, false, false, false, false, false, false, false, false, false, false]) rfl (by kernel_rfl) (by kernel_rfl) rfl (fun K hK => ?_)
  obtain ⟨hP, s0, s1, s2, s3, s4, s5, s6, s7⟩ := hS6
  go_simp
  go_at_call 38
  refine (C2.out _).mono ?_
  rintro r w14 ⟨rfl, hb⟩
  dsimp only
  have D14 := Lib.hid (below_step hP hb)
  clear hb
  have hS7 := HO.out _ (D14.out)
  clear hP s0 s1 s2 s3 s4 s5 s6 s7
  refine hK _ _ hS7 ?_
  clear hK K
  refine wpAnyH_oneN (i := 22) (l' := #[true, true, true, true, true, true, true, true, true, true, true, true, true, true, true, true, true, true, true, true, true, true, true, false, false, false, false, false, false, false, false, false, false, false, false, false, false, false, false, false, false, false, false, false, false, false]) rfl (by kernel_rfl) (by kernel_rfl) rfl (fun K hK => ?_)
  obtain ⟨hP, s0, s1, s2, s3, s4, s5, s6, s7⟩ := hS7
  go_simp
  go_at_call 58
  refine (R2.out _).mono ?_
  rintro r w15 ⟨rfl, hb⟩
  dsimp only
  have D15 := Lib.hid (below_step hP hb)
  clear hb
  have hS8 := HO.out _ (D15.out)
  clear hP s0 s1 s2 s3 s4 s5 s6 s7
  refine hK _ _ hS8 ?_
  clear hK K
  refine wpAnyH_oneN (i := 23) (l' := #[true, true, true, true, true, true, true, true, true, true, true, true, true, true, true, true, true, true, true, true, true, true, true, true, false, false, false, false, false, false, false, false, false, false, false, false, false, false, false, false, false, false, false, false, false, false]) rfl (by kernel_rfl) (by kernel_rfl) rfl (fun K hK => ?_)
  obtain ⟨hP, s0, s1, s2, s3, s4, s5, s6, s7⟩ := hS8
  go_simp
  go_at_call 21
  refine (Q2.out _).mono ?_
  rintro r w16 ⟨rfl, hb⟩
  dsimp only
  have D16 := Lib.hid (below_step hP hb)
  clear hb
  have hS9 := HO.out _ (D16.out)
  clear hP s0 s1 s2 s3 s4 s5 s6 s7
  refine hK _ _ hS9 ?_
  clear hK K
  refine wpAnyH_takeN (i := 24) (v := ?v7_24) (l' := #[true, true, true, true, true, true, true, true, true, true, true, true, true, true, true, true, true, true, true, true, true, true, true, true, true, false, false, false, false, false, false, false, false, false, false, false, false, false, false, false, false, false, false, false, false, false]) (a' := ?a7_24) rfl (by kernel_rfl) (by kernel_rfl) (by kernel_rfl) (fun _ _ _ h => h) (Or.inl ⟨by kernel_rfl, ?h7_24⟩) rfl ?p7_24 hS9 ?r7_24
  case h7_24 => (intro w hS; obtain ⟨-, s0, s1, s2, s3, s4, s5, s6, s7⟩ := hS; go_simp; try with_reducible rfl)
  case p7_24 => (go_simp; try with_reducible rfl)
  refine wpAnyH_takeN (i := 25) (v := ?v7_25) (l' := #[true, true, true, true, true, true, true, true, true, true, true, true, true, true, true, true, true, true, true, true, true, true, true, true, true, true, false, false, false, false, false, false, false, false, false, false, false, false, false, false, false, false, false, false, false, false]) (a' := ?a7_25) rfl (by kernel_rfl) (by kernel_rfl) (by kernel_rfl) (fun _ _ _ h => h) (Or.inl ⟨by kernel_rfl, ?h7_25⟩) rfl ?p7_25 hS9 ?r7_25
  case h7_25 => (intro w hS; obtain ⟨-, s0, s1, s2, s3, s4, s5, s6, s7⟩ := hS; go_simp; try with_reducible rfl)
  case p7_25 => (go_simp; try with_reducible rfl)
  refine wpAnyH_takeN (i := 26) (v := ?v7_26) (l' := #[true, true, true, true, true, true, true, true, true, true, true, true, true, true, true, true, true, true, true, true, true, true, true, true, true, true, true, false, false, false, false, false, false, false, false, false, false, false, false, false, false, false, false, false, false, false]) (a' := ?a7_26) rfl (by kernel_rfl) (by kernel_rfl) (by kernel_rfl) (fun _ _ _ h => h) (Or.inl ⟨by kernel_rfl, ?h7_26⟩) rfl ?p7_26 hS9 ?r7_26
  case h7_26 => (intro w hS; obtain ⟨-, s0, s1, s2, s3, s4, s5, s6, s7⟩ := hS; go_simp; try with_reducible rfl)
  case p7_26 => (go_simp; try with_reducible rfl)
  refine wpAnyH_takeN (i := 27) (v := ?v7_27) (l' := #[true, true, true, true, true, true, true, true, true, true, true, true, true, true, true, true, true, true, true, true, true, true, true, true, true, true, true, true, false, false, false, false, false, false, false, false, false, false, false, false, false, false, false, false, false, false]) (a' := ?a7_27) rfl (by kernel_rfl) (by kernel_rfl) (by kernel_rfl) (fun _ _ _ h => h) (Or.inl ⟨by kernel_rfl, ?h7_27⟩) rfl ?p7_27 hS9 ?r7_27
  case h7_27 => (intro w hS; obtain ⟨-, s0, s1, s2, s3, s4, s5, s6, s7⟩ := hS; go_simp; try with_reducible rfl)
  case p7_27 => (go_simp; try with_reducible rfl)
  refine wpAnyH_takeN (i := 28) (v := ?v7_28) (l' := #[true, true, true, true, true, true, true, true, true, true, true, true, true, true, true, true, true, true, true, true, true, true, true, true, true, true, true, true, true, false, false, false, false, false, false, false, false, false, false, false, false, false, false, false, false, false]) (a' := ?a7_28) rfl (by kernel_rfl) (by kernel_rfl) (by kernel_rfl) (fun _ _ _ h => h) (Or.inl ⟨by kernel_rfl, ?h7_28⟩) rfl ?p7_28 hS9 ?r7_28
  case h7_28 => (intro w hS; obtain ⟨-, s0, s1, s2, s3, s4, s5, s6, s7⟩ := hS; go_simp; try with_reducible rfl)
  case p7_28 => (go_simp; try with_reducible rfl)
  refine wpAnyH_takeN (i := 30) (v := ?v7_30) (l' := #[true, true, true, true, true, true, true, true, true, true, true, true, true, true, true, true, true, true, true, true, true, true, true, true, true, true, true, true, true, false, true, false, false, false, false, false, false, false, false, false, false, false, false, false, false, false]) (a' := ?a7_30) rfl (by kernel_rfl) (by kernel_rfl) (by kernel_rfl) (fun _ _ _ h => h) (Or.inl ⟨by kernel_rfl, ?h7_30⟩) rfl ?p7_30 hS9 ?r7_30
  case h7_30 => (intro w hS; obtain ⟨-, s0, s1, s2, s3, s4, s5, s6, s7⟩ := hS; go_simp; try with_reducible rfl)
  case p7_30 => (go_simp; try with_reducible rfl)
  refine wpAnyH_takeN (i := 31) (v := ?v7_31) (l' := #[true, true, true, true, true, true, true, true, true, true, true, true, true, true, true, true, true, true, true, true, true, true, true, true, true, true, true, true, true, false, true, true, false, false, false, false, false, false, false, false, false, false, false, false, false, false]) (a' := ?a7_31) rfl (by kernel_rfl) (by kernel_rfl) (by kernel_rfl) (fun _ _ _ h => h) (Or.inl ⟨by kernel_rfl, ?h7_31⟩) rfl ?p7_31 hS9 ?r7_31
  case h7_31 => (intro w hS; obtain ⟨-, s0, s1, s2, s3, s4, s5, s6, s7⟩ := hS; go_simp; try with_reducible rfl)
  case p7_31 => (go_simp; try with_reducible rfl)
  refine wpAnyH_oneN (i := 29) (l' := #[true, true, true, true, true, true, true, true, true, true, true, true, true, true, true, true, true, true, true, true, true, true, true, true, true, true, true, true, true, true, true, true, false, false, false, false, false, false, false, false, false, false, false, false, false, false]) rfl (by kernel_rfl) (by kernel_rfl) rfl (fun K hK => ?_)
  obtain ⟨hP, s0, s1, s2, s3, s4, s5, s6, s7⟩ := hS9
  go_simp
  go_at_call 39
  refine (C3.out _).mono ?_
  rintro r w17 ⟨rfl, hb⟩
  dsimp only
  have D17 := Lib.hid (below_step hP hb)
  clear hb
  have hS10 := HO.out _ (D17.out)
  clear hP s0 s1 s2 s3 s4 s5 s6 s7
  refine hK _ _ hS10 ?_
  clear hK K
  refine wpAnyH_oneN (i := 32) (l' := #[true, true, true, true, true, true, true, true, true, true, true, true, true, true, true, true, true, true, true, true, true, true, true, true, true, true, true, true, true, true, true, true, true, false, false, false, false, false, false, false, false, false, false, false, false, false]) rfl (by kernel_rfl) (by kernel_rfl) rfl (fun K hK => ?_)
  obtain ⟨hP, s0, s1, s2, s3, s4, s5, s6, s7⟩ := hS10
  go_simp
  go_at_call 59
  refine (R3.out _).mono ?_
  rintro r w18 ⟨rfl, hb⟩
  dsimp only
  have D18 := Lib.hid (below_step hP hb)
  clear hb
  have hS11 := HO.out _ (D18.out)
  clear hP s0 s1 s2 s3 s4 s5 s6 s7
  refine hK _ _ hS11 ?_
  clear hK K
  refine wpAnyH_oneN (i := 33) (l' := #[true, true, true, true, true, true, true, true, true, true, true, true, true, true, true, true, true, true, true, true, true, true, true, true, true, true, true, true, true, true, true, true, true, true, false, false, false, false, false, false, false, false, false, false, false, false]) rfl (by kernel_rfl) (by kernel_rfl) rfl (fun K hK => ?_)
  obtain ⟨hP, s0, s1, s2, s3, s4, s5, s6, s7⟩ := hS11
  go_simp
  go_at_call 21
  refine (Q3.out _).mono ?_
  rintro r w19 ⟨rfl, hb⟩
  dsimp only
  have D19 := Lib.hid (below_step hP hb)
  clear hb
  have hS12 := HO.out _ (D19.out)
  clear hP s0 s1 s2 s3 s4 s5 s6 s7
  refine hK _ _ hS12 ?_
  clear hK K
  refine wpAnyH_takeN (i := 34) (v := ?v7_34) (l' := #[true, true, true, true, true, true, true, true, true, true, true, true, true, true, true, true, true, true, true, true, true, true, true, true, true, true, true, true, true, true, true, true, true, true, true, false, false, false, false, false, false, false, false, false, false, false]) (a' := ?a7_34) rfl (by kernel_rfl) (by kernel_rfl) (by kernel_rfl) (fun _ _ _ h => h) (Or.inl ⟨by kernel_rfl, ?h7_34⟩) rfl ?p7_34 hS12 ?r7_34
  case h7_34 => (intro w hS; obtain ⟨-, s0, s1, s2, s3, s4, s5, s6, s7⟩ := hS; go_simp; try with_reducible rfl)
  case p7_34 => (go_simp; try with_reducible rfl)
  refine wpAnyH_takeN (i := 35) (v := ?v7_35) (l' := #[true, true, true, true, true, true, true, true, true, true, true, true, true, true, true, true, true, true, true, true, true, true, true, true, true, true, true, true, true, true, true, true, true, true, true, true, false, false, false, false, false, false, false, false, false, false]) (a' := ?a7_35) rfl (by kernel_rfl) (by kernel_rfl) (by kernel_rfl) (fun _ _ _ h => h) (Or.inl ⟨by kernel_rfl, ?h7_35⟩) rfl ?p7_35 hS12 ?r7_35
  case h7_35 => (intro w hS; obtain ⟨-, s0, s1, s2, s3, s4, s5, s6, s7⟩ := hS; go_simp; try with_reducible rfl)
  case p7_35 => (go_simp; try with_reducible rfl)
  refine wpAnyH_takeN (i := 36) (v := ?v7_36) (l' := #[true, true, true, true, true, true, true, true, true, true, true, true, true, true, true, true, true, true, true, true, true, true, true, true, true, true, true, true, true, true, true, true, true, true, true, true, true, false, false, false, false, false, false, false, false, false]) (a' := ?a7_36) rfl (by kernel_rfl) (by kernel_rfl) (by kernel_rfl) (fun _ _ _ h => h) (Or.inl ⟨by kernel_rfl, ?h7_36⟩) rfl ?p7_36 hS12 ?r7_36
  case h7_36 => (intro w hS; obtain ⟨-, s0, s1, s2, s3, s4, s5, s6, s7⟩ := hS; go_simp; try with_reducible rfl)
  case p7_36 => (go_simp; try with_reducible rfl)
  refine wpAnyH_takeN (i := 37) (v := ?v7_37) (l' := #[true, true, true, true, true, true, true, true, true, true, true, true, true, true, true, true, true, true, true, true, true, true, true, true, true, true, true, true, true, true, true, true, true, true, true, true, true, true, false, false, false, false, false, false, false, false]) (a' := ?a7_37) rfl (by kernel_rfl) (by kernel_rfl) (by kernel_rfl) (fun _ _ _ h => h) (Or.inl ⟨by kernel_rfl, ?h7_37⟩) rfl ?p7_37 hS12 ?r7_37
  case h7_37 => (intro w hS; obtain ⟨-, s0, s1, s2, s3, s4, s5, s6, s7⟩ := hS; go_simp; try with_reducible rfl)
  case p7_37 => (go_simp; try with_reducible rfl)
  refine wpAnyH_takeN (i := 38) (v := ?v7_38) (l' := #[true, true, true, true, true, true, true, true, true, true, true, true, true, true, true, true, true, true, true, true, true, true, true, true, true, true, true, true, true, true, true, true, true, true, true, true, true, true, true, false, false, false, false, false, false, false]) (a' := ?a7_38) rfl (by kernel_rfl) (by kernel_rfl) (by kernel_rfl) (fun _ _ _ h => h) (Or.inl ⟨by kernel_rfl, ?h7_38⟩) rfl ?p7_38 hS12 ?r7_38
  case h7_38 => (intro w hS; obtain ⟨-, s0, s1, s2, s3, s4, s5, s6, s7⟩ := hS; go_simp; try with_reducible rfl)
  case p7_38 => (go_simp; try with_reducible rfl)
  refine wpAnyH_takeN (i := 40) (v := ?v7_40) (l' := #[true, true, true, true, true, true, true, true, true, true, true, true, true, true, true, true, true, true, true, true, true, true, true, true, true, true, true, true, true, true, true, true, true, true, true, true, true, true, true, false, true, false, false, false, false, false]) (a' := ?a7_40) rfl (by kernel_rfl) (by kernel_rfl) (by kernel_rfl) (fun _ _ _ h => h) (Or.inl ⟨by kernel_rfl, ?h7_40⟩) rfl ?p7_40 hS12 ?r7_40
  case h7_40 => (intro w hS; obtain ⟨-, s0, s1, s2, s3, s4, s5, s6, s7⟩ := hS; go_simp; try with_reducible rfl)
  case p7_40 => (go_simp; try with_reducible rfl)
  refine wpAnyH_takeN (i := 41) (v := ?v7_41) (l' := #[true, true, true, true, true, true, true, true, true, true, true, true, true, true, true, true, true, true, true, true, true, true, true, true, true, true, true, true, true, true, true, true, true, true, true, true, true, true, true, false, true, true, false, false, false, false]) (a' := ?a7_41) rfl (by kernel_rfl) (by kernel_rfl) (by kernel_rfl) (fun _ _ _ h => h) (Or.inl ⟨by kernel_rfl, ?h7_41⟩) rfl ?p7_41 hS12 ?r7_41
  case h7_41 => (intro w hS; obtain ⟨-, s0, s1, s2, s3, s4, s5, s6, s7⟩ := hS; go_simp; try with_reducible rfl)
  case p7_41 => (go_simp; try with_reducible rfl)
  refine wpAnyH_oneN (i := 39) (l' := #[true, true, true, true, true, true, true, true, true, true, true, true, true, true, true, true, true, true, true, true, true, true, true, true, true, true, true, true, true, true, true, true, true, true, true, true, true, true, true, true, true, true, false, false, false, false]) rfl (by kernel_rfl) (by kernel_rfl) rfl (fun K hK => ?_)
  obtain ⟨hP, s0, s1, s2, s3, s4, s5, s6, s7⟩ := hS12
  go_simp
  go_at_call 53
  refine (C4.out _).mono ?_
  rintro r w20 ⟨rfl, hb⟩
  dsimp only
  have D20 := Lib.hid (below_step hP hb)
  clear hb
  have hS13 := HO.out _ (D20.out)
  clear hP s0 s1 s2 s3 s4 s5 s6 s7
  refine hK _ _ hS13 ?_
  clear hK K
  refine wpAnyH_oneN (i := 42) (l' := #[true, true, true, true, true, true, true, true, true, true, true, true, true, true, true, true, true, true, true, true, true, true, true, true, true, true, true, true, true, true, true, true, true, true, true, true, true, true, true, true, true, true, true, false, false, false]) rfl (by kernel_rfl) (by kernel_rfl) rfl (fun K hK => ?_)
  obtain ⟨hP, s0, s1, s2, s3, s4, s5, s6, s7⟩ := hS13
  go_simp
  go_at_call 60
  refine (R4.out _).mono ?_
  rintro r w21 ⟨rfl, hb⟩
  dsimp only
  have D21 := Lib.hid (below_step hP hb)
  clear hb
  have hS14 := HO.out _ (D21.out)
  clear hP s0 s1 s2 s3 s4 s5 s6 s7
  refine hK _ _ hS14 ?_
  clear hK K
  refine wpAnyH_oneN (i := 43) (l' := #[true, true, true, true, true, true, true, true, true, true, true, true, true, true, true, true, true, true, true, true, true, true, true, true, true, true, true, true, true, true, true, true, true, true, true, true, true, true, true, true, true, true, true, true, false, false]) rfl (by kernel_rfl) (by kernel_rfl) rfl (fun K hK => ?_)
  obtain ⟨hP, s0, s1, s2, s3, s4, s5, s6, s7⟩ := hS14
  go_simp
  go_at_call 21
  refine (Q4.out _).mono ?_
  rintro r w22 ⟨rfl, hb⟩
  dsimp only
  have D22 := Lib.hid (below_step hP hb)
  clear hb
  have hS15 := HO.out _ (D22.out)
  clear hP s0 s1 s2 s3 s4 s5 s6 s7
  refine hK _ _ hS15 ?_
  clear hK K
  refine wpAnyH_takeN (i := 44) (v := ?v7_44) (l' := #[true, true, true, true, true, true, true, true, true, true, true, true, true, true, true, true, true, true, true, true, true, true, true, true, true, true, true, true, true, true, true, true, true, true, true, true, true, true, true, true, true, true, true, true, true, false]) (a' := ?a7_44) rfl (by kernel_rfl) (by kernel_rfl) (by kernel_rfl) (fun _ _ _ h => h) (Or.inl ⟨by kernel_rfl, ?h7_44⟩) rfl ?p7_44 hS15 ?r7_44
  case h7_44 => (intro w hS; obtain ⟨-, s0, s1, s2, s3, s4, s5, s6, s7⟩ := hS; go_simp; try with_reducible rfl)
  case p7_44 => (go_simp; try with_reducible rfl)
  refine wpAnyH_takeN (i := 45) (v := ?v7_45) (l' := #[true, true, true, true, true, true, true, true, true, true, true, true, true, true, true, true, true, true, true, true, true, true, true, true, true, true, true, true, true, true, true, true, true, true, true, true, true, true, true, true, true, true, true, true, true, true]) (a' := ?a7_45) rfl (by kernel_rfl) (by kernel_rfl) (by kernel_rfl) (fun _ _ _ h => h) (Or.inl ⟨by kernel_rfl, ?h7_45⟩) rfl ?p7_45 hS15 ?r7_45
  case h7_45 => (intro w hS; obtain ⟨-, s0, s1, s2, s3, s4, s5, s6, s7⟩ := hS; go_simp; try with_reducible rfl)
  case p7_45 => (go_simp; try with_reducible rfl)
  refine wpAnyH_done (by kernel_rfl) ?_ _
  clear hS15
  obtain ⟨-, q0, q1, q2, q3, q4, q5, q6, q7⟩ := HO.out _ D22.out
  go_wp2_with fail
  clear q0 q1 q2 q3 q4 q5 q6 q7
  refine wp_region_held (S := (fun w' => Below V2.heap.size V2 w' ∧ w'.cell? ⟨w.heap.size, 0, none⟩ = some (Value.float FloatKind.f64 A.lo) ∧ w'.cell? ⟨w.heap.size, 1, none⟩ = some (Value.float FloatKind.f64 A.hi) ∧ w'.cell? ⟨w.heap.size + 1, 0, none⟩ = some (Value.float FloatKind.f64 B.lo) ∧ w'.cell? ⟨w.heap.size + 1, 1, none⟩ = some (Value.float FloatKind.f64 B.hi) ∧ w'.cell? ⟨g1, 0, none⟩ = some (Value.float FloatKind.f64 0) ∧ w'.cell? ⟨g1, 1, none⟩ = some (Value.float FloatKind.f64 0) ∧ w'.cell? ⟨g2, 0, none⟩ = some (Value.float FloatKind.f64 0) ∧ w'.cell? ⟨g2, 1, none⟩ = some (Value.float FloatKind.f64 0))) (by kernel_rfl) ?_
  (try change wpAnyH _ _ _ _ _ _ _ (World.drew _))
  have hS0 := HO.out _ (Below.drew D22.out)
  refine wpAnyH_takeN (i := 0) (v := ?v9_0) (l' := #[true, false, false, false, false, false, false, false, false, false, false, false, false, false, false, false, false, false, false, false, false, false, false, false, false, false, false, false, false, false, false, false, false, false, false, false, false, false, false, false, false, false, false, false, false, false, false, false, false, false]) (a' := ?a9_0) rfl (by kernel_rfl) (by kernel_rfl) (by kernel_rfl) (fun _ _ _ h => h) (Or.inl ⟨by kernel_rfl, ?h9_0⟩) rfl ?p9_0 hS0 ?r9_0
  case h9_0 => (intro w hS; obtain ⟨-, s0, s1, s2, s3, s4, s5, s6, s7⟩ := hS; go_simp; try with_reducible rfl)
  case p9_0 => (go_simp; try with_reducible rfl)
  refine wpAnyH_takeN (i := 2) (v := ?v9_2) (l' := #[true, false, true, false, false, false, false, false, false, false, false, false, false, false, false, false, false, false, false, false, false, false, false, false, false, false, false, false, false, false, false, false, false, false, false, false, false, false, false, false, false, false, false, false, false, false, false, false, false, false]) (a' := ?a9_2) rfl (by kernel_rfl) (by kernel_rfl) (by kernel_rfl) (fun _ _ _ h => h) (Or.inl ⟨by kernel_rfl, ?h9_2⟩) rfl ?p9_2 hS0 ?r9_2
  case h9_2 => (intro w hS; obtain ⟨-, s0, s1, s2, s3, s4, s5, s6, s7⟩ := hS; go_simp; try with_reducible rfl)
  case p9_2 => (go_simp; try with_reducible rfl)
  refine wpAnyH_oneN (i := 1) (l' := #[true, true, true, false, false, false, false, false, false, false, false, false, false, false, false, false, false, false, false, false, false, false, false, false, false, false, false, false, false, false, false, false, false, false, false, false, false, false, false, false, false, false, false, false, false, false, false, false, false, false]) rfl (by kernel_rfl) (by kernel_rfl) rfl (fun K hK => ?_)
  obtain ⟨hP, s0, s1, s2, s3, s4, s5, s6, s7⟩ := hS0
  go_simp
  go_at_call 40
  refine (C5.out _).mono ?_
  rintro r w23 ⟨rfl, hb⟩
  dsimp only
  have D23 := Lib.hid (below_step hP hb)
  clear hb
  have hS1 := HO.out _ (D23.out)
  clear hP s0 s1 s2 s3 s4 s5 s6 s7
  refine hK _ _ hS1 ?_
  clear hK K
  refine wpAnyH_oneN (i := 3) (l' := #[true, true, true, true, false, false, false, false, false, false, false, false, false, false, false, false, false, false, false, false, false, false, false, false, false, false, false, false, false, false, false, false, false, false, false, false, false, false, false, false, false, false, false, false, false, false, false, false, false, false]) rfl (by kernel_rfl) (by kernel_rfl) rfl (fun K hK => ?_)
  obtain ⟨hP, s0, s1, s2, s3, s4, s5, s6, s7⟩ := hS1
  go_simp
  go_at_call 61
  refine (R5.out _).mono ?_
  rintro r w24 ⟨rfl, hb⟩
  dsimp only
  have D24 := Lib.hid (below_step hP hb)
  clear hb
  have hS2 := HO.out _ (D24.out)
  clear hP s0 s1 s2 s3 s4 s5 s6 s7
  refine hK _ _ hS2 ?_
  clear hK K
  refine wpAnyH_oneN (i := 4) (l' := #[true, true, true, true, true, false, false, false, false, false, false, false, false, false, false, false, false, false, false, false, false, false, false, false, false, false, false, false, false, false, false, false, false, false, false, false, false, false, false, false, false, false, false, false, false, false, false, false, false, false]) rfl (by kernel_rfl) (by kernel_rfl) rfl (fun K hK => ?_)
  obtain ⟨hP, s0, s1, s2, s3, s4, s5, s6, s7⟩ := hS2
  go_simp
  go_at_call 21
  refine (Q5.out _).mono ?_
  rintro r w25 ⟨rfl, hb⟩
  dsimp only
  have D25 := Lib.hid (below_step hP hb)
  clear hb
  have hS3 := HO.out _ (D25.out)
  clear hP s0 s1 s2 s3 s4 s5 s6 s7
  refine hK _ _ hS3 ?_
  clear hK K
  refine wpAnyH_takeN (i := 5) (v := ?v9_5) (l' := #[true, true, true, true, true, true, false, false, false, false, false, false, false, false, false, false, false, false, false, false, false, false, false, false, false, false, false, false, false, false, false, false, false, false, false, false, false, false, false, false, false, false, false, false, false, false, false, false, false, false]) (a' := ?a9_5) rfl (by kernel_rfl) (by kernel_rfl) (by kernel_rfl) (fun _ _ _ h => h) (Or.inl ⟨by kernel_rfl, ?h9_5⟩) rfl ?p9_5 hS3 ?r9_5
  case h9_5 => (intro w hS; obtain ⟨-, s0, s1, s2, s3, s4, s5, s6, s7⟩ := hS; go_simp; try with_reducible rfl)
  case p9_5 => (go_simp; try with_reducible rfl)
  refine wpAnyH_takeN (i := 6) (v := ?v9_6) (l' := #[true, true, true, true, true, true, true, false, false, false, false, false, false, false, false, false, false, false, false, false, false, false, false, false, false, false, false, false, false, false, false, false, false, false, false, false, false, false, false, false, false, false, false, false, false, false, false, false, false, false]) (a' := ?a9_6) rfl (by kernel_rfl) (by kernel_rfl) (by kernel_rfl) (fun _ _ _ h => h) (Or.inl ⟨by kernel_rfl, ?h9_6⟩) rfl ?p9_6 hS3 ?r9_6
  case h9_6 => (intro w hS; obtain ⟨-, s0, s1, s2, s3, s4, s5, s6, s7⟩ := hS; go_simp; try with_reducible rfl)
  case p9_6 => (go_simp; try with_reducible rfl)
  refine wpAnyH_takeN (i := 8) (v := ?v9_8) (l' := #[true, true, true, true, true, true, true, false, true, false, false, false, false, false, false, false, false, false, false, false, false, false, false, false, false, false, false, false, false, false, false, false, false, false, false, false, false, false, false, false, false, false, false, false, false, false, false, false, false, false]) (a' := ?a9_8) rfl (by kernel_rfl) (by kernel_rfl) (by kernel_rfl) (fun _ _ _ h => h) (Or.inl ⟨by kernel_rfl, ?h9_8⟩) rfl ?p9_8 hS3 ?r9_8
  case h9_8 => (intro w hS; obtain ⟨-, s0, s1, s2, s3, s4, s5, s6, s7⟩ := hS; go_simp; try with_reducible rfl)
  case p9_8 => (go_simp; try with_reducible rfl)
  refine wpAnyH_oneN (i := 7) (l' := #[true, true, true, true, true, true, true, true, true, false, false, false, false, false, false, false, false, false, false, false, false, false, false, false, false, false, false, false, false, false, false, false, false, false, false, false, false, false, false, false, false, false, false, false, false, false, false, false, false, false]) rfl (by kernel_rfl) (by kernel_rfl) rfl (fun K hK => ?_)
  obtain ⟨hP, s0, s1, s2, s3, s4, s5, s6, s7⟩ := hS3
  go_simp
  go_at_call 54
  refine (C6.out _).mono ?_
  rintro r w26 ⟨rfl, hb⟩
  dsimp only
  have D26 := Lib.hid (below_step hP hb)
  clear hb
  have hS4 := HO.out _ (D26.out)
  clear hP s0 s1 s2 s3 s4 s5 s6 s7
  refine hK _ _ hS4 ?_
  clear hK K
  refine wpAnyH_oneN (i := 9) (l' := #[true, true, true, true, true, true, true, true, true, true, false, false, false, false, false, false, false, false, false, false, false, false, false, false, false, false, false, false, false, false, false, false, false, false, false, false, false, false, false, false, false, false, false, false, false, false, false, false, false, false]) rfl (by kernel_rfl) (by kernel_rfl) rfl (fun K hK => ?_)
  obtain ⟨hP, s0, s1, s2, s3, s4, s5, s6, s7⟩ := hS4
  go_simp
  go_at_call 62
  refine (R6.out _).mono ?_
  rintro r w27 ⟨rfl, hb⟩
  dsimp only
  have D27 := Lib.hid (below_step hP hb)
  clear hb
  have hS5 := HO.out _ (D27.out)
  clear hP s0 s1 s2 s3 s4 s5 s6 s7
  refine hK _ _ hS5 ?_
  clear hK K
  refine wpAnyH_oneN (i := 10) (l' := #[true, true, true, true, true, true, true, true, true, true, true, false, false, false, false, false, false, false, false, false, false, false, false, false, false, false, false, false, false, false, false, false, false, false, false, false, false, false, false, false, false, false, false, false, false, false, false, false, false, false]) rfl (by kernel_rfl) (by kernel_rfl) rfl (fun K hK => ?_)
  obtain ⟨hP, s0, s1, s2, s3, s4, s5, s6, s7⟩ := hS5
  go_simp
  go_at_call 21
  refine (Q6.out _).mono ?_
  rintro r w28 ⟨rfl, hb⟩
  dsimp only
  have D28 := Lib.hid (below_step hP hb)
  clear hb
  have hS6 := HO.out _ (D28.out)
  clear hP s0 s1 s2 s3 s4 s5 s6 s7
  refine hK _ _ hS6 ?_
  clear hK K
  refine wpAnyH_takeN (i := 11) (v := ?v9_11) (l' := #[true, true, true, true, true, true, true, true, true, true, true, true, false, false, false, false, false, false, false, false, false, false, false, false, false, false, false, false, false, false, false, false, false, false, false, false, false, false, false, false, false, false, false, false, false, false, false, false, false, false]) (a' := ?a9_11) rfl (by kernel_rfl) (by kernel_rfl) (by kernel_rfl) (fun _ _ _ h => h) (Or.inl ⟨by kernel_rfl, ?h9_11⟩) rfl ?p9_11 hS6 ?r9_11
  case h9_11 => (intro w hS; obtain ⟨-, s0, s1, s2, s3, s4, s5, s6, s7⟩ := hS; go_simp; try with_reducible rfl)
  case p9_11 => (go_simp; try with_reducible rfl)
  refine wpAnyH_takeN (i := 12) (v := ?v9_12) (l' := #[true, true, true, true, true, true, true, true, true, true, true, true, true, false, false, false, false, false, false, false, false, false, false, false, false, false, false, false, false, false, false, false, false, false, false, false, false, false, false, false, false, false, false, false, false, false, false, false, false, false]) (a' := ?a9_12) rfl (by kernel_rfl) (by kernel_rfl) (by kernel_rfl) (fun _ _ _ h => h) (Or.inl ⟨by kernel_rfl, ?h9_12⟩) rfl ?p9_12 hS6 ?r9_12
  case h9_12 => (intro w hS; obtain ⟨-, s0, s1, s2, s3, s4, s5, s6, s7⟩ := hS; go_simp; try with_reducible rfl)
  case p9_12 => (go_simp; try with_reducible rfl)
  refine wpAnyH_takeN (i := 13) (v := ?v9_13) (l' := #[true, true, true, true, true, true, true, true, true, true, true, true, true, true, false, false, false, false, false, false, false, false, false, false, false, false, false, false, false, false, false, false, false, false, false, false, false, false, false, false, false, false, false, false, false, false, false, false, false, false]) (a' := ?a9_13) rfl (by kernel_rfl) (by kernel_rfl) (by kernel_rfl) (fun _ _ _ h => h) (Or.inl ⟨by kernel_rfl, ?h9_13⟩) rfl ?p9_13 hS6 ?r9_13
  case h9_13 => (intro w hS; obtain ⟨-, s0, s1, s2, s3, s4, s5, s6, s7⟩ := hS; go_simp; try with_reducible rfl)
  case p9_13 => (go_simp; try with_reducible rfl)
  refine wpAnyH_takeN (i := 14) (v := ?v9_14) (l' := #[true, true, true, true, true, true, true, true, true, true, true, true, true, true, true, false, false, false, false, false, false, false, false, false, false, false, false, false, false, false, false, false, false, false, false, false, false, false, false, false, false, false, false, false, false, false, false, false, false, false]) (a' := ?a9_14) rfl (by kernel_rfl) (by kernel_rfl) (by kernel_rfl) (fun _ _ _ h => h) (Or.inl ⟨by kernel_rfl, ?h9_14⟩) rfl ?p9_14 hS6 ?r9_14
  case h9_14 => (intro w hS; obtain ⟨-, s0, s1, s2, s3, s4, s5, s6, s7⟩ := hS; go_simp; try with_reducible rfl)
  case p9_14 => (go_simp; try with_reducible rfl)
  refine wpAnyH_takeN (i := 16) (v := ?v9_16) (l' := #[true, true, true, true, true, true, true, true, true, true, true, true, true, true, true, false, true, false, false, false, false, false, false, false, false, false, false, false, false, false, false, false, false, false, false, false, false, false, false, false, false, false, false, false, false, false, false, false, false, false]) (a' := ?a9_16) rfl (by kernel_rfl) (by kernel_rfl) (by kernel_rfl) (fun _ _ _ h => h) (Or.inl ⟨by kernel_rfl, ?h9_16⟩) rfl ?p9_16 hS6 ?r9_16
  case h9_16 => (intro w hS; obtain ⟨-, s0, s1, s2, s3, s4, s5, s6, s7⟩ := hS; go_simp; try with_reducible rfl)
  case p9_16 => (go_simp; try with_reducible rfl)
  refine wpAnyH_takeN (i := 17) (v := ?v9_17) (l' := #[true, true, true, true, true, true, true, true, true, true, true, true, true, true, true, false, true, true, false, false, false, false, false, false, false, false, false, false, false, false, false, false, false, false, false, false, false, false, false, false, false, false, false, false, false, false, false, false, false, false]) (a' := ?a9_17) rfl (by kernel_rfl) (by kernel_rfl) (by kernel_rfl) (fun _ _ _ h => h) (Or.inl ⟨by kernel_rfl, ?h9_17⟩) rfl ?p9_17 hS6 ?r9_17
  case h9_17 => (intro w hS; obtain ⟨-, s0, s1, s2, s3, s4, s5, s6, s7⟩ := hS; go_simp; try with_reducible rfl)
  case p9_17 => (go_simp; try with_reducible rfl)
  refine wpAnyH_oneN (i := 15) (l' := #[true, true, true, true, true, true, true, true, true, true, true, true, true, true, true, true, true, true, false, false, false, false, false, false, false, false, false, false, false, false, false, false, false, false, false, false, false, false, false, false, false, false, false, false, false, false, false, false, false, false]) rfl (by kernel_rfl) (by kernel_rfl) rfl (fun K hK => ?_)
  obtain ⟨hP, s0, s1, s2, s3, s4, s5, s6, s7⟩ := hS6
  go_simp
  go_at_call 45
  refine (C7.out _).mono ?_
  rintro r w29 ⟨rfl, hb⟩
  dsimp only
  have D29 := Lib.hid (below_step hP hb)
  clear hb
  have hS7 := HO.out _ (D29.out)
  clear hP s0 s1 s2 s3 s4 s5 s6 s7
  refine hK _ _ hS7 ?_
  clear hK K
  refine wpAnyH_oneN (i := 18) (l' := #[true, true, true, true, true, true, true, true, true, true, true, true, true, true, true, true, true, true, true, false, false, false, false, false, false, false, false, false, false, false, false, false, false, false, false, false, false, false, false, false, false, false, false, false, false, false, false, false, false, false]) rfl (by kernel_rfl) (by kernel_rfl) rfl (fun K hK => ?_)
  obtain ⟨hP, s0, s1, s2, s3, s4, s5, s6, s7⟩ := hS7
  go_simp
  go_at_call 63
  refine (R7.out _).mono ?_
  rintro r w30 ⟨rfl, hb⟩
  dsimp only
  have D30 := Lib.hid (below_step hP hb)
  clear hb
  have hS8 := HO.out _ (D30.out)
  clear hP s0 s1 s2 s3 s4 s5 s6 s7
  refine hK _ _ hS8 ?_
  clear hK K
  refine wpAnyH_oneN (i := 19) (l' := #[true, true, true, true, true, true, true, true, true, true, true, true, true, true, true, true, true, true, true, true, false, false, false, false, false, false, false, false, false, false, false, false, false, false, false, false, false, false, false, false, false, false, false, false, false, false, false, false, false, false]) rfl (by kernel_rfl) (by kernel_rfl) rfl (fun K hK => ?_)
  obtain ⟨hP, s0, s1, s2, s3, s4, s5, s6, s7⟩ := hS8
  go_simp
  go_at_call 21
  refine (Q7.out _).mono ?_
  rintro r w31 ⟨rfl, hb⟩
  dsimp only
  have D31 := Lib.hid (below_step hP hb)
  clear hb
  have hS9 := HO.out _ (D31.out)
  clear hP s0 s1 s2 s3 s4 s5 s6 s7
  refine hK _ _ hS9 ?_
  clear hK K
  refine wpAnyH_takeN (i := 20) (v := ?v9_20) (l' := #[true, true, true, true, true, true, true, true, true, true, true, true, true, true, true, true, true, true, true, true, true, false, false, false, false, false, false, false, false, false, false, false, false, false, false, false, false, false, false, false, false, false, false, false, false, false, false, false, false, false]) (a' := ?a9_20) rfl (by kernel_rfl) (by kernel_rfl) (by kernel_rfl) (fun _ _ _ h => h) (Or.inl ⟨by kernel_rfl, ?h9_20⟩) rfl ?p9_20 hS9 ?r9_20
  case h9_20 => (intro w hS; obtain ⟨-, s0, s1, s2, s3, s4, s5, s6, s7⟩ := hS; go_simp; try with_reducible rfl)
  case p9_20 => (go_simp; try with_reducible rfl)
  refine wpAnyH_takeN (i := 21) (v := ?v9_21) (l' := #[true, true, true, true, true, true, true, true, true, true, true, true, true, true, true, true, true, true, true, true, true, true, false, false, false, false, false, false, false, false, false, false, false, false, false, false, false, false, false, false, false, false, false, false, false, false, false, false, false, false]) (a' := ?a9_21) rfl (by kernel_rfl) (by kernel_rfl) (by kernel_rfl) (fun _ _ _ h => h) (Or.inl ⟨by kernel_rfl, ?h9_21⟩) rfl ?p9_21 hS9 ?r9_21
  case h9_21 => (intro w hS; obtain ⟨-, s0, s1, s2, s3, s4, s5, s6, s7⟩ := hS; go_simp; try with_reducible rfl)
  case p9_21 => (go_simp; try with_reducible rfl)
  refine wpAnyH_takeN (i := 22) (v := ?v9_22) (l' := #[true, true, true, true, true, true, true, true, true, true, true, true, true, true, true, true, true, true, true, true, true, true, true, false, false, false, false, false, false, false, false, false, false, false, false, false, false, false, false, false, false, false, false, false, false, false, false, false, false, false]) (a' := ?a9_22) rfl (by kernel_rfl) (by kernel_rfl) (by kernel_rfl) (fun _ _ _ h => h) (Or.inl ⟨by kernel_rfl, ?h9_22⟩) rfl ?p9_22 hS9 ?r9_22
  case h9_22 => (intro w hS; obtain ⟨-, s0, s1, s2, s3, s4, s5, s6, s7⟩ := hS; go_simp; try with_reducible rfl)
  case p9_22 => (go_simp; try with_reducible rfl)
  refine wpAnyH_takeN (i := 23) (v := ?v9_23) (l' := #[true, true, true, true, true, true, true, true, true, true, true, true, true, true, true, true, true, true, true, true, true, true, true, true, false, false, false, false, false, false, false, false, false, false, false, false, false, false, false, false, false, false, false, false, false, false, false, false, false, false]) (a' := ?a9_23) rfl (by kernel_rfl) (by kernel_rfl) (by kernel_rfl) (fun _ _ _ h => h) (Or.inl ⟨by kernel_rfl, ?h9_23⟩) rfl ?p9_23 hS9 ?r9_23
  case h9_23 => (intro w hS; obtain ⟨-, s0, s1, s2, s3, s4, s5, s6, s7⟩ := hS; go_simp; try with_reducible rfl)
  case p9_23 => (go_simp; try with_reducible rfl)
  refine wpAnyH_takeN (i := 25) (v := ?v9_25) (l' := #[true, true, true, true, true, true, true, true, true, true, true, true, true, true, true, true, true, true, true, true, true, true, true, true, false, true, false, false, false, false, false, false, false, false, false, false, false, false, false, false, false, false, false, false, false, false, false, false, false, false]) (a' := ?a9_25) rfl (by kernel_rfl) (by kernel_rfl) (by kernel_rfl) (fun _ _ _ h => h) (Or.inl ⟨by kernel_rfl, ?h9_25⟩) rfl ?p9_25 hS9 ?r9_25
  case h9_25 => (intro w hS; obtain ⟨-, s0, s1, s2, s3, s4, s5, s6, s7⟩ := hS; go_simp; try with_reducible rfl)
  case p9_25 => (go_simp; try with_reducible rfl)
  refine wpAnyH_takeN (i := 26) (v := ?v9_26) (l' := #[true, true, true, true, true, true, true, true, true, true, true, true, true, true, true, true, true, true, true, true, true, true, true, true, false, true, true, false, false, false, false, false, false, false, false, false, false, false, false, false, false, false, false, false, false, false, false, false, false, false]) (a' := ?a9_26) rfl (by kernel_rfl) (by kernel_rfl) (by kernel_rfl) (fun _ _ _ h => h) (Or.inl ⟨by kernel_rfl, ?h9_26⟩) rfl ?p9_26 hS9 ?r9_26
  case h9_26 => (intro w hS; obtain ⟨-, s0, s1, s2, s3, s4, s5, s6, s7⟩ := hS; go_simp; try with_reducible rfl)
  case p9_26 => (go_simp; try with_reducible rfl)
  refine wpAnyH_oneN (i := 24) (l' := #[true, true, true, true, true, true, true, true, true, true, true, true, true, true, true, true, true, true, true, true, true, true, true, true, true, true, true, false, false, false, false, false, false, false, false, false, false, false, false, false, false, false, false, false, false, false, false, false, false, false]) rfl (by kernel_rfl) (by kernel_rfl) rfl (fun K hK => ?_)
  obtain ⟨hP, s0, s1, s2, s3, s4, s5, s6, s7⟩ := hS9
  go_simp
  go_at_call 46
  refine (C8.out _).mono ?_
  rintro r w32 ⟨rfl, hb⟩
  dsimp only
  have D32 := Lib.hid (below_step hP hb)
  clear hb
  have hS10 := HO.out _ (D32.out)
  clear hP s0 s1 s2 s3 s4 s5 s6 s7
  refine hK _ _ hS10 ?_
  clear hK K
  refine wpAnyH_oneN (i := 27) (l' := #[true, true, true, true, true, true, true, true, true, true, true, true, true, true, true, true, true, true, true, true, true, true, true, true, true, true, true, true, false, false, false, false, false, false, false, false, false, false, false, false, false, false, false, false, false, false, false, false, false, false]) rfl (by kernel_rfl) (by kernel_rfl) rfl (fun K hK => ?_)
  obtain ⟨hP, s0, s1, s2, s3, s4, s5, s6, s7⟩ := hS10
  go_simp
  go_at_call 64
  refine (R8.out _).mono ?_
  rintro r w33 ⟨rfl, hb⟩
  dsimp only
  have D33 := Lib.hid (below_step hP hb)
  clear hb
  have hS11 := HO.out _ (D33.out)
  clear hP s0 s1 s2 s3 s4 s5 s6 s7
  refine hK _ _ hS11 ?_
  clear hK K
  refine wpAnyH_oneN (i := 28) (l' := #[true, true, true, true, true, true, true, true, true, true, true, true, true, true, true, true, true, true, true, true, true, true, true, true, true, true, true, true, true, false, false, false, false, false, false, false, false, false, false, false, false, false, false, false, false, false, false, false, false, false]) rfl (by kernel_rfl) (by kernel_rfl) rfl (fun K hK => ?_)
  obtain ⟨hP, s0, s1, s2, s3, s4, s5, s6, s7⟩ := hS11
  go_simp
  go_at_call 21
  refine (Q8.out _).mono ?_
  rintro r w34 ⟨rfl, hb⟩
  dsimp only
  have D34 := Lib.hid (below_step hP hb)
  clear hb
  have hS12 := HO.out _ (D34.out)
  clear hP s0 s1 s2 s3 s4 s5 s6 s7
  refine hK _ _ hS12 ?_
  clear hK K
  refine wpAnyH_takeN (i := 29) (v := ?v9_29) (l' := #[true, true, true, true, true, true, true, true, true, true, true, true, true, true, true, true, true, true, true, true, true, true, true, true, true, true, true, true, true, true, false, false, false, false, false, false, false, false, false, false, false, false, false, false, false, false, false, false, false, false]) (a' := ?a9_29) rfl (by kernel_rfl) (by kernel_rfl) (by kernel_rfl) (fun _ _ _ h => h) (Or.inl ⟨by kernel_rfl, ?h9_29⟩) rfl ?p9_29 hS12 ?r9_29
  case h9_29 => (intro w hS; obtain ⟨-, s0, s1, s2, s3, s4, s5, s6, s7⟩ := hS; go_simp; try with_reducible rfl)
  case p9_29 => (go_simp; try with_reducible rfl)
  refine wpAnyH_takeN (i := 30) (v := ?v9_30) (l' := #[true, true, true, true, true, true, true, true, true, true, true, true, true, true, true, true, true, true, true, true, true, true, true, true, true, true, true, true, true, true, true, false, false, false, false, false, false, false, false, false, false, false, false, false, false, false, false, false, false, false]) (a' := ?a9_30) rfl (by kernel_rfl) (by kernel_rfl) (by kernel_rfl) (fun _ _ _ h => h) (Or.inl ⟨by kernel_rfl, ?h9_30⟩) rfl ?p9_30 hS12 ?r9_30
  case h9_30 => (intro w hS; obtain ⟨-, s0, s1, s2, s3, s4, s5, s6, s7⟩ := hS; go_simp; try with_reducible rfl)
  case p9_30 => (go_simp; try with_reducible rfl)
  refine wpAnyH_takeN (i := 31) (v := ?v9_31) (l' := #[true, true, true, true, true, true, true, true, true, true, true, true, true, true, true, true, true, true, true, true, true, true, true, true, true, true, true, true, true, true, true, true, false, false, false, false, false, false, false, false, false, false, false, false, false, false, false, false, false, false]) (a' := ?a9_31) rfl (by kernel_rfl) (by kernel_rfl) (by kernel_rfl) (fun _ _ _ h => h) (Or.inl ⟨by kernel_rfl, ?h9_31⟩) rfl ?p9_31 hS12 ?r9_31
  case h9_31 => (intro w hS; obtain ⟨-, s0, s1, s2, s3, s4, s5, s6, s7⟩ := hS; go_simp; try with_reducible rfl)
  case p9_31 => (go_simp; try with_reducible rfl)
  refine wpAnyH_takeN (i := 32) (v := ?v9_32) (l' := #[true, true, true, true, true, true, true, true, true, true, true, true, true, true, true, true, true, true, true, true, true, true, true, true, true, true, true, true, true, true, true, true, true, false, false, false, false, false, false, false, false, false, false, false, false, false, false, false, false, false]) (a' := ?a9_32) rfl (by kernel_rfl) (by kernel_rfl) (by kernel_rfl) (fun _ _ _ h => h) (Or.inl ⟨by kernel_rfl, ?h9_32⟩) rfl ?p9_32 hS12 ?r9_32
  case h9_32 => (intro w hS; obtain ⟨-, s0, s1, s2, s3, s4, s5, s6, s7⟩ := hS; go_simp; try with_reducible rfl)
  case p9_32 => (go_simp; try with_reducible rfl)
  refine wpAnyH_takeN (i := 34) (v := ?v9_34) (l' := #[true, true, true, true, true, true, true, true, true, true, true, true, true, true, true, true, true, true, true, true, true, true, true, true, true, true, true, true, true, true, true, true, true, false, true, false, false, false, false, false, false, false, false, false, false, false, false, false, false, false]) (a' := ?a9_34) rfl (by kernel_rfl) (by kernel_rfl) (by kernel_rfl) (fun _ _ _ h => h) (Or.inl ⟨by kernel_rfl, ?h9_34⟩) rfl ?p9_34 hS12 ?r9_34
  case h9_34 => (intro w hS; obtain ⟨-, s0, s1, s2, s3, s4, s5, s6, s7⟩ := hS; go_simp; try with_reducible rfl)
  case p9_34 => (go_simp; try with_reducible rfl)
  refine wpAnyH_takeN (i := 35) (v := ?v9_35) (l' := #[true, true, true, true, true, true, true, true, true, true, true, true, true, true, true, true, true, true, true, true, true, true, true, true, true, true, true, true, true, true, true, true, true, false, true, true, false, false, false, false, false, false, false, false, false, false, false, false, false, false]) (a' := ?a9_35) rfl (by kernel_rfl) (by kernel_rfl) (by kernel_rfl) (fun _ _ _ h => h) (Or.inl ⟨by kernel_rfl, ?h9_35⟩) rfl ?p9_35 hS12 ?r9_35
  case h9_35 => (intro w hS; obtain ⟨-, s0, s1, s2, s3, s4, s5, s6, s7⟩ := hS; go_simp; try with_reducible rfl)
  case p9_35 => (go_simp; try with_reducible rfl)
  refine wpAnyH_oneN (i := 33) (l' := #[true, true, true, true, true, true, true, true, true, true, true, true, true, true, true, true, true, true, true, true, true, true, true, true, true, true, true, true, true, true, true, true, true, true, true, true, false, false, false, false, false, false, false, false, false, false, false, false, false, false]) rfl (by kernel_rfl) (by kernel_rfl) rfl (fun K hK => ?_)
  obtain ⟨hP, s0, s1, s2, s3, s4, s5, s6, s7⟩ := hS12
  go_simp
  go_at_call 17
  refine (C9.out _).mono ?_
  rintro r w35 ⟨rfl, hb⟩
  dsimp only
  have D35 := Lib.hid (below_step hP hb)
  clear hb
  have hS13 := HO.out _ (D35.out)
  clear hP s0 s1 s2 s3 s4 s5 s6 s7
  refine hK _ _ hS13 ?_
  clear hK K
  refine wpAnyH_oneN (i := 36) (l' := #[true, true, true, true, true, true, true, true, true, true, true, true, true, true, true, true, true, true, true, true, true, true, true, true, true, true, true, true, true, true, true, true, true, true, true, true, true, false, false, false, false, false, false, false, false, false, false, false, false, false]) rfl (by kernel_rfl) (by kernel_rfl) rfl (fun K hK => ?_)
  obtain ⟨hP, s0, s1, s2, s3, s4, s5, s6, s7⟩ := hS13
  go_simp
  go_at_call 65
  refine (R9.out _).mono ?_
  rintro r w36 ⟨rfl, hb⟩
  dsimp only
  have D36 := Lib.hid (below_step hP hb)
  clear hb
  have hS14 := HO.out _ (D36.out)
  clear hP s0 s1 s2 s3 s4 s5 s6 s7
  refine hK _ _ hS14 ?_
  clear hK K
  refine wpAnyH_oneN (i := 37) (l' := #[true, true, true, true, true, true, true, true, true, true, true, true, true, true, true, true, true, true, true, true, true, true, true, true, true, true, true, true, true, true, true, true, true, true, true, true, true, true, false, false, false, false, false, false, false, false, false, false, false, false]) rfl (by kernel_rfl) (by kernel_rfl) rfl (fun K hK => ?_)
  obtain ⟨hP, s0, s1, s2, s3, s4, s5, s6, s7⟩ := hS14
  go_simp
  go_at_call 21
  refine (Q9.out _).mono ?_
  rintro r w37 ⟨rfl, hb⟩
  dsimp only
  have D37 := Lib.hid (below_step hP hb)
  clear hb
  have hS15 := HO.out _ (D37.out)
  clear hP s0 s1 s2 s3 s4 s5 s6 s7
  refine hK _ _ hS15 ?_
  clear hK K
  refine wpAnyH_takeN (i := 38) (v := ?v9_38) (l' := #[true, true, true, true, true, true, true, true, true, true, true, true, true, true, true, true, true, true, true, true, true, true, true, true, true, true, true, true, true, true, true, true, true, true, true, true, true, true, true, false, false, false, false, false, false, false, false, false, false, false]) (a' := ?a9_38) rfl (by kernel_rfl) (by kernel_rfl) (by kernel_rfl) (fun _ _ _ h => h) (Or.inl ⟨by kernel_rfl, ?h9_38⟩) rfl ?p9_38 hS15 ?r9_38
  case h9_38 => (intro w hS; obtain ⟨-, s0, s1, s2, s3, s4, s5, s6, s7⟩ := hS; go_simp; try with_reducible rfl)
  case p9_38 => (go_simp; try with_reducible rfl)
  refine wpAnyH_takeN (i := 39) (v := ?v9_39) (l' := #[true, true, true, true, true, true, true, true, true, true, true, true, true, true, true, true, true, true, true, true, true, true, true, true, true, true, true, true, true, true, true, true, true, true, true, true, true, true, true, true, false, false, false, false, false, false, false, false, false, false]) (a' := ?a9_39) rfl (by kernel_rfl) (by kernel_rfl) (by kernel_rfl) (fun _ _ _ h => h) (Or.inl ⟨by kernel_rfl, ?h9_39⟩) rfl ?p9_39 hS15 ?r9_39
  case h9_39 => (intro w hS; obtain ⟨-, s0, s1, s2, s3, s4, s5, s6, s7⟩ := hS; go_simp; try with_reducible rfl)
  case p9_39 => (go_simp; try with_reducible rfl)
  refine wpAnyH_takeN (i := 40) (v := ?v9_40) (l' := #[true, true, true, true, true, true, true, true, true, true, true, true, true, true, true, true, true, true, true, true, true, true, true, true, true, true, true, true, true, true, true, true, true, true, true, true, true, true, true, true, true, false, false, false, false, false, false, false, false, false]) (a' := ?a9_40) rfl (by kernel_rfl) (by kernel_rfl) (by kernel_rfl) (fun _ _ _ h => h) (Or.inl ⟨by kernel_rfl, ?h9_40⟩) rfl ?p9_40 hS15 ?r9_40
  case h9_40 => (intro w hS; obtain ⟨-, s0, s1, s2, s3, s4, s5, s6, s7⟩ := hS; go_simp; try with_reducible rfl)
  case p9_40 => (go_simp; try with_reducible rfl)
  refine wpAnyH_takeN (i := 41) (v := ?v9_41) (l' := #[true, true, true, true, true, true, true, true, true, true, true, true, true, true, true, true, true, true, true, true, true, true, true, true, true, true, true, true, true, true, true, true, true, true, true, true, true, true, true, true, true, true, false, false, false, false, false, false, false, false]) (a' := ?a9_41) rfl (by kernel_rfl) (by kernel_rfl) (by kernel_rfl) (fun _ _ _ h => h) (Or.inl ⟨by kernel_rfl, ?h9_41⟩) rfl ?p9_41 hS15 ?r9_41
  case h9_41 => (intro w hS; obtain ⟨-, s0, s1, s2, s3, s4, s5, s6, s7⟩ := hS; go_simp; try with_reducible rfl)
  case p9_41 => (go_simp; try with_reducible rfl)
  refine wpAnyH_oneN (i := 42) (l' := #[true, true, true, true, true, true, true, true, true, true, true, true, true, true, true, true, true, true, true, true, true, true, true, true, true, true, true, true, true, true, true, true, true, true, true, true, true, true, true, true, true, true, true, false, false, false, false, false, false, false]) rfl (by kernel_rfl) (by kernel_rfl) rfl (fun K hK => ?_)
  obtain ⟨hP, s0, s1, s2, s3, s4, s5, s6, s7⟩ := hS15
  go_simp
  go_at_call 21
  refine (QM.out _).mono ?_
  rintro r w38 ⟨rfl, hb⟩
  dsimp only
  have D38 := Lib.hid (below_step hP hb)
  clear hb
  have hS16 := HO.out _ (D38.out)
  clear hP s0 s1 s2 s3 s4 s5 s6 s7
  refine hK _ _ hS16 ?_
  clear hK K
  refine wpAnyH_takeN (i := 43) (v := ?v9_43) (l' := #[true, true, true, true, true, true, true, true, true, true, true, true, true, true, true, true, true, true, true, true, true, true, true, true, true, true, true, true, true, true, true, true, true, true, true, true, true, true, true, true, true, true, true, true, false, false, false, false, false, false]) (a' := ?a9_43) rfl (by kernel_rfl) (by kernel_rfl) (by kernel_rfl) (fun _ _ _ h => h) (Or.inl ⟨by kernel_rfl, ?h9_43⟩) rfl ?p9_43 hS16 ?r9_43
  case h9_43 => (intro w hS; obtain ⟨-, s0, s1, s2, s3, s4, s5, s6, s7⟩ := hS; go_simp; try with_reducible rfl)
  case p9_43 => (go_simp; try with_reducible rfl)
  refine wpAnyH_takeN (i := 44) (v := ?v9_44) (l' := #[true, true, true, true, true, true, true, true, true, true, true, true, true, true, true, true, true, true, true, true, true, true, true, true, true, true, true, true, true, true, true, true, true, true, true, true, true, true, true, true, true, true, true, true, true, false, false, false, false, false]) (a' := ?a9_44) rfl (by kernel_rfl) (by kernel_rfl) (by kernel_rfl) (fun _ _ _ h => h) (Or.inl ⟨by kernel_rfl, ?h9_44⟩) rfl ?p9_44 hS16 ?r9_44
  case h9_44 => (intro w hS; obtain ⟨-, s0, s1, s2, s3, s4, s5, s6, s7⟩ := hS; go_simp; try with_reducible rfl)
  case p9_44 => (go_simp; try with_reducible rfl)
  refine wpAnyH_takeN (i := 45) (v := ?v9_45) (l' := #[true, true, true, true, true, true, true, true, true, true, true, true, true, true, true, true, true, true, true, true, true, true, true, true, true, true, true, true, true, true, true, true, true, true, true, true, true, true, true, true, true, true, true, true, true, true, false, false, false, false]) (a' := ?a9_45) rfl (by kernel_rfl) (by kernel_rfl) (by kernel_rfl) (fun _ _ _ h => h) (Or.inl ⟨by kernel_rfl, ?h9_45⟩) rfl ?p9_45 hS16 ?r9_45
  case h9_45 => (intro w hS; obtain ⟨-, s0, s1, s2, s3, s4, s5, s6, s7⟩ := hS; go_simp; try with_reducible rfl)
  case p9_45 => (go_simp; try with_reducible rfl)
  refine wpAnyH_takeN (i := 46) (v := ?v9_46) (l' := #[true, true, true, true, true, true, true, true, true, true, true, true, true, true, true, true, true, true, true, true, true, true, true, true, true, true, true, true, true, true, true, true, true, true, true, true, true, true, true, true, true, true, true, true, true, true, true, false, false, false]) (a' := ?a9_46) rfl (by kernel_rfl) (by kernel_rfl) (by kernel_rfl) (fun _ _ _ h => h) (Or.inl ⟨by kernel_rfl, ?h9_46⟩) rfl ?p9_46 hS16 ?r9_46
  case h9_46 => (intro w hS; obtain ⟨-, s0, s1, s2, s3, s4, s5, s6, s7⟩ := hS; go_simp; try with_reducible rfl)
  case p9_46 => (go_simp; try with_reducible rfl)
  refine wpAnyH_takeN (i := 47) (v := ?v9_47) (l' := #[true, true, true, true, true, true, true, true, true, true, true, true, true, true, true, true, true, true, true, true, true, true, true, true, true, true, true, true, true, true, true, true, true, true, true, true, true, true, true, true, true, true, true, true, true, true, true, true, false, false]) (a' := ?a9_47) rfl (by kernel_rfl) (by kernel_rfl) (by kernel_rfl) (fun _ _ _ h => h) (Or.inl ⟨by kernel_rfl, ?h9_47⟩) rfl ?p9_47 hS16 ?r9_47
  case h9_47 => (intro w hS; obtain ⟨-, s0, s1, s2, s3, s4, s5, s6, s7⟩ := hS; go_simp; try with_reducible rfl)
  case p9_47 => (go_simp; try with_reducible rfl)
  refine wpAnyH_takeN (i := 48) (v := ?v9_48) (l' := #[true, true, true, true, true, true, true, true, true, true, true, true, true, true, true, true, true, true, true, true, true, true, true, true, true, true, true, true, true, true, true, true, true, true, true, true, true, true, true, true, true, true, true, true, true, true, true, true, true, false]) (a' := ?a9_48) rfl (by kernel_rfl) (by kernel_rfl) (by kernel_rfl) (fun _ _ _ h => h) (Or.inl ⟨by kernel_rfl, ?h9_48⟩) rfl ?p9_48 hS16 ?r9_48
  case h9_48 => (intro w hS; obtain ⟨-, s0, s1, s2, s3, s4, s5, s6, s7⟩ := hS; go_simp; try with_reducible rfl)
  case p9_48 => (go_simp; try with_reducible rfl)
  refine wpAnyH_takeN (i := 49) (v := ?v9_49) (l' := #[true, true, true, true, true, true, true, true, true, true, true, true, true, true, true, true, true, true, true, true, true, true, true, true, true, true, true, true, true, true, true, true, true, true, true, true, true, true, true, true, true, true, true, true, true, true, true, true, true, true]) (a' := ?a9_49) rfl (by kernel_rfl) (by kernel_rfl) (by kernel_rfl) (fun _ _ _ h => h) (Or.inl ⟨by kernel_rfl, ?h9_49⟩) rfl ?p9_49 hS16 ?r9_49
  case h9_49 => (intro w hS; obtain ⟨-, s0, s1, s2, s3, s4, s5, s6, s7⟩ := hS; go_simp; try with_reducible rfl)
  case p9_49 => (go_simp; try with_reducible rfl)
  refine wpAnyH_done (by kernel_rfl) ?_ _
  clear hS16
  obtain ⟨-, q0, q1, q2, q3, q4, q5, q6, q7⟩ := HO.out _ D38.out
  go_wp2_with fail
  go_ret
  exact ⟨rfl, below_step HB.out D38.out⟩
end Go.Proofs.Ytlpnfgglpoppfaa
