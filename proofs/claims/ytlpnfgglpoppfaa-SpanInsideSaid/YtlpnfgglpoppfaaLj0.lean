/- The walk of SpanInside, the good way (gen_li.py). -/
import Derived.Test.YtlpnfgglpoppfaaLi
set_option linter.unusedVariables false
set_option linter.unusedSimpArgs false
namespace Go.Proofs.Ytlpnfgglpoppfaa
open Go.RowKit Fl

set_option maxRecDepth 100000 in
set_option maxHeartbeats 40000000 in
theorem inside_gen (A B C D : Sp) (hC : Wi C A) (hD : Wi D B) (HF : (∃ n : Int, (∀ w, Calls Try.prog 32 #[.agg #[.float .f64 A.lo, .float .f64 A.hi]] w fun r w' => r = .returned (.tuple #[.int .i64 n, .int .i64 1]) ∧ Below w.heap.size w w') ∧ (∀ w, Calls Try.prog 32 #[.agg #[.float .f64 C.lo, .float .f64 C.hi]] w fun r w' => r = .returned (.tuple #[.int .i64 n, .int .i64 1]) ∧ Below w.heap.size w w')) ∨ (∃ m k : Int, (∀ w, Calls Try.prog 32 #[.agg #[.float .f64 A.lo, .float .f64 A.hi]] w fun r w' => r = .returned (.tuple #[.int .i64 0, .int .i64 2]) ∧ Below w.heap.size w w') ∧ (∀ w, Calls Try.prog 32 #[.agg #[.float .f64 C.lo, .float .f64 C.hi]] w fun r w' => r = .returned (.tuple #[.int .i64 m, .int .i64 k]) ∧ Below w.heap.size w w'))) (w : World) : Calls Try.prog 13 #[.agg #[.float .f64 A.lo, .float .f64 A.hi], .agg #[.float .f64 B.lo, .float .f64 B.hi], .agg #[.float .f64 C.lo, .float .f64 C.hi], .agg #[.float .f64 D.lo, .float .f64 D.hi]] w fun r w' => r = .returned (.bool true) ∧ Below w.heap.size w w' := by
  have H0 := Lib.hid awake2
  have U0 := Lib.hid (fun w => rvalid_any A.lo A.hi A.vd.l.lt A.vd.h.lt w)
  rw [vdB_of A.vd] at U0
  have U1 := Lib.hid (fun w => rvalid_any B.lo B.hi B.vd.l.lt B.vd.h.lt w)
  rw [vdB_of B.vd] at U1
  have U2 := Lib.hid (fun w => rvalid_any C.lo C.hi C.vd.l.lt C.vd.h.lt w)
  rw [vdB_of C.vd] at U2
  have U3 := Lib.hid (fun w => rvalid_any D.lo D.hi D.vd.l.lt D.vd.h.lt w)
  rw [vdB_of D.vd] at U3
  have G1 := Lib.hid (fun w => within_sp hC w)
  have G2 := Lib.hid (fun w => within_sp hD w)
  have X0 := Lib.hid (fun w => add_sp C D w)
  have Y0 := Lib.hid (fun w => add_sp A B w)
  have hw := wi_add hC hD
  obtain ⟨x0, hs⟩ : ∃ s, addS C D = s := ⟨_, rfl⟩
  rw [hs] at X0 hw
  clear hs
  obtain ⟨y0, hs⟩ : ∃ s, addS A B = s := ⟨_, rfl⟩
  rw [hs] at Y0 hw
  clear hs
  have Z0' := Lib.hid (fun w => within_sp hw w)
  clear hw
  have T0' := Lib.hid (fun w => rvalid_any x0.lo x0.hi x0.vd.l.lt x0.vd.h.lt w)
  rw [vdB_of x0.vd] at T0'
  have X1 := Lib.hid (fun w => neg_sp C w)
  have Y1 := Lib.hid (fun w => neg_sp A w)
  have hw := wi_neg hC
  obtain ⟨x1, hs⟩ : ∃ s, negS C = s := ⟨_, rfl⟩
  rw [hs] at X1 hw
  clear hs
  obtain ⟨y1, hs⟩ : ∃ s, negS A = s := ⟨_, rfl⟩
  rw [hs] at Y1 hw
  clear hs
  have Z1' := Lib.hid (fun w => within_sp hw w)
  clear hw
  have T1' := Lib.hid (fun w => rvalid_any x1.lo x1.hi x1.vd.l.lt x1.vd.h.lt w)
  rw [vdB_of x1.vd] at T1'
  have X2 := Lib.hid (fun w => sub_sp C D w)
  have Y2 := Lib.hid (fun w => sub_sp A B w)
  have hw := wi_sub hC hD
  obtain ⟨x2, hs⟩ : ∃ s, subS C D = s := ⟨_, rfl⟩
  rw [hs] at X2 hw
  clear hs
  obtain ⟨y2, hs⟩ : ∃ s, subS A B = s := ⟨_, rfl⟩
  rw [hs] at Y2 hw
  clear hs
  have Z2' := Lib.hid (fun w => within_sp hw w)
  clear hw
  have T2' := Lib.hid (fun w => rvalid_any x2.lo x2.hi x2.vd.l.lt x2.vd.h.lt w)
  rw [vdB_of x2.vd] at T2'
  have X3 := Lib.hid (fun w => mul_sp C D w)
  have Y3 := Lib.hid (fun w => mul_sp A B w)
  have hw := wi_mul hC hD
  obtain ⟨x3, hs⟩ : ∃ s, mulS C D = s := ⟨_, rfl⟩
  rw [hs] at X3 hw
  clear hs
  obtain ⟨y3, hs⟩ : ∃ s, mulS A B = s := ⟨_, rfl⟩
  rw [hs] at Y3 hw
  clear hs
  have Z3' := Lib.hid (fun w => within_sp hw w)
  clear hw
  have T3' := Lib.hid (fun w => rvalid_any x3.lo x3.hi x3.vd.l.lt x3.vd.h.lt w)
  rw [vdB_of x3.vd] at T3'
  have X4 := Lib.hid (fun w => div_sp C D w)
  have Y4 := Lib.hid (fun w => div_sp A B w)
  have hw := wi_div hC hD
  obtain ⟨x4, hs⟩ : ∃ s, divS C D = s := ⟨_, rfl⟩
  rw [hs] at X4 hw
  clear hs
  obtain ⟨y4, hs⟩ : ∃ s, divS A B = s := ⟨_, rfl⟩
  rw [hs] at Y4 hw
  clear hs
  have Z4' := Lib.hid (fun w => within_sp hw w)
  clear hw
  have T4' := Lib.hid (fun w => rvalid_any x4.lo x4.hi x4.vd.l.lt x4.vd.h.lt w)
  rw [vdB_of x4.vd] at T4'
  have X5 := Lib.hid (fun w => sqr_sp C w)
  have Y5 := Lib.hid (fun w => sqr_sp A w)
  have hw := wi_sqr hC
  obtain ⟨x5, hs⟩ : ∃ s, sqrS C = s := ⟨_, rfl⟩
  rw [hs] at X5 hw
  clear hs
  obtain ⟨y5, hs⟩ : ∃ s, sqrS A = s := ⟨_, rfl⟩
  rw [hs] at Y5 hw
  clear hs
  have Z5' := Lib.hid (fun w => within_sp hw w)
  clear hw
  have T5' := Lib.hid (fun w => rvalid_any x5.lo x5.hi x5.vd.l.lt x5.vd.h.lt w)
  rw [vdB_of x5.vd] at T5'
  have X6 := Lib.hid (fun w => min_sp C D w)
  have Y6 := Lib.hid (fun w => min_sp A B w)
  have hw := wi_min hC hD
  obtain ⟨x6, hs⟩ : ∃ s, minS C D = s := ⟨_, rfl⟩
  rw [hs] at X6 hw
  clear hs
  obtain ⟨y6, hs⟩ : ∃ s, minS A B = s := ⟨_, rfl⟩
  rw [hs] at Y6 hw
  clear hs
  have Z6' := Lib.hid (fun w => within_sp hw w)
  clear hw
  have T6' := Lib.hid (fun w => rvalid_any x6.lo x6.hi x6.vd.l.lt x6.vd.h.lt w)
  rw [vdB_of x6.vd] at T6'
  have X7 := Lib.hid (fun w => max_sp C D w)
  have Y7 := Lib.hid (fun w => max_sp A B w)
  have hw := wi_max hC hD
  obtain ⟨x7, hs⟩ : ∃ s, maxS C D = s := ⟨_, rfl⟩
  rw [hs] at X7 hw
  clear hs
  obtain ⟨y7, hs⟩ : ∃ s, maxS A B = s := ⟨_, rfl⟩
  rw [hs] at Y7 hw
  clear hs
  have Z7' := Lib.hid (fun w => within_sp hw w)
  clear hw
  have T7' := Lib.hid (fun w => rvalid_any x7.lo x7.hi x7.vd.l.lt x7.vd.h.lt w)
  rw [vdB_of x7.vd] at T7'
  have X8 := Lib.hid (fun w => hull_sp C D w)
  have Y8 := Lib.hid (fun w => hull_sp A B w)
  have hw := wi_hull hC hD
  obtain ⟨x8, hs⟩ : ∃ s, hullS C D = s := ⟨_, rfl⟩
  rw [hs] at X8 hw
  clear hs
  obtain ⟨y8, hs⟩ : ∃ s, hullS A B = s := ⟨_, rfl⟩
  rw [hs] at Y8 hw
  clear hs
  have Z8' := Lib.hid (fun w => within_sp hw w)
  clear hw
  have T8' := Lib.hid (fun w => rvalid_any x8.lo x8.hi x8.vd.l.lt x8.vd.h.lt w)
  rw [vdB_of x8.vd] at T8'
  have HQ := Lib.hid (root_way hC)
  have HF := Lib.hid HF
  have XQ := Lib.hid (fun w => sqrt_sp C w)
  have YQ := Lib.hid (fun w => sqrt_sp A w)
  generalize sqrtS C = xq at *
  generalize sqrtS A = yq at *
  have P1 := Lib.hid (fun w => pos_sp A w)
  have P2 := Lib.hid (fun w => pos_sp C w)
  have L1 := Lib.hid (fun w => less_sp A B w)
  have L2 := Lib.hid (fun w => less_sp C D w)
  have S1 := Lib.hid (fun w => stays_sp (posS A : Nat) (posS C : Nat) ((pos_stays hC).imp (fun e => by rw [e]; rfl) (fun e => by rw [e])) w)
  have S2 := Lib.hid (fun w => stays_sp (lessS A B : Nat) (lessS C D : Nat) ((less_stays hC hD).imp (fun e => by rw [e]; rfl) (fun e => by rw [e])) w)
  generalize posS A = u1 at *
  generalize posS C = u2 at *
  generalize lessS A B = u3 at *
  generalize lessS C D = u4 at *
  clear hC hD
  go_enter Try.func13, Try.ntmps13
  go_wp2_with fail
  obtain ⟨W, hW, K0, K1, K2, K3, hB, hz⟩ := bx4 w 24 24 24 24 #[Value.float FloatKind.f64 A.lo, Value.float FloatKind.f64 A.hi] #[Value.float FloatKind.f64 B.lo, Value.float FloatKind.f64 B.hi] #[Value.float FloatKind.f64 C.lo, Value.float FloatKind.f64 C.hi] #[Value.float FloatKind.f64 D.lo, Value.float FloatKind.f64 D.hi]
  rw [← hW]
  have K0 := Lib.hid K0
  have K1 := Lib.hid K1
  have K2 := Lib.hid K2
  have K3 := Lib.hid K3
  have HB := Lib.hid hB
  clear hW hB hz
  have HO := Lib.hid (show ∀ w', Below W.heap.size W w' → (Below W.heap.size W w' ∧ w'.cell? ⟨w.heap.size, 0, none⟩ = some (Value.float FloatKind.f64 A.lo) ∧ w'.cell? ⟨w.heap.size, 1, none⟩ = some (Value.float FloatKind.f64 A.hi) ∧ w'.cell? ⟨w.heap.size + 1, 0, none⟩ = some (Value.float FloatKind.f64 B.lo) ∧ w'.cell? ⟨w.heap.size + 1, 1, none⟩ = some (Value.float FloatKind.f64 B.hi) ∧ w'.cell? ⟨w.heap.size + 1 + 1, 0, none⟩ = some (Value.float FloatKind.f64 C.lo) ∧ w'.cell? ⟨w.heap.size + 1 + 1, 1, none⟩ = some (Value.float FloatKind.f64 C.hi) ∧ w'.cell? ⟨w.heap.size + 1 + 1 + 1, 0, none⟩ = some (Value.float FloatKind.f64 D.lo) ∧ w'.cell? ⟨w.heap.size + 1 + 1 + 1, 1, none⟩ = some (Value.float FloatKind.f64 D.hi)) from fun w' h => ⟨h, (K0.out.below h K0.out.lt).cell 0, (K0.out.below h K0.out.lt).cell 1, (K1.out.below h K1.out.lt).cell 0, (K1.out.below h K1.out.lt).cell 1, (K2.out.below h K2.out.lt).cell 0, (K2.out.below h K2.out.lt).cell 1, (K3.out.below h K3.out.lt).cell 0, (K3.out.below h K3.out.lt).cell 1⟩)
  have D0 := Lib.hid (Below.refl W.heap.size W)
  refine (H0.out _).mono ?_
  rintro r w1 ⟨rfl, hb⟩
  have D1 := Lib.hid (below_step D0.out hb)
  clear hb
  have hq := (HO.out _ D1.out).2
  go_wp2_with fail
  refine (U0.out _).mono ?_
  clear hq
  rintro r w2 ⟨rfl, hb⟩
  have D2 := Lib.hid (below_step D1.out hb)
  clear hb
  have hq := (HO.out _ D2.out).2
  go_wp2_with fail
  refine (U1.out _).mono ?_
  clear hq
  rintro r w3 ⟨rfl, hb⟩
  have D3 := Lib.hid (below_step D2.out hb)
  clear hb
  have hq := (HO.out _ D3.out).2
  go_wp2_with fail
  refine (U2.out _).mono ?_
  clear hq
  rintro r w4 ⟨rfl, hb⟩
  have D4 := Lib.hid (below_step D3.out hb)
  clear hb
  have hq := (HO.out _ D4.out).2
  go_wp2_with fail
  refine (U3.out _).mono ?_
  clear hq
  rintro r w5 ⟨rfl, hb⟩
  have D5 := Lib.hid (below_step D4.out hb)
  clear hb
  have hq := (HO.out _ D5.out).2
  go_wp2_with fail
  refine (G1.out _).mono ?_
  clear hq
  rintro r w6 ⟨rfl, hb⟩
  have D6 := Lib.hid (below_step D5.out hb)
  clear hb
  have hq := (HO.out _ D6.out).2
  go_wp2_with fail
  refine (G2.out _).mono ?_
  clear hq
  rintro r w7 ⟨rfl, hb⟩
  have D7 := Lib.hid (below_step D6.out hb)
  clear hb
  have hq := (HO.out _ D7.out).2
  go_wp2_with fail
  clear hq
  refine wp_region_held (S := (fun w' => Below W.heap.size W w' ∧ w'.cell? ⟨w.heap.size, 0, none⟩ = some (Value.float FloatKind.f64 A.lo) ∧ w'.cell? ⟨w.heap.size, 1, none⟩ = some (Value.float FloatKind.f64 A.hi) ∧ w'.cell? ⟨w.heap.size + 1, 0, none⟩ = some (Value.float FloatKind.f64 B.lo) ∧ w'.cell? ⟨w.heap.size + 1, 1, none⟩ = some (Value.float FloatKind.f64 B.hi) ∧ w'.cell? ⟨w.heap.size + 1 + 1, 0, none⟩ = some (Value.float FloatKind.f64 C.lo) ∧ w'.cell? ⟨w.heap.size + 1 + 1, 1, none⟩ = some (Value.float FloatKind.f64 C.hi) ∧ w'.cell? ⟨w.heap.size + 1 + 1 + 1, 0, none⟩ = some (Value.float FloatKind.f64 D.lo) ∧ w'.cell? ⟨w.heap.size + 1 + 1 + 1, 1, none⟩ = some (Value.float FloatKind.f64 D.hi))) (by kernel_rfl) ?_
  (try change wpAnyH _ _ _ _ _ _ _ (World.drew _))
  have hS0 := HO.out _ (Below.drew D7.out)
  refine wpAnyH_takeN (i := 0) (v := ?v5_0) (l' := bm 27 1) (a' := ?a5_0) rfl (by kernel_rfl) (by kernel_rfl) (by kernel_rfl) (fun _ _ _ h => h) (Or.inl ⟨by kernel_rfl, ?h5_0⟩) (by kernel_rfl) ?p5_0 hS0 ?r5_0
  case h5_0 => (intro w hS; go_simp; try with_reducible rfl)
  case p5_0 => (go_simp; try with_reducible rfl)
  refine wpAnyH_takeN (i := 1) (v := ?v5_1) (l' := bm 27 3) (a' := ?a5_1) rfl (by kernel_rfl) (by kernel_rfl) (by kernel_rfl) (fun _ _ _ h => h) (Or.inl ⟨by kernel_rfl, ?h5_1⟩) (by kernel_rfl) ?p5_1 hS0 ?r5_1
  case h5_1 => (intro w hS; go_simp; try with_reducible rfl)
  case p5_1 => (go_simp; try with_reducible rfl)
  refine wpAnyH_takeN (i := 3) (v := ?v5_3) (l' := bm 27 11) (a' := ?a5_3) rfl (by kernel_rfl) (by kernel_rfl) (by kernel_rfl) (fun _ _ _ h => h) (Or.inl ⟨by kernel_rfl, ?h5_3⟩) (by kernel_rfl) ?p5_3 hS0 ?r5_3
  case h5_3 => (intro w hS; go_simp; try with_reducible rfl)
  case p5_3 => (go_simp; try with_reducible rfl)
  refine wpAnyH_takeN (i := 5) (v := ?v5_5) (l' := bm 27 43) (a' := ?a5_5) rfl (by kernel_rfl) (by kernel_rfl) (by kernel_rfl) (fun _ _ _ h => h) (Or.inl ⟨by kernel_rfl, ?h5_5⟩) (by kernel_rfl) ?p5_5 hS0 ?r5_5
  case h5_5 => (intro w hS; go_simp; try with_reducible rfl)
  case p5_5 => (go_simp; try with_reducible rfl)
  refine wpAnyH_takeN (i := 6) (v := ?v5_6) (l' := bm 27 107) (a' := ?a5_6) rfl (by kernel_rfl) (by kernel_rfl) (by kernel_rfl) (fun _ _ _ h => h) (Or.inl ⟨by kernel_rfl, ?h5_6⟩) (by kernel_rfl) ?p5_6 hS0 ?r5_6
  case h5_6 => (intro w hS; go_simp; try with_reducible rfl)
  case p5_6 => (go_simp; try with_reducible rfl)
  refine wpAnyH_takeN (i := 8) (v := ?v5_8) (l' := bm 27 363) (a' := ?a5_8) rfl (by kernel_rfl) (by kernel_rfl) (by kernel_rfl) (fun _ _ _ h => h) (Or.inl ⟨by kernel_rfl, ?h5_8⟩) (by kernel_rfl) ?p5_8 hS0 ?r5_8
  case h5_8 => (intro w hS; go_simp; try with_reducible rfl)
  case p5_8 => (go_simp; try with_reducible rfl)
  refine wpAnyH_takeN (i := 9) (v := ?v5_9) (l' := bm 27 875) (a' := ?a5_9) rfl (by kernel_rfl) (by kernel_rfl) (by kernel_rfl) (fun _ _ _ h => h) (Or.inl ⟨by kernel_rfl, ?h5_9⟩) (by kernel_rfl) ?p5_9 hS0 ?r5_9
  case h5_9 => (intro w hS; go_simp; try with_reducible rfl)
  case p5_9 => (go_simp; try with_reducible rfl)
  refine wpAnyH_takeN (i := 11) (v := ?v5_11) (l' := bm 27 2923) (a' := ?a5_11) rfl (by kernel_rfl) (by kernel_rfl) (by kernel_rfl) (fun _ _ _ h => h) (Or.inl ⟨by kernel_rfl, ?h5_11⟩) (by kernel_rfl) ?p5_11 hS0 ?r5_11
  case h5_11 => (intro w hS; go_simp; try with_reducible rfl)
  case p5_11 => (go_simp; try with_reducible rfl)
  refine wpAnyH_takeN (i := 12) (v := ?v5_12) (l' := bm 27 7019) (a' := ?a5_12) rfl (by kernel_rfl) (by kernel_rfl) (by kernel_rfl) (fun _ _ _ h => h) (Or.inl ⟨by kernel_rfl, ?h5_12⟩) (by kernel_rfl) ?p5_12 hS0 ?r5_12
  case h5_12 => (intro w hS; go_simp; try with_reducible rfl)
  case p5_12 => (go_simp; try with_reducible rfl)
  refine wpAnyH_takeN (i := 14) (v := ?v5_14) (l' := bm 27 23403) (a' := ?a5_14) rfl (by kernel_rfl) (by kernel_rfl) (by kernel_rfl) (fun _ _ _ h => h) (Or.inl ⟨by kernel_rfl, ?h5_14⟩) (by kernel_rfl) ?p5_14 hS0 ?r5_14
  case h5_14 => (intro w hS; go_simp; try with_reducible rfl)
  case p5_14 => (go_simp; try with_reducible rfl)
  refine wpAnyH_takeN (i := 16) (v := ?v5_16) (l' := bm 27 88939) (a' := ?a5_16) rfl (by kernel_rfl) (by kernel_rfl) (by kernel_rfl) (fun _ _ _ h => h) (Or.inl ⟨by kernel_rfl, ?h5_16⟩) (by kernel_rfl) ?p5_16 hS0 ?r5_16
  case h5_16 => (intro w hS; go_simp; try with_reducible rfl)
  case p5_16 => (go_simp; try with_reducible rfl)
  refine wpAnyH_takeN (i := 17) (v := ?v5_17) (l' := bm 27 220011) (a' := ?a5_17) rfl (by kernel_rfl) (by kernel_rfl) (by kernel_rfl) (fun _ _ _ h => h) (Or.inl ⟨by kernel_rfl, ?h5_17⟩) (by kernel_rfl) ?p5_17 hS0 ?r5_17
  case h5_17 => (intro w hS; go_simp; try with_reducible rfl)
  case p5_17 => (go_simp; try with_reducible rfl)
  refine wpAnyH_takeN (i := 19) (v := ?v5_19) (l' := bm 27 744299) (a' := ?a5_19) rfl (by kernel_rfl) (by kernel_rfl) (by kernel_rfl) (fun _ _ _ h => h) (Or.inl ⟨by kernel_rfl, ?h5_19⟩) (by kernel_rfl) ?p5_19 hS0 ?r5_19
  case h5_19 => (intro w hS; go_simp; try with_reducible rfl)
  case p5_19 => (go_simp; try with_reducible rfl)
  refine wpAnyH_takeN (i := 20) (v := ?v5_20) (l' := bm 27 1792875) (a' := ?a5_20) rfl (by kernel_rfl) (by kernel_rfl) (by kernel_rfl) (fun _ _ _ h => h) (Or.inl ⟨by kernel_rfl, ?h5_20⟩) (by kernel_rfl) ?p5_20 hS0 ?r5_20
  case h5_20 => (intro w hS; go_simp; try with_reducible rfl)
  case p5_20 => (go_simp; try with_reducible rfl)
  refine wpAnyH_takeN (i := 22) (v := ?v5_22) (l' := bm 27 5987179) (a' := ?a5_22) rfl (by kernel_rfl) (by kernel_rfl) (by kernel_rfl) (fun _ _ _ h => h) (Or.inl ⟨by kernel_rfl, ?h5_22⟩) (by kernel_rfl) ?p5_22 hS0 ?r5_22
  case h5_22 => (intro w hS; go_simp; try with_reducible rfl)
  case p5_22 => (go_simp; try with_reducible rfl)
  refine wpAnyH_takeN (i := 23) (v := ?v5_23) (l' := bm 27 14375787) (a' := ?a5_23) rfl (by kernel_rfl) (by kernel_rfl) (by kernel_rfl) (fun _ _ _ h => h) (Or.inl ⟨by kernel_rfl, ?h5_23⟩) (by kernel_rfl) ?p5_23 hS0 ?r5_23
  case h5_23 => (intro w hS; go_simp; try with_reducible rfl)
  case p5_23 => (go_simp; try with_reducible rfl)
  refine wpAnyH_oneN (i := 2) (l' := bm 27 14375791) rfl (by kernel_rfl) (by kernel_rfl) (by kernel_rfl) (fun K hK => ?_)
  have hP := hS0.1
  go_simp
  go_at_call 37
  refine (X0.out _).mono ?_
  rintro r w8 ⟨rfl, hb⟩
  dsimp only
  have D8 := Lib.hid (below_step hP hb)
  clear hb
  have hS1 := HO.out _ (D8.out)
  clear hP hS0
  refine hK _ _ hS1 ?_
  clear hK K
  refine wpAnyH_oneN (i := 4) (l' := bm 27 14375807) rfl (by kernel_rfl) (by kernel_rfl) (by kernel_rfl) (fun K hK => ?_)
  have hP := hS1.1
  go_simp
  go_at_call 47
  refine (X1.out _).mono ?_
  rintro r w9 ⟨rfl, hb⟩
  dsimp only
  have D9 := Lib.hid (below_step hP hb)
  clear hb
  have hS2 := HO.out _ (D9.out)
  clear hP hS1
  refine hK _ _ hS2 ?_
  clear hK K
  refine wpAnyH_oneN (i := 7) (l' := bm 27 14375935) rfl (by kernel_rfl) (by kernel_rfl) (by kernel_rfl) (fun K hK => ?_)
  have hP := hS2.1
  go_simp
  go_at_call 38
  refine (X2.out _).mono ?_
  rintro r w10 ⟨rfl, hb⟩
  dsimp only
  have D10 := Lib.hid (below_step hP hb)
  clear hb
  have hS3 := HO.out _ (D10.out)
  clear hP hS2
  refine hK _ _ hS3 ?_
  clear hK K
  refine wpAnyH_oneN (i := 10) (l' := bm 27 14376959) rfl (by kernel_rfl) (by kernel_rfl) (by kernel_rfl) (fun K hK => ?_)
  have hP := hS3.1
  go_simp
  go_at_call 39
  refine (X3.out _).mono ?_
  rintro r w11 ⟨rfl, hb⟩
  dsimp only
  have D11 := Lib.hid (below_step hP hb)
  clear hb
  have hS4 := HO.out _ (D11.out)
  clear hP hS3
  refine hK _ _ hS4 ?_
  clear hK K
  refine wpAnyH_oneN (i := 13) (l' := bm 27 14385151) rfl (by kernel_rfl) (by kernel_rfl) (by kernel_rfl) (fun K hK => ?_)
  have hP := hS4.1
  go_simp
  go_at_call 53
  refine (X4.out _).mono ?_
  rintro r w12 ⟨rfl, hb⟩
  dsimp only
  have D12 := Lib.hid (below_step hP hb)
  clear hb
  have hS5 := HO.out _ (D12.out)
  clear hP hS4
  refine hK _ _ hS5 ?_
  clear hK K
  refine wpAnyH_oneN (i := 15) (l' := bm 27 14417919) rfl (by kernel_rfl) (by kernel_rfl) (by kernel_rfl) (fun K hK => ?_)
  have hP := hS5.1
  go_simp
  go_at_call 40
  refine (X5.out _).mono ?_
  rintro r w13 ⟨rfl, hb⟩
  dsimp only
  have D13 := Lib.hid (below_step hP hb)
  clear hb
  have hS6 := HO.out _ (D13.out)
  clear hP hS5
  refine hK _ _ hS6 ?_
  clear hK K
  refine wpAnyH_oneN (i := 18) (l' := bm 27 14680063) rfl (by kernel_rfl) (by kernel_rfl) (by kernel_rfl) (fun K hK => ?_)
  have hP := hS6.1
  go_simp
  go_at_call 45
  refine (X6.out _).mono ?_
  rintro r w14 ⟨rfl, hb⟩
  dsimp only
  have D14 := Lib.hid (below_step hP hb)
  clear hb
  have hS7 := HO.out _ (D14.out)
  clear hP hS6
  refine hK _ _ hS7 ?_
  clear hK K
  refine wpAnyH_oneN (i := 21) (l' := bm 27 16777215) rfl (by kernel_rfl) (by kernel_rfl) (by kernel_rfl) (fun K hK => ?_)
  have hP := hS7.1
  go_simp
  go_at_call 46
  refine (X7.out _).mono ?_
  rintro r w15 ⟨rfl, hb⟩
  dsimp only
  have D15 := Lib.hid (below_step hP hb)
  clear hb
  have hS8 := HO.out _ (D15.out)
  clear hP hS7
  refine hK _ _ hS8 ?_
  clear hK K
  refine wpAnyH_oneN (i := 24) (l' := bm 27 33554431) rfl (by kernel_rfl) (by kernel_rfl) (by kernel_rfl) (fun K hK => ?_)
  have hP := hS8.1
  go_simp
  go_at_call 17
  refine (X8.out _).mono ?_
  rintro r w16 ⟨rfl, hb⟩
  dsimp only
  have D16 := Lib.hid (below_step hP hb)
  clear hb
  have hS9 := HO.out _ (D16.out)
  clear hP hS8
  refine hK _ _ hS9 ?_
  clear hK K
  refine wpAnyH_oneN (i := 25) (l' := bm 27 67108863) rfl (by kernel_rfl) (by kernel_rfl) (by kernel_rfl) (fun K hK => ?_)
  have hP := hS9.1
  go_simp
  have hS10 := fun o => HO.out _ (below_more hP o)
  clear hP hS9
  refine hK _ _ (hS10 _) ?_
  clear hK K
  refine wpAnyH_takeN (i := 26) (v := ?v5_26) (l' := bm 27 134217727) (a' := ?a5_26) rfl (by kernel_rfl) (by kernel_rfl) (by kernel_rfl) (fun _ _ _ h => h) (Or.inl ⟨by kernel_rfl, ?h5_26⟩) (by kernel_rfl) ?p5_26 (hS10 _) ?r5_26
  case h5_26 => (intro w hS; go_simp; try with_reducible rfl)
  case p5_26 => (go_simp; try with_reducible rfl)
  refine wpAnyH_done (by kernel_rfl) ?_ _
  clear hS10
  obtain ⟨g1, hg1⟩ : ∃ g, w16.heap.size = g := ⟨_, rfl⟩
  obtain ⟨V1, hV⟩ : ∃ V, w16.alloc (.cells #[Value.float FloatKind.f64 x0.lo, Value.float FloatKind.f64 x0.hi, Value.float FloatKind.f64 x1.lo, Value.float FloatKind.f64 x1.hi, Value.float FloatKind.f64 x2.lo, Value.float FloatKind.f64 x2.hi, Value.float FloatKind.f64 x3.lo, Value.float FloatKind.f64 x3.hi, Value.float FloatKind.f64 x4.lo, Value.float FloatKind.f64 x4.hi, Value.float FloatKind.f64 x5.lo, Value.float FloatKind.f64 x5.hi, Value.float FloatKind.f64 x6.lo, Value.float FloatKind.f64 x6.hi, Value.float FloatKind.f64 x7.lo, Value.float FloatKind.f64 x7.hi, Value.float FloatKind.f64 x8.lo, Value.float FloatKind.f64 x8.hi] 24) = V := ⟨_, rfl⟩
  rw [hV, hg1]
  have K0' := Lib.hid (hV ▸ Blk.alloc (Blk.below K0.out D16.out K0.out.lt) _ : Blk V1 (w.heap.size) 24 #[Value.float FloatKind.f64 A.lo, Value.float FloatKind.f64 A.hi])
  have K1' := Lib.hid (hV ▸ Blk.alloc (Blk.below K1.out D16.out K1.out.lt) _ : Blk V1 (w.heap.size + 1) 24 #[Value.float FloatKind.f64 B.lo, Value.float FloatKind.f64 B.hi])
  have K2' := Lib.hid (hV ▸ Blk.alloc (Blk.below K2.out D16.out K2.out.lt) _ : Blk V1 (w.heap.size + 1 + 1) 24 #[Value.float FloatKind.f64 C.lo, Value.float FloatKind.f64 C.hi])
  have K3' := Lib.hid (hV ▸ Blk.alloc (Blk.below K3.out D16.out K3.out.lt) _ : Blk V1 (w.heap.size + 1 + 1 + 1) 24 #[Value.float FloatKind.f64 D.lo, Value.float FloatKind.f64 D.hi])
  have K4 := Lib.hid (show Blk V1 g1 24 #[Value.float FloatKind.f64 x0.lo, Value.float FloatKind.f64 x0.hi, Value.float FloatKind.f64 x1.lo, Value.float FloatKind.f64 x1.hi, Value.float FloatKind.f64 x2.lo, Value.float FloatKind.f64 x2.hi, Value.float FloatKind.f64 x3.lo, Value.float FloatKind.f64 x3.hi, Value.float FloatKind.f64 x4.lo, Value.float FloatKind.f64 x4.hi, Value.float FloatKind.f64 x5.lo, Value.float FloatKind.f64 x5.hi, Value.float FloatKind.f64 x6.lo, Value.float FloatKind.f64 x6.hi, Value.float FloatKind.f64 x7.lo, Value.float FloatKind.f64 x7.hi, Value.float FloatKind.f64 x8.lo, Value.float FloatKind.f64 x8.hi] by rw [← hV, ← hg1]; exact Blk.new_at _ _ _ rfl)
  have HB' := Lib.hid (hV ▸ below_more (below_step HB.out D16.out) _ : Below w.heap.size w V1)
  clear HB HO hV K0 K1 K2 K3
  have HB := HB'
  clear HB'
  have K0 := K0'
  clear K0'
  have K1 := K1'
  clear K1'
  have K2 := K2'
  clear K2'
  have K3 := K3'
  clear K3'
  have HO := Lib.hid (show ∀ w', Below V1.heap.size V1 w' → (Below V1.heap.size V1 w' ∧ w'.cell? ⟨w.heap.size, 0, none⟩ = some (Value.float FloatKind.f64 A.lo) ∧ w'.cell? ⟨w.heap.size, 1, none⟩ = some (Value.float FloatKind.f64 A.hi) ∧ w'.cell? ⟨w.heap.size + 1, 0, none⟩ = some (Value.float FloatKind.f64 B.lo) ∧ w'.cell? ⟨w.heap.size + 1, 1, none⟩ = some (Value.float FloatKind.f64 B.hi) ∧ w'.cell? ⟨w.heap.size + 1 + 1, 0, none⟩ = some (Value.float FloatKind.f64 C.lo) ∧ w'.cell? ⟨w.heap.size + 1 + 1, 1, none⟩ = some (Value.float FloatKind.f64 C.hi) ∧ w'.cell? ⟨w.heap.size + 1 + 1 + 1, 0, none⟩ = some (Value.float FloatKind.f64 D.lo) ∧ w'.cell? ⟨w.heap.size + 1 + 1 + 1, 1, none⟩ = some (Value.float FloatKind.f64 D.hi) ∧ w'.cell? ⟨g1, 0, none⟩ = some (Value.float FloatKind.f64 x0.lo) ∧ w'.cell? ⟨g1, 1, none⟩ = some (Value.float FloatKind.f64 x0.hi) ∧ w'.cell? ⟨g1, 2, none⟩ = some (Value.float FloatKind.f64 x1.lo) ∧ w'.cell? ⟨g1, 3, none⟩ = some (Value.float FloatKind.f64 x1.hi) ∧ w'.cell? ⟨g1, 4, none⟩ = some (Value.float FloatKind.f64 x2.lo) ∧ w'.cell? ⟨g1, 5, none⟩ = some (Value.float FloatKind.f64 x2.hi) ∧ w'.cell? ⟨g1, 6, none⟩ = some (Value.float FloatKind.f64 x3.lo) ∧ w'.cell? ⟨g1, 7, none⟩ = some (Value.float FloatKind.f64 x3.hi) ∧ w'.cell? ⟨g1, 8, none⟩ = some (Value.float FloatKind.f64 x4.lo) ∧ w'.cell? ⟨g1, 9, none⟩ = some (Value.float FloatKind.f64 x4.hi) ∧ w'.cell? ⟨g1, 10, none⟩ = some (Value.float FloatKind.f64 x5.lo) ∧ w'.cell? ⟨g1, 11, none⟩ = some (Value.float FloatKind.f64 x5.hi) ∧ w'.cell? ⟨g1, 12, none⟩ = some (Value.float FloatKind.f64 x6.lo) ∧ w'.cell? ⟨g1, 13, none⟩ = some (Value.float FloatKind.f64 x6.hi) ∧ w'.cell? ⟨g1, 14, none⟩ = some (Value.float FloatKind.f64 x7.lo) ∧ w'.cell? ⟨g1, 15, none⟩ = some (Value.float FloatKind.f64 x7.hi) ∧ w'.cell? ⟨g1, 16, none⟩ = some (Value.float FloatKind.f64 x8.lo) ∧ w'.cell? ⟨g1, 17, none⟩ = some (Value.float FloatKind.f64 x8.hi)) from fun w' h => ⟨h, (K0.out.below h K0.out.lt).cell 0, (K0.out.below h K0.out.lt).cell 1, (K1.out.below h K1.out.lt).cell 0, (K1.out.below h K1.out.lt).cell 1, (K2.out.below h K2.out.lt).cell 0, (K2.out.below h K2.out.lt).cell 1, (K3.out.below h K3.out.lt).cell 0, (K3.out.below h K3.out.lt).cell 1, (K4.out.below h K4.out.lt).cell 0, (K4.out.below h K4.out.lt).cell 1, (K4.out.below h K4.out.lt).cell 2, (K4.out.below h K4.out.lt).cell 3, (K4.out.below h K4.out.lt).cell 4, (K4.out.below h K4.out.lt).cell 5, (K4.out.below h K4.out.lt).cell 6, (K4.out.below h K4.out.lt).cell 7, (K4.out.below h K4.out.lt).cell 8, (K4.out.below h K4.out.lt).cell 9, (K4.out.below h K4.out.lt).cell 10, (K4.out.below h K4.out.lt).cell 11, (K4.out.below h K4.out.lt).cell 12, (K4.out.below h K4.out.lt).cell 13, (K4.out.below h K4.out.lt).cell 14, (K4.out.below h K4.out.lt).cell 15, (K4.out.below h K4.out.lt).cell 16, (K4.out.below h K4.out.lt).cell 17⟩)
  have D17 := Lib.hid (Below.refl V1.heap.size V1)
  have hq := (HO.out _ D17.out).2
  try rw [hg1]
  go_wp2_with fail
  clear hq
  refine wp_region_held (S := (fun w' => Below V1.heap.size V1 w' ∧ w'.cell? ⟨w.heap.size, 0, none⟩ = some (Value.float FloatKind.f64 A.lo) ∧ w'.cell? ⟨w.heap.size, 1, none⟩ = some (Value.float FloatKind.f64 A.hi) ∧ w'.cell? ⟨w.heap.size + 1, 0, none⟩ = some (Value.float FloatKind.f64 B.lo) ∧ w'.cell? ⟨w.heap.size + 1, 1, none⟩ = some (Value.float FloatKind.f64 B.hi) ∧ w'.cell? ⟨w.heap.size + 1 + 1, 0, none⟩ = some (Value.float FloatKind.f64 C.lo) ∧ w'.cell? ⟨w.heap.size + 1 + 1, 1, none⟩ = some (Value.float FloatKind.f64 C.hi) ∧ w'.cell? ⟨w.heap.size + 1 + 1 + 1, 0, none⟩ = some (Value.float FloatKind.f64 D.lo) ∧ w'.cell? ⟨w.heap.size + 1 + 1 + 1, 1, none⟩ = some (Value.float FloatKind.f64 D.hi) ∧ w'.cell? ⟨g1, 0, none⟩ = some (Value.float FloatKind.f64 x0.lo) ∧ w'.cell? ⟨g1, 1, none⟩ = some (Value.float FloatKind.f64 x0.hi) ∧ w'.cell? ⟨g1, 2, none⟩ = some (Value.float FloatKind.f64 x1.lo) ∧ w'.cell? ⟨g1, 3, none⟩ = some (Value.float FloatKind.f64 x1.hi) ∧ w'.cell? ⟨g1, 4, none⟩ = some (Value.float FloatKind.f64 x2.lo) ∧ w'.cell? ⟨g1, 5, none⟩ = some (Value.float FloatKind.f64 x2.hi) ∧ w'.cell? ⟨g1, 6, none⟩ = some (Value.float FloatKind.f64 x3.lo) ∧ w'.cell? ⟨g1, 7, none⟩ = some (Value.float FloatKind.f64 x3.hi) ∧ w'.cell? ⟨g1, 8, none⟩ = some (Value.float FloatKind.f64 x4.lo) ∧ w'.cell? ⟨g1, 9, none⟩ = some (Value.float FloatKind.f64 x4.hi) ∧ w'.cell? ⟨g1, 10, none⟩ = some (Value.float FloatKind.f64 x5.lo) ∧ w'.cell? ⟨g1, 11, none⟩ = some (Value.float FloatKind.f64 x5.hi) ∧ w'.cell? ⟨g1, 12, none⟩ = some (Value.float FloatKind.f64 x6.lo) ∧ w'.cell? ⟨g1, 13, none⟩ = some (Value.float FloatKind.f64 x6.hi) ∧ w'.cell? ⟨g1, 14, none⟩ = some (Value.float FloatKind.f64 x7.lo) ∧ w'.cell? ⟨g1, 15, none⟩ = some (Value.float FloatKind.f64 x7.hi) ∧ w'.cell? ⟨g1, 16, none⟩ = some (Value.float FloatKind.f64 x8.lo) ∧ w'.cell? ⟨g1, 17, none⟩ = some (Value.float FloatKind.f64 x8.hi))) (by kernel_rfl) ?_
  (try change wpAnyH _ _ _ _ _ _ _ (World.drew _))
  have hS0 := HO.out _ (Below.drew D17.out)
  refine wpAnyH_takeN (i := 0) (v := ?v6_0) (l' := bm 27 1) (a' := ?a6_0) rfl (by kernel_rfl) (by kernel_rfl) (by kernel_rfl) (fun _ _ _ h => h) (Or.inl ⟨by kernel_rfl, ?h6_0⟩) (by kernel_rfl) ?p6_0 hS0 ?r6_0
  case h6_0 => (intro w hS; go_simp; try with_reducible rfl)
  case p6_0 => (go_simp; try with_reducible rfl)
  refine wpAnyH_takeN (i := 1) (v := ?v6_1) (l' := bm 27 3) (a' := ?a6_1) rfl (by kernel_rfl) (by kernel_rfl) (by kernel_rfl) (fun _ _ _ h => h) (Or.inl ⟨by kernel_rfl, ?h6_1⟩) (by kernel_rfl) ?p6_1 hS0 ?r6_1
  case h6_1 => (intro w hS; go_simp; try with_reducible rfl)
  case p6_1 => (go_simp; try with_reducible rfl)
  refine wpAnyH_takeN (i := 3) (v := ?v6_3) (l' := bm 27 11) (a' := ?a6_3) rfl (by kernel_rfl) (by kernel_rfl) (by kernel_rfl) (fun _ _ _ h => h) (Or.inl ⟨by kernel_rfl, ?h6_3⟩) (by kernel_rfl) ?p6_3 hS0 ?r6_3
  case h6_3 => (intro w hS; go_simp; try with_reducible rfl)
  case p6_3 => (go_simp; try with_reducible rfl)
  refine wpAnyH_takeN (i := 5) (v := ?v6_5) (l' := bm 27 43) (a' := ?a6_5) rfl (by kernel_rfl) (by kernel_rfl) (by kernel_rfl) (fun _ _ _ h => h) (Or.inl ⟨by kernel_rfl, ?h6_5⟩) (by kernel_rfl) ?p6_5 hS0 ?r6_5
  case h6_5 => (intro w hS; go_simp; try with_reducible rfl)
  case p6_5 => (go_simp; try with_reducible rfl)
  refine wpAnyH_takeN (i := 6) (v := ?v6_6) (l' := bm 27 107) (a' := ?a6_6) rfl (by kernel_rfl) (by kernel_rfl) (by kernel_rfl) (fun _ _ _ h => h) (Or.inl ⟨by kernel_rfl, ?h6_6⟩) (by kernel_rfl) ?p6_6 hS0 ?r6_6
  case h6_6 => (intro w hS; go_simp; try with_reducible rfl)
  case p6_6 => (go_simp; try with_reducible rfl)
  refine wpAnyH_takeN (i := 8) (v := ?v6_8) (l' := bm 27 363) (a' := ?a6_8) rfl (by kernel_rfl) (by kernel_rfl) (by kernel_rfl) (fun _ _ _ h => h) (Or.inl ⟨by kernel_rfl, ?h6_8⟩) (by kernel_rfl) ?p6_8 hS0 ?r6_8
  case h6_8 => (intro w hS; go_simp; try with_reducible rfl)
  case p6_8 => (go_simp; try with_reducible rfl)
  refine wpAnyH_takeN (i := 9) (v := ?v6_9) (l' := bm 27 875) (a' := ?a6_9) rfl (by kernel_rfl) (by kernel_rfl) (by kernel_rfl) (fun _ _ _ h => h) (Or.inl ⟨by kernel_rfl, ?h6_9⟩) (by kernel_rfl) ?p6_9 hS0 ?r6_9
  case h6_9 => (intro w hS; go_simp; try with_reducible rfl)
  case p6_9 => (go_simp; try with_reducible rfl)
  refine wpAnyH_takeN (i := 11) (v := ?v6_11) (l' := bm 27 2923) (a' := ?a6_11) rfl (by kernel_rfl) (by kernel_rfl) (by kernel_rfl) (fun _ _ _ h => h) (Or.inl ⟨by kernel_rfl, ?h6_11⟩) (by kernel_rfl) ?p6_11 hS0 ?r6_11
  case h6_11 => (intro w hS; go_simp; try with_reducible rfl)
  case p6_11 => (go_simp; try with_reducible rfl)
  refine wpAnyH_takeN (i := 12) (v := ?v6_12) (l' := bm 27 7019) (a' := ?a6_12) rfl (by kernel_rfl) (by kernel_rfl) (by kernel_rfl) (fun _ _ _ h => h) (Or.inl ⟨by kernel_rfl, ?h6_12⟩) (by kernel_rfl) ?p6_12 hS0 ?r6_12
  case h6_12 => (intro w hS; go_simp; try with_reducible rfl)
  case p6_12 => (go_simp; try with_reducible rfl)
  refine wpAnyH_takeN (i := 14) (v := ?v6_14) (l' := bm 27 23403) (a' := ?a6_14) rfl (by kernel_rfl) (by kernel_rfl) (by kernel_rfl) (fun _ _ _ h => h) (Or.inl ⟨by kernel_rfl, ?h6_14⟩) (by kernel_rfl) ?p6_14 hS0 ?r6_14
  case h6_14 => (intro w hS; go_simp; try with_reducible rfl)
  case p6_14 => (go_simp; try with_reducible rfl)
  refine wpAnyH_takeN (i := 16) (v := ?v6_16) (l' := bm 27 88939) (a' := ?a6_16) rfl (by kernel_rfl) (by kernel_rfl) (by kernel_rfl) (fun _ _ _ h => h) (Or.inl ⟨by kernel_rfl, ?h6_16⟩) (by kernel_rfl) ?p6_16 hS0 ?r6_16
  case h6_16 => (intro w hS; go_simp; try with_reducible rfl)
  case p6_16 => (go_simp; try with_reducible rfl)
  refine wpAnyH_takeN (i := 17) (v := ?v6_17) (l' := bm 27 220011) (a' := ?a6_17) rfl (by kernel_rfl) (by kernel_rfl) (by kernel_rfl) (fun _ _ _ h => h) (Or.inl ⟨by kernel_rfl, ?h6_17⟩) (by kernel_rfl) ?p6_17 hS0 ?r6_17
  case h6_17 => (intro w hS; go_simp; try with_reducible rfl)
  case p6_17 => (go_simp; try with_reducible rfl)
  refine wpAnyH_takeN (i := 19) (v := ?v6_19) (l' := bm 27 744299) (a' := ?a6_19) rfl (by kernel_rfl) (by kernel_rfl) (by kernel_rfl) (fun _ _ _ h => h) (Or.inl ⟨by kernel_rfl, ?h6_19⟩) (by kernel_rfl) ?p6_19 hS0 ?r6_19
  case h6_19 => (intro w hS; go_simp; try with_reducible rfl)
  case p6_19 => (go_simp; try with_reducible rfl)
  refine wpAnyH_takeN (i := 20) (v := ?v6_20) (l' := bm 27 1792875) (a' := ?a6_20) rfl (by kernel_rfl) (by kernel_rfl) (by kernel_rfl) (fun _ _ _ h => h) (Or.inl ⟨by kernel_rfl, ?h6_20⟩) (by kernel_rfl) ?p6_20 hS0 ?r6_20
  case h6_20 => (intro w hS; go_simp; try with_reducible rfl)
  case p6_20 => (go_simp; try with_reducible rfl)
  refine wpAnyH_takeN (i := 22) (v := ?v6_22) (l' := bm 27 5987179) (a' := ?a6_22) rfl (by kernel_rfl) (by kernel_rfl) (by kernel_rfl) (fun _ _ _ h => h) (Or.inl ⟨by kernel_rfl, ?h6_22⟩) (by kernel_rfl) ?p6_22 hS0 ?r6_22
  case h6_22 => (intro w hS; go_simp; try with_reducible rfl)
  case p6_22 => (go_simp; try with_reducible rfl)
  refine wpAnyH_takeN (i := 23) (v := ?v6_23) (l' := bm 27 14375787) (a' := ?a6_23) rfl (by kernel_rfl) (by kernel_rfl) (by kernel_rfl) (fun _ _ _ h => h) (Or.inl ⟨by kernel_rfl, ?h6_23⟩) (by kernel_rfl) ?p6_23 hS0 ?r6_23
  case h6_23 => (intro w hS; go_simp; try with_reducible rfl)
  case p6_23 => (go_simp; try with_reducible rfl)
  refine wpAnyH_oneN (i := 2) (l' := bm 27 14375791) rfl (by kernel_rfl) (by kernel_rfl) (by kernel_rfl) (fun K hK => ?_)
  have hP := hS0.1
  go_simp
  go_at_call 37
  refine (Y0.out _).mono ?_
  rintro r w18 ⟨rfl, hb⟩
  dsimp only
  have D18 := Lib.hid (below_step hP hb)
  clear hb
  have hS1 := HO.out _ (D18.out)
  clear hP hS0
  refine hK _ _ hS1 ?_
  clear hK K
  refine wpAnyH_oneN (i := 4) (l' := bm 27 14375807) rfl (by kernel_rfl) (by kernel_rfl) (by kernel_rfl) (fun K hK => ?_)
  have hP := hS1.1
  go_simp
  go_at_call 47
  refine (Y1.out _).mono ?_
  rintro r w19 ⟨rfl, hb⟩
  dsimp only
  have D19 := Lib.hid (below_step hP hb)
  clear hb
  have hS2 := HO.out _ (D19.out)
  clear hP hS1
  refine hK _ _ hS2 ?_
  clear hK K
  refine wpAnyH_oneN (i := 7) (l' := bm 27 14375935) rfl (by kernel_rfl) (by kernel_rfl) (by kernel_rfl) (fun K hK => ?_)
  have hP := hS2.1
  go_simp
  go_at_call 38
  refine (Y2.out _).mono ?_
  rintro r w20 ⟨rfl, hb⟩
  dsimp only
  have D20 := Lib.hid (below_step hP hb)
  clear hb
  have hS3 := HO.out _ (D20.out)
  clear hP hS2
  refine hK _ _ hS3 ?_
  clear hK K
  refine wpAnyH_oneN (i := 10) (l' := bm 27 14376959) rfl (by kernel_rfl) (by kernel_rfl) (by kernel_rfl) (fun K hK => ?_)
  have hP := hS3.1
  go_simp
  go_at_call 39
  refine (Y3.out _).mono ?_
  rintro r w21 ⟨rfl, hb⟩
  dsimp only
  have D21 := Lib.hid (below_step hP hb)
  clear hb
  have hS4 := HO.out _ (D21.out)
  clear hP hS3
  refine hK _ _ hS4 ?_
  clear hK K
  refine wpAnyH_oneN (i := 13) (l' := bm 27 14385151) rfl (by kernel_rfl) (by kernel_rfl) (by kernel_rfl) (fun K hK => ?_)
  have hP := hS4.1
  go_simp
  go_at_call 53
  refine (Y4.out _).mono ?_
  rintro r w22 ⟨rfl, hb⟩
  dsimp only
  have D22 := Lib.hid (below_step hP hb)
  clear hb
  have hS5 := HO.out _ (D22.out)
  clear hP hS4
  refine hK _ _ hS5 ?_
  clear hK K
  refine wpAnyH_oneN (i := 15) (l' := bm 27 14417919) rfl (by kernel_rfl) (by kernel_rfl) (by kernel_rfl) (fun K hK => ?_)
  have hP := hS5.1
  go_simp
  go_at_call 40
  refine (Y5.out _).mono ?_
  rintro r w23 ⟨rfl, hb⟩
  dsimp only
  have D23 := Lib.hid (below_step hP hb)
  clear hb
  have hS6 := HO.out _ (D23.out)
  clear hP hS5
  refine hK _ _ hS6 ?_
  clear hK K
  refine wpAnyH_oneN (i := 18) (l' := bm 27 14680063) rfl (by kernel_rfl) (by kernel_rfl) (by kernel_rfl) (fun K hK => ?_)
  have hP := hS6.1
  go_simp
  go_at_call 45
  refine (Y6.out _).mono ?_
  rintro r w24 ⟨rfl, hb⟩
  dsimp only
  have D24 := Lib.hid (below_step hP hb)
  clear hb
  have hS7 := HO.out _ (D24.out)
  clear hP hS6
  refine hK _ _ hS7 ?_
  clear hK K
  refine wpAnyH_oneN (i := 21) (l' := bm 27 16777215) rfl (by kernel_rfl) (by kernel_rfl) (by kernel_rfl) (fun K hK => ?_)
  have hP := hS7.1
  go_simp
  go_at_call 46
  refine (Y7.out _).mono ?_
  rintro r w25 ⟨rfl, hb⟩
  dsimp only
  have D25 := Lib.hid (below_step hP hb)
  clear hb
  have hS8 := HO.out _ (D25.out)
  clear hP hS7
  refine hK _ _ hS8 ?_
  clear hK K
  refine wpAnyH_oneN (i := 24) (l' := bm 27 33554431) rfl (by kernel_rfl) (by kernel_rfl) (by kernel_rfl) (fun K hK => ?_)
  have hP := hS8.1
  go_simp
  go_at_call 17
  refine (Y8.out _).mono ?_
  rintro r w26 ⟨rfl, hb⟩
  dsimp only
  have D26 := Lib.hid (below_step hP hb)
  clear hb
  have hS9 := HO.out _ (D26.out)
  clear hP hS8
  refine hK _ _ hS9 ?_
  clear hK K
  refine wpAnyH_oneN (i := 25) (l' := bm 27 67108863) rfl (by kernel_rfl) (by kernel_rfl) (by kernel_rfl) (fun K hK => ?_)
  have hP := hS9.1
  go_simp
  have hS10 := fun o => HO.out _ (below_more hP o)
  clear hP hS9
  refine hK _ _ (hS10 _) ?_
  clear hK K
  refine wpAnyH_takeN (i := 26) (v := ?v6_26) (l' := bm 27 134217727) (a' := ?a6_26) rfl (by kernel_rfl) (by kernel_rfl) (by kernel_rfl) (fun _ _ _ h => h) (Or.inl ⟨by kernel_rfl, ?h6_26⟩) (by kernel_rfl) ?p6_26 (hS10 _) ?r6_26
  case h6_26 => (intro w hS; go_simp; try with_reducible rfl)
  case p6_26 => (go_simp; try with_reducible rfl)
  refine wpAnyH_done (by kernel_rfl) ?_ _
  clear hS10
  obtain ⟨g2, hg2⟩ : ∃ g, w26.heap.size = g := ⟨_, rfl⟩
  obtain ⟨V2, hV⟩ : ∃ V, w26.alloc (.cells #[Value.float FloatKind.f64 y0.lo, Value.float FloatKind.f64 y0.hi, Value.float FloatKind.f64 y1.lo, Value.float FloatKind.f64 y1.hi, Value.float FloatKind.f64 y2.lo, Value.float FloatKind.f64 y2.hi, Value.float FloatKind.f64 y3.lo, Value.float FloatKind.f64 y3.hi, Value.float FloatKind.f64 y4.lo, Value.float FloatKind.f64 y4.hi, Value.float FloatKind.f64 y5.lo, Value.float FloatKind.f64 y5.hi, Value.float FloatKind.f64 y6.lo, Value.float FloatKind.f64 y6.hi, Value.float FloatKind.f64 y7.lo, Value.float FloatKind.f64 y7.hi, Value.float FloatKind.f64 y8.lo, Value.float FloatKind.f64 y8.hi] 24) = V := ⟨_, rfl⟩
  rw [hV, hg2]
  have K0' := Lib.hid (hV ▸ Blk.alloc (Blk.below K0.out D26.out K0.out.lt) _ : Blk V2 (w.heap.size) 24 #[Value.float FloatKind.f64 A.lo, Value.float FloatKind.f64 A.hi])
  have K1' := Lib.hid (hV ▸ Blk.alloc (Blk.below K1.out D26.out K1.out.lt) _ : Blk V2 (w.heap.size + 1) 24 #[Value.float FloatKind.f64 B.lo, Value.float FloatKind.f64 B.hi])
  have K2' := Lib.hid (hV ▸ Blk.alloc (Blk.below K2.out D26.out K2.out.lt) _ : Blk V2 (w.heap.size + 1 + 1) 24 #[Value.float FloatKind.f64 C.lo, Value.float FloatKind.f64 C.hi])
  have K3' := Lib.hid (hV ▸ Blk.alloc (Blk.below K3.out D26.out K3.out.lt) _ : Blk V2 (w.heap.size + 1 + 1 + 1) 24 #[Value.float FloatKind.f64 D.lo, Value.float FloatKind.f64 D.hi])
  have K4' := Lib.hid (hV ▸ Blk.alloc (Blk.below K4.out D26.out K4.out.lt) _ : Blk V2 (g1) 24 #[Value.float FloatKind.f64 x0.lo, Value.float FloatKind.f64 x0.hi, Value.float FloatKind.f64 x1.lo, Value.float FloatKind.f64 x1.hi, Value.float FloatKind.f64 x2.lo, Value.float FloatKind.f64 x2.hi, Value.float FloatKind.f64 x3.lo, Value.float FloatKind.f64 x3.hi, Value.float FloatKind.f64 x4.lo, Value.float FloatKind.f64 x4.hi, Value.float FloatKind.f64 x5.lo, Value.float FloatKind.f64 x5.hi, Value.float FloatKind.f64 x6.lo, Value.float FloatKind.f64 x6.hi, Value.float FloatKind.f64 x7.lo, Value.float FloatKind.f64 x7.hi, Value.float FloatKind.f64 x8.lo, Value.float FloatKind.f64 x8.hi])
  have K5 := Lib.hid (show Blk V2 g2 24 #[Value.float FloatKind.f64 y0.lo, Value.float FloatKind.f64 y0.hi, Value.float FloatKind.f64 y1.lo, Value.float FloatKind.f64 y1.hi, Value.float FloatKind.f64 y2.lo, Value.float FloatKind.f64 y2.hi, Value.float FloatKind.f64 y3.lo, Value.float FloatKind.f64 y3.hi, Value.float FloatKind.f64 y4.lo, Value.float FloatKind.f64 y4.hi, Value.float FloatKind.f64 y5.lo, Value.float FloatKind.f64 y5.hi, Value.float FloatKind.f64 y6.lo, Value.float FloatKind.f64 y6.hi, Value.float FloatKind.f64 y7.lo, Value.float FloatKind.f64 y7.hi, Value.float FloatKind.f64 y8.lo, Value.float FloatKind.f64 y8.hi] by rw [← hV, ← hg2]; exact Blk.new_at _ _ _ rfl)
  have HB' := Lib.hid (hV ▸ below_more (below_step HB.out D26.out) _ : Below w.heap.size w V2)
  clear HB HO hV K0 K1 K2 K3 K4
  have HB := HB'
  clear HB'
  have K0 := K0'
  clear K0'
  have K1 := K1'
  clear K1'
  have K2 := K2'
  clear K2'
  have K3 := K3'
  clear K3'
  have K4 := K4'
  clear K4'
  have HO := Lib.hid (show ∀ w', Below V2.heap.size V2 w' → (Below V2.heap.size V2 w' ∧ w'.cell? ⟨w.heap.size, 0, none⟩ = some (Value.float FloatKind.f64 A.lo) ∧ w'.cell? ⟨w.heap.size, 1, none⟩ = some (Value.float FloatKind.f64 A.hi) ∧ w'.cell? ⟨w.heap.size + 1, 0, none⟩ = some (Value.float FloatKind.f64 B.lo) ∧ w'.cell? ⟨w.heap.size + 1, 1, none⟩ = some (Value.float FloatKind.f64 B.hi) ∧ w'.cell? ⟨w.heap.size + 1 + 1, 0, none⟩ = some (Value.float FloatKind.f64 C.lo) ∧ w'.cell? ⟨w.heap.size + 1 + 1, 1, none⟩ = some (Value.float FloatKind.f64 C.hi) ∧ w'.cell? ⟨w.heap.size + 1 + 1 + 1, 0, none⟩ = some (Value.float FloatKind.f64 D.lo) ∧ w'.cell? ⟨w.heap.size + 1 + 1 + 1, 1, none⟩ = some (Value.float FloatKind.f64 D.hi) ∧ w'.cell? ⟨g1, 0, none⟩ = some (Value.float FloatKind.f64 x0.lo) ∧ w'.cell? ⟨g1, 1, none⟩ = some (Value.float FloatKind.f64 x0.hi) ∧ w'.cell? ⟨g1, 2, none⟩ = some (Value.float FloatKind.f64 x1.lo) ∧ w'.cell? ⟨g1, 3, none⟩ = some (Value.float FloatKind.f64 x1.hi) ∧ w'.cell? ⟨g1, 4, none⟩ = some (Value.float FloatKind.f64 x2.lo) ∧ w'.cell? ⟨g1, 5, none⟩ = some (Value.float FloatKind.f64 x2.hi) ∧ w'.cell? ⟨g1, 6, none⟩ = some (Value.float FloatKind.f64 x3.lo) ∧ w'.cell? ⟨g1, 7, none⟩ = some (Value.float FloatKind.f64 x3.hi) ∧ w'.cell? ⟨g1, 8, none⟩ = some (Value.float FloatKind.f64 x4.lo) ∧ w'.cell? ⟨g1, 9, none⟩ = some (Value.float FloatKind.f64 x4.hi) ∧ w'.cell? ⟨g1, 10, none⟩ = some (Value.float FloatKind.f64 x5.lo) ∧ w'.cell? ⟨g1, 11, none⟩ = some (Value.float FloatKind.f64 x5.hi) ∧ w'.cell? ⟨g1, 12, none⟩ = some (Value.float FloatKind.f64 x6.lo) ∧ w'.cell? ⟨g1, 13, none⟩ = some (Value.float FloatKind.f64 x6.hi) ∧ w'.cell? ⟨g1, 14, none⟩ = some (Value.float FloatKind.f64 x7.lo) ∧ w'.cell? ⟨g1, 15, none⟩ = some (Value.float FloatKind.f64 x7.hi) ∧ w'.cell? ⟨g1, 16, none⟩ = some (Value.float FloatKind.f64 x8.lo) ∧ w'.cell? ⟨g1, 17, none⟩ = some (Value.float FloatKind.f64 x8.hi) ∧ w'.cell? ⟨g2, 0, none⟩ = some (Value.float FloatKind.f64 y0.lo) ∧ w'.cell? ⟨g2, 1, none⟩ = some (Value.float FloatKind.f64 y0.hi) ∧ w'.cell? ⟨g2, 2, none⟩ = some (Value.float FloatKind.f64 y1.lo) ∧ w'.cell? ⟨g2, 3, none⟩ = some (Value.float FloatKind.f64 y1.hi) ∧ w'.cell? ⟨g2, 4, none⟩ = some (Value.float FloatKind.f64 y2.lo) ∧ w'.cell? ⟨g2, 5, none⟩ = some (Value.float FloatKind.f64 y2.hi) ∧ w'.cell? ⟨g2, 6, none⟩ = some (Value.float FloatKind.f64 y3.lo) ∧ w'.cell? ⟨g2, 7, none⟩ = some (Value.float FloatKind.f64 y3.hi) ∧ w'.cell? ⟨g2, 8, none⟩ = some (Value.float FloatKind.f64 y4.lo) ∧ w'.cell? ⟨g2, 9, none⟩ = some (Value.float FloatKind.f64 y4.hi) ∧ w'.cell? ⟨g2, 10, none⟩ = some (Value.float FloatKind.f64 y5.lo) ∧ w'.cell? ⟨g2, 11, none⟩ = some (Value.float FloatKind.f64 y5.hi) ∧ w'.cell? ⟨g2, 12, none⟩ = some (Value.float FloatKind.f64 y6.lo) ∧ w'.cell? ⟨g2, 13, none⟩ = some (Value.float FloatKind.f64 y6.hi) ∧ w'.cell? ⟨g2, 14, none⟩ = some (Value.float FloatKind.f64 y7.lo) ∧ w'.cell? ⟨g2, 15, none⟩ = some (Value.float FloatKind.f64 y7.hi) ∧ w'.cell? ⟨g2, 16, none⟩ = some (Value.float FloatKind.f64 y8.lo) ∧ w'.cell? ⟨g2, 17, none⟩ = some (Value.float FloatKind.f64 y8.hi)) from fun w' h => ⟨h, (K0.out.below h K0.out.lt).cell 0, (K0.out.below h K0.out.lt).cell 1, (K1.out.below h K1.out.lt).cell 0, (K1.out.below h K1.out.lt).cell 1, (K2.out.below h K2.out.lt).cell 0, (K2.out.below h K2.out.lt).cell 1, (K3.out.below h K3.out.lt).cell 0, (K3.out.below h K3.out.lt).cell 1, (K4.out.below h K4.out.lt).cell 0, (K4.out.below h K4.out.lt).cell 1, (K4.out.below h K4.out.lt).cell 2, (K4.out.below h K4.out.lt).cell 3, (K4.out.below h K4.out.lt).cell 4, (K4.out.below h K4.out.lt).cell 5, (K4.out.below h K4.out.lt).cell 6, (K4.out.below h K4.out.lt).cell 7, (K4.out.below h K4.out.lt).cell 8, (K4.out.below h K4.out.lt).cell 9, (K4.out.below h K4.out.lt).cell 10, (K4.out.below h K4.out.lt).cell 11, (K4.out.below h K4.out.lt).cell 12, (K4.out.below h K4.out.lt).cell 13, (K4.out.below h K4.out.lt).cell 14, (K4.out.below h K4.out.lt).cell 15, (K4.out.below h K4.out.lt).cell 16, (K4.out.below h K4.out.lt).cell 17, (K5.out.below h K5.out.lt).cell 0, (K5.out.below h K5.out.lt).cell 1, (K5.out.below h K5.out.lt).cell 2, (K5.out.below h K5.out.lt).cell 3, (K5.out.below h K5.out.lt).cell 4, (K5.out.below h K5.out.lt).cell 5, (K5.out.below h K5.out.lt).cell 6, (K5.out.below h K5.out.lt).cell 7, (K5.out.below h K5.out.lt).cell 8, (K5.out.below h K5.out.lt).cell 9, (K5.out.below h K5.out.lt).cell 10, (K5.out.below h K5.out.lt).cell 11, (K5.out.below h K5.out.lt).cell 12, (K5.out.below h K5.out.lt).cell 13, (K5.out.below h K5.out.lt).cell 14, (K5.out.below h K5.out.lt).cell 15, (K5.out.below h K5.out.lt).cell 16, (K5.out.below h K5.out.lt).cell 17⟩)
  have D27 := Lib.hid (Below.refl V2.heap.size V2)
  have hq := (HO.out _ D27.out).2
  try rw [hg2]
  go_wp2_with fail
  clear hg2
  refine wp_loop_rounds 10 ?_
  rw [rounds_succ]
  go_wp2_with fail
  clear hq
  refine wp_region_held (S := (fun w' => Below V2.heap.size V2 w' ∧ w'.cell? ⟨w.heap.size, 0, none⟩ = some (Value.float FloatKind.f64 A.lo) ∧ w'.cell? ⟨w.heap.size, 1, none⟩ = some (Value.float FloatKind.f64 A.hi) ∧ w'.cell? ⟨w.heap.size + 1, 0, none⟩ = some (Value.float FloatKind.f64 B.lo) ∧ w'.cell? ⟨w.heap.size + 1, 1, none⟩ = some (Value.float FloatKind.f64 B.hi) ∧ w'.cell? ⟨w.heap.size + 1 + 1, 0, none⟩ = some (Value.float FloatKind.f64 C.lo) ∧ w'.cell? ⟨w.heap.size + 1 + 1, 1, none⟩ = some (Value.float FloatKind.f64 C.hi) ∧ w'.cell? ⟨w.heap.size + 1 + 1 + 1, 0, none⟩ = some (Value.float FloatKind.f64 D.lo) ∧ w'.cell? ⟨w.heap.size + 1 + 1 + 1, 1, none⟩ = some (Value.float FloatKind.f64 D.hi) ∧ w'.cell? ⟨g1, 0, none⟩ = some (Value.float FloatKind.f64 x0.lo) ∧ w'.cell? ⟨g1, 1, none⟩ = some (Value.float FloatKind.f64 x0.hi) ∧ w'.cell? ⟨g1, 2, none⟩ = some (Value.float FloatKind.f64 x1.lo) ∧ w'.cell? ⟨g1, 3, none⟩ = some (Value.float FloatKind.f64 x1.hi) ∧ w'.cell? ⟨g1, 4, none⟩ = some (Value.float FloatKind.f64 x2.lo) ∧ w'.cell? ⟨g1, 5, none⟩ = some (Value.float FloatKind.f64 x2.hi) ∧ w'.cell? ⟨g1, 6, none⟩ = some (Value.float FloatKind.f64 x3.lo) ∧ w'.cell? ⟨g1, 7, none⟩ = some (Value.float FloatKind.f64 x3.hi) ∧ w'.cell? ⟨g1, 8, none⟩ = some (Value.float FloatKind.f64 x4.lo) ∧ w'.cell? ⟨g1, 9, none⟩ = some (Value.float FloatKind.f64 x4.hi) ∧ w'.cell? ⟨g1, 10, none⟩ = some (Value.float FloatKind.f64 x5.lo) ∧ w'.cell? ⟨g1, 11, none⟩ = some (Value.float FloatKind.f64 x5.hi) ∧ w'.cell? ⟨g1, 12, none⟩ = some (Value.float FloatKind.f64 x6.lo) ∧ w'.cell? ⟨g1, 13, none⟩ = some (Value.float FloatKind.f64 x6.hi) ∧ w'.cell? ⟨g1, 14, none⟩ = some (Value.float FloatKind.f64 x7.lo) ∧ w'.cell? ⟨g1, 15, none⟩ = some (Value.float FloatKind.f64 x7.hi) ∧ w'.cell? ⟨g1, 16, none⟩ = some (Value.float FloatKind.f64 x8.lo) ∧ w'.cell? ⟨g1, 17, none⟩ = some (Value.float FloatKind.f64 x8.hi) ∧ w'.cell? ⟨g2, 0, none⟩ = some (Value.float FloatKind.f64 y0.lo) ∧ w'.cell? ⟨g2, 1, none⟩ = some (Value.float FloatKind.f64 y0.hi) ∧ w'.cell? ⟨g2, 2, none⟩ = some (Value.float FloatKind.f64 y1.lo) ∧ w'.cell? ⟨g2, 3, none⟩ = some (Value.float FloatKind.f64 y1.hi) ∧ w'.cell? ⟨g2, 4, none⟩ = some (Value.float FloatKind.f64 y2.lo) ∧ w'.cell? ⟨g2, 5, none⟩ = some (Value.float FloatKind.f64 y2.hi) ∧ w'.cell? ⟨g2, 6, none⟩ = some (Value.float FloatKind.f64 y3.lo) ∧ w'.cell? ⟨g2, 7, none⟩ = some (Value.float FloatKind.f64 y3.hi) ∧ w'.cell? ⟨g2, 8, none⟩ = some (Value.float FloatKind.f64 y4.lo) ∧ w'.cell? ⟨g2, 9, none⟩ = some (Value.float FloatKind.f64 y4.hi) ∧ w'.cell? ⟨g2, 10, none⟩ = some (Value.float FloatKind.f64 y5.lo) ∧ w'.cell? ⟨g2, 11, none⟩ = some (Value.float FloatKind.f64 y5.hi) ∧ w'.cell? ⟨g2, 12, none⟩ = some (Value.float FloatKind.f64 y6.lo) ∧ w'.cell? ⟨g2, 13, none⟩ = some (Value.float FloatKind.f64 y6.hi) ∧ w'.cell? ⟨g2, 14, none⟩ = some (Value.float FloatKind.f64 y7.lo) ∧ w'.cell? ⟨g2, 15, none⟩ = some (Value.float FloatKind.f64 y7.hi) ∧ w'.cell? ⟨g2, 16, none⟩ = some (Value.float FloatKind.f64 y8.lo) ∧ w'.cell? ⟨g2, 17, none⟩ = some (Value.float FloatKind.f64 y8.hi))) (by kernel_rfl) ?_
  (try change wpAnyH _ _ _ _ _ _ _ (World.drew _))
  have hS0 := HO.out _ (Below.drew D27.out)
  refine wpAnyH_takeN (i := 0) (v := ?v10_0) (l' := bm 18 1) (a' := ?a10_0) rfl (by kernel_rfl) (by kernel_rfl) (by kernel_rfl) (fun _ _ _ h => h) (Or.inl ⟨by kernel_rfl, ?h10_0⟩) (by kernel_rfl) ?p10_0 hS0 ?r10_0
  case h10_0 => (intro w hS; go_simp; try with_reducible rfl)
  case p10_0 => (go_simp; try with_reducible rfl)
  refine wpAnyH_takeN (i := 1) (v := ?v10_1) (l' := bm 18 3) (a' := ?a10_1) rfl (by kernel_rfl) (by kernel_rfl) (by kernel_rfl) (fun _ _ _ h => h) (Or.inl ⟨by kernel_rfl, ?h10_1⟩) (by kernel_rfl) ?p10_1 hS0 ?r10_1
  case h10_1 => (intro w hS; go_simp; try with_reducible rfl)
  case p10_1 => (go_simp; try with_reducible rfl)
  refine wpAnyH_takeN (i := 2) (v := ?v10_2) (l' := bm 18 7) (a' := ?a10_2) rfl (by kernel_rfl) (by kernel_rfl) (by kernel_rfl) (fun _ _ _ h => h) (Or.inl ⟨by kernel_rfl, ?h10_2⟩) (by kernel_rfl) ?p10_2 hS0 ?r10_2
  case h10_2 => (intro w hS; go_simp; try with_reducible rfl)
  case p10_2 => (go_simp; try with_reducible rfl)
  refine wpAnyH_takeN (i := 3) (v := ?v10_3) (l' := bm 18 15) (a' := ?a10_3) rfl (by kernel_rfl) (by kernel_rfl) (by kernel_rfl) (fun _ _ _ h => h) (Or.inl ⟨by kernel_rfl, ?h10_3⟩) (by kernel_rfl) ?p10_3 hS0 ?r10_3
  case h10_3 => (intro w hS; go_simp; try with_reducible rfl)
  case p10_3 => (go_simp; try with_reducible rfl)
  refine wpAnyH_oneN (i := 4) (l' := bm 18 31) rfl (by kernel_rfl) (by kernel_rfl) (by kernel_rfl) (fun K hK => ?_)
  have hP := hS0.1
  go_simp
  go_at_call 15
  refine (T0'.out _).mono ?_
  rintro r w28 ⟨rfl, hb⟩
  dsimp only
  have D28 := Lib.hid (below_step hP hb)
  clear hb
  have hS1 := HO.out _ (D28.out)
  clear hP hS0
  refine hK _ _ hS1 ?_
  clear hK K
  refine wpAnyH_takeN (i := 5) (v := ?v10_5) (l' := bm 18 63) (a' := ?a10_5) rfl (by kernel_rfl) (by kernel_rfl) (by kernel_rfl) (fun _ _ _ h => h) (Or.inl ⟨by kernel_rfl, ?h10_5⟩) (by kernel_rfl) ?p10_5 hS1 ?r10_5
  case h10_5 => (intro w hS; go_simp; try with_reducible rfl)
  case p10_5 => (go_simp; try with_reducible rfl)
  refine wpAnyH_takeN (i := 6) (v := ?v10_6) (l' := bm 18 127) (a' := ?a10_6) rfl (by kernel_rfl) (by kernel_rfl) (by kernel_rfl) (fun _ _ _ h => h) (Or.inl ⟨by kernel_rfl, ?h10_6⟩) (by kernel_rfl) ?p10_6 hS1 ?r10_6
  case h10_6 => (intro w hS; go_simp; try with_reducible rfl)
  case p10_6 => (go_simp; try with_reducible rfl)
  refine wpAnyH_takeN (i := 7) (v := ?v10_7) (l' := bm 18 255) (a' := ?a10_7) rfl (by kernel_rfl) (by kernel_rfl) (by kernel_rfl) (fun _ _ _ h => h) (Or.inl ⟨by kernel_rfl, ?h10_7⟩) (by kernel_rfl) ?p10_7 hS1 ?r10_7
  case h10_7 => (intro w hS; go_simp; try with_reducible rfl)
  case p10_7 => (go_simp; try with_reducible rfl)
  refine wpAnyH_takeN (i := 8) (v := ?v10_8) (l' := bm 18 511) (a' := ?a10_8) rfl (by kernel_rfl) (by kernel_rfl) (by kernel_rfl) (fun _ _ _ h => h) (Or.inl ⟨by kernel_rfl, ?h10_8⟩) (by kernel_rfl) ?p10_8 hS1 ?r10_8
  case h10_8 => (intro w hS; go_simp; try with_reducible rfl)
  case p10_8 => (go_simp; try with_reducible rfl)
  refine wpAnyH_takeN (i := 9) (v := ?v10_9) (l' := bm 18 1023) (a' := ?a10_9) rfl (by kernel_rfl) (by kernel_rfl) (by kernel_rfl) (fun _ _ _ h => h) (Or.inl ⟨by kernel_rfl, ?h10_9⟩) (by kernel_rfl) ?p10_9 hS1 ?r10_9
  case h10_9 => (intro w hS; go_simp; try with_reducible rfl)
  case p10_9 => (go_simp; try with_reducible rfl)
  refine wpAnyH_takeN (i := 10) (v := ?v10_10) (l' := bm 18 2047) (a' := ?a10_10) rfl (by kernel_rfl) (by kernel_rfl) (by kernel_rfl) (fun _ _ _ h => h) (Or.inl ⟨by kernel_rfl, ?h10_10⟩) (by kernel_rfl) ?p10_10 hS1 ?r10_10
  case h10_10 => (intro w hS; go_simp; try with_reducible rfl)
  case p10_10 => (go_simp; try with_reducible rfl)
  refine wpAnyH_takeN (i := 11) (v := ?v10_11) (l' := bm 18 4095) (a' := ?a10_11) rfl (by kernel_rfl) (by kernel_rfl) (by kernel_rfl) (fun _ _ _ h => h) (Or.inl ⟨by kernel_rfl, ?h10_11⟩) (by kernel_rfl) ?p10_11 hS1 ?r10_11
  case h10_11 => (intro w hS; go_simp; try with_reducible rfl)
  case p10_11 => (go_simp; try with_reducible rfl)
  refine wpAnyH_takeN (i := 12) (v := ?v10_12) (l' := bm 18 8191) (a' := ?a10_12) rfl (by kernel_rfl) (by kernel_rfl) (by kernel_rfl) (fun _ _ _ h => h) (Or.inl ⟨by kernel_rfl, ?h10_12⟩) (by kernel_rfl) ?p10_12 hS1 ?r10_12
  case h10_12 => (intro w hS; go_simp; try with_reducible rfl)
  case p10_12 => (go_simp; try with_reducible rfl)
  refine wpAnyH_takeN (i := 13) (v := ?v10_13) (l' := bm 18 16383) (a' := ?a10_13) rfl (by kernel_rfl) (by kernel_rfl) (by kernel_rfl) (fun _ _ _ h => h) (Or.inl ⟨by kernel_rfl, ?h10_13⟩) (by kernel_rfl) ?p10_13 hS1 ?r10_13
  case h10_13 => (intro w hS; go_simp; try with_reducible rfl)
  case p10_13 => (go_simp; try with_reducible rfl)
  refine wpAnyH_takeN (i := 14) (v := ?v10_14) (l' := bm 18 32767) (a' := ?a10_14) rfl (by kernel_rfl) (by kernel_rfl) (by kernel_rfl) (fun _ _ _ h => h) (Or.inl ⟨by kernel_rfl, ?h10_14⟩) (by kernel_rfl) ?p10_14 hS1 ?r10_14
  case h10_14 => (intro w hS; go_simp; try with_reducible rfl)
  case p10_14 => (go_simp; try with_reducible rfl)
  refine wpAnyH_oneN (i := 15) (l' := bm 18 65535) rfl (by kernel_rfl) (by kernel_rfl) (by kernel_rfl) (fun K hK => ?_)
  have hP := hS1.1
  go_simp
  go_at_call 67
  refine (Z0'.out _).mono ?_
  rintro r w29 ⟨rfl, hb⟩
  dsimp only
  have D29 := Lib.hid (below_step hP hb)
  clear hb
  have hS2 := HO.out _ (D29.out)
  clear hP hS1
  refine hK _ _ hS2 ?_
  clear hK K
  refine wpAnyH_takeN (i := 16) (v := ?v10_16) (l' := bm 18 131071) (a' := ?a10_16) rfl (by kernel_rfl) (by kernel_rfl) (by kernel_rfl) (fun _ _ _ h => h) (Or.inl ⟨by kernel_rfl, ?h10_16⟩) (by kernel_rfl) ?p10_16 hS2 ?r10_16
  case h10_16 => (intro w hS; go_simp; try with_reducible rfl)
  case p10_16 => (go_simp; try with_reducible rfl)
  refine wpAnyH_takeN (i := 17) (v := ?v10_17) (l' := bm 18 262143) (a' := ?a10_17) rfl (by kernel_rfl) (by kernel_rfl) (by kernel_rfl) (fun _ _ _ h => h) (Or.inl ⟨by kernel_rfl, ?h10_17⟩) (by kernel_rfl) ?p10_17 hS2 ?r10_17
  case h10_17 => (intro w hS; go_simp; try with_reducible rfl)
  case p10_17 => (go_simp; try with_reducible rfl)
  refine wpAnyH_done (by kernel_rfl) ?_ _
  clear hS2
  have hq := (HO.out _ D29.out).2
  go_wp2_with fail
  rw [rounds_succ]
  go_wp2_with fail
  clear hq
  refine wp_region_held (S := (fun w' => Below V2.heap.size V2 w' ∧ w'.cell? ⟨w.heap.size, 0, none⟩ = some (Value.float FloatKind.f64 A.lo) ∧ w'.cell? ⟨w.heap.size, 1, none⟩ = some (Value.float FloatKind.f64 A.hi) ∧ w'.cell? ⟨w.heap.size + 1, 0, none⟩ = some (Value.float FloatKind.f64 B.lo) ∧ w'.cell? ⟨w.heap.size + 1, 1, none⟩ = some (Value.float FloatKind.f64 B.hi) ∧ w'.cell? ⟨w.heap.size + 1 + 1, 0, none⟩ = some (Value.float FloatKind.f64 C.lo) ∧ w'.cell? ⟨w.heap.size + 1 + 1, 1, none⟩ = some (Value.float FloatKind.f64 C.hi) ∧ w'.cell? ⟨w.heap.size + 1 + 1 + 1, 0, none⟩ = some (Value.float FloatKind.f64 D.lo) ∧ w'.cell? ⟨w.heap.size + 1 + 1 + 1, 1, none⟩ = some (Value.float FloatKind.f64 D.hi) ∧ w'.cell? ⟨g1, 0, none⟩ = some (Value.float FloatKind.f64 x0.lo) ∧ w'.cell? ⟨g1, 1, none⟩ = some (Value.float FloatKind.f64 x0.hi) ∧ w'.cell? ⟨g1, 2, none⟩ = some (Value.float FloatKind.f64 x1.lo) ∧ w'.cell? ⟨g1, 3, none⟩ = some (Value.float FloatKind.f64 x1.hi) ∧ w'.cell? ⟨g1, 4, none⟩ = some (Value.float FloatKind.f64 x2.lo) ∧ w'.cell? ⟨g1, 5, none⟩ = some (Value.float FloatKind.f64 x2.hi) ∧ w'.cell? ⟨g1, 6, none⟩ = some (Value.float FloatKind.f64 x3.lo) ∧ w'.cell? ⟨g1, 7, none⟩ = some (Value.float FloatKind.f64 x3.hi) ∧ w'.cell? ⟨g1, 8, none⟩ = some (Value.float FloatKind.f64 x4.lo) ∧ w'.cell? ⟨g1, 9, none⟩ = some (Value.float FloatKind.f64 x4.hi) ∧ w'.cell? ⟨g1, 10, none⟩ = some (Value.float FloatKind.f64 x5.lo) ∧ w'.cell? ⟨g1, 11, none⟩ = some (Value.float FloatKind.f64 x5.hi) ∧ w'.cell? ⟨g1, 12, none⟩ = some (Value.float FloatKind.f64 x6.lo) ∧ w'.cell? ⟨g1, 13, none⟩ = some (Value.float FloatKind.f64 x6.hi) ∧ w'.cell? ⟨g1, 14, none⟩ = some (Value.float FloatKind.f64 x7.lo) ∧ w'.cell? ⟨g1, 15, none⟩ = some (Value.float FloatKind.f64 x7.hi) ∧ w'.cell? ⟨g1, 16, none⟩ = some (Value.float FloatKind.f64 x8.lo) ∧ w'.cell? ⟨g1, 17, none⟩ = some (Value.float FloatKind.f64 x8.hi) ∧ w'.cell? ⟨g2, 0, none⟩ = some (Value.float FloatKind.f64 y0.lo) ∧ w'.cell? ⟨g2, 1, none⟩ = some (Value.float FloatKind.f64 y0.hi) ∧ w'.cell? ⟨g2, 2, none⟩ = some (Value.float FloatKind.f64 y1.lo) ∧ w'.cell? ⟨g2, 3, none⟩ = some (Value.float FloatKind.f64 y1.hi) ∧ w'.cell? ⟨g2, 4, none⟩ = some (Value.float FloatKind.f64 y2.lo) ∧ w'.cell? ⟨g2, 5, none⟩ = some (Value.float FloatKind.f64 y2.hi) ∧ w'.cell? ⟨g2, 6, none⟩ = some (Value.float FloatKind.f64 y3.lo) ∧ w'.cell? ⟨g2, 7, none⟩ = some (Value.float FloatKind.f64 y3.hi) ∧ w'.cell? ⟨g2, 8, none⟩ = some (Value.float FloatKind.f64 y4.lo) ∧ w'.cell? ⟨g2, 9, none⟩ = some (Value.float FloatKind.f64 y4.hi) ∧ w'.cell? ⟨g2, 10, none⟩ = some (Value.float FloatKind.f64 y5.lo) ∧ w'.cell? ⟨g2, 11, none⟩ = some (Value.float FloatKind.f64 y5.hi) ∧ w'.cell? ⟨g2, 12, none⟩ = some (Value.float FloatKind.f64 y6.lo) ∧ w'.cell? ⟨g2, 13, none⟩ = some (Value.float FloatKind.f64 y6.hi) ∧ w'.cell? ⟨g2, 14, none⟩ = some (Value.float FloatKind.f64 y7.lo) ∧ w'.cell? ⟨g2, 15, none⟩ = some (Value.float FloatKind.f64 y7.hi) ∧ w'.cell? ⟨g2, 16, none⟩ = some (Value.float FloatKind.f64 y8.lo) ∧ w'.cell? ⟨g2, 17, none⟩ = some (Value.float FloatKind.f64 y8.hi))) (by kernel_rfl) ?_
  (try change wpAnyH _ _ _ _ _ _ _ (World.drew _))
  have hS0 := HO.out _ (Below.drew D29.out)
  refine wpAnyH_takeN (i := 0) (v := ?v10_0x1) (l' := bm 18 1) (a' := ?a10_0x1) rfl (by kernel_rfl) (by kernel_rfl) (by kernel_rfl) (fun _ _ _ h => h) (Or.inl ⟨by kernel_rfl, ?h10_0x1⟩) (by kernel_rfl) ?p10_0x1 hS0 ?r10_0x1
  case h10_0x1 => (intro w hS; go_simp; try with_reducible rfl)
  case p10_0x1 => (go_simp; try with_reducible rfl)
  refine wpAnyH_takeN (i := 1) (v := ?v10_1x1) (l' := bm 18 3) (a' := ?a10_1x1) rfl (by kernel_rfl) (by kernel_rfl) (by kernel_rfl) (fun _ _ _ h => h) (Or.inl ⟨by kernel_rfl, ?h10_1x1⟩) (by kernel_rfl) ?p10_1x1 hS0 ?r10_1x1
  case h10_1x1 => (intro w hS; go_simp; try with_reducible rfl)
  case p10_1x1 => (go_simp; try with_reducible rfl)
  refine wpAnyH_takeN (i := 2) (v := ?v10_2x1) (l' := bm 18 7) (a' := ?a10_2x1) rfl (by kernel_rfl) (by kernel_rfl) (by kernel_rfl) (fun _ _ _ h => h) (Or.inl ⟨by kernel_rfl, ?h10_2x1⟩) (by kernel_rfl) ?p10_2x1 hS0 ?r10_2x1
  case h10_2x1 => (intro w hS; go_simp; try with_reducible rfl)
  case p10_2x1 => (go_simp; try with_reducible rfl)
  refine wpAnyH_takeN (i := 3) (v := ?v10_3x1) (l' := bm 18 15) (a' := ?a10_3x1) rfl (by kernel_rfl) (by kernel_rfl) (by kernel_rfl) (fun _ _ _ h => h) (Or.inl ⟨by kernel_rfl, ?h10_3x1⟩) (by kernel_rfl) ?p10_3x1 hS0 ?r10_3x1
  case h10_3x1 => (intro w hS; go_simp; try with_reducible rfl)
  case p10_3x1 => (go_simp; try with_reducible rfl)
  refine wpAnyH_oneN (i := 4) (l' := bm 18 31) rfl (by kernel_rfl) (by kernel_rfl) (by kernel_rfl) (fun K hK => ?_)
  have hP := hS0.1
  go_simp
  go_at_call 15
  refine (T1'.out _).mono ?_
  rintro r w30 ⟨rfl, hb⟩
  dsimp only
  have D30 := Lib.hid (below_step hP hb)
  clear hb
  have hS1 := HO.out _ (D30.out)
  clear hP hS0
  refine hK _ _ hS1 ?_
  clear hK K
  refine wpAnyH_takeN (i := 5) (v := ?v10_5x1) (l' := bm 18 63) (a' := ?a10_5x1) rfl (by kernel_rfl) (by kernel_rfl) (by kernel_rfl) (fun _ _ _ h => h) (Or.inl ⟨by kernel_rfl, ?h10_5x1⟩) (by kernel_rfl) ?p10_5x1 hS1 ?r10_5x1
  case h10_5x1 => (intro w hS; go_simp; try with_reducible rfl)
  case p10_5x1 => (go_simp; try with_reducible rfl)
  refine wpAnyH_takeN (i := 6) (v := ?v10_6x1) (l' := bm 18 127) (a' := ?a10_6x1) rfl (by kernel_rfl) (by kernel_rfl) (by kernel_rfl) (fun _ _ _ h => h) (Or.inl ⟨by kernel_rfl, ?h10_6x1⟩) (by kernel_rfl) ?p10_6x1 hS1 ?r10_6x1
  case h10_6x1 => (intro w hS; go_simp; try with_reducible rfl)
  case p10_6x1 => (go_simp; try with_reducible rfl)
  refine wpAnyH_takeN (i := 7) (v := ?v10_7x1) (l' := bm 18 255) (a' := ?a10_7x1) rfl (by kernel_rfl) (by kernel_rfl) (by kernel_rfl) (fun _ _ _ h => h) (Or.inl ⟨by kernel_rfl, ?h10_7x1⟩) (by kernel_rfl) ?p10_7x1 hS1 ?r10_7x1
  case h10_7x1 => (intro w hS; go_simp; try with_reducible rfl)
  case p10_7x1 => (go_simp; try with_reducible rfl)
  refine wpAnyH_takeN (i := 8) (v := ?v10_8x1) (l' := bm 18 511) (a' := ?a10_8x1) rfl (by kernel_rfl) (by kernel_rfl) (by kernel_rfl) (fun _ _ _ h => h) (Or.inl ⟨by kernel_rfl, ?h10_8x1⟩) (by kernel_rfl) ?p10_8x1 hS1 ?r10_8x1
  case h10_8x1 => (intro w hS; go_simp; try with_reducible rfl)
  case p10_8x1 => (go_simp; try with_reducible rfl)
  refine wpAnyH_takeN (i := 9) (v := ?v10_9x1) (l' := bm 18 1023) (a' := ?a10_9x1) rfl (by kernel_rfl) (by kernel_rfl) (by kernel_rfl) (fun _ _ _ h => h) (Or.inl ⟨by kernel_rfl, ?h10_9x1⟩) (by kernel_rfl) ?p10_9x1 hS1 ?r10_9x1
  case h10_9x1 => (intro w hS; go_simp; try with_reducible rfl)
  case p10_9x1 => (go_simp; try with_reducible rfl)
  refine wpAnyH_takeN (i := 10) (v := ?v10_10x1) (l' := bm 18 2047) (a' := ?a10_10x1) rfl (by kernel_rfl) (by kernel_rfl) (by kernel_rfl) (fun _ _ _ h => h) (Or.inl ⟨by kernel_rfl, ?h10_10x1⟩) (by kernel_rfl) ?p10_10x1 hS1 ?r10_10x1
  case h10_10x1 => (intro w hS; go_simp; try with_reducible rfl)
  case p10_10x1 => (go_simp; try with_reducible rfl)
  refine wpAnyH_takeN (i := 11) (v := ?v10_11x1) (l' := bm 18 4095) (a' := ?a10_11x1) rfl (by kernel_rfl) (by kernel_rfl) (by kernel_rfl) (fun _ _ _ h => h) (Or.inl ⟨by kernel_rfl, ?h10_11x1⟩) (by kernel_rfl) ?p10_11x1 hS1 ?r10_11x1
  case h10_11x1 => (intro w hS; go_simp; try with_reducible rfl)
  case p10_11x1 => (go_simp; try with_reducible rfl)
  refine wpAnyH_takeN (i := 12) (v := ?v10_12x1) (l' := bm 18 8191) (a' := ?a10_12x1) rfl (by kernel_rfl) (by kernel_rfl) (by kernel_rfl) (fun _ _ _ h => h) (Or.inl ⟨by kernel_rfl, ?h10_12x1⟩) (by kernel_rfl) ?p10_12x1 hS1 ?r10_12x1
  case h10_12x1 => (intro w hS; go_simp; try with_reducible rfl)
  case p10_12x1 => (go_simp; try with_reducible rfl)
  refine wpAnyH_takeN (i := 13) (v := ?v10_13x1) (l' := bm 18 16383) (a' := ?a10_13x1) rfl (by kernel_rfl) (by kernel_rfl) (by kernel_rfl) (fun _ _ _ h => h) (Or.inl ⟨by kernel_rfl, ?h10_13x1⟩) (by kernel_rfl) ?p10_13x1 hS1 ?r10_13x1
  case h10_13x1 => (intro w hS; go_simp; try with_reducible rfl)
  case p10_13x1 => (go_simp; try with_reducible rfl)
  refine wpAnyH_takeN (i := 14) (v := ?v10_14x1) (l' := bm 18 32767) (a' := ?a10_14x1) rfl (by kernel_rfl) (by kernel_rfl) (by kernel_rfl) (fun _ _ _ h => h) (Or.inl ⟨by kernel_rfl, ?h10_14x1⟩) (by kernel_rfl) ?p10_14x1 hS1 ?r10_14x1
  case h10_14x1 => (intro w hS; go_simp; try with_reducible rfl)
  case p10_14x1 => (go_simp; try with_reducible rfl)
  refine wpAnyH_oneN (i := 15) (l' := bm 18 65535) rfl (by kernel_rfl) (by kernel_rfl) (by kernel_rfl) (fun K hK => ?_)
  have hP := hS1.1
  go_simp
  go_at_call 67
  refine (Z1'.out _).mono ?_
  rintro r w31 ⟨rfl, hb⟩
  dsimp only
  have D31 := Lib.hid (below_step hP hb)
  clear hb
  have hS2 := HO.out _ (D31.out)
  clear hP hS1
  refine hK _ _ hS2 ?_
  clear hK K
  refine wpAnyH_takeN (i := 16) (v := ?v10_16x1) (l' := bm 18 131071) (a' := ?a10_16x1) rfl (by kernel_rfl) (by kernel_rfl) (by kernel_rfl) (fun _ _ _ h => h) (Or.inl ⟨by kernel_rfl, ?h10_16x1⟩) (by kernel_rfl) ?p10_16x1 hS2 ?r10_16x1
  case h10_16x1 => (intro w hS; go_simp; try with_reducible rfl)
  case p10_16x1 => (go_simp; try with_reducible rfl)
  refine wpAnyH_takeN (i := 17) (v := ?v10_17x1) (l' := bm 18 262143) (a' := ?a10_17x1) rfl (by kernel_rfl) (by kernel_rfl) (by kernel_rfl) (fun _ _ _ h => h) (Or.inl ⟨by kernel_rfl, ?h10_17x1⟩) (by kernel_rfl) ?p10_17x1 hS2 ?r10_17x1
  case h10_17x1 => (intro w hS; go_simp; try with_reducible rfl)
  case p10_17x1 => (go_simp; try with_reducible rfl)
  refine wpAnyH_done (by kernel_rfl) ?_ _
  clear hS2
  have hq := (HO.out _ D31.out).2
  go_wp2_with fail
  rw [rounds_succ]
  go_wp2_with fail
  clear hq
  refine wp_region_held (S := (fun w' => Below V2.heap.size V2 w' ∧ w'.cell? ⟨w.heap.size, 0, none⟩ = some (Value.float FloatKind.f64 A.lo) ∧ w'.cell? ⟨w.heap.size, 1, none⟩ = some (Value.float FloatKind.f64 A.hi) ∧ w'.cell? ⟨w.heap.size + 1, 0, none⟩ = some (Value.float FloatKind.f64 B.lo) ∧ w'.cell? ⟨w.heap.size + 1, 1, none⟩ = some (Value.float FloatKind.f64 B.hi) ∧ w'.cell? ⟨w.heap.size + 1 + 1, 0, none⟩ = some (Value.float FloatKind.f64 C.lo) ∧ w'.cell? ⟨w.heap.size + 1 + 1, 1, none⟩ = some (Value.float FloatKind.f64 C.hi) ∧ w'.cell? ⟨w.heap.size + 1 + 1 + 1, 0, none⟩ = some (Value.float FloatKind.f64 D.lo) ∧ w'.cell? ⟨w.heap.size + 1 + 1 + 1, 1, none⟩ = some (Value.float FloatKind.f64 D.hi) ∧ w'.cell? ⟨g1, 0, none⟩ = some (Value.float FloatKind.f64 x0.lo) ∧ w'.cell? ⟨g1, 1, none⟩ = some (Value.float FloatKind.f64 x0.hi) ∧ w'.cell? ⟨g1, 2, none⟩ = some (Value.float FloatKind.f64 x1.lo) ∧ w'.cell? ⟨g1, 3, none⟩ = some (Value.float FloatKind.f64 x1.hi) ∧ w'.cell? ⟨g1, 4, none⟩ = some (Value.float FloatKind.f64 x2.lo) ∧ w'.cell? ⟨g1, 5, none⟩ = some (Value.float FloatKind.f64 x2.hi) ∧ w'.cell? ⟨g1, 6, none⟩ = some (Value.float FloatKind.f64 x3.lo) ∧ w'.cell? ⟨g1, 7, none⟩ = some (Value.float FloatKind.f64 x3.hi) ∧ w'.cell? ⟨g1, 8, none⟩ = some (Value.float FloatKind.f64 x4.lo) ∧ w'.cell? ⟨g1, 9, none⟩ = some (Value.float FloatKind.f64 x4.hi) ∧ w'.cell? ⟨g1, 10, none⟩ = some (Value.float FloatKind.f64 x5.lo) ∧ w'.cell? ⟨g1, 11, none⟩ = some (Value.float FloatKind.f64 x5.hi) ∧ w'.cell? ⟨g1, 12, none⟩ = some (Value.float FloatKind.f64 x6.lo) ∧ w'.cell? ⟨g1, 13, none⟩ = some (Value.float FloatKind.f64 x6.hi) ∧ w'.cell? ⟨g1, 14, none⟩ = some (Value.float FloatKind.f64 x7.lo) ∧ w'.cell? ⟨g1, 15, none⟩ = some (Value.float FloatKind.f64 x7.hi) ∧ w'.cell? ⟨g1, 16, none⟩ = some (Value.float FloatKind.f64 x8.lo) ∧ w'.cell? ⟨g1, 17, none⟩ = some (Value.float FloatKind.f64 x8.hi) ∧ w'.cell? ⟨g2, 0, none⟩ = some (Value.float FloatKind.f64 y0.lo) ∧ w'.cell? ⟨g2, 1, none⟩ = some (Value.float FloatKind.f64 y0.hi) ∧ w'.cell? ⟨g2, 2, none⟩ = some (Value.float FloatKind.f64 y1.lo) ∧ w'.cell? ⟨g2, 3, none⟩ = some (Value.float FloatKind.f64 y1.hi) ∧ w'.cell? ⟨g2, 4, none⟩ = some (Value.float FloatKind.f64 y2.lo) ∧ w'.cell? ⟨g2, 5, none⟩ = some (Value.float FloatKind.f64 y2.hi) ∧ w'.cell? ⟨g2, 6, none⟩ = some (Value.float FloatKind.f64 y3.lo) ∧ w'.cell? ⟨g2, 7, none⟩ = some (Value.float FloatKind.f64 y3.hi) ∧ w'.cell? ⟨g2, 8, none⟩ = some (Value.float FloatKind.f64 y4.lo) ∧ w'.cell? ⟨g2, 9, none⟩ = some (Value.float FloatKind.f64 y4.hi) ∧ w'.cell? ⟨g2, 10, none⟩ = some (Value.float FloatKind.f64 y5.lo) ∧ w'.cell? ⟨g2, 11, none⟩ = some (Value.float FloatKind.f64 y5.hi) ∧ w'.cell? ⟨g2, 12, none⟩ = some (Value.float FloatKind.f64 y6.lo) ∧ w'.cell? ⟨g2, 13, none⟩ = some (Value.float FloatKind.f64 y6.hi) ∧ w'.cell? ⟨g2, 14, none⟩ = some (Value.float FloatKind.f64 y7.lo) ∧ w'.cell? ⟨g2, 15, none⟩ = some (Value.float FloatKind.f64 y7.hi) ∧ w'.cell? ⟨g2, 16, none⟩ = some (Value.float FloatKind.f64 y8.lo) ∧ w'.cell? ⟨g2, 17, none⟩ = some (Value.float FloatKind.f64 y8.hi))) (by kernel_rfl) ?_
  (try change wpAnyH _ _ _ _ _ _ _ (World.drew _))
  have hS0 := HO.out _ (Below.drew D31.out)
  refine wpAnyH_takeN (i := 0) (v := ?v10_0x2) (l' := bm 18 1) (a' := ?a10_0x2) rfl (by kernel_rfl) (by kernel_rfl) (by kernel_rfl) (fun _ _ _ h => h) (Or.inl ⟨by kernel_rfl, ?h10_0x2⟩) (by kernel_rfl) ?p10_0x2 hS0 ?r10_0x2
  case h10_0x2 => (intro w hS; go_simp; try with_reducible rfl)
  case p10_0x2 => (go_simp; try with_reducible rfl)
  refine wpAnyH_takeN (i := 1) (v := ?v10_1x2) (l' := bm 18 3) (a' := ?a10_1x2) rfl (by kernel_rfl) (by kernel_rfl) (by kernel_rfl) (fun _ _ _ h => h) (Or.inl ⟨by kernel_rfl, ?h10_1x2⟩) (by kernel_rfl) ?p10_1x2 hS0 ?r10_1x2
  case h10_1x2 => (intro w hS; go_simp; try with_reducible rfl)
  case p10_1x2 => (go_simp; try with_reducible rfl)
  refine wpAnyH_takeN (i := 2) (v := ?v10_2x2) (l' := bm 18 7) (a' := ?a10_2x2) rfl (by kernel_rfl) (by kernel_rfl) (by kernel_rfl) (fun _ _ _ h => h) (Or.inl ⟨by kernel_rfl, ?h10_2x2⟩) (by kernel_rfl) ?p10_2x2 hS0 ?r10_2x2
  case h10_2x2 => (intro w hS; go_simp; try with_reducible rfl)
  case p10_2x2 => (go_simp; try with_reducible rfl)
  refine wpAnyH_takeN (i := 3) (v := ?v10_3x2) (l' := bm 18 15) (a' := ?a10_3x2) rfl (by kernel_rfl) (by kernel_rfl) (by kernel_rfl) (fun _ _ _ h => h) (Or.inl ⟨by kernel_rfl, ?h10_3x2⟩) (by kernel_rfl) ?p10_3x2 hS0 ?r10_3x2
  case h10_3x2 => (intro w hS; go_simp; try with_reducible rfl)
  case p10_3x2 => (go_simp; try with_reducible rfl)
  refine wpAnyH_oneN (i := 4) (l' := bm 18 31) rfl (by kernel_rfl) (by kernel_rfl) (by kernel_rfl) (fun K hK => ?_)
  have hP := hS0.1
  go_simp
  go_at_call 15
  refine (T2'.out _).mono ?_
  rintro r w32 ⟨rfl, hb⟩
  dsimp only
  have D32 := Lib.hid (below_step hP hb)
  clear hb
  have hS1 := HO.out _ (D32.out)
  clear hP hS0
  refine hK _ _ hS1 ?_
  clear hK K
  refine wpAnyH_takeN (i := 5) (v := ?v10_5x2) (l' := bm 18 63) (a' := ?a10_5x2) rfl (by kernel_rfl) (by kernel_rfl) (by kernel_rfl) (fun _ _ _ h => h) (Or.inl ⟨by kernel_rfl, ?h10_5x2⟩) (by kernel_rfl) ?p10_5x2 hS1 ?r10_5x2
  case h10_5x2 => (intro w hS; go_simp; try with_reducible rfl)
  case p10_5x2 => (go_simp; try with_reducible rfl)
  refine wpAnyH_takeN (i := 6) (v := ?v10_6x2) (l' := bm 18 127) (a' := ?a10_6x2) rfl (by kernel_rfl) (by kernel_rfl) (by kernel_rfl) (fun _ _ _ h => h) (Or.inl ⟨by kernel_rfl, ?h10_6x2⟩) (by kernel_rfl) ?p10_6x2 hS1 ?r10_6x2
  case h10_6x2 => (intro w hS; go_simp; try with_reducible rfl)
  case p10_6x2 => (go_simp; try with_reducible rfl)
  refine wpAnyH_takeN (i := 7) (v := ?v10_7x2) (l' := bm 18 255) (a' := ?a10_7x2) rfl (by kernel_rfl) (by kernel_rfl) (by kernel_rfl) (fun _ _ _ h => h) (Or.inl ⟨by kernel_rfl, ?h10_7x2⟩) (by kernel_rfl) ?p10_7x2 hS1 ?r10_7x2
  case h10_7x2 => (intro w hS; go_simp; try with_reducible rfl)
  case p10_7x2 => (go_simp; try with_reducible rfl)
  refine wpAnyH_takeN (i := 8) (v := ?v10_8x2) (l' := bm 18 511) (a' := ?a10_8x2) rfl (by kernel_rfl) (by kernel_rfl) (by kernel_rfl) (fun _ _ _ h => h) (Or.inl ⟨by kernel_rfl, ?h10_8x2⟩) (by kernel_rfl) ?p10_8x2 hS1 ?r10_8x2
  case h10_8x2 => (intro w hS; go_simp; try with_reducible rfl)
  case p10_8x2 => (go_simp; try with_reducible rfl)
  refine wpAnyH_takeN (i := 9) (v := ?v10_9x2) (l' := bm 18 1023) (a' := ?a10_9x2) rfl (by kernel_rfl) (by kernel_rfl) (by kernel_rfl) (fun _ _ _ h => h) (Or.inl ⟨by kernel_rfl, ?h10_9x2⟩) (by kernel_rfl) ?p10_9x2 hS1 ?r10_9x2
  case h10_9x2 => (intro w hS; go_simp; try with_reducible rfl)
  case p10_9x2 => (go_simp; try with_reducible rfl)
  refine wpAnyH_takeN (i := 10) (v := ?v10_10x2) (l' := bm 18 2047) (a' := ?a10_10x2) rfl (by kernel_rfl) (by kernel_rfl) (by kernel_rfl) (fun _ _ _ h => h) (Or.inl ⟨by kernel_rfl, ?h10_10x2⟩) (by kernel_rfl) ?p10_10x2 hS1 ?r10_10x2
  case h10_10x2 => (intro w hS; go_simp; try with_reducible rfl)
  case p10_10x2 => (go_simp; try with_reducible rfl)
  refine wpAnyH_takeN (i := 11) (v := ?v10_11x2) (l' := bm 18 4095) (a' := ?a10_11x2) rfl (by kernel_rfl) (by kernel_rfl) (by kernel_rfl) (fun _ _ _ h => h) (Or.inl ⟨by kernel_rfl, ?h10_11x2⟩) (by kernel_rfl) ?p10_11x2 hS1 ?r10_11x2
  case h10_11x2 => (intro w hS; go_simp; try with_reducible rfl)
  case p10_11x2 => (go_simp; try with_reducible rfl)
  refine wpAnyH_takeN (i := 12) (v := ?v10_12x2) (l' := bm 18 8191) (a' := ?a10_12x2) rfl (by kernel_rfl) (by kernel_rfl) (by kernel_rfl) (fun _ _ _ h => h) (Or.inl ⟨by kernel_rfl, ?h10_12x2⟩) (by kernel_rfl) ?p10_12x2 hS1 ?r10_12x2
  case h10_12x2 => (intro w hS; go_simp; try with_reducible rfl)
  case p10_12x2 => (go_simp; try with_reducible rfl)
  refine wpAnyH_takeN (i := 13) (v := ?v10_13x2) (l' := bm 18 16383) (a' := ?a10_13x2) rfl (by kernel_rfl) (by kernel_rfl) (by kernel_rfl) (fun _ _ _ h => h) (Or.inl ⟨by kernel_rfl, ?h10_13x2⟩) (by kernel_rfl) ?p10_13x2 hS1 ?r10_13x2
  case h10_13x2 => (intro w hS; go_simp; try with_reducible rfl)
  case p10_13x2 => (go_simp; try with_reducible rfl)
  refine wpAnyH_takeN (i := 14) (v := ?v10_14x2) (l' := bm 18 32767) (a' := ?a10_14x2) rfl (by kernel_rfl) (by kernel_rfl) (by kernel_rfl) (fun _ _ _ h => h) (Or.inl ⟨by kernel_rfl, ?h10_14x2⟩) (by kernel_rfl) ?p10_14x2 hS1 ?r10_14x2
  case h10_14x2 => (intro w hS; go_simp; try with_reducible rfl)
  case p10_14x2 => (go_simp; try with_reducible rfl)
  refine wpAnyH_oneN (i := 15) (l' := bm 18 65535) rfl (by kernel_rfl) (by kernel_rfl) (by kernel_rfl) (fun K hK => ?_)
  have hP := hS1.1
  go_simp
  go_at_call 67
  refine (Z2'.out _).mono ?_
  rintro r w33 ⟨rfl, hb⟩
  dsimp only
  have D33 := Lib.hid (below_step hP hb)
  clear hb
  have hS2 := HO.out _ (D33.out)
  clear hP hS1
  refine hK _ _ hS2 ?_
  clear hK K
  refine wpAnyH_takeN (i := 16) (v := ?v10_16x2) (l' := bm 18 131071) (a' := ?a10_16x2) rfl (by kernel_rfl) (by kernel_rfl) (by kernel_rfl) (fun _ _ _ h => h) (Or.inl ⟨by kernel_rfl, ?h10_16x2⟩) (by kernel_rfl) ?p10_16x2 hS2 ?r10_16x2
  case h10_16x2 => (intro w hS; go_simp; try with_reducible rfl)
  case p10_16x2 => (go_simp; try with_reducible rfl)
  refine wpAnyH_takeN (i := 17) (v := ?v10_17x2) (l' := bm 18 262143) (a' := ?a10_17x2) rfl (by kernel_rfl) (by kernel_rfl) (by kernel_rfl) (fun _ _ _ h => h) (Or.inl ⟨by kernel_rfl, ?h10_17x2⟩) (by kernel_rfl) ?p10_17x2 hS2 ?r10_17x2
  case h10_17x2 => (intro w hS; go_simp; try with_reducible rfl)
  case p10_17x2 => (go_simp; try with_reducible rfl)
  refine wpAnyH_done (by kernel_rfl) ?_ _
  clear hS2
  have hq := (HO.out _ D33.out).2
  go_wp2_with fail
  rw [rounds_succ]
  go_wp2_with fail
  clear hq
  refine wp_region_held (S := (fun w' => Below V2.heap.size V2 w' ∧ w'.cell? ⟨w.heap.size, 0, none⟩ = some (Value.float FloatKind.f64 A.lo) ∧ w'.cell? ⟨w.heap.size, 1, none⟩ = some (Value.float FloatKind.f64 A.hi) ∧ w'.cell? ⟨w.heap.size + 1, 0, none⟩ = some (Value.float FloatKind.f64 B.lo) ∧ w'.cell? ⟨w.heap.size + 1, 1, none⟩ = some (Value.float FloatKind.f64 B.hi) ∧ w'.cell? ⟨w.heap.size + 1 + 1, 0, none⟩ = some (Value.float FloatKind.f64 C.lo) ∧ w'.cell? ⟨w.heap.size + 1 + 1, 1, none⟩ = some (Value.float FloatKind.f64 C.hi) ∧ w'.cell? ⟨w.heap.size + 1 + 1 + 1, 0, none⟩ = some (Value.float FloatKind.f64 D.lo) ∧ w'.cell? ⟨w.heap.size + 1 + 1 + 1, 1, none⟩ = some (Value.float FloatKind.f64 D.hi) ∧ w'.cell? ⟨g1, 0, none⟩ = some (Value.float FloatKind.f64 x0.lo) ∧ w'.cell? ⟨g1, 1, none⟩ = some (Value.float FloatKind.f64 x0.hi) ∧ w'.cell? ⟨g1, 2, none⟩ = some (Value.float FloatKind.f64 x1.lo) ∧ w'.cell? ⟨g1, 3, none⟩ = some (Value.float FloatKind.f64 x1.hi) ∧ w'.cell? ⟨g1, 4, none⟩ = some (Value.float FloatKind.f64 x2.lo) ∧ w'.cell? ⟨g1, 5, none⟩ = some (Value.float FloatKind.f64 x2.hi) ∧ w'.cell? ⟨g1, 6, none⟩ = some (Value.float FloatKind.f64 x3.lo) ∧ w'.cell? ⟨g1, 7, none⟩ = some (Value.float FloatKind.f64 x3.hi) ∧ w'.cell? ⟨g1, 8, none⟩ = some (Value.float FloatKind.f64 x4.lo) ∧ w'.cell? ⟨g1, 9, none⟩ = some (Value.float FloatKind.f64 x4.hi) ∧ w'.cell? ⟨g1, 10, none⟩ = some (Value.float FloatKind.f64 x5.lo) ∧ w'.cell? ⟨g1, 11, none⟩ = some (Value.float FloatKind.f64 x5.hi) ∧ w'.cell? ⟨g1, 12, none⟩ = some (Value.float FloatKind.f64 x6.lo) ∧ w'.cell? ⟨g1, 13, none⟩ = some (Value.float FloatKind.f64 x6.hi) ∧ w'.cell? ⟨g1, 14, none⟩ = some (Value.float FloatKind.f64 x7.lo) ∧ w'.cell? ⟨g1, 15, none⟩ = some (Value.float FloatKind.f64 x7.hi) ∧ w'.cell? ⟨g1, 16, none⟩ = some (Value.float FloatKind.f64 x8.lo) ∧ w'.cell? ⟨g1, 17, none⟩ = some (Value.float FloatKind.f64 x8.hi) ∧ w'.cell? ⟨g2, 0, none⟩ = some (Value.float FloatKind.f64 y0.lo) ∧ w'.cell? ⟨g2, 1, none⟩ = some (Value.float FloatKind.f64 y0.hi) ∧ w'.cell? ⟨g2, 2, none⟩ = some (Value.float FloatKind.f64 y1.lo) ∧ w'.cell? ⟨g2, 3, none⟩ = some (Value.float FloatKind.f64 y1.hi) ∧ w'.cell? ⟨g2, 4, none⟩ = some (Value.float FloatKind.f64 y2.lo) ∧ w'.cell? ⟨g2, 5, none⟩ = some (Value.float FloatKind.f64 y2.hi) ∧ w'.cell? ⟨g2, 6, none⟩ = some (Value.float FloatKind.f64 y3.lo) ∧ w'.cell? ⟨g2, 7, none⟩ = some (Value.float FloatKind.f64 y3.hi) ∧ w'.cell? ⟨g2, 8, none⟩ = some (Value.float FloatKind.f64 y4.lo) ∧ w'.cell? ⟨g2, 9, none⟩ = some (Value.float FloatKind.f64 y4.hi) ∧ w'.cell? ⟨g2, 10, none⟩ = some (Value.float FloatKind.f64 y5.lo) ∧ w'.cell? ⟨g2, 11, none⟩ = some (Value.float FloatKind.f64 y5.hi) ∧ w'.cell? ⟨g2, 12, none⟩ = some (Value.float FloatKind.f64 y6.lo) ∧ w'.cell? ⟨g2, 13, none⟩ = some (Value.float FloatKind.f64 y6.hi) ∧ w'.cell? ⟨g2, 14, none⟩ = some (Value.float FloatKind.f64 y7.lo) ∧ w'.cell? ⟨g2, 15, none⟩ = some (Value.float FloatKind.f64 y7.hi) ∧ w'.cell? ⟨g2, 16, none⟩ = some (Value.float FloatKind.f64 y8.lo) ∧ w'.cell? ⟨g2, 17, none⟩ = some (Value.float FloatKind.f64 y8.hi))) (by kernel_rfl) ?_
  (try change wpAnyH _ _ _ _ _ _ _ (World.drew _))
  have hS0 := HO.out _ (Below.drew D33.out)
  refine wpAnyH_takeN (i := 0) (v := ?v10_0x3) (l' := bm 18 1) (a' := ?a10_0x3) rfl (by kernel_rfl) (by kernel_rfl) (by kernel_rfl) (fun _ _ _ h => h) (Or.inl ⟨by kernel_rfl, ?h10_0x3⟩) (by kernel_rfl) ?p10_0x3 hS0 ?r10_0x3
  case h10_0x3 => (intro w hS; go_simp; try with_reducible rfl)
  case p10_0x3 => (go_simp; try with_reducible rfl)
  refine wpAnyH_takeN (i := 1) (v := ?v10_1x3) (l' := bm 18 3) (a' := ?a10_1x3) rfl (by kernel_rfl) (by kernel_rfl) (by kernel_rfl) (fun _ _ _ h => h) (Or.inl ⟨by kernel_rfl, ?h10_1x3⟩) (by kernel_rfl) ?p10_1x3 hS0 ?r10_1x3
  case h10_1x3 => (intro w hS; go_simp; try with_reducible rfl)
  case p10_1x3 => (go_simp; try with_reducible rfl)
  refine wpAnyH_takeN (i := 2) (v := ?v10_2x3) (l' := bm 18 7) (a' := ?a10_2x3) rfl (by kernel_rfl) (by kernel_rfl) (by kernel_rfl) (fun _ _ _ h => h) (Or.inl ⟨by kernel_rfl, ?h10_2x3⟩) (by kernel_rfl) ?p10_2x3 hS0 ?r10_2x3
  case h10_2x3 => (intro w hS; go_simp; try with_reducible rfl)
  case p10_2x3 => (go_simp; try with_reducible rfl)
  refine wpAnyH_takeN (i := 3) (v := ?v10_3x3) (l' := bm 18 15) (a' := ?a10_3x3) rfl (by kernel_rfl) (by kernel_rfl) (by kernel_rfl) (fun _ _ _ h => h) (Or.inl ⟨by kernel_rfl, ?h10_3x3⟩) (by kernel_rfl) ?p10_3x3 hS0 ?r10_3x3
  case h10_3x3 => (intro w hS; go_simp; try with_reducible rfl)
  case p10_3x3 => (go_simp; try with_reducible rfl)
  refine wpAnyH_oneN (i := 4) (l' := bm 18 31) rfl (by kernel_rfl) (by kernel_rfl) (by kernel_rfl) (fun K hK => ?_)
  have hP := hS0.1
  go_simp
  go_at_call 15
  refine (T3'.out _).mono ?_
  rintro r w34 ⟨rfl, hb⟩
  dsimp only
  have D34 := Lib.hid (below_step hP hb)
  clear hb
  have hS1 := HO.out _ (D34.out)
  clear hP hS0
  refine hK _ _ hS1 ?_
  clear hK K
  refine wpAnyH_takeN (i := 5) (v := ?v10_5x3) (l' := bm 18 63) (a' := ?a10_5x3) rfl (by kernel_rfl) (by kernel_rfl) (by kernel_rfl) (fun _ _ _ h => h) (Or.inl ⟨by kernel_rfl, ?h10_5x3⟩) (by kernel_rfl) ?p10_5x3 hS1 ?r10_5x3
  case h10_5x3 => (intro w hS; go_simp; try with_reducible rfl)
  case p10_5x3 => (go_simp; try with_reducible rfl)
  refine wpAnyH_takeN (i := 6) (v := ?v10_6x3) (l' := bm 18 127) (a' := ?a10_6x3) rfl (by kernel_rfl) (by kernel_rfl) (by kernel_rfl) (fun _ _ _ h => h) (Or.inl ⟨by kernel_rfl, ?h10_6x3⟩) (by kernel_rfl) ?p10_6x3 hS1 ?r10_6x3
  case h10_6x3 => (intro w hS; go_simp; try with_reducible rfl)
  case p10_6x3 => (go_simp; try with_reducible rfl)
  refine wpAnyH_takeN (i := 7) (v := ?v10_7x3) (l' := bm 18 255) (a' := ?a10_7x3) rfl (by kernel_rfl) (by kernel_rfl) (by kernel_rfl) (fun _ _ _ h => h) (Or.inl ⟨by kernel_rfl, ?h10_7x3⟩) (by kernel_rfl) ?p10_7x3 hS1 ?r10_7x3
  case h10_7x3 => (intro w hS; go_simp; try with_reducible rfl)
  case p10_7x3 => (go_simp; try with_reducible rfl)
  refine wpAnyH_takeN (i := 8) (v := ?v10_8x3) (l' := bm 18 511) (a' := ?a10_8x3) rfl (by kernel_rfl) (by kernel_rfl) (by kernel_rfl) (fun _ _ _ h => h) (Or.inl ⟨by kernel_rfl, ?h10_8x3⟩) (by kernel_rfl) ?p10_8x3 hS1 ?r10_8x3
  case h10_8x3 => (intro w hS; go_simp; try with_reducible rfl)
  case p10_8x3 => (go_simp; try with_reducible rfl)
  refine wpAnyH_takeN (i := 9) (v := ?v10_9x3) (l' := bm 18 1023) (a' := ?a10_9x3) rfl (by kernel_rfl) (by kernel_rfl) (by kernel_rfl) (fun _ _ _ h => h) (Or.inl ⟨by kernel_rfl, ?h10_9x3⟩) (by kernel_rfl) ?p10_9x3 hS1 ?r10_9x3
  case h10_9x3 => (intro w hS; go_simp; try with_reducible rfl)
  case p10_9x3 => (go_simp; try with_reducible rfl)
  refine wpAnyH_takeN (i := 10) (v := ?v10_10x3) (l' := bm 18 2047) (a' := ?a10_10x3) rfl (by kernel_rfl) (by kernel_rfl) (by kernel_rfl) (fun _ _ _ h => h) (Or.inl ⟨by kernel_rfl, ?h10_10x3⟩) (by kernel_rfl) ?p10_10x3 hS1 ?r10_10x3
  case h10_10x3 => (intro w hS; go_simp; try with_reducible rfl)
  case p10_10x3 => (go_simp; try with_reducible rfl)
  refine wpAnyH_takeN (i := 11) (v := ?v10_11x3) (l' := bm 18 4095) (a' := ?a10_11x3) rfl (by kernel_rfl) (by kernel_rfl) (by kernel_rfl) (fun _ _ _ h => h) (Or.inl ⟨by kernel_rfl, ?h10_11x3⟩) (by kernel_rfl) ?p10_11x3 hS1 ?r10_11x3
  case h10_11x3 => (intro w hS; go_simp; try with_reducible rfl)
  case p10_11x3 => (go_simp; try with_reducible rfl)
  refine wpAnyH_takeN (i := 12) (v := ?v10_12x3) (l' := bm 18 8191) (a' := ?a10_12x3) rfl (by kernel_rfl) (by kernel_rfl) (by kernel_rfl) (fun _ _ _ h => h) (Or.inl ⟨by kernel_rfl, ?h10_12x3⟩) (by kernel_rfl) ?p10_12x3 hS1 ?r10_12x3
  case h10_12x3 => (intro w hS; go_simp; try with_reducible rfl)
  case p10_12x3 => (go_simp; try with_reducible rfl)
  refine wpAnyH_takeN (i := 13) (v := ?v10_13x3) (l' := bm 18 16383) (a' := ?a10_13x3) rfl (by kernel_rfl) (by kernel_rfl) (by kernel_rfl) (fun _ _ _ h => h) (Or.inl ⟨by kernel_rfl, ?h10_13x3⟩) (by kernel_rfl) ?p10_13x3 hS1 ?r10_13x3
  case h10_13x3 => (intro w hS; go_simp; try with_reducible rfl)
  case p10_13x3 => (go_simp; try with_reducible rfl)
  refine wpAnyH_takeN (i := 14) (v := ?v10_14x3) (l' := bm 18 32767) (a' := ?a10_14x3) rfl (by kernel_rfl) (by kernel_rfl) (by kernel_rfl) (fun _ _ _ h => h) (Or.inl ⟨by kernel_rfl, ?h10_14x3⟩) (by kernel_rfl) ?p10_14x3 hS1 ?r10_14x3
  case h10_14x3 => (intro w hS; go_simp; try with_reducible rfl)
  case p10_14x3 => (go_simp; try with_reducible rfl)
  refine wpAnyH_oneN (i := 15) (l' := bm 18 65535) rfl (by kernel_rfl) (by kernel_rfl) (by kernel_rfl) (fun K hK => ?_)
  have hP := hS1.1
  go_simp
  go_at_call 67
  refine (Z3'.out _).mono ?_
  rintro r w35 ⟨rfl, hb⟩
  dsimp only
  have D35 := Lib.hid (below_step hP hb)
  clear hb
  have hS2 := HO.out _ (D35.out)
  clear hP hS1
  refine hK _ _ hS2 ?_
  clear hK K
  refine wpAnyH_takeN (i := 16) (v := ?v10_16x3) (l' := bm 18 131071) (a' := ?a10_16x3) rfl (by kernel_rfl) (by kernel_rfl) (by kernel_rfl) (fun _ _ _ h => h) (Or.inl ⟨by kernel_rfl, ?h10_16x3⟩) (by kernel_rfl) ?p10_16x3 hS2 ?r10_16x3
  case h10_16x3 => (intro w hS; go_simp; try with_reducible rfl)
  case p10_16x3 => (go_simp; try with_reducible rfl)
  refine wpAnyH_takeN (i := 17) (v := ?v10_17x3) (l' := bm 18 262143) (a' := ?a10_17x3) rfl (by kernel_rfl) (by kernel_rfl) (by kernel_rfl) (fun _ _ _ h => h) (Or.inl ⟨by kernel_rfl, ?h10_17x3⟩) (by kernel_rfl) ?p10_17x3 hS2 ?r10_17x3
  case h10_17x3 => (intro w hS; go_simp; try with_reducible rfl)
  case p10_17x3 => (go_simp; try with_reducible rfl)
  refine wpAnyH_done (by kernel_rfl) ?_ _
  clear hS2
  have hq := (HO.out _ D35.out).2
  go_wp2_with fail
  rw [rounds_succ]
  go_wp2_with fail
  clear hq
  refine wp_region_held (S := (fun w' => Below V2.heap.size V2 w' ∧ w'.cell? ⟨w.heap.size, 0, none⟩ = some (Value.float FloatKind.f64 A.lo) ∧ w'.cell? ⟨w.heap.size, 1, none⟩ = some (Value.float FloatKind.f64 A.hi) ∧ w'.cell? ⟨w.heap.size + 1, 0, none⟩ = some (Value.float FloatKind.f64 B.lo) ∧ w'.cell? ⟨w.heap.size + 1, 1, none⟩ = some (Value.float FloatKind.f64 B.hi) ∧ w'.cell? ⟨w.heap.size + 1 + 1, 0, none⟩ = some (Value.float FloatKind.f64 C.lo) ∧ w'.cell? ⟨w.heap.size + 1 + 1, 1, none⟩ = some (Value.float FloatKind.f64 C.hi) ∧ w'.cell? ⟨w.heap.size + 1 + 1 + 1, 0, none⟩ = some (Value.float FloatKind.f64 D.lo) ∧ w'.cell? ⟨w.heap.size + 1 + 1 + 1, 1, none⟩ = some (Value.float FloatKind.f64 D.hi) ∧ w'.cell? ⟨g1, 0, none⟩ = some (Value.float FloatKind.f64 x0.lo) ∧ w'.cell? ⟨g1, 1, none⟩ = some (Value.float FloatKind.f64 x0.hi) ∧ w'.cell? ⟨g1, 2, none⟩ = some (Value.float FloatKind.f64 x1.lo) ∧ w'.cell? ⟨g1, 3, none⟩ = some (Value.float FloatKind.f64 x1.hi) ∧ w'.cell? ⟨g1, 4, none⟩ = some (Value.float FloatKind.f64 x2.lo) ∧ w'.cell? ⟨g1, 5, none⟩ = some (Value.float FloatKind.f64 x2.hi) ∧ w'.cell? ⟨g1, 6, none⟩ = some (Value.float FloatKind.f64 x3.lo) ∧ w'.cell? ⟨g1, 7, none⟩ = some (Value.float FloatKind.f64 x3.hi) ∧ w'.cell? ⟨g1, 8, none⟩ = some (Value.float FloatKind.f64 x4.lo) ∧ w'.cell? ⟨g1, 9, none⟩ = some (Value.float FloatKind.f64 x4.hi) ∧ w'.cell? ⟨g1, 10, none⟩ = some (Value.float FloatKind.f64 x5.lo) ∧ w'.cell? ⟨g1, 11, none⟩ = some (Value.float FloatKind.f64 x5.hi) ∧ w'.cell? ⟨g1, 12, none⟩ = some (Value.float FloatKind.f64 x6.lo) ∧ w'.cell? ⟨g1, 13, none⟩ = some (Value.float FloatKind.f64 x6.hi) ∧ w'.cell? ⟨g1, 14, none⟩ = some (Value.float FloatKind.f64 x7.lo) ∧ w'.cell? ⟨g1, 15, none⟩ = some (Value.float FloatKind.f64 x7.hi) ∧ w'.cell? ⟨g1, 16, none⟩ = some (Value.float FloatKind.f64 x8.lo) ∧ w'.cell? ⟨g1, 17, none⟩ = some (Value.float FloatKind.f64 x8.hi) ∧ w'.cell? ⟨g2, 0, none⟩ = some (Value.float FloatKind.f64 y0.lo) ∧ w'.cell? ⟨g2, 1, none⟩ = some (Value.float FloatKind.f64 y0.hi) ∧ w'.cell? ⟨g2, 2, none⟩ = some (Value.float FloatKind.f64 y1.lo) ∧ w'.cell? ⟨g2, 3, none⟩ = some (Value.float FloatKind.f64 y1.hi) ∧ w'.cell? ⟨g2, 4, none⟩ = some (Value.float FloatKind.f64 y2.lo) ∧ w'.cell? ⟨g2, 5, none⟩ = some (Value.float FloatKind.f64 y2.hi) ∧ w'.cell? ⟨g2, 6, none⟩ = some (Value.float FloatKind.f64 y3.lo) ∧ w'.cell? ⟨g2, 7, none⟩ = some (Value.float FloatKind.f64 y3.hi) ∧ w'.cell? ⟨g2, 8, none⟩ = some (Value.float FloatKind.f64 y4.lo) ∧ w'.cell? ⟨g2, 9, none⟩ = some (Value.float FloatKind.f64 y4.hi) ∧ w'.cell? ⟨g2, 10, none⟩ = some (Value.float FloatKind.f64 y5.lo) ∧ w'.cell? ⟨g2, 11, none⟩ = some (Value.float FloatKind.f64 y5.hi) ∧ w'.cell? ⟨g2, 12, none⟩ = some (Value.float FloatKind.f64 y6.lo) ∧ w'.cell? ⟨g2, 13, none⟩ = some (Value.float FloatKind.f64 y6.hi) ∧ w'.cell? ⟨g2, 14, none⟩ = some (Value.float FloatKind.f64 y7.lo) ∧ w'.cell? ⟨g2, 15, none⟩ = some (Value.float FloatKind.f64 y7.hi) ∧ w'.cell? ⟨g2, 16, none⟩ = some (Value.float FloatKind.f64 y8.lo) ∧ w'.cell? ⟨g2, 17, none⟩ = some (Value.float FloatKind.f64 y8.hi))) (by kernel_rfl) ?_
  (try change wpAnyH _ _ _ _ _ _ _ (World.drew _))
  have hS0 := HO.out _ (Below.drew D35.out)
  refine wpAnyH_takeN (i := 0) (v := ?v10_0x4) (l' := bm 18 1) (a' := ?a10_0x4) rfl (by kernel_rfl) (by kernel_rfl) (by kernel_rfl) (fun _ _ _ h => h) (Or.inl ⟨by kernel_rfl, ?h10_0x4⟩) (by kernel_rfl) ?p10_0x4 hS0 ?r10_0x4
  case h10_0x4 => (intro w hS; go_simp; try with_reducible rfl)
  case p10_0x4 => (go_simp; try with_reducible rfl)
  refine wpAnyH_takeN (i := 1) (v := ?v10_1x4) (l' := bm 18 3) (a' := ?a10_1x4) rfl (by kernel_rfl) (by kernel_rfl) (by kernel_rfl) (fun _ _ _ h => h) (Or.inl ⟨by kernel_rfl, ?h10_1x4⟩) (by kernel_rfl) ?p10_1x4 hS0 ?r10_1x4
  case h10_1x4 => (intro w hS; go_simp; try with_reducible rfl)
  case p10_1x4 => (go_simp; try with_reducible rfl)
  refine wpAnyH_takeN (i := 2) (v := ?v10_2x4) (l' := bm 18 7) (a' := ?a10_2x4) rfl (by kernel_rfl) (by kernel_rfl) (by kernel_rfl) (fun _ _ _ h => h) (Or.inl ⟨by kernel_rfl, ?h10_2x4⟩) (by kernel_rfl) ?p10_2x4 hS0 ?r10_2x4
  case h10_2x4 => (intro w hS; go_simp; try with_reducible rfl)
  case p10_2x4 => (go_simp; try with_reducible rfl)
  refine wpAnyH_takeN (i := 3) (v := ?v10_3x4) (l' := bm 18 15) (a' := ?a10_3x4) rfl (by kernel_rfl) (by kernel_rfl) (by kernel_rfl) (fun _ _ _ h => h) (Or.inl ⟨by kernel_rfl, ?h10_3x4⟩) (by kernel_rfl) ?p10_3x4 hS0 ?r10_3x4
  case h10_3x4 => (intro w hS; go_simp; try with_reducible rfl)
  case p10_3x4 => (go_simp; try with_reducible rfl)
  refine wpAnyH_oneN (i := 4) (l' := bm 18 31) rfl (by kernel_rfl) (by kernel_rfl) (by kernel_rfl) (fun K hK => ?_)
  have hP := hS0.1
  go_simp
  go_at_call 15
  refine (T4'.out _).mono ?_
  rintro r w36 ⟨rfl, hb⟩
  dsimp only
  have D36 := Lib.hid (below_step hP hb)
  clear hb
  have hS1 := HO.out _ (D36.out)
  clear hP hS0
  refine hK _ _ hS1 ?_
  clear hK K
  refine wpAnyH_takeN (i := 5) (v := ?v10_5x4) (l' := bm 18 63) (a' := ?a10_5x4) rfl (by kernel_rfl) (by kernel_rfl) (by kernel_rfl) (fun _ _ _ h => h) (Or.inl ⟨by kernel_rfl, ?h10_5x4⟩) (by kernel_rfl) ?p10_5x4 hS1 ?r10_5x4
  case h10_5x4 => (intro w hS; go_simp; try with_reducible rfl)
  case p10_5x4 => (go_simp; try with_reducible rfl)
  refine wpAnyH_takeN (i := 6) (v := ?v10_6x4) (l' := bm 18 127) (a' := ?a10_6x4) rfl (by kernel_rfl) (by kernel_rfl) (by kernel_rfl) (fun _ _ _ h => h) (Or.inl ⟨by kernel_rfl, ?h10_6x4⟩) (by kernel_rfl) ?p10_6x4 hS1 ?r10_6x4
  case h10_6x4 => (intro w hS; go_simp; try with_reducible rfl)
  case p10_6x4 => (go_simp; try with_reducible rfl)
  refine wpAnyH_takeN (i := 7) (v := ?v10_7x4) (l' := bm 18 255) (a' := ?a10_7x4) rfl (by kernel_rfl) (by kernel_rfl) (by kernel_rfl) (fun _ _ _ h => h) (Or.inl ⟨by kernel_rfl, ?h10_7x4⟩) (by kernel_rfl) ?p10_7x4 hS1 ?r10_7x4
  case h10_7x4 => (intro w hS; go_simp; try with_reducible rfl)
  case p10_7x4 => (go_simp; try with_reducible rfl)
  refine wpAnyH_takeN (i := 8) (v := ?v10_8x4) (l' := bm 18 511) (a' := ?a10_8x4) rfl (by kernel_rfl) (by kernel_rfl) (by kernel_rfl) (fun _ _ _ h => h) (Or.inl ⟨by kernel_rfl, ?h10_8x4⟩) (by kernel_rfl) ?p10_8x4 hS1 ?r10_8x4
  case h10_8x4 => (intro w hS; go_simp; try with_reducible rfl)
  case p10_8x4 => (go_simp; try with_reducible rfl)
  refine wpAnyH_takeN (i := 9) (v := ?v10_9x4) (l' := bm 18 1023) (a' := ?a10_9x4) rfl (by kernel_rfl) (by kernel_rfl) (by kernel_rfl) (fun _ _ _ h => h) (Or.inl ⟨by kernel_rfl, ?h10_9x4⟩) (by kernel_rfl) ?p10_9x4 hS1 ?r10_9x4
  case h10_9x4 => (intro w hS; go_simp; try with_reducible rfl)
  case p10_9x4 => (go_simp; try with_reducible rfl)
  refine wpAnyH_takeN (i := 10) (v := ?v10_10x4) (l' := bm 18 2047) (a' := ?a10_10x4) rfl (by kernel_rfl) (by kernel_rfl) (by kernel_rfl) (fun _ _ _ h => h) (Or.inl ⟨by kernel_rfl, ?h10_10x4⟩) (by kernel_rfl) ?p10_10x4 hS1 ?r10_10x4
  case h10_10x4 => (intro w hS; go_simp; try with_reducible rfl)
  case p10_10x4 => (go_simp; try with_reducible rfl)
  refine wpAnyH_takeN (i := 11) (v := ?v10_11x4) (l' := bm 18 4095) (a' := ?a10_11x4) rfl (by kernel_rfl) (by kernel_rfl) (by kernel_rfl) (fun _ _ _ h => h) (Or.inl ⟨by kernel_rfl, ?h10_11x4⟩) (by kernel_rfl) ?p10_11x4 hS1 ?r10_11x4
  case h10_11x4 => (intro w hS; go_simp; try with_reducible rfl)
  case p10_11x4 => (go_simp; try with_reducible rfl)
  refine wpAnyH_takeN (i := 12) (v := ?v10_12x4) (l' := bm 18 8191) (a' := ?a10_12x4) rfl (by kernel_rfl) (by kernel_rfl) (by kernel_rfl) (fun _ _ _ h => h) (Or.inl ⟨by kernel_rfl, ?h10_12x4⟩) (by kernel_rfl) ?p10_12x4 hS1 ?r10_12x4
  case h10_12x4 => (intro w hS; go_simp; try with_reducible rfl)
  case p10_12x4 => (go_simp; try with_reducible rfl)
  refine wpAnyH_takeN (i := 13) (v := ?v10_13x4) (l' := bm 18 16383) (a' := ?a10_13x4) rfl (by kernel_rfl) (by kernel_rfl) (by kernel_rfl) (fun _ _ _ h => h) (Or.inl ⟨by kernel_rfl, ?h10_13x4⟩) (by kernel_rfl) ?p10_13x4 hS1 ?r10_13x4
  case h10_13x4 => (intro w hS; go_simp; try with_reducible rfl)
  case p10_13x4 => (go_simp; try with_reducible rfl)
  refine wpAnyH_takeN (i := 14) (v := ?v10_14x4) (l' := bm 18 32767) (a' := ?a10_14x4) rfl (by kernel_rfl) (by kernel_rfl) (by kernel_rfl) (fun _ _ _ h => h) (Or.inl ⟨by kernel_rfl, ?h10_14x4⟩) (by kernel_rfl) ?p10_14x4 hS1 ?r10_14x4
  case h10_14x4 => (intro w hS; go_simp; try with_reducible rfl)
  case p10_14x4 => (go_simp; try with_reducible rfl)
  refine wpAnyH_oneN (i := 15) (l' := bm 18 65535) rfl (by kernel_rfl) (by kernel_rfl) (by kernel_rfl) (fun K hK => ?_)
  have hP := hS1.1
  go_simp
  go_at_call 67
  refine (Z4'.out _).mono ?_
  rintro r w37 ⟨rfl, hb⟩
  dsimp only
  have D37 := Lib.hid (below_step hP hb)
  clear hb
  have hS2 := HO.out _ (D37.out)
  clear hP hS1
  refine hK _ _ hS2 ?_
  clear hK K
  refine wpAnyH_takeN (i := 16) (v := ?v10_16x4) (l' := bm 18 131071) (a' := ?a10_16x4) rfl (by kernel_rfl) (by kernel_rfl) (by kernel_rfl) (fun _ _ _ h => h) (Or.inl ⟨by kernel_rfl, ?h10_16x4⟩) (by kernel_rfl) ?p10_16x4 hS2 ?r10_16x4
  case h10_16x4 => (intro w hS; go_simp; try with_reducible rfl)
  case p10_16x4 => (go_simp; try with_reducible rfl)
  refine wpAnyH_takeN (i := 17) (v := ?v10_17x4) (l' := bm 18 262143) (a' := ?a10_17x4) rfl (by kernel_rfl) (by kernel_rfl) (by kernel_rfl) (fun _ _ _ h => h) (Or.inl ⟨by kernel_rfl, ?h10_17x4⟩) (by kernel_rfl) ?p10_17x4 hS2 ?r10_17x4
  case h10_17x4 => (intro w hS; go_simp; try with_reducible rfl)
  case p10_17x4 => (go_simp; try with_reducible rfl)
  refine wpAnyH_done (by kernel_rfl) ?_ _
  clear hS2
  have hq := (HO.out _ D37.out).2
  go_wp2_with fail
  rw [rounds_succ]
  go_wp2_with fail
  clear hq
  refine wp_region_held (S := (fun w' => Below V2.heap.size V2 w' ∧ w'.cell? ⟨w.heap.size, 0, none⟩ = some (Value.float FloatKind.f64 A.lo) ∧ w'.cell? ⟨w.heap.size, 1, none⟩ = some (Value.float FloatKind.f64 A.hi) ∧ w'.cell? ⟨w.heap.size + 1, 0, none⟩ = some (Value.float FloatKind.f64 B.lo) ∧ w'.cell? ⟨w.heap.size + 1, 1, none⟩ = some (Value.float FloatKind.f64 B.hi) ∧ w'.cell? ⟨w.heap.size + 1 + 1, 0, none⟩ = some (Value.float FloatKind.f64 C.lo) ∧ w'.cell? ⟨w.heap.size + 1 + 1, 1, none⟩ = some (Value.float FloatKind.f64 C.hi) ∧ w'.cell? ⟨w.heap.size + 1 + 1 + 1, 0, none⟩ = some (Value.float FloatKind.f64 D.lo) ∧ w'.cell? ⟨w.heap.size + 1 + 1 + 1, 1, none⟩ = some (Value.float FloatKind.f64 D.hi) ∧ w'.cell? ⟨g1, 0, none⟩ = some (Value.float FloatKind.f64 x0.lo) ∧ w'.cell? ⟨g1, 1, none⟩ = some (Value.float FloatKind.f64 x0.hi) ∧ w'.cell? ⟨g1, 2, none⟩ = some (Value.float FloatKind.f64 x1.lo) ∧ w'.cell? ⟨g1, 3, none⟩ = some (Value.float FloatKind.f64 x1.hi) ∧ w'.cell? ⟨g1, 4, none⟩ = some (Value.float FloatKind.f64 x2.lo) ∧ w'.cell? ⟨g1, 5, none⟩ = some (Value.float FloatKind.f64 x2.hi) ∧ w'.cell? ⟨g1, 6, none⟩ = some (Value.float FloatKind.f64 x3.lo) ∧ w'.cell? ⟨g1, 7, none⟩ = some (Value.float FloatKind.f64 x3.hi) ∧ w'.cell? ⟨g1, 8, none⟩ = some (Value.float FloatKind.f64 x4.lo) ∧ w'.cell? ⟨g1, 9, none⟩ = some (Value.float FloatKind.f64 x4.hi) ∧ w'.cell? ⟨g1, 10, none⟩ = some (Value.float FloatKind.f64 x5.lo) ∧ w'.cell? ⟨g1, 11, none⟩ = some (Value.float FloatKind.f64 x5.hi) ∧ w'.cell? ⟨g1, 12, none⟩ = some (Value.float FloatKind.f64 x6.lo) ∧ w'.cell? ⟨g1, 13, none⟩ = some (Value.float FloatKind.f64 x6.hi) ∧ w'.cell? ⟨g1, 14, none⟩ = some (Value.float FloatKind.f64 x7.lo) ∧ w'.cell? ⟨g1, 15, none⟩ = some (Value.float FloatKind.f64 x7.hi) ∧ w'.cell? ⟨g1, 16, none⟩ = some (Value.float FloatKind.f64 x8.lo) ∧ w'.cell? ⟨g1, 17, none⟩ = some (Value.float FloatKind.f64 x8.hi) ∧ w'.cell? ⟨g2, 0, none⟩ = some (Value.float FloatKind.f64 y0.lo) ∧ w'.cell? ⟨g2, 1, none⟩ = some (Value.float FloatKind.f64 y0.hi) ∧ w'.cell? ⟨g2, 2, none⟩ = some (Value.float FloatKind.f64 y1.lo) ∧ w'.cell? ⟨g2, 3, none⟩ = some (Value.float FloatKind.f64 y1.hi) ∧ w'.cell? ⟨g2, 4, none⟩ = some (Value.float FloatKind.f64 y2.lo) ∧ w'.cell? ⟨g2, 5, none⟩ = some (Value.float FloatKind.f64 y2.hi) ∧ w'.cell? ⟨g2, 6, none⟩ = some (Value.float FloatKind.f64 y3.lo) ∧ w'.cell? ⟨g2, 7, none⟩ = some (Value.float FloatKind.f64 y3.hi) ∧ w'.cell? ⟨g2, 8, none⟩ = some (Value.float FloatKind.f64 y4.lo) ∧ w'.cell? ⟨g2, 9, none⟩ = some (Value.float FloatKind.f64 y4.hi) ∧ w'.cell? ⟨g2, 10, none⟩ = some (Value.float FloatKind.f64 y5.lo) ∧ w'.cell? ⟨g2, 11, none⟩ = some (Value.float FloatKind.f64 y5.hi) ∧ w'.cell? ⟨g2, 12, none⟩ = some (Value.float FloatKind.f64 y6.lo) ∧ w'.cell? ⟨g2, 13, none⟩ = some (Value.float FloatKind.f64 y6.hi) ∧ w'.cell? ⟨g2, 14, none⟩ = some (Value.float FloatKind.f64 y7.lo) ∧ w'.cell? ⟨g2, 15, none⟩ = some (Value.float FloatKind.f64 y7.hi) ∧ w'.cell? ⟨g2, 16, none⟩ = some (Value.float FloatKind.f64 y8.lo) ∧ w'.cell? ⟨g2, 17, none⟩ = some (Value.float FloatKind.f64 y8.hi))) (by kernel_rfl) ?_
  (try change wpAnyH _ _ _ _ _ _ _ (World.drew _))
  have hS0 := HO.out _ (Below.drew D37.out)
  refine wpAnyH_takeN (i := 0) (v := ?v10_0x5) (l' := bm 18 1) (a' := ?a10_0x5) rfl (by kernel_rfl) (by kernel_rfl) (by kernel_rfl) (fun _ _ _ h => h) (Or.inl ⟨by kernel_rfl, ?h10_0x5⟩) (by kernel_rfl) ?p10_0x5 hS0 ?r10_0x5
  case h10_0x5 => (intro w hS; go_simp; try with_reducible rfl)
  case p10_0x5 => (go_simp; try with_reducible rfl)
  refine wpAnyH_takeN (i := 1) (v := ?v10_1x5) (l' := bm 18 3) (a' := ?a10_1x5) rfl (by kernel_rfl) (by kernel_rfl) (by kernel_rfl) (fun _ _ _ h => h) (Or.inl ⟨by kernel_rfl, ?h10_1x5⟩) (by kernel_rfl) ?p10_1x5 hS0 ?r10_1x5
  case h10_1x5 => (intro w hS; go_simp; try with_reducible rfl)
  case p10_1x5 => (go_simp; try with_reducible rfl)
  refine wpAnyH_takeN (i := 2) (v := ?v10_2x5) (l' := bm 18 7) (a' := ?a10_2x5) rfl (by kernel_rfl) (by kernel_rfl) (by kernel_rfl) (fun _ _ _ h => h) (Or.inl ⟨by kernel_rfl, ?h10_2x5⟩) (by kernel_rfl) ?p10_2x5 hS0 ?r10_2x5
  case h10_2x5 => (intro w hS; go_simp; try with_reducible rfl)
  case p10_2x5 => (go_simp; try with_reducible rfl)
  refine wpAnyH_takeN (i := 3) (v := ?v10_3x5) (l' := bm 18 15) (a' := ?a10_3x5) rfl (by kernel_rfl) (by kernel_rfl) (by kernel_rfl) (fun _ _ _ h => h) (Or.inl ⟨by kernel_rfl, ?h10_3x5⟩) (by kernel_rfl) ?p10_3x5 hS0 ?r10_3x5
  case h10_3x5 => (intro w hS; go_simp; try with_reducible rfl)
  case p10_3x5 => (go_simp; try with_reducible rfl)
  refine wpAnyH_oneN (i := 4) (l' := bm 18 31) rfl (by kernel_rfl) (by kernel_rfl) (by kernel_rfl) (fun K hK => ?_)
  have hP := hS0.1
  go_simp
  go_at_call 15
  refine (T5'.out _).mono ?_
  rintro r w38 ⟨rfl, hb⟩
  dsimp only
  have D38 := Lib.hid (below_step hP hb)
  clear hb
  have hS1 := HO.out _ (D38.out)
  clear hP hS0
  refine hK _ _ hS1 ?_
  clear hK K
  refine wpAnyH_takeN (i := 5) (v := ?v10_5x5) (l' := bm 18 63) (a' := ?a10_5x5) rfl (by kernel_rfl) (by kernel_rfl) (by kernel_rfl) (fun _ _ _ h => h) (Or.inl ⟨by kernel_rfl, ?h10_5x5⟩) (by kernel_rfl) ?p10_5x5 hS1 ?r10_5x5
  case h10_5x5 => (intro w hS; go_simp; try with_reducible rfl)
  case p10_5x5 => (go_simp; try with_reducible rfl)
  refine wpAnyH_takeN (i := 6) (v := ?v10_6x5) (l' := bm 18 127) (a' := ?a10_6x5) rfl (by kernel_rfl) (by kernel_rfl) (by kernel_rfl) (fun _ _ _ h => h) (Or.inl ⟨by kernel_rfl, ?h10_6x5⟩) (by kernel_rfl) ?p10_6x5 hS1 ?r10_6x5
  case h10_6x5 => (intro w hS; go_simp; try with_reducible rfl)
  case p10_6x5 => (go_simp; try with_reducible rfl)
  refine wpAnyH_takeN (i := 7) (v := ?v10_7x5) (l' := bm 18 255) (a' := ?a10_7x5) rfl (by kernel_rfl) (by kernel_rfl) (by kernel_rfl) (fun _ _ _ h => h) (Or.inl ⟨by kernel_rfl, ?h10_7x5⟩) (by kernel_rfl) ?p10_7x5 hS1 ?r10_7x5
  case h10_7x5 => (intro w hS; go_simp; try with_reducible rfl)
  case p10_7x5 => (go_simp; try with_reducible rfl)
  refine wpAnyH_takeN (i := 8) (v := ?v10_8x5) (l' := bm 18 511) (a' := ?a10_8x5) rfl (by kernel_rfl) (by kernel_rfl) (by kernel_rfl) (fun _ _ _ h => h) (Or.inl ⟨by kernel_rfl, ?h10_8x5⟩) (by kernel_rfl) ?p10_8x5 hS1 ?r10_8x5
  case h10_8x5 => (intro w hS; go_simp; try with_reducible rfl)
  case p10_8x5 => (go_simp; try with_reducible rfl)
  refine wpAnyH_takeN (i := 9) (v := ?v10_9x5) (l' := bm 18 1023) (a' := ?a10_9x5) rfl (by kernel_rfl) (by kernel_rfl) (by kernel_rfl) (fun _ _ _ h => h) (Or.inl ⟨by kernel_rfl, ?h10_9x5⟩) (by kernel_rfl) ?p10_9x5 hS1 ?r10_9x5
  case h10_9x5 => (intro w hS; go_simp; try with_reducible rfl)
  case p10_9x5 => (go_simp; try with_reducible rfl)
  refine wpAnyH_takeN (i := 10) (v := ?v10_10x5) (l' := bm 18 2047) (a' := ?a10_10x5) rfl (by kernel_rfl) (by kernel_rfl) (by kernel_rfl) (fun _ _ _ h => h) (Or.inl ⟨by kernel_rfl, ?h10_10x5⟩) (by kernel_rfl) ?p10_10x5 hS1 ?r10_10x5
  case h10_10x5 => (intro w hS; go_simp; try with_reducible rfl)
  case p10_10x5 => (go_simp; try with_reducible rfl)
  refine wpAnyH_takeN (i := 11) (v := ?v10_11x5) (l' := bm 18 4095) (a' := ?a10_11x5) rfl (by kernel_rfl) (by kernel_rfl) (by kernel_rfl) (fun _ _ _ h => h) (Or.inl ⟨by kernel_rfl, ?h10_11x5⟩) (by kernel_rfl) ?p10_11x5 hS1 ?r10_11x5
  case h10_11x5 => (intro w hS; go_simp; try with_reducible rfl)
  case p10_11x5 => (go_simp; try with_reducible rfl)
  refine wpAnyH_takeN (i := 12) (v := ?v10_12x5) (l' := bm 18 8191) (a' := ?a10_12x5) rfl (by kernel_rfl) (by kernel_rfl) (by kernel_rfl) (fun _ _ _ h => h) (Or.inl ⟨by kernel_rfl, ?h10_12x5⟩) (by kernel_rfl) ?p10_12x5 hS1 ?r10_12x5
  case h10_12x5 => (intro w hS; go_simp; try with_reducible rfl)
  case p10_12x5 => (go_simp; try with_reducible rfl)
  refine wpAnyH_takeN (i := 13) (v := ?v10_13x5) (l' := bm 18 16383) (a' := ?a10_13x5) rfl (by kernel_rfl) (by kernel_rfl) (by kernel_rfl) (fun _ _ _ h => h) (Or.inl ⟨by kernel_rfl, ?h10_13x5⟩) (by kernel_rfl) ?p10_13x5 hS1 ?r10_13x5
  case h10_13x5 => (intro w hS; go_simp; try with_reducible rfl)
  case p10_13x5 => (go_simp; try with_reducible rfl)
  refine wpAnyH_takeN (i := 14) (v := ?v10_14x5) (l' := bm 18 32767) (a' := ?a10_14x5) rfl (by kernel_rfl) (by kernel_rfl) (by kernel_rfl) (fun _ _ _ h => h) (Or.inl ⟨by kernel_rfl, ?h10_14x5⟩) (by kernel_rfl) ?p10_14x5 hS1 ?r10_14x5
  case h10_14x5 => (intro w hS; go_simp; try with_reducible rfl)
  case p10_14x5 => (go_simp; try with_reducible rfl)
  refine wpAnyH_oneN (i := 15) (l' := bm 18 65535) rfl (by kernel_rfl) (by kernel_rfl) (by kernel_rfl) (fun K hK => ?_)
  have hP := hS1.1
  go_simp
  go_at_call 67
  refine (Z5'.out _).mono ?_
  rintro r w39 ⟨rfl, hb⟩
  dsimp only
  have D39 := Lib.hid (below_step hP hb)
  clear hb
  have hS2 := HO.out _ (D39.out)
  clear hP hS1
  refine hK _ _ hS2 ?_
  clear hK K
  refine wpAnyH_takeN (i := 16) (v := ?v10_16x5) (l' := bm 18 131071) (a' := ?a10_16x5) rfl (by kernel_rfl) (by kernel_rfl) (by kernel_rfl) (fun _ _ _ h => h) (Or.inl ⟨by kernel_rfl, ?h10_16x5⟩) (by kernel_rfl) ?p10_16x5 hS2 ?r10_16x5
  case h10_16x5 => (intro w hS; go_simp; try with_reducible rfl)
  case p10_16x5 => (go_simp; try with_reducible rfl)
  refine wpAnyH_takeN (i := 17) (v := ?v10_17x5) (l' := bm 18 262143) (a' := ?a10_17x5) rfl (by kernel_rfl) (by kernel_rfl) (by kernel_rfl) (fun _ _ _ h => h) (Or.inl ⟨by kernel_rfl, ?h10_17x5⟩) (by kernel_rfl) ?p10_17x5 hS2 ?r10_17x5
  case h10_17x5 => (intro w hS; go_simp; try with_reducible rfl)
  case p10_17x5 => (go_simp; try with_reducible rfl)
  refine wpAnyH_done (by kernel_rfl) ?_ _
  clear hS2
  have hq := (HO.out _ D39.out).2
  go_wp2_with fail
  rw [rounds_succ]
  go_wp2_with fail
  clear hq
  refine wp_region_held (S := (fun w' => Below V2.heap.size V2 w' ∧ w'.cell? ⟨w.heap.size, 0, none⟩ = some (Value.float FloatKind.f64 A.lo) ∧ w'.cell? ⟨w.heap.size, 1, none⟩ = some (Value.float FloatKind.f64 A.hi) ∧ w'.cell? ⟨w.heap.size + 1, 0, none⟩ = some (Value.float FloatKind.f64 B.lo) ∧ w'.cell? ⟨w.heap.size + 1, 1, none⟩ = some (Value.float FloatKind.f64 B.hi) ∧ w'.cell? ⟨w.heap.size + 1 + 1, 0, none⟩ = some (Value.float FloatKind.f64 C.lo) ∧ w'.cell? ⟨w.heap.size + 1 + 1, 1, none⟩ = some (Value.float FloatKind.f64 C.hi) ∧ w'.cell? ⟨w.heap.size + 1 + 1 + 1, 0, none⟩ = some (Value.float FloatKind.f64 D.lo) ∧ w'.cell? ⟨w.heap.size + 1 + 1 + 1, 1, none⟩ = some (Value.float FloatKind.f64 D.hi) ∧ w'.cell? ⟨g1, 0, none⟩ = some (Value.float FloatKind.f64 x0.lo) ∧ w'.cell? ⟨g1, 1, none⟩ = some (Value.float FloatKind.f64 x0.hi) ∧ w'.cell? ⟨g1, 2, none⟩ = some (Value.float FloatKind.f64 x1.lo) ∧ w'.cell? ⟨g1, 3, none⟩ = some (Value.float FloatKind.f64 x1.hi) ∧ w'.cell? ⟨g1, 4, none⟩ = some (Value.float FloatKind.f64 x2.lo) ∧ w'.cell? ⟨g1, 5, none⟩ = some (Value.float FloatKind.f64 x2.hi) ∧ w'.cell? ⟨g1, 6, none⟩ = some (Value.float FloatKind.f64 x3.lo) ∧ w'.cell? ⟨g1, 7, none⟩ = some (Value.float FloatKind.f64 x3.hi) ∧ w'.cell? ⟨g1, 8, none⟩ = some (Value.float FloatKind.f64 x4.lo) ∧ w'.cell? ⟨g1, 9, none⟩ = some (Value.float FloatKind.f64 x4.hi) ∧ w'.cell? ⟨g1, 10, none⟩ = some (Value.float FloatKind.f64 x5.lo) ∧ w'.cell? ⟨g1, 11, none⟩ = some (Value.float FloatKind.f64 x5.hi) ∧ w'.cell? ⟨g1, 12, none⟩ = some (Value.float FloatKind.f64 x6.lo) ∧ w'.cell? ⟨g1, 13, none⟩ = some (Value.float FloatKind.f64 x6.hi) ∧ w'.cell? ⟨g1, 14, none⟩ = some (Value.float FloatKind.f64 x7.lo) ∧ w'.cell? ⟨g1, 15, none⟩ = some (Value.float FloatKind.f64 x7.hi) ∧ w'.cell? ⟨g1, 16, none⟩ = some (Value.float FloatKind.f64 x8.lo) ∧ w'.cell? ⟨g1, 17, none⟩ = some (Value.float FloatKind.f64 x8.hi) ∧ w'.cell? ⟨g2, 0, none⟩ = some (Value.float FloatKind.f64 y0.lo) ∧ w'.cell? ⟨g2, 1, none⟩ = some (Value.float FloatKind.f64 y0.hi) ∧ w'.cell? ⟨g2, 2, none⟩ = some (Value.float FloatKind.f64 y1.lo) ∧ w'.cell? ⟨g2, 3, none⟩ = some (Value.float FloatKind.f64 y1.hi) ∧ w'.cell? ⟨g2, 4, none⟩ = some (Value.float FloatKind.f64 y2.lo) ∧ w'.cell? ⟨g2, 5, none⟩ = some (Value.float FloatKind.f64 y2.hi) ∧ w'.cell? ⟨g2, 6, none⟩ = some (Value.float FloatKind.f64 y3.lo) ∧ w'.cell? ⟨g2, 7, none⟩ = some (Value.float FloatKind.f64 y3.hi) ∧ w'.cell? ⟨g2, 8, none⟩ = some (Value.float FloatKind.f64 y4.lo) ∧ w'.cell? ⟨g2, 9, none⟩ = some (Value.float FloatKind.f64 y4.hi) ∧ w'.cell? ⟨g2, 10, none⟩ = some (Value.float FloatKind.f64 y5.lo) ∧ w'.cell? ⟨g2, 11, none⟩ = some (Value.float FloatKind.f64 y5.hi) ∧ w'.cell? ⟨g2, 12, none⟩ = some (Value.float FloatKind.f64 y6.lo) ∧ w'.cell? ⟨g2, 13, none⟩ = some (Value.float FloatKind.f64 y6.hi) ∧ w'.cell? ⟨g2, 14, none⟩ = some (Value.float FloatKind.f64 y7.lo) ∧ w'.cell? ⟨g2, 15, none⟩ = some (Value.float FloatKind.f64 y7.hi) ∧ w'.cell? ⟨g2, 16, none⟩ = some (Value.float FloatKind.f64 y8.lo) ∧ w'.cell? ⟨g2, 17, none⟩ = some (Value.float FloatKind.f64 y8.hi))) (by kernel_rfl) ?_
  (try change wpAnyH _ _ _ _ _ _ _ (World.drew _))
  have hS0 := HO.out _ (Below.drew D39.out)
  refine wpAnyH_takeN (i := 0) (v := ?v10_0x6) (l' := bm 18 1) (a' := ?a10_0x6) rfl (by kernel_rfl) (by kernel_rfl) (by kernel_rfl) (fun _ _ _ h => h) (Or.inl ⟨by kernel_rfl, ?h10_0x6⟩) (by kernel_rfl) ?p10_0x6 hS0 ?r10_0x6
  case h10_0x6 => (intro w hS; go_simp; try with_reducible rfl)
  case p10_0x6 => (go_simp; try with_reducible rfl)
  refine wpAnyH_takeN (i := 1) (v := ?v10_1x6) (l' := bm 18 3) (a' := ?a10_1x6) rfl (by kernel_rfl) (by kernel_rfl) (by kernel_rfl) (fun _ _ _ h => h) (Or.inl ⟨by kernel_rfl, ?h10_1x6⟩) (by kernel_rfl) ?p10_1x6 hS0 ?r10_1x6
  case h10_1x6 => (intro w hS; go_simp; try with_reducible rfl)
  case p10_1x6 => (go_simp; try with_reducible rfl)
  refine wpAnyH_takeN (i := 2) (v := ?v10_2x6) (l' := bm 18 7) (a' := ?a10_2x6) rfl (by kernel_rfl) (by kernel_rfl) (by kernel_rfl) (fun _ _ _ h => h) (Or.inl ⟨by kernel_rfl, ?h10_2x6⟩) (by kernel_rfl) ?p10_2x6 hS0 ?r10_2x6
  case h10_2x6 => (intro w hS; go_simp; try with_reducible rfl)
  case p10_2x6 => (go_simp; try with_reducible rfl)
  refine wpAnyH_takeN (i := 3) (v := ?v10_3x6) (l' := bm 18 15) (a' := ?a10_3x6) rfl (by kernel_rfl) (by kernel_rfl) (by kernel_rfl) (fun _ _ _ h => h) (Or.inl ⟨by kernel_rfl, ?h10_3x6⟩) (by kernel_rfl) ?p10_3x6 hS0 ?r10_3x6
  case h10_3x6 => (intro w hS; go_simp; try with_reducible rfl)
  case p10_3x6 => (go_simp; try with_reducible rfl)
  refine wpAnyH_oneN (i := 4) (l' := bm 18 31) rfl (by kernel_rfl) (by kernel_rfl) (by kernel_rfl) (fun K hK => ?_)
  have hP := hS0.1
  go_simp
  go_at_call 15
  refine (T6'.out _).mono ?_
  rintro r w40 ⟨rfl, hb⟩
  dsimp only
  have D40 := Lib.hid (below_step hP hb)
  clear hb
  have hS1 := HO.out _ (D40.out)
  clear hP hS0
  refine hK _ _ hS1 ?_
  clear hK K
  refine wpAnyH_takeN (i := 5) (v := ?v10_5x6) (l' := bm 18 63) (a' := ?a10_5x6) rfl (by kernel_rfl) (by kernel_rfl) (by kernel_rfl) (fun _ _ _ h => h) (Or.inl ⟨by kernel_rfl, ?h10_5x6⟩) (by kernel_rfl) ?p10_5x6 hS1 ?r10_5x6
  case h10_5x6 => (intro w hS; go_simp; try with_reducible rfl)
  case p10_5x6 => (go_simp; try with_reducible rfl)
  refine wpAnyH_takeN (i := 6) (v := ?v10_6x6) (l' := bm 18 127) (a' := ?a10_6x6) rfl (by kernel_rfl) (by kernel_rfl) (by kernel_rfl) (fun _ _ _ h => h) (Or.inl ⟨by kernel_rfl, ?h10_6x6⟩) (by kernel_rfl) ?p10_6x6 hS1 ?r10_6x6
  case h10_6x6 => (intro w hS; go_simp; try with_reducible rfl)
  case p10_6x6 => (go_simp; try with_reducible rfl)
  refine wpAnyH_takeN (i := 7) (v := ?v10_7x6) (l' := bm 18 255) (a' := ?a10_7x6) rfl (by kernel_rfl) (by kernel_rfl) (by kernel_rfl) (fun _ _ _ h => h) (Or.inl ⟨by kernel_rfl, ?h10_7x6⟩) (by kernel_rfl) ?p10_7x6 hS1 ?r10_7x6
  case h10_7x6 => (intro w hS; go_simp; try with_reducible rfl)
  case p10_7x6 => (go_simp; try with_reducible rfl)
  refine wpAnyH_takeN (i := 8) (v := ?v10_8x6) (l' := bm 18 511) (a' := ?a10_8x6) rfl (by kernel_rfl) (by kernel_rfl) (by kernel_rfl) (fun _ _ _ h => h) (Or.inl ⟨by kernel_rfl, ?h10_8x6⟩) (by kernel_rfl) ?p10_8x6 hS1 ?r10_8x6
  case h10_8x6 => (intro w hS; go_simp; try with_reducible rfl)
  case p10_8x6 => (go_simp; try with_reducible rfl)
  refine wpAnyH_takeN (i := 9) (v := ?v10_9x6) (l' := bm 18 1023) (a' := ?a10_9x6) rfl (by kernel_rfl) (by kernel_rfl) (by kernel_rfl) (fun _ _ _ h => h) (Or.inl ⟨by kernel_rfl, ?h10_9x6⟩) (by kernel_rfl) ?p10_9x6 hS1 ?r10_9x6
  case h10_9x6 => (intro w hS; go_simp; try with_reducible rfl)
  case p10_9x6 => (go_simp; try with_reducible rfl)
  refine wpAnyH_takeN (i := 10) (v := ?v10_10x6) (l' := bm 18 2047) (a' := ?a10_10x6) rfl (by kernel_rfl) (by kernel_rfl) (by kernel_rfl) (fun _ _ _ h => h) (Or.inl ⟨by kernel_rfl, ?h10_10x6⟩) (by kernel_rfl) ?p10_10x6 hS1 ?r10_10x6
  case h10_10x6 => (intro w hS; go_simp; try with_reducible rfl)
  case p10_10x6 => (go_simp; try with_reducible rfl)
  refine wpAnyH_takeN (i := 11) (v := ?v10_11x6) (l' := bm 18 4095) (a' := ?a10_11x6) rfl (by kernel_rfl) (by kernel_rfl) (by kernel_rfl) (fun _ _ _ h => h) (Or.inl ⟨by kernel_rfl, ?h10_11x6⟩) (by kernel_rfl) ?p10_11x6 hS1 ?r10_11x6
  case h10_11x6 => (intro w hS; go_simp; try with_reducible rfl)
  case p10_11x6 => (go_simp; try with_reducible rfl)
  refine wpAnyH_takeN (i := 12) (v := ?v10_12x6) (l' := bm 18 8191) (a' := ?a10_12x6) rfl (by kernel_rfl) (by kernel_rfl) (by kernel_rfl) (fun _ _ _ h => h) (Or.inl ⟨by kernel_rfl, ?h10_12x6⟩) (by kernel_rfl) ?p10_12x6 hS1 ?r10_12x6
  case h10_12x6 => (intro w hS; go_simp; try with_reducible rfl)
  case p10_12x6 => (go_simp; try with_reducible rfl)
  refine wpAnyH_takeN (i := 13) (v := ?v10_13x6) (l' := bm 18 16383) (a' := ?a10_13x6) rfl (by kernel_rfl) (by kernel_rfl) (by kernel_rfl) (fun _ _ _ h => h) (Or.inl ⟨by kernel_rfl, ?h10_13x6⟩) (by kernel_rfl) ?p10_13x6 hS1 ?r10_13x6
  case h10_13x6 => (intro w hS; go_simp; try with_reducible rfl)
  case p10_13x6 => (go_simp; try with_reducible rfl)
  refine wpAnyH_takeN (i := 14) (v := ?v10_14x6) (l' := bm 18 32767) (a' := ?a10_14x6) rfl (by kernel_rfl) (by kernel_rfl) (by kernel_rfl) (fun _ _ _ h => h) (Or.inl ⟨by kernel_rfl, ?h10_14x6⟩) (by kernel_rfl) ?p10_14x6 hS1 ?r10_14x6
  case h10_14x6 => (intro w hS; go_simp; try with_reducible rfl)
  case p10_14x6 => (go_simp; try with_reducible rfl)
  refine wpAnyH_oneN (i := 15) (l' := bm 18 65535) rfl (by kernel_rfl) (by kernel_rfl) (by kernel_rfl) (fun K hK => ?_)
  have hP := hS1.1
  go_simp
  go_at_call 67
  refine (Z6'.out _).mono ?_
  rintro r w41 ⟨rfl, hb⟩
  dsimp only
  have D41 := Lib.hid (below_step hP hb)
  clear hb
  have hS2 := HO.out _ (D41.out)
  clear hP hS1
  refine hK _ _ hS2 ?_
  clear hK K
  refine wpAnyH_takeN (i := 16) (v := ?v10_16x6) (l' := bm 18 131071) (a' := ?a10_16x6) rfl (by kernel_rfl) (by kernel_rfl) (by kernel_rfl) (fun _ _ _ h => h) (Or.inl ⟨by kernel_rfl, ?h10_16x6⟩) (by kernel_rfl) ?p10_16x6 hS2 ?r10_16x6
  case h10_16x6 => (intro w hS; go_simp; try with_reducible rfl)
  case p10_16x6 => (go_simp; try with_reducible rfl)
  refine wpAnyH_takeN (i := 17) (v := ?v10_17x6) (l' := bm 18 262143) (a' := ?a10_17x6) rfl (by kernel_rfl) (by kernel_rfl) (by kernel_rfl) (fun _ _ _ h => h) (Or.inl ⟨by kernel_rfl, ?h10_17x6⟩) (by kernel_rfl) ?p10_17x6 hS2 ?r10_17x6
  case h10_17x6 => (intro w hS; go_simp; try with_reducible rfl)
  case p10_17x6 => (go_simp; try with_reducible rfl)
  refine wpAnyH_done (by kernel_rfl) ?_ _
  clear hS2
  have hq := (HO.out _ D41.out).2
  go_wp2_with fail
  rw [rounds_succ]
  go_wp2_with fail
  clear hq
  refine wp_region_held (S := (fun w' => Below V2.heap.size V2 w' ∧ w'.cell? ⟨w.heap.size, 0, none⟩ = some (Value.float FloatKind.f64 A.lo) ∧ w'.cell? ⟨w.heap.size, 1, none⟩ = some (Value.float FloatKind.f64 A.hi) ∧ w'.cell? ⟨w.heap.size + 1, 0, none⟩ = some (Value.float FloatKind.f64 B.lo) ∧ w'.cell? ⟨w.heap.size + 1, 1, none⟩ = some (Value.float FloatKind.f64 B.hi) ∧ w'.cell? ⟨w.heap.size + 1 + 1, 0, none⟩ = some (Value.float FloatKind.f64 C.lo) ∧ w'.cell? ⟨w.heap.size + 1 + 1, 1, none⟩ = some (Value.float FloatKind.f64 C.hi) ∧ w'.cell? ⟨w.heap.size + 1 + 1 + 1, 0, none⟩ = some (Value.float FloatKind.f64 D.lo) ∧ w'.cell? ⟨w.heap.size + 1 + 1 + 1, 1, none⟩ = some (Value.float FloatKind.f64 D.hi) ∧ w'.cell? ⟨g1, 0, none⟩ = some (Value.float FloatKind.f64 x0.lo) ∧ w'.cell? ⟨g1, 1, none⟩ = some (Value.float FloatKind.f64 x0.hi) ∧ w'.cell? ⟨g1, 2, none⟩ = some (Value.float FloatKind.f64 x1.lo) ∧ w'.cell? ⟨g1, 3, none⟩ = some (Value.float FloatKind.f64 x1.hi) ∧ w'.cell? ⟨g1, 4, none⟩ = some (Value.float FloatKind.f64 x2.lo) ∧ w'.cell? ⟨g1, 5, none⟩ = some (Value.float FloatKind.f64 x2.hi) ∧ w'.cell? ⟨g1, 6, none⟩ = some (Value.float FloatKind.f64 x3.lo) ∧ w'.cell? ⟨g1, 7, none⟩ = some (Value.float FloatKind.f64 x3.hi) ∧ w'.cell? ⟨g1, 8, none⟩ = some (Value.float FloatKind.f64 x4.lo) ∧ w'.cell? ⟨g1, 9, none⟩ = some (Value.float FloatKind.f64 x4.hi) ∧ w'.cell? ⟨g1, 10, none⟩ = some (Value.float FloatKind.f64 x5.lo) ∧ w'.cell? ⟨g1, 11, none⟩ = some (Value.float FloatKind.f64 x5.hi) ∧ w'.cell? ⟨g1, 12, none⟩ = some (Value.float FloatKind.f64 x6.lo) ∧ w'.cell? ⟨g1, 13, none⟩ = some (Value.float FloatKind.f64 x6.hi) ∧ w'.cell? ⟨g1, 14, none⟩ = some (Value.float FloatKind.f64 x7.lo) ∧ w'.cell? ⟨g1, 15, none⟩ = some (Value.float FloatKind.f64 x7.hi) ∧ w'.cell? ⟨g1, 16, none⟩ = some (Value.float FloatKind.f64 x8.lo) ∧ w'.cell? ⟨g1, 17, none⟩ = some (Value.float FloatKind.f64 x8.hi) ∧ w'.cell? ⟨g2, 0, none⟩ = some (Value.float FloatKind.f64 y0.lo) ∧ w'.cell? ⟨g2, 1, none⟩ = some (Value.float FloatKind.f64 y0.hi) ∧ w'.cell? ⟨g2, 2, none⟩ = some (Value.float FloatKind.f64 y1.lo) ∧ w'.cell? ⟨g2, 3, none⟩ = some (Value.float FloatKind.f64 y1.hi) ∧ w'.cell? ⟨g2, 4, none⟩ = some (Value.float FloatKind.f64 y2.lo) ∧ w'.cell? ⟨g2, 5, none⟩ = some (Value.float FloatKind.f64 y2.hi) ∧ w'.cell? ⟨g2, 6, none⟩ = some (Value.float FloatKind.f64 y3.lo) ∧ w'.cell? ⟨g2, 7, none⟩ = some (Value.float FloatKind.f64 y3.hi) ∧ w'.cell? ⟨g2, 8, none⟩ = some (Value.float FloatKind.f64 y4.lo) ∧ w'.cell? ⟨g2, 9, none⟩ = some (Value.float FloatKind.f64 y4.hi) ∧ w'.cell? ⟨g2, 10, none⟩ = some (Value.float FloatKind.f64 y5.lo) ∧ w'.cell? ⟨g2, 11, none⟩ = some (Value.float FloatKind.f64 y5.hi) ∧ w'.cell? ⟨g2, 12, none⟩ = some (Value.float FloatKind.f64 y6.lo) ∧ w'.cell? ⟨g2, 13, none⟩ = some (Value.float FloatKind.f64 y6.hi) ∧ w'.cell? ⟨g2, 14, none⟩ = some (Value.float FloatKind.f64 y7.lo) ∧ w'.cell? ⟨g2, 15, none⟩ = some (Value.float FloatKind.f64 y7.hi) ∧ w'.cell? ⟨g2, 16, none⟩ = some (Value.float FloatKind.f64 y8.lo) ∧ w'.cell? ⟨g2, 17, none⟩ = some (Value.float FloatKind.f64 y8.hi))) (by kernel_rfl) ?_
  (try change wpAnyH _ _ _ _ _ _ _ (World.drew _))
  have hS0 := HO.out _ (Below.drew D41.out)
  refine wpAnyH_takeN (i := 0) (v := ?v10_0x7) (l' := bm 18 1) (a' := ?a10_0x7) rfl (by kernel_rfl) (by kernel_rfl) (by kernel_rfl) (fun _ _ _ h => h) (Or.inl ⟨by kernel_rfl, ?h10_0x7⟩) (by kernel_rfl) ?p10_0x7 hS0 ?r10_0x7
  case h10_0x7 => (intro w hS; go_simp; try with_reducible rfl)
  case p10_0x7 => (go_simp; try with_reducible rfl)
  refine wpAnyH_takeN (i := 1) (v := ?v10_1x7) (l' := bm 18 3) (a' := ?a10_1x7) rfl (by kernel_rfl) (by kernel_rfl) (by kernel_rfl) (fun _ _ _ h => h) (Or.inl ⟨by kernel_rfl, ?h10_1x7⟩) (by kernel_rfl) ?p10_1x7 hS0 ?r10_1x7
  case h10_1x7 => (intro w hS; go_simp; try with_reducible rfl)
  case p10_1x7 => (go_simp; try with_reducible rfl)
  refine wpAnyH_takeN (i := 2) (v := ?v10_2x7) (l' := bm 18 7) (a' := ?a10_2x7) rfl (by kernel_rfl) (by kernel_rfl) (by kernel_rfl) (fun _ _ _ h => h) (Or.inl ⟨by kernel_rfl, ?h10_2x7⟩) (by kernel_rfl) ?p10_2x7 hS0 ?r10_2x7
  case h10_2x7 => (intro w hS; go_simp; try with_reducible rfl)
  case p10_2x7 => (go_simp; try with_reducible rfl)
  refine wpAnyH_takeN (i := 3) (v := ?v10_3x7) (l' := bm 18 15) (a' := ?a10_3x7) rfl (by kernel_rfl) (by kernel_rfl) (by kernel_rfl) (fun _ _ _ h => h) (Or.inl ⟨by kernel_rfl, ?h10_3x7⟩) (by kernel_rfl) ?p10_3x7 hS0 ?r10_3x7
  case h10_3x7 => (intro w hS; go_simp; try with_reducible rfl)
  case p10_3x7 => (go_simp; try with_reducible rfl)
  refine wpAnyH_oneN (i := 4) (l' := bm 18 31) rfl (by kernel_rfl) (by kernel_rfl) (by kernel_rfl) (fun K hK => ?_)
  have hP := hS0.1
  go_simp
  go_at_call 15
  refine (T7'.out _).mono ?_
  rintro r w42 ⟨rfl, hb⟩
  dsimp only
  have D42 := Lib.hid (below_step hP hb)
  clear hb
  have hS1 := HO.out _ (D42.out)
  clear hP hS0
  refine hK _ _ hS1 ?_
  clear hK K
  refine wpAnyH_takeN (i := 5) (v := ?v10_5x7) (l' := bm 18 63) (a' := ?a10_5x7) rfl (by kernel_rfl) (by kernel_rfl) (by kernel_rfl) (fun _ _ _ h => h) (Or.inl ⟨by kernel_rfl, ?h10_5x7⟩) (by kernel_rfl) ?p10_5x7 hS1 ?r10_5x7
  case h10_5x7 => (intro w hS; go_simp; try with_reducible rfl)
  case p10_5x7 => (go_simp; try with_reducible rfl)
  refine wpAnyH_takeN (i := 6) (v := ?v10_6x7) (l' := bm 18 127) (a' := ?a10_6x7) rfl (by kernel_rfl) (by kernel_rfl) (by kernel_rfl) (fun _ _ _ h => h) (Or.inl ⟨by kernel_rfl, ?h10_6x7⟩) (by kernel_rfl) ?p10_6x7 hS1 ?r10_6x7
  case h10_6x7 => (intro w hS; go_simp; try with_reducible rfl)
  case p10_6x7 => (go_simp; try with_reducible rfl)
  refine wpAnyH_takeN (i := 7) (v := ?v10_7x7) (l' := bm 18 255) (a' := ?a10_7x7) rfl (by kernel_rfl) (by kernel_rfl) (by kernel_rfl) (fun _ _ _ h => h) (Or.inl ⟨by kernel_rfl, ?h10_7x7⟩) (by kernel_rfl) ?p10_7x7 hS1 ?r10_7x7
  case h10_7x7 => (intro w hS; go_simp; try with_reducible rfl)
  case p10_7x7 => (go_simp; try with_reducible rfl)
  refine wpAnyH_takeN (i := 8) (v := ?v10_8x7) (l' := bm 18 511) (a' := ?a10_8x7) rfl (by kernel_rfl) (by kernel_rfl) (by kernel_rfl) (fun _ _ _ h => h) (Or.inl ⟨by kernel_rfl, ?h10_8x7⟩) (by kernel_rfl) ?p10_8x7 hS1 ?r10_8x7
  case h10_8x7 => (intro w hS; go_simp; try with_reducible rfl)
  case p10_8x7 => (go_simp; try with_reducible rfl)
  refine wpAnyH_takeN (i := 9) (v := ?v10_9x7) (l' := bm 18 1023) (a' := ?a10_9x7) rfl (by kernel_rfl) (by kernel_rfl) (by kernel_rfl) (fun _ _ _ h => h) (Or.inl ⟨by kernel_rfl, ?h10_9x7⟩) (by kernel_rfl) ?p10_9x7 hS1 ?r10_9x7
  case h10_9x7 => (intro w hS; go_simp; try with_reducible rfl)
  case p10_9x7 => (go_simp; try with_reducible rfl)
  refine wpAnyH_takeN (i := 10) (v := ?v10_10x7) (l' := bm 18 2047) (a' := ?a10_10x7) rfl (by kernel_rfl) (by kernel_rfl) (by kernel_rfl) (fun _ _ _ h => h) (Or.inl ⟨by kernel_rfl, ?h10_10x7⟩) (by kernel_rfl) ?p10_10x7 hS1 ?r10_10x7
  case h10_10x7 => (intro w hS; go_simp; try with_reducible rfl)
  case p10_10x7 => (go_simp; try with_reducible rfl)
  refine wpAnyH_takeN (i := 11) (v := ?v10_11x7) (l' := bm 18 4095) (a' := ?a10_11x7) rfl (by kernel_rfl) (by kernel_rfl) (by kernel_rfl) (fun _ _ _ h => h) (Or.inl ⟨by kernel_rfl, ?h10_11x7⟩) (by kernel_rfl) ?p10_11x7 hS1 ?r10_11x7
  case h10_11x7 => (intro w hS; go_simp; try with_reducible rfl)
  case p10_11x7 => (go_simp; try with_reducible rfl)
  refine wpAnyH_takeN (i := 12) (v := ?v10_12x7) (l' := bm 18 8191) (a' := ?a10_12x7) rfl (by kernel_rfl) (by kernel_rfl) (by kernel_rfl) (fun _ _ _ h => h) (Or.inl ⟨by kernel_rfl, ?h10_12x7⟩) (by kernel_rfl) ?p10_12x7 hS1 ?r10_12x7
  case h10_12x7 => (intro w hS; go_simp; try with_reducible rfl)
  case p10_12x7 => (go_simp; try with_reducible rfl)
  refine wpAnyH_takeN (i := 13) (v := ?v10_13x7) (l' := bm 18 16383) (a' := ?a10_13x7) rfl (by kernel_rfl) (by kernel_rfl) (by kernel_rfl) (fun _ _ _ h => h) (Or.inl ⟨by kernel_rfl, ?h10_13x7⟩) (by kernel_rfl) ?p10_13x7 hS1 ?r10_13x7
  case h10_13x7 => (intro w hS; go_simp; try with_reducible rfl)
  case p10_13x7 => (go_simp; try with_reducible rfl)
  refine wpAnyH_takeN (i := 14) (v := ?v10_14x7) (l' := bm 18 32767) (a' := ?a10_14x7) rfl (by kernel_rfl) (by kernel_rfl) (by kernel_rfl) (fun _ _ _ h => h) (Or.inl ⟨by kernel_rfl, ?h10_14x7⟩) (by kernel_rfl) ?p10_14x7 hS1 ?r10_14x7
  case h10_14x7 => (intro w hS; go_simp; try with_reducible rfl)
  case p10_14x7 => (go_simp; try with_reducible rfl)
  refine wpAnyH_oneN (i := 15) (l' := bm 18 65535) rfl (by kernel_rfl) (by kernel_rfl) (by kernel_rfl) (fun K hK => ?_)
  have hP := hS1.1
  go_simp
  go_at_call 67
  refine (Z7'.out _).mono ?_
  rintro r w43 ⟨rfl, hb⟩
  dsimp only
  have D43 := Lib.hid (below_step hP hb)
  clear hb
  have hS2 := HO.out _ (D43.out)
  clear hP hS1
  refine hK _ _ hS2 ?_
  clear hK K
  refine wpAnyH_takeN (i := 16) (v := ?v10_16x7) (l' := bm 18 131071) (a' := ?a10_16x7) rfl (by kernel_rfl) (by kernel_rfl) (by kernel_rfl) (fun _ _ _ h => h) (Or.inl ⟨by kernel_rfl, ?h10_16x7⟩) (by kernel_rfl) ?p10_16x7 hS2 ?r10_16x7
  case h10_16x7 => (intro w hS; go_simp; try with_reducible rfl)
  case p10_16x7 => (go_simp; try with_reducible rfl)
  refine wpAnyH_takeN (i := 17) (v := ?v10_17x7) (l' := bm 18 262143) (a' := ?a10_17x7) rfl (by kernel_rfl) (by kernel_rfl) (by kernel_rfl) (fun _ _ _ h => h) (Or.inl ⟨by kernel_rfl, ?h10_17x7⟩) (by kernel_rfl) ?p10_17x7 hS2 ?r10_17x7
  case h10_17x7 => (intro w hS; go_simp; try with_reducible rfl)
  case p10_17x7 => (go_simp; try with_reducible rfl)
  refine wpAnyH_done (by kernel_rfl) ?_ _
  clear hS2
  have hq := (HO.out _ D43.out).2
  go_wp2_with fail
  rw [rounds_succ]
  go_wp2_with fail
  clear hq
  refine wp_region_held (S := (fun w' => Below V2.heap.size V2 w' ∧ w'.cell? ⟨w.heap.size, 0, none⟩ = some (Value.float FloatKind.f64 A.lo) ∧ w'.cell? ⟨w.heap.size, 1, none⟩ = some (Value.float FloatKind.f64 A.hi) ∧ w'.cell? ⟨w.heap.size + 1, 0, none⟩ = some (Value.float FloatKind.f64 B.lo) ∧ w'.cell? ⟨w.heap.size + 1, 1, none⟩ = some (Value.float FloatKind.f64 B.hi) ∧ w'.cell? ⟨w.heap.size + 1 + 1, 0, none⟩ = some (Value.float FloatKind.f64 C.lo) ∧ w'.cell? ⟨w.heap.size + 1 + 1, 1, none⟩ = some (Value.float FloatKind.f64 C.hi) ∧ w'.cell? ⟨w.heap.size + 1 + 1 + 1, 0, none⟩ = some (Value.float FloatKind.f64 D.lo) ∧ w'.cell? ⟨w.heap.size + 1 + 1 + 1, 1, none⟩ = some (Value.float FloatKind.f64 D.hi) ∧ w'.cell? ⟨g1, 0, none⟩ = some (Value.float FloatKind.f64 x0.lo) ∧ w'.cell? ⟨g1, 1, none⟩ = some (Value.float FloatKind.f64 x0.hi) ∧ w'.cell? ⟨g1, 2, none⟩ = some (Value.float FloatKind.f64 x1.lo) ∧ w'.cell? ⟨g1, 3, none⟩ = some (Value.float FloatKind.f64 x1.hi) ∧ w'.cell? ⟨g1, 4, none⟩ = some (Value.float FloatKind.f64 x2.lo) ∧ w'.cell? ⟨g1, 5, none⟩ = some (Value.float FloatKind.f64 x2.hi) ∧ w'.cell? ⟨g1, 6, none⟩ = some (Value.float FloatKind.f64 x3.lo) ∧ w'.cell? ⟨g1, 7, none⟩ = some (Value.float FloatKind.f64 x3.hi) ∧ w'.cell? ⟨g1, 8, none⟩ = some (Value.float FloatKind.f64 x4.lo) ∧ w'.cell? ⟨g1, 9, none⟩ = some (Value.float FloatKind.f64 x4.hi) ∧ w'.cell? ⟨g1, 10, none⟩ = some (Value.float FloatKind.f64 x5.lo) ∧ w'.cell? ⟨g1, 11, none⟩ = some (Value.float FloatKind.f64 x5.hi) ∧ w'.cell? ⟨g1, 12, none⟩ = some (Value.float FloatKind.f64 x6.lo) ∧ w'.cell? ⟨g1, 13, none⟩ = some (Value.float FloatKind.f64 x6.hi) ∧ w'.cell? ⟨g1, 14, none⟩ = some (Value.float FloatKind.f64 x7.lo) ∧ w'.cell? ⟨g1, 15, none⟩ = some (Value.float FloatKind.f64 x7.hi) ∧ w'.cell? ⟨g1, 16, none⟩ = some (Value.float FloatKind.f64 x8.lo) ∧ w'.cell? ⟨g1, 17, none⟩ = some (Value.float FloatKind.f64 x8.hi) ∧ w'.cell? ⟨g2, 0, none⟩ = some (Value.float FloatKind.f64 y0.lo) ∧ w'.cell? ⟨g2, 1, none⟩ = some (Value.float FloatKind.f64 y0.hi) ∧ w'.cell? ⟨g2, 2, none⟩ = some (Value.float FloatKind.f64 y1.lo) ∧ w'.cell? ⟨g2, 3, none⟩ = some (Value.float FloatKind.f64 y1.hi) ∧ w'.cell? ⟨g2, 4, none⟩ = some (Value.float FloatKind.f64 y2.lo) ∧ w'.cell? ⟨g2, 5, none⟩ = some (Value.float FloatKind.f64 y2.hi) ∧ w'.cell? ⟨g2, 6, none⟩ = some (Value.float FloatKind.f64 y3.lo) ∧ w'.cell? ⟨g2, 7, none⟩ = some (Value.float FloatKind.f64 y3.hi) ∧ w'.cell? ⟨g2, 8, none⟩ = some (Value.float FloatKind.f64 y4.lo) ∧ w'.cell? ⟨g2, 9, none⟩ = some (Value.float FloatKind.f64 y4.hi) ∧ w'.cell? ⟨g2, 10, none⟩ = some (Value.float FloatKind.f64 y5.lo) ∧ w'.cell? ⟨g2, 11, none⟩ = some (Value.float FloatKind.f64 y5.hi) ∧ w'.cell? ⟨g2, 12, none⟩ = some (Value.float FloatKind.f64 y6.lo) ∧ w'.cell? ⟨g2, 13, none⟩ = some (Value.float FloatKind.f64 y6.hi) ∧ w'.cell? ⟨g2, 14, none⟩ = some (Value.float FloatKind.f64 y7.lo) ∧ w'.cell? ⟨g2, 15, none⟩ = some (Value.float FloatKind.f64 y7.hi) ∧ w'.cell? ⟨g2, 16, none⟩ = some (Value.float FloatKind.f64 y8.lo) ∧ w'.cell? ⟨g2, 17, none⟩ = some (Value.float FloatKind.f64 y8.hi))) (by kernel_rfl) ?_
  (try change wpAnyH _ _ _ _ _ _ _ (World.drew _))
  have hS0 := HO.out _ (Below.drew D43.out)
  refine wpAnyH_takeN (i := 0) (v := ?v10_0x8) (l' := bm 18 1) (a' := ?a10_0x8) rfl (by kernel_rfl) (by kernel_rfl) (by kernel_rfl) (fun _ _ _ h => h) (Or.inl ⟨by kernel_rfl, ?h10_0x8⟩) (by kernel_rfl) ?p10_0x8 hS0 ?r10_0x8
  case h10_0x8 => (intro w hS; go_simp; try with_reducible rfl)
  case p10_0x8 => (go_simp; try with_reducible rfl)
  refine wpAnyH_takeN (i := 1) (v := ?v10_1x8) (l' := bm 18 3) (a' := ?a10_1x8) rfl (by kernel_rfl) (by kernel_rfl) (by kernel_rfl) (fun _ _ _ h => h) (Or.inl ⟨by kernel_rfl, ?h10_1x8⟩) (by kernel_rfl) ?p10_1x8 hS0 ?r10_1x8
  case h10_1x8 => (intro w hS; go_simp; try with_reducible rfl)
  case p10_1x8 => (go_simp; try with_reducible rfl)
  refine wpAnyH_takeN (i := 2) (v := ?v10_2x8) (l' := bm 18 7) (a' := ?a10_2x8) rfl (by kernel_rfl) (by kernel_rfl) (by kernel_rfl) (fun _ _ _ h => h) (Or.inl ⟨by kernel_rfl, ?h10_2x8⟩) (by kernel_rfl) ?p10_2x8 hS0 ?r10_2x8
  case h10_2x8 => (intro w hS; go_simp; try with_reducible rfl)
  case p10_2x8 => (go_simp; try with_reducible rfl)
  refine wpAnyH_takeN (i := 3) (v := ?v10_3x8) (l' := bm 18 15) (a' := ?a10_3x8) rfl (by kernel_rfl) (by kernel_rfl) (by kernel_rfl) (fun _ _ _ h => h) (Or.inl ⟨by kernel_rfl, ?h10_3x8⟩) (by kernel_rfl) ?p10_3x8 hS0 ?r10_3x8
  case h10_3x8 => (intro w hS; go_simp; try with_reducible rfl)
  case p10_3x8 => (go_simp; try with_reducible rfl)
  refine wpAnyH_oneN (i := 4) (l' := bm 18 31) rfl (by kernel_rfl) (by kernel_rfl) (by kernel_rfl) (fun K hK => ?_)
  have hP := hS0.1
  go_simp
  go_at_call 15
  refine (T8'.out _).mono ?_
  rintro r w44 ⟨rfl, hb⟩
  dsimp only
  have D44 := Lib.hid (below_step hP hb)
  clear hb
  have hS1 := HO.out _ (D44.out)
  clear hP hS0
  refine hK _ _ hS1 ?_
  clear hK K
  refine wpAnyH_takeN (i := 5) (v := ?v10_5x8) (l' := bm 18 63) (a' := ?a10_5x8) rfl (by kernel_rfl) (by kernel_rfl) (by kernel_rfl) (fun _ _ _ h => h) (Or.inl ⟨by kernel_rfl, ?h10_5x8⟩) (by kernel_rfl) ?p10_5x8 hS1 ?r10_5x8
  case h10_5x8 => (intro w hS; go_simp; try with_reducible rfl)
  case p10_5x8 => (go_simp; try with_reducible rfl)
  refine wpAnyH_takeN (i := 6) (v := ?v10_6x8) (l' := bm 18 127) (a' := ?a10_6x8) rfl (by kernel_rfl) (by kernel_rfl) (by kernel_rfl) (fun _ _ _ h => h) (Or.inl ⟨by kernel_rfl, ?h10_6x8⟩) (by kernel_rfl) ?p10_6x8 hS1 ?r10_6x8
  case h10_6x8 => (intro w hS; go_simp; try with_reducible rfl)
  case p10_6x8 => (go_simp; try with_reducible rfl)
  refine wpAnyH_takeN (i := 7) (v := ?v10_7x8) (l' := bm 18 255) (a' := ?a10_7x8) rfl (by kernel_rfl) (by kernel_rfl) (by kernel_rfl) (fun _ _ _ h => h) (Or.inl ⟨by kernel_rfl, ?h10_7x8⟩) (by kernel_rfl) ?p10_7x8 hS1 ?r10_7x8
  case h10_7x8 => (intro w hS; go_simp; try with_reducible rfl)
  case p10_7x8 => (go_simp; try with_reducible rfl)
  refine wpAnyH_takeN (i := 8) (v := ?v10_8x8) (l' := bm 18 511) (a' := ?a10_8x8) rfl (by kernel_rfl) (by kernel_rfl) (by kernel_rfl) (fun _ _ _ h => h) (Or.inl ⟨by kernel_rfl, ?h10_8x8⟩) (by kernel_rfl) ?p10_8x8 hS1 ?r10_8x8
  case h10_8x8 => (intro w hS; go_simp; try with_reducible rfl)
  case p10_8x8 => (go_simp; try with_reducible rfl)
  refine wpAnyH_takeN (i := 9) (v := ?v10_9x8) (l' := bm 18 1023) (a' := ?a10_9x8) rfl (by kernel_rfl) (by kernel_rfl) (by kernel_rfl) (fun _ _ _ h => h) (Or.inl ⟨by kernel_rfl, ?h10_9x8⟩) (by kernel_rfl) ?p10_9x8 hS1 ?r10_9x8
  case h10_9x8 => (intro w hS; go_simp; try with_reducible rfl)
  case p10_9x8 => (go_simp; try with_reducible rfl)
  refine wpAnyH_takeN (i := 10) (v := ?v10_10x8) (l' := bm 18 2047) (a' := ?a10_10x8) rfl (by kernel_rfl) (by kernel_rfl) (by kernel_rfl) (fun _ _ _ h => h) (Or.inl ⟨by kernel_rfl, ?h10_10x8⟩) (by kernel_rfl) ?p10_10x8 hS1 ?r10_10x8
  case h10_10x8 => (intro w hS; go_simp; try with_reducible rfl)
  case p10_10x8 => (go_simp; try with_reducible rfl)
  refine wpAnyH_takeN (i := 11) (v := ?v10_11x8) (l' := bm 18 4095) (a' := ?a10_11x8) rfl (by kernel_rfl) (by kernel_rfl) (by kernel_rfl) (fun _ _ _ h => h) (Or.inl ⟨by kernel_rfl, ?h10_11x8⟩) (by kernel_rfl) ?p10_11x8 hS1 ?r10_11x8
  case h10_11x8 => (intro w hS; go_simp; try with_reducible rfl)
  case p10_11x8 => (go_simp; try with_reducible rfl)
  refine wpAnyH_takeN (i := 12) (v := ?v10_12x8) (l' := bm 18 8191) (a' := ?a10_12x8) rfl (by kernel_rfl) (by kernel_rfl) (by kernel_rfl) (fun _ _ _ h => h) (Or.inl ⟨by kernel_rfl, ?h10_12x8⟩) (by kernel_rfl) ?p10_12x8 hS1 ?r10_12x8
  case h10_12x8 => (intro w hS; go_simp; try with_reducible rfl)
  case p10_12x8 => (go_simp; try with_reducible rfl)
  refine wpAnyH_takeN (i := 13) (v := ?v10_13x8) (l' := bm 18 16383) (a' := ?a10_13x8) rfl (by kernel_rfl) (by kernel_rfl) (by kernel_rfl) (fun _ _ _ h => h) (Or.inl ⟨by kernel_rfl, ?h10_13x8⟩) (by kernel_rfl) ?p10_13x8 hS1 ?r10_13x8
  case h10_13x8 => (intro w hS; go_simp; try with_reducible rfl)
  case p10_13x8 => (go_simp; try with_reducible rfl)
  refine wpAnyH_takeN (i := 14) (v := ?v10_14x8) (l' := bm 18 32767) (a' := ?a10_14x8) rfl (by kernel_rfl) (by kernel_rfl) (by kernel_rfl) (fun _ _ _ h => h) (Or.inl ⟨by kernel_rfl, ?h10_14x8⟩) (by kernel_rfl) ?p10_14x8 hS1 ?r10_14x8
  case h10_14x8 => (intro w hS; go_simp; try with_reducible rfl)
  case p10_14x8 => (go_simp; try with_reducible rfl)
  refine wpAnyH_oneN (i := 15) (l' := bm 18 65535) rfl (by kernel_rfl) (by kernel_rfl) (by kernel_rfl) (fun K hK => ?_)
  have hP := hS1.1
  go_simp
  go_at_call 67
  refine (Z8'.out _).mono ?_
  rintro r w45 ⟨rfl, hb⟩
  dsimp only
  have D45 := Lib.hid (below_step hP hb)
  clear hb
  have hS2 := HO.out _ (D45.out)
  clear hP hS1
  refine hK _ _ hS2 ?_
  clear hK K
  refine wpAnyH_takeN (i := 16) (v := ?v10_16x8) (l' := bm 18 131071) (a' := ?a10_16x8) rfl (by kernel_rfl) (by kernel_rfl) (by kernel_rfl) (fun _ _ _ h => h) (Or.inl ⟨by kernel_rfl, ?h10_16x8⟩) (by kernel_rfl) ?p10_16x8 hS2 ?r10_16x8
  case h10_16x8 => (intro w hS; go_simp; try with_reducible rfl)
  case p10_16x8 => (go_simp; try with_reducible rfl)
  refine wpAnyH_takeN (i := 17) (v := ?v10_17x8) (l' := bm 18 262143) (a' := ?a10_17x8) rfl (by kernel_rfl) (by kernel_rfl) (by kernel_rfl) (fun _ _ _ h => h) (Or.inl ⟨by kernel_rfl, ?h10_17x8⟩) (by kernel_rfl) ?p10_17x8 hS2 ?r10_17x8
  case h10_17x8 => (intro w hS; go_simp; try with_reducible rfl)
  case p10_17x8 => (go_simp; try with_reducible rfl)
  refine wpAnyH_done (by kernel_rfl) ?_ _
  clear hS2
  have hq := (HO.out _ D45.out).2
  go_wp2_with fail
  rw [rounds_succ]
  go_wp2_with fail
  rcases HQ.out with ⟨e9, hz⟩ | e9
  · have ZQ := Lib.hid (fun w => within_sp hz w)
    clear hz
    go_wp2_with fail
    clear hq
    refine wp_region_held (S := (fun w' => Below V2.heap.size V2 w' ∧ w'.cell? ⟨w.heap.size, 0, none⟩ = some (Value.float FloatKind.f64 A.lo) ∧ w'.cell? ⟨w.heap.size, 1, none⟩ = some (Value.float FloatKind.f64 A.hi) ∧ w'.cell? ⟨w.heap.size + 1, 0, none⟩ = some (Value.float FloatKind.f64 B.lo) ∧ w'.cell? ⟨w.heap.size + 1, 1, none⟩ = some (Value.float FloatKind.f64 B.hi) ∧ w'.cell? ⟨w.heap.size + 1 + 1, 0, none⟩ = some (Value.float FloatKind.f64 C.lo) ∧ w'.cell? ⟨w.heap.size + 1 + 1, 1, none⟩ = some (Value.float FloatKind.f64 C.hi) ∧ w'.cell? ⟨w.heap.size + 1 + 1 + 1, 0, none⟩ = some (Value.float FloatKind.f64 D.lo) ∧ w'.cell? ⟨w.heap.size + 1 + 1 + 1, 1, none⟩ = some (Value.float FloatKind.f64 D.hi) ∧ w'.cell? ⟨g1, 0, none⟩ = some (Value.float FloatKind.f64 x0.lo) ∧ w'.cell? ⟨g1, 1, none⟩ = some (Value.float FloatKind.f64 x0.hi) ∧ w'.cell? ⟨g1, 2, none⟩ = some (Value.float FloatKind.f64 x1.lo) ∧ w'.cell? ⟨g1, 3, none⟩ = some (Value.float FloatKind.f64 x1.hi) ∧ w'.cell? ⟨g1, 4, none⟩ = some (Value.float FloatKind.f64 x2.lo) ∧ w'.cell? ⟨g1, 5, none⟩ = some (Value.float FloatKind.f64 x2.hi) ∧ w'.cell? ⟨g1, 6, none⟩ = some (Value.float FloatKind.f64 x3.lo) ∧ w'.cell? ⟨g1, 7, none⟩ = some (Value.float FloatKind.f64 x3.hi) ∧ w'.cell? ⟨g1, 8, none⟩ = some (Value.float FloatKind.f64 x4.lo) ∧ w'.cell? ⟨g1, 9, none⟩ = some (Value.float FloatKind.f64 x4.hi) ∧ w'.cell? ⟨g1, 10, none⟩ = some (Value.float FloatKind.f64 x5.lo) ∧ w'.cell? ⟨g1, 11, none⟩ = some (Value.float FloatKind.f64 x5.hi) ∧ w'.cell? ⟨g1, 12, none⟩ = some (Value.float FloatKind.f64 x6.lo) ∧ w'.cell? ⟨g1, 13, none⟩ = some (Value.float FloatKind.f64 x6.hi) ∧ w'.cell? ⟨g1, 14, none⟩ = some (Value.float FloatKind.f64 x7.lo) ∧ w'.cell? ⟨g1, 15, none⟩ = some (Value.float FloatKind.f64 x7.hi) ∧ w'.cell? ⟨g1, 16, none⟩ = some (Value.float FloatKind.f64 x8.lo) ∧ w'.cell? ⟨g1, 17, none⟩ = some (Value.float FloatKind.f64 x8.hi) ∧ w'.cell? ⟨g2, 0, none⟩ = some (Value.float FloatKind.f64 y0.lo) ∧ w'.cell? ⟨g2, 1, none⟩ = some (Value.float FloatKind.f64 y0.hi) ∧ w'.cell? ⟨g2, 2, none⟩ = some (Value.float FloatKind.f64 y1.lo) ∧ w'.cell? ⟨g2, 3, none⟩ = some (Value.float FloatKind.f64 y1.hi) ∧ w'.cell? ⟨g2, 4, none⟩ = some (Value.float FloatKind.f64 y2.lo) ∧ w'.cell? ⟨g2, 5, none⟩ = some (Value.float FloatKind.f64 y2.hi) ∧ w'.cell? ⟨g2, 6, none⟩ = some (Value.float FloatKind.f64 y3.lo) ∧ w'.cell? ⟨g2, 7, none⟩ = some (Value.float FloatKind.f64 y3.hi) ∧ w'.cell? ⟨g2, 8, none⟩ = some (Value.float FloatKind.f64 y4.lo) ∧ w'.cell? ⟨g2, 9, none⟩ = some (Value.float FloatKind.f64 y4.hi) ∧ w'.cell? ⟨g2, 10, none⟩ = some (Value.float FloatKind.f64 y5.lo) ∧ w'.cell? ⟨g2, 11, none⟩ = some (Value.float FloatKind.f64 y5.hi) ∧ w'.cell? ⟨g2, 12, none⟩ = some (Value.float FloatKind.f64 y6.lo) ∧ w'.cell? ⟨g2, 13, none⟩ = some (Value.float FloatKind.f64 y6.hi) ∧ w'.cell? ⟨g2, 14, none⟩ = some (Value.float FloatKind.f64 y7.lo) ∧ w'.cell? ⟨g2, 15, none⟩ = some (Value.float FloatKind.f64 y7.hi) ∧ w'.cell? ⟨g2, 16, none⟩ = some (Value.float FloatKind.f64 y8.lo) ∧ w'.cell? ⟨g2, 17, none⟩ = some (Value.float FloatKind.f64 y8.hi))) (by kernel_rfl) ?_
    (try change wpAnyH _ _ _ _ _ _ _ (World.drew _))
    have hS0 := HO.out _ (Below.drew D45.out)
    refine wpAnyH_takeN (i := 0) (v := ?v12_0) (l' := bm 11 1) (a' := ?a12_0) rfl (by kernel_rfl) (by kernel_rfl) (by kernel_rfl) (fun _ _ _ h => h) (Or.inl ⟨by kernel_rfl, ?h12_0⟩) (by kernel_rfl) ?p12_0 hS0 ?r12_0
    case h12_0 => (intro w hS; go_simp; try with_reducible rfl)
    case p12_0 => (go_simp; try with_reducible rfl)
    refine wpAnyH_takeN (i := 1) (v := ?v12_1) (l' := bm 11 3) (a' := ?a12_1) rfl (by kernel_rfl) (by kernel_rfl) (by kernel_rfl) (fun _ _ _ h => h) (Or.inl ⟨by kernel_rfl, ?h12_1⟩) (by kernel_rfl) ?p12_1 hS0 ?r12_1
    case h12_1 => (intro w hS; go_simp; try with_reducible rfl)
    case p12_1 => (go_simp; try with_reducible rfl)
    refine wpAnyH_takeN (i := 2) (v := ?v12_2) (l' := bm 11 7) (a' := ?a12_2) rfl (by kernel_rfl) (by kernel_rfl) (by kernel_rfl) (fun _ _ _ h => h) (Or.inl ⟨by kernel_rfl, ?h12_2⟩) (by kernel_rfl) ?p12_2 hS0 ?r12_2
    case h12_2 => (intro w hS; go_simp; try with_reducible rfl)
    case p12_2 => (go_simp; try with_reducible rfl)
    refine wpAnyH_takeN (i := 3) (v := ?v12_3) (l' := bm 11 15) (a' := ?a12_3) rfl (by kernel_rfl) (by kernel_rfl) (by kernel_rfl) (fun _ _ _ h => h) (Or.inl ⟨by kernel_rfl, ?h12_3⟩) (by kernel_rfl) ?p12_3 hS0 ?r12_3
    case h12_3 => (intro w hS; go_simp; try with_reducible rfl)
    case p12_3 => (go_simp; try with_reducible rfl)
    refine wpAnyH_takeN (i := 4) (v := ?v12_4) (l' := bm 11 31) (a' := ?a12_4) rfl (by kernel_rfl) (by kernel_rfl) (by kernel_rfl) (fun _ _ _ h => h) (Or.inl ⟨by kernel_rfl, ?h12_4⟩) (by kernel_rfl) ?p12_4 hS0 ?r12_4
    case h12_4 => (intro w hS; go_simp; try with_reducible rfl)
    case p12_4 => (go_simp; try with_reducible rfl)
    refine wpAnyH_takeN (i := 6) (v := ?v12_6) (l' := bm 11 95) (a' := ?a12_6) rfl (by kernel_rfl) (by kernel_rfl) (by kernel_rfl) (fun _ _ _ h => h) (Or.inl ⟨by kernel_rfl, ?h12_6⟩) (by kernel_rfl) ?p12_6 hS0 ?r12_6
    case h12_6 => (intro w hS; go_simp; try with_reducible rfl)
    case p12_6 => (go_simp; try with_reducible rfl)
    refine wpAnyH_oneN (i := 5) (l' := bm 11 127) rfl (by kernel_rfl) (by kernel_rfl) (by kernel_rfl) (fun K hK => ?_)
    have hP := hS0.1
    go_simp
    go_at_call 54
    refine (XQ.out _).mono ?_
    rintro r w46 ⟨rfl, hb⟩
    dsimp only
    have D46 := Lib.hid (below_step hP hb)
    clear hb
    have hS1 := HO.out _ (D46.out)
    clear hP hS0
    refine hK _ _ hS1 ?_
    clear hK K
    refine wpAnyH_oneN (i := 7) (l' := bm 11 255) rfl (by kernel_rfl) (by kernel_rfl) (by kernel_rfl) (fun K hK => ?_)
    have hP := hS1.1
    go_simp
    go_at_call 54
    refine (YQ.out _).mono ?_
    rintro r w47 ⟨rfl, hb⟩
    dsimp only
    have D47 := Lib.hid (below_step hP hb)
    clear hb
    have hS2 := HO.out _ (D47.out)
    clear hP hS1
    refine hK _ _ hS2 ?_
    clear hK K
    refine wpAnyH_oneN (i := 8) (l' := bm 11 511) rfl (by kernel_rfl) (by kernel_rfl) (by kernel_rfl) (fun K hK => ?_)
    have hP := hS2.1
    go_simp
    go_at_call 67
    refine (ZQ.out _).mono ?_
    rintro r w48 ⟨rfl, hb⟩
    dsimp only
    have D48 := Lib.hid (below_step hP hb)
    clear hb
    have hS3 := HO.out _ (D48.out)
    clear hP hS2
    refine hK _ _ hS3 ?_
    clear hK K
    refine wpAnyH_takeN (i := 9) (v := ?v12_9) (l' := bm 11 1023) (a' := ?a12_9) rfl (by kernel_rfl) (by kernel_rfl) (by kernel_rfl) (fun _ _ _ h => h) (Or.inl ⟨by kernel_rfl, ?h12_9⟩) (by kernel_rfl) ?p12_9 hS3 ?r12_9
    case h12_9 => (intro w hS; go_simp; try with_reducible rfl)
    case p12_9 => (go_simp; try with_reducible rfl)
    refine wpAnyH_takeN (i := 10) (v := ?v12_10) (l' := bm 11 2047) (a' := ?a12_10) rfl (by kernel_rfl) (by kernel_rfl) (by kernel_rfl) (fun _ _ _ h => h) (Or.inl ⟨by kernel_rfl, ?h12_10⟩) (by kernel_rfl) ?p12_10 hS3 ?r12_10
    case h12_10 => (intro w hS; go_simp; try with_reducible rfl)
    case p12_10 => (go_simp; try with_reducible rfl)
    refine wpAnyH_done (by kernel_rfl) ?_ _
    clear hS3
    have hq := (HO.out _ D48.out).2
    rcases HF.out with ⟨fn, f1, f2⟩ | ⟨fm, fk, f1, f2⟩
    · have S3 := Lib.hid (fun w => stays_sp 1 1 (Or.inr rfl) w)
      have F1 := Lib.hid f1
      have F2 := Lib.hid f2
      clear f1 f2
      go_wp2_with fail
      refine (F1.out _).mono ?_
      clear hq
      rintro r w49 ⟨rfl, hb⟩
      have D49 := Lib.hid (below_step D48.out hb)
      clear hb
      have hq := (HO.out _ D49.out).2
      go_wp2_with fail
      refine (F2.out _).mono ?_
      clear hq
      rintro r w50 ⟨rfl, hb⟩
      have D50 := Lib.hid (below_step D49.out hb)
      clear hb
      have hq := (HO.out _ D50.out).2
      go_wp2_with fail
      clear hq
      refine wp_region_held (S := (fun w' => Below V2.heap.size V2 w' ∧ w'.cell? ⟨w.heap.size, 0, none⟩ = some (Value.float FloatKind.f64 A.lo) ∧ w'.cell? ⟨w.heap.size, 1, none⟩ = some (Value.float FloatKind.f64 A.hi) ∧ w'.cell? ⟨w.heap.size + 1, 0, none⟩ = some (Value.float FloatKind.f64 B.lo) ∧ w'.cell? ⟨w.heap.size + 1, 1, none⟩ = some (Value.float FloatKind.f64 B.hi) ∧ w'.cell? ⟨w.heap.size + 1 + 1, 0, none⟩ = some (Value.float FloatKind.f64 C.lo) ∧ w'.cell? ⟨w.heap.size + 1 + 1, 1, none⟩ = some (Value.float FloatKind.f64 C.hi) ∧ w'.cell? ⟨w.heap.size + 1 + 1 + 1, 0, none⟩ = some (Value.float FloatKind.f64 D.lo) ∧ w'.cell? ⟨w.heap.size + 1 + 1 + 1, 1, none⟩ = some (Value.float FloatKind.f64 D.hi) ∧ w'.cell? ⟨g1, 0, none⟩ = some (Value.float FloatKind.f64 x0.lo) ∧ w'.cell? ⟨g1, 1, none⟩ = some (Value.float FloatKind.f64 x0.hi) ∧ w'.cell? ⟨g1, 2, none⟩ = some (Value.float FloatKind.f64 x1.lo) ∧ w'.cell? ⟨g1, 3, none⟩ = some (Value.float FloatKind.f64 x1.hi) ∧ w'.cell? ⟨g1, 4, none⟩ = some (Value.float FloatKind.f64 x2.lo) ∧ w'.cell? ⟨g1, 5, none⟩ = some (Value.float FloatKind.f64 x2.hi) ∧ w'.cell? ⟨g1, 6, none⟩ = some (Value.float FloatKind.f64 x3.lo) ∧ w'.cell? ⟨g1, 7, none⟩ = some (Value.float FloatKind.f64 x3.hi) ∧ w'.cell? ⟨g1, 8, none⟩ = some (Value.float FloatKind.f64 x4.lo) ∧ w'.cell? ⟨g1, 9, none⟩ = some (Value.float FloatKind.f64 x4.hi) ∧ w'.cell? ⟨g1, 10, none⟩ = some (Value.float FloatKind.f64 x5.lo) ∧ w'.cell? ⟨g1, 11, none⟩ = some (Value.float FloatKind.f64 x5.hi) ∧ w'.cell? ⟨g1, 12, none⟩ = some (Value.float FloatKind.f64 x6.lo) ∧ w'.cell? ⟨g1, 13, none⟩ = some (Value.float FloatKind.f64 x6.hi) ∧ w'.cell? ⟨g1, 14, none⟩ = some (Value.float FloatKind.f64 x7.lo) ∧ w'.cell? ⟨g1, 15, none⟩ = some (Value.float FloatKind.f64 x7.hi) ∧ w'.cell? ⟨g1, 16, none⟩ = some (Value.float FloatKind.f64 x8.lo) ∧ w'.cell? ⟨g1, 17, none⟩ = some (Value.float FloatKind.f64 x8.hi) ∧ w'.cell? ⟨g2, 0, none⟩ = some (Value.float FloatKind.f64 y0.lo) ∧ w'.cell? ⟨g2, 1, none⟩ = some (Value.float FloatKind.f64 y0.hi) ∧ w'.cell? ⟨g2, 2, none⟩ = some (Value.float FloatKind.f64 y1.lo) ∧ w'.cell? ⟨g2, 3, none⟩ = some (Value.float FloatKind.f64 y1.hi) ∧ w'.cell? ⟨g2, 4, none⟩ = some (Value.float FloatKind.f64 y2.lo) ∧ w'.cell? ⟨g2, 5, none⟩ = some (Value.float FloatKind.f64 y2.hi) ∧ w'.cell? ⟨g2, 6, none⟩ = some (Value.float FloatKind.f64 y3.lo) ∧ w'.cell? ⟨g2, 7, none⟩ = some (Value.float FloatKind.f64 y3.hi) ∧ w'.cell? ⟨g2, 8, none⟩ = some (Value.float FloatKind.f64 y4.lo) ∧ w'.cell? ⟨g2, 9, none⟩ = some (Value.float FloatKind.f64 y4.hi) ∧ w'.cell? ⟨g2, 10, none⟩ = some (Value.float FloatKind.f64 y5.lo) ∧ w'.cell? ⟨g2, 11, none⟩ = some (Value.float FloatKind.f64 y5.hi) ∧ w'.cell? ⟨g2, 12, none⟩ = some (Value.float FloatKind.f64 y6.lo) ∧ w'.cell? ⟨g2, 13, none⟩ = some (Value.float FloatKind.f64 y6.hi) ∧ w'.cell? ⟨g2, 14, none⟩ = some (Value.float FloatKind.f64 y7.lo) ∧ w'.cell? ⟨g2, 15, none⟩ = some (Value.float FloatKind.f64 y7.hi) ∧ w'.cell? ⟨g2, 16, none⟩ = some (Value.float FloatKind.f64 y8.lo) ∧ w'.cell? ⟨g2, 17, none⟩ = some (Value.float FloatKind.f64 y8.hi))) (by kernel_rfl) ?_
      (try change wpAnyH _ _ _ _ _ _ _ (World.drew _))
      have hS0 := HO.out _ (Below.drew D50.out)
      refine wpAnyH_takeN (i := 0) (v := ?v16_0) (l' := bm 29 1) (a' := ?a16_0) rfl (by kernel_rfl) (by kernel_rfl) (by kernel_rfl) (fun _ _ _ h => h) (Or.inl ⟨by kernel_rfl, ?h16_0⟩) (by kernel_rfl) ?p16_0 hS0 ?r16_0
      case h16_0 => (intro w hS; go_simp; try with_reducible rfl)
      case p16_0 => (go_simp; try with_reducible rfl)
      refine wpAnyH_takeN (i := 2) (v := ?v16_2) (l' := bm 29 5) (a' := ?a16_2) rfl (by kernel_rfl) (by kernel_rfl) (by kernel_rfl) (fun _ _ _ h => h) (Or.inl ⟨by kernel_rfl, ?h16_2⟩) (by kernel_rfl) ?p16_2 hS0 ?r16_2
      case h16_2 => (intro w hS; go_simp; try with_reducible rfl)
      case p16_2 => (go_simp; try with_reducible rfl)
      refine wpAnyH_oneN (i := 1) (l' := bm 29 7) rfl (by kernel_rfl) (by kernel_rfl) (by kernel_rfl) (fun K hK => ?_)
      have hP := hS0.1
      go_simp
      go_at_call 30
      refine (P1.out _).mono ?_
      rintro r w51 ⟨rfl, hb⟩
      dsimp only
      have D51 := Lib.hid (below_step hP hb)
      clear hb
      have hS1 := HO.out _ (D51.out)
      clear hP hS0
      refine hK _ _ hS1 ?_
      clear hK K
      refine wpAnyH_oneN (i := 3) (l' := bm 29 15) rfl (by kernel_rfl) (by kernel_rfl) (by kernel_rfl) (fun K hK => ?_)
      have hP := hS1.1
      go_simp
      go_at_call 30
      refine (P2.out _).mono ?_
      rintro r w52 ⟨rfl, hb⟩
      dsimp only
      have D52 := Lib.hid (below_step hP hb)
      clear hb
      have hS2 := HO.out _ (D52.out)
      clear hP hS1
      refine hK _ _ hS2 ?_
      clear hK K
      refine wpAnyH_oneN (i := 4) (l' := bm 29 31) rfl (by kernel_rfl) (by kernel_rfl) (by kernel_rfl) (fun K hK => ?_)
      have hP := hS2.1
      go_simp
      go_at_call 68
      refine (S1.out _).mono ?_
      rintro r w53 ⟨rfl, hb⟩
      dsimp only
      have D53 := Lib.hid (below_step hP hb)
      clear hb
      have hS3 := HO.out _ (D53.out)
      clear hP hS2
      refine hK _ _ hS3 ?_
      clear hK K
      refine wpAnyH_takeN (i := 5) (v := ?v16_5) (l' := bm 29 63) (a' := ?a16_5) rfl (by kernel_rfl) (by kernel_rfl) (by kernel_rfl) (fun _ _ _ h => h) (Or.inl ⟨by kernel_rfl, ?h16_5⟩) (by kernel_rfl) ?p16_5 hS3 ?r16_5
      case h16_5 => (intro w hS; go_simp; try with_reducible rfl)
      case p16_5 => (go_simp; try with_reducible rfl)
      refine wpAnyH_takeN (i := 6) (v := ?v16_6) (l' := bm 29 127) (a' := ?a16_6) rfl (by kernel_rfl) (by kernel_rfl) (by kernel_rfl) (fun _ _ _ h => h) (Or.inl ⟨by kernel_rfl, ?h16_6⟩) (by kernel_rfl) ?p16_6 hS3 ?r16_6
      case h16_6 => (intro w hS; go_simp; try with_reducible rfl)
      case p16_6 => (go_simp; try with_reducible rfl)
      refine wpAnyH_takeN (i := 7) (v := ?v16_7) (l' := bm 29 255) (a' := ?a16_7) rfl (by kernel_rfl) (by kernel_rfl) (by kernel_rfl) (fun _ _ _ h => h) (Or.inl ⟨by kernel_rfl, ?h16_7⟩) (by kernel_rfl) ?p16_7 hS3 ?r16_7
      case h16_7 => (intro w hS; go_simp; try with_reducible rfl)
      case p16_7 => (go_simp; try with_reducible rfl)
      refine wpAnyH_takeN (i := 9) (v := ?v16_9) (l' := bm 29 767) (a' := ?a16_9) rfl (by kernel_rfl) (by kernel_rfl) (by kernel_rfl) (fun _ _ _ h => h) (Or.inl ⟨by kernel_rfl, ?h16_9⟩) (by kernel_rfl) ?p16_9 hS3 ?r16_9
      case h16_9 => (intro w hS; go_simp; try with_reducible rfl)
      case p16_9 => (go_simp; try with_reducible rfl)
      refine wpAnyH_takeN (i := 10) (v := ?v16_10) (l' := bm 29 1791) (a' := ?a16_10) rfl (by kernel_rfl) (by kernel_rfl) (by kernel_rfl) (fun _ _ _ h => h) (Or.inl ⟨by kernel_rfl, ?h16_10⟩) (by kernel_rfl) ?p16_10 hS3 ?r16_10
      case h16_10 => (intro w hS; go_simp; try with_reducible rfl)
      case p16_10 => (go_simp; try with_reducible rfl)
      refine wpAnyH_oneN (i := 8) (l' := bm 29 2047) rfl (by kernel_rfl) (by kernel_rfl) (by kernel_rfl) (fun K hK => ?_)
      have hP := hS3.1
      go_simp
      go_at_call 31
      refine (L1.out _).mono ?_
      rintro r w54 ⟨rfl, hb⟩
      dsimp only
      have D54 := Lib.hid (below_step hP hb)
      clear hb
      have hS4 := HO.out _ (D54.out)
      clear hP hS3
      refine hK _ _ hS4 ?_
      clear hK K
      refine wpAnyH_oneN (i := 11) (l' := bm 29 4095) rfl (by kernel_rfl) (by kernel_rfl) (by kernel_rfl) (fun K hK => ?_)
      have hP := hS4.1
      go_simp
      go_at_call 31
      refine (L2.out _).mono ?_
      rintro r w55 ⟨rfl, hb⟩
      dsimp only
      have D55 := Lib.hid (below_step hP hb)
      clear hb
      have hS5 := HO.out _ (D55.out)
      clear hP hS4
      refine hK _ _ hS5 ?_
      clear hK K
      refine wpAnyH_oneN (i := 12) (l' := bm 29 8191) rfl (by kernel_rfl) (by kernel_rfl) (by kernel_rfl) (fun K hK => ?_)
      have hP := hS5.1
      go_simp
      go_at_call 68
      refine (S2.out _).mono ?_
      rintro r w56 ⟨rfl, hb⟩
      dsimp only
      have D56 := Lib.hid (below_step hP hb)
      clear hb
      have hS6 := HO.out _ (D56.out)
      clear hP hS5
      refine hK _ _ hS6 ?_
      clear hK K
      refine wpAnyH_takeN (i := 13) (v := ?v16_13) (l' := bm 29 16383) (a' := ?a16_13) rfl (by kernel_rfl) (by kernel_rfl) (by kernel_rfl) (fun _ _ _ h => h) (Or.inl ⟨by kernel_rfl, ?h16_13⟩) (by kernel_rfl) ?p16_13 hS6 ?r16_13
      case h16_13 => (intro w hS; go_simp; try with_reducible rfl)
      case p16_13 => (go_simp; try with_reducible rfl)
      refine wpAnyH_takeN (i := 14) (v := ?v16_14) (l' := bm 29 32767) (a' := ?a16_14) rfl (by kernel_rfl) (by kernel_rfl) (by kernel_rfl) (fun _ _ _ h => h) (Or.inl ⟨by kernel_rfl, ?h16_14⟩) (by kernel_rfl) ?p16_14 hS6 ?r16_14
      case h16_14 => (intro w hS; go_simp; try with_reducible rfl)
      case p16_14 => (go_simp; try with_reducible rfl)
      refine wpAnyH_takeN (i := 15) (v := ?v16_15) (l' := bm 29 65535) (a' := ?a16_15) rfl (by kernel_rfl) (by kernel_rfl) (by kernel_rfl) (fun _ _ _ h => h) (Or.inl ⟨by kernel_rfl, ?h16_15⟩) (by kernel_rfl) ?p16_15 hS6 ?r16_15
      case h16_15 => (intro w hS; go_simp; try with_reducible rfl)
      case p16_15 => (go_simp; try with_reducible rfl)
      refine wpAnyH_takeN (i := 16) (v := ?v16_16) (l' := bm 29 131071) (a' := ?a16_16) rfl (by kernel_rfl) (by kernel_rfl) (by kernel_rfl) (fun _ _ _ h => h) (Or.inl ⟨by kernel_rfl, ?h16_16⟩) (by kernel_rfl) ?p16_16 hS6 ?r16_16
      case h16_16 => (intro w hS; go_simp; try with_reducible rfl)
      case p16_16 => (go_simp; try with_reducible rfl)
      refine wpAnyH_oneN (i := 17) (l' := bm 29 262143) rfl (by kernel_rfl) (by kernel_rfl) (by kernel_rfl) (fun K hK => ?_)
      have hP := hS6.1
      go_simp
      go_at_call 68
      refine (S3.out _).mono ?_
      rintro r w57 ⟨rfl, hb⟩
      dsimp only
      have D57 := Lib.hid (below_step hP hb)
      clear hb
      have hS7 := HO.out _ (D57.out)
      clear hP hS6
      refine hK _ _ hS7 ?_
      clear hK K
      refine wpAnyH_takeN (i := 18) (v := ?v16_18) (l' := bm 29 524287) (a' := ?a16_18) rfl (by kernel_rfl) (by kernel_rfl) (by kernel_rfl) (fun _ _ _ h => h) (Or.inl ⟨by kernel_rfl, ?h16_18⟩) (by kernel_rfl) ?p16_18 hS7 ?r16_18
      case h16_18 => (intro w hS; go_simp; try with_reducible rfl)
      case p16_18 => (go_simp; try with_reducible rfl)
      refine wpAnyH_takeN (i := 19) (v := ?v16_19) (l' := bm 29 1048575) (a' := ?a16_19) rfl (by kernel_rfl) (by kernel_rfl) (by kernel_rfl) (fun _ _ _ h => h) (Or.inl ⟨by kernel_rfl, ?h16_19⟩) (by kernel_rfl) ?p16_19 hS7 ?r16_19
      case h16_19 => (intro w hS; go_simp; try with_reducible rfl)
      case p16_19 => (go_simp; try with_reducible rfl)
      refine wpAnyH_takeN (i := 20) (v := ?v16_20) (l' := bm 29 2097151) (a' := ?a16_20) rfl (by kernel_rfl) (by kernel_rfl) (by kernel_rfl) (fun _ _ _ h => h) (Or.inl ⟨by kernel_rfl, ?h16_20⟩) (by kernel_rfl) ?p16_20 hS7 ?r16_20
      case h16_20 => (intro w hS; go_simp; try with_reducible rfl)
      case p16_20 => (go_simp; try with_reducible rfl)
      refine wpAnyH_takeN (i := 21) (v := ?v16_21) (l' := bm 29 4194303) (a' := ?a16_21) rfl (by kernel_rfl) (by kernel_rfl) (by kernel_rfl) (fun _ _ _ h => h) (Or.inl ⟨by kernel_rfl, ?h16_21⟩) (by kernel_rfl) ?p16_21 hS7 ?r16_21
      case h16_21 => (intro w hS; go_simp; try with_reducible rfl)
      case p16_21 => (go_simp; try with_reducible rfl)
      refine wpAnyH_takeN (i := 22) (v := ?v16_22) (l' := bm 29 8388607) (a' := ?a16_22) rfl (by kernel_rfl) (by kernel_rfl) (by kernel_rfl) (fun _ _ _ h => h) (Or.inl ⟨by kernel_rfl, ?h16_22⟩) (by kernel_rfl) ?p16_22 hS7 ?r16_22
      case h16_22 => (intro w hS; go_simp; try with_reducible rfl)
      case p16_22 => (go_simp; try with_reducible rfl)
      refine wpAnyH_takeN (i := 23) (v := ?v16_23) (l' := bm 29 16777215) (a' := ?a16_23) rfl (by kernel_rfl) (by kernel_rfl) (by kernel_rfl) (fun _ _ _ h => h) (Or.inl ⟨by kernel_rfl, ?h16_23⟩) (by kernel_rfl) ?p16_23 hS7 ?r16_23
      case h16_23 => (intro w hS; go_simp; try with_reducible rfl)
      case p16_23 => (go_simp; try with_reducible rfl)
      refine wpAnyH_takeN (i := 24) (v := ?v16_24) (l' := bm 29 33554431) (a' := ?a16_24) rfl (by kernel_rfl) (by kernel_rfl) (by kernel_rfl) (fun _ _ _ h => h) (Or.inl ⟨by kernel_rfl, ?h16_24⟩) (by kernel_rfl) ?p16_24 hS7 ?r16_24
      case h16_24 => (intro w hS; go_simp; try with_reducible rfl)
      case p16_24 => (go_simp; try with_reducible rfl)
      refine wpAnyH_takeN (i := 25) (v := ?v16_25) (l' := bm 29 67108863) (a' := ?a16_25) rfl (by kernel_rfl) (by kernel_rfl) (by kernel_rfl) (fun _ _ _ h => h) (Or.inl ⟨by kernel_rfl, ?h16_25⟩) (by kernel_rfl) ?p16_25 hS7 ?r16_25
      case h16_25 => (intro w hS; go_simp; try with_reducible rfl)
      case p16_25 => (go_simp; try with_reducible rfl)
      refine wpAnyH_takeN (i := 26) (v := ?v16_26) (l' := bm 29 134217727) (a' := ?a16_26) rfl (by kernel_rfl) (by kernel_rfl) (by kernel_rfl) (fun _ _ _ h => h) (Or.inl ⟨by kernel_rfl, ?h16_26⟩) (by kernel_rfl) ?p16_26 hS7 ?r16_26
      case h16_26 => (intro w hS; go_simp; try with_reducible rfl)
      case p16_26 => (go_simp; try with_reducible rfl)
      refine wpAnyH_takeN (i := 27) (v := ?v16_27) (l' := bm 29 268435455) (a' := ?a16_27) rfl (by kernel_rfl) (by kernel_rfl) (by kernel_rfl) (fun _ _ _ h => h) (Or.inl ⟨by kernel_rfl, ?h16_27⟩) (by kernel_rfl) ?p16_27 hS7 ?r16_27
      case h16_27 => (intro w hS; go_simp; try with_reducible rfl)
      case p16_27 => (go_simp; try with_reducible rfl)
      refine wpAnyH_takeN (i := 28) (v := ?v16_28) (l' := bm 29 536870911) (a' := ?a16_28) rfl (by kernel_rfl) (by kernel_rfl) (by kernel_rfl) (fun _ _ _ h => h) (Or.inl ⟨by kernel_rfl, ?h16_28⟩) (by kernel_rfl) ?p16_28 hS7 ?r16_28
      case h16_28 => (intro w hS; go_simp; try with_reducible rfl)
      case p16_28 => (go_simp; try with_reducible rfl)
      refine wpAnyH_done (by kernel_rfl) ?_ _
      clear hS7
      have hq := (HO.out _ D57.out).2
      go_wp2_with fail
      go_ret
      exact ⟨ret_bool (by simp), below_step HB.out D57.out⟩
    · have S3 := Lib.hid (fun w => stays_sp 2 fk (Or.inl rfl) w)
      have F1 := Lib.hid f1
      have F2 := Lib.hid f2
      clear f1 f2
      go_wp2_with fail
      refine (F1.out _).mono ?_
      clear hq
      rintro r w49 ⟨rfl, hb⟩
      have D49 := Lib.hid (below_step D48.out hb)
      clear hb
      have hq := (HO.out _ D49.out).2
      go_wp2_with fail
      refine (F2.out _).mono ?_
      clear hq
      rintro r w50 ⟨rfl, hb⟩
      have D50 := Lib.hid (below_step D49.out hb)
      clear hb
      have hq := (HO.out _ D50.out).2
      go_wp2_with fail
      clear hq
      refine wp_region_held (S := (fun w' => Below V2.heap.size V2 w' ∧ w'.cell? ⟨w.heap.size, 0, none⟩ = some (Value.float FloatKind.f64 A.lo) ∧ w'.cell? ⟨w.heap.size, 1, none⟩ = some (Value.float FloatKind.f64 A.hi) ∧ w'.cell? ⟨w.heap.size + 1, 0, none⟩ = some (Value.float FloatKind.f64 B.lo) ∧ w'.cell? ⟨w.heap.size + 1, 1, none⟩ = some (Value.float FloatKind.f64 B.hi) ∧ w'.cell? ⟨w.heap.size + 1 + 1, 0, none⟩ = some (Value.float FloatKind.f64 C.lo) ∧ w'.cell? ⟨w.heap.size + 1 + 1, 1, none⟩ = some (Value.float FloatKind.f64 C.hi) ∧ w'.cell? ⟨w.heap.size + 1 + 1 + 1, 0, none⟩ = some (Value.float FloatKind.f64 D.lo) ∧ w'.cell? ⟨w.heap.size + 1 + 1 + 1, 1, none⟩ = some (Value.float FloatKind.f64 D.hi) ∧ w'.cell? ⟨g1, 0, none⟩ = some (Value.float FloatKind.f64 x0.lo) ∧ w'.cell? ⟨g1, 1, none⟩ = some (Value.float FloatKind.f64 x0.hi) ∧ w'.cell? ⟨g1, 2, none⟩ = some (Value.float FloatKind.f64 x1.lo) ∧ w'.cell? ⟨g1, 3, none⟩ = some (Value.float FloatKind.f64 x1.hi) ∧ w'.cell? ⟨g1, 4, none⟩ = some (Value.float FloatKind.f64 x2.lo) ∧ w'.cell? ⟨g1, 5, none⟩ = some (Value.float FloatKind.f64 x2.hi) ∧ w'.cell? ⟨g1, 6, none⟩ = some (Value.float FloatKind.f64 x3.lo) ∧ w'.cell? ⟨g1, 7, none⟩ = some (Value.float FloatKind.f64 x3.hi) ∧ w'.cell? ⟨g1, 8, none⟩ = some (Value.float FloatKind.f64 x4.lo) ∧ w'.cell? ⟨g1, 9, none⟩ = some (Value.float FloatKind.f64 x4.hi) ∧ w'.cell? ⟨g1, 10, none⟩ = some (Value.float FloatKind.f64 x5.lo) ∧ w'.cell? ⟨g1, 11, none⟩ = some (Value.float FloatKind.f64 x5.hi) ∧ w'.cell? ⟨g1, 12, none⟩ = some (Value.float FloatKind.f64 x6.lo) ∧ w'.cell? ⟨g1, 13, none⟩ = some (Value.float FloatKind.f64 x6.hi) ∧ w'.cell? ⟨g1, 14, none⟩ = some (Value.float FloatKind.f64 x7.lo) ∧ w'.cell? ⟨g1, 15, none⟩ = some (Value.float FloatKind.f64 x7.hi) ∧ w'.cell? ⟨g1, 16, none⟩ = some (Value.float FloatKind.f64 x8.lo) ∧ w'.cell? ⟨g1, 17, none⟩ = some (Value.float FloatKind.f64 x8.hi) ∧ w'.cell? ⟨g2, 0, none⟩ = some (Value.float FloatKind.f64 y0.lo) ∧ w'.cell? ⟨g2, 1, none⟩ = some (Value.float FloatKind.f64 y0.hi) ∧ w'.cell? ⟨g2, 2, none⟩ = some (Value.float FloatKind.f64 y1.lo) ∧ w'.cell? ⟨g2, 3, none⟩ = some (Value.float FloatKind.f64 y1.hi) ∧ w'.cell? ⟨g2, 4, none⟩ = some (Value.float FloatKind.f64 y2.lo) ∧ w'.cell? ⟨g2, 5, none⟩ = some (Value.float FloatKind.f64 y2.hi) ∧ w'.cell? ⟨g2, 6, none⟩ = some (Value.float FloatKind.f64 y3.lo) ∧ w'.cell? ⟨g2, 7, none⟩ = some (Value.float FloatKind.f64 y3.hi) ∧ w'.cell? ⟨g2, 8, none⟩ = some (Value.float FloatKind.f64 y4.lo) ∧ w'.cell? ⟨g2, 9, none⟩ = some (Value.float FloatKind.f64 y4.hi) ∧ w'.cell? ⟨g2, 10, none⟩ = some (Value.float FloatKind.f64 y5.lo) ∧ w'.cell? ⟨g2, 11, none⟩ = some (Value.float FloatKind.f64 y5.hi) ∧ w'.cell? ⟨g2, 12, none⟩ = some (Value.float FloatKind.f64 y6.lo) ∧ w'.cell? ⟨g2, 13, none⟩ = some (Value.float FloatKind.f64 y6.hi) ∧ w'.cell? ⟨g2, 14, none⟩ = some (Value.float FloatKind.f64 y7.lo) ∧ w'.cell? ⟨g2, 15, none⟩ = some (Value.float FloatKind.f64 y7.hi) ∧ w'.cell? ⟨g2, 16, none⟩ = some (Value.float FloatKind.f64 y8.lo) ∧ w'.cell? ⟨g2, 17, none⟩ = some (Value.float FloatKind.f64 y8.hi))) (by kernel_rfl) ?_
      (try change wpAnyH _ _ _ _ _ _ _ (World.drew _))
      have hS0 := HO.out _ (Below.drew D50.out)
      refine wpAnyH_takeN (i := 0) (v := ?v16_0x1) (l' := bm 29 1) (a' := ?a16_0x1) rfl (by kernel_rfl) (by kernel_rfl) (by kernel_rfl) (fun _ _ _ h => h) (Or.inl ⟨by kernel_rfl, ?h16_0x1⟩) (by kernel_rfl) ?p16_0x1 hS0 ?r16_0x1
      case h16_0x1 => (intro w hS; go_simp; try with_reducible rfl)
      case p16_0x1 => (go_simp; try with_reducible rfl)
      refine wpAnyH_takeN (i := 2) (v := ?v16_2x1) (l' := bm 29 5) (a' := ?a16_2x1) rfl (by kernel_rfl) (by kernel_rfl) (by kernel_rfl) (fun _ _ _ h => h) (Or.inl ⟨by kernel_rfl, ?h16_2x1⟩) (by kernel_rfl) ?p16_2x1 hS0 ?r16_2x1
      case h16_2x1 => (intro w hS; go_simp; try with_reducible rfl)
      case p16_2x1 => (go_simp; try with_reducible rfl)
      refine wpAnyH_oneN (i := 1) (l' := bm 29 7) rfl (by kernel_rfl) (by kernel_rfl) (by kernel_rfl) (fun K hK => ?_)
      have hP := hS0.1
      go_simp
      go_at_call 30
      refine (P1.out _).mono ?_
      rintro r w51 ⟨rfl, hb⟩
      dsimp only
      have D51 := Lib.hid (below_step hP hb)
      clear hb
      have hS1 := HO.out _ (D51.out)
      clear hP hS0
      refine hK _ _ hS1 ?_
      clear hK K
      refine wpAnyH_oneN (i := 3) (l' := bm 29 15) rfl (by kernel_rfl) (by kernel_rfl) (by kernel_rfl) (fun K hK => ?_)
      have hP := hS1.1
      go_simp
      go_at_call 30
      refine (P2.out _).mono ?_
      rintro r w52 ⟨rfl, hb⟩
      dsimp only
      have D52 := Lib.hid (below_step hP hb)
      clear hb
      have hS2 := HO.out _ (D52.out)
      clear hP hS1
      refine hK _ _ hS2 ?_
      clear hK K
      refine wpAnyH_oneN (i := 4) (l' := bm 29 31) rfl (by kernel_rfl) (by kernel_rfl) (by kernel_rfl) (fun K hK => ?_)
      have hP := hS2.1
      go_simp
      go_at_call 68
      refine (S1.out _).mono ?_
      rintro r w53 ⟨rfl, hb⟩
      dsimp only
      have D53 := Lib.hid (below_step hP hb)
      clear hb
      have hS3 := HO.out _ (D53.out)
      clear hP hS2
      refine hK _ _ hS3 ?_
      clear hK K
      refine wpAnyH_takeN (i := 5) (v := ?v16_5x1) (l' := bm 29 63) (a' := ?a16_5x1) rfl (by kernel_rfl) (by kernel_rfl) (by kernel_rfl) (fun _ _ _ h => h) (Or.inl ⟨by kernel_rfl, ?h16_5x1⟩) (by kernel_rfl) ?p16_5x1 hS3 ?r16_5x1
      case h16_5x1 => (intro w hS; go_simp; try with_reducible rfl)
      case p16_5x1 => (go_simp; try with_reducible rfl)
      refine wpAnyH_takeN (i := 6) (v := ?v16_6x1) (l' := bm 29 127) (a' := ?a16_6x1) rfl (by kernel_rfl) (by kernel_rfl) (by kernel_rfl) (fun _ _ _ h => h) (Or.inl ⟨by kernel_rfl, ?h16_6x1⟩) (by kernel_rfl) ?p16_6x1 hS3 ?r16_6x1
      case h16_6x1 => (intro w hS; go_simp; try with_reducible rfl)
      case p16_6x1 => (go_simp; try with_reducible rfl)
      refine wpAnyH_takeN (i := 7) (v := ?v16_7x1) (l' := bm 29 255) (a' := ?a16_7x1) rfl (by kernel_rfl) (by kernel_rfl) (by kernel_rfl) (fun _ _ _ h => h) (Or.inl ⟨by kernel_rfl, ?h16_7x1⟩) (by kernel_rfl) ?p16_7x1 hS3 ?r16_7x1
      case h16_7x1 => (intro w hS; go_simp; try with_reducible rfl)
      case p16_7x1 => (go_simp; try with_reducible rfl)
      refine wpAnyH_takeN (i := 9) (v := ?v16_9x1) (l' := bm 29 767) (a' := ?a16_9x1) rfl (by kernel_rfl) (by kernel_rfl) (by kernel_rfl) (fun _ _ _ h => h) (Or.inl ⟨by kernel_rfl, ?h16_9x1⟩) (by kernel_rfl) ?p16_9x1 hS3 ?r16_9x1
      case h16_9x1 => (intro w hS; go_simp; try with_reducible rfl)
      case p16_9x1 => (go_simp; try with_reducible rfl)
      refine wpAnyH_takeN (i := 10) (v := ?v16_10x1) (l' := bm 29 1791) (a' := ?a16_10x1) rfl (by kernel_rfl) (by kernel_rfl) (by kernel_rfl) (fun _ _ _ h => h) (Or.inl ⟨by kernel_rfl, ?h16_10x1⟩) (by kernel_rfl) ?p16_10x1 hS3 ?r16_10x1
      case h16_10x1 => (intro w hS; go_simp; try with_reducible rfl)
      case p16_10x1 => (go_simp; try with_reducible rfl)
      refine wpAnyH_oneN (i := 8) (l' := bm 29 2047) rfl (by kernel_rfl) (by kernel_rfl) (by kernel_rfl) (fun K hK => ?_)
      have hP := hS3.1
      go_simp
      go_at_call 31
      refine (L1.out _).mono ?_
      rintro r w54 ⟨rfl, hb⟩
      dsimp only
      have D54 := Lib.hid (below_step hP hb)
      clear hb
      have hS4 := HO.out _ (D54.out)
      clear hP hS3
      refine hK _ _ hS4 ?_
      clear hK K
      refine wpAnyH_oneN (i := 11) (l' := bm 29 4095) rfl (by kernel_rfl) (by kernel_rfl) (by kernel_rfl) (fun K hK => ?_)
      have hP := hS4.1
      go_simp
      go_at_call 31
      refine (L2.out _).mono ?_
      rintro r w55 ⟨rfl, hb⟩
      dsimp only
      have D55 := Lib.hid (below_step hP hb)
      clear hb
      have hS5 := HO.out _ (D55.out)
      clear hP hS4
      refine hK _ _ hS5 ?_
      clear hK K
      refine wpAnyH_oneN (i := 12) (l' := bm 29 8191) rfl (by kernel_rfl) (by kernel_rfl) (by kernel_rfl) (fun K hK => ?_)
      have hP := hS5.1
      go_simp
      go_at_call 68
      refine (S2.out _).mono ?_
      rintro r w56 ⟨rfl, hb⟩
      dsimp only
      have D56 := Lib.hid (below_step hP hb)
      clear hb
      have hS6 := HO.out _ (D56.out)
      clear hP hS5
      refine hK _ _ hS6 ?_
      clear hK K
      refine wpAnyH_takeN (i := 13) (v := ?v16_13x1) (l' := bm 29 16383) (a' := ?a16_13x1) rfl (by kernel_rfl) (by kernel_rfl) (by kernel_rfl) (fun _ _ _ h => h) (Or.inl ⟨by kernel_rfl, ?h16_13x1⟩) (by kernel_rfl) ?p16_13x1 hS6 ?r16_13x1
      case h16_13x1 => (intro w hS; go_simp; try with_reducible rfl)
      case p16_13x1 => (go_simp; try with_reducible rfl)
      refine wpAnyH_takeN (i := 14) (v := ?v16_14x1) (l' := bm 29 32767) (a' := ?a16_14x1) rfl (by kernel_rfl) (by kernel_rfl) (by kernel_rfl) (fun _ _ _ h => h) (Or.inl ⟨by kernel_rfl, ?h16_14x1⟩) (by kernel_rfl) ?p16_14x1 hS6 ?r16_14x1
      case h16_14x1 => (intro w hS; go_simp; try with_reducible rfl)
      case p16_14x1 => (go_simp; try with_reducible rfl)
      refine wpAnyH_takeN (i := 15) (v := ?v16_15x1) (l' := bm 29 65535) (a' := ?a16_15x1) rfl (by kernel_rfl) (by kernel_rfl) (by kernel_rfl) (fun _ _ _ h => h) (Or.inl ⟨by kernel_rfl, ?h16_15x1⟩) (by kernel_rfl) ?p16_15x1 hS6 ?r16_15x1
      case h16_15x1 => (intro w hS; go_simp; try with_reducible rfl)
      case p16_15x1 => (go_simp; try with_reducible rfl)
      refine wpAnyH_takeN (i := 16) (v := ?v16_16x1) (l' := bm 29 131071) (a' := ?a16_16x1) rfl (by kernel_rfl) (by kernel_rfl) (by kernel_rfl) (fun _ _ _ h => h) (Or.inl ⟨by kernel_rfl, ?h16_16x1⟩) (by kernel_rfl) ?p16_16x1 hS6 ?r16_16x1
      case h16_16x1 => (intro w hS; go_simp; try with_reducible rfl)
      case p16_16x1 => (go_simp; try with_reducible rfl)
      refine wpAnyH_oneN (i := 17) (l' := bm 29 262143) rfl (by kernel_rfl) (by kernel_rfl) (by kernel_rfl) (fun K hK => ?_)
      have hP := hS6.1
      go_simp
      go_at_call 68
      refine (S3.out _).mono ?_
      rintro r w57 ⟨rfl, hb⟩
      dsimp only
      have D57 := Lib.hid (below_step hP hb)
      clear hb
      have hS7 := HO.out _ (D57.out)
      clear hP hS6
      refine hK _ _ hS7 ?_
      clear hK K
      refine wpAnyH_takeN (i := 18) (v := ?v16_18x1) (l' := bm 29 524287) (a' := ?a16_18x1) rfl (by kernel_rfl) (by kernel_rfl) (by kernel_rfl) (fun _ _ _ h => h) (Or.inl ⟨by kernel_rfl, ?h16_18x1⟩) (by kernel_rfl) ?p16_18x1 hS7 ?r16_18x1
      case h16_18x1 => (intro w hS; go_simp; try with_reducible rfl)
      case p16_18x1 => (go_simp; try with_reducible rfl)
      refine wpAnyH_takeN (i := 19) (v := ?v16_19x1) (l' := bm 29 1048575) (a' := ?a16_19x1) rfl (by kernel_rfl) (by kernel_rfl) (by kernel_rfl) (fun _ _ _ h => h) (Or.inl ⟨by kernel_rfl, ?h16_19x1⟩) (by kernel_rfl) ?p16_19x1 hS7 ?r16_19x1
      case h16_19x1 => (intro w hS; go_simp; try with_reducible rfl)
      case p16_19x1 => (go_simp; try with_reducible rfl)
      refine wpAnyH_takeN (i := 20) (v := ?v16_20x1) (l' := bm 29 2097151) (a' := ?a16_20x1) rfl (by kernel_rfl) (by kernel_rfl) (by kernel_rfl) (fun _ _ _ h => h) (Or.inl ⟨by kernel_rfl, ?h16_20x1⟩) (by kernel_rfl) ?p16_20x1 hS7 ?r16_20x1
      case h16_20x1 => (intro w hS; go_simp; try with_reducible rfl)
      case p16_20x1 => (go_simp; try with_reducible rfl)
      refine wpAnyH_takeN (i := 21) (v := ?v16_21x1) (l' := bm 29 4194303) (a' := ?a16_21x1) rfl (by kernel_rfl) (by kernel_rfl) (by kernel_rfl) (fun _ _ _ h => h) (Or.inl ⟨by kernel_rfl, ?h16_21x1⟩) (by kernel_rfl) ?p16_21x1 hS7 ?r16_21x1
      case h16_21x1 => (intro w hS; go_simp; try with_reducible rfl)
      case p16_21x1 => (go_simp; try with_reducible rfl)
      refine wpAnyH_takeN (i := 22) (v := ?v16_22x1) (l' := bm 29 8388607) (a' := ?a16_22x1) rfl (by kernel_rfl) (by kernel_rfl) (by kernel_rfl) (fun _ _ _ h => h) (Or.inl ⟨by kernel_rfl, ?h16_22x1⟩) (by kernel_rfl) ?p16_22x1 hS7 ?r16_22x1
      case h16_22x1 => (intro w hS; go_simp; try with_reducible rfl)
      case p16_22x1 => (go_simp; try with_reducible rfl)
      refine wpAnyH_takeN (i := 23) (v := undef) (l' := bm 29 16777215) (a' := ?a16_23x1) rfl (by kernel_rfl) (by kernel_rfl) (by kernel_rfl) (fun _ _ _ h => h) (Or.inr ⟨by kernel_rfl, rfl⟩) (by kernel_rfl) ?p16_23x1 hS7 ?_
      case p16_23x1 => (go_simp; try with_reducible rfl)
      refine wpAnyH_takeN (i := 24) (v := undef) (l' := bm 29 33554431) (a' := ?a16_24x1) rfl (by kernel_rfl) (by kernel_rfl) (by kernel_rfl) (fun _ _ _ h => h) (Or.inr ⟨by kernel_rfl, rfl⟩) (by kernel_rfl) ?p16_24x1 hS7 ?_
      case p16_24x1 => (go_simp; try with_reducible rfl)
      refine wpAnyH_takeN (i := 25) (v := undef) (l' := bm 29 67108863) (a' := ?a16_25x1) rfl (by kernel_rfl) (by kernel_rfl) (by kernel_rfl) (fun _ _ _ h => h) (Or.inr ⟨by kernel_rfl, rfl⟩) (by kernel_rfl) ?p16_25x1 hS7 ?_
      case p16_25x1 => (go_simp; try with_reducible rfl)
      refine wpAnyH_takeN (i := 26) (v := ?v16_26x1) (l' := bm 29 134217727) (a' := ?a16_26x1) rfl (by kernel_rfl) (by kernel_rfl) (by kernel_rfl) (fun _ _ _ h => h) (Or.inl ⟨by kernel_rfl, ?h16_26x1⟩) (by kernel_rfl) ?p16_26x1 hS7 ?r16_26x1
      case h16_26x1 => (intro w hS; go_simp; try with_reducible rfl)
      case p16_26x1 => (go_simp; try with_reducible rfl)
      refine wpAnyH_takeN (i := 27) (v := ?v16_27x1) (l' := bm 29 268435455) (a' := ?a16_27x1) rfl (by kernel_rfl) (by kernel_rfl) (by kernel_rfl) (fun _ _ _ h => h) (Or.inl ⟨by kernel_rfl, ?h16_27x1⟩) (by kernel_rfl) ?p16_27x1 hS7 ?r16_27x1
      case h16_27x1 => (intro w hS; go_simp; try with_reducible rfl)
      case p16_27x1 => (go_simp; try with_reducible rfl)
      refine wpAnyH_takeN (i := 28) (v := ?v16_28x1) (l' := bm 29 536870911) (a' := ?a16_28x1) rfl (by kernel_rfl) (by kernel_rfl) (by kernel_rfl) (fun _ _ _ h => h) (Or.inl ⟨by kernel_rfl, ?h16_28x1⟩) (by kernel_rfl) ?p16_28x1 hS7 ?r16_28x1
      case h16_28x1 => (intro w hS; go_simp; try with_reducible rfl)
      case p16_28x1 => (go_simp; try with_reducible rfl)
      refine wpAnyH_done (by kernel_rfl) ?_ _
      clear hS7
      have hq := (HO.out _ D57.out).2
      go_wp2_with fail
      go_ret
      exact ⟨ret_bool (by simp), below_step HB.out D57.out⟩
  · go_wp2_with fail
    clear hq
    refine wp_region_held (S := (fun w' => Below V2.heap.size V2 w' ∧ w'.cell? ⟨w.heap.size, 0, none⟩ = some (Value.float FloatKind.f64 A.lo) ∧ w'.cell? ⟨w.heap.size, 1, none⟩ = some (Value.float FloatKind.f64 A.hi) ∧ w'.cell? ⟨w.heap.size + 1, 0, none⟩ = some (Value.float FloatKind.f64 B.lo) ∧ w'.cell? ⟨w.heap.size + 1, 1, none⟩ = some (Value.float FloatKind.f64 B.hi) ∧ w'.cell? ⟨w.heap.size + 1 + 1, 0, none⟩ = some (Value.float FloatKind.f64 C.lo) ∧ w'.cell? ⟨w.heap.size + 1 + 1, 1, none⟩ = some (Value.float FloatKind.f64 C.hi) ∧ w'.cell? ⟨w.heap.size + 1 + 1 + 1, 0, none⟩ = some (Value.float FloatKind.f64 D.lo) ∧ w'.cell? ⟨w.heap.size + 1 + 1 + 1, 1, none⟩ = some (Value.float FloatKind.f64 D.hi) ∧ w'.cell? ⟨g1, 0, none⟩ = some (Value.float FloatKind.f64 x0.lo) ∧ w'.cell? ⟨g1, 1, none⟩ = some (Value.float FloatKind.f64 x0.hi) ∧ w'.cell? ⟨g1, 2, none⟩ = some (Value.float FloatKind.f64 x1.lo) ∧ w'.cell? ⟨g1, 3, none⟩ = some (Value.float FloatKind.f64 x1.hi) ∧ w'.cell? ⟨g1, 4, none⟩ = some (Value.float FloatKind.f64 x2.lo) ∧ w'.cell? ⟨g1, 5, none⟩ = some (Value.float FloatKind.f64 x2.hi) ∧ w'.cell? ⟨g1, 6, none⟩ = some (Value.float FloatKind.f64 x3.lo) ∧ w'.cell? ⟨g1, 7, none⟩ = some (Value.float FloatKind.f64 x3.hi) ∧ w'.cell? ⟨g1, 8, none⟩ = some (Value.float FloatKind.f64 x4.lo) ∧ w'.cell? ⟨g1, 9, none⟩ = some (Value.float FloatKind.f64 x4.hi) ∧ w'.cell? ⟨g1, 10, none⟩ = some (Value.float FloatKind.f64 x5.lo) ∧ w'.cell? ⟨g1, 11, none⟩ = some (Value.float FloatKind.f64 x5.hi) ∧ w'.cell? ⟨g1, 12, none⟩ = some (Value.float FloatKind.f64 x6.lo) ∧ w'.cell? ⟨g1, 13, none⟩ = some (Value.float FloatKind.f64 x6.hi) ∧ w'.cell? ⟨g1, 14, none⟩ = some (Value.float FloatKind.f64 x7.lo) ∧ w'.cell? ⟨g1, 15, none⟩ = some (Value.float FloatKind.f64 x7.hi) ∧ w'.cell? ⟨g1, 16, none⟩ = some (Value.float FloatKind.f64 x8.lo) ∧ w'.cell? ⟨g1, 17, none⟩ = some (Value.float FloatKind.f64 x8.hi) ∧ w'.cell? ⟨g2, 0, none⟩ = some (Value.float FloatKind.f64 y0.lo) ∧ w'.cell? ⟨g2, 1, none⟩ = some (Value.float FloatKind.f64 y0.hi) ∧ w'.cell? ⟨g2, 2, none⟩ = some (Value.float FloatKind.f64 y1.lo) ∧ w'.cell? ⟨g2, 3, none⟩ = some (Value.float FloatKind.f64 y1.hi) ∧ w'.cell? ⟨g2, 4, none⟩ = some (Value.float FloatKind.f64 y2.lo) ∧ w'.cell? ⟨g2, 5, none⟩ = some (Value.float FloatKind.f64 y2.hi) ∧ w'.cell? ⟨g2, 6, none⟩ = some (Value.float FloatKind.f64 y3.lo) ∧ w'.cell? ⟨g2, 7, none⟩ = some (Value.float FloatKind.f64 y3.hi) ∧ w'.cell? ⟨g2, 8, none⟩ = some (Value.float FloatKind.f64 y4.lo) ∧ w'.cell? ⟨g2, 9, none⟩ = some (Value.float FloatKind.f64 y4.hi) ∧ w'.cell? ⟨g2, 10, none⟩ = some (Value.float FloatKind.f64 y5.lo) ∧ w'.cell? ⟨g2, 11, none⟩ = some (Value.float FloatKind.f64 y5.hi) ∧ w'.cell? ⟨g2, 12, none⟩ = some (Value.float FloatKind.f64 y6.lo) ∧ w'.cell? ⟨g2, 13, none⟩ = some (Value.float FloatKind.f64 y6.hi) ∧ w'.cell? ⟨g2, 14, none⟩ = some (Value.float FloatKind.f64 y7.lo) ∧ w'.cell? ⟨g2, 15, none⟩ = some (Value.float FloatKind.f64 y7.hi) ∧ w'.cell? ⟨g2, 16, none⟩ = some (Value.float FloatKind.f64 y8.lo) ∧ w'.cell? ⟨g2, 17, none⟩ = some (Value.float FloatKind.f64 y8.hi))) (by kernel_rfl) ?_
    (try change wpAnyH _ _ _ _ _ _ _ (World.drew _))
    have hS0 := HO.out _ (Below.drew D45.out)
    refine wpAnyH_takeN (i := 0) (v := ?v12_0x1) (l' := bm 11 1) (a' := ?a12_0x1) rfl (by kernel_rfl) (by kernel_rfl) (by kernel_rfl) (fun _ _ _ h => h) (Or.inl ⟨by kernel_rfl, ?h12_0x1⟩) (by kernel_rfl) ?p12_0x1 hS0 ?r12_0x1
    case h12_0x1 => (intro w hS; go_simp; try with_reducible rfl)
    case p12_0x1 => (go_simp; try with_reducible rfl)
    refine wpAnyH_takeN (i := 1) (v := ?v12_1x1) (l' := bm 11 3) (a' := ?a12_1x1) rfl (by kernel_rfl) (by kernel_rfl) (by kernel_rfl) (fun _ _ _ h => h) (Or.inl ⟨by kernel_rfl, ?h12_1x1⟩) (by kernel_rfl) ?p12_1x1 hS0 ?r12_1x1
    case h12_1x1 => (intro w hS; go_simp; try with_reducible rfl)
    case p12_1x1 => (go_simp; try with_reducible rfl)
    refine wpAnyH_takeN (i := 2) (v := ?v12_2x1) (l' := bm 11 7) (a' := ?a12_2x1) rfl (by kernel_rfl) (by kernel_rfl) (by kernel_rfl) (fun _ _ _ h => h) (Or.inl ⟨by kernel_rfl, ?h12_2x1⟩) (by kernel_rfl) ?p12_2x1 hS0 ?r12_2x1
    case h12_2x1 => (intro w hS; go_simp; try with_reducible rfl)
    case p12_2x1 => (go_simp; try with_reducible rfl)
    refine wpAnyH_takeN (i := 3) (v := ?v12_3x1) (l' := bm 11 15) (a' := ?a12_3x1) rfl (by kernel_rfl) (by kernel_rfl) (by kernel_rfl) (fun _ _ _ h => h) (Or.inl ⟨by kernel_rfl, ?h12_3x1⟩) (by kernel_rfl) ?p12_3x1 hS0 ?r12_3x1
    case h12_3x1 => (intro w hS; go_simp; try with_reducible rfl)
    case p12_3x1 => (go_simp; try with_reducible rfl)
    refine wpAnyH_takeN (i := 4) (v := undef) (l' := bm 11 31) (a' := ?a12_4x1) rfl (by kernel_rfl) (by kernel_rfl) (by kernel_rfl) (fun _ _ _ h => h) (Or.inr ⟨by kernel_rfl, rfl⟩) (by kernel_rfl) ?p12_4x1 hS0 ?_
    case p12_4x1 => (go_simp; try with_reducible rfl)
    refine wpAnyH_takeN (i := 5) (v := undef) (l' := bm 11 63) (a' := ?a12_5x1) rfl (by kernel_rfl) (by kernel_rfl) (by kernel_rfl) (fun _ _ _ h => h) (Or.inr ⟨by kernel_rfl, rfl⟩) (by kernel_rfl) ?p12_5x1 hS0 ?_
    case p12_5x1 => (go_simp; try with_reducible rfl)
    refine wpAnyH_takeN (i := 6) (v := undef) (l' := bm 11 127) (a' := ?a12_6x1) rfl (by kernel_rfl) (by kernel_rfl) (by kernel_rfl) (fun _ _ _ h => h) (Or.inr ⟨by kernel_rfl, rfl⟩) (by kernel_rfl) ?p12_6x1 hS0 ?_
    case p12_6x1 => (go_simp; try with_reducible rfl)
    refine wpAnyH_takeN (i := 7) (v := undef) (l' := bm 11 255) (a' := ?a12_7x1) rfl (by kernel_rfl) (by kernel_rfl) (by kernel_rfl) (fun _ _ _ h => h) (Or.inr ⟨by kernel_rfl, rfl⟩) (by kernel_rfl) ?p12_7x1 hS0 ?_
    case p12_7x1 => (go_simp; try with_reducible rfl)
    refine wpAnyH_takeN (i := 8) (v := undef) (l' := bm 11 511) (a' := ?a12_8x1) rfl (by kernel_rfl) (by kernel_rfl) (by kernel_rfl) (fun _ _ _ h => h) (Or.inr ⟨by kernel_rfl, rfl⟩) (by kernel_rfl) ?p12_8x1 hS0 ?_
    case p12_8x1 => (go_simp; try with_reducible rfl)
    refine wpAnyH_takeN (i := 9) (v := undef) (l' := bm 11 1023) (a' := ?a12_9x1) rfl (by kernel_rfl) (by kernel_rfl) (by kernel_rfl) (fun _ _ _ h => h) (Or.inr ⟨by kernel_rfl, rfl⟩) (by kernel_rfl) ?p12_9x1 hS0 ?_
    case p12_9x1 => (go_simp; try with_reducible rfl)
    refine wpAnyH_takeN (i := 10) (v := ?v12_10x1) (l' := bm 11 2047) (a' := ?a12_10x1) rfl (by kernel_rfl) (by kernel_rfl) (by kernel_rfl) (fun _ _ _ h => h) (Or.inl ⟨by kernel_rfl, ?h12_10x1⟩) (by kernel_rfl) ?p12_10x1 hS0 ?r12_10x1
    case h12_10x1 => (intro w hS; go_simp; try with_reducible rfl)
    case p12_10x1 => (go_simp; try with_reducible rfl)
    refine wpAnyH_done (by kernel_rfl) ?_ _
    have D46 := Lib.hid (Below.drew D45.out)
    clear hS0
    have hq := (HO.out _ D46.out).2
    rcases HF.out with ⟨fn, f1, f2⟩ | ⟨fm, fk, f1, f2⟩
    · have S3 := Lib.hid (fun w => stays_sp 1 1 (Or.inr rfl) w)
      have F1 := Lib.hid f1
      have F2 := Lib.hid f2
      clear f1 f2
      go_wp2_with fail
      refine (F1.out _).mono ?_
      clear hq
      rintro r w47 ⟨rfl, hb⟩
      have D47 := Lib.hid (below_step D46.out hb)
      clear hb
      have hq := (HO.out _ D47.out).2
      go_wp2_with fail
      refine (F2.out _).mono ?_
      clear hq
      rintro r w48 ⟨rfl, hb⟩
      have D48 := Lib.hid (below_step D47.out hb)
      clear hb
      have hq := (HO.out _ D48.out).2
      go_wp2_with fail
      clear hq
      refine wp_region_held (S := (fun w' => Below V2.heap.size V2 w' ∧ w'.cell? ⟨w.heap.size, 0, none⟩ = some (Value.float FloatKind.f64 A.lo) ∧ w'.cell? ⟨w.heap.size, 1, none⟩ = some (Value.float FloatKind.f64 A.hi) ∧ w'.cell? ⟨w.heap.size + 1, 0, none⟩ = some (Value.float FloatKind.f64 B.lo) ∧ w'.cell? ⟨w.heap.size + 1, 1, none⟩ = some (Value.float FloatKind.f64 B.hi) ∧ w'.cell? ⟨w.heap.size + 1 + 1, 0, none⟩ = some (Value.float FloatKind.f64 C.lo) ∧ w'.cell? ⟨w.heap.size + 1 + 1, 1, none⟩ = some (Value.float FloatKind.f64 C.hi) ∧ w'.cell? ⟨w.heap.size + 1 + 1 + 1, 0, none⟩ = some (Value.float FloatKind.f64 D.lo) ∧ w'.cell? ⟨w.heap.size + 1 + 1 + 1, 1, none⟩ = some (Value.float FloatKind.f64 D.hi) ∧ w'.cell? ⟨g1, 0, none⟩ = some (Value.float FloatKind.f64 x0.lo) ∧ w'.cell? ⟨g1, 1, none⟩ = some (Value.float FloatKind.f64 x0.hi) ∧ w'.cell? ⟨g1, 2, none⟩ = some (Value.float FloatKind.f64 x1.lo) ∧ w'.cell? ⟨g1, 3, none⟩ = some (Value.float FloatKind.f64 x1.hi) ∧ w'.cell? ⟨g1, 4, none⟩ = some (Value.float FloatKind.f64 x2.lo) ∧ w'.cell? ⟨g1, 5, none⟩ = some (Value.float FloatKind.f64 x2.hi) ∧ w'.cell? ⟨g1, 6, none⟩ = some (Value.float FloatKind.f64 x3.lo) ∧ w'.cell? ⟨g1, 7, none⟩ = some (Value.float FloatKind.f64 x3.hi) ∧ w'.cell? ⟨g1, 8, none⟩ = some (Value.float FloatKind.f64 x4.lo) ∧ w'.cell? ⟨g1, 9, none⟩ = some (Value.float FloatKind.f64 x4.hi) ∧ w'.cell? ⟨g1, 10, none⟩ = some (Value.float FloatKind.f64 x5.lo) ∧ w'.cell? ⟨g1, 11, none⟩ = some (Value.float FloatKind.f64 x5.hi) ∧ w'.cell? ⟨g1, 12, none⟩ = some (Value.float FloatKind.f64 x6.lo) ∧ w'.cell? ⟨g1, 13, none⟩ = some (Value.float FloatKind.f64 x6.hi) ∧ w'.cell? ⟨g1, 14, none⟩ = some (Value.float FloatKind.f64 x7.lo) ∧ w'.cell? ⟨g1, 15, none⟩ = some (Value.float FloatKind.f64 x7.hi) ∧ w'.cell? ⟨g1, 16, none⟩ = some (Value.float FloatKind.f64 x8.lo) ∧ w'.cell? ⟨g1, 17, none⟩ = some (Value.float FloatKind.f64 x8.hi) ∧ w'.cell? ⟨g2, 0, none⟩ = some (Value.float FloatKind.f64 y0.lo) ∧ w'.cell? ⟨g2, 1, none⟩ = some (Value.float FloatKind.f64 y0.hi) ∧ w'.cell? ⟨g2, 2, none⟩ = some (Value.float FloatKind.f64 y1.lo) ∧ w'.cell? ⟨g2, 3, none⟩ = some (Value.float FloatKind.f64 y1.hi) ∧ w'.cell? ⟨g2, 4, none⟩ = some (Value.float FloatKind.f64 y2.lo) ∧ w'.cell? ⟨g2, 5, none⟩ = some (Value.float FloatKind.f64 y2.hi) ∧ w'.cell? ⟨g2, 6, none⟩ = some (Value.float FloatKind.f64 y3.lo) ∧ w'.cell? ⟨g2, 7, none⟩ = some (Value.float FloatKind.f64 y3.hi) ∧ w'.cell? ⟨g2, 8, none⟩ = some (Value.float FloatKind.f64 y4.lo) ∧ w'.cell? ⟨g2, 9, none⟩ = some (Value.float FloatKind.f64 y4.hi) ∧ w'.cell? ⟨g2, 10, none⟩ = some (Value.float FloatKind.f64 y5.lo) ∧ w'.cell? ⟨g2, 11, none⟩ = some (Value.float FloatKind.f64 y5.hi) ∧ w'.cell? ⟨g2, 12, none⟩ = some (Value.float FloatKind.f64 y6.lo) ∧ w'.cell? ⟨g2, 13, none⟩ = some (Value.float FloatKind.f64 y6.hi) ∧ w'.cell? ⟨g2, 14, none⟩ = some (Value.float FloatKind.f64 y7.lo) ∧ w'.cell? ⟨g2, 15, none⟩ = some (Value.float FloatKind.f64 y7.hi) ∧ w'.cell? ⟨g2, 16, none⟩ = some (Value.float FloatKind.f64 y8.lo) ∧ w'.cell? ⟨g2, 17, none⟩ = some (Value.float FloatKind.f64 y8.hi))) (by kernel_rfl) ?_
      (try change wpAnyH _ _ _ _ _ _ _ (World.drew _))
      have hS0 := HO.out _ (Below.drew D48.out)
      refine wpAnyH_takeN (i := 0) (v := ?v16_0x2) (l' := bm 29 1) (a' := ?a16_0x2) rfl (by kernel_rfl) (by kernel_rfl) (by kernel_rfl) (fun _ _ _ h => h) (Or.inl ⟨by kernel_rfl, ?h16_0x2⟩) (by kernel_rfl) ?p16_0x2 hS0 ?r16_0x2
      case h16_0x2 => (intro w hS; go_simp; try with_reducible rfl)
      case p16_0x2 => (go_simp; try with_reducible rfl)
      refine wpAnyH_takeN (i := 2) (v := ?v16_2x2) (l' := bm 29 5) (a' := ?a16_2x2) rfl (by kernel_rfl) (by kernel_rfl) (by kernel_rfl) (fun _ _ _ h => h) (Or.inl ⟨by kernel_rfl, ?h16_2x2⟩) (by kernel_rfl) ?p16_2x2 hS0 ?r16_2x2
      case h16_2x2 => (intro w hS; go_simp; try with_reducible rfl)
      case p16_2x2 => (go_simp; try with_reducible rfl)
      refine wpAnyH_oneN (i := 1) (l' := bm 29 7) rfl (by kernel_rfl) (by kernel_rfl) (by kernel_rfl) (fun K hK => ?_)
      have hP := hS0.1
      go_simp
      go_at_call 30
      refine (P1.out _).mono ?_
      rintro r w49 ⟨rfl, hb⟩
      dsimp only
      have D49 := Lib.hid (below_step hP hb)
      clear hb
      have hS1 := HO.out _ (D49.out)
      clear hP hS0
      refine hK _ _ hS1 ?_
      clear hK K
      refine wpAnyH_oneN (i := 3) (l' := bm 29 15) rfl (by kernel_rfl) (by kernel_rfl) (by kernel_rfl) (fun K hK => ?_)
      have hP := hS1.1
      go_simp
      go_at_call 30
      refine (P2.out _).mono ?_
      rintro r w50 ⟨rfl, hb⟩
      dsimp only
      have D50 := Lib.hid (below_step hP hb)
      clear hb
      have hS2 := HO.out _ (D50.out)
      clear hP hS1
      refine hK _ _ hS2 ?_
      clear hK K
      refine wpAnyH_oneN (i := 4) (l' := bm 29 31) rfl (by kernel_rfl) (by kernel_rfl) (by kernel_rfl) (fun K hK => ?_)
      have hP := hS2.1
      go_simp
      go_at_call 68
      refine (S1.out _).mono ?_
      rintro r w51 ⟨rfl, hb⟩
      dsimp only
      have D51 := Lib.hid (below_step hP hb)
      clear hb
      have hS3 := HO.out _ (D51.out)
      clear hP hS2
      refine hK _ _ hS3 ?_
      clear hK K
      refine wpAnyH_takeN (i := 5) (v := ?v16_5x2) (l' := bm 29 63) (a' := ?a16_5x2) rfl (by kernel_rfl) (by kernel_rfl) (by kernel_rfl) (fun _ _ _ h => h) (Or.inl ⟨by kernel_rfl, ?h16_5x2⟩) (by kernel_rfl) ?p16_5x2 hS3 ?r16_5x2
      case h16_5x2 => (intro w hS; go_simp; try with_reducible rfl)
      case p16_5x2 => (go_simp; try with_reducible rfl)
      refine wpAnyH_takeN (i := 6) (v := ?v16_6x2) (l' := bm 29 127) (a' := ?a16_6x2) rfl (by kernel_rfl) (by kernel_rfl) (by kernel_rfl) (fun _ _ _ h => h) (Or.inl ⟨by kernel_rfl, ?h16_6x2⟩) (by kernel_rfl) ?p16_6x2 hS3 ?r16_6x2
      case h16_6x2 => (intro w hS; go_simp; try with_reducible rfl)
      case p16_6x2 => (go_simp; try with_reducible rfl)
      refine wpAnyH_takeN (i := 7) (v := ?v16_7x2) (l' := bm 29 255) (a' := ?a16_7x2) rfl (by kernel_rfl) (by kernel_rfl) (by kernel_rfl) (fun _ _ _ h => h) (Or.inl ⟨by kernel_rfl, ?h16_7x2⟩) (by kernel_rfl) ?p16_7x2 hS3 ?r16_7x2
      case h16_7x2 => (intro w hS; go_simp; try with_reducible rfl)
      case p16_7x2 => (go_simp; try with_reducible rfl)
      refine wpAnyH_takeN (i := 9) (v := ?v16_9x2) (l' := bm 29 767) (a' := ?a16_9x2) rfl (by kernel_rfl) (by kernel_rfl) (by kernel_rfl) (fun _ _ _ h => h) (Or.inl ⟨by kernel_rfl, ?h16_9x2⟩) (by kernel_rfl) ?p16_9x2 hS3 ?r16_9x2
      case h16_9x2 => (intro w hS; go_simp; try with_reducible rfl)
      case p16_9x2 => (go_simp; try with_reducible rfl)
      refine wpAnyH_takeN (i := 10) (v := ?v16_10x2) (l' := bm 29 1791) (a' := ?a16_10x2) rfl (by kernel_rfl) (by kernel_rfl) (by kernel_rfl) (fun _ _ _ h => h) (Or.inl ⟨by kernel_rfl, ?h16_10x2⟩) (by kernel_rfl) ?p16_10x2 hS3 ?r16_10x2
      case h16_10x2 => (intro w hS; go_simp; try with_reducible rfl)
      case p16_10x2 => (go_simp; try with_reducible rfl)
      refine wpAnyH_oneN (i := 8) (l' := bm 29 2047) rfl (by kernel_rfl) (by kernel_rfl) (by kernel_rfl) (fun K hK => ?_)
      have hP := hS3.1
      go_simp
      go_at_call 31
      refine (L1.out _).mono ?_
      rintro r w52 ⟨rfl, hb⟩
      dsimp only
      have D52 := Lib.hid (below_step hP hb)
      clear hb
      have hS4 := HO.out _ (D52.out)
      clear hP hS3
      refine hK _ _ hS4 ?_
      clear hK K
      refine wpAnyH_oneN (i := 11) (l' := bm 29 4095) rfl (by kernel_rfl) (by kernel_rfl) (by kernel_rfl) (fun K hK => ?_)
      have hP := hS4.1
      go_simp
      go_at_call 31
      refine (L2.out _).mono ?_
      rintro r w53 ⟨rfl, hb⟩
      dsimp only
      have D53 := Lib.hid (below_step hP hb)
      clear hb
      have hS5 := HO.out _ (D53.out)
      clear hP hS4
      refine hK _ _ hS5 ?_
      clear hK K
      refine wpAnyH_oneN (i := 12) (l' := bm 29 8191) rfl (by kernel_rfl) (by kernel_rfl) (by kernel_rfl) (fun K hK => ?_)
      have hP := hS5.1
      go_simp
      go_at_call 68
      refine (S2.out _).mono ?_
      rintro r w54 ⟨rfl, hb⟩
      dsimp only
      have D54 := Lib.hid (below_step hP hb)
      clear hb
      have hS6 := HO.out _ (D54.out)
      clear hP hS5
      refine hK _ _ hS6 ?_
      clear hK K
      refine wpAnyH_takeN (i := 13) (v := ?v16_13x2) (l' := bm 29 16383) (a' := ?a16_13x2) rfl (by kernel_rfl) (by kernel_rfl) (by kernel_rfl) (fun _ _ _ h => h) (Or.inl ⟨by kernel_rfl, ?h16_13x2⟩) (by kernel_rfl) ?p16_13x2 hS6 ?r16_13x2
      case h16_13x2 => (intro w hS; go_simp; try with_reducible rfl)
      case p16_13x2 => (go_simp; try with_reducible rfl)
      refine wpAnyH_takeN (i := 14) (v := ?v16_14x2) (l' := bm 29 32767) (a' := ?a16_14x2) rfl (by kernel_rfl) (by kernel_rfl) (by kernel_rfl) (fun _ _ _ h => h) (Or.inl ⟨by kernel_rfl, ?h16_14x2⟩) (by kernel_rfl) ?p16_14x2 hS6 ?r16_14x2
      case h16_14x2 => (intro w hS; go_simp; try with_reducible rfl)
      case p16_14x2 => (go_simp; try with_reducible rfl)
      refine wpAnyH_takeN (i := 15) (v := ?v16_15x2) (l' := bm 29 65535) (a' := ?a16_15x2) rfl (by kernel_rfl) (by kernel_rfl) (by kernel_rfl) (fun _ _ _ h => h) (Or.inl ⟨by kernel_rfl, ?h16_15x2⟩) (by kernel_rfl) ?p16_15x2 hS6 ?r16_15x2
      case h16_15x2 => (intro w hS; go_simp; try with_reducible rfl)
      case p16_15x2 => (go_simp; try with_reducible rfl)
      refine wpAnyH_takeN (i := 16) (v := ?v16_16x2) (l' := bm 29 131071) (a' := ?a16_16x2) rfl (by kernel_rfl) (by kernel_rfl) (by kernel_rfl) (fun _ _ _ h => h) (Or.inl ⟨by kernel_rfl, ?h16_16x2⟩) (by kernel_rfl) ?p16_16x2 hS6 ?r16_16x2
      case h16_16x2 => (intro w hS; go_simp; try with_reducible rfl)
      case p16_16x2 => (go_simp; try with_reducible rfl)
      refine wpAnyH_oneN (i := 17) (l' := bm 29 262143) rfl (by kernel_rfl) (by kernel_rfl) (by kernel_rfl) (fun K hK => ?_)
      have hP := hS6.1
      go_simp
      go_at_call 68
      refine (S3.out _).mono ?_
      rintro r w55 ⟨rfl, hb⟩
      dsimp only
      have D55 := Lib.hid (below_step hP hb)
      clear hb
      have hS7 := HO.out _ (D55.out)
      clear hP hS6
      refine hK _ _ hS7 ?_
      clear hK K
      refine wpAnyH_takeN (i := 18) (v := ?v16_18x2) (l' := bm 29 524287) (a' := ?a16_18x2) rfl (by kernel_rfl) (by kernel_rfl) (by kernel_rfl) (fun _ _ _ h => h) (Or.inl ⟨by kernel_rfl, ?h16_18x2⟩) (by kernel_rfl) ?p16_18x2 hS7 ?r16_18x2
      case h16_18x2 => (intro w hS; go_simp; try with_reducible rfl)
      case p16_18x2 => (go_simp; try with_reducible rfl)
      refine wpAnyH_takeN (i := 19) (v := ?v16_19x2) (l' := bm 29 1048575) (a' := ?a16_19x2) rfl (by kernel_rfl) (by kernel_rfl) (by kernel_rfl) (fun _ _ _ h => h) (Or.inl ⟨by kernel_rfl, ?h16_19x2⟩) (by kernel_rfl) ?p16_19x2 hS7 ?r16_19x2
      case h16_19x2 => (intro w hS; go_simp; try with_reducible rfl)
      case p16_19x2 => (go_simp; try with_reducible rfl)
      refine wpAnyH_takeN (i := 20) (v := ?v16_20x2) (l' := bm 29 2097151) (a' := ?a16_20x2) rfl (by kernel_rfl) (by kernel_rfl) (by kernel_rfl) (fun _ _ _ h => h) (Or.inl ⟨by kernel_rfl, ?h16_20x2⟩) (by kernel_rfl) ?p16_20x2 hS7 ?r16_20x2
      case h16_20x2 => (intro w hS; go_simp; try with_reducible rfl)
      case p16_20x2 => (go_simp; try with_reducible rfl)
      refine wpAnyH_takeN (i := 21) (v := ?v16_21x2) (l' := bm 29 4194303) (a' := ?a16_21x2) rfl (by kernel_rfl) (by kernel_rfl) (by kernel_rfl) (fun _ _ _ h => h) (Or.inl ⟨by kernel_rfl, ?h16_21x2⟩) (by kernel_rfl) ?p16_21x2 hS7 ?r16_21x2
      case h16_21x2 => (intro w hS; go_simp; try with_reducible rfl)
      case p16_21x2 => (go_simp; try with_reducible rfl)
      refine wpAnyH_takeN (i := 22) (v := ?v16_22x2) (l' := bm 29 8388607) (a' := ?a16_22x2) rfl (by kernel_rfl) (by kernel_rfl) (by kernel_rfl) (fun _ _ _ h => h) (Or.inl ⟨by kernel_rfl, ?h16_22x2⟩) (by kernel_rfl) ?p16_22x2 hS7 ?r16_22x2
      case h16_22x2 => (intro w hS; go_simp; try with_reducible rfl)
      case p16_22x2 => (go_simp; try with_reducible rfl)
      refine wpAnyH_takeN (i := 23) (v := ?v16_23x2) (l' := bm 29 16777215) (a' := ?a16_23x2) rfl (by kernel_rfl) (by kernel_rfl) (by kernel_rfl) (fun _ _ _ h => h) (Or.inl ⟨by kernel_rfl, ?h16_23x2⟩) (by kernel_rfl) ?p16_23x2 hS7 ?r16_23x2
      case h16_23x2 => (intro w hS; go_simp; try with_reducible rfl)
      case p16_23x2 => (go_simp; try with_reducible rfl)
      refine wpAnyH_takeN (i := 24) (v := ?v16_24x2) (l' := bm 29 33554431) (a' := ?a16_24x2) rfl (by kernel_rfl) (by kernel_rfl) (by kernel_rfl) (fun _ _ _ h => h) (Or.inl ⟨by kernel_rfl, ?h16_24x2⟩) (by kernel_rfl) ?p16_24x2 hS7 ?r16_24x2
      case h16_24x2 => (intro w hS; go_simp; try with_reducible rfl)
      case p16_24x2 => (go_simp; try with_reducible rfl)
      refine wpAnyH_takeN (i := 25) (v := ?v16_25x2) (l' := bm 29 67108863) (a' := ?a16_25x2) rfl (by kernel_rfl) (by kernel_rfl) (by kernel_rfl) (fun _ _ _ h => h) (Or.inl ⟨by kernel_rfl, ?h16_25x2⟩) (by kernel_rfl) ?p16_25x2 hS7 ?r16_25x2
      case h16_25x2 => (intro w hS; go_simp; try with_reducible rfl)
      case p16_25x2 => (go_simp; try with_reducible rfl)
      refine wpAnyH_takeN (i := 26) (v := ?v16_26x2) (l' := bm 29 134217727) (a' := ?a16_26x2) rfl (by kernel_rfl) (by kernel_rfl) (by kernel_rfl) (fun _ _ _ h => h) (Or.inl ⟨by kernel_rfl, ?h16_26x2⟩) (by kernel_rfl) ?p16_26x2 hS7 ?r16_26x2
      case h16_26x2 => (intro w hS; go_simp; try with_reducible rfl)
      case p16_26x2 => (go_simp; try with_reducible rfl)
      refine wpAnyH_takeN (i := 27) (v := ?v16_27x2) (l' := bm 29 268435455) (a' := ?a16_27x2) rfl (by kernel_rfl) (by kernel_rfl) (by kernel_rfl) (fun _ _ _ h => h) (Or.inl ⟨by kernel_rfl, ?h16_27x2⟩) (by kernel_rfl) ?p16_27x2 hS7 ?r16_27x2
      case h16_27x2 => (intro w hS; go_simp; try with_reducible rfl)
      case p16_27x2 => (go_simp; try with_reducible rfl)
      refine wpAnyH_takeN (i := 28) (v := ?v16_28x2) (l' := bm 29 536870911) (a' := ?a16_28x2) rfl (by kernel_rfl) (by kernel_rfl) (by kernel_rfl) (fun _ _ _ h => h) (Or.inl ⟨by kernel_rfl, ?h16_28x2⟩) (by kernel_rfl) ?p16_28x2 hS7 ?r16_28x2
      case h16_28x2 => (intro w hS; go_simp; try with_reducible rfl)
      case p16_28x2 => (go_simp; try with_reducible rfl)
      refine wpAnyH_done (by kernel_rfl) ?_ _
      clear hS7
      have hq := (HO.out _ D55.out).2
      go_wp2_with fail
      go_ret
      exact ⟨ret_bool (by simp), below_step HB.out D55.out⟩
    · have S3 := Lib.hid (fun w => stays_sp 2 fk (Or.inl rfl) w)
      have F1 := Lib.hid f1
      have F2 := Lib.hid f2
      clear f1 f2
      go_wp2_with fail
      refine (F1.out _).mono ?_
      clear hq
      rintro r w47 ⟨rfl, hb⟩
      have D47 := Lib.hid (below_step D46.out hb)
      clear hb
      have hq := (HO.out _ D47.out).2
      go_wp2_with fail
      refine (F2.out _).mono ?_
      clear hq
      rintro r w48 ⟨rfl, hb⟩
      have D48 := Lib.hid (below_step D47.out hb)
      clear hb
      have hq := (HO.out _ D48.out).2
      go_wp2_with fail
      clear hq
      refine wp_region_held (S := (fun w' => Below V2.heap.size V2 w' ∧ w'.cell? ⟨w.heap.size, 0, none⟩ = some (Value.float FloatKind.f64 A.lo) ∧ w'.cell? ⟨w.heap.size, 1, none⟩ = some (Value.float FloatKind.f64 A.hi) ∧ w'.cell? ⟨w.heap.size + 1, 0, none⟩ = some (Value.float FloatKind.f64 B.lo) ∧ w'.cell? ⟨w.heap.size + 1, 1, none⟩ = some (Value.float FloatKind.f64 B.hi) ∧ w'.cell? ⟨w.heap.size + 1 + 1, 0, none⟩ = some (Value.float FloatKind.f64 C.lo) ∧ w'.cell? ⟨w.heap.size + 1 + 1, 1, none⟩ = some (Value.float FloatKind.f64 C.hi) ∧ w'.cell? ⟨w.heap.size + 1 + 1 + 1, 0, none⟩ = some (Value.float FloatKind.f64 D.lo) ∧ w'.cell? ⟨w.heap.size + 1 + 1 + 1, 1, none⟩ = some (Value.float FloatKind.f64 D.hi) ∧ w'.cell? ⟨g1, 0, none⟩ = some (Value.float FloatKind.f64 x0.lo) ∧ w'.cell? ⟨g1, 1, none⟩ = some (Value.float FloatKind.f64 x0.hi) ∧ w'.cell? ⟨g1, 2, none⟩ = some (Value.float FloatKind.f64 x1.lo) ∧ w'.cell? ⟨g1, 3, none⟩ = some (Value.float FloatKind.f64 x1.hi) ∧ w'.cell? ⟨g1, 4, none⟩ = some (Value.float FloatKind.f64 x2.lo) ∧ w'.cell? ⟨g1, 5, none⟩ = some (Value.float FloatKind.f64 x2.hi) ∧ w'.cell? ⟨g1, 6, none⟩ = some (Value.float FloatKind.f64 x3.lo) ∧ w'.cell? ⟨g1, 7, none⟩ = some (Value.float FloatKind.f64 x3.hi) ∧ w'.cell? ⟨g1, 8, none⟩ = some (Value.float FloatKind.f64 x4.lo) ∧ w'.cell? ⟨g1, 9, none⟩ = some (Value.float FloatKind.f64 x4.hi) ∧ w'.cell? ⟨g1, 10, none⟩ = some (Value.float FloatKind.f64 x5.lo) ∧ w'.cell? ⟨g1, 11, none⟩ = some (Value.float FloatKind.f64 x5.hi) ∧ w'.cell? ⟨g1, 12, none⟩ = some (Value.float FloatKind.f64 x6.lo) ∧ w'.cell? ⟨g1, 13, none⟩ = some (Value.float FloatKind.f64 x6.hi) ∧ w'.cell? ⟨g1, 14, none⟩ = some (Value.float FloatKind.f64 x7.lo) ∧ w'.cell? ⟨g1, 15, none⟩ = some (Value.float FloatKind.f64 x7.hi) ∧ w'.cell? ⟨g1, 16, none⟩ = some (Value.float FloatKind.f64 x8.lo) ∧ w'.cell? ⟨g1, 17, none⟩ = some (Value.float FloatKind.f64 x8.hi) ∧ w'.cell? ⟨g2, 0, none⟩ = some (Value.float FloatKind.f64 y0.lo) ∧ w'.cell? ⟨g2, 1, none⟩ = some (Value.float FloatKind.f64 y0.hi) ∧ w'.cell? ⟨g2, 2, none⟩ = some (Value.float FloatKind.f64 y1.lo) ∧ w'.cell? ⟨g2, 3, none⟩ = some (Value.float FloatKind.f64 y1.hi) ∧ w'.cell? ⟨g2, 4, none⟩ = some (Value.float FloatKind.f64 y2.lo) ∧ w'.cell? ⟨g2, 5, none⟩ = some (Value.float FloatKind.f64 y2.hi) ∧ w'.cell? ⟨g2, 6, none⟩ = some (Value.float FloatKind.f64 y3.lo) ∧ w'.cell? ⟨g2, 7, none⟩ = some (Value.float FloatKind.f64 y3.hi) ∧ w'.cell? ⟨g2, 8, none⟩ = some (Value.float FloatKind.f64 y4.lo) ∧ w'.cell? ⟨g2, 9, none⟩ = some (Value.float FloatKind.f64 y4.hi) ∧ w'.cell? ⟨g2, 10, none⟩ = some (Value.float FloatKind.f64 y5.lo) ∧ w'.cell? ⟨g2, 11, none⟩ = some (Value.float FloatKind.f64 y5.hi) ∧ w'.cell? ⟨g2, 12, none⟩ = some (Value.float FloatKind.f64 y6.lo) ∧ w'.cell? ⟨g2, 13, none⟩ = some (Value.float FloatKind.f64 y6.hi) ∧ w'.cell? ⟨g2, 14, none⟩ = some (Value.float FloatKind.f64 y7.lo) ∧ w'.cell? ⟨g2, 15, none⟩ = some (Value.float FloatKind.f64 y7.hi) ∧ w'.cell? ⟨g2, 16, none⟩ = some (Value.float FloatKind.f64 y8.lo) ∧ w'.cell? ⟨g2, 17, none⟩ = some (Value.float FloatKind.f64 y8.hi))) (by kernel_rfl) ?_
      (try change wpAnyH _ _ _ _ _ _ _ (World.drew _))
      have hS0 := HO.out _ (Below.drew D48.out)
      refine wpAnyH_takeN (i := 0) (v := ?v16_0x3) (l' := bm 29 1) (a' := ?a16_0x3) rfl (by kernel_rfl) (by kernel_rfl) (by kernel_rfl) (fun _ _ _ h => h) (Or.inl ⟨by kernel_rfl, ?h16_0x3⟩) (by kernel_rfl) ?p16_0x3 hS0 ?r16_0x3
      case h16_0x3 => (intro w hS; go_simp; try with_reducible rfl)
      case p16_0x3 => (go_simp; try with_reducible rfl)
      refine wpAnyH_takeN (i := 2) (v := ?v16_2x3) (l' := bm 29 5) (a' := ?a16_2x3) rfl (by kernel_rfl) (by kernel_rfl) (by kernel_rfl) (fun _ _ _ h => h) (Or.inl ⟨by kernel_rfl, ?h16_2x3⟩) (by kernel_rfl) ?p16_2x3 hS0 ?r16_2x3
      case h16_2x3 => (intro w hS; go_simp; try with_reducible rfl)
      case p16_2x3 => (go_simp; try with_reducible rfl)
      refine wpAnyH_oneN (i := 1) (l' := bm 29 7) rfl (by kernel_rfl) (by kernel_rfl) (by kernel_rfl) (fun K hK => ?_)
      have hP := hS0.1
      go_simp
      go_at_call 30
      refine (P1.out _).mono ?_
      rintro r w49 ⟨rfl, hb⟩
      dsimp only
      have D49 := Lib.hid (below_step hP hb)
      clear hb
      have hS1 := HO.out _ (D49.out)
      clear hP hS0
      refine hK _ _ hS1 ?_
      clear hK K
      refine wpAnyH_oneN (i := 3) (l' := bm 29 15) rfl (by kernel_rfl) (by kernel_rfl) (by kernel_rfl) (fun K hK => ?_)
      have hP := hS1.1
      go_simp
      go_at_call 30
      refine (P2.out _).mono ?_
      rintro r w50 ⟨rfl, hb⟩
      dsimp only
      have D50 := Lib.hid (below_step hP hb)
      clear hb
      have hS2 := HO.out _ (D50.out)
      clear hP hS1
      refine hK _ _ hS2 ?_
      clear hK K
      refine wpAnyH_oneN (i := 4) (l' := bm 29 31) rfl (by kernel_rfl) (by kernel_rfl) (by kernel_rfl) (fun K hK => ?_)
      have hP := hS2.1
      go_simp
      go_at_call 68
      refine (S1.out _).mono ?_
      rintro r w51 ⟨rfl, hb⟩
      dsimp only
      have D51 := Lib.hid (below_step hP hb)
      clear hb
      have hS3 := HO.out _ (D51.out)
      clear hP hS2
      refine hK _ _ hS3 ?_
      clear hK K
      refine wpAnyH_takeN (i := 5) (v := ?v16_5x3) (l' := bm 29 63) (a' := ?a16_5x3) rfl (by kernel_rfl) (by kernel_rfl) (by kernel_rfl) (fun _ _ _ h => h) (Or.inl ⟨by kernel_rfl, ?h16_5x3⟩) (by kernel_rfl) ?p16_5x3 hS3 ?r16_5x3
      case h16_5x3 => (intro w hS; go_simp; try with_reducible rfl)
      case p16_5x3 => (go_simp; try with_reducible rfl)
      refine wpAnyH_takeN (i := 6) (v := ?v16_6x3) (l' := bm 29 127) (a' := ?a16_6x3) rfl (by kernel_rfl) (by kernel_rfl) (by kernel_rfl) (fun _ _ _ h => h) (Or.inl ⟨by kernel_rfl, ?h16_6x3⟩) (by kernel_rfl) ?p16_6x3 hS3 ?r16_6x3
      case h16_6x3 => (intro w hS; go_simp; try with_reducible rfl)
      case p16_6x3 => (go_simp; try with_reducible rfl)
      refine wpAnyH_takeN (i := 7) (v := ?v16_7x3) (l' := bm 29 255) (a' := ?a16_7x3) rfl (by kernel_rfl) (by kernel_rfl) (by kernel_rfl) (fun _ _ _ h => h) (Or.inl ⟨by kernel_rfl, ?h16_7x3⟩) (by kernel_rfl) ?p16_7x3 hS3 ?r16_7x3
      case h16_7x3 => (intro w hS; go_simp; try with_reducible rfl)
      case p16_7x3 => (go_simp; try with_reducible rfl)
      refine wpAnyH_takeN (i := 9) (v := ?v16_9x3) (l' := bm 29 767) (a' := ?a16_9x3) rfl (by kernel_rfl) (by kernel_rfl) (by kernel_rfl) (fun _ _ _ h => h) (Or.inl ⟨by kernel_rfl, ?h16_9x3⟩) (by kernel_rfl) ?p16_9x3 hS3 ?r16_9x3
      case h16_9x3 => (intro w hS; go_simp; try with_reducible rfl)
      case p16_9x3 => (go_simp; try with_reducible rfl)
      refine wpAnyH_takeN (i := 10) (v := ?v16_10x3) (l' := bm 29 1791) (a' := ?a16_10x3) rfl (by kernel_rfl) (by kernel_rfl) (by kernel_rfl) (fun _ _ _ h => h) (Or.inl ⟨by kernel_rfl, ?h16_10x3⟩) (by kernel_rfl) ?p16_10x3 hS3 ?r16_10x3
      case h16_10x3 => (intro w hS; go_simp; try with_reducible rfl)
      case p16_10x3 => (go_simp; try with_reducible rfl)
      refine wpAnyH_oneN (i := 8) (l' := bm 29 2047) rfl (by kernel_rfl) (by kernel_rfl) (by kernel_rfl) (fun K hK => ?_)
      have hP := hS3.1
      go_simp
      go_at_call 31
      refine (L1.out _).mono ?_
      rintro r w52 ⟨rfl, hb⟩
      dsimp only
      have D52 := Lib.hid (below_step hP hb)
      clear hb
      have hS4 := HO.out _ (D52.out)
      clear hP hS3
      refine hK _ _ hS4 ?_
      clear hK K
      refine wpAnyH_oneN (i := 11) (l' := bm 29 4095) rfl (by kernel_rfl) (by kernel_rfl) (by kernel_rfl) (fun K hK => ?_)
      have hP := hS4.1
      go_simp
      go_at_call 31
      refine (L2.out _).mono ?_
      rintro r w53 ⟨rfl, hb⟩
      dsimp only
      have D53 := Lib.hid (below_step hP hb)
      clear hb
      have hS5 := HO.out _ (D53.out)
      clear hP hS4
      refine hK _ _ hS5 ?_
      clear hK K
      refine wpAnyH_oneN (i := 12) (l' := bm 29 8191) rfl (by kernel_rfl) (by kernel_rfl) (by kernel_rfl) (fun K hK => ?_)
      have hP := hS5.1
      go_simp
      go_at_call 68
      refine (S2.out _).mono ?_
      rintro r w54 ⟨rfl, hb⟩
      dsimp only
      have D54 := Lib.hid (below_step hP hb)
      clear hb
      have hS6 := HO.out _ (D54.out)
      clear hP hS5
      refine hK _ _ hS6 ?_
      clear hK K
      refine wpAnyH_takeN (i := 13) (v := ?v16_13x3) (l' := bm 29 16383) (a' := ?a16_13x3) rfl (by kernel_rfl) (by kernel_rfl) (by kernel_rfl) (fun _ _ _ h => h) (Or.inl ⟨by kernel_rfl, ?h16_13x3⟩) (by kernel_rfl) ?p16_13x3 hS6 ?r16_13x3
      case h16_13x3 => (intro w hS; go_simp; try with_reducible rfl)
      case p16_13x3 => (go_simp; try with_reducible rfl)
      refine wpAnyH_takeN (i := 14) (v := ?v16_14x3) (l' := bm 29 32767) (a' := ?a16_14x3) rfl (by kernel_rfl) (by kernel_rfl) (by kernel_rfl) (fun _ _ _ h => h) (Or.inl ⟨by kernel_rfl, ?h16_14x3⟩) (by kernel_rfl) ?p16_14x3 hS6 ?r16_14x3
      case h16_14x3 => (intro w hS; go_simp; try with_reducible rfl)
      case p16_14x3 => (go_simp; try with_reducible rfl)
      refine wpAnyH_takeN (i := 15) (v := ?v16_15x3) (l' := bm 29 65535) (a' := ?a16_15x3) rfl (by kernel_rfl) (by kernel_rfl) (by kernel_rfl) (fun _ _ _ h => h) (Or.inl ⟨by kernel_rfl, ?h16_15x3⟩) (by kernel_rfl) ?p16_15x3 hS6 ?r16_15x3
      case h16_15x3 => (intro w hS; go_simp; try with_reducible rfl)
      case p16_15x3 => (go_simp; try with_reducible rfl)
      refine wpAnyH_takeN (i := 16) (v := ?v16_16x3) (l' := bm 29 131071) (a' := ?a16_16x3) rfl (by kernel_rfl) (by kernel_rfl) (by kernel_rfl) (fun _ _ _ h => h) (Or.inl ⟨by kernel_rfl, ?h16_16x3⟩) (by kernel_rfl) ?p16_16x3 hS6 ?r16_16x3
      case h16_16x3 => (intro w hS; go_simp; try with_reducible rfl)
      case p16_16x3 => (go_simp; try with_reducible rfl)
      refine wpAnyH_oneN (i := 17) (l' := bm 29 262143) rfl (by kernel_rfl) (by kernel_rfl) (by kernel_rfl) (fun K hK => ?_)
      have hP := hS6.1
      go_simp
      go_at_call 68
      refine (S3.out _).mono ?_
      rintro r w55 ⟨rfl, hb⟩
      dsimp only
      have D55 := Lib.hid (below_step hP hb)
      clear hb
      have hS7 := HO.out _ (D55.out)
      clear hP hS6
      refine hK _ _ hS7 ?_
      clear hK K
      refine wpAnyH_takeN (i := 18) (v := ?v16_18x3) (l' := bm 29 524287) (a' := ?a16_18x3) rfl (by kernel_rfl) (by kernel_rfl) (by kernel_rfl) (fun _ _ _ h => h) (Or.inl ⟨by kernel_rfl, ?h16_18x3⟩) (by kernel_rfl) ?p16_18x3 hS7 ?r16_18x3
      case h16_18x3 => (intro w hS; go_simp; try with_reducible rfl)
      case p16_18x3 => (go_simp; try with_reducible rfl)
      refine wpAnyH_takeN (i := 19) (v := ?v16_19x3) (l' := bm 29 1048575) (a' := ?a16_19x3) rfl (by kernel_rfl) (by kernel_rfl) (by kernel_rfl) (fun _ _ _ h => h) (Or.inl ⟨by kernel_rfl, ?h16_19x3⟩) (by kernel_rfl) ?p16_19x3 hS7 ?r16_19x3
      case h16_19x3 => (intro w hS; go_simp; try with_reducible rfl)
      case p16_19x3 => (go_simp; try with_reducible rfl)
      refine wpAnyH_takeN (i := 20) (v := ?v16_20x3) (l' := bm 29 2097151) (a' := ?a16_20x3) rfl (by kernel_rfl) (by kernel_rfl) (by kernel_rfl) (fun _ _ _ h => h) (Or.inl ⟨by kernel_rfl, ?h16_20x3⟩) (by kernel_rfl) ?p16_20x3 hS7 ?r16_20x3
      case h16_20x3 => (intro w hS; go_simp; try with_reducible rfl)
      case p16_20x3 => (go_simp; try with_reducible rfl)
      refine wpAnyH_takeN (i := 21) (v := ?v16_21x3) (l' := bm 29 4194303) (a' := ?a16_21x3) rfl (by kernel_rfl) (by kernel_rfl) (by kernel_rfl) (fun _ _ _ h => h) (Or.inl ⟨by kernel_rfl, ?h16_21x3⟩) (by kernel_rfl) ?p16_21x3 hS7 ?r16_21x3
      case h16_21x3 => (intro w hS; go_simp; try with_reducible rfl)
      case p16_21x3 => (go_simp; try with_reducible rfl)
      refine wpAnyH_takeN (i := 22) (v := ?v16_22x3) (l' := bm 29 8388607) (a' := ?a16_22x3) rfl (by kernel_rfl) (by kernel_rfl) (by kernel_rfl) (fun _ _ _ h => h) (Or.inl ⟨by kernel_rfl, ?h16_22x3⟩) (by kernel_rfl) ?p16_22x3 hS7 ?r16_22x3
      case h16_22x3 => (intro w hS; go_simp; try with_reducible rfl)
      case p16_22x3 => (go_simp; try with_reducible rfl)
      refine wpAnyH_takeN (i := 23) (v := undef) (l' := bm 29 16777215) (a' := ?a16_23x3) rfl (by kernel_rfl) (by kernel_rfl) (by kernel_rfl) (fun _ _ _ h => h) (Or.inr ⟨by kernel_rfl, rfl⟩) (by kernel_rfl) ?p16_23x3 hS7 ?_
      case p16_23x3 => (go_simp; try with_reducible rfl)
      refine wpAnyH_takeN (i := 24) (v := undef) (l' := bm 29 33554431) (a' := ?a16_24x3) rfl (by kernel_rfl) (by kernel_rfl) (by kernel_rfl) (fun _ _ _ h => h) (Or.inr ⟨by kernel_rfl, rfl⟩) (by kernel_rfl) ?p16_24x3 hS7 ?_
      case p16_24x3 => (go_simp; try with_reducible rfl)
      refine wpAnyH_takeN (i := 25) (v := undef) (l' := bm 29 67108863) (a' := ?a16_25x3) rfl (by kernel_rfl) (by kernel_rfl) (by kernel_rfl) (fun _ _ _ h => h) (Or.inr ⟨by kernel_rfl, rfl⟩) (by kernel_rfl) ?p16_25x3 hS7 ?_
      case p16_25x3 => (go_simp; try with_reducible rfl)
      refine wpAnyH_takeN (i := 26) (v := ?v16_26x3) (l' := bm 29 134217727) (a' := ?a16_26x3) rfl (by kernel_rfl) (by kernel_rfl) (by kernel_rfl) (fun _ _ _ h => h) (Or.inl ⟨by kernel_rfl, ?h16_26x3⟩) (by kernel_rfl) ?p16_26x3 hS7 ?r16_26x3
      case h16_26x3 => (intro w hS; go_simp; try with_reducible rfl)
      case p16_26x3 => (go_simp; try with_reducible rfl)
      refine wpAnyH_takeN (i := 27) (v := ?v16_27x3) (l' := bm 29 268435455) (a' := ?a16_27x3) rfl (by kernel_rfl) (by kernel_rfl) (by kernel_rfl) (fun _ _ _ h => h) (Or.inl ⟨by kernel_rfl, ?h16_27x3⟩) (by kernel_rfl) ?p16_27x3 hS7 ?r16_27x3
      case h16_27x3 => (intro w hS; go_simp; try with_reducible rfl)
      case p16_27x3 => (go_simp; try with_reducible rfl)
      refine wpAnyH_takeN (i := 28) (v := ?v16_28x3) (l' := bm 29 536870911) (a' := ?a16_28x3) rfl (by kernel_rfl) (by kernel_rfl) (by kernel_rfl) (fun _ _ _ h => h) (Or.inl ⟨by kernel_rfl, ?h16_28x3⟩) (by kernel_rfl) ?p16_28x3 hS7 ?r16_28x3
      case h16_28x3 => (intro w hS; go_simp; try with_reducible rfl)
      case p16_28x3 => (go_simp; try with_reducible rfl)
      refine wpAnyH_done (by kernel_rfl) ?_ _
      clear hS7
      have hq := (HO.out _ D55.out).2
      go_wp2_with fail
      go_ret
      exact ⟨ret_bool (by simp), below_step HB.out D55.out⟩
end Go.Proofs.Ytlpnfgglpoppfaa
