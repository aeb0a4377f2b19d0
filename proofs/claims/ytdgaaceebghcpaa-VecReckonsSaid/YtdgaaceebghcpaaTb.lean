/- Vectors of spans: each by each, through a function that is handed in. -/
import Derived.Test.YtdgaaceebghcpaaTa
set_option linter.unusedVariables false
set_option linter.unusedSimpArgs false
namespace Go.Proofs.Ytdgaaceebghcpaa
open Go.RowKit

theorem below_at {B : Nat} {W w1 w2 : World} (h : Below B W w1) (hB : B ≤ W.heap.size) (k : Below w1.heap.size w1 w2) : Below B W w2 := h.trans (k.mono (Nat.le_trans hB h.size))
theorem vbox4 (w : World) (t1 t2 t3 t4 : TypeId) (c1 c2 c3 c4 : Array Value) : ∃ W, W = (((w.alloc (.cells c1 t1)).alloc (.cells c2 t2)).alloc (.cells c3 t3)).alloc (.cells c4 t4) ∧ Blk W w.heap.size t1 c1 ∧ Blk W (w.heap.size + 1) t2 c2 ∧ Blk W (w.heap.size + 1 + 1) t3 c3 ∧ Blk W (w.heap.size + 1 + 1 + 1) t4 c4 ∧ Below w.heap.size w W ∧ W.heap.size = w.heap.size + 1 + 1 + 1 + 1 := by
  obtain ⟨W, rfl, k0, k1, k2, hb, hz⟩ := box3 w t1 t2 t3 c1 c2 c3
  exact ⟨_, rfl, k0.alloc _, k1.alloc _, k2.alloc _, Blk.new_at _ _ _ (by omega), hb.alloc (by omega) _, by simp⟩
set_option maxRecDepth 100000 in
set_option maxHeartbeats 4000000 in
theorem each_add (a b p : V3) (w : World)
    (Hx : ∀ w, Calls Try.prog 75 #[.agg #[Value.float FloatKind.f64 a.x.lo, Value.float FloatKind.f64 a.x.hi], .agg #[Value.float FloatKind.f64 b.x.lo, Value.float FloatKind.f64 b.x.hi]] w fun r w' => r = .returned (.agg #[Value.float FloatKind.f64 p.x.lo, Value.float FloatKind.f64 p.x.hi]) ∧ Below w.heap.size w w')
    (Hy : ∀ w, Calls Try.prog 75 #[.agg #[Value.float FloatKind.f64 a.y.lo, Value.float FloatKind.f64 a.y.hi], .agg #[Value.float FloatKind.f64 b.y.lo, Value.float FloatKind.f64 b.y.hi]] w fun r w' => r = .returned (.agg #[Value.float FloatKind.f64 p.y.lo, Value.float FloatKind.f64 p.y.hi]) ∧ Below w.heap.size w w')
    (Hz : ∀ w, Calls Try.prog 75 #[.agg #[Value.float FloatKind.f64 a.z.lo, Value.float FloatKind.f64 a.z.hi], .agg #[Value.float FloatKind.f64 b.z.lo, Value.float FloatKind.f64 b.z.hi]] w fun r w' => r = .returned (.agg #[Value.float FloatKind.f64 p.z.lo, Value.float FloatKind.f64 p.z.hi]) ∧ Below w.heap.size w w')
    : Calls Try.prog 84 #[vval a, vval b, Value.func (Fn.func 75) #[] #[]] w fun r w' => r = .returned (vval p) ∧ Below w.heap.size w w' := by
  have C0 := Lib.hid Hx
  have C1 := Lib.hid Hy
  have C2 := Lib.hid Hz
  clear Hx Hy Hz
  go_enter Try.func84, Try.ntmps84
  go_wp2_with fail
  obtain ⟨W, hW, K0, K1, K2, KO, hB, hz⟩ := vbox4 w 26 26 26 26 #[Value.float FloatKind.f64 a.x.lo, Value.float FloatKind.f64 a.x.hi, Value.float FloatKind.f64 a.y.lo, Value.float FloatKind.f64 a.y.hi, Value.float FloatKind.f64 a.z.lo, Value.float FloatKind.f64 a.z.hi] #[Value.float FloatKind.f64 b.x.lo, Value.float FloatKind.f64 b.x.hi, Value.float FloatKind.f64 b.y.lo, Value.float FloatKind.f64 b.y.hi, Value.float FloatKind.f64 b.z.lo, Value.float FloatKind.f64 b.z.hi] #[Value.float FloatKind.f64 0, Value.float FloatKind.f64 0, Value.float FloatKind.f64 0, Value.float FloatKind.f64 0, Value.float FloatKind.f64 0, Value.float FloatKind.f64 0] #[Value.float FloatKind.f64 0, Value.float FloatKind.f64 0, Value.float FloatKind.f64 0, Value.float FloatKind.f64 0, Value.float FloatKind.f64 0, Value.float FloatKind.f64 0]
  rw [← hW]
  have K0 := Lib.hid K0
  have K1 := Lib.hid K1
  have K2 := Lib.hid K2
  have KO := Lib.hid KO
  have HB := Lib.hid hB
  have hBW : w.heap.size + 1 + 1 + 1 ≤ W.heap.size := by omega
  clear hW hB hz
  have HO := Lib.hid (show ∀ w', Below (w.heap.size + 1 + 1 + 1) W w' → (Below (w.heap.size + 1 + 1 + 1) W w' ∧ w'.cell? ⟨w.heap.size, 0, none⟩ = some (Value.float FloatKind.f64 a.x.lo) ∧ w'.cell? ⟨w.heap.size, 1, none⟩ = some (Value.float FloatKind.f64 a.x.hi) ∧ w'.cell? ⟨w.heap.size, 2, none⟩ = some (Value.float FloatKind.f64 a.y.lo) ∧ w'.cell? ⟨w.heap.size, 3, none⟩ = some (Value.float FloatKind.f64 a.y.hi) ∧ w'.cell? ⟨w.heap.size, 4, none⟩ = some (Value.float FloatKind.f64 a.z.lo) ∧ w'.cell? ⟨w.heap.size, 5, none⟩ = some (Value.float FloatKind.f64 a.z.hi) ∧ w'.cell? ⟨w.heap.size + 1, 0, none⟩ = some (Value.float FloatKind.f64 b.x.lo) ∧ w'.cell? ⟨w.heap.size + 1, 1, none⟩ = some (Value.float FloatKind.f64 b.x.hi) ∧ w'.cell? ⟨w.heap.size + 1, 2, none⟩ = some (Value.float FloatKind.f64 b.y.lo) ∧ w'.cell? ⟨w.heap.size + 1, 3, none⟩ = some (Value.float FloatKind.f64 b.y.hi) ∧ w'.cell? ⟨w.heap.size + 1, 4, none⟩ = some (Value.float FloatKind.f64 b.z.lo) ∧ w'.cell? ⟨w.heap.size + 1, 5, none⟩ = some (Value.float FloatKind.f64 b.z.hi)) from fun w' h => ⟨h, (Blk.below K0.out h (by omega)).cell 0, (Blk.below K0.out h (by omega)).cell 1, (Blk.below K0.out h (by omega)).cell 2, (Blk.below K0.out h (by omega)).cell 3, (Blk.below K0.out h (by omega)).cell 4, (Blk.below K0.out h (by omega)).cell 5, (Blk.below K1.out h (by omega)).cell 0, (Blk.below K1.out h (by omega)).cell 1, (Blk.below K1.out h (by omega)).cell 2, (Blk.below K1.out h (by omega)).cell 3, (Blk.below K1.out h (by omega)).cell 4, (Blk.below K1.out h (by omega)).cell 5⟩)
  have D0 := Lib.hid (Below.refl (w.heap.size + 1 + 1 + 1) W)
  refine wp_loop_rounds 4 ?_
  rw [rounds_succ]
  go_wp2_with fail
  have KD0 := Lib.hid (show Blk (World.drew W) (w.heap.size + 1 + 1 + 1) 26 #[Value.float FloatKind.f64 0, Value.float FloatKind.f64 0, Value.float FloatKind.f64 0, Value.float FloatKind.f64 0, Value.float FloatKind.f64 0, Value.float FloatKind.f64 0] from KO.out)
  refine wp_region_held (S := (fun w' => Below (w.heap.size + 1 + 1 + 1) W w' ∧ w'.cell? ⟨w.heap.size, 0, none⟩ = some (Value.float FloatKind.f64 a.x.lo) ∧ w'.cell? ⟨w.heap.size, 1, none⟩ = some (Value.float FloatKind.f64 a.x.hi) ∧ w'.cell? ⟨w.heap.size, 2, none⟩ = some (Value.float FloatKind.f64 a.y.lo) ∧ w'.cell? ⟨w.heap.size, 3, none⟩ = some (Value.float FloatKind.f64 a.y.hi) ∧ w'.cell? ⟨w.heap.size, 4, none⟩ = some (Value.float FloatKind.f64 a.z.lo) ∧ w'.cell? ⟨w.heap.size, 5, none⟩ = some (Value.float FloatKind.f64 a.z.hi) ∧ w'.cell? ⟨w.heap.size + 1, 0, none⟩ = some (Value.float FloatKind.f64 b.x.lo) ∧ w'.cell? ⟨w.heap.size + 1, 1, none⟩ = some (Value.float FloatKind.f64 b.x.hi) ∧ w'.cell? ⟨w.heap.size + 1, 2, none⟩ = some (Value.float FloatKind.f64 b.y.lo) ∧ w'.cell? ⟨w.heap.size + 1, 3, none⟩ = some (Value.float FloatKind.f64 b.y.hi) ∧ w'.cell? ⟨w.heap.size + 1, 4, none⟩ = some (Value.float FloatKind.f64 b.z.lo) ∧ w'.cell? ⟨w.heap.size + 1, 5, none⟩ = some (Value.float FloatKind.f64 b.z.hi))) (by kernel_rfl) ?_
  (try change wpAnyH _ _ _ _ _ _ _ (World.drew _))
  have hS0 := HO.out _ (Below.drew D0.out)
  refine wpAnyH_takeN (i := 0) (v := ?v5_0) (l' := bm 11 1) (a' := ?a5_0) rfl (by kernel_rfl) (by kernel_rfl) (by kernel_rfl) (fun _ _ _ h => h) (Or.inl ⟨by kernel_rfl, ?h5_0⟩) (by kernel_rfl) ?p5_0 hS0 ?r5_0
  case h5_0 => (intro w hS; go_simp; try with_reducible rfl)
  case p5_0 => (go_simp; try with_reducible rfl)
  refine wpAnyH_takeN (i := 1) (v := ?v5_1) (l' := bm 11 3) (a' := ?a5_1) rfl (by kernel_rfl) (by kernel_rfl) (by kernel_rfl) (fun _ _ _ h => h) (Or.inl ⟨by kernel_rfl, ?h5_1⟩) (by kernel_rfl) ?p5_1 hS0 ?r5_1
  case h5_1 => (intro w hS; go_simp; try with_reducible rfl)
  case p5_1 => (go_simp; try with_reducible rfl)
  refine wpAnyH_takeN (i := 2) (v := ?v5_2) (l' := bm 11 7) (a' := ?a5_2) rfl (by kernel_rfl) (by kernel_rfl) (by kernel_rfl) (fun _ _ _ h => h) (Or.inl ⟨by kernel_rfl, ?h5_2⟩) (by kernel_rfl) ?p5_2 hS0 ?r5_2
  case h5_2 => (intro w hS; go_simp; try with_reducible rfl)
  case p5_2 => (go_simp; try with_reducible rfl)
  refine wpAnyH_takeN (i := 3) (v := ?v5_3) (l' := bm 11 15) (a' := ?a5_3) rfl (by kernel_rfl) (by kernel_rfl) (by kernel_rfl) (fun _ _ _ h => h) (Or.inl ⟨by kernel_rfl, ?h5_3⟩) (by kernel_rfl) ?p5_3 hS0 ?r5_3
  case h5_3 => (intro w hS; go_simp; try with_reducible rfl)
  case p5_3 => (go_simp; try with_reducible rfl)
  refine wpAnyH_takeN (i := 4) (v := ?v5_4) (l' := bm 11 31) (a' := ?a5_4) rfl (by kernel_rfl) (by kernel_rfl) (by kernel_rfl) (fun _ _ _ h => h) (Or.inl ⟨by kernel_rfl, ?h5_4⟩) (by kernel_rfl) ?p5_4 hS0 ?r5_4
  case h5_4 => (intro w hS; go_simp; try with_reducible rfl)
  case p5_4 => (go_simp; try with_reducible rfl)
  refine wpAnyH_takeN (i := 5) (v := ?v5_5) (l' := bm 11 63) (a' := ?a5_5) rfl (by kernel_rfl) (by kernel_rfl) (by kernel_rfl) (fun _ _ _ h => h) (Or.inl ⟨by kernel_rfl, ?h5_5⟩) (by kernel_rfl) ?p5_5 hS0 ?r5_5
  case h5_5 => (intro w hS; go_simp; try with_reducible rfl)
  case p5_5 => (go_simp; try with_reducible rfl)
  refine wpAnyH_takeN (i := 6) (v := ?v5_6) (l' := bm 11 127) (a' := ?a5_6) rfl (by kernel_rfl) (by kernel_rfl) (by kernel_rfl) (fun _ _ _ h => h) (Or.inl ⟨by kernel_rfl, ?h5_6⟩) (by kernel_rfl) ?p5_6 hS0 ?r5_6
  case h5_6 => (intro w hS; go_simp; try with_reducible rfl)
  case p5_6 => (go_simp; try with_reducible rfl)
  refine wpAnyH_takeN (i := 7) (v := ?v5_7) (l' := bm 11 255) (a' := ?a5_7) rfl (by kernel_rfl) (by kernel_rfl) (by kernel_rfl) (fun _ _ _ h => h) (Or.inl ⟨by kernel_rfl, ?h5_7⟩) (by kernel_rfl) ?p5_7 hS0 ?r5_7
  case h5_7 => (intro w hS; go_simp; try with_reducible rfl)
  case p5_7 => (go_simp; try with_reducible rfl)
  refine wpAnyH_oneN (i := 8) (l' := bm 11 511) rfl (by kernel_rfl) (by kernel_rfl) (by kernel_rfl) (fun K hK => ?_)
  have hP := hS0.1
  go_simp
  go_at_call 75
  refine (C0.out _).mono ?_
  rintro r w0_0 ⟨rfl, hb⟩
  dsimp only
  have E0_0 := Lib.hid (below_at hP hBW hb)
  have KE0_0 := Lib.hid (Blk.below KD0.out hb (Blk.lt KD0.out))
  clear hb
  have f0 := KE0_0.out.cell 0
  have f1 := KE0_0.out.cell 1
  have u0 := KE0_0.out.unfrozen 0
  have u1 := KE0_0.out.unfrozen 1
  have hS1 := HO.out _ (E0_0.out)
  clear hP hS0
  refine hK _ _ hS1 ?_
  clear hK K
  refine wpAnyH_takeN (i := 9) (v := ?v5_9) (l' := bm 11 1023) (a' := ?a5_9) rfl (by kernel_rfl) (by kernel_rfl) (by kernel_rfl) (fun _ _ _ h => h) (Or.inl ⟨by kernel_rfl, ?h5_9⟩) (by kernel_rfl) ?p5_9 hS1 ?r5_9
  case h5_9 => (intro w hS; go_simp; try with_reducible rfl)
  case p5_9 => (go_simp; try with_reducible rfl)
  refine wpAnyH_oneN (i := 10) (l' := bm 11 2047) rfl (by kernel_rfl) (by kernel_rfl) (by kernel_rfl) (fun K hK => ?_)
  have hP := hS1.1
  go_simp
  have hS2 := HO.out _ ((Below.setCell (Below.setCell hP (p := ⟨w.heap.size + 1 + 1 + 1, 0, none⟩) (Nat.le_refl _) (Value.float FloatKind.f64 p.x.lo)) (p := ⟨w.heap.size + 1 + 1 + 1, 1, none⟩) (Nat.le_refl _) (Value.float FloatKind.f64 p.x.hi)))
  clear hP hS1
  refine hK _ _ hS2 ?_
  clear hK K
  refine wpAnyH_done (by kernel_rfl) ?_ _
  have DF := hS2.1
  clear hS2 f0 f1 u0 u1
  obtain ⟨V0, hV⟩ : ∃ V, (w0_0.setCell ⟨w.heap.size + 1 + 1 + 1, 0, none⟩ (Value.float FloatKind.f64 p.x.lo)).setCell ⟨w.heap.size + 1 + 1 + 1, 1, none⟩ (Value.float FloatKind.f64 p.x.hi) = V := ⟨_, rfl⟩
  rw [hV] at DF ⊢
  have KF0 := Lib.hid (hV ▸ Blk.set_ (Blk.set_ KE0_0.out 0 _) 1 _ : Blk V0 (w.heap.size + 1 + 1 + 1) 26 #[Value.float FloatKind.f64 p.x.lo, Value.float FloatKind.f64 p.x.hi, Value.float FloatKind.f64 0, Value.float FloatKind.f64 0, Value.float FloatKind.f64 0, Value.float FloatKind.f64 0])
  have G0 := Lib.hid DF
  clear DF hV
  go_wp2_with fail
  rw [rounds_succ]
  go_wp2_with fail
  have KD1 := Lib.hid (show Blk (World.drew V0) (w.heap.size + 1 + 1 + 1) 26 #[Value.float FloatKind.f64 p.x.lo, Value.float FloatKind.f64 p.x.hi, Value.float FloatKind.f64 0, Value.float FloatKind.f64 0, Value.float FloatKind.f64 0, Value.float FloatKind.f64 0] from KF0.out)
  refine wp_region_held (S := (fun w' => Below (w.heap.size + 1 + 1 + 1) W w' ∧ w'.cell? ⟨w.heap.size, 0, none⟩ = some (Value.float FloatKind.f64 a.x.lo) ∧ w'.cell? ⟨w.heap.size, 1, none⟩ = some (Value.float FloatKind.f64 a.x.hi) ∧ w'.cell? ⟨w.heap.size, 2, none⟩ = some (Value.float FloatKind.f64 a.y.lo) ∧ w'.cell? ⟨w.heap.size, 3, none⟩ = some (Value.float FloatKind.f64 a.y.hi) ∧ w'.cell? ⟨w.heap.size, 4, none⟩ = some (Value.float FloatKind.f64 a.z.lo) ∧ w'.cell? ⟨w.heap.size, 5, none⟩ = some (Value.float FloatKind.f64 a.z.hi) ∧ w'.cell? ⟨w.heap.size + 1, 0, none⟩ = some (Value.float FloatKind.f64 b.x.lo) ∧ w'.cell? ⟨w.heap.size + 1, 1, none⟩ = some (Value.float FloatKind.f64 b.x.hi) ∧ w'.cell? ⟨w.heap.size + 1, 2, none⟩ = some (Value.float FloatKind.f64 b.y.lo) ∧ w'.cell? ⟨w.heap.size + 1, 3, none⟩ = some (Value.float FloatKind.f64 b.y.hi) ∧ w'.cell? ⟨w.heap.size + 1, 4, none⟩ = some (Value.float FloatKind.f64 b.z.lo) ∧ w'.cell? ⟨w.heap.size + 1, 5, none⟩ = some (Value.float FloatKind.f64 b.z.hi))) (by kernel_rfl) ?_
  (try change wpAnyH _ _ _ _ _ _ _ (World.drew _))
  have hS0 := HO.out _ (Below.drew G0.out)
  refine wpAnyH_takeN (i := 0) (v := ?v5_0x1) (l' := bm 11 1) (a' := ?a5_0x1) rfl (by kernel_rfl) (by kernel_rfl) (by kernel_rfl) (fun _ _ _ h => h) (Or.inl ⟨by kernel_rfl, ?h5_0x1⟩) (by kernel_rfl) ?p5_0x1 hS0 ?r5_0x1
  case h5_0x1 => (intro w hS; go_simp; try with_reducible rfl)
  case p5_0x1 => (go_simp; try with_reducible rfl)
  refine wpAnyH_takeN (i := 1) (v := ?v5_1x1) (l' := bm 11 3) (a' := ?a5_1x1) rfl (by kernel_rfl) (by kernel_rfl) (by kernel_rfl) (fun _ _ _ h => h) (Or.inl ⟨by kernel_rfl, ?h5_1x1⟩) (by kernel_rfl) ?p5_1x1 hS0 ?r5_1x1
  case h5_1x1 => (intro w hS; go_simp; try with_reducible rfl)
  case p5_1x1 => (go_simp; try with_reducible rfl)
  refine wpAnyH_takeN (i := 2) (v := ?v5_2x1) (l' := bm 11 7) (a' := ?a5_2x1) rfl (by kernel_rfl) (by kernel_rfl) (by kernel_rfl) (fun _ _ _ h => h) (Or.inl ⟨by kernel_rfl, ?h5_2x1⟩) (by kernel_rfl) ?p5_2x1 hS0 ?r5_2x1
  case h5_2x1 => (intro w hS; go_simp; try with_reducible rfl)
  case p5_2x1 => (go_simp; try with_reducible rfl)
  refine wpAnyH_takeN (i := 3) (v := ?v5_3x1) (l' := bm 11 15) (a' := ?a5_3x1) rfl (by kernel_rfl) (by kernel_rfl) (by kernel_rfl) (fun _ _ _ h => h) (Or.inl ⟨by kernel_rfl, ?h5_3x1⟩) (by kernel_rfl) ?p5_3x1 hS0 ?r5_3x1
  case h5_3x1 => (intro w hS; go_simp; try with_reducible rfl)
  case p5_3x1 => (go_simp; try with_reducible rfl)
  refine wpAnyH_takeN (i := 4) (v := ?v5_4x1) (l' := bm 11 31) (a' := ?a5_4x1) rfl (by kernel_rfl) (by kernel_rfl) (by kernel_rfl) (fun _ _ _ h => h) (Or.inl ⟨by kernel_rfl, ?h5_4x1⟩) (by kernel_rfl) ?p5_4x1 hS0 ?r5_4x1
  case h5_4x1 => (intro w hS; go_simp; try with_reducible rfl)
  case p5_4x1 => (go_simp; try with_reducible rfl)
  refine wpAnyH_takeN (i := 5) (v := ?v5_5x1) (l' := bm 11 63) (a' := ?a5_5x1) rfl (by kernel_rfl) (by kernel_rfl) (by kernel_rfl) (fun _ _ _ h => h) (Or.inl ⟨by kernel_rfl, ?h5_5x1⟩) (by kernel_rfl) ?p5_5x1 hS0 ?r5_5x1
  case h5_5x1 => (intro w hS; go_simp; try with_reducible rfl)
  case p5_5x1 => (go_simp; try with_reducible rfl)
  refine wpAnyH_takeN (i := 6) (v := ?v5_6x1) (l' := bm 11 127) (a' := ?a5_6x1) rfl (by kernel_rfl) (by kernel_rfl) (by kernel_rfl) (fun _ _ _ h => h) (Or.inl ⟨by kernel_rfl, ?h5_6x1⟩) (by kernel_rfl) ?p5_6x1 hS0 ?r5_6x1
  case h5_6x1 => (intro w hS; go_simp; try with_reducible rfl)
  case p5_6x1 => (go_simp; try with_reducible rfl)
  refine wpAnyH_takeN (i := 7) (v := ?v5_7x1) (l' := bm 11 255) (a' := ?a5_7x1) rfl (by kernel_rfl) (by kernel_rfl) (by kernel_rfl) (fun _ _ _ h => h) (Or.inl ⟨by kernel_rfl, ?h5_7x1⟩) (by kernel_rfl) ?p5_7x1 hS0 ?r5_7x1
  case h5_7x1 => (intro w hS; go_simp; try with_reducible rfl)
  case p5_7x1 => (go_simp; try with_reducible rfl)
  refine wpAnyH_oneN (i := 8) (l' := bm 11 511) rfl (by kernel_rfl) (by kernel_rfl) (by kernel_rfl) (fun K hK => ?_)
  have hP := hS0.1
  go_simp
  go_at_call 75
  refine (C1.out _).mono ?_
  rintro r w1_0 ⟨rfl, hb⟩
  dsimp only
  have E1_0 := Lib.hid (below_at hP hBW hb)
  have KE1_0 := Lib.hid (Blk.below KD1.out hb (Blk.lt KD1.out))
  clear hb
  have f0 := KE1_0.out.cell 2
  have f1 := KE1_0.out.cell 3
  have u0 := KE1_0.out.unfrozen 2
  have u1 := KE1_0.out.unfrozen 3
  have hS1 := HO.out _ (E1_0.out)
  clear hP hS0
  refine hK _ _ hS1 ?_
  clear hK K
  refine wpAnyH_takeN (i := 9) (v := ?v5_9x1) (l' := bm 11 1023) (a' := ?a5_9x1) rfl (by kernel_rfl) (by kernel_rfl) (by kernel_rfl) (fun _ _ _ h => h) (Or.inl ⟨by kernel_rfl, ?h5_9x1⟩) (by kernel_rfl) ?p5_9x1 hS1 ?r5_9x1
  case h5_9x1 => (intro w hS; go_simp; try with_reducible rfl)
  case p5_9x1 => (go_simp; try with_reducible rfl)
  refine wpAnyH_oneN (i := 10) (l' := bm 11 2047) rfl (by kernel_rfl) (by kernel_rfl) (by kernel_rfl) (fun K hK => ?_)
  have hP := hS1.1
  go_simp
  have hS2 := HO.out _ ((Below.setCell (Below.setCell hP (p := ⟨w.heap.size + 1 + 1 + 1, 2, none⟩) (Nat.le_refl _) (Value.float FloatKind.f64 p.y.lo)) (p := ⟨w.heap.size + 1 + 1 + 1, 3, none⟩) (Nat.le_refl _) (Value.float FloatKind.f64 p.y.hi)))
  clear hP hS1
  refine hK _ _ hS2 ?_
  clear hK K
  refine wpAnyH_done (by kernel_rfl) ?_ _
  have DF := hS2.1
  clear hS2 f0 f1 u0 u1
  obtain ⟨V1, hV⟩ : ∃ V, (w1_0.setCell ⟨w.heap.size + 1 + 1 + 1, 2, none⟩ (Value.float FloatKind.f64 p.y.lo)).setCell ⟨w.heap.size + 1 + 1 + 1, 3, none⟩ (Value.float FloatKind.f64 p.y.hi) = V := ⟨_, rfl⟩
  rw [hV] at DF ⊢
  have KF1 := Lib.hid (hV ▸ Blk.set_ (Blk.set_ KE1_0.out 2 _) 3 _ : Blk V1 (w.heap.size + 1 + 1 + 1) 26 #[Value.float FloatKind.f64 p.x.lo, Value.float FloatKind.f64 p.x.hi, Value.float FloatKind.f64 p.y.lo, Value.float FloatKind.f64 p.y.hi, Value.float FloatKind.f64 0, Value.float FloatKind.f64 0])
  have G1 := Lib.hid DF
  clear DF hV
  go_wp2_with fail
  rw [rounds_succ]
  go_wp2_with fail
  have KD2 := Lib.hid (show Blk (World.drew V1) (w.heap.size + 1 + 1 + 1) 26 #[Value.float FloatKind.f64 p.x.lo, Value.float FloatKind.f64 p.x.hi, Value.float FloatKind.f64 p.y.lo, Value.float FloatKind.f64 p.y.hi, Value.float FloatKind.f64 0, Value.float FloatKind.f64 0] from KF1.out)
  refine wp_region_held (S := (fun w' => Below (w.heap.size + 1 + 1 + 1) W w' ∧ w'.cell? ⟨w.heap.size, 0, none⟩ = some (Value.float FloatKind.f64 a.x.lo) ∧ w'.cell? ⟨w.heap.size, 1, none⟩ = some (Value.float FloatKind.f64 a.x.hi) ∧ w'.cell? ⟨w.heap.size, 2, none⟩ = some (Value.float FloatKind.f64 a.y.lo) ∧ w'.cell? ⟨w.heap.size, 3, none⟩ = some (Value.float FloatKind.f64 a.y.hi) ∧ w'.cell? ⟨w.heap.size, 4, none⟩ = some (Value.float FloatKind.f64 a.z.lo) ∧ w'.cell? ⟨w.heap.size, 5, none⟩ = some (Value.float FloatKind.f64 a.z.hi) ∧ w'.cell? ⟨w.heap.size + 1, 0, none⟩ = some (Value.float FloatKind.f64 b.x.lo) ∧ w'.cell? ⟨w.heap.size + 1, 1, none⟩ = some (Value.float FloatKind.f64 b.x.hi) ∧ w'.cell? ⟨w.heap.size + 1, 2, none⟩ = some (Value.float FloatKind.f64 b.y.lo) ∧ w'.cell? ⟨w.heap.size + 1, 3, none⟩ = some (Value.float FloatKind.f64 b.y.hi) ∧ w'.cell? ⟨w.heap.size + 1, 4, none⟩ = some (Value.float FloatKind.f64 b.z.lo) ∧ w'.cell? ⟨w.heap.size + 1, 5, none⟩ = some (Value.float FloatKind.f64 b.z.hi))) (by kernel_rfl) ?_
  (try change wpAnyH _ _ _ _ _ _ _ (World.drew _))
  have hS0 := HO.out _ (Below.drew G1.out)
  refine wpAnyH_takeN (i := 0) (v := ?v5_0x2) (l' := bm 11 1) (a' := ?a5_0x2) rfl (by kernel_rfl) (by kernel_rfl) (by kernel_rfl) (fun _ _ _ h => h) (Or.inl ⟨by kernel_rfl, ?h5_0x2⟩) (by kernel_rfl) ?p5_0x2 hS0 ?r5_0x2
  case h5_0x2 => (intro w hS; go_simp; try with_reducible rfl)
  case p5_0x2 => (go_simp; try with_reducible rfl)
  refine wpAnyH_takeN (i := 1) (v := ?v5_1x2) (l' := bm 11 3) (a' := ?a5_1x2) rfl (by kernel_rfl) (by kernel_rfl) (by kernel_rfl) (fun _ _ _ h => h) (Or.inl ⟨by kernel_rfl, ?h5_1x2⟩) (by kernel_rfl) ?p5_1x2 hS0 ?r5_1x2
  case h5_1x2 => (intro w hS; go_simp; try with_reducible rfl)
  case p5_1x2 => (go_simp; try with_reducible rfl)
  refine wpAnyH_takeN (i := 2) (v := ?v5_2x2) (l' := bm 11 7) (a' := ?a5_2x2) rfl (by kernel_rfl) (by kernel_rfl) (by kernel_rfl) (fun _ _ _ h => h) (Or.inl ⟨by kernel_rfl, ?h5_2x2⟩) (by kernel_rfl) ?p5_2x2 hS0 ?r5_2x2
  case h5_2x2 => (intro w hS; go_simp; try with_reducible rfl)
  case p5_2x2 => (go_simp; try with_reducible rfl)
  refine wpAnyH_takeN (i := 3) (v := ?v5_3x2) (l' := bm 11 15) (a' := ?a5_3x2) rfl (by kernel_rfl) (by kernel_rfl) (by kernel_rfl) (fun _ _ _ h => h) (Or.inl ⟨by kernel_rfl, ?h5_3x2⟩) (by kernel_rfl) ?p5_3x2 hS0 ?r5_3x2
  case h5_3x2 => (intro w hS; go_simp; try with_reducible rfl)
  case p5_3x2 => (go_simp; try with_reducible rfl)
  refine wpAnyH_takeN (i := 4) (v := ?v5_4x2) (l' := bm 11 31) (a' := ?a5_4x2) rfl (by kernel_rfl) (by kernel_rfl) (by kernel_rfl) (fun _ _ _ h => h) (Or.inl ⟨by kernel_rfl, ?h5_4x2⟩) (by kernel_rfl) ?p5_4x2 hS0 ?r5_4x2
  case h5_4x2 => (intro w hS; go_simp; try with_reducible rfl)
  case p5_4x2 => (go_simp; try with_reducible rfl)
  refine wpAnyH_takeN (i := 5) (v := ?v5_5x2) (l' := bm 11 63) (a' := ?a5_5x2) rfl (by kernel_rfl) (by kernel_rfl) (by kernel_rfl) (fun _ _ _ h => h) (Or.inl ⟨by kernel_rfl, ?h5_5x2⟩) (by kernel_rfl) ?p5_5x2 hS0 ?r5_5x2
  case h5_5x2 => (intro w hS; go_simp; try with_reducible rfl)
  case p5_5x2 => (go_simp; try with_reducible rfl)
  refine wpAnyH_takeN (i := 6) (v := ?v5_6x2) (l' := bm 11 127) (a' := ?a5_6x2) rfl (by kernel_rfl) (by kernel_rfl) (by kernel_rfl) (fun _ _ _ h => h) (Or.inl ⟨by kernel_rfl, ?h5_6x2⟩) (by kernel_rfl) ?p5_6x2 hS0 ?r5_6x2
  case h5_6x2 => (intro w hS; go_simp; try with_reducible rfl)
  case p5_6x2 => (go_simp; try with_reducible rfl)
  refine wpAnyH_takeN (i := 7) (v := ?v5_7x2) (l' := bm 11 255) (a' := ?a5_7x2) rfl (by kernel_rfl) (by kernel_rfl) (by kernel_rfl) (fun _ _ _ h => h) (Or.inl ⟨by kernel_rfl, ?h5_7x2⟩) (by kernel_rfl) ?p5_7x2 hS0 ?r5_7x2
  case h5_7x2 => (intro w hS; go_simp; try with_reducible rfl)
  case p5_7x2 => (go_simp; try with_reducible rfl)
  refine wpAnyH_oneN (i := 8) (l' := bm 11 511) rfl (by kernel_rfl) (by kernel_rfl) (by kernel_rfl) (fun K hK => ?_)
  have hP := hS0.1
  go_simp
  go_at_call 75
  refine (C2.out _).mono ?_
  rintro r w2_0 ⟨rfl, hb⟩
  dsimp only
  have E2_0 := Lib.hid (below_at hP hBW hb)
  have KE2_0 := Lib.hid (Blk.below KD2.out hb (Blk.lt KD2.out))
  clear hb
  have f0 := KE2_0.out.cell 4
  have f1 := KE2_0.out.cell 5
  have u0 := KE2_0.out.unfrozen 4
  have u1 := KE2_0.out.unfrozen 5
  have hS1 := HO.out _ (E2_0.out)
  clear hP hS0
  refine hK _ _ hS1 ?_
  clear hK K
  refine wpAnyH_takeN (i := 9) (v := ?v5_9x2) (l' := bm 11 1023) (a' := ?a5_9x2) rfl (by kernel_rfl) (by kernel_rfl) (by kernel_rfl) (fun _ _ _ h => h) (Or.inl ⟨by kernel_rfl, ?h5_9x2⟩) (by kernel_rfl) ?p5_9x2 hS1 ?r5_9x2
  case h5_9x2 => (intro w hS; go_simp; try with_reducible rfl)
  case p5_9x2 => (go_simp; try with_reducible rfl)
  refine wpAnyH_oneN (i := 10) (l' := bm 11 2047) rfl (by kernel_rfl) (by kernel_rfl) (by kernel_rfl) (fun K hK => ?_)
  have hP := hS1.1
  go_simp
  have hS2 := HO.out _ ((Below.setCell (Below.setCell hP (p := ⟨w.heap.size + 1 + 1 + 1, 4, none⟩) (Nat.le_refl _) (Value.float FloatKind.f64 p.z.lo)) (p := ⟨w.heap.size + 1 + 1 + 1, 5, none⟩) (Nat.le_refl _) (Value.float FloatKind.f64 p.z.hi)))
  clear hP hS1
  refine hK _ _ hS2 ?_
  clear hK K
  refine wpAnyH_done (by kernel_rfl) ?_ _
  have DF := hS2.1
  clear hS2 f0 f1 u0 u1
  obtain ⟨V2, hV⟩ : ∃ V, (w2_0.setCell ⟨w.heap.size + 1 + 1 + 1, 4, none⟩ (Value.float FloatKind.f64 p.z.lo)).setCell ⟨w.heap.size + 1 + 1 + 1, 5, none⟩ (Value.float FloatKind.f64 p.z.hi) = V := ⟨_, rfl⟩
  rw [hV] at DF ⊢
  have KF2 := Lib.hid (hV ▸ Blk.set_ (Blk.set_ KE2_0.out 4 _) 5 _ : Blk V2 (w.heap.size + 1 + 1 + 1) 26 #[Value.float FloatKind.f64 p.x.lo, Value.float FloatKind.f64 p.x.hi, Value.float FloatKind.f64 p.y.lo, Value.float FloatKind.f64 p.y.hi, Value.float FloatKind.f64 p.z.lo, Value.float FloatKind.f64 p.z.hi])
  have G2 := Lib.hid DF
  clear DF hV
  go_wp2_with fail
  rw [rounds_succ]
  have KR := Lib.hid (Blk.below K2.out G2.out (by omega))
  have f0 := KF2.out.cell 0
  have g0 := KR.out.cell 0
  have u0 := KR.out.unfrozen 0
  have f1 := KF2.out.cell 1
  have g1 := KR.out.cell 1
  have u1 := KR.out.unfrozen 1
  have f2 := KF2.out.cell 2
  have g2 := KR.out.cell 2
  have u2 := KR.out.unfrozen 2
  have f3 := KF2.out.cell 3
  have g3 := KR.out.cell 3
  have u3 := KR.out.unfrozen 3
  have f4 := KF2.out.cell 4
  have g4 := KR.out.cell 4
  have u4 := KR.out.unfrozen 4
  have f5 := KF2.out.cell 5
  have g5 := KR.out.cell 5
  have u5 := KR.out.unfrozen 5
  go_wp2_with fail
  (try simp only [Exit.inBlock, Exit.then])
  exact bodyPost_ret (resV rfl _ _ (w.heap.size + 1 + 1) (Value.float FloatKind.f64 p.x.lo) (Value.float FloatKind.f64 p.x.hi) (Value.float FloatKind.f64 p.y.lo) (Value.float FloatKind.f64 p.y.hi) (Value.float FloatKind.f64 p.z.lo) (Value.float FloatKind.f64 p.z.hi) rfl (Blk.set_ (Blk.set_ (Blk.set_ (Blk.set_ (Blk.set_ (Blk.set_ (KR.out) 0 _) 1 _) 2 _) 3 _) 4 _) 5 _)) rfl ⟨rfl, (Below.setCell (Below.setCell (Below.setCell (Below.setCell (Below.setCell (Below.setCell ((HB.out).trans ((G2.out).mono (by omega))) (p := ⟨w.heap.size + 1 + 1, 0, none⟩) (by show w.heap.size ≤ w.heap.size + 1 + 1; omega) _) (p := ⟨w.heap.size + 1 + 1, 1, none⟩) (by show w.heap.size ≤ w.heap.size + 1 + 1; omega) _) (p := ⟨w.heap.size + 1 + 1, 2, none⟩) (by show w.heap.size ≤ w.heap.size + 1 + 1; omega) _) (p := ⟨w.heap.size + 1 + 1, 3, none⟩) (by show w.heap.size ≤ w.heap.size + 1 + 1; omega) _) (p := ⟨w.heap.size + 1 + 1, 4, none⟩) (by show w.heap.size ≤ w.heap.size + 1 + 1; omega) _) (p := ⟨w.heap.size + 1 + 1, 5, none⟩) (by show w.heap.size ≤ w.heap.size + 1 + 1; omega) _)⟩
set_option maxRecDepth 100000 in
set_option maxHeartbeats 4000000 in
theorem vAdd_any (a : V3) (b : V3) (w : World) : Calls Try.prog 39 #[vval a, vval b] w fun r w' => r = .returned (vval (vAdd a b)) ∧ Below w.heap.size w w' := by
  have C0 := Lib.hid (fun w => each_add a b (vAdd a b) w (add_sp a.x b.x) (add_sp a.y b.y) (add_sp a.z b.z))
  generalize vAdd a b = p at *
  go_enter Try.func39, Try.ntmps39
  go_wp2_with fail
  obtain ⟨W, hW, K0, K1, K2, hB, hz⟩ := box3 w 26 26 26 #[Value.float FloatKind.f64 a.x.lo, Value.float FloatKind.f64 a.x.hi, Value.float FloatKind.f64 a.y.lo, Value.float FloatKind.f64 a.y.hi, Value.float FloatKind.f64 a.z.lo, Value.float FloatKind.f64 a.z.hi] #[Value.float FloatKind.f64 b.x.lo, Value.float FloatKind.f64 b.x.hi, Value.float FloatKind.f64 b.y.lo, Value.float FloatKind.f64 b.y.hi, Value.float FloatKind.f64 b.z.lo, Value.float FloatKind.f64 b.z.hi] #[Value.float FloatKind.f64 0, Value.float FloatKind.f64 0, Value.float FloatKind.f64 0, Value.float FloatKind.f64 0, Value.float FloatKind.f64 0, Value.float FloatKind.f64 0]
  rw [← hW]
  have K0 := Lib.hid K0
  have K1 := Lib.hid K1
  have K2 := Lib.hid K2
  have HB := Lib.hid hB
  clear hW hB hz
  have HO := Lib.hid (show ∀ w', Hd W (w.heap.size + 1 + 1) 26 6 w' → (Hd W (w.heap.size + 1 + 1) 26 6 w' ∧ w'.cell? ⟨w.heap.size, 0, none⟩ = some (Value.float FloatKind.f64 a.x.lo) ∧ w'.cell? ⟨w.heap.size, 1, none⟩ = some (Value.float FloatKind.f64 a.x.hi) ∧ w'.cell? ⟨w.heap.size, 2, none⟩ = some (Value.float FloatKind.f64 a.y.lo) ∧ w'.cell? ⟨w.heap.size, 3, none⟩ = some (Value.float FloatKind.f64 a.y.hi) ∧ w'.cell? ⟨w.heap.size, 4, none⟩ = some (Value.float FloatKind.f64 a.z.lo) ∧ w'.cell? ⟨w.heap.size, 5, none⟩ = some (Value.float FloatKind.f64 a.z.hi) ∧ w'.cell? ⟨w.heap.size + 1, 0, none⟩ = some (Value.float FloatKind.f64 b.x.lo) ∧ w'.cell? ⟨w.heap.size + 1, 1, none⟩ = some (Value.float FloatKind.f64 b.x.hi) ∧ w'.cell? ⟨w.heap.size + 1, 2, none⟩ = some (Value.float FloatKind.f64 b.y.lo) ∧ w'.cell? ⟨w.heap.size + 1, 3, none⟩ = some (Value.float FloatKind.f64 b.y.hi) ∧ w'.cell? ⟨w.heap.size + 1, 4, none⟩ = some (Value.float FloatKind.f64 b.z.lo) ∧ w'.cell? ⟨w.heap.size + 1, 5, none⟩ = some (Value.float FloatKind.f64 b.z.hi) ∧ w'.cell? ⟨w.heap.size + 1 + 1, 0, none⟩ = some (cellAt w' ⟨w.heap.size + 1 + 1, 0, none⟩) ∧ w'.frozen? ⟨w.heap.size + 1 + 1, 0, none⟩ = false ∧ w'.cell? ⟨w.heap.size + 1 + 1, 1, none⟩ = some (cellAt w' ⟨w.heap.size + 1 + 1, 1, none⟩) ∧ w'.frozen? ⟨w.heap.size + 1 + 1, 1, none⟩ = false ∧ w'.cell? ⟨w.heap.size + 1 + 1, 2, none⟩ = some (cellAt w' ⟨w.heap.size + 1 + 1, 2, none⟩) ∧ w'.frozen? ⟨w.heap.size + 1 + 1, 2, none⟩ = false ∧ w'.cell? ⟨w.heap.size + 1 + 1, 3, none⟩ = some (cellAt w' ⟨w.heap.size + 1 + 1, 3, none⟩) ∧ w'.frozen? ⟨w.heap.size + 1 + 1, 3, none⟩ = false ∧ w'.cell? ⟨w.heap.size + 1 + 1, 4, none⟩ = some (cellAt w' ⟨w.heap.size + 1 + 1, 4, none⟩) ∧ w'.frozen? ⟨w.heap.size + 1 + 1, 4, none⟩ = false ∧ w'.cell? ⟨w.heap.size + 1 + 1, 5, none⟩ = some (cellAt w' ⟨w.heap.size + 1 + 1, 5, none⟩) ∧ w'.frozen? ⟨w.heap.size + 1 + 1, 5, none⟩ = false) from fun w' h => ⟨h, (h.blk K0.out (by omega)).cell 0, (h.blk K0.out (by omega)).cell 1, (h.blk K0.out (by omega)).cell 2, (h.blk K0.out (by omega)).cell 3, (h.blk K0.out (by omega)).cell 4, (h.blk K0.out (by omega)).cell 5, (h.blk K1.out (by omega)).cell 0, (h.blk K1.out (by omega)).cell 1, (h.blk K1.out (by omega)).cell 2, (h.blk K1.out (by omega)).cell 3, (h.blk K1.out (by omega)).cell 4, (h.blk K1.out (by omega)).cell 5, (h.at_ 0 (by decide)).1, (h.at_ 0 (by decide)).2, (h.at_ 1 (by decide)).1, (h.at_ 1 (by decide)).2, (h.at_ 2 (by decide)).1, (h.at_ 2 (by decide)).2, (h.at_ 3 (by decide)).1, (h.at_ 3 (by decide)).2, (h.at_ 4 (by decide)).1, (h.at_ 4 (by decide)).2, (h.at_ 5 (by decide)).1, (h.at_ 5 (by decide)).2⟩)
  have D0 := Lib.hid (show Hd W (w.heap.size + 1 + 1) 26 6 W from Hd.start K2.out)
  refine (C0.out _).mono ?_
  rintro r w1 ⟨rfl, hb⟩
  have D1 := Lib.hid (Hd.call D0.out hb)
  clear hb
  obtain ⟨-, q0, q1, q2, q3, q4, q5, q6, q7, q8, q9, q10, q11, q12, q13, q14, q15, q16, q17, q18, q19, q20, q21, q22, q23⟩ := HO.out _ D1.out
  have z1 := Hd.lt D1.out
  go_wp2_with fail
  (try simp only [Exit.inBlock, Exit.then])
  have hF := (Hd.set (Hd.set (Hd.set (Hd.set (Hd.set (Hd.set D1.out 0 (Value.float FloatKind.f64 p.x.lo)) 1 (Value.float FloatKind.f64 p.x.hi)) 2 (Value.float FloatKind.f64 p.y.lo)) 3 (Value.float FloatKind.f64 p.y.hi)) 4 (Value.float FloatKind.f64 p.z.lo)) 5 (Value.float FloatKind.f64 p.z.hi))
  exact bodyPost_ret (resV rfl _ _ (w.heap.size + 1 + 1) (Value.float FloatKind.f64 p.x.lo) (Value.float FloatKind.f64 p.x.hi) (Value.float FloatKind.f64 p.y.lo) (Value.float FloatKind.f64 p.y.hi) (Value.float FloatKind.f64 p.z.lo) (Value.float FloatKind.f64 p.z.hi) rfl (Hd.wrote6 hF)) rfl ⟨rfl, Hd.below hF HB.out (by omega)⟩
set_option maxRecDepth 100000 in
set_option maxHeartbeats 4000000 in
theorem each_sub (a b p : V3) (w : World)
    (Hx : ∀ w, Calls Try.prog 77 #[.agg #[Value.float FloatKind.f64 a.x.lo, Value.float FloatKind.f64 a.x.hi], .agg #[Value.float FloatKind.f64 b.x.lo, Value.float FloatKind.f64 b.x.hi]] w fun r w' => r = .returned (.agg #[Value.float FloatKind.f64 p.x.lo, Value.float FloatKind.f64 p.x.hi]) ∧ Below w.heap.size w w')
    (Hy : ∀ w, Calls Try.prog 77 #[.agg #[Value.float FloatKind.f64 a.y.lo, Value.float FloatKind.f64 a.y.hi], .agg #[Value.float FloatKind.f64 b.y.lo, Value.float FloatKind.f64 b.y.hi]] w fun r w' => r = .returned (.agg #[Value.float FloatKind.f64 p.y.lo, Value.float FloatKind.f64 p.y.hi]) ∧ Below w.heap.size w w')
    (Hz : ∀ w, Calls Try.prog 77 #[.agg #[Value.float FloatKind.f64 a.z.lo, Value.float FloatKind.f64 a.z.hi], .agg #[Value.float FloatKind.f64 b.z.lo, Value.float FloatKind.f64 b.z.hi]] w fun r w' => r = .returned (.agg #[Value.float FloatKind.f64 p.z.lo, Value.float FloatKind.f64 p.z.hi]) ∧ Below w.heap.size w w')
    : Calls Try.prog 84 #[vval a, vval b, Value.func (Fn.func 77) #[] #[]] w fun r w' => r = .returned (vval p) ∧ Below w.heap.size w w' := by
  have C0 := Lib.hid Hx
  have C1 := Lib.hid Hy
  have C2 := Lib.hid Hz
  clear Hx Hy Hz
  go_enter Try.func84, Try.ntmps84
  go_wp2_with fail
  obtain ⟨W, hW, K0, K1, K2, KO, hB, hz⟩ := vbox4 w 26 26 26 26 #[Value.float FloatKind.f64 a.x.lo, Value.float FloatKind.f64 a.x.hi, Value.float FloatKind.f64 a.y.lo, Value.float FloatKind.f64 a.y.hi, Value.float FloatKind.f64 a.z.lo, Value.float FloatKind.f64 a.z.hi] #[Value.float FloatKind.f64 b.x.lo, Value.float FloatKind.f64 b.x.hi, Value.float FloatKind.f64 b.y.lo, Value.float FloatKind.f64 b.y.hi, Value.float FloatKind.f64 b.z.lo, Value.float FloatKind.f64 b.z.hi] #[Value.float FloatKind.f64 0, Value.float FloatKind.f64 0, Value.float FloatKind.f64 0, Value.float FloatKind.f64 0, Value.float FloatKind.f64 0, Value.float FloatKind.f64 0] #[Value.float FloatKind.f64 0, Value.float FloatKind.f64 0, Value.float FloatKind.f64 0, Value.float FloatKind.f64 0, Value.float FloatKind.f64 0, Value.float FloatKind.f64 0]
  rw [← hW]
  have K0 := Lib.hid K0
  have K1 := Lib.hid K1
  have K2 := Lib.hid K2
  have KO := Lib.hid KO
  have HB := Lib.hid hB
  have hBW : w.heap.size + 1 + 1 + 1 ≤ W.heap.size := by omega
  clear hW hB hz
  have HO := Lib.hid (show ∀ w', Below (w.heap.size + 1 + 1 + 1) W w' → (Below (w.heap.size + 1 + 1 + 1) W w' ∧ w'.cell? ⟨w.heap.size, 0, none⟩ = some (Value.float FloatKind.f64 a.x.lo) ∧ w'.cell? ⟨w.heap.size, 1, none⟩ = some (Value.float FloatKind.f64 a.x.hi) ∧ w'.cell? ⟨w.heap.size, 2, none⟩ = some (Value.float FloatKind.f64 a.y.lo) ∧ w'.cell? ⟨w.heap.size, 3, none⟩ = some (Value.float FloatKind.f64 a.y.hi) ∧ w'.cell? ⟨w.heap.size, 4, none⟩ = some (Value.float FloatKind.f64 a.z.lo) ∧ w'.cell? ⟨w.heap.size, 5, none⟩ = some (Value.float FloatKind.f64 a.z.hi) ∧ w'.cell? ⟨w.heap.size + 1, 0, none⟩ = some (Value.float FloatKind.f64 b.x.lo) ∧ w'.cell? ⟨w.heap.size + 1, 1, none⟩ = some (Value.float FloatKind.f64 b.x.hi) ∧ w'.cell? ⟨w.heap.size + 1, 2, none⟩ = some (Value.float FloatKind.f64 b.y.lo) ∧ w'.cell? ⟨w.heap.size + 1, 3, none⟩ = some (Value.float FloatKind.f64 b.y.hi) ∧ w'.cell? ⟨w.heap.size + 1, 4, none⟩ = some (Value.float FloatKind.f64 b.z.lo) ∧ w'.cell? ⟨w.heap.size + 1, 5, none⟩ = some (Value.float FloatKind.f64 b.z.hi)) from fun w' h => ⟨h, (Blk.below K0.out h (by omega)).cell 0, (Blk.below K0.out h (by omega)).cell 1, (Blk.below K0.out h (by omega)).cell 2, (Blk.below K0.out h (by omega)).cell 3, (Blk.below K0.out h (by omega)).cell 4, (Blk.below K0.out h (by omega)).cell 5, (Blk.below K1.out h (by omega)).cell 0, (Blk.below K1.out h (by omega)).cell 1, (Blk.below K1.out h (by omega)).cell 2, (Blk.below K1.out h (by omega)).cell 3, (Blk.below K1.out h (by omega)).cell 4, (Blk.below K1.out h (by omega)).cell 5⟩)
  have D0 := Lib.hid (Below.refl (w.heap.size + 1 + 1 + 1) W)
  refine wp_loop_rounds 4 ?_
  rw [rounds_succ]
  go_wp2_with fail
  have KD0 := Lib.hid (show Blk (World.drew W) (w.heap.size + 1 + 1 + 1) 26 #[Value.float FloatKind.f64 0, Value.float FloatKind.f64 0, Value.float FloatKind.f64 0, Value.float FloatKind.f64 0, Value.float FloatKind.f64 0, Value.float FloatKind.f64 0] from KO.out)
  refine wp_region_held (S := (fun w' => Below (w.heap.size + 1 + 1 + 1) W w' ∧ w'.cell? ⟨w.heap.size, 0, none⟩ = some (Value.float FloatKind.f64 a.x.lo) ∧ w'.cell? ⟨w.heap.size, 1, none⟩ = some (Value.float FloatKind.f64 a.x.hi) ∧ w'.cell? ⟨w.heap.size, 2, none⟩ = some (Value.float FloatKind.f64 a.y.lo) ∧ w'.cell? ⟨w.heap.size, 3, none⟩ = some (Value.float FloatKind.f64 a.y.hi) ∧ w'.cell? ⟨w.heap.size, 4, none⟩ = some (Value.float FloatKind.f64 a.z.lo) ∧ w'.cell? ⟨w.heap.size, 5, none⟩ = some (Value.float FloatKind.f64 a.z.hi) ∧ w'.cell? ⟨w.heap.size + 1, 0, none⟩ = some (Value.float FloatKind.f64 b.x.lo) ∧ w'.cell? ⟨w.heap.size + 1, 1, none⟩ = some (Value.float FloatKind.f64 b.x.hi) ∧ w'.cell? ⟨w.heap.size + 1, 2, none⟩ = some (Value.float FloatKind.f64 b.y.lo) ∧ w'.cell? ⟨w.heap.size + 1, 3, none⟩ = some (Value.float FloatKind.f64 b.y.hi) ∧ w'.cell? ⟨w.heap.size + 1, 4, none⟩ = some (Value.float FloatKind.f64 b.z.lo) ∧ w'.cell? ⟨w.heap.size + 1, 5, none⟩ = some (Value.float FloatKind.f64 b.z.hi))) (by kernel_rfl) ?_
  (try change wpAnyH _ _ _ _ _ _ _ (World.drew _))
  have hS0 := HO.out _ (Below.drew D0.out)
  refine wpAnyH_takeN (i := 0) (v := ?v5_0x3) (l' := bm 11 1) (a' := ?a5_0x3) rfl (by kernel_rfl) (by kernel_rfl) (by kernel_rfl) (fun _ _ _ h => h) (Or.inl ⟨by kernel_rfl, ?h5_0x3⟩) (by kernel_rfl) ?p5_0x3 hS0 ?r5_0x3
  case h5_0x3 => (intro w hS; go_simp; try with_reducible rfl)
  case p5_0x3 => (go_simp; try with_reducible rfl)
  refine wpAnyH_takeN (i := 1) (v := ?v5_1x3) (l' := bm 11 3) (a' := ?a5_1x3) rfl (by kernel_rfl) (by kernel_rfl) (by kernel_rfl) (fun _ _ _ h => h) (Or.inl ⟨by kernel_rfl, ?h5_1x3⟩) (by kernel_rfl) ?p5_1x3 hS0 ?r5_1x3
  case h5_1x3 => (intro w hS; go_simp; try with_reducible rfl)
  case p5_1x3 => (go_simp; try with_reducible rfl)
  refine wpAnyH_takeN (i := 2) (v := ?v5_2x3) (l' := bm 11 7) (a' := ?a5_2x3) rfl (by kernel_rfl) (by kernel_rfl) (by kernel_rfl) (fun _ _ _ h => h) (Or.inl ⟨by kernel_rfl, ?h5_2x3⟩) (by kernel_rfl) ?p5_2x3 hS0 ?r5_2x3
  case h5_2x3 => (intro w hS; go_simp; try with_reducible rfl)
  case p5_2x3 => (go_simp; try with_reducible rfl)
  refine wpAnyH_takeN (i := 3) (v := ?v5_3x3) (l' := bm 11 15) (a' := ?a5_3x3) rfl (by kernel_rfl) (by kernel_rfl) (by kernel_rfl) (fun _ _ _ h => h) (Or.inl ⟨by kernel_rfl, ?h5_3x3⟩) (by kernel_rfl) ?p5_3x3 hS0 ?r5_3x3
  case h5_3x3 => (intro w hS; go_simp; try with_reducible rfl)
  case p5_3x3 => (go_simp; try with_reducible rfl)
  refine wpAnyH_takeN (i := 4) (v := ?v5_4x3) (l' := bm 11 31) (a' := ?a5_4x3) rfl (by kernel_rfl) (by kernel_rfl) (by kernel_rfl) (fun _ _ _ h => h) (Or.inl ⟨by kernel_rfl, ?h5_4x3⟩) (by kernel_rfl) ?p5_4x3 hS0 ?r5_4x3
  case h5_4x3 => (intro w hS; go_simp; try with_reducible rfl)
  case p5_4x3 => (go_simp; try with_reducible rfl)
  refine wpAnyH_takeN (i := 5) (v := ?v5_5x3) (l' := bm 11 63) (a' := ?a5_5x3) rfl (by kernel_rfl) (by kernel_rfl) (by kernel_rfl) (fun _ _ _ h => h) (Or.inl ⟨by kernel_rfl, ?h5_5x3⟩) (by kernel_rfl) ?p5_5x3 hS0 ?r5_5x3
  case h5_5x3 => (intro w hS; go_simp; try with_reducible rfl)
  case p5_5x3 => (go_simp; try with_reducible rfl)
  refine wpAnyH_takeN (i := 6) (v := ?v5_6x3) (l' := bm 11 127) (a' := ?a5_6x3) rfl (by kernel_rfl) (by kernel_rfl) (by kernel_rfl) (fun _ _ _ h => h) (Or.inl ⟨by kernel_rfl, ?h5_6x3⟩) (by kernel_rfl) ?p5_6x3 hS0 ?r5_6x3
  case h5_6x3 => (intro w hS; go_simp; try with_reducible rfl)
  case p5_6x3 => (go_simp; try with_reducible rfl)
  refine wpAnyH_takeN (i := 7) (v := ?v5_7x3) (l' := bm 11 255) (a' := ?a5_7x3) rfl (by kernel_rfl) (by kernel_rfl) (by kernel_rfl) (fun _ _ _ h => h) (Or.inl ⟨by kernel_rfl, ?h5_7x3⟩) (by kernel_rfl) ?p5_7x3 hS0 ?r5_7x3
  case h5_7x3 => (intro w hS; go_simp; try with_reducible rfl)
  case p5_7x3 => (go_simp; try with_reducible rfl)
  refine wpAnyH_oneN (i := 8) (l' := bm 11 511) rfl (by kernel_rfl) (by kernel_rfl) (by kernel_rfl) (fun K hK => ?_)
  have hP := hS0.1
  go_simp
  go_at_call 77
  refine (C0.out _).mono ?_
  rintro r w0_0 ⟨rfl, hb⟩
  dsimp only
  have E0_0 := Lib.hid (below_at hP hBW hb)
  have KE0_0 := Lib.hid (Blk.below KD0.out hb (Blk.lt KD0.out))
  clear hb
  have f0 := KE0_0.out.cell 0
  have f1 := KE0_0.out.cell 1
  have u0 := KE0_0.out.unfrozen 0
  have u1 := KE0_0.out.unfrozen 1
  have hS1 := HO.out _ (E0_0.out)
  clear hP hS0
  refine hK _ _ hS1 ?_
  clear hK K
  refine wpAnyH_takeN (i := 9) (v := ?v5_9x3) (l' := bm 11 1023) (a' := ?a5_9x3) rfl (by kernel_rfl) (by kernel_rfl) (by kernel_rfl) (fun _ _ _ h => h) (Or.inl ⟨by kernel_rfl, ?h5_9x3⟩) (by kernel_rfl) ?p5_9x3 hS1 ?r5_9x3
  case h5_9x3 => (intro w hS; go_simp; try with_reducible rfl)
  case p5_9x3 => (go_simp; try with_reducible rfl)
  refine wpAnyH_oneN (i := 10) (l' := bm 11 2047) rfl (by kernel_rfl) (by kernel_rfl) (by kernel_rfl) (fun K hK => ?_)
  have hP := hS1.1
  go_simp
  have hS2 := HO.out _ ((Below.setCell (Below.setCell hP (p := ⟨w.heap.size + 1 + 1 + 1, 0, none⟩) (Nat.le_refl _) (Value.float FloatKind.f64 p.x.lo)) (p := ⟨w.heap.size + 1 + 1 + 1, 1, none⟩) (Nat.le_refl _) (Value.float FloatKind.f64 p.x.hi)))
  clear hP hS1
  refine hK _ _ hS2 ?_
  clear hK K
  refine wpAnyH_done (by kernel_rfl) ?_ _
  have DF := hS2.1
  clear hS2 f0 f1 u0 u1
  obtain ⟨V0, hV⟩ : ∃ V, (w0_0.setCell ⟨w.heap.size + 1 + 1 + 1, 0, none⟩ (Value.float FloatKind.f64 p.x.lo)).setCell ⟨w.heap.size + 1 + 1 + 1, 1, none⟩ (Value.float FloatKind.f64 p.x.hi) = V := ⟨_, rfl⟩
  rw [hV] at DF ⊢
  have KF0 := Lib.hid (hV ▸ Blk.set_ (Blk.set_ KE0_0.out 0 _) 1 _ : Blk V0 (w.heap.size + 1 + 1 + 1) 26 #[Value.float FloatKind.f64 p.x.lo, Value.float FloatKind.f64 p.x.hi, Value.float FloatKind.f64 0, Value.float FloatKind.f64 0, Value.float FloatKind.f64 0, Value.float FloatKind.f64 0])
  have G0 := Lib.hid DF
  clear DF hV
  go_wp2_with fail
  rw [rounds_succ]
  go_wp2_with fail
  have KD1 := Lib.hid (show Blk (World.drew V0) (w.heap.size + 1 + 1 + 1) 26 #[Value.float FloatKind.f64 p.x.lo, Value.float FloatKind.f64 p.x.hi, Value.float FloatKind.f64 0, Value.float FloatKind.f64 0, Value.float FloatKind.f64 0, Value.float FloatKind.f64 0] from KF0.out)
  refine wp_region_held (S := (fun w' => Below (w.heap.size + 1 + 1 + 1) W w' ∧ w'.cell? ⟨w.heap.size, 0, none⟩ = some (Value.float FloatKind.f64 a.x.lo) ∧ w'.cell? ⟨w.heap.size, 1, none⟩ = some (Value.float FloatKind.f64 a.x.hi) ∧ w'.cell? ⟨w.heap.size, 2, none⟩ = some (Value.float FloatKind.f64 a.y.lo) ∧ w'.cell? ⟨w.heap.size, 3, none⟩ = some (Value.float FloatKind.f64 a.y.hi) ∧ w'.cell? ⟨w.heap.size, 4, none⟩ = some (Value.float FloatKind.f64 a.z.lo) ∧ w'.cell? ⟨w.heap.size, 5, none⟩ = some (Value.float FloatKind.f64 a.z.hi) ∧ w'.cell? ⟨w.heap.size + 1, 0, none⟩ = some (Value.float FloatKind.f64 b.x.lo) ∧ w'.cell? ⟨w.heap.size + 1, 1, none⟩ = some (Value.float FloatKind.f64 b.x.hi) ∧ w'.cell? ⟨w.heap.size + 1, 2, none⟩ = some (Value.float FloatKind.f64 b.y.lo) ∧ w'.cell? ⟨w.heap.size + 1, 3, none⟩ = some (Value.float FloatKind.f64 b.y.hi) ∧ w'.cell? ⟨w.heap.size + 1, 4, none⟩ = some (Value.float FloatKind.f64 b.z.lo) ∧ w'.cell? ⟨w.heap.size + 1, 5, none⟩ = some (Value.float FloatKind.f64 b.z.hi))) (by kernel_rfl) ?_
  (try change wpAnyH _ _ _ _ _ _ _ (World.drew _))
  have hS0 := HO.out _ (Below.drew G0.out)
  refine wpAnyH_takeN (i := 0) (v := ?v5_0x4) (l' := bm 11 1) (a' := ?a5_0x4) rfl (by kernel_rfl) (by kernel_rfl) (by kernel_rfl) (fun _ _ _ h => h) (Or.inl ⟨by kernel_rfl, ?h5_0x4⟩) (by kernel_rfl) ?p5_0x4 hS0 ?r5_0x4
  case h5_0x4 => (intro w hS; go_simp; try with_reducible rfl)
  case p5_0x4 => (go_simp; try with_reducible rfl)
  refine wpAnyH_takeN (i := 1) (v := ?v5_1x4) (l' := bm 11 3) (a' := ?a5_1x4) rfl (by kernel_rfl) (by kernel_rfl) (by kernel_rfl) (fun _ _ _ h => h) (Or.inl ⟨by kernel_rfl, ?h5_1x4⟩) (by kernel_rfl) ?p5_1x4 hS0 ?r5_1x4
  case h5_1x4 => (intro w hS; go_simp; try with_reducible rfl)
  case p5_1x4 => (go_simp; try with_reducible rfl)
  refine wpAnyH_takeN (i := 2) (v := ?v5_2x4) (l' := bm 11 7) (a' := ?a5_2x4) rfl (by kernel_rfl) (by kernel_rfl) (by kernel_rfl) (fun _ _ _ h => h) (Or.inl ⟨by kernel_rfl, ?h5_2x4⟩) (by kernel_rfl) ?p5_2x4 hS0 ?r5_2x4
  case h5_2x4 => (intro w hS; go_simp; try with_reducible rfl)
  case p5_2x4 => (go_simp; try with_reducible rfl)
  refine wpAnyH_takeN (i := 3) (v := ?v5_3x4) (l' := bm 11 15) (a' := ?a5_3x4) rfl (by kernel_rfl) (by kernel_rfl) (by kernel_rfl) (fun _ _ _ h => h) (Or.inl ⟨by kernel_rfl, ?h5_3x4⟩) (by kernel_rfl) ?p5_3x4 hS0 ?r5_3x4
  case h5_3x4 => (intro w hS; go_simp; try with_reducible rfl)
  case p5_3x4 => (go_simp; try with_reducible rfl)
  refine wpAnyH_takeN (i := 4) (v := ?v5_4x4) (l' := bm 11 31) (a' := ?a5_4x4) rfl (by kernel_rfl) (by kernel_rfl) (by kernel_rfl) (fun _ _ _ h => h) (Or.inl ⟨by kernel_rfl, ?h5_4x4⟩) (by kernel_rfl) ?p5_4x4 hS0 ?r5_4x4
  case h5_4x4 => (intro w hS; go_simp; try with_reducible rfl)
  case p5_4x4 => (go_simp; try with_reducible rfl)
  refine wpAnyH_takeN (i := 5) (v := ?v5_5x4) (l' := bm 11 63) (a' := ?a5_5x4) rfl (by kernel_rfl) (by kernel_rfl) (by kernel_rfl) (fun _ _ _ h => h) (Or.inl ⟨by kernel_rfl, ?h5_5x4⟩) (by kernel_rfl) ?p5_5x4 hS0 ?r5_5x4
  case h5_5x4 => (intro w hS; go_simp; try with_reducible rfl)
  case p5_5x4 => (go_simp; try with_reducible rfl)
  refine wpAnyH_takeN (i := 6) (v := ?v5_6x4) (l' := bm 11 127) (a' := ?a5_6x4) rfl (by kernel_rfl) (by kernel_rfl) (by kernel_rfl) (fun _ _ _ h => h) (Or.inl ⟨by kernel_rfl, ?h5_6x4⟩) (by kernel_rfl) ?p5_6x4 hS0 ?r5_6x4
  case h5_6x4 => (intro w hS; go_simp; try with_reducible rfl)
  case p5_6x4 => (go_simp; try with_reducible rfl)
  refine wpAnyH_takeN (i := 7) (v := ?v5_7x4) (l' := bm 11 255) (a' := ?a5_7x4) rfl (by kernel_rfl) (by kernel_rfl) (by kernel_rfl) (fun _ _ _ h => h) (Or.inl ⟨by kernel_rfl, ?h5_7x4⟩) (by kernel_rfl) ?p5_7x4 hS0 ?r5_7x4
  case h5_7x4 => (intro w hS; go_simp; try with_reducible rfl)
  case p5_7x4 => (go_simp; try with_reducible rfl)
  refine wpAnyH_oneN (i := 8) (l' := bm 11 511) rfl (by kernel_rfl) (by kernel_rfl) (by kernel_rfl) (fun K hK => ?_)
  have hP := hS0.1
  go_simp
  go_at_call 77
  refine (C1.out _).mono ?_
  rintro r w1_0 ⟨rfl, hb⟩
  dsimp only
  have E1_0 := Lib.hid (below_at hP hBW hb)
  have KE1_0 := Lib.hid (Blk.below KD1.out hb (Blk.lt KD1.out))
  clear hb
  have f0 := KE1_0.out.cell 2
  have f1 := KE1_0.out.cell 3
  have u0 := KE1_0.out.unfrozen 2
  have u1 := KE1_0.out.unfrozen 3
  have hS1 := HO.out _ (E1_0.out)
  clear hP hS0
  refine hK _ _ hS1 ?_
  clear hK K
  refine wpAnyH_takeN (i := 9) (v := ?v5_9x4) (l' := bm 11 1023) (a' := ?a5_9x4) rfl (by kernel_rfl) (by kernel_rfl) (by kernel_rfl) (fun _ _ _ h => h) (Or.inl ⟨by kernel_rfl, ?h5_9x4⟩) (by kernel_rfl) ?p5_9x4 hS1 ?r5_9x4
  case h5_9x4 => (intro w hS; go_simp; try with_reducible rfl)
  case p5_9x4 => (go_simp; try with_reducible rfl)
  refine wpAnyH_oneN (i := 10) (l' := bm 11 2047) rfl (by kernel_rfl) (by kernel_rfl) (by kernel_rfl) (fun K hK => ?_)
  have hP := hS1.1
  go_simp
  have hS2 := HO.out _ ((Below.setCell (Below.setCell hP (p := ⟨w.heap.size + 1 + 1 + 1, 2, none⟩) (Nat.le_refl _) (Value.float FloatKind.f64 p.y.lo)) (p := ⟨w.heap.size + 1 + 1 + 1, 3, none⟩) (Nat.le_refl _) (Value.float FloatKind.f64 p.y.hi)))
  clear hP hS1
  refine hK _ _ hS2 ?_
  clear hK K
  refine wpAnyH_done (by kernel_rfl) ?_ _
  have DF := hS2.1
  clear hS2 f0 f1 u0 u1
  obtain ⟨V1, hV⟩ : ∃ V, (w1_0.setCell ⟨w.heap.size + 1 + 1 + 1, 2, none⟩ (Value.float FloatKind.f64 p.y.lo)).setCell ⟨w.heap.size + 1 + 1 + 1, 3, none⟩ (Value.float FloatKind.f64 p.y.hi) = V := ⟨_, rfl⟩
  rw [hV] at DF ⊢
  have KF1 := Lib.hid (hV ▸ Blk.set_ (Blk.set_ KE1_0.out 2 _) 3 _ : Blk V1 (w.heap.size + 1 + 1 + 1) 26 #[Value.float FloatKind.f64 p.x.lo, Value.float FloatKind.f64 p.x.hi, Value.float FloatKind.f64 p.y.lo, Value.float FloatKind.f64 p.y.hi, Value.float FloatKind.f64 0, Value.float FloatKind.f64 0])
  have G1 := Lib.hid DF
  clear DF hV
  go_wp2_with fail
  rw [rounds_succ]
  go_wp2_with fail
  have KD2 := Lib.hid (show Blk (World.drew V1) (w.heap.size + 1 + 1 + 1) 26 #[Value.float FloatKind.f64 p.x.lo, Value.float FloatKind.f64 p.x.hi, Value.float FloatKind.f64 p.y.lo, Value.float FloatKind.f64 p.y.hi, Value.float FloatKind.f64 0, Value.float FloatKind.f64 0] from KF1.out)
  refine wp_region_held (S := (fun w' => Below (w.heap.size + 1 + 1 + 1) W w' ∧ w'.cell? ⟨w.heap.size, 0, none⟩ = some (Value.float FloatKind.f64 a.x.lo) ∧ w'.cell? ⟨w.heap.size, 1, none⟩ = some (Value.float FloatKind.f64 a.x.hi) ∧ w'.cell? ⟨w.heap.size, 2, none⟩ = some (Value.float FloatKind.f64 a.y.lo) ∧ w'.cell? ⟨w.heap.size, 3, none⟩ = some (Value.float FloatKind.f64 a.y.hi) ∧ w'.cell? ⟨w.heap.size, 4, none⟩ = some (Value.float FloatKind.f64 a.z.lo) ∧ w'.cell? ⟨w.heap.size, 5, none⟩ = some (Value.float FloatKind.f64 a.z.hi) ∧ w'.cell? ⟨w.heap.size + 1, 0, none⟩ = some (Value.float FloatKind.f64 b.x.lo) ∧ w'.cell? ⟨w.heap.size + 1, 1, none⟩ = some (Value.float FloatKind.f64 b.x.hi) ∧ w'.cell? ⟨w.heap.size + 1, 2, none⟩ = some (Value.float FloatKind.f64 b.y.lo) ∧ w'.cell? ⟨w.heap.size + 1, 3, none⟩ = some (Value.float FloatKind.f64 b.y.hi) ∧ w'.cell? ⟨w.heap.size + 1, 4, none⟩ = some (Value.float FloatKind.f64 b.z.lo) ∧ w'.cell? ⟨w.heap.size + 1, 5, none⟩ = some (Value.float FloatKind.f64 b.z.hi))) (by kernel_rfl) ?_
  (try change wpAnyH _ _ _ _ _ _ _ (World.drew _))
  have hS0 := HO.out _ (Below.drew G1.out)
  refine wpAnyH_takeN (i := 0) (v := ?v5_0x5) (l' := bm 11 1) (a' := ?a5_0x5) rfl (by kernel_rfl) (by kernel_rfl) (by kernel_rfl) (fun _ _ _ h => h) (Or.inl ⟨by kernel_rfl, ?h5_0x5⟩) (by kernel_rfl) ?p5_0x5 hS0 ?r5_0x5
  case h5_0x5 => (intro w hS; go_simp; try with_reducible rfl)
  case p5_0x5 => (go_simp; try with_reducible rfl)
  refine wpAnyH_takeN (i := 1) (v := ?v5_1x5) (l' := bm 11 3) (a' := ?a5_1x5) rfl (by kernel_rfl) (by kernel_rfl) (by kernel_rfl) (fun _ _ _ h => h) (Or.inl ⟨by kernel_rfl, ?h5_1x5⟩) (by kernel_rfl) ?p5_1x5 hS0 ?r5_1x5
  case h5_1x5 => (intro w hS; go_simp; try with_reducible rfl)
  case p5_1x5 => (go_simp; try with_reducible rfl)
  refine wpAnyH_takeN (i := 2) (v := ?v5_2x5) (l' := bm 11 7) (a' := ?a5_2x5) rfl (by kernel_rfl) (by kernel_rfl) (by kernel_rfl) (fun _ _ _ h => h) (Or.inl ⟨by kernel_rfl, ?h5_2x5⟩) (by kernel_rfl) ?p5_2x5 hS0 ?r5_2x5
  case h5_2x5 => (intro w hS; go_simp; try with_reducible rfl)
  case p5_2x5 => (go_simp; try with_reducible rfl)
  refine wpAnyH_takeN (i := 3) (v := ?v5_3x5) (l' := bm 11 15) (a' := ?a5_3x5) rfl (by kernel_rfl) (by kernel_rfl) (by kernel_rfl) (fun _ _ _ h => h) (Or.inl ⟨by kernel_rfl, ?h5_3x5⟩) (by kernel_rfl) ?p5_3x5 hS0 ?r5_3x5
  case h5_3x5 => (intro w hS; go_simp; try with_reducible rfl)
  case p5_3x5 => (go_simp; try with_reducible rfl)
  refine wpAnyH_takeN (i := 4) (v := ?v5_4x5) (l' := bm 11 31) (a' := ?a5_4x5) rfl (by kernel_rfl) (by kernel_rfl) (by kernel_rfl) (fun _ _ _ h => h) (Or.inl ⟨by kernel_rfl, ?h5_4x5⟩) (by kernel_rfl) ?p5_4x5 hS0 ?r5_4x5
  case h5_4x5 => (intro w hS; go_simp; try with_reducible rfl)
  case p5_4x5 => (go_simp; try with_reducible rfl)
  refine wpAnyH_takeN (i := 5) (v := ?v5_5x5) (l' := bm 11 63) (a' := ?a5_5x5) rfl (by kernel_rfl) (by kernel_rfl) (by kernel_rfl) (fun _ _ _ h => h) (Or.inl ⟨by kernel_rfl, ?h5_5x5⟩) (by kernel_rfl) ?p5_5x5 hS0 ?r5_5x5
  case h5_5x5 => (intro w hS; go_simp; try with_reducible rfl)
  case p5_5x5 => (go_simp; try with_reducible rfl)
  refine wpAnyH_takeN (i := 6) (v := ?v5_6x5) (l' := bm 11 127) (a' := ?a5_6x5) rfl (by kernel_rfl) (by kernel_rfl) (by kernel_rfl) (fun _ _ _ h => h) (Or.inl ⟨by kernel_rfl, ?h5_6x5⟩) (by kernel_rfl) ?p5_6x5 hS0 ?r5_6x5
  case h5_6x5 => (intro w hS; go_simp; try with_reducible rfl)
  case p5_6x5 => (go_simp; try with_reducible rfl)
  refine wpAnyH_takeN (i := 7) (v := ?v5_7x5) (l' := bm 11 255) (a' := ?a5_7x5) rfl (by kernel_rfl) (by kernel_rfl) (by kernel_rfl) (fun _ _ _ h => h) (Or.inl ⟨by kernel_rfl, ?h5_7x5⟩) (by kernel_rfl) ?p5_7x5 hS0 ?r5_7x5
  case h5_7x5 => (intro w hS; go_simp; try with_reducible rfl)
  case p5_7x5 => (go_simp; try with_reducible rfl)
  refine wpAnyH_oneN (i := 8) (l' := bm 11 511) rfl (by kernel_rfl) (by kernel_rfl) (by kernel_rfl) (fun K hK => ?_)
  have hP := hS0.1
  go_simp
  go_at_call 77
  refine (C2.out _).mono ?_
  rintro r w2_0 ⟨rfl, hb⟩
  dsimp only
  have E2_0 := Lib.hid (below_at hP hBW hb)
  have KE2_0 := Lib.hid (Blk.below KD2.out hb (Blk.lt KD2.out))
  clear hb
  have f0 := KE2_0.out.cell 4
  have f1 := KE2_0.out.cell 5
  have u0 := KE2_0.out.unfrozen 4
  have u1 := KE2_0.out.unfrozen 5
  have hS1 := HO.out _ (E2_0.out)
  clear hP hS0
  refine hK _ _ hS1 ?_
  clear hK K
  refine wpAnyH_takeN (i := 9) (v := ?v5_9x5) (l' := bm 11 1023) (a' := ?a5_9x5) rfl (by kernel_rfl) (by kernel_rfl) (by kernel_rfl) (fun _ _ _ h => h) (Or.inl ⟨by kernel_rfl, ?h5_9x5⟩) (by kernel_rfl) ?p5_9x5 hS1 ?r5_9x5
  case h5_9x5 => (intro w hS; go_simp; try with_reducible rfl)
  case p5_9x5 => (go_simp; try with_reducible rfl)
  refine wpAnyH_oneN (i := 10) (l' := bm 11 2047) rfl (by kernel_rfl) (by kernel_rfl) (by kernel_rfl) (fun K hK => ?_)
  have hP := hS1.1
  go_simp
  have hS2 := HO.out _ ((Below.setCell (Below.setCell hP (p := ⟨w.heap.size + 1 + 1 + 1, 4, none⟩) (Nat.le_refl _) (Value.float FloatKind.f64 p.z.lo)) (p := ⟨w.heap.size + 1 + 1 + 1, 5, none⟩) (Nat.le_refl _) (Value.float FloatKind.f64 p.z.hi)))
  clear hP hS1
  refine hK _ _ hS2 ?_
  clear hK K
  refine wpAnyH_done (by kernel_rfl) ?_ _
  have DF := hS2.1
  clear hS2 f0 f1 u0 u1
  obtain ⟨V2, hV⟩ : ∃ V, (w2_0.setCell ⟨w.heap.size + 1 + 1 + 1, 4, none⟩ (Value.float FloatKind.f64 p.z.lo)).setCell ⟨w.heap.size + 1 + 1 + 1, 5, none⟩ (Value.float FloatKind.f64 p.z.hi) = V := ⟨_, rfl⟩
  rw [hV] at DF ⊢
  have KF2 := Lib.hid (hV ▸ Blk.set_ (Blk.set_ KE2_0.out 4 _) 5 _ : Blk V2 (w.heap.size + 1 + 1 + 1) 26 #[Value.float FloatKind.f64 p.x.lo, Value.float FloatKind.f64 p.x.hi, Value.float FloatKind.f64 p.y.lo, Value.float FloatKind.f64 p.y.hi, Value.float FloatKind.f64 p.z.lo, Value.float FloatKind.f64 p.z.hi])
  have G2 := Lib.hid DF
  clear DF hV
  go_wp2_with fail
  rw [rounds_succ]
  have KR := Lib.hid (Blk.below K2.out G2.out (by omega))
  have f0 := KF2.out.cell 0
  have g0 := KR.out.cell 0
  have u0 := KR.out.unfrozen 0
  have f1 := KF2.out.cell 1
  have g1 := KR.out.cell 1
  have u1 := KR.out.unfrozen 1
  have f2 := KF2.out.cell 2
  have g2 := KR.out.cell 2
  have u2 := KR.out.unfrozen 2
  have f3 := KF2.out.cell 3
  have g3 := KR.out.cell 3
  have u3 := KR.out.unfrozen 3
  have f4 := KF2.out.cell 4
  have g4 := KR.out.cell 4
  have u4 := KR.out.unfrozen 4
  have f5 := KF2.out.cell 5
  have g5 := KR.out.cell 5
  have u5 := KR.out.unfrozen 5
  go_wp2_with fail
  (try simp only [Exit.inBlock, Exit.then])
  exact bodyPost_ret (resV rfl _ _ (w.heap.size + 1 + 1) (Value.float FloatKind.f64 p.x.lo) (Value.float FloatKind.f64 p.x.hi) (Value.float FloatKind.f64 p.y.lo) (Value.float FloatKind.f64 p.y.hi) (Value.float FloatKind.f64 p.z.lo) (Value.float FloatKind.f64 p.z.hi) rfl (Blk.set_ (Blk.set_ (Blk.set_ (Blk.set_ (Blk.set_ (Blk.set_ (KR.out) 0 _) 1 _) 2 _) 3 _) 4 _) 5 _)) rfl ⟨rfl, (Below.setCell (Below.setCell (Below.setCell (Below.setCell (Below.setCell (Below.setCell ((HB.out).trans ((G2.out).mono (by omega))) (p := ⟨w.heap.size + 1 + 1, 0, none⟩) (by show w.heap.size ≤ w.heap.size + 1 + 1; omega) _) (p := ⟨w.heap.size + 1 + 1, 1, none⟩) (by show w.heap.size ≤ w.heap.size + 1 + 1; omega) _) (p := ⟨w.heap.size + 1 + 1, 2, none⟩) (by show w.heap.size ≤ w.heap.size + 1 + 1; omega) _) (p := ⟨w.heap.size + 1 + 1, 3, none⟩) (by show w.heap.size ≤ w.heap.size + 1 + 1; omega) _) (p := ⟨w.heap.size + 1 + 1, 4, none⟩) (by show w.heap.size ≤ w.heap.size + 1 + 1; omega) _) (p := ⟨w.heap.size + 1 + 1, 5, none⟩) (by show w.heap.size ≤ w.heap.size + 1 + 1; omega) _)⟩
set_option maxRecDepth 100000 in
set_option maxHeartbeats 4000000 in
theorem vSub_any (a : V3) (b : V3) (w : World) : Calls Try.prog 42 #[vval a, vval b] w fun r w' => r = .returned (vval (vSub a b)) ∧ Below w.heap.size w w' := by
  have C0 := Lib.hid (fun w => each_sub a b (vSub a b) w (sub_sp a.x b.x) (sub_sp a.y b.y) (sub_sp a.z b.z))
  generalize vSub a b = p at *
  go_enter Try.func42, Try.ntmps42
  go_wp2_with fail
  obtain ⟨W, hW, K0, K1, K2, hB, hz⟩ := box3 w 26 26 26 #[Value.float FloatKind.f64 a.x.lo, Value.float FloatKind.f64 a.x.hi, Value.float FloatKind.f64 a.y.lo, Value.float FloatKind.f64 a.y.hi, Value.float FloatKind.f64 a.z.lo, Value.float FloatKind.f64 a.z.hi] #[Value.float FloatKind.f64 b.x.lo, Value.float FloatKind.f64 b.x.hi, Value.float FloatKind.f64 b.y.lo, Value.float FloatKind.f64 b.y.hi, Value.float FloatKind.f64 b.z.lo, Value.float FloatKind.f64 b.z.hi] #[Value.float FloatKind.f64 0, Value.float FloatKind.f64 0, Value.float FloatKind.f64 0, Value.float FloatKind.f64 0, Value.float FloatKind.f64 0, Value.float FloatKind.f64 0]
  rw [← hW]
  have K0 := Lib.hid K0
  have K1 := Lib.hid K1
  have K2 := Lib.hid K2
  have HB := Lib.hid hB
  clear hW hB hz
  have HO := Lib.hid (show ∀ w', Hd W (w.heap.size + 1 + 1) 26 6 w' → (Hd W (w.heap.size + 1 + 1) 26 6 w' ∧ w'.cell? ⟨w.heap.size, 0, none⟩ = some (Value.float FloatKind.f64 a.x.lo) ∧ w'.cell? ⟨w.heap.size, 1, none⟩ = some (Value.float FloatKind.f64 a.x.hi) ∧ w'.cell? ⟨w.heap.size, 2, none⟩ = some (Value.float FloatKind.f64 a.y.lo) ∧ w'.cell? ⟨w.heap.size, 3, none⟩ = some (Value.float FloatKind.f64 a.y.hi) ∧ w'.cell? ⟨w.heap.size, 4, none⟩ = some (Value.float FloatKind.f64 a.z.lo) ∧ w'.cell? ⟨w.heap.size, 5, none⟩ = some (Value.float FloatKind.f64 a.z.hi) ∧ w'.cell? ⟨w.heap.size + 1, 0, none⟩ = some (Value.float FloatKind.f64 b.x.lo) ∧ w'.cell? ⟨w.heap.size + 1, 1, none⟩ = some (Value.float FloatKind.f64 b.x.hi) ∧ w'.cell? ⟨w.heap.size + 1, 2, none⟩ = some (Value.float FloatKind.f64 b.y.lo) ∧ w'.cell? ⟨w.heap.size + 1, 3, none⟩ = some (Value.float FloatKind.f64 b.y.hi) ∧ w'.cell? ⟨w.heap.size + 1, 4, none⟩ = some (Value.float FloatKind.f64 b.z.lo) ∧ w'.cell? ⟨w.heap.size + 1, 5, none⟩ = some (Value.float FloatKind.f64 b.z.hi) ∧ w'.cell? ⟨w.heap.size + 1 + 1, 0, none⟩ = some (cellAt w' ⟨w.heap.size + 1 + 1, 0, none⟩) ∧ w'.frozen? ⟨w.heap.size + 1 + 1, 0, none⟩ = false ∧ w'.cell? ⟨w.heap.size + 1 + 1, 1, none⟩ = some (cellAt w' ⟨w.heap.size + 1 + 1, 1, none⟩) ∧ w'.frozen? ⟨w.heap.size + 1 + 1, 1, none⟩ = false ∧ w'.cell? ⟨w.heap.size + 1 + 1, 2, none⟩ = some (cellAt w' ⟨w.heap.size + 1 + 1, 2, none⟩) ∧ w'.frozen? ⟨w.heap.size + 1 + 1, 2, none⟩ = false ∧ w'.cell? ⟨w.heap.size + 1 + 1, 3, none⟩ = some (cellAt w' ⟨w.heap.size + 1 + 1, 3, none⟩) ∧ w'.frozen? ⟨w.heap.size + 1 + 1, 3, none⟩ = false ∧ w'.cell? ⟨w.heap.size + 1 + 1, 4, none⟩ = some (cellAt w' ⟨w.heap.size + 1 + 1, 4, none⟩) ∧ w'.frozen? ⟨w.heap.size + 1 + 1, 4, none⟩ = false ∧ w'.cell? ⟨w.heap.size + 1 + 1, 5, none⟩ = some (cellAt w' ⟨w.heap.size + 1 + 1, 5, none⟩) ∧ w'.frozen? ⟨w.heap.size + 1 + 1, 5, none⟩ = false) from fun w' h => ⟨h, (h.blk K0.out (by omega)).cell 0, (h.blk K0.out (by omega)).cell 1, (h.blk K0.out (by omega)).cell 2, (h.blk K0.out (by omega)).cell 3, (h.blk K0.out (by omega)).cell 4, (h.blk K0.out (by omega)).cell 5, (h.blk K1.out (by omega)).cell 0, (h.blk K1.out (by omega)).cell 1, (h.blk K1.out (by omega)).cell 2, (h.blk K1.out (by omega)).cell 3, (h.blk K1.out (by omega)).cell 4, (h.blk K1.out (by omega)).cell 5, (h.at_ 0 (by decide)).1, (h.at_ 0 (by decide)).2, (h.at_ 1 (by decide)).1, (h.at_ 1 (by decide)).2, (h.at_ 2 (by decide)).1, (h.at_ 2 (by decide)).2, (h.at_ 3 (by decide)).1, (h.at_ 3 (by decide)).2, (h.at_ 4 (by decide)).1, (h.at_ 4 (by decide)).2, (h.at_ 5 (by decide)).1, (h.at_ 5 (by decide)).2⟩)
  have D0 := Lib.hid (show Hd W (w.heap.size + 1 + 1) 26 6 W from Hd.start K2.out)
  refine (C0.out _).mono ?_
  rintro r w1 ⟨rfl, hb⟩
  have D1 := Lib.hid (Hd.call D0.out hb)
  clear hb
  obtain ⟨-, q0, q1, q2, q3, q4, q5, q6, q7, q8, q9, q10, q11, q12, q13, q14, q15, q16, q17, q18, q19, q20, q21, q22, q23⟩ := HO.out _ D1.out
  have z1 := Hd.lt D1.out
  go_wp2_with fail
  (try simp only [Exit.inBlock, Exit.then])
  have hF := (Hd.set (Hd.set (Hd.set (Hd.set (Hd.set (Hd.set D1.out 0 (Value.float FloatKind.f64 p.x.lo)) 1 (Value.float FloatKind.f64 p.x.hi)) 2 (Value.float FloatKind.f64 p.y.lo)) 3 (Value.float FloatKind.f64 p.y.hi)) 4 (Value.float FloatKind.f64 p.z.lo)) 5 (Value.float FloatKind.f64 p.z.hi))
  exact bodyPost_ret (resV rfl _ _ (w.heap.size + 1 + 1) (Value.float FloatKind.f64 p.x.lo) (Value.float FloatKind.f64 p.x.hi) (Value.float FloatKind.f64 p.y.lo) (Value.float FloatKind.f64 p.y.hi) (Value.float FloatKind.f64 p.z.lo) (Value.float FloatKind.f64 p.z.hi) rfl (Hd.wrote6 hF)) rfl ⟨rfl, Hd.below hF HB.out (by omega)⟩
set_option maxRecDepth 100000 in
set_option maxHeartbeats 4000000 in
theorem each_mul (a b p : V3) (w : World)
    (Hx : ∀ w, Calls Try.prog 78 #[.agg #[Value.float FloatKind.f64 a.x.lo, Value.float FloatKind.f64 a.x.hi], .agg #[Value.float FloatKind.f64 b.x.lo, Value.float FloatKind.f64 b.x.hi]] w fun r w' => r = .returned (.agg #[Value.float FloatKind.f64 p.x.lo, Value.float FloatKind.f64 p.x.hi]) ∧ Below w.heap.size w w')
    (Hy : ∀ w, Calls Try.prog 78 #[.agg #[Value.float FloatKind.f64 a.y.lo, Value.float FloatKind.f64 a.y.hi], .agg #[Value.float FloatKind.f64 b.y.lo, Value.float FloatKind.f64 b.y.hi]] w fun r w' => r = .returned (.agg #[Value.float FloatKind.f64 p.y.lo, Value.float FloatKind.f64 p.y.hi]) ∧ Below w.heap.size w w')
    (Hz : ∀ w, Calls Try.prog 78 #[.agg #[Value.float FloatKind.f64 a.z.lo, Value.float FloatKind.f64 a.z.hi], .agg #[Value.float FloatKind.f64 b.z.lo, Value.float FloatKind.f64 b.z.hi]] w fun r w' => r = .returned (.agg #[Value.float FloatKind.f64 p.z.lo, Value.float FloatKind.f64 p.z.hi]) ∧ Below w.heap.size w w')
    : Calls Try.prog 84 #[vval a, vval b, Value.func (Fn.func 78) #[] #[]] w fun r w' => r = .returned (vval p) ∧ Below w.heap.size w w' := by
  have C0 := Lib.hid Hx
  have C1 := Lib.hid Hy
  have C2 := Lib.hid Hz
  clear Hx Hy Hz
  go_enter Try.func84, Try.ntmps84
  go_wp2_with fail
  obtain ⟨W, hW, K0, K1, K2, KO, hB, hz⟩ := vbox4 w 26 26 26 26 #[Value.float FloatKind.f64 a.x.lo, Value.float FloatKind.f64 a.x.hi, Value.float FloatKind.f64 a.y.lo, Value.float FloatKind.f64 a.y.hi, Value.float FloatKind.f64 a.z.lo, Value.float FloatKind.f64 a.z.hi] #[Value.float FloatKind.f64 b.x.lo, Value.float FloatKind.f64 b.x.hi, Value.float FloatKind.f64 b.y.lo, Value.float FloatKind.f64 b.y.hi, Value.float FloatKind.f64 b.z.lo, Value.float FloatKind.f64 b.z.hi] #[Value.float FloatKind.f64 0, Value.float FloatKind.f64 0, Value.float FloatKind.f64 0, Value.float FloatKind.f64 0, Value.float FloatKind.f64 0, Value.float FloatKind.f64 0] #[Value.float FloatKind.f64 0, Value.float FloatKind.f64 0, Value.float FloatKind.f64 0, Value.float FloatKind.f64 0, Value.float FloatKind.f64 0, Value.float FloatKind.f64 0]
  rw [← hW]
  have K0 := Lib.hid K0
  have K1 := Lib.hid K1
  have K2 := Lib.hid K2
  have KO := Lib.hid KO
  have HB := Lib.hid hB
  have hBW : w.heap.size + 1 + 1 + 1 ≤ W.heap.size := by omega
  clear hW hB hz
  have HO := Lib.hid (show ∀ w', Below (w.heap.size + 1 + 1 + 1) W w' → (Below (w.heap.size + 1 + 1 + 1) W w' ∧ w'.cell? ⟨w.heap.size, 0, none⟩ = some (Value.float FloatKind.f64 a.x.lo) ∧ w'.cell? ⟨w.heap.size, 1, none⟩ = some (Value.float FloatKind.f64 a.x.hi) ∧ w'.cell? ⟨w.heap.size, 2, none⟩ = some (Value.float FloatKind.f64 a.y.lo) ∧ w'.cell? ⟨w.heap.size, 3, none⟩ = some (Value.float FloatKind.f64 a.y.hi) ∧ w'.cell? ⟨w.heap.size, 4, none⟩ = some (Value.float FloatKind.f64 a.z.lo) ∧ w'.cell? ⟨w.heap.size, 5, none⟩ = some (Value.float FloatKind.f64 a.z.hi) ∧ w'.cell? ⟨w.heap.size + 1, 0, none⟩ = some (Value.float FloatKind.f64 b.x.lo) ∧ w'.cell? ⟨w.heap.size + 1, 1, none⟩ = some (Value.float FloatKind.f64 b.x.hi) ∧ w'.cell? ⟨w.heap.size + 1, 2, none⟩ = some (Value.float FloatKind.f64 b.y.lo) ∧ w'.cell? ⟨w.heap.size + 1, 3, none⟩ = some (Value.float FloatKind.f64 b.y.hi) ∧ w'.cell? ⟨w.heap.size + 1, 4, none⟩ = some (Value.float FloatKind.f64 b.z.lo) ∧ w'.cell? ⟨w.heap.size + 1, 5, none⟩ = some (Value.float FloatKind.f64 b.z.hi)) from fun w' h => ⟨h, (Blk.below K0.out h (by omega)).cell 0, (Blk.below K0.out h (by omega)).cell 1, (Blk.below K0.out h (by omega)).cell 2, (Blk.below K0.out h (by omega)).cell 3, (Blk.below K0.out h (by omega)).cell 4, (Blk.below K0.out h (by omega)).cell 5, (Blk.below K1.out h (by omega)).cell 0, (Blk.below K1.out h (by omega)).cell 1, (Blk.below K1.out h (by omega)).cell 2, (Blk.below K1.out h (by omega)).cell 3, (Blk.below K1.out h (by omega)).cell 4, (Blk.below K1.out h (by omega)).cell 5⟩)
  have D0 := Lib.hid (Below.refl (w.heap.size + 1 + 1 + 1) W)
  refine wp_loop_rounds 4 ?_
  rw [rounds_succ]
  go_wp2_with fail
  have KD0 := Lib.hid (show Blk (World.drew W) (w.heap.size + 1 + 1 + 1) 26 #[Value.float FloatKind.f64 0, Value.float FloatKind.f64 0, Value.float FloatKind.f64 0, Value.float FloatKind.f64 0, Value.float FloatKind.f64 0, Value.float FloatKind.f64 0] from KO.out)
  refine wp_region_held (S := (fun w' => Below (w.heap.size + 1 + 1 + 1) W w' ∧ w'.cell? ⟨w.heap.size, 0, none⟩ = some (Value.float FloatKind.f64 a.x.lo) ∧ w'.cell? ⟨w.heap.size, 1, none⟩ = some (Value.float FloatKind.f64 a.x.hi) ∧ w'.cell? ⟨w.heap.size, 2, none⟩ = some (Value.float FloatKind.f64 a.y.lo) ∧ w'.cell? ⟨w.heap.size, 3, none⟩ = some (Value.float FloatKind.f64 a.y.hi) ∧ w'.cell? ⟨w.heap.size, 4, none⟩ = some (Value.float FloatKind.f64 a.z.lo) ∧ w'.cell? ⟨w.heap.size, 5, none⟩ = some (Value.float FloatKind.f64 a.z.hi) ∧ w'.cell? ⟨w.heap.size + 1, 0, none⟩ = some (Value.float FloatKind.f64 b.x.lo) ∧ w'.cell? ⟨w.heap.size + 1, 1, none⟩ = some (Value.float FloatKind.f64 b.x.hi) ∧ w'.cell? ⟨w.heap.size + 1, 2, none⟩ = some (Value.float FloatKind.f64 b.y.lo) ∧ w'.cell? ⟨w.heap.size + 1, 3, none⟩ = some (Value.float FloatKind.f64 b.y.hi) ∧ w'.cell? ⟨w.heap.size + 1, 4, none⟩ = some (Value.float FloatKind.f64 b.z.lo) ∧ w'.cell? ⟨w.heap.size + 1, 5, none⟩ = some (Value.float FloatKind.f64 b.z.hi))) (by kernel_rfl) ?_
  (try change wpAnyH _ _ _ _ _ _ _ (World.drew _))
  have hS0 := HO.out _ (Below.drew D0.out)
  refine wpAnyH_takeN (i := 0) (v := ?v5_0x6) (l' := bm 11 1) (a' := ?a5_0x6) rfl (by kernel_rfl) (by kernel_rfl) (by kernel_rfl) (fun _ _ _ h => h) (Or.inl ⟨by kernel_rfl, ?h5_0x6⟩) (by kernel_rfl) ?p5_0x6 hS0 ?r5_0x6
  case h5_0x6 => (intro w hS; go_simp; try with_reducible rfl)
  case p5_0x6 => (go_simp; try with_reducible rfl)
  refine wpAnyH_takeN (i := 1) (v := ?v5_1x6) (l' := bm 11 3) (a' := ?a5_1x6) rfl (by kernel_rfl) (by kernel_rfl) (by kernel_rfl) (fun _ _ _ h => h) (Or.inl ⟨by kernel_rfl, ?h5_1x6⟩) (by kernel_rfl) ?p5_1x6 hS0 ?r5_1x6
  case h5_1x6 => (intro w hS; go_simp; try with_reducible rfl)
  case p5_1x6 => (go_simp; try with_reducible rfl)
  refine wpAnyH_takeN (i := 2) (v := ?v5_2x6) (l' := bm 11 7) (a' := ?a5_2x6) rfl (by kernel_rfl) (by kernel_rfl) (by kernel_rfl) (fun _ _ _ h => h) (Or.inl ⟨by kernel_rfl, ?h5_2x6⟩) (by kernel_rfl) ?p5_2x6 hS0 ?r5_2x6
  case h5_2x6 => (intro w hS; go_simp; try with_reducible rfl)
  case p5_2x6 => (go_simp; try with_reducible rfl)
  refine wpAnyH_takeN (i := 3) (v := ?v5_3x6) (l' := bm 11 15) (a' := ?a5_3x6) rfl (by kernel_rfl) (by kernel_rfl) (by kernel_rfl) (fun _ _ _ h => h) (Or.inl ⟨by kernel_rfl, ?h5_3x6⟩) (by kernel_rfl) ?p5_3x6 hS0 ?r5_3x6
  case h5_3x6 => (intro w hS; go_simp; try with_reducible rfl)
  case p5_3x6 => (go_simp; try with_reducible rfl)
  refine wpAnyH_takeN (i := 4) (v := ?v5_4x6) (l' := bm 11 31) (a' := ?a5_4x6) rfl (by kernel_rfl) (by kernel_rfl) (by kernel_rfl) (fun _ _ _ h => h) (Or.inl ⟨by kernel_rfl, ?h5_4x6⟩) (by kernel_rfl) ?p5_4x6 hS0 ?r5_4x6
  case h5_4x6 => (intro w hS; go_simp; try with_reducible rfl)
  case p5_4x6 => (go_simp; try with_reducible rfl)
  refine wpAnyH_takeN (i := 5) (v := ?v5_5x6) (l' := bm 11 63) (a' := ?a5_5x6) rfl (by kernel_rfl) (by kernel_rfl) (by kernel_rfl) (fun _ _ _ h => h) (Or.inl ⟨by kernel_rfl, ?h5_5x6⟩) (by kernel_rfl) ?p5_5x6 hS0 ?r5_5x6
  case h5_5x6 => (intro w hS; go_simp; try with_reducible rfl)
  case p5_5x6 => (go_simp; try with_reducible rfl)
  refine wpAnyH_takeN (i := 6) (v := ?v5_6x6) (l' := bm 11 127) (a' := ?a5_6x6) rfl (by kernel_rfl) (by kernel_rfl) (by kernel_rfl) (fun _ _ _ h => h) (Or.inl ⟨by kernel_rfl, ?h5_6x6⟩) (by kernel_rfl) ?p5_6x6 hS0 ?r5_6x6
  case h5_6x6 => (intro w hS; go_simp; try with_reducible rfl)
  case p5_6x6 => (go_simp; try with_reducible rfl)
  refine wpAnyH_takeN (i := 7) (v := ?v5_7x6) (l' := bm 11 255) (a' := ?a5_7x6) rfl (by kernel_rfl) (by kernel_rfl) (by kernel_rfl) (fun _ _ _ h => h) (Or.inl ⟨by kernel_rfl, ?h5_7x6⟩) (by kernel_rfl) ?p5_7x6 hS0 ?r5_7x6
  case h5_7x6 => (intro w hS; go_simp; try with_reducible rfl)
  case p5_7x6 => (go_simp; try with_reducible rfl)
  refine wpAnyH_oneN (i := 8) (l' := bm 11 511) rfl (by kernel_rfl) (by kernel_rfl) (by kernel_rfl) (fun K hK => ?_)
  have hP := hS0.1
  go_simp
  go_at_call 78
  refine (C0.out _).mono ?_
  rintro r w0_0 ⟨rfl, hb⟩
  dsimp only
  have E0_0 := Lib.hid (below_at hP hBW hb)
  have KE0_0 := Lib.hid (Blk.below KD0.out hb (Blk.lt KD0.out))
  clear hb
  have f0 := KE0_0.out.cell 0
  have f1 := KE0_0.out.cell 1
  have u0 := KE0_0.out.unfrozen 0
  have u1 := KE0_0.out.unfrozen 1
  have hS1 := HO.out _ (E0_0.out)
  clear hP hS0
  refine hK _ _ hS1 ?_
  clear hK K
  refine wpAnyH_takeN (i := 9) (v := ?v5_9x6) (l' := bm 11 1023) (a' := ?a5_9x6) rfl (by kernel_rfl) (by kernel_rfl) (by kernel_rfl) (fun _ _ _ h => h) (Or.inl ⟨by kernel_rfl, ?h5_9x6⟩) (by kernel_rfl) ?p5_9x6 hS1 ?r5_9x6
  case h5_9x6 => (intro w hS; go_simp; try with_reducible rfl)
  case p5_9x6 => (go_simp; try with_reducible rfl)
  refine wpAnyH_oneN (i := 10) (l' := bm 11 2047) rfl (by kernel_rfl) (by kernel_rfl) (by kernel_rfl) (fun K hK => ?_)
  have hP := hS1.1
  go_simp
  have hS2 := HO.out _ ((Below.setCell (Below.setCell hP (p := ⟨w.heap.size + 1 + 1 + 1, 0, none⟩) (Nat.le_refl _) (Value.float FloatKind.f64 p.x.lo)) (p := ⟨w.heap.size + 1 + 1 + 1, 1, none⟩) (Nat.le_refl _) (Value.float FloatKind.f64 p.x.hi)))
  clear hP hS1
  refine hK _ _ hS2 ?_
  clear hK K
  refine wpAnyH_done (by kernel_rfl) ?_ _
  have DF := hS2.1
  clear hS2 f0 f1 u0 u1
  obtain ⟨V0, hV⟩ : ∃ V, (w0_0.setCell ⟨w.heap.size + 1 + 1 + 1, 0, none⟩ (Value.float FloatKind.f64 p.x.lo)).setCell ⟨w.heap.size + 1 + 1 + 1, 1, none⟩ (Value.float FloatKind.f64 p.x.hi) = V := ⟨_, rfl⟩
  rw [hV] at DF ⊢
  have KF0 := Lib.hid (hV ▸ Blk.set_ (Blk.set_ KE0_0.out 0 _) 1 _ : Blk V0 (w.heap.size + 1 + 1 + 1) 26 #[Value.float FloatKind.f64 p.x.lo, Value.float FloatKind.f64 p.x.hi, Value.float FloatKind.f64 0, Value.float FloatKind.f64 0, Value.float FloatKind.f64 0, Value.float FloatKind.f64 0])
  have G0 := Lib.hid DF
  clear DF hV
  go_wp2_with fail
  rw [rounds_succ]
  go_wp2_with fail
  have KD1 := Lib.hid (show Blk (World.drew V0) (w.heap.size + 1 + 1 + 1) 26 #[Value.float FloatKind.f64 p.x.lo, Value.float FloatKind.f64 p.x.hi, Value.float FloatKind.f64 0, Value.float FloatKind.f64 0, Value.float FloatKind.f64 0, Value.float FloatKind.f64 0] from KF0.out)
  refine wp_region_held (S := (fun w' => Below (w.heap.size + 1 + 1 + 1) W w' ∧ w'.cell? ⟨w.heap.size, 0, none⟩ = some (Value.float FloatKind.f64 a.x.lo) ∧ w'.cell? ⟨w.heap.size, 1, none⟩ = some (Value.float FloatKind.f64 a.x.hi) ∧ w'.cell? ⟨w.heap.size, 2, none⟩ = some (Value.float FloatKind.f64 a.y.lo) ∧ w'.cell? ⟨w.heap.size, 3, none⟩ = some (Value.float FloatKind.f64 a.y.hi) ∧ w'.cell? ⟨w.heap.size, 4, none⟩ = some (Value.float FloatKind.f64 a.z.lo) ∧ w'.cell? ⟨w.heap.size, 5, none⟩ = some (Value.float FloatKind.f64 a.z.hi) ∧ w'.cell? ⟨w.heap.size + 1, 0, none⟩ = some (Value.float FloatKind.f64 b.x.lo) ∧ w'.cell? ⟨w.heap.size + 1, 1, none⟩ = some (Value.float FloatKind.f64 b.x.hi) ∧ w'.cell? ⟨w.heap.size + 1, 2, none⟩ = some (Value.float FloatKind.f64 b.y.lo) ∧ w'.cell? ⟨w.heap.size + 1, 3, none⟩ = some (Value.float FloatKind.f64 b.y.hi) ∧ w'.cell? ⟨w.heap.size + 1, 4, none⟩ = some (Value.float FloatKind.f64 b.z.lo) ∧ w'.cell? ⟨w.heap.size + 1, 5, none⟩ = some (Value.float FloatKind.f64 b.z.hi))) (by kernel_rfl) ?_
  (try change wpAnyH _ _ _ _ _ _ _ (World.drew _))
  have hS0 := HO.out _ (Below.drew G0.out)
  refine wpAnyH_takeN (i := 0) (v := ?v5_0x7) (l' := bm 11 1) (a' := ?a5_0x7) rfl (by kernel_rfl) (by kernel_rfl) (by kernel_rfl) (fun _ _ _ h => h) (Or.inl ⟨by kernel_rfl, ?h5_0x7⟩) (by kernel_rfl) ?p5_0x7 hS0 ?r5_0x7
  case h5_0x7 => (intro w hS; go_simp; try with_reducible rfl)
  case p5_0x7 => (go_simp; try with_reducible rfl)
  refine wpAnyH_takeN (i := 1) (v := ?v5_1x7) (l' := bm 11 3) (a' := ?a5_1x7) rfl (by kernel_rfl) (by kernel_rfl) (by kernel_rfl) (fun _ _ _ h => h) (Or.inl ⟨by kernel_rfl, ?h5_1x7⟩) (by kernel_rfl) ?p5_1x7 hS0 ?r5_1x7
  case h5_1x7 => (intro w hS; go_simp; try with_reducible rfl)
  case p5_1x7 => (go_simp; try with_reducible rfl)
  refine wpAnyH_takeN (i := 2) (v := ?v5_2x7) (l' := bm 11 7) (a' := ?a5_2x7) rfl (by kernel_rfl) (by kernel_rfl) (by kernel_rfl) (fun _ _ _ h => h) (Or.inl ⟨by kernel_rfl, ?h5_2x7⟩) (by kernel_rfl) ?p5_2x7 hS0 ?r5_2x7
  case h5_2x7 => (intro w hS; go_simp; try with_reducible rfl)
  case p5_2x7 => (go_simp; try with_reducible rfl)
  refine wpAnyH_takeN (i := 3) (v := ?v5_3x7) (l' := bm 11 15) (a' := ?a5_3x7) rfl (by kernel_rfl) (by kernel_rfl) (by kernel_rfl) (fun _ _ _ h => h) (Or.inl ⟨by kernel_rfl, ?h5_3x7⟩) (by kernel_rfl) ?p5_3x7 hS0 ?r5_3x7
  case h5_3x7 => (intro w hS; go_simp; try with_reducible rfl)
  case p5_3x7 => (go_simp; try with_reducible rfl)
  refine wpAnyH_takeN (i := 4) (v := ?v5_4x7) (l' := bm 11 31) (a' := ?a5_4x7) rfl (by kernel_rfl) (by kernel_rfl) (by kernel_rfl) (fun _ _ _ h => h) (Or.inl ⟨by kernel_rfl, ?h5_4x7⟩) (by kernel_rfl) ?p5_4x7 hS0 ?r5_4x7
  case h5_4x7 => (intro w hS; go_simp; try with_reducible rfl)
  case p5_4x7 => (go_simp; try with_reducible rfl)
  refine wpAnyH_takeN (i := 5) (v := ?v5_5x7) (l' := bm 11 63) (a' := ?a5_5x7) rfl (by kernel_rfl) (by kernel_rfl) (by kernel_rfl) (fun _ _ _ h => h) (Or.inl ⟨by kernel_rfl, ?h5_5x7⟩) (by kernel_rfl) ?p5_5x7 hS0 ?r5_5x7
  case h5_5x7 => (intro w hS; go_simp; try with_reducible rfl)
  case p5_5x7 => (go_simp; try with_reducible rfl)
  refine wpAnyH_takeN (i := 6) (v := ?v5_6x7) (l' := bm 11 127) (a' := ?a5_6x7) rfl (by kernel_rfl) (by kernel_rfl) (by kernel_rfl) (fun _ _ _ h => h) (Or.inl ⟨by kernel_rfl, ?h5_6x7⟩) (by kernel_rfl) ?p5_6x7 hS0 ?r5_6x7
  case h5_6x7 => (intro w hS; go_simp; try with_reducible rfl)
  case p5_6x7 => (go_simp; try with_reducible rfl)
  refine wpAnyH_takeN (i := 7) (v := ?v5_7x7) (l' := bm 11 255) (a' := ?a5_7x7) rfl (by kernel_rfl) (by kernel_rfl) (by kernel_rfl) (fun _ _ _ h => h) (Or.inl ⟨by kernel_rfl, ?h5_7x7⟩) (by kernel_rfl) ?p5_7x7 hS0 ?r5_7x7
  case h5_7x7 => (intro w hS; go_simp; try with_reducible rfl)
  case p5_7x7 => (go_simp; try with_reducible rfl)
  refine wpAnyH_oneN (i := 8) (l' := bm 11 511) rfl (by kernel_rfl) (by kernel_rfl) (by kernel_rfl) (fun K hK => ?_)
  have hP := hS0.1
  go_simp
  go_at_call 78
  refine (C1.out _).mono ?_
  rintro r w1_0 ⟨rfl, hb⟩
  dsimp only
  have E1_0 := Lib.hid (below_at hP hBW hb)
  have KE1_0 := Lib.hid (Blk.below KD1.out hb (Blk.lt KD1.out))
  clear hb
  have f0 := KE1_0.out.cell 2
  have f1 := KE1_0.out.cell 3
  have u0 := KE1_0.out.unfrozen 2
  have u1 := KE1_0.out.unfrozen 3
  have hS1 := HO.out _ (E1_0.out)
  clear hP hS0
  refine hK _ _ hS1 ?_
  clear hK K
  refine wpAnyH_takeN (i := 9) (v := ?v5_9x7) (l' := bm 11 1023) (a' := ?a5_9x7) rfl (by kernel_rfl) (by kernel_rfl) (by kernel_rfl) (fun _ _ _ h => h) (Or.inl ⟨by kernel_rfl, ?h5_9x7⟩) (by kernel_rfl) ?p5_9x7 hS1 ?r5_9x7
  case h5_9x7 => (intro w hS; go_simp; try with_reducible rfl)
  case p5_9x7 => (go_simp; try with_reducible rfl)
  refine wpAnyH_oneN (i := 10) (l' := bm 11 2047) rfl (by kernel_rfl) (by kernel_rfl) (by kernel_rfl) (fun K hK => ?_)
  have hP := hS1.1
  go_simp
  have hS2 := HO.out _ ((Below.setCell (Below.setCell hP (p := ⟨w.heap.size + 1 + 1 + 1, 2, none⟩) (Nat.le_refl _) (Value.float FloatKind.f64 p.y.lo)) (p := ⟨w.heap.size + 1 + 1 + 1, 3, none⟩) (Nat.le_refl _) (Value.float FloatKind.f64 p.y.hi)))
  clear hP hS1
  refine hK _ _ hS2 ?_
  clear hK K
  refine wpAnyH_done (by kernel_rfl) ?_ _
  have DF := hS2.1
  clear hS2 f0 f1 u0 u1
  obtain ⟨V1, hV⟩ : ∃ V, (w1_0.setCell ⟨w.heap.size + 1 + 1 + 1, 2, none⟩ (Value.float FloatKind.f64 p.y.lo)).setCell ⟨w.heap.size + 1 + 1 + 1, 3, none⟩ (Value.float FloatKind.f64 p.y.hi) = V := ⟨_, rfl⟩
  rw [hV] at DF ⊢
  have KF1 := Lib.hid (hV ▸ Blk.set_ (Blk.set_ KE1_0.out 2 _) 3 _ : Blk V1 (w.heap.size + 1 + 1 + 1) 26 #[Value.float FloatKind.f64 p.x.lo, Value.float FloatKind.f64 p.x.hi, Value.float FloatKind.f64 p.y.lo, Value.float FloatKind.f64 p.y.hi, Value.float FloatKind.f64 0, Value.float FloatKind.f64 0])
  have G1 := Lib.hid DF
  clear DF hV
  go_wp2_with fail
  rw [rounds_succ]
  go_wp2_with fail
  have KD2 := Lib.hid (show Blk (World.drew V1) (w.heap.size + 1 + 1 + 1) 26 #[Value.float FloatKind.f64 p.x.lo, Value.float FloatKind.f64 p.x.hi, Value.float FloatKind.f64 p.y.lo, Value.float FloatKind.f64 p.y.hi, Value.float FloatKind.f64 0, Value.float FloatKind.f64 0] from KF1.out)
  refine wp_region_held (S := (fun w' => Below (w.heap.size + 1 + 1 + 1) W w' ∧ w'.cell? ⟨w.heap.size, 0, none⟩ = some (Value.float FloatKind.f64 a.x.lo) ∧ w'.cell? ⟨w.heap.size, 1, none⟩ = some (Value.float FloatKind.f64 a.x.hi) ∧ w'.cell? ⟨w.heap.size, 2, none⟩ = some (Value.float FloatKind.f64 a.y.lo) ∧ w'.cell? ⟨w.heap.size, 3, none⟩ = some (Value.float FloatKind.f64 a.y.hi) ∧ w'.cell? ⟨w.heap.size, 4, none⟩ = some (Value.float FloatKind.f64 a.z.lo) ∧ w'.cell? ⟨w.heap.size, 5, none⟩ = some (Value.float FloatKind.f64 a.z.hi) ∧ w'.cell? ⟨w.heap.size + 1, 0, none⟩ = some (Value.float FloatKind.f64 b.x.lo) ∧ w'.cell? ⟨w.heap.size + 1, 1, none⟩ = some (Value.float FloatKind.f64 b.x.hi) ∧ w'.cell? ⟨w.heap.size + 1, 2, none⟩ = some (Value.float FloatKind.f64 b.y.lo) ∧ w'.cell? ⟨w.heap.size + 1, 3, none⟩ = some (Value.float FloatKind.f64 b.y.hi) ∧ w'.cell? ⟨w.heap.size + 1, 4, none⟩ = some (Value.float FloatKind.f64 b.z.lo) ∧ w'.cell? ⟨w.heap.size + 1, 5, none⟩ = some (Value.float FloatKind.f64 b.z.hi))) (by kernel_rfl) ?_
  (try change wpAnyH _ _ _ _ _ _ _ (World.drew _))
  have hS0 := HO.out _ (Below.drew G1.out)
  refine wpAnyH_takeN (i := 0) (v := ?v5_0x8) (l' := bm 11 1) (a' := ?a5_0x8) rfl (by kernel_rfl) (by kernel_rfl) (by kernel_rfl) (fun _ _ _ h => h) (Or.inl ⟨by kernel_rfl, ?h5_0x8⟩) (by kernel_rfl) ?p5_0x8 hS0 ?r5_0x8
  case h5_0x8 => (intro w hS; go_simp; try with_reducible rfl)
  case p5_0x8 => (go_simp; try with_reducible rfl)
  refine wpAnyH_takeN (i := 1) (v := ?v5_1x8) (l' := bm 11 3) (a' := ?a5_1x8) rfl (by kernel_rfl) (by kernel_rfl) (by kernel_rfl) (fun _ _ _ h => h) (Or.inl ⟨by kernel_rfl, ?h5_1x8⟩) (by kernel_rfl) ?p5_1x8 hS0 ?r5_1x8
  case h5_1x8 => (intro w hS; go_simp; try with_reducible rfl)
  case p5_1x8 => (go_simp; try with_reducible rfl)
  refine wpAnyH_takeN (i := 2) (v := ?v5_2x8) (l' := bm 11 7) (a' := ?a5_2x8) rfl (by kernel_rfl) (by kernel_rfl) (by kernel_rfl) (fun _ _ _ h => h) (Or.inl ⟨by kernel_rfl, ?h5_2x8⟩) (by kernel_rfl) ?p5_2x8 hS0 ?r5_2x8
  case h5_2x8 => (intro w hS; go_simp; try with_reducible rfl)
  case p5_2x8 => (go_simp; try with_reducible rfl)
  refine wpAnyH_takeN (i := 3) (v := ?v5_3x8) (l' := bm 11 15) (a' := ?a5_3x8) rfl (by kernel_rfl) (by kernel_rfl) (by kernel_rfl) (fun _ _ _ h => h) (Or.inl ⟨by kernel_rfl, ?h5_3x8⟩) (by kernel_rfl) ?p5_3x8 hS0 ?r5_3x8
  case h5_3x8 => (intro w hS; go_simp; try with_reducible rfl)
  case p5_3x8 => (go_simp; try with_reducible rfl)
  refine wpAnyH_takeN (i := 4) (v := ?v5_4x8) (l' := bm 11 31) (a' := ?a5_4x8) rfl (by kernel_rfl) (by kernel_rfl) (by kernel_rfl) (fun _ _ _ h => h) (Or.inl ⟨by kernel_rfl, ?h5_4x8⟩) (by kernel_rfl) ?p5_4x8 hS0 ?r5_4x8
  case h5_4x8 => (intro w hS; go_simp; try with_reducible rfl)
  case p5_4x8 => (go_simp; try with_reducible rfl)
  refine wpAnyH_takeN (i := 5) (v := ?v5_5x8) (l' := bm 11 63) (a' := ?a5_5x8) rfl (by kernel_rfl) (by kernel_rfl) (by kernel_rfl) (fun _ _ _ h => h) (Or.inl ⟨by kernel_rfl, ?h5_5x8⟩) (by kernel_rfl) ?p5_5x8 hS0 ?r5_5x8
  case h5_5x8 => (intro w hS; go_simp; try with_reducible rfl)
  case p5_5x8 => (go_simp; try with_reducible rfl)
  refine wpAnyH_takeN (i := 6) (v := ?v5_6x8) (l' := bm 11 127) (a' := ?a5_6x8) rfl (by kernel_rfl) (by kernel_rfl) (by kernel_rfl) (fun _ _ _ h => h) (Or.inl ⟨by kernel_rfl, ?h5_6x8⟩) (by kernel_rfl) ?p5_6x8 hS0 ?r5_6x8
  case h5_6x8 => (intro w hS; go_simp; try with_reducible rfl)
  case p5_6x8 => (go_simp; try with_reducible rfl)
  refine wpAnyH_takeN (i := 7) (v := ?v5_7x8) (l' := bm 11 255) (a' := ?a5_7x8) rfl (by kernel_rfl) (by kernel_rfl) (by kernel_rfl) (fun _ _ _ h => h) (Or.inl ⟨by kernel_rfl, ?h5_7x8⟩) (by kernel_rfl) ?p5_7x8 hS0 ?r5_7x8
  case h5_7x8 => (intro w hS; go_simp; try with_reducible rfl)
  case p5_7x8 => (go_simp; try with_reducible rfl)
  refine wpAnyH_oneN (i := 8) (l' := bm 11 511) rfl (by kernel_rfl) (by kernel_rfl) (by kernel_rfl) (fun K hK => ?_)
  have hP := hS0.1
  go_simp
  go_at_call 78
  refine (C2.out _).mono ?_
  rintro r w2_0 ⟨rfl, hb⟩
  dsimp only
  have E2_0 := Lib.hid (below_at hP hBW hb)
  have KE2_0 := Lib.hid (Blk.below KD2.out hb (Blk.lt KD2.out))
  clear hb
  have f0 := KE2_0.out.cell 4
  have f1 := KE2_0.out.cell 5
  have u0 := KE2_0.out.unfrozen 4
  have u1 := KE2_0.out.unfrozen 5
  have hS1 := HO.out _ (E2_0.out)
  clear hP hS0
  refine hK _ _ hS1 ?_
  clear hK K
  refine wpAnyH_takeN (i := 9) (v := ?v5_9x8) (l' := bm 11 1023) (a' := ?a5_9x8) rfl (by kernel_rfl) (by kernel_rfl) (by kernel_rfl) (fun _ _ _ h => h) (Or.inl ⟨by kernel_rfl, ?h5_9x8⟩) (by kernel_rfl) ?p5_9x8 hS1 ?r5_9x8
  case h5_9x8 => (intro w hS; go_simp; try with_reducible rfl)
  case p5_9x8 => (go_simp; try with_reducible rfl)
  refine wpAnyH_oneN (i := 10) (l' := bm 11 2047) rfl (by kernel_rfl) (by kernel_rfl) (by kernel_rfl) (fun K hK => ?_)
  have hP := hS1.1
  go_simp
  have hS2 := HO.out _ ((Below.setCell (Below.setCell hP (p := ⟨w.heap.size + 1 + 1 + 1, 4, none⟩) (Nat.le_refl _) (Value.float FloatKind.f64 p.z.lo)) (p := ⟨w.heap.size + 1 + 1 + 1, 5, none⟩) (Nat.le_refl _) (Value.float FloatKind.f64 p.z.hi)))
  clear hP hS1
  refine hK _ _ hS2 ?_
  clear hK K
  refine wpAnyH_done (by kernel_rfl) ?_ _
  have DF := hS2.1
  clear hS2 f0 f1 u0 u1
  obtain ⟨V2, hV⟩ : ∃ V, (w2_0.setCell ⟨w.heap.size + 1 + 1 + 1, 4, none⟩ (Value.float FloatKind.f64 p.z.lo)).setCell ⟨w.heap.size + 1 + 1 + 1, 5, none⟩ (Value.float FloatKind.f64 p.z.hi) = V := ⟨_, rfl⟩
  rw [hV] at DF ⊢
  have KF2 := Lib.hid (hV ▸ Blk.set_ (Blk.set_ KE2_0.out 4 _) 5 _ : Blk V2 (w.heap.size + 1 + 1 + 1) 26 #[Value.float FloatKind.f64 p.x.lo, Value.float FloatKind.f64 p.x.hi, Value.float FloatKind.f64 p.y.lo, Value.float FloatKind.f64 p.y.hi, Value.float FloatKind.f64 p.z.lo, Value.float FloatKind.f64 p.z.hi])
  have G2 := Lib.hid DF
  clear DF hV
  go_wp2_with fail
  rw [rounds_succ]
  have KR := Lib.hid (Blk.below K2.out G2.out (by omega))
  have f0 := KF2.out.cell 0
  have g0 := KR.out.cell 0
  have u0 := KR.out.unfrozen 0
  have f1 := KF2.out.cell 1
  have g1 := KR.out.cell 1
  have u1 := KR.out.unfrozen 1
  have f2 := KF2.out.cell 2
  have g2 := KR.out.cell 2
  have u2 := KR.out.unfrozen 2
  have f3 := KF2.out.cell 3
  have g3 := KR.out.cell 3
  have u3 := KR.out.unfrozen 3
  have f4 := KF2.out.cell 4
  have g4 := KR.out.cell 4
  have u4 := KR.out.unfrozen 4
  have f5 := KF2.out.cell 5
  have g5 := KR.out.cell 5
  have u5 := KR.out.unfrozen 5
  go_wp2_with fail
  (try simp only [Exit.inBlock, Exit.then])
  exact bodyPost_ret (resV rfl _ _ (w.heap.size + 1 + 1) (Value.float FloatKind.f64 p.x.lo) (Value.float FloatKind.f64 p.x.hi) (Value.float FloatKind.f64 p.y.lo) (Value.float FloatKind.f64 p.y.hi) (Value.float FloatKind.f64 p.z.lo) (Value.float FloatKind.f64 p.z.hi) rfl (Blk.set_ (Blk.set_ (Blk.set_ (Blk.set_ (Blk.set_ (Blk.set_ (KR.out) 0 _) 1 _) 2 _) 3 _) 4 _) 5 _)) rfl ⟨rfl, (Below.setCell (Below.setCell (Below.setCell (Below.setCell (Below.setCell (Below.setCell ((HB.out).trans ((G2.out).mono (by omega))) (p := ⟨w.heap.size + 1 + 1, 0, none⟩) (by show w.heap.size ≤ w.heap.size + 1 + 1; omega) _) (p := ⟨w.heap.size + 1 + 1, 1, none⟩) (by show w.heap.size ≤ w.heap.size + 1 + 1; omega) _) (p := ⟨w.heap.size + 1 + 1, 2, none⟩) (by show w.heap.size ≤ w.heap.size + 1 + 1; omega) _) (p := ⟨w.heap.size + 1 + 1, 3, none⟩) (by show w.heap.size ≤ w.heap.size + 1 + 1; omega) _) (p := ⟨w.heap.size + 1 + 1, 4, none⟩) (by show w.heap.size ≤ w.heap.size + 1 + 1; omega) _) (p := ⟨w.heap.size + 1 + 1, 5, none⟩) (by show w.heap.size ≤ w.heap.size + 1 + 1; omega) _)⟩
set_option maxRecDepth 100000 in
set_option maxHeartbeats 4000000 in
theorem vMul_any (a : V3) (b : V3) (w : World) : Calls Try.prog 40 #[vval a, vval b] w fun r w' => r = .returned (vval (vMul a b)) ∧ Below w.heap.size w w' := by
  have C0 := Lib.hid (fun w => each_mul a b (vMul a b) w (mul_sp a.x b.x) (mul_sp a.y b.y) (mul_sp a.z b.z))
  generalize vMul a b = p at *
  go_enter Try.func40, Try.ntmps40
  go_wp2_with fail
  obtain ⟨W, hW, K0, K1, K2, hB, hz⟩ := box3 w 26 26 26 #[Value.float FloatKind.f64 a.x.lo, Value.float FloatKind.f64 a.x.hi, Value.float FloatKind.f64 a.y.lo, Value.float FloatKind.f64 a.y.hi, Value.float FloatKind.f64 a.z.lo, Value.float FloatKind.f64 a.z.hi] #[Value.float FloatKind.f64 b.x.lo, Value.float FloatKind.f64 b.x.hi, Value.float FloatKind.f64 b.y.lo, Value.float FloatKind.f64 b.y.hi, Value.float FloatKind.f64 b.z.lo, Value.float FloatKind.f64 b.z.hi] #[Value.float FloatKind.f64 0, Value.float FloatKind.f64 0, Value.float FloatKind.f64 0, Value.float FloatKind.f64 0, Value.float FloatKind.f64 0, Value.float FloatKind.f64 0]
  rw [← hW]
  have K0 := Lib.hid K0
  have K1 := Lib.hid K1
  have K2 := Lib.hid K2
  have HB := Lib.hid hB
  clear hW hB hz
  have HO := Lib.hid (show ∀ w', Hd W (w.heap.size + 1 + 1) 26 6 w' → (Hd W (w.heap.size + 1 + 1) 26 6 w' ∧ w'.cell? ⟨w.heap.size, 0, none⟩ = some (Value.float FloatKind.f64 a.x.lo) ∧ w'.cell? ⟨w.heap.size, 1, none⟩ = some (Value.float FloatKind.f64 a.x.hi) ∧ w'.cell? ⟨w.heap.size, 2, none⟩ = some (Value.float FloatKind.f64 a.y.lo) ∧ w'.cell? ⟨w.heap.size, 3, none⟩ = some (Value.float FloatKind.f64 a.y.hi) ∧ w'.cell? ⟨w.heap.size, 4, none⟩ = some (Value.float FloatKind.f64 a.z.lo) ∧ w'.cell? ⟨w.heap.size, 5, none⟩ = some (Value.float FloatKind.f64 a.z.hi) ∧ w'.cell? ⟨w.heap.size + 1, 0, none⟩ = some (Value.float FloatKind.f64 b.x.lo) ∧ w'.cell? ⟨w.heap.size + 1, 1, none⟩ = some (Value.float FloatKind.f64 b.x.hi) ∧ w'.cell? ⟨w.heap.size + 1, 2, none⟩ = some (Value.float FloatKind.f64 b.y.lo) ∧ w'.cell? ⟨w.heap.size + 1, 3, none⟩ = some (Value.float FloatKind.f64 b.y.hi) ∧ w'.cell? ⟨w.heap.size + 1, 4, none⟩ = some (Value.float FloatKind.f64 b.z.lo) ∧ w'.cell? ⟨w.heap.size + 1, 5, none⟩ = some (Value.float FloatKind.f64 b.z.hi) ∧ w'.cell? ⟨w.heap.size + 1 + 1, 0, none⟩ = some (cellAt w' ⟨w.heap.size + 1 + 1, 0, none⟩) ∧ w'.frozen? ⟨w.heap.size + 1 + 1, 0, none⟩ = false ∧ w'.cell? ⟨w.heap.size + 1 + 1, 1, none⟩ = some (cellAt w' ⟨w.heap.size + 1 + 1, 1, none⟩) ∧ w'.frozen? ⟨w.heap.size + 1 + 1, 1, none⟩ = false ∧ w'.cell? ⟨w.heap.size + 1 + 1, 2, none⟩ = some (cellAt w' ⟨w.heap.size + 1 + 1, 2, none⟩) ∧ w'.frozen? ⟨w.heap.size + 1 + 1, 2, none⟩ = false ∧ w'.cell? ⟨w.heap.size + 1 + 1, 3, none⟩ = some (cellAt w' ⟨w.heap.size + 1 + 1, 3, none⟩) ∧ w'.frozen? ⟨w.heap.size + 1 + 1, 3, none⟩ = false ∧ w'.cell? ⟨w.heap.size + 1 + 1, 4, none⟩ = some (cellAt w' ⟨w.heap.size + 1 + 1, 4, none⟩) ∧ w'.frozen? ⟨w.heap.size + 1 + 1, 4, none⟩ = false ∧ w'.cell? ⟨w.heap.size + 1 + 1, 5, none⟩ = some (cellAt w' ⟨w.heap.size + 1 + 1, 5, none⟩) ∧ w'.frozen? ⟨w.heap.size + 1 + 1, 5, none⟩ = false) from fun w' h => ⟨h, (h.blk K0.out (by omega)).cell 0, (h.blk K0.out (by omega)).cell 1, (h.blk K0.out (by omega)).cell 2, (h.blk K0.out (by omega)).cell 3, (h.blk K0.out (by omega)).cell 4, (h.blk K0.out (by omega)).cell 5, (h.blk K1.out (by omega)).cell 0, (h.blk K1.out (by omega)).cell 1, (h.blk K1.out (by omega)).cell 2, (h.blk K1.out (by omega)).cell 3, (h.blk K1.out (by omega)).cell 4, (h.blk K1.out (by omega)).cell 5, (h.at_ 0 (by decide)).1, (h.at_ 0 (by decide)).2, (h.at_ 1 (by decide)).1, (h.at_ 1 (by decide)).2, (h.at_ 2 (by decide)).1, (h.at_ 2 (by decide)).2, (h.at_ 3 (by decide)).1, (h.at_ 3 (by decide)).2, (h.at_ 4 (by decide)).1, (h.at_ 4 (by decide)).2, (h.at_ 5 (by decide)).1, (h.at_ 5 (by decide)).2⟩)
  have D0 := Lib.hid (show Hd W (w.heap.size + 1 + 1) 26 6 W from Hd.start K2.out)
  refine (C0.out _).mono ?_
  rintro r w1 ⟨rfl, hb⟩
  have D1 := Lib.hid (Hd.call D0.out hb)
  clear hb
  obtain ⟨-, q0, q1, q2, q3, q4, q5, q6, q7, q8, q9, q10, q11, q12, q13, q14, q15, q16, q17, q18, q19, q20, q21, q22, q23⟩ := HO.out _ D1.out
  have z1 := Hd.lt D1.out
  go_wp2_with fail
  (try simp only [Exit.inBlock, Exit.then])
  have hF := (Hd.set (Hd.set (Hd.set (Hd.set (Hd.set (Hd.set D1.out 0 (Value.float FloatKind.f64 p.x.lo)) 1 (Value.float FloatKind.f64 p.x.hi)) 2 (Value.float FloatKind.f64 p.y.lo)) 3 (Value.float FloatKind.f64 p.y.hi)) 4 (Value.float FloatKind.f64 p.z.lo)) 5 (Value.float FloatKind.f64 p.z.hi))
  exact bodyPost_ret (resV rfl _ _ (w.heap.size + 1 + 1) (Value.float FloatKind.f64 p.x.lo) (Value.float FloatKind.f64 p.x.hi) (Value.float FloatKind.f64 p.y.lo) (Value.float FloatKind.f64 p.y.hi) (Value.float FloatKind.f64 p.z.lo) (Value.float FloatKind.f64 p.z.hi) rfl (Hd.wrote6 hF)) rfl ⟨rfl, Hd.below hF HB.out (by omega)⟩
set_option maxRecDepth 100000 in
set_option maxHeartbeats 4000000 in
theorem crossV_any (a b : V3) (w : World) : Calls Try.prog 34 #[vval a, vval b] w fun r w' => r = .returned (vval (vCross a b)) ∧ Below w.heap.size w w' := by
  have C00 := Lib.hid (fun w => mul_sp a.y b.z w)
  have C01 := Lib.hid (fun w => mul_sp a.z b.y w)
  have C02 := Lib.hid (fun w => sub_sp (mulS a.y b.z) (mulS a.z b.y) w)
  have C10 := Lib.hid (fun w => mul_sp a.z b.x w)
  have C11 := Lib.hid (fun w => mul_sp a.x b.z w)
  have C12 := Lib.hid (fun w => sub_sp (mulS a.z b.x) (mulS a.x b.z) w)
  have C20 := Lib.hid (fun w => mul_sp a.x b.y w)
  have C21 := Lib.hid (fun w => mul_sp a.y b.x w)
  have C22 := Lib.hid (fun w => sub_sp (mulS a.x b.y) (mulS a.y b.x) w)
  obtain ⟨p, hp⟩ : ∃ p, p = vCross a b := ⟨_, rfl⟩
  rw [← hp]
  have e0 : subS (mulS a.y b.z) (mulS a.z b.y) = p.x := by rw [hp]; rfl
  rw [e0] at C02
  have e1 : subS (mulS a.z b.x) (mulS a.x b.z) = p.y := by rw [hp]; rfl
  rw [e1] at C12
  have e2 : subS (mulS a.x b.y) (mulS a.y b.x) = p.z := by rw [hp]; rfl
  rw [e2] at C22
  clear hp e0 e1 e2
  generalize mulS a.y b.z = m0 at *
  generalize mulS a.z b.y = n0 at *
  generalize mulS a.z b.x = m1 at *
  generalize mulS a.x b.z = n1 at *
  generalize mulS a.x b.y = m2 at *
  generalize mulS a.y b.x = n2 at *
  go_enter Try.func34, Try.ntmps34
  go_wp2_with fail
  obtain ⟨W, hW, K0, K1, K2, KO, hB, hz⟩ := vbox4 w 26 26 26 26 #[Value.float FloatKind.f64 a.x.lo, Value.float FloatKind.f64 a.x.hi, Value.float FloatKind.f64 a.y.lo, Value.float FloatKind.f64 a.y.hi, Value.float FloatKind.f64 a.z.lo, Value.float FloatKind.f64 a.z.hi] #[Value.float FloatKind.f64 b.x.lo, Value.float FloatKind.f64 b.x.hi, Value.float FloatKind.f64 b.y.lo, Value.float FloatKind.f64 b.y.hi, Value.float FloatKind.f64 b.z.lo, Value.float FloatKind.f64 b.z.hi] #[Value.float FloatKind.f64 0, Value.float FloatKind.f64 0, Value.float FloatKind.f64 0, Value.float FloatKind.f64 0, Value.float FloatKind.f64 0, Value.float FloatKind.f64 0] #[Value.float FloatKind.f64 0, Value.float FloatKind.f64 0, Value.float FloatKind.f64 0, Value.float FloatKind.f64 0, Value.float FloatKind.f64 0, Value.float FloatKind.f64 0]
  rw [← hW]
  have K0 := Lib.hid K0
  have K1 := Lib.hid K1
  have K2 := Lib.hid K2
  have KO := Lib.hid KO
  have HB := Lib.hid hB
  have hBW : w.heap.size + 1 + 1 + 1 ≤ W.heap.size := by omega
  clear hW hB hz
  have HO := Lib.hid (show ∀ w', Below (w.heap.size + 1 + 1 + 1) W w' → (Below (w.heap.size + 1 + 1 + 1) W w' ∧ w'.cell? ⟨w.heap.size, 0, none⟩ = some (Value.float FloatKind.f64 a.x.lo) ∧ w'.cell? ⟨w.heap.size, 1, none⟩ = some (Value.float FloatKind.f64 a.x.hi) ∧ w'.cell? ⟨w.heap.size, 2, none⟩ = some (Value.float FloatKind.f64 a.y.lo) ∧ w'.cell? ⟨w.heap.size, 3, none⟩ = some (Value.float FloatKind.f64 a.y.hi) ∧ w'.cell? ⟨w.heap.size, 4, none⟩ = some (Value.float FloatKind.f64 a.z.lo) ∧ w'.cell? ⟨w.heap.size, 5, none⟩ = some (Value.float FloatKind.f64 a.z.hi) ∧ w'.cell? ⟨w.heap.size + 1, 0, none⟩ = some (Value.float FloatKind.f64 b.x.lo) ∧ w'.cell? ⟨w.heap.size + 1, 1, none⟩ = some (Value.float FloatKind.f64 b.x.hi) ∧ w'.cell? ⟨w.heap.size + 1, 2, none⟩ = some (Value.float FloatKind.f64 b.y.lo) ∧ w'.cell? ⟨w.heap.size + 1, 3, none⟩ = some (Value.float FloatKind.f64 b.y.hi) ∧ w'.cell? ⟨w.heap.size + 1, 4, none⟩ = some (Value.float FloatKind.f64 b.z.lo) ∧ w'.cell? ⟨w.heap.size + 1, 5, none⟩ = some (Value.float FloatKind.f64 b.z.hi)) from fun w' h => ⟨h, (Blk.below K0.out h (by omega)).cell 0, (Blk.below K0.out h (by omega)).cell 1, (Blk.below K0.out h (by omega)).cell 2, (Blk.below K0.out h (by omega)).cell 3, (Blk.below K0.out h (by omega)).cell 4, (Blk.below K0.out h (by omega)).cell 5, (Blk.below K1.out h (by omega)).cell 0, (Blk.below K1.out h (by omega)).cell 1, (Blk.below K1.out h (by omega)).cell 2, (Blk.below K1.out h (by omega)).cell 3, (Blk.below K1.out h (by omega)).cell 4, (Blk.below K1.out h (by omega)).cell 5⟩)
  have D0 := Lib.hid (Below.refl (w.heap.size + 1 + 1 + 1) W)
  refine wp_loop_rounds 4 ?_
  rw [rounds_succ]
  go_wp2_with fail
  have KD0 := Lib.hid (show Blk (World.drew W) (w.heap.size + 1 + 1 + 1) 26 #[Value.float FloatKind.f64 0, Value.float FloatKind.f64 0, Value.float FloatKind.f64 0, Value.float FloatKind.f64 0, Value.float FloatKind.f64 0, Value.float FloatKind.f64 0] from KO.out)
  refine wp_region_held (S := (fun w' => Below (w.heap.size + 1 + 1 + 1) W w' ∧ w'.cell? ⟨w.heap.size, 0, none⟩ = some (Value.float FloatKind.f64 a.x.lo) ∧ w'.cell? ⟨w.heap.size, 1, none⟩ = some (Value.float FloatKind.f64 a.x.hi) ∧ w'.cell? ⟨w.heap.size, 2, none⟩ = some (Value.float FloatKind.f64 a.y.lo) ∧ w'.cell? ⟨w.heap.size, 3, none⟩ = some (Value.float FloatKind.f64 a.y.hi) ∧ w'.cell? ⟨w.heap.size, 4, none⟩ = some (Value.float FloatKind.f64 a.z.lo) ∧ w'.cell? ⟨w.heap.size, 5, none⟩ = some (Value.float FloatKind.f64 a.z.hi) ∧ w'.cell? ⟨w.heap.size + 1, 0, none⟩ = some (Value.float FloatKind.f64 b.x.lo) ∧ w'.cell? ⟨w.heap.size + 1, 1, none⟩ = some (Value.float FloatKind.f64 b.x.hi) ∧ w'.cell? ⟨w.heap.size + 1, 2, none⟩ = some (Value.float FloatKind.f64 b.y.lo) ∧ w'.cell? ⟨w.heap.size + 1, 3, none⟩ = some (Value.float FloatKind.f64 b.y.hi) ∧ w'.cell? ⟨w.heap.size + 1, 4, none⟩ = some (Value.float FloatKind.f64 b.z.lo) ∧ w'.cell? ⟨w.heap.size + 1, 5, none⟩ = some (Value.float FloatKind.f64 b.z.hi))) (by kernel_rfl) ?_
  (try change wpAnyH _ _ _ _ _ _ _ (World.drew _))
  have hS0 := HO.out _ (Below.drew D0.out)
  refine wpAnyH_takeN (i := 0) (v := ?v6_0) (l' := bm 18 1) (a' := ?a6_0) rfl (by kernel_rfl) (by kernel_rfl) (by kernel_rfl) (fun _ _ _ h => h) (Or.inl ⟨by kernel_rfl, ?h6_0⟩) (by kernel_rfl) ?p6_0 hS0 ?r6_0
  case h6_0 => (intro w hS; go_simp; try with_reducible rfl)
  case p6_0 => (go_simp; try with_reducible rfl)
  refine wpAnyH_takeN (i := 1) (v := ?v6_1) (l' := bm 18 3) (a' := ?a6_1) rfl (by kernel_rfl) (by kernel_rfl) (by kernel_rfl) (fun _ _ _ h => h) (Or.inl ⟨by kernel_rfl, ?h6_1⟩) (by kernel_rfl) ?p6_1 hS0 ?r6_1
  case h6_1 => (intro w hS; go_simp; try with_reducible rfl)
  case p6_1 => (go_simp; try with_reducible rfl)
  refine wpAnyH_takeN (i := 2) (v := ?v6_2) (l' := bm 18 7) (a' := ?a6_2) rfl (by kernel_rfl) (by kernel_rfl) (by kernel_rfl) (fun _ _ _ h => h) (Or.inl ⟨by kernel_rfl, ?h6_2⟩) (by kernel_rfl) ?p6_2 hS0 ?r6_2
  case h6_2 => (intro w hS; go_simp; try with_reducible rfl)
  case p6_2 => (go_simp; try with_reducible rfl)
  refine wpAnyH_takeN (i := 3) (v := ?v6_3) (l' := bm 18 15) (a' := ?a6_3) rfl (by kernel_rfl) (by kernel_rfl) (by kernel_rfl) (fun _ _ _ h => h) (Or.inl ⟨by kernel_rfl, ?h6_3⟩) (by kernel_rfl) ?p6_3 hS0 ?r6_3
  case h6_3 => (intro w hS; go_simp; try with_reducible rfl)
  case p6_3 => (go_simp; try with_reducible rfl)
  refine wpAnyH_takeN (i := 4) (v := ?v6_4) (l' := bm 18 31) (a' := ?a6_4) rfl (by kernel_rfl) (by kernel_rfl) (by kernel_rfl) (fun _ _ _ h => h) (Or.inl ⟨by kernel_rfl, ?h6_4⟩) (by kernel_rfl) ?p6_4 hS0 ?r6_4
  case h6_4 => (intro w hS; go_simp; try with_reducible rfl)
  case p6_4 => (go_simp; try with_reducible rfl)
  refine wpAnyH_takeN (i := 5) (v := ?v6_5) (l' := bm 18 63) (a' := ?a6_5) rfl (by kernel_rfl) (by kernel_rfl) (by kernel_rfl) (fun _ _ _ h => h) (Or.inl ⟨by kernel_rfl, ?h6_5⟩) (by kernel_rfl) ?p6_5 hS0 ?r6_5
  case h6_5 => (intro w hS; go_simp; try with_reducible rfl)
  case p6_5 => (go_simp; try with_reducible rfl)
  refine wpAnyH_takeN (i := 6) (v := ?v6_6) (l' := bm 18 127) (a' := ?a6_6) rfl (by kernel_rfl) (by kernel_rfl) (by kernel_rfl) (fun _ _ _ h => h) (Or.inl ⟨by kernel_rfl, ?h6_6⟩) (by kernel_rfl) ?p6_6 hS0 ?r6_6
  case h6_6 => (intro w hS; go_simp; try with_reducible rfl)
  case p6_6 => (go_simp; try with_reducible rfl)
  refine wpAnyH_takeN (i := 8) (v := ?v6_8) (l' := bm 18 383) (a' := ?a6_8) rfl (by kernel_rfl) (by kernel_rfl) (by kernel_rfl) (fun _ _ _ h => h) (Or.inl ⟨by kernel_rfl, ?h6_8⟩) (by kernel_rfl) ?p6_8 hS0 ?r6_8
  case h6_8 => (intro w hS; go_simp; try with_reducible rfl)
  case p6_8 => (go_simp; try with_reducible rfl)
  refine wpAnyH_takeN (i := 9) (v := ?v6_9) (l' := bm 18 895) (a' := ?a6_9) rfl (by kernel_rfl) (by kernel_rfl) (by kernel_rfl) (fun _ _ _ h => h) (Or.inl ⟨by kernel_rfl, ?h6_9⟩) (by kernel_rfl) ?p6_9 hS0 ?r6_9
  case h6_9 => (intro w hS; go_simp; try with_reducible rfl)
  case p6_9 => (go_simp; try with_reducible rfl)
  refine wpAnyH_takeN (i := 10) (v := ?v6_10) (l' := bm 18 1919) (a' := ?a6_10) rfl (by kernel_rfl) (by kernel_rfl) (by kernel_rfl) (fun _ _ _ h => h) (Or.inl ⟨by kernel_rfl, ?h6_10⟩) (by kernel_rfl) ?p6_10 hS0 ?r6_10
  case h6_10 => (intro w hS; go_simp; try with_reducible rfl)
  case p6_10 => (go_simp; try with_reducible rfl)
  refine wpAnyH_takeN (i := 11) (v := ?v6_11) (l' := bm 18 3967) (a' := ?a6_11) rfl (by kernel_rfl) (by kernel_rfl) (by kernel_rfl) (fun _ _ _ h => h) (Or.inl ⟨by kernel_rfl, ?h6_11⟩) (by kernel_rfl) ?p6_11 hS0 ?r6_11
  case h6_11 => (intro w hS; go_simp; try with_reducible rfl)
  case p6_11 => (go_simp; try with_reducible rfl)
  refine wpAnyH_takeN (i := 12) (v := ?v6_12) (l' := bm 18 8063) (a' := ?a6_12) rfl (by kernel_rfl) (by kernel_rfl) (by kernel_rfl) (fun _ _ _ h => h) (Or.inl ⟨by kernel_rfl, ?h6_12⟩) (by kernel_rfl) ?p6_12 hS0 ?r6_12
  case h6_12 => (intro w hS; go_simp; try with_reducible rfl)
  case p6_12 => (go_simp; try with_reducible rfl)
  refine wpAnyH_takeN (i := 13) (v := ?v6_13) (l' := bm 18 16255) (a' := ?a6_13) rfl (by kernel_rfl) (by kernel_rfl) (by kernel_rfl) (fun _ _ _ h => h) (Or.inl ⟨by kernel_rfl, ?h6_13⟩) (by kernel_rfl) ?p6_13 hS0 ?r6_13
  case h6_13 => (intro w hS; go_simp; try with_reducible rfl)
  case p6_13 => (go_simp; try with_reducible rfl)
  refine wpAnyH_oneN (i := 7) (l' := bm 18 16383) rfl (by kernel_rfl) (by kernel_rfl) (by kernel_rfl) (fun K hK => ?_)
  have hP := hS0.1
  go_simp
  go_at_call 78
  refine (C00.out _).mono ?_
  rintro r w0_0 ⟨rfl, hb⟩
  dsimp only
  have E0_0 := Lib.hid (below_at hP hBW hb)
  have KE0_0 := Lib.hid (Blk.below KD0.out hb (Blk.lt KD0.out))
  clear hb
  have hS1 := HO.out _ (E0_0.out)
  clear hP hS0
  refine hK _ _ hS1 ?_
  clear hK K
  refine wpAnyH_oneN (i := 14) (l' := bm 18 32767) rfl (by kernel_rfl) (by kernel_rfl) (by kernel_rfl) (fun K hK => ?_)
  have hP := hS1.1
  go_simp
  go_at_call 78
  refine (C01.out _).mono ?_
  rintro r w0_1 ⟨rfl, hb⟩
  dsimp only
  have E0_1 := Lib.hid (below_at hP hBW hb)
  have KE0_1 := Lib.hid (Blk.below KE0_0.out hb (Blk.lt KE0_0.out))
  clear hb
  have hS2 := HO.out _ (E0_1.out)
  clear hP hS1
  refine hK _ _ hS2 ?_
  clear hK K
  refine wpAnyH_oneN (i := 15) (l' := bm 18 65535) rfl (by kernel_rfl) (by kernel_rfl) (by kernel_rfl) (fun K hK => ?_)
  have hP := hS2.1
  go_simp
  go_at_call 77
  refine (C02.out _).mono ?_
  rintro r w0_2 ⟨rfl, hb⟩
  dsimp only
  have E0_2 := Lib.hid (below_at hP hBW hb)
  have KE0_2 := Lib.hid (Blk.below KE0_1.out hb (Blk.lt KE0_1.out))
  clear hb
  have f0 := KE0_2.out.cell 0
  have f1 := KE0_2.out.cell 1
  have u0 := KE0_2.out.unfrozen 0
  have u1 := KE0_2.out.unfrozen 1
  have hS3 := HO.out _ (E0_2.out)
  clear hP hS2
  refine hK _ _ hS3 ?_
  clear hK K
  refine wpAnyH_takeN (i := 16) (v := ?v6_16) (l' := bm 18 131071) (a' := ?a6_16) rfl (by kernel_rfl) (by kernel_rfl) (by kernel_rfl) (fun _ _ _ h => h) (Or.inl ⟨by kernel_rfl, ?h6_16⟩) (by kernel_rfl) ?p6_16 hS3 ?r6_16
  case h6_16 => (intro w hS; go_simp; try with_reducible rfl)
  case p6_16 => (go_simp; try with_reducible rfl)
  refine wpAnyH_oneN (i := 17) (l' := bm 18 262143) rfl (by kernel_rfl) (by kernel_rfl) (by kernel_rfl) (fun K hK => ?_)
  have hP := hS3.1
  go_simp
  have hS4 := HO.out _ ((Below.setCell (Below.setCell hP (p := ⟨w.heap.size + 1 + 1 + 1, 0, none⟩) (Nat.le_refl _) (Value.float FloatKind.f64 p.x.lo)) (p := ⟨w.heap.size + 1 + 1 + 1, 1, none⟩) (Nat.le_refl _) (Value.float FloatKind.f64 p.x.hi)))
  clear hP hS3
  refine hK _ _ hS4 ?_
  clear hK K
  refine wpAnyH_done (by kernel_rfl) ?_ _
  have DF := hS4.1
  clear hS4 f0 f1 u0 u1
  obtain ⟨V0, hV⟩ : ∃ V, (w0_2.setCell ⟨w.heap.size + 1 + 1 + 1, 0, none⟩ (Value.float FloatKind.f64 p.x.lo)).setCell ⟨w.heap.size + 1 + 1 + 1, 1, none⟩ (Value.float FloatKind.f64 p.x.hi) = V := ⟨_, rfl⟩
  rw [hV] at DF ⊢
  have KF0 := Lib.hid (hV ▸ Blk.set_ (Blk.set_ KE0_2.out 0 _) 1 _ : Blk V0 (w.heap.size + 1 + 1 + 1) 26 #[Value.float FloatKind.f64 p.x.lo, Value.float FloatKind.f64 p.x.hi, Value.float FloatKind.f64 0, Value.float FloatKind.f64 0, Value.float FloatKind.f64 0, Value.float FloatKind.f64 0])
  have G0 := Lib.hid DF
  clear DF hV
  go_wp2_with fail
  rw [rounds_succ]
  go_wp2_with fail
  have KD1 := Lib.hid (show Blk (World.drew V0) (w.heap.size + 1 + 1 + 1) 26 #[Value.float FloatKind.f64 p.x.lo, Value.float FloatKind.f64 p.x.hi, Value.float FloatKind.f64 0, Value.float FloatKind.f64 0, Value.float FloatKind.f64 0, Value.float FloatKind.f64 0] from KF0.out)
  refine wp_region_held (S := (fun w' => Below (w.heap.size + 1 + 1 + 1) W w' ∧ w'.cell? ⟨w.heap.size, 0, none⟩ = some (Value.float FloatKind.f64 a.x.lo) ∧ w'.cell? ⟨w.heap.size, 1, none⟩ = some (Value.float FloatKind.f64 a.x.hi) ∧ w'.cell? ⟨w.heap.size, 2, none⟩ = some (Value.float FloatKind.f64 a.y.lo) ∧ w'.cell? ⟨w.heap.size, 3, none⟩ = some (Value.float FloatKind.f64 a.y.hi) ∧ w'.cell? ⟨w.heap.size, 4, none⟩ = some (Value.float FloatKind.f64 a.z.lo) ∧ w'.cell? ⟨w.heap.size, 5, none⟩ = some (Value.float FloatKind.f64 a.z.hi) ∧ w'.cell? ⟨w.heap.size + 1, 0, none⟩ = some (Value.float FloatKind.f64 b.x.lo) ∧ w'.cell? ⟨w.heap.size + 1, 1, none⟩ = some (Value.float FloatKind.f64 b.x.hi) ∧ w'.cell? ⟨w.heap.size + 1, 2, none⟩ = some (Value.float FloatKind.f64 b.y.lo) ∧ w'.cell? ⟨w.heap.size + 1, 3, none⟩ = some (Value.float FloatKind.f64 b.y.hi) ∧ w'.cell? ⟨w.heap.size + 1, 4, none⟩ = some (Value.float FloatKind.f64 b.z.lo) ∧ w'.cell? ⟨w.heap.size + 1, 5, none⟩ = some (Value.float FloatKind.f64 b.z.hi))) (by kernel_rfl) ?_
  (try change wpAnyH _ _ _ _ _ _ _ (World.drew _))
  have hS0 := HO.out _ (Below.drew G0.out)
  refine wpAnyH_takeN (i := 0) (v := ?v6_0x1) (l' := bm 18 1) (a' := ?a6_0x1) rfl (by kernel_rfl) (by kernel_rfl) (by kernel_rfl) (fun _ _ _ h => h) (Or.inl ⟨by kernel_rfl, ?h6_0x1⟩) (by kernel_rfl) ?p6_0x1 hS0 ?r6_0x1
  case h6_0x1 => (intro w hS; go_simp; try with_reducible rfl)
  case p6_0x1 => (go_simp; try with_reducible rfl)
  refine wpAnyH_takeN (i := 1) (v := ?v6_1x1) (l' := bm 18 3) (a' := ?a6_1x1) rfl (by kernel_rfl) (by kernel_rfl) (by kernel_rfl) (fun _ _ _ h => h) (Or.inl ⟨by kernel_rfl, ?h6_1x1⟩) (by kernel_rfl) ?p6_1x1 hS0 ?r6_1x1
  case h6_1x1 => (intro w hS; go_simp; try with_reducible rfl)
  case p6_1x1 => (go_simp; try with_reducible rfl)
  refine wpAnyH_takeN (i := 2) (v := ?v6_2x1) (l' := bm 18 7) (a' := ?a6_2x1) rfl (by kernel_rfl) (by kernel_rfl) (by kernel_rfl) (fun _ _ _ h => h) (Or.inl ⟨by kernel_rfl, ?h6_2x1⟩) (by kernel_rfl) ?p6_2x1 hS0 ?r6_2x1
  case h6_2x1 => (intro w hS; go_simp; try with_reducible rfl)
  case p6_2x1 => (go_simp; try with_reducible rfl)
  refine wpAnyH_takeN (i := 3) (v := ?v6_3x1) (l' := bm 18 15) (a' := ?a6_3x1) rfl (by kernel_rfl) (by kernel_rfl) (by kernel_rfl) (fun _ _ _ h => h) (Or.inl ⟨by kernel_rfl, ?h6_3x1⟩) (by kernel_rfl) ?p6_3x1 hS0 ?r6_3x1
  case h6_3x1 => (intro w hS; go_simp; try with_reducible rfl)
  case p6_3x1 => (go_simp; try with_reducible rfl)
  refine wpAnyH_takeN (i := 4) (v := ?v6_4x1) (l' := bm 18 31) (a' := ?a6_4x1) rfl (by kernel_rfl) (by kernel_rfl) (by kernel_rfl) (fun _ _ _ h => h) (Or.inl ⟨by kernel_rfl, ?h6_4x1⟩) (by kernel_rfl) ?p6_4x1 hS0 ?r6_4x1
  case h6_4x1 => (intro w hS; go_simp; try with_reducible rfl)
  case p6_4x1 => (go_simp; try with_reducible rfl)
  refine wpAnyH_takeN (i := 5) (v := ?v6_5x1) (l' := bm 18 63) (a' := ?a6_5x1) rfl (by kernel_rfl) (by kernel_rfl) (by kernel_rfl) (fun _ _ _ h => h) (Or.inl ⟨by kernel_rfl, ?h6_5x1⟩) (by kernel_rfl) ?p6_5x1 hS0 ?r6_5x1
  case h6_5x1 => (intro w hS; go_simp; try with_reducible rfl)
  case p6_5x1 => (go_simp; try with_reducible rfl)
  refine wpAnyH_takeN (i := 6) (v := ?v6_6x1) (l' := bm 18 127) (a' := ?a6_6x1) rfl (by kernel_rfl) (by kernel_rfl) (by kernel_rfl) (fun _ _ _ h => h) (Or.inl ⟨by kernel_rfl, ?h6_6x1⟩) (by kernel_rfl) ?p6_6x1 hS0 ?r6_6x1
  case h6_6x1 => (intro w hS; go_simp; try with_reducible rfl)
  case p6_6x1 => (go_simp; try with_reducible rfl)
  refine wpAnyH_takeN (i := 8) (v := ?v6_8x1) (l' := bm 18 383) (a' := ?a6_8x1) rfl (by kernel_rfl) (by kernel_rfl) (by kernel_rfl) (fun _ _ _ h => h) (Or.inl ⟨by kernel_rfl, ?h6_8x1⟩) (by kernel_rfl) ?p6_8x1 hS0 ?r6_8x1
  case h6_8x1 => (intro w hS; go_simp; try with_reducible rfl)
  case p6_8x1 => (go_simp; try with_reducible rfl)
  refine wpAnyH_takeN (i := 9) (v := ?v6_9x1) (l' := bm 18 895) (a' := ?a6_9x1) rfl (by kernel_rfl) (by kernel_rfl) (by kernel_rfl) (fun _ _ _ h => h) (Or.inl ⟨by kernel_rfl, ?h6_9x1⟩) (by kernel_rfl) ?p6_9x1 hS0 ?r6_9x1
  case h6_9x1 => (intro w hS; go_simp; try with_reducible rfl)
  case p6_9x1 => (go_simp; try with_reducible rfl)
  refine wpAnyH_takeN (i := 10) (v := ?v6_10x1) (l' := bm 18 1919) (a' := ?a6_10x1) rfl (by kernel_rfl) (by kernel_rfl) (by kernel_rfl) (fun _ _ _ h => h) (Or.inl ⟨by kernel_rfl, ?h6_10x1⟩) (by kernel_rfl) ?p6_10x1 hS0 ?r6_10x1
  case h6_10x1 => (intro w hS; go_simp; try with_reducible rfl)
  case p6_10x1 => (go_simp; try with_reducible rfl)
  refine wpAnyH_takeN (i := 11) (v := ?v6_11x1) (l' := bm 18 3967) (a' := ?a6_11x1) rfl (by kernel_rfl) (by kernel_rfl) (by kernel_rfl) (fun _ _ _ h => h) (Or.inl ⟨by kernel_rfl, ?h6_11x1⟩) (by kernel_rfl) ?p6_11x1 hS0 ?r6_11x1
  case h6_11x1 => (intro w hS; go_simp; try with_reducible rfl)
  case p6_11x1 => (go_simp; try with_reducible rfl)
  refine wpAnyH_takeN (i := 12) (v := ?v6_12x1) (l' := bm 18 8063) (a' := ?a6_12x1) rfl (by kernel_rfl) (by kernel_rfl) (by kernel_rfl) (fun _ _ _ h => h) (Or.inl ⟨by kernel_rfl, ?h6_12x1⟩) (by kernel_rfl) ?p6_12x1 hS0 ?r6_12x1
  case h6_12x1 => (intro w hS; go_simp; try with_reducible rfl)
  case p6_12x1 => (go_simp; try with_reducible rfl)
  refine wpAnyH_takeN (i := 13) (v := ?v6_13x1) (l' := bm 18 16255) (a' := ?a6_13x1) rfl (by kernel_rfl) (by kernel_rfl) (by kernel_rfl) (fun _ _ _ h => h) (Or.inl ⟨by kernel_rfl, ?h6_13x1⟩) (by kernel_rfl) ?p6_13x1 hS0 ?r6_13x1
  case h6_13x1 => (intro w hS; go_simp; try with_reducible rfl)
  case p6_13x1 => (go_simp; try with_reducible rfl)
  refine wpAnyH_oneN (i := 7) (l' := bm 18 16383) rfl (by kernel_rfl) (by kernel_rfl) (by kernel_rfl) (fun K hK => ?_)
  have hP := hS0.1
  go_simp
  go_at_call 78
  refine (C10.out _).mono ?_
  rintro r w1_0 ⟨rfl, hb⟩
  dsimp only
  have E1_0 := Lib.hid (below_at hP hBW hb)
  have KE1_0 := Lib.hid (Blk.below KD1.out hb (Blk.lt KD1.out))
  clear hb
  have hS1 := HO.out _ (E1_0.out)
  clear hP hS0
  refine hK _ _ hS1 ?_
  clear hK K
  refine wpAnyH_oneN (i := 14) (l' := bm 18 32767) rfl (by kernel_rfl) (by kernel_rfl) (by kernel_rfl) (fun K hK => ?_)
  have hP := hS1.1
  go_simp
  go_at_call 78
  refine (C11.out _).mono ?_
  rintro r w1_1 ⟨rfl, hb⟩
  dsimp only
  have E1_1 := Lib.hid (below_at hP hBW hb)
  have KE1_1 := Lib.hid (Blk.below KE1_0.out hb (Blk.lt KE1_0.out))
  clear hb
  have hS2 := HO.out _ (E1_1.out)
  clear hP hS1
  refine hK _ _ hS2 ?_
  clear hK K
  refine wpAnyH_oneN (i := 15) (l' := bm 18 65535) rfl (by kernel_rfl) (by kernel_rfl) (by kernel_rfl) (fun K hK => ?_)
  have hP := hS2.1
  go_simp
  go_at_call 77
  refine (C12.out _).mono ?_
  rintro r w1_2 ⟨rfl, hb⟩
  dsimp only
  have E1_2 := Lib.hid (below_at hP hBW hb)
  have KE1_2 := Lib.hid (Blk.below KE1_1.out hb (Blk.lt KE1_1.out))
  clear hb
  have f0 := KE1_2.out.cell 2
  have f1 := KE1_2.out.cell 3
  have u0 := KE1_2.out.unfrozen 2
  have u1 := KE1_2.out.unfrozen 3
  have hS3 := HO.out _ (E1_2.out)
  clear hP hS2
  refine hK _ _ hS3 ?_
  clear hK K
  refine wpAnyH_takeN (i := 16) (v := ?v6_16x1) (l' := bm 18 131071) (a' := ?a6_16x1) rfl (by kernel_rfl) (by kernel_rfl) (by kernel_rfl) (fun _ _ _ h => h) (Or.inl ⟨by kernel_rfl, ?h6_16x1⟩) (by kernel_rfl) ?p6_16x1 hS3 ?r6_16x1
  case h6_16x1 => (intro w hS; go_simp; try with_reducible rfl)
  case p6_16x1 => (go_simp; try with_reducible rfl)
  refine wpAnyH_oneN (i := 17) (l' := bm 18 262143) rfl (by kernel_rfl) (by kernel_rfl) (by kernel_rfl) (fun K hK => ?_)
  have hP := hS3.1
  go_simp
  have hS4 := HO.out _ ((Below.setCell (Below.setCell hP (p := ⟨w.heap.size + 1 + 1 + 1, 2, none⟩) (Nat.le_refl _) (Value.float FloatKind.f64 p.y.lo)) (p := ⟨w.heap.size + 1 + 1 + 1, 3, none⟩) (Nat.le_refl _) (Value.float FloatKind.f64 p.y.hi)))
  clear hP hS3
  refine hK _ _ hS4 ?_
  clear hK K
  refine wpAnyH_done (by kernel_rfl) ?_ _
  have DF := hS4.1
  clear hS4 f0 f1 u0 u1
  obtain ⟨V1, hV⟩ : ∃ V, (w1_2.setCell ⟨w.heap.size + 1 + 1 + 1, 2, none⟩ (Value.float FloatKind.f64 p.y.lo)).setCell ⟨w.heap.size + 1 + 1 + 1, 3, none⟩ (Value.float FloatKind.f64 p.y.hi) = V := ⟨_, rfl⟩
  rw [hV] at DF ⊢
  have KF1 := Lib.hid (hV ▸ Blk.set_ (Blk.set_ KE1_2.out 2 _) 3 _ : Blk V1 (w.heap.size + 1 + 1 + 1) 26 #[Value.float FloatKind.f64 p.x.lo, Value.float FloatKind.f64 p.x.hi, Value.float FloatKind.f64 p.y.lo, Value.float FloatKind.f64 p.y.hi, Value.float FloatKind.f64 0, Value.float FloatKind.f64 0])
  have G1 := Lib.hid DF
  clear DF hV
  go_wp2_with fail
  rw [rounds_succ]
  go_wp2_with fail
  have KD2 := Lib.hid (show Blk (World.drew V1) (w.heap.size + 1 + 1 + 1) 26 #[Value.float FloatKind.f64 p.x.lo, Value.float FloatKind.f64 p.x.hi, Value.float FloatKind.f64 p.y.lo, Value.float FloatKind.f64 p.y.hi, Value.float FloatKind.f64 0, Value.float FloatKind.f64 0] from KF1.out)
  refine wp_region_held (S := (fun w' => Below (w.heap.size + 1 + 1 + 1) W w' ∧ w'.cell? ⟨w.heap.size, 0, none⟩ = some (Value.float FloatKind.f64 a.x.lo) ∧ w'.cell? ⟨w.heap.size, 1, none⟩ = some (Value.float FloatKind.f64 a.x.hi) ∧ w'.cell? ⟨w.heap.size, 2, none⟩ = some (Value.float FloatKind.f64 a.y.lo) ∧ w'.cell? ⟨w.heap.size, 3, none⟩ = some (Value.float FloatKind.f64 a.y.hi) ∧ w'.cell? ⟨w.heap.size, 4, none⟩ = some (Value.float FloatKind.f64 a.z.lo) ∧ w'.cell? ⟨w.heap.size, 5, none⟩ = some (Value.float FloatKind.f64 a.z.hi) ∧ w'.cell? ⟨w.heap.size + 1, 0, none⟩ = some (Value.float FloatKind.f64 b.x.lo) ∧ w'.cell? ⟨w.heap.size + 1, 1, none⟩ = some (Value.float FloatKind.f64 b.x.hi) ∧ w'.cell? ⟨w.heap.size + 1, 2, none⟩ = some (Value.float FloatKind.f64 b.y.lo) ∧ w'.cell? ⟨w.heap.size + 1, 3, none⟩ = some (Value.float FloatKind.f64 b.y.hi) ∧ w'.cell? ⟨w.heap.size + 1, 4, none⟩ = some (Value.float FloatKind.f64 b.z.lo) ∧ w'.cell? ⟨w.heap.size + 1, 5, none⟩ = some (Value.float FloatKind.f64 b.z.hi))) (by kernel_rfl) ?_
  (try change wpAnyH _ _ _ _ _ _ _ (World.drew _))
  have hS0 := HO.out _ (Below.drew G1.out)
  refine wpAnyH_takeN (i := 0) (v := ?v6_0x2) (l' := bm 18 1) (a' := ?a6_0x2) rfl (by kernel_rfl) (by kernel_rfl) (by kernel_rfl) (fun _ _ _ h => h) (Or.inl ⟨by kernel_rfl, ?h6_0x2⟩) (by kernel_rfl) ?p6_0x2 hS0 ?r6_0x2
  case h6_0x2 => (intro w hS; go_simp; try with_reducible rfl)
  case p6_0x2 => (go_simp; try with_reducible rfl)
  refine wpAnyH_takeN (i := 1) (v := ?v6_1x2) (l' := bm 18 3) (a' := ?a6_1x2) rfl (by kernel_rfl) (by kernel_rfl) (by kernel_rfl) (fun _ _ _ h => h) (Or.inl ⟨by kernel_rfl, ?h6_1x2⟩) (by kernel_rfl) ?p6_1x2 hS0 ?r6_1x2
  case h6_1x2 => (intro w hS; go_simp; try with_reducible rfl)
  case p6_1x2 => (go_simp; try with_reducible rfl)
  refine wpAnyH_takeN (i := 2) (v := ?v6_2x2) (l' := bm 18 7) (a' := ?a6_2x2) rfl (by kernel_rfl) (by kernel_rfl) (by kernel_rfl) (fun _ _ _ h => h) (Or.inl ⟨by kernel_rfl, ?h6_2x2⟩) (by kernel_rfl) ?p6_2x2 hS0 ?r6_2x2
  case h6_2x2 => (intro w hS; go_simp; try with_reducible rfl)
  case p6_2x2 => (go_simp; try with_reducible rfl)
  refine wpAnyH_takeN (i := 3) (v := ?v6_3x2) (l' := bm 18 15) (a' := ?a6_3x2) rfl (by kernel_rfl) (by kernel_rfl) (by kernel_rfl) (fun _ _ _ h => h) (Or.inl ⟨by kernel_rfl, ?h6_3x2⟩) (by kernel_rfl) ?p6_3x2 hS0 ?r6_3x2
  case h6_3x2 => (intro w hS; go_simp; try with_reducible rfl)
  case p6_3x2 => (go_simp; try with_reducible rfl)
  refine wpAnyH_takeN (i := 4) (v := ?v6_4x2) (l' := bm 18 31) (a' := ?a6_4x2) rfl (by kernel_rfl) (by kernel_rfl) (by kernel_rfl) (fun _ _ _ h => h) (Or.inl ⟨by kernel_rfl, ?h6_4x2⟩) (by kernel_rfl) ?p6_4x2 hS0 ?r6_4x2
  case h6_4x2 => (intro w hS; go_simp; try with_reducible rfl)
  case p6_4x2 => (go_simp; try with_reducible rfl)
  refine wpAnyH_takeN (i := 5) (v := ?v6_5x2) (l' := bm 18 63) (a' := ?a6_5x2) rfl (by kernel_rfl) (by kernel_rfl) (by kernel_rfl) (fun _ _ _ h => h) (Or.inl ⟨by kernel_rfl, ?h6_5x2⟩) (by kernel_rfl) ?p6_5x2 hS0 ?r6_5x2
  case h6_5x2 => (intro w hS; go_simp; try with_reducible rfl)
  case p6_5x2 => (go_simp; try with_reducible rfl)
  refine wpAnyH_takeN (i := 6) (v := ?v6_6x2) (l' := bm 18 127) (a' := ?a6_6x2) rfl (by kernel_rfl) (by kernel_rfl) (by kernel_rfl) (fun _ _ _ h => h) (Or.inl ⟨by kernel_rfl, ?h6_6x2⟩) (by kernel_rfl) ?p6_6x2 hS0 ?r6_6x2
  case h6_6x2 => (intro w hS; go_simp; try with_reducible rfl)
  case p6_6x2 => (go_simp; try with_reducible rfl)
  refine wpAnyH_takeN (i := 8) (v := ?v6_8x2) (l' := bm 18 383) (a' := ?a6_8x2) rfl (by kernel_rfl) (by kernel_rfl) (by kernel_rfl) (fun _ _ _ h => h) (Or.inl ⟨by kernel_rfl, ?h6_8x2⟩) (by kernel_rfl) ?p6_8x2 hS0 ?r6_8x2
  case h6_8x2 => (intro w hS; go_simp; try with_reducible rfl)
  case p6_8x2 => (go_simp; try with_reducible rfl)
  refine wpAnyH_takeN (i := 9) (v := ?v6_9x2) (l' := bm 18 895) (a' := ?a6_9x2) rfl (by kernel_rfl) (by kernel_rfl) (by kernel_rfl) (fun _ _ _ h => h) (Or.inl ⟨by kernel_rfl, ?h6_9x2⟩) (by kernel_rfl) ?p6_9x2 hS0 ?r6_9x2
  case h6_9x2 => (intro w hS; go_simp; try with_reducible rfl)
  case p6_9x2 => (go_simp; try with_reducible rfl)
  refine wpAnyH_takeN (i := 10) (v := ?v6_10x2) (l' := bm 18 1919) (a' := ?a6_10x2) rfl (by kernel_rfl) (by kernel_rfl) (by kernel_rfl) (fun _ _ _ h => h) (Or.inl ⟨by kernel_rfl, ?h6_10x2⟩) (by kernel_rfl) ?p6_10x2 hS0 ?r6_10x2
  case h6_10x2 => (intro w hS; go_simp; try with_reducible rfl)
  case p6_10x2 => (go_simp; try with_reducible rfl)
  refine wpAnyH_takeN (i := 11) (v := ?v6_11x2) (l' := bm 18 3967) (a' := ?a6_11x2) rfl (by kernel_rfl) (by kernel_rfl) (by kernel_rfl) (fun _ _ _ h => h) (Or.inl ⟨by kernel_rfl, ?h6_11x2⟩) (by kernel_rfl) ?p6_11x2 hS0 ?r6_11x2
  case h6_11x2 => (intro w hS; go_simp; try with_reducible rfl)
  case p6_11x2 => (go_simp; try with_reducible rfl)
  refine wpAnyH_takeN (i := 12) (v := ?v6_12x2) (l' := bm 18 8063) (a' := ?a6_12x2) rfl (by kernel_rfl) (by kernel_rfl) (by kernel_rfl) (fun _ _ _ h => h) (Or.inl ⟨by kernel_rfl, ?h6_12x2⟩) (by kernel_rfl) ?p6_12x2 hS0 ?r6_12x2
  case h6_12x2 => (intro w hS; go_simp; try with_reducible rfl)
  case p6_12x2 => (go_simp; try with_reducible rfl)
  refine wpAnyH_takeN (i := 13) (v := ?v6_13x2) (l' := bm 18 16255) (a' := ?a6_13x2) rfl (by kernel_rfl) (by kernel_rfl) (by kernel_rfl) (fun _ _ _ h => h) (Or.inl ⟨by kernel_rfl, ?h6_13x2⟩) (by kernel_rfl) ?p6_13x2 hS0 ?r6_13x2
  case h6_13x2 => (intro w hS; go_simp; try with_reducible rfl)
  case p6_13x2 => (go_simp; try with_reducible rfl)
  refine wpAnyH_oneN (i := 7) (l' := bm 18 16383) rfl (by kernel_rfl) (by kernel_rfl) (by kernel_rfl) (fun K hK => ?_)
  have hP := hS0.1
  go_simp
  go_at_call 78
  refine (C20.out _).mono ?_
  rintro r w2_0 ⟨rfl, hb⟩
  dsimp only
  have E2_0 := Lib.hid (below_at hP hBW hb)
  have KE2_0 := Lib.hid (Blk.below KD2.out hb (Blk.lt KD2.out))
  clear hb
  have hS1 := HO.out _ (E2_0.out)
  clear hP hS0
  refine hK _ _ hS1 ?_
  clear hK K
  refine wpAnyH_oneN (i := 14) (l' := bm 18 32767) rfl (by kernel_rfl) (by kernel_rfl) (by kernel_rfl) (fun K hK => ?_)
  have hP := hS1.1
  go_simp
  go_at_call 78
  refine (C21.out _).mono ?_
  rintro r w2_1 ⟨rfl, hb⟩
  dsimp only
  have E2_1 := Lib.hid (below_at hP hBW hb)
  have KE2_1 := Lib.hid (Blk.below KE2_0.out hb (Blk.lt KE2_0.out))
  clear hb
  have hS2 := HO.out _ (E2_1.out)
  clear hP hS1
  refine hK _ _ hS2 ?_
  clear hK K
  refine wpAnyH_oneN (i := 15) (l' := bm 18 65535) rfl (by kernel_rfl) (by kernel_rfl) (by kernel_rfl) (fun K hK => ?_)
  have hP := hS2.1
  go_simp
  go_at_call 77
  refine (C22.out _).mono ?_
  rintro r w2_2 ⟨rfl, hb⟩
  dsimp only
  have E2_2 := Lib.hid (below_at hP hBW hb)
  have KE2_2 := Lib.hid (Blk.below KE2_1.out hb (Blk.lt KE2_1.out))
  clear hb
  have f0 := KE2_2.out.cell 4
  have f1 := KE2_2.out.cell 5
  have u0 := KE2_2.out.unfrozen 4
  have u1 := KE2_2.out.unfrozen 5
  have hS3 := HO.out _ (E2_2.out)
  clear hP hS2
  refine hK _ _ hS3 ?_
  clear hK K
  refine wpAnyH_takeN (i := 16) (v := ?v6_16x2) (l' := bm 18 131071) (a' := ?a6_16x2) rfl (by kernel_rfl) (by kernel_rfl) (by kernel_rfl) (fun _ _ _ h => h) (Or.inl ⟨by kernel_rfl, ?h6_16x2⟩) (by kernel_rfl) ?p6_16x2 hS3 ?r6_16x2
  case h6_16x2 => (intro w hS; go_simp; try with_reducible rfl)
  case p6_16x2 => (go_simp; try with_reducible rfl)
  refine wpAnyH_oneN (i := 17) (l' := bm 18 262143) rfl (by kernel_rfl) (by kernel_rfl) (by kernel_rfl) (fun K hK => ?_)
  have hP := hS3.1
  go_simp
  have hS4 := HO.out _ ((Below.setCell (Below.setCell hP (p := ⟨w.heap.size + 1 + 1 + 1, 4, none⟩) (Nat.le_refl _) (Value.float FloatKind.f64 p.z.lo)) (p := ⟨w.heap.size + 1 + 1 + 1, 5, none⟩) (Nat.le_refl _) (Value.float FloatKind.f64 p.z.hi)))
  clear hP hS3
  refine hK _ _ hS4 ?_
  clear hK K
  refine wpAnyH_done (by kernel_rfl) ?_ _
  have DF := hS4.1
  clear hS4 f0 f1 u0 u1
  obtain ⟨V2, hV⟩ : ∃ V, (w2_2.setCell ⟨w.heap.size + 1 + 1 + 1, 4, none⟩ (Value.float FloatKind.f64 p.z.lo)).setCell ⟨w.heap.size + 1 + 1 + 1, 5, none⟩ (Value.float FloatKind.f64 p.z.hi) = V := ⟨_, rfl⟩
  rw [hV] at DF ⊢
  have KF2 := Lib.hid (hV ▸ Blk.set_ (Blk.set_ KE2_2.out 4 _) 5 _ : Blk V2 (w.heap.size + 1 + 1 + 1) 26 #[Value.float FloatKind.f64 p.x.lo, Value.float FloatKind.f64 p.x.hi, Value.float FloatKind.f64 p.y.lo, Value.float FloatKind.f64 p.y.hi, Value.float FloatKind.f64 p.z.lo, Value.float FloatKind.f64 p.z.hi])
  have G2 := Lib.hid DF
  clear DF hV
  go_wp2_with fail
  rw [rounds_succ]
  have KR := Lib.hid (Blk.below K2.out G2.out (by omega))
  have f0 := KF2.out.cell 0
  have g0 := KR.out.cell 0
  have u0 := KR.out.unfrozen 0
  have f1 := KF2.out.cell 1
  have g1 := KR.out.cell 1
  have u1 := KR.out.unfrozen 1
  have f2 := KF2.out.cell 2
  have g2 := KR.out.cell 2
  have u2 := KR.out.unfrozen 2
  have f3 := KF2.out.cell 3
  have g3 := KR.out.cell 3
  have u3 := KR.out.unfrozen 3
  have f4 := KF2.out.cell 4
  have g4 := KR.out.cell 4
  have u4 := KR.out.unfrozen 4
  have f5 := KF2.out.cell 5
  have g5 := KR.out.cell 5
  have u5 := KR.out.unfrozen 5
  go_wp2_with fail
  (try simp only [Exit.inBlock, Exit.then])
  exact bodyPost_ret (resV rfl _ _ (w.heap.size + 1 + 1) (Value.float FloatKind.f64 p.x.lo) (Value.float FloatKind.f64 p.x.hi) (Value.float FloatKind.f64 p.y.lo) (Value.float FloatKind.f64 p.y.hi) (Value.float FloatKind.f64 p.z.lo) (Value.float FloatKind.f64 p.z.hi) rfl (Blk.set_ (Blk.set_ (Blk.set_ (Blk.set_ (Blk.set_ (Blk.set_ (KR.out) 0 _) 1 _) 2 _) 3 _) 4 _) 5 _)) rfl ⟨rfl, (Below.setCell (Below.setCell (Below.setCell (Below.setCell (Below.setCell (Below.setCell ((HB.out).trans ((G2.out).mono (by omega))) (p := ⟨w.heap.size + 1 + 1, 0, none⟩) (by show w.heap.size ≤ w.heap.size + 1 + 1; omega) _) (p := ⟨w.heap.size + 1 + 1, 1, none⟩) (by show w.heap.size ≤ w.heap.size + 1 + 1; omega) _) (p := ⟨w.heap.size + 1 + 1, 2, none⟩) (by show w.heap.size ≤ w.heap.size + 1 + 1; omega) _) (p := ⟨w.heap.size + 1 + 1, 3, none⟩) (by show w.heap.size ≤ w.heap.size + 1 + 1; omega) _) (p := ⟨w.heap.size + 1 + 1, 4, none⟩) (by show w.heap.size ≤ w.heap.size + 1 + 1; omega) _) (p := ⟨w.heap.size + 1 + 1, 5, none⟩) (by show w.heap.size ≤ w.heap.size + 1 + 1; omega) _)⟩
set_option maxRecDepth 100000 in
set_option maxHeartbeats 4000000 in
theorem scaleV_any (a : V3) (s : Sp) (w : World) : Calls Try.prog 45 #[vval a, .agg #[Value.float FloatKind.f64 s.lo, Value.float FloatKind.f64 s.hi]] w fun r w' => r = .returned (vval (vMul a ⟨s, s, s⟩)) ∧ Below w.heap.size w w' := by
  have C0 := Lib.hid (fun w => vMul_any a ⟨s, s, s⟩ w)
  generalize vMul a ⟨s, s, s⟩ = p at *
  go_enter Try.func45, Try.ntmps45
  go_wp2_with fail
  obtain ⟨W, hW, K0, K1, K2, hB, hz⟩ := box3 w 26 24 26 #[Value.float FloatKind.f64 a.x.lo, Value.float FloatKind.f64 a.x.hi, Value.float FloatKind.f64 a.y.lo, Value.float FloatKind.f64 a.y.hi, Value.float FloatKind.f64 a.z.lo, Value.float FloatKind.f64 a.z.hi] #[Value.float FloatKind.f64 s.lo, Value.float FloatKind.f64 s.hi] #[Value.float FloatKind.f64 0, Value.float FloatKind.f64 0, Value.float FloatKind.f64 0, Value.float FloatKind.f64 0, Value.float FloatKind.f64 0, Value.float FloatKind.f64 0]
  rw [← hW]
  have K0 := Lib.hid K0
  have K1 := Lib.hid K1
  have K2 := Lib.hid K2
  have HB := Lib.hid hB
  clear hW hB hz
  have HO := Lib.hid (show ∀ w', Hd W (w.heap.size + 1 + 1) 26 6 w' → (Hd W (w.heap.size + 1 + 1) 26 6 w' ∧ w'.cell? ⟨w.heap.size, 0, none⟩ = some (Value.float FloatKind.f64 a.x.lo) ∧ w'.cell? ⟨w.heap.size, 1, none⟩ = some (Value.float FloatKind.f64 a.x.hi) ∧ w'.cell? ⟨w.heap.size, 2, none⟩ = some (Value.float FloatKind.f64 a.y.lo) ∧ w'.cell? ⟨w.heap.size, 3, none⟩ = some (Value.float FloatKind.f64 a.y.hi) ∧ w'.cell? ⟨w.heap.size, 4, none⟩ = some (Value.float FloatKind.f64 a.z.lo) ∧ w'.cell? ⟨w.heap.size, 5, none⟩ = some (Value.float FloatKind.f64 a.z.hi) ∧ w'.cell? ⟨w.heap.size + 1, 0, none⟩ = some (Value.float FloatKind.f64 s.lo) ∧ w'.cell? ⟨w.heap.size + 1, 1, none⟩ = some (Value.float FloatKind.f64 s.hi) ∧ w'.cell? ⟨w.heap.size + 1 + 1, 0, none⟩ = some (cellAt w' ⟨w.heap.size + 1 + 1, 0, none⟩) ∧ w'.frozen? ⟨w.heap.size + 1 + 1, 0, none⟩ = false ∧ w'.cell? ⟨w.heap.size + 1 + 1, 1, none⟩ = some (cellAt w' ⟨w.heap.size + 1 + 1, 1, none⟩) ∧ w'.frozen? ⟨w.heap.size + 1 + 1, 1, none⟩ = false ∧ w'.cell? ⟨w.heap.size + 1 + 1, 2, none⟩ = some (cellAt w' ⟨w.heap.size + 1 + 1, 2, none⟩) ∧ w'.frozen? ⟨w.heap.size + 1 + 1, 2, none⟩ = false ∧ w'.cell? ⟨w.heap.size + 1 + 1, 3, none⟩ = some (cellAt w' ⟨w.heap.size + 1 + 1, 3, none⟩) ∧ w'.frozen? ⟨w.heap.size + 1 + 1, 3, none⟩ = false ∧ w'.cell? ⟨w.heap.size + 1 + 1, 4, none⟩ = some (cellAt w' ⟨w.heap.size + 1 + 1, 4, none⟩) ∧ w'.frozen? ⟨w.heap.size + 1 + 1, 4, none⟩ = false ∧ w'.cell? ⟨w.heap.size + 1 + 1, 5, none⟩ = some (cellAt w' ⟨w.heap.size + 1 + 1, 5, none⟩) ∧ w'.frozen? ⟨w.heap.size + 1 + 1, 5, none⟩ = false) from fun w' h => ⟨h, (h.blk K0.out (by omega)).cell 0, (h.blk K0.out (by omega)).cell 1, (h.blk K0.out (by omega)).cell 2, (h.blk K0.out (by omega)).cell 3, (h.blk K0.out (by omega)).cell 4, (h.blk K0.out (by omega)).cell 5, (h.blk K1.out (by omega)).cell 0, (h.blk K1.out (by omega)).cell 1, (h.at_ 0 (by decide)).1, (h.at_ 0 (by decide)).2, (h.at_ 1 (by decide)).1, (h.at_ 1 (by decide)).2, (h.at_ 2 (by decide)).1, (h.at_ 2 (by decide)).2, (h.at_ 3 (by decide)).1, (h.at_ 3 (by decide)).2, (h.at_ 4 (by decide)).1, (h.at_ 4 (by decide)).2, (h.at_ 5 (by decide)).1, (h.at_ 5 (by decide)).2⟩)
  have D0 := Lib.hid (show Hd W (w.heap.size + 1 + 1) 26 6 W from Hd.start K2.out)
  refine (C0.out _).mono ?_
  rintro r w1 ⟨rfl, hb⟩
  have D1 := Lib.hid (Hd.call D0.out hb)
  clear hb
  obtain ⟨-, q0, q1, q2, q3, q4, q5, q6, q7, q8, q9, q10, q11, q12, q13, q14, q15, q16, q17, q18, q19⟩ := HO.out _ D1.out
  have z1 := Hd.lt D1.out
  go_wp2_with fail
  (try simp only [Exit.inBlock, Exit.then])
  have hF := (Hd.set (Hd.set (Hd.set (Hd.set (Hd.set (Hd.set D1.out 0 (Value.float FloatKind.f64 p.x.lo)) 1 (Value.float FloatKind.f64 p.x.hi)) 2 (Value.float FloatKind.f64 p.y.lo)) 3 (Value.float FloatKind.f64 p.y.hi)) 4 (Value.float FloatKind.f64 p.z.lo)) 5 (Value.float FloatKind.f64 p.z.hi))
  exact bodyPost_ret (resV rfl _ _ (w.heap.size + 1 + 1) (Value.float FloatKind.f64 p.x.lo) (Value.float FloatKind.f64 p.x.hi) (Value.float FloatKind.f64 p.y.lo) (Value.float FloatKind.f64 p.y.hi) (Value.float FloatKind.f64 p.z.lo) (Value.float FloatKind.f64 p.z.hi) rfl (Hd.wrote6 hF)) rfl ⟨rfl, Hd.below hF HB.out (by omega)⟩
set_option maxRecDepth 100000 in
set_option maxHeartbeats 4000000 in
theorem rall3_any (s : Sp) (w : World) : Calls Try.prog 88 #[.agg #[Value.float FloatKind.f64 s.lo, Value.float FloatKind.f64 s.hi]] w fun r w' => r = .returned (vval ⟨s, s, s⟩) ∧ Below w.heap.size w w' := by
  go_enter Try.func88, Try.ntmps88
  go_wp2_with fail
  exact bodyPost_ret (resV rfl _ _ (w.heap.size + 1) _ _ _ _ _ _ rfl (Blk.new_at _ _ _ (by simp))) rfl ⟨rfl, ((Below.refl _ w).alloc (Nat.le_refl _) _).alloc (by simp) _⟩
set_option maxRecDepth 100000 in
set_option maxHeartbeats 4000000 in
theorem rdotV_any (a : V3) (b : V3) (w : World) : Calls Try.prog 49 #[vval a, vval b] w fun r w' => r = .returned (.agg #[Value.float FloatKind.f64 (vDot a b).lo, Value.float FloatKind.f64 (vDot a b).hi]) ∧ Below w.heap.size w w' := by
  have C0 := Lib.hid (fun w => rmulV_any a b w)
  have C1 := Lib.hid (fun w => rsumV_any (vMul a b) w)
  unfold vDot
  generalize vSum (vMul a b) = q at *
  go_enter Try.func49, Try.ntmps49
  go_wp2_with fail
  obtain ⟨W, hW, K0, K1, K2, hB, hz⟩ := box3 w 26 26 24 #[Value.float FloatKind.f64 a.x.lo, Value.float FloatKind.f64 a.x.hi, Value.float FloatKind.f64 a.y.lo, Value.float FloatKind.f64 a.y.hi, Value.float FloatKind.f64 a.z.lo, Value.float FloatKind.f64 a.z.hi] #[Value.float FloatKind.f64 b.x.lo, Value.float FloatKind.f64 b.x.hi, Value.float FloatKind.f64 b.y.lo, Value.float FloatKind.f64 b.y.hi, Value.float FloatKind.f64 b.z.lo, Value.float FloatKind.f64 b.z.hi] #[Value.float FloatKind.f64 0, Value.float FloatKind.f64 0]
  rw [← hW]
  have K0 := Lib.hid K0
  have K1 := Lib.hid K1
  have K2 := Lib.hid K2
  have HB := Lib.hid hB
  clear hW hB hz
  have HO := Lib.hid (show ∀ w', Hd W (w.heap.size + 1 + 1) 24 2 w' → (Hd W (w.heap.size + 1 + 1) 24 2 w' ∧ w'.cell? ⟨w.heap.size, 0, none⟩ = some (Value.float FloatKind.f64 a.x.lo) ∧ w'.cell? ⟨w.heap.size, 1, none⟩ = some (Value.float FloatKind.f64 a.x.hi) ∧ w'.cell? ⟨w.heap.size, 2, none⟩ = some (Value.float FloatKind.f64 a.y.lo) ∧ w'.cell? ⟨w.heap.size, 3, none⟩ = some (Value.float FloatKind.f64 a.y.hi) ∧ w'.cell? ⟨w.heap.size, 4, none⟩ = some (Value.float FloatKind.f64 a.z.lo) ∧ w'.cell? ⟨w.heap.size, 5, none⟩ = some (Value.float FloatKind.f64 a.z.hi) ∧ w'.cell? ⟨w.heap.size + 1, 0, none⟩ = some (Value.float FloatKind.f64 b.x.lo) ∧ w'.cell? ⟨w.heap.size + 1, 1, none⟩ = some (Value.float FloatKind.f64 b.x.hi) ∧ w'.cell? ⟨w.heap.size + 1, 2, none⟩ = some (Value.float FloatKind.f64 b.y.lo) ∧ w'.cell? ⟨w.heap.size + 1, 3, none⟩ = some (Value.float FloatKind.f64 b.y.hi) ∧ w'.cell? ⟨w.heap.size + 1, 4, none⟩ = some (Value.float FloatKind.f64 b.z.lo) ∧ w'.cell? ⟨w.heap.size + 1, 5, none⟩ = some (Value.float FloatKind.f64 b.z.hi) ∧ w'.cell? ⟨w.heap.size + 1 + 1, 0, none⟩ = some (cellAt w' ⟨w.heap.size + 1 + 1, 0, none⟩) ∧ w'.frozen? ⟨w.heap.size + 1 + 1, 0, none⟩ = false ∧ w'.cell? ⟨w.heap.size + 1 + 1, 1, none⟩ = some (cellAt w' ⟨w.heap.size + 1 + 1, 1, none⟩) ∧ w'.frozen? ⟨w.heap.size + 1 + 1, 1, none⟩ = false) from fun w' h => ⟨h, (h.blk K0.out (by omega)).cell 0, (h.blk K0.out (by omega)).cell 1, (h.blk K0.out (by omega)).cell 2, (h.blk K0.out (by omega)).cell 3, (h.blk K0.out (by omega)).cell 4, (h.blk K0.out (by omega)).cell 5, (h.blk K1.out (by omega)).cell 0, (h.blk K1.out (by omega)).cell 1, (h.blk K1.out (by omega)).cell 2, (h.blk K1.out (by omega)).cell 3, (h.blk K1.out (by omega)).cell 4, (h.blk K1.out (by omega)).cell 5, (h.at_ 0 (by decide)).1, (h.at_ 0 (by decide)).2, (h.at_ 1 (by decide)).1, (h.at_ 1 (by decide)).2⟩)
  have D0 := Lib.hid (show Hd W (w.heap.size + 1 + 1) 24 2 W from Hd.start K2.out)
  refine (C0.out _).mono ?_
  rintro r w1 ⟨rfl, hb⟩
  have D1 := Lib.hid (Hd.call D0.out hb)
  clear hb
  obtain ⟨-, q0, q1, q2, q3, q4, q5, q6, q7, q8, q9, q10, q11, q12, q13, q14, q15⟩ := HO.out _ D1.out
  have z1 := Hd.lt D1.out
  go_wp2_with fail
  refine (C1.out _).mono ?_
  rintro r w2 ⟨rfl, hb⟩
  have D2 := Lib.hid (Hd.call D1.out hb)
  clear hb
  clear q0 q1 q2 q3 q4 q5 q6 q7 q8 q9 q10 q11 q12 q13 q14 q15
  obtain ⟨-, q0, q1, q2, q3, q4, q5, q6, q7, q8, q9, q10, q11, q12, q13, q14, q15⟩ := HO.out _ D2.out
  have z2 := Hd.lt D2.out
  go_wp2_with fail
  (try simp only [Exit.inBlock, Exit.then])
  have hF := (Hd.set (Hd.set D2.out 0 (Value.float FloatKind.f64 q.lo)) 1 (Value.float FloatKind.f64 q.hi))
  exact bodyPost_ret (resS rfl _ _ (w.heap.size + 1 + 1) (Value.float FloatKind.f64 q.lo) (Value.float FloatKind.f64 q.hi) rfl (Hd.wrote2 hF)) rfl ⟨rfl, Hd.below hF HB.out (by omega)⟩
end Go.Proofs.Ytdgaaceebghcpaa
