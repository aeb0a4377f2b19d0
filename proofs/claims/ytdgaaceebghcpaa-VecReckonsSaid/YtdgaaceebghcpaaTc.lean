/- Vectors of spans: the inner product. -/
import Derived.Test.YtdgaaceebghcpaaTb
set_option linter.unusedVariables false
set_option linter.unusedSimpArgs false
namespace Go.Proofs.Ytdgaaceebghcpaa
open Go.RowKit

/-- All blocks that stood in V stand, but perhaps block g. -/
structure But (V : World) (g : Nat) (w' : World) : Prop where
  gr : V.grownBy w' (some g)
theorem But.refl (V : World) (g : Nat) : But V g V := ⟨⟨rfl, rfl, rfl, Nat.le_refl _, fun _ _ _ => rfl⟩⟩
theorem But.drew {V w1 : World} {g : Nat} (h : But V g w1) : But V g w1.drew := ⟨⟨h.gr.os, h.gr.tape, h.gr.output, h.gr.size, h.gr.block⟩⟩
theorem But.call {V w1 w2 : World} {g : Nat} (h : But V g w1) (k : Below w1.heap.size w1 w2) : But V g w2 :=
  ⟨⟨k.os.trans h.gr.os, k.tape.trans h.gr.tape, k.output.trans h.gr.output, Nat.le_trans h.gr.size k.size, fun i hi hn => (k.block i (Nat.lt_of_lt_of_le hi h.gr.size)).trans (h.gr.block i hi hn)⟩⟩
theorem But.set {V w1 : World} {g : Nat} (h : But V g w1) (i : Nat) (v : Value) : But V g (w1.setCell ⟨g, i, none⟩ v) :=
  ⟨⟨h.gr.os, h.gr.tape, h.gr.output, by simpa using h.gr.size, fun k hk hn => (Below.heap_setCell w1 ⟨g, i, none⟩ v k (by show k ≠ g; intro e; exact hn (by rw [e]))).trans (h.gr.block k hk hn)⟩⟩
theorem But.blk {V w1 : World} {g k : Nat} {t : TypeId} {cs : Array Value} (h : But V g w1) (b : Blk V k t cs) (hk : k ≠ g) : Blk w1 k t cs :=
  (h.gr.block k b.lt (by intro e; exact hk (by injection e))).trans b
theorem But.below {w V w1 : World} {g : Nat} (h : But V g w1) (k : Below w.heap.size w V) (hg : w.heap.size ≤ g) : Below w.heap.size w w1 :=
  k.grown h.gr k.size (fun j hj => by injection hj with e; omega)
set_option maxRecDepth 100000 in
set_option maxHeartbeats 4000000 in
theorem dotV_any (a b : V3) (w : World) : Calls Try.prog 32 #[vval a, vval b] w fun r w' => r = .returned (.agg #[Value.float FloatKind.f64 (vDot a b).lo, Value.float FloatKind.f64 (vDot a b).hi]) ∧ Below w.heap.size w w' := by
  have C0 := Lib.hid (fun w => vMul_any a b w)
  have C1 := Lib.hid (fun w => add_sp (vMul a b).x (vMul a b).y w)
  have C2 := Lib.hid (fun w => add_sp (addS (vMul a b).x (vMul a b).y) (vMul a b).z w)
  unfold vDot vSum
  generalize vMul a b = p at *
  generalize addS p.x p.y = q at *
  generalize addS q p.z = s at *
  go_enter Try.func32, Try.ntmps32
  go_wp2_with fail
  obtain ⟨W, hW, K0, K1, K2, hB, hz⟩ := bx3 w 26 26 24 #[Value.float FloatKind.f64 a.x.lo, Value.float FloatKind.f64 a.x.hi, Value.float FloatKind.f64 a.y.lo, Value.float FloatKind.f64 a.y.hi, Value.float FloatKind.f64 a.z.lo, Value.float FloatKind.f64 a.z.hi] #[Value.float FloatKind.f64 b.x.lo, Value.float FloatKind.f64 b.x.hi, Value.float FloatKind.f64 b.y.lo, Value.float FloatKind.f64 b.y.hi, Value.float FloatKind.f64 b.z.lo, Value.float FloatKind.f64 b.z.hi] #[Value.float FloatKind.f64 0, Value.float FloatKind.f64 0]
  rw [← hW]
  have K0 := Lib.hid K0
  have K1 := Lib.hid K1
  have K2 := Lib.hid K2
  have HB := Lib.hid hB
  clear hW hB hz
  have HO := Lib.hid (show ∀ w', Below W.heap.size W w' → (Below W.heap.size W w' ∧ w'.cell? ⟨w.heap.size, 0, none⟩ = some (Value.float FloatKind.f64 a.x.lo) ∧ w'.cell? ⟨w.heap.size, 1, none⟩ = some (Value.float FloatKind.f64 a.x.hi) ∧ w'.cell? ⟨w.heap.size, 2, none⟩ = some (Value.float FloatKind.f64 a.y.lo) ∧ w'.cell? ⟨w.heap.size, 3, none⟩ = some (Value.float FloatKind.f64 a.y.hi) ∧ w'.cell? ⟨w.heap.size, 4, none⟩ = some (Value.float FloatKind.f64 a.z.lo) ∧ w'.cell? ⟨w.heap.size, 5, none⟩ = some (Value.float FloatKind.f64 a.z.hi) ∧ w'.cell? ⟨w.heap.size + 1, 0, none⟩ = some (Value.float FloatKind.f64 b.x.lo) ∧ w'.cell? ⟨w.heap.size + 1, 1, none⟩ = some (Value.float FloatKind.f64 b.x.hi) ∧ w'.cell? ⟨w.heap.size + 1, 2, none⟩ = some (Value.float FloatKind.f64 b.y.lo) ∧ w'.cell? ⟨w.heap.size + 1, 3, none⟩ = some (Value.float FloatKind.f64 b.y.hi) ∧ w'.cell? ⟨w.heap.size + 1, 4, none⟩ = some (Value.float FloatKind.f64 b.z.lo) ∧ w'.cell? ⟨w.heap.size + 1, 5, none⟩ = some (Value.float FloatKind.f64 b.z.hi) ∧ w'.cell? ⟨w.heap.size + 1 + 1, 0, none⟩ = some (Value.float FloatKind.f64 0) ∧ w'.cell? ⟨w.heap.size + 1 + 1, 1, none⟩ = some (Value.float FloatKind.f64 0)) from fun w' h => ⟨h, (K0.out.below h K0.out.lt).cell 0, (K0.out.below h K0.out.lt).cell 1, (K0.out.below h K0.out.lt).cell 2, (K0.out.below h K0.out.lt).cell 3, (K0.out.below h K0.out.lt).cell 4, (K0.out.below h K0.out.lt).cell 5, (K1.out.below h K1.out.lt).cell 0, (K1.out.below h K1.out.lt).cell 1, (K1.out.below h K1.out.lt).cell 2, (K1.out.below h K1.out.lt).cell 3, (K1.out.below h K1.out.lt).cell 4, (K1.out.below h K1.out.lt).cell 5, (K2.out.below h K2.out.lt).cell 0, (K2.out.below h K2.out.lt).cell 1⟩)
  have D0 := Lib.hid (Below.refl W.heap.size W)
  refine (C0.out _).mono ?_
  rintro r w1 ⟨rfl, hb⟩
  have D1 := Lib.hid (below_step D0.out hb)
  clear hb
  have hq := (HO.out _ D1.out).2
  have zr := K2.out.lt
  obtain ⟨g1, hg1⟩ : ∃ g, w1.heap.size = g := ⟨_, rfl⟩
  have gl1 : W.heap.size ≤ g1 := by rw [← hg1]; exact D1.out.size
  obtain ⟨V1, hV⟩ : ∃ V, w1.alloc (.cells #[Value.float FloatKind.f64 p.x.lo, Value.float FloatKind.f64 p.x.hi, Value.float FloatKind.f64 p.y.lo, Value.float FloatKind.f64 p.y.hi, Value.float FloatKind.f64 p.z.lo, Value.float FloatKind.f64 p.z.hi] 26) = V := ⟨_, rfl⟩
  have K0' := Lib.hid (hV ▸ Blk.alloc (Blk.below K0.out D1.out K0.out.lt) _ : Blk V1 (w.heap.size) 26 #[Value.float FloatKind.f64 a.x.lo, Value.float FloatKind.f64 a.x.hi, Value.float FloatKind.f64 a.y.lo, Value.float FloatKind.f64 a.y.hi, Value.float FloatKind.f64 a.z.lo, Value.float FloatKind.f64 a.z.hi])
  have K1' := Lib.hid (hV ▸ Blk.alloc (Blk.below K1.out D1.out K1.out.lt) _ : Blk V1 (w.heap.size + 1) 26 #[Value.float FloatKind.f64 b.x.lo, Value.float FloatKind.f64 b.x.hi, Value.float FloatKind.f64 b.y.lo, Value.float FloatKind.f64 b.y.hi, Value.float FloatKind.f64 b.z.lo, Value.float FloatKind.f64 b.z.hi])
  have K2' := Lib.hid (hV ▸ Blk.alloc (Blk.below K2.out D1.out K2.out.lt) _ : Blk V1 (w.heap.size + 1 + 1) 24 #[Value.float FloatKind.f64 0, Value.float FloatKind.f64 0])
  have K3 := Lib.hid (show Blk V1 g1 26 #[Value.float FloatKind.f64 p.x.lo, Value.float FloatKind.f64 p.x.hi, Value.float FloatKind.f64 p.y.lo, Value.float FloatKind.f64 p.y.hi, Value.float FloatKind.f64 p.z.lo, Value.float FloatKind.f64 p.z.hi] by rw [← hV, ← hg1]; exact Blk.new_at _ _ _ rfl)
  have HB' := Lib.hid (hV ▸ below_more (below_step HB.out D1.out) _ : Below w.heap.size w V1)
  clear HB HO K0 K1 K2
  have HB := HB'
  clear HB'
  have K0 := K0'
  clear K0'
  have K1 := K1'
  clear K1'
  have K2 := K2'
  clear K2'
  have HO := Lib.hid (show ∀ w', Below V1.heap.size V1 w' → (Below V1.heap.size V1 w' ∧ w'.cell? ⟨w.heap.size, 0, none⟩ = some (Value.float FloatKind.f64 a.x.lo) ∧ w'.cell? ⟨w.heap.size, 1, none⟩ = some (Value.float FloatKind.f64 a.x.hi) ∧ w'.cell? ⟨w.heap.size, 2, none⟩ = some (Value.float FloatKind.f64 a.y.lo) ∧ w'.cell? ⟨w.heap.size, 3, none⟩ = some (Value.float FloatKind.f64 a.y.hi) ∧ w'.cell? ⟨w.heap.size, 4, none⟩ = some (Value.float FloatKind.f64 a.z.lo) ∧ w'.cell? ⟨w.heap.size, 5, none⟩ = some (Value.float FloatKind.f64 a.z.hi) ∧ w'.cell? ⟨w.heap.size + 1, 0, none⟩ = some (Value.float FloatKind.f64 b.x.lo) ∧ w'.cell? ⟨w.heap.size + 1, 1, none⟩ = some (Value.float FloatKind.f64 b.x.hi) ∧ w'.cell? ⟨w.heap.size + 1, 2, none⟩ = some (Value.float FloatKind.f64 b.y.lo) ∧ w'.cell? ⟨w.heap.size + 1, 3, none⟩ = some (Value.float FloatKind.f64 b.y.hi) ∧ w'.cell? ⟨w.heap.size + 1, 4, none⟩ = some (Value.float FloatKind.f64 b.z.lo) ∧ w'.cell? ⟨w.heap.size + 1, 5, none⟩ = some (Value.float FloatKind.f64 b.z.hi) ∧ w'.cell? ⟨w.heap.size + 1 + 1, 0, none⟩ = some (Value.float FloatKind.f64 0) ∧ w'.cell? ⟨w.heap.size + 1 + 1, 1, none⟩ = some (Value.float FloatKind.f64 0) ∧ w'.cell? ⟨g1, 0, none⟩ = some (Value.float FloatKind.f64 p.x.lo) ∧ w'.cell? ⟨g1, 1, none⟩ = some (Value.float FloatKind.f64 p.x.hi) ∧ w'.cell? ⟨g1, 2, none⟩ = some (Value.float FloatKind.f64 p.y.lo) ∧ w'.cell? ⟨g1, 3, none⟩ = some (Value.float FloatKind.f64 p.y.hi) ∧ w'.cell? ⟨g1, 4, none⟩ = some (Value.float FloatKind.f64 p.z.lo) ∧ w'.cell? ⟨g1, 5, none⟩ = some (Value.float FloatKind.f64 p.z.hi)) from fun w' h => ⟨h, (K0.out.below h K0.out.lt).cell 0, (K0.out.below h K0.out.lt).cell 1, (K0.out.below h K0.out.lt).cell 2, (K0.out.below h K0.out.lt).cell 3, (K0.out.below h K0.out.lt).cell 4, (K0.out.below h K0.out.lt).cell 5, (K1.out.below h K1.out.lt).cell 0, (K1.out.below h K1.out.lt).cell 1, (K1.out.below h K1.out.lt).cell 2, (K1.out.below h K1.out.lt).cell 3, (K1.out.below h K1.out.lt).cell 4, (K1.out.below h K1.out.lt).cell 5, (K2.out.below h K2.out.lt).cell 0, (K2.out.below h K2.out.lt).cell 1, (K3.out.below h K3.out.lt).cell 0, (K3.out.below h K3.out.lt).cell 1, (K3.out.below h K3.out.lt).cell 2, (K3.out.below h K3.out.lt).cell 3, (K3.out.below h K3.out.lt).cell 4, (K3.out.below h K3.out.lt).cell 5⟩)
  have D2 := Lib.hid (Below.refl V1.heap.size V1)
  have hq2 := (HO.out _ D2.out).2
  go_wp2_with fail
  clear hV hg1 hq
  have hq := hq2
  clear hq2
  clear hq
  clear HO
  have HO := Lib.hid (show ∀ w', But V1 (w.heap.size + 1 + 1) w' → (But V1 (w.heap.size + 1 + 1) w' ∧ w'.cell? ⟨w.heap.size, 0, none⟩ = some (Value.float FloatKind.f64 a.x.lo) ∧ w'.cell? ⟨w.heap.size, 1, none⟩ = some (Value.float FloatKind.f64 a.x.hi) ∧ w'.cell? ⟨w.heap.size, 2, none⟩ = some (Value.float FloatKind.f64 a.y.lo) ∧ w'.cell? ⟨w.heap.size, 3, none⟩ = some (Value.float FloatKind.f64 a.y.hi) ∧ w'.cell? ⟨w.heap.size, 4, none⟩ = some (Value.float FloatKind.f64 a.z.lo) ∧ w'.cell? ⟨w.heap.size, 5, none⟩ = some (Value.float FloatKind.f64 a.z.hi) ∧ w'.cell? ⟨w.heap.size + 1, 0, none⟩ = some (Value.float FloatKind.f64 b.x.lo) ∧ w'.cell? ⟨w.heap.size + 1, 1, none⟩ = some (Value.float FloatKind.f64 b.x.hi) ∧ w'.cell? ⟨w.heap.size + 1, 2, none⟩ = some (Value.float FloatKind.f64 b.y.lo) ∧ w'.cell? ⟨w.heap.size + 1, 3, none⟩ = some (Value.float FloatKind.f64 b.y.hi) ∧ w'.cell? ⟨w.heap.size + 1, 4, none⟩ = some (Value.float FloatKind.f64 b.z.lo) ∧ w'.cell? ⟨w.heap.size + 1, 5, none⟩ = some (Value.float FloatKind.f64 b.z.hi) ∧ w'.cell? ⟨g1, 0, none⟩ = some (Value.float FloatKind.f64 p.x.lo) ∧ w'.cell? ⟨g1, 1, none⟩ = some (Value.float FloatKind.f64 p.x.hi) ∧ w'.cell? ⟨g1, 2, none⟩ = some (Value.float FloatKind.f64 p.y.lo) ∧ w'.cell? ⟨g1, 3, none⟩ = some (Value.float FloatKind.f64 p.y.hi) ∧ w'.cell? ⟨g1, 4, none⟩ = some (Value.float FloatKind.f64 p.z.lo) ∧ w'.cell? ⟨g1, 5, none⟩ = some (Value.float FloatKind.f64 p.z.hi)) from fun w' h => ⟨h, (h.blk K0.out (by omega)).cell 0, (h.blk K0.out (by omega)).cell 1, (h.blk K0.out (by omega)).cell 2, (h.blk K0.out (by omega)).cell 3, (h.blk K0.out (by omega)).cell 4, (h.blk K0.out (by omega)).cell 5, (h.blk K1.out (by omega)).cell 0, (h.blk K1.out (by omega)).cell 1, (h.blk K1.out (by omega)).cell 2, (h.blk K1.out (by omega)).cell 3, (h.blk K1.out (by omega)).cell 4, (h.blk K1.out (by omega)).cell 5, (h.blk K3.out (by omega)).cell 0, (h.blk K3.out (by omega)).cell 1, (h.blk K3.out (by omega)).cell 2, (h.blk K3.out (by omega)).cell 3, (h.blk K3.out (by omega)).cell 4, (h.blk K3.out (by omega)).cell 5⟩)
  have Q0 := Lib.hid (But.refl V1 (w.heap.size + 1 + 1))
  have KD := Lib.hid (show Blk (World.drew V1) (w.heap.size + 1 + 1) 24 #[Value.float FloatKind.f64 0, Value.float FloatKind.f64 0] from K2.out)
  refine wp_region_held (S := (fun w' => But V1 (w.heap.size + 1 + 1) w' ∧ w'.cell? ⟨w.heap.size, 0, none⟩ = some (Value.float FloatKind.f64 a.x.lo) ∧ w'.cell? ⟨w.heap.size, 1, none⟩ = some (Value.float FloatKind.f64 a.x.hi) ∧ w'.cell? ⟨w.heap.size, 2, none⟩ = some (Value.float FloatKind.f64 a.y.lo) ∧ w'.cell? ⟨w.heap.size, 3, none⟩ = some (Value.float FloatKind.f64 a.y.hi) ∧ w'.cell? ⟨w.heap.size, 4, none⟩ = some (Value.float FloatKind.f64 a.z.lo) ∧ w'.cell? ⟨w.heap.size, 5, none⟩ = some (Value.float FloatKind.f64 a.z.hi) ∧ w'.cell? ⟨w.heap.size + 1, 0, none⟩ = some (Value.float FloatKind.f64 b.x.lo) ∧ w'.cell? ⟨w.heap.size + 1, 1, none⟩ = some (Value.float FloatKind.f64 b.x.hi) ∧ w'.cell? ⟨w.heap.size + 1, 2, none⟩ = some (Value.float FloatKind.f64 b.y.lo) ∧ w'.cell? ⟨w.heap.size + 1, 3, none⟩ = some (Value.float FloatKind.f64 b.y.hi) ∧ w'.cell? ⟨w.heap.size + 1, 4, none⟩ = some (Value.float FloatKind.f64 b.z.lo) ∧ w'.cell? ⟨w.heap.size + 1, 5, none⟩ = some (Value.float FloatKind.f64 b.z.hi) ∧ w'.cell? ⟨g1, 0, none⟩ = some (Value.float FloatKind.f64 p.x.lo) ∧ w'.cell? ⟨g1, 1, none⟩ = some (Value.float FloatKind.f64 p.x.hi) ∧ w'.cell? ⟨g1, 2, none⟩ = some (Value.float FloatKind.f64 p.y.lo) ∧ w'.cell? ⟨g1, 3, none⟩ = some (Value.float FloatKind.f64 p.y.hi) ∧ w'.cell? ⟨g1, 4, none⟩ = some (Value.float FloatKind.f64 p.z.lo) ∧ w'.cell? ⟨g1, 5, none⟩ = some (Value.float FloatKind.f64 p.z.hi))) (by kernel_rfl) ?_
  (try change wpAnyH _ _ _ _ _ _ _ (World.drew _))
  have hS0 := HO.out _ (But.drew Q0.out)
  refine wpAnyH_takeN (i := 0) (v := ?v2_0) (l' := bm 9 1) (a' := ?a2_0) rfl (by kernel_rfl) (by kernel_rfl) (by kernel_rfl) (fun _ _ _ h => h) (Or.inl ⟨by kernel_rfl, ?h2_0⟩) (by kernel_rfl) ?p2_0 hS0 ?r2_0
  case h2_0 => (intro w hS; go_simp; try with_reducible rfl)
  case p2_0 => (go_simp; try with_reducible rfl)
  refine wpAnyH_takeN (i := 1) (v := ?v2_1) (l' := bm 9 3) (a' := ?a2_1) rfl (by kernel_rfl) (by kernel_rfl) (by kernel_rfl) (fun _ _ _ h => h) (Or.inl ⟨by kernel_rfl, ?h2_1⟩) (by kernel_rfl) ?p2_1 hS0 ?r2_1
  case h2_1 => (intro w hS; go_simp; try with_reducible rfl)
  case p2_1 => (go_simp; try with_reducible rfl)
  refine wpAnyH_takeN (i := 2) (v := ?v2_2) (l' := bm 9 7) (a' := ?a2_2) rfl (by kernel_rfl) (by kernel_rfl) (by kernel_rfl) (fun _ _ _ h => h) (Or.inl ⟨by kernel_rfl, ?h2_2⟩) (by kernel_rfl) ?p2_2 hS0 ?r2_2
  case h2_2 => (intro w hS; go_simp; try with_reducible rfl)
  case p2_2 => (go_simp; try with_reducible rfl)
  refine wpAnyH_takeN (i := 3) (v := ?v2_3) (l' := bm 9 15) (a' := ?a2_3) rfl (by kernel_rfl) (by kernel_rfl) (by kernel_rfl) (fun _ _ _ h => h) (Or.inl ⟨by kernel_rfl, ?h2_3⟩) (by kernel_rfl) ?p2_3 hS0 ?r2_3
  case h2_3 => (intro w hS; go_simp; try with_reducible rfl)
  case p2_3 => (go_simp; try with_reducible rfl)
  refine wpAnyH_takeN (i := 5) (v := ?v2_5) (l' := bm 9 47) (a' := ?a2_5) rfl (by kernel_rfl) (by kernel_rfl) (by kernel_rfl) (fun _ _ _ h => h) (Or.inl ⟨by kernel_rfl, ?h2_5⟩) (by kernel_rfl) ?p2_5 hS0 ?r2_5
  case h2_5 => (intro w hS; go_simp; try with_reducible rfl)
  case p2_5 => (go_simp; try with_reducible rfl)
  refine wpAnyH_takeN (i := 6) (v := ?v2_6) (l' := bm 9 111) (a' := ?a2_6) rfl (by kernel_rfl) (by kernel_rfl) (by kernel_rfl) (fun _ _ _ h => h) (Or.inl ⟨by kernel_rfl, ?h2_6⟩) (by kernel_rfl) ?p2_6 hS0 ?r2_6
  case h2_6 => (intro w hS; go_simp; try with_reducible rfl)
  case p2_6 => (go_simp; try with_reducible rfl)
  refine wpAnyH_oneN (i := 4) (l' := bm 9 127) rfl (by kernel_rfl) (by kernel_rfl) (by kernel_rfl) (fun K hK => ?_)
  have hP := hS0.1
  go_simp
  go_at_call 75
  refine (C1.out _).mono ?_
  rintro r wq0 ⟨rfl, hb⟩
  dsimp only
  have E0 := Lib.hid (But.call hP hb)
  have KE0 := Lib.hid (Blk.below KD.out hb (Blk.lt KD.out))
  clear hb
  have hS1 := HO.out _ (E0.out)
  clear hP hS0
  refine hK _ _ hS1 ?_
  clear hK K
  refine wpAnyH_oneN (i := 7) (l' := bm 9 255) rfl (by kernel_rfl) (by kernel_rfl) (by kernel_rfl) (fun K hK => ?_)
  have hP := hS1.1
  go_simp
  go_at_call 75
  refine (C2.out _).mono ?_
  rintro r wq1 ⟨rfl, hb⟩
  dsimp only
  have E1 := Lib.hid (But.call hP hb)
  have KE1 := Lib.hid (Blk.below KE0.out hb (Blk.lt KE0.out))
  clear hb
  have f0 := KE1.out.cell 0
  have u0 := KE1.out.unfrozen 0
  have f1 := KE1.out.cell 1
  have u1 := KE1.out.unfrozen 1
  have hS2 := HO.out _ (E1.out)
  clear hP hS1
  refine hK _ _ hS2 ?_
  clear hK K
  refine wpAnyH_oneN (i := 8) (l' := bm 9 511) rfl (by kernel_rfl) (by kernel_rfl) (by kernel_rfl) (fun K hK => ?_)
  have hP := hS2.1
  go_simp
  have hS3 := HO.out _ ((But.set (But.set hP 0 (Value.float FloatKind.f64 s.lo)) 1 (Value.float FloatKind.f64 s.hi)))
  clear hP hS2
  refine hK _ _ hS3 ?_
  clear hK K
  refine wpAnyH_done (by kernel_rfl) ?_ _
  have hF := hS3.1
  clear hS3
  go_wp2_with fail
  (try simp only [Exit.inBlock, Exit.then])
  exact bodyPost_ret (resS rfl _ _ (w.heap.size + 1 + 1) (Value.float FloatKind.f64 s.lo) (Value.float FloatKind.f64 s.hi) rfl (Blk.set_ (Blk.set_ (KE1.out) 0 _) 1 _)) rfl ⟨rfl, But.below hF HB.out (by omega)⟩
end Go.Proofs.Ytdgaaceebghcpaa
