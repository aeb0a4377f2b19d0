/- A block of thirty-two words that the call has made: how its cells read and are written. -/
import Derived.Test.YtmgaonkmfdeohaaDoorWalkA
import Derived.Laws.OwnMore
import Derived.Deep.Draws
import Derived.Laws.Rows
import Derived.Laws.CopyOwn
import Derived.Laws.ResultCell
namespace Go.Proofs.YtmgaonkmfdeohaaDoor
open Go.RowKit

/-- Block g holds just the cells cs, none frozen. -/
def Blk (w : World) (g : Nat) (t : TypeId) (cs : Array Value) : Prop := w.heap[g]? = some (.cells cs t (0, 0))

section
variable {w w' : World} {g : Nat} {t : TypeId} {cs : Array Value}
theorem Blk.lt (h : Blk w g t cs) : g < w.heap.size := by
  rcases Nat.lt_or_ge g w.heap.size with hlt | hge
  · exact hlt
  · unfold Blk at h; rw [Array.getElem?_eq_none hge] at h; cases h
theorem Blk.cell (h : Blk w g t cs) (i : Nat) : w.cell? ⟨g, i, none⟩ = cs[i]? := cell_of_row w g i cs t (0, 0) h
theorem Blk.frozen (h : Blk w g t cs) (i : Nat) : w.frozen? ⟨g, i, none⟩ = false := by
  unfold Blk at h
  simp [World.frozen?, h]
theorem Blk.new (w : World) (t : TypeId) (cs : Array Value) : Blk (w.alloc (.cells cs t)) w.heap.size t cs := heap_alloc_new w _
theorem Blk.drew (h : Blk w g t cs) : Blk w.drew g t cs := h
theorem Blk.drewN (h : Blk w g t cs) (n : Nat) : Blk (w.drewN n) g t cs := h
theorem Blk.alloc (h : Blk w g t cs) (o : Obj) : Blk (w.alloc o) g t cs := (Below.heap_alloc w o g h.lt).trans h
theorem Blk.set_ (h : Blk w g t cs) (i : Nat) (u : Value) : Blk (w.setCell ⟨g, i, none⟩ u) g t (cs.setIfInBounds i u) := by
  unfold Blk at h ⊢
  simp [World.setCell, Array.getElem?_modify, h]
theorem Blk.far (h : Blk w g t cs) {p : Addr} (hp : g ≠ p.block) (u : Value) : Blk (w.setCell p u) g t cs := (Below.heap_setCell w p u g hp).trans h
theorem Blk.below {B : Nat} (h : Blk w g t cs) (hb : Below B w w') (hg : g < B) : Blk w' g t cs := (hb.block g hg).trans h
theorem Blk.congr {cs' : Array Value} (h : Blk w g t cs) (e : cs = cs') : Blk w g t cs' := e ▸ h
end

/-- The words that are laid after i rounds. -/
def rowOf (f : Nat → Nat) (i : Nat) : Array Value := ((List.range 32).map fun j => if j < i then Value.int .u32 (f j : Nat) else Value.int .u32 0).toArray

theorem rowOf_size (f : Nat → Nat) (i : Nat) : (rowOf f i).size = 32 := by simp [rowOf]

theorem rowOf_get (f : Nat → Nat) (i j : Nat) (hj : j < 32) : (rowOf f i)[j]? = some (if j < i then Value.int .u32 (f j : Nat) else Value.int .u32 0) := by
  simp [rowOf, hj]

theorem rowOf_set (f : Nat → Nat) (i : Nat) (hi : i < 32) (v : Value) (hv : v = .int .u32 (f i : Nat)) : (rowOf f i).setIfInBounds i v = rowOf f (i + 1) := by
  subst hv
  apply Array.ext_getElem?
  intro j
  rw [Array.getElem?_setIfInBounds, rowOf_size]
  by_cases hj : j < 32
  · rw [rowOf_get f i j hj, rowOf_get f (i + 1) j hj]
    by_cases h : i = j
    · subst h; simp [hi]
    · rw [if_neg h]
      by_cases h2 : j < i
      · simp [h2, show j < i + 1 by omega]
      · simp [h2, show ¬ j < i + 1 by omega]
  · have h1 : (rowOf f i)[j]? = none := Array.getElem?_eq_none (by rw [rowOf_size]; omega)
    have h2 : (rowOf f (i + 1))[j]? = none := Array.getElem?_eq_none (by rw [rowOf_size]; omega)
    rw [h1, h2, if_neg (by omega)]

theorem set_set (cs : Array Value) (i : Nat) (u v : Value) : (cs.setIfInBounds i u).setIfInBounds i v = cs.setIfInBounds i v := by
  simp

theorem rowOf_zero (f : Nat → Nat) : rowOf f 0 = Array.replicate 32 (Value.int .u32 0) := by
  apply Array.ext_getElem?
  intro j
  by_cases hj : j < 32
  · rw [rowOf_get f 0 j hj]; simp [hj]
  · rw [Array.getElem?_eq_none (by rw [rowOf_size]; omega), Array.getElem?_eq_none (by simp; omega)]

structure WIn (f : Nat → Nat) (N : Nat) (pc : Array Value) (i : Nat) (w wr : World) : Prop where
  hi : i ≤ 32
  v : Blk wr (N + 1) 24 (rowOf f i)
  r : Blk wr N 24 (rowOf f 0)
  p : Blk wr (N + 1 + 1) 53 pc
  b : Below N w wr
  s : wr.heap.size = N + 3

/-- In the midst of a round: cell i holds u. -/
structure Mid (f : Nat → Nat) (N : Nat) (pc : Array Value) (i : Nat) (u : Value) (w wr : World) : Prop where
  hi : i < 32
  v : Blk wr (N + 1) 24 ((rowOf f i).setIfInBounds i u)
  r : Blk wr N 24 (rowOf f 0)
  p : Blk wr (N + 1 + 1) 53 pc
  b : Below N w wr
  s : wr.heap.size = N + 3

section
variable {f : Nat → Nat} {N : Nat} {pc : Array Value} {i : Nat} {u : Value} {w wr : World}
theorem WIn.drew (h : WIn f N pc i w wr) : WIn f N pc i w wr.drew := ⟨h.hi, h.v, h.r, h.p, h.b.drew, h.s⟩
theorem WIn.mid (h : WIn f N pc i w wr) (hi : i < 32) (u : Value) : Mid f N pc i u w (wr.setCell ⟨N + 1, i, none⟩ u) :=
  ⟨hi, h.v.set_ i u, h.r.far (p := ⟨N + 1, i, none⟩) (by simp) u, h.p.far (p := ⟨N + 1, i, none⟩) (by simp) u, h.b.setCell (by simp) u, by simpa using h.s⟩
theorem Mid.drew (h : Mid f N pc i u w wr) : Mid f N pc i u w wr.drew := ⟨h.hi, h.v, h.r, h.p, h.b.drew, h.s⟩
theorem Mid.set (h : Mid f N pc i u w wr) (v : Value) : Mid f N pc i v w (wr.setCell ⟨N + 1, i, none⟩ v) :=
  ⟨h.hi, (h.v.set_ i v).congr (set_set _ _ _ _), h.r.far (p := ⟨N + 1, i, none⟩) (by simp) v, h.p.far (p := ⟨N + 1, i, none⟩) (by simp) v, h.b.setCell (by simp) v, by simpa using h.s⟩
theorem Mid.done (h : Mid f N pc i u w wr) (hu : u = .int .u32 (f i : Nat)) : WIn f N pc (i + 1) w wr :=
  ⟨h.hi, h.v.congr (rowOf_set f i h.hi u hu), h.r, h.p, h.b, h.s⟩
theorem WIn.cell (h : WIn f N pc i w wr) {j : Nat} (hj : j < i) : wr.cell? ⟨N + 1, j, none⟩ = some (.int .u32 (f j : Nat)) := by
  rw [h.v.cell, rowOf_get f i j (by have := h.hi; omega), if_pos hj]
theorem WIn.next (h : WIn f N pc i w wr) (hi : i < 32) : wr.cell? ⟨N + 1, i, none⟩ = some (.int .u32 0) := by
  rw [h.v.cell, rowOf_get f i i hi, if_neg (by omega)]
end

theorem Blk.new_at (w : World) (t : TypeId) (cs : Array Value) {g : Nat} (hg : g = w.heap.size) : Blk (w.alloc (.cells cs t)) g t cs := by
  subst hg; exact Blk.new w t cs

abbrev zeros : Array Value := #[.int .u32 0, .int .u32 0, .int .u32 0, .int .u32 0, .int .u32 0, .int .u32 0, .int .u32 0, .int .u32 0, .int .u32 0, .int .u32 0, .int .u32 0, .int .u32 0, .int .u32 0, .int .u32 0, .int .u32 0, .int .u32 0,
  .int .u32 0, .int .u32 0, .int .u32 0, .int .u32 0, .int .u32 0, .int .u32 0, .int .u32 0, .int .u32 0, .int .u32 0, .int .u32 0, .int .u32 0, .int .u32 0, .int .u32 0, .int .u32 0, .int .u32 0, .int .u32 0]

theorem zeros_row (f : Nat → Nat) : zeros = rowOf f 0 := rfl

theorem WIn.start (w : World) (f : Nat → Nat) (pc : Array Value) : WIn f w.heap.size pc 0 w (((w.alloc (.cells zeros 24)).alloc (.cells zeros 24)).alloc (.cells pc 53)) :=
  ⟨by omega, ((Blk.new_at _ 24 zeros (by simp)).alloc _).congr (zeros_row f), (((Blk.new_at _ 24 zeros rfl).alloc _).alloc _).congr (zeros_row f), Blk.new_at _ 53 pc (by simp),
    (((Below.refl _ _).alloc (Nat.le_refl _) _).alloc (by simp) _).alloc (by simp; omega) _, by simp⟩

theorem rowOf_one (f : Nat → Nat) (i : Nat) : (rowOf f i).all (·.oneCell') = true := by
  rw [Array.all_eq_true_iff_forall_mem]
  intro x hx
  simp only [rowOf, List.mem_toArray, List.mem_map, List.mem_range] at hx
  obtain ⟨j, _, rfl⟩ := hx
  split <;> rfl

theorem info24 : (Tryd.prog.info? 24).map (·.size) = some 32 := by kernel_rfl

theorem info24r (f : Nat → Nat) (i : Nat) : (Tryd.prog.info? 24).map (·.size) = some (rowOf f i).size := by rw [info24, rowOf_size]
theorem size2 (f g : Nat → Nat) (i j : Nat) : (rowOf f i).size = (rowOf g j).size := by rw [rowOf_size, rowOf_size]

theorem Blk.setRow {w : World} {g : Nat} {t : TypeId} {cs : Array Value} (h : Blk w g t cs) (cs' : Array Value) : Blk (w.setRow g cs') g t cs' := setRow_heap w g cs cs' t (0, 0) h

/-- What sobol.Words hands back lies in a block of its own. -/
theorem res_row {w : World} {N : Nat} (f : Nat → Nat) (h : Blk w N 24 (rowOf f 32)) (tmps : Array Value) {v : Value} (h2 : tmps.getD 2 undef = .pointer (some ⟨N, 0, none⟩)) (h3 : tmps.getD 3 undef = v) :
    (results Tryd.f10 tmps).run Tryd.prog w = .ok (.tuple #[.agg (rowOf f 32), v]) w := by
  rw [results_cell_tmp rfl, h2, h3]
  have hl := run_loadVar_row (P := Tryd.prog) w N 24 24 (rowOf f 32) (0, 0) _ h Tryd.underlying24 rfl (by rw [info24, rowOf_size])
  simp [asAddr, hl]

/-- The plan of a dimension, as its variable holds it. -/
def Plans (w : World) : Prop := 2 ≤ w.heap.size ∧ ∀ j, j < 49 → w.cell? ⟨0, j, none⟩ = some (planCells.getD j undef)
where planCells : List Value := [.int .i64 1, .int .i64 0, .int .u32 1, .int .u32 0, .int .u32 0, .int .u32 0, .int .u32 0,
  .int .i64 2, .int .i64 1, .int .u32 1, .int .u32 3, .int .u32 0, .int .u32 0, .int .u32 0,
  .int .i64 3, .int .i64 1, .int .u32 1, .int .u32 3, .int .u32 1, .int .u32 0, .int .u32 0,
  .int .i64 3, .int .i64 2, .int .u32 1, .int .u32 1, .int .u32 1, .int .u32 0, .int .u32 0,
  .int .i64 4, .int .i64 1, .int .u32 1, .int .u32 1, .int .u32 3, .int .u32 3, .int .u32 0,
  .int .i64 4, .int .i64 4, .int .u32 1, .int .u32 3, .int .u32 5, .int .u32 13, .int .u32 0,
  .int .i64 5, .int .i64 2, .int .u32 1, .int .u32 1, .int .u32 5, .int .u32 5, .int .u32 17]
end Go.Proofs.YtmgaonkmfdeohaaDoor
