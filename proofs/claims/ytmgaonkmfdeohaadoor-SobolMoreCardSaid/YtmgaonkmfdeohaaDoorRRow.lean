/- The block of words that lanternref05.Words writes twice: first the powers, then the words of the dimension over them. And its walks at the dimension 0 and at a dimension that is none. -/
import Derived.Test.YtmgaonkmfdeohaaDoorWords0
import Derived.LoopTactic
import Derived.Deep.WholeRow
namespace Go.Proofs.YtmgaonkmfdeohaaDoor
open Go.RowKit

/-- The words below i, the powers from i on. -/
def row2 (f : Nat → Nat) (i : Nat) : Array Value := ((List.range 32).map fun j => if j < i then Value.int .u32 (f j : Nat) else Value.int .u32 (pow j : Nat)).toArray
theorem row2_size (f : Nat → Nat) (i : Nat) : (row2 f i).size = 32 := by simp [row2]
theorem row2_get (f : Nat → Nat) (i j : Nat) (hj : j < 32) : (row2 f i)[j]? = some (if j < i then Value.int .u32 (f j : Nat) else Value.int .u32 (pow j : Nat)) := by
  simp [row2, hj]
theorem row2_set (f : Nat → Nat) (i : Nat) (hi : i < 32) (v : Value) (hv : v = .int .u32 (f i : Nat)) : (row2 f i).setIfInBounds i v = row2 f (i + 1) := by
  subst hv
  apply Array.ext_getElem?
  intro j
  rw [Array.getElem?_setIfInBounds, row2_size]
  by_cases hj : j < 32
  · rw [row2_get f i j hj, row2_get f (i + 1) j hj]
    by_cases h : i = j
    · subst h; simp [hi]
    · rw [if_neg h]
      by_cases h2 : j < i
      · simp [h2, show j < i + 1 by omega]
      · simp [h2, show ¬ j < i + 1 by omega]
  · have h1 : (row2 f i)[j]? = none := Array.getElem?_eq_none (by rw [row2_size]; omega)
    have h2 : (row2 f (i + 1))[j]? = none := Array.getElem?_eq_none (by rw [row2_size]; omega)
    rw [h1, h2, if_neg (by omega)]
theorem row2_full (f : Nat → Nat) : row2 f 32 = rowOf f 32 := by
  apply Array.ext_getElem?
  intro j
  by_cases hj : j < 32
  · rw [row2_get f 32 j hj, rowOf_get f 32 j hj, if_pos hj, if_pos hj]
  · rw [Array.getElem?_eq_none (by rw [row2_size]; omega), Array.getElem?_eq_none (by rw [rowOf_size]; omega)]
theorem row2_zero (f : Nat → Nat) : row2 f 0 = rowOf pow 32 := by
  apply Array.ext_getElem?
  intro j
  by_cases hj : j < 32
  · rw [row2_get f 0 j hj, rowOf_get pow 32 j hj, if_pos hj, if_neg (by omega)]
  · rw [Array.getElem?_eq_none (by rw [row2_size]; omega), Array.getElem?_eq_none (by rw [rowOf_size]; omega)]

structure RIn (f : Nat → Nat) (N : Nat) (mc : Array Value) (i : Nat) (w wr : World) : Prop where
  hi : i ≤ 32
  v : Blk wr (N + 1) 24 (row2 f i)
  r : Blk wr N 24 (rowOf f 0)
  m : Blk wr (N + 2) 22 mc
  b : Below N w wr
  s : wr.heap.size = N + 3

section
variable {f : Nat → Nat} {N : Nat} {mc : Array Value} {i : Nat} {w wr : World}
theorem RIn.start (h : LIn pow N 32 w wr) (f : Nat → Nat) (mc : Array Value) : RIn f N mc 0 w (wr.alloc (.cells mc 22)) :=
  ⟨by omega, (h.v.alloc _).congr (row2_zero f).symm, (h.r.alloc _).congr rfl, Blk.new_at _ _ _ h.s.symm, h.b.alloc (by have := h.s; omega) _, by simp [h.s]⟩
theorem RIn.drew (h : RIn f N mc i w wr) : RIn f N mc i w wr.drew := ⟨h.hi, h.v, h.r, h.m, h.b.drew, h.s⟩
theorem RIn.step (h : RIn f N mc i w wr) (hi : i < 32) (u : Value) (hu : u = .int .u32 (f i : Nat)) : RIn f N mc (i + 1) w (wr.setCell ⟨N + 1, i, none⟩ u) :=
  ⟨hi, (h.v.set_ i u).congr (row2_set f i hi u hu), h.r.far (p := ⟨N + 1, i, none⟩) (by simp) u, h.m.far (p := ⟨N + 1, i, none⟩) (by simp) u, h.b.setCell (by simp) u, by simpa using h.s⟩
theorem RIn.step' (h : RIn f N mc i w wr) (hi : i < 32) (u : Value) (hu : u = .int .u32 (f i : Nat)) : RIn f N mc (i + 1) w (wr.setCell ⟨N + 1, i, none⟩ u).drew := (h.step hi u hu).drew
theorem RIn.cell (h : RIn f N mc i w wr) {j : Nat} (hj : j < i) : wr.cell? ⟨N + 1, j, none⟩ = some (.int .u32 (f j : Nat)) := by
  rw [h.v.cell, row2_get f i j (by have := h.hi; omega), if_pos hj]
theorem RIn.next (h : RIn f N mc i w wr) (hi : i < 32) : wr.cell? ⟨N + 1, i, none⟩ = some (.int .u32 (pow i : Nat)) := by
  rw [h.v.cell, row2_get f i i hi, if_neg (by omega)]
theorem RIn.full (h : RIn f N mc 32 w wr) : Blk wr (N + 1) 24 (rowOf f 32) := h.v.congr (row2_full f)
end

theorem pow_gen (i : Nat) : ∃ p : Nat, pow i = p := ⟨_, rfl⟩

def RRel0 (w : World) (c : Value) (wr : World) : Prop := ∃ i : Nat, c = .int .i64 i ∧ LIn pow w.heap.size i w wr

theorem rres_row {w : World} {N : Nat} (f : Nat → Nat) {i : Nat} (h : Blk w N 24 (rowOf f i)) (tmps : Array Value) {v : Value} (h2 : tmps.getD 2 undef = .pointer (some ⟨N, 0, none⟩)) (h3 : tmps.getD 3 undef = v) :
    (results Tryd.f11 tmps).run Tryd.prog w = .ok (.tuple #[.agg (rowOf f i), v]) w := by
  rw [results_cell_tmp rfl, h2, h3]
  have hl := run_loadVar_row (P := Tryd.prog) w N 24 24 (rowOf f i) (0, 0) _ h Tryd.underlying24 rfl (info24r _ _)
  simp [asAddr, hl]

theorem rbuild (w : World) : (Instr.build 24 #[]).run Tryd.prog w = .ok (.agg zeros) w := run_build w 24 _ _ (by kernel_rfl)

theorem pow_rows : rowOf pow 32 = rowOf (Sob.wd 0) 32 := by
  apply Array.ext_getElem?
  intro j
  by_cases hj : j < 32
  · rw [rowOf_get _ 32 j hj, rowOf_get _ 32 j hj, if_pos hj, if_pos hj, pow_word j hj]
  · rw [Array.getElem?_eq_none (by rw [rowOf_size]; omega), Array.getElem?_eq_none (by rw [rowOf_size]; omega)]

theorem zeros_one : zeros.all (·.oneCell') = true := rowOf_one (Sob.wd 0) 0
theorem info24z : (Tryd.prog.info? 24).map (·.size) = some zeros.size := info24
theorem rnew (w : World) : Blk ((w.alloc (.cells zeros 24)).alloc (.cells zeros 24)) (w.heap.size + 1) 24 zeros := Blk.new_at _ _ zeros (by simp)
theorem rset (w : World) : ((w.alloc (.cells zeros 24)).alloc (.cells zeros 24)).setRow (w.heap.size + 1) zeros = (w.alloc (.cells zeros 24)).alloc (.cells zeros 24) := by
  have h := World.setRow_alloc_new (w.alloc (.cells zeros 24)) zeros zeros 24
  have e : (w.alloc (.cells zeros 24)).heap.size = w.heap.size + 1 := by simp
  rw [e] at h
  exact h

set_option maxRecDepth 100000 in
set_option maxHeartbeats 1000000 in
theorem rwords0 (w : World) : Calls Tryd.prog 11 #[.int .i64 0] w fun e w' => e = .returned (.tuple #[.agg (rowOf (Sob.wd 0) 32), .int .i64 0]) ∧ Below w.heap.size w w' := by
  have hbu := rbuild
  go_enter Tryd.func11, Tryd.ntmps11
  go_wp2_with (refine wpList_store_row rfl 24 _ _ rfl (w.heap.size + 1) _ rfl rfl _ _ (rnew w) info24z rfl zeros_one ?_)
  rw [rset]
  go_loopw [5] (fun c wr => RRel0 w c wr) (fun c _ => 32 - (intOf c).toNat)
  case atStart => exact ⟨0, rfl, LIn.start w _⟩
  case round =>
    obtain ⟨i, rfl, hw⟩ := hrel
    by_cases hlt : i < 32
    · have hn := hw.next hlt
      have hf := hw.v.frozen i
      have H := Lib.hid hw; clear hw
      go_wp2
      go_roundw
      case rel => exact ⟨i + 1, rfl, H.out.step hlt _ (congrArg (Value.int IntKind.u32) (pow_int i))⟩
      case measure => simp [intOf]; omega
    · obtain rfl : i = 32 := by have := hw.hi; omega
      have hv := hw.v
      have hr := hw.r
      have H := Lib.hid hw; clear hw
      go_wp2_with (first
        | (refine wpList_load_row rfl 24 _ rfl _ rfl _ _ _ _ hv Tryd.underlying24 rfl (info24r _ _) ?_)
        | (refine wpList_store_row rfl 24 _ _ rfl w.heap.size _ rfl rfl _ _ hr (info24r _ _) (size2 _ _ _ _) (rowOf_one _ _) ?_))
      exact bodyPost_ret (rres_row _ (hr.setRow _) _ rfl rfl) rfl ⟨by rw [pow_rows]; rfl, below_setRow H.out.b (Nat.le_refl _) _⟩

set_option maxRecDepth 100000 in
set_option maxHeartbeats 1000000 in
theorem rwords_bad (d : Int) (hd : d < 0 ∨ 8 ≤ d) (w : World) : Calls Tryd.prog 11 #[.int .i64 d] w fun e w' => e = .returned (.tuple #[.agg (rowOf (Sob.wd 0) 0), .int .i64 50]) ∧ Below w.heap.size w w' := by
  have hb : Below w.heap.size w ((w.alloc (.cells zeros 24)).alloc (.cells zeros 24)) := ((Below.refl _ _).alloc (Nat.le_refl _) _).alloc (by simp) _
  have hr : Blk ((w.alloc (.cells zeros 24)).alloc (.cells zeros 24)) w.heap.size 24 (rowOf (Sob.wd 0) 0) := ((Blk.new_at _ 24 zeros rfl).alloc _).congr (zeros_row _)
  have hv : Blk ((w.alloc (.cells zeros 24)).alloc (.cells zeros 24)) (w.heap.size + 1) 24 (rowOf (Sob.wd 0) 0) := (Blk.new_at _ 24 zeros (by simp)).congr (zeros_row _)
  have HB := Lib.hid hb
  clear hb
  have hbu := rbuild
  by_cases h : d < 0
  · clear hd
    go_enter Tryd.func11, Tryd.ntmps11
    go_wp2_with (first
        | (refine wpList_store_row rfl 24 _ (.tmp 12) rfl (w.heap.size + 1) _ rfl rfl _ _ (rnew w) info24z rfl zeros_one ?_; rw [rset])
        | (refine wpList_load_row rfl 24 _ rfl _ rfl _ _ _ _ hv Tryd.underlying24 rfl (info24r _ _) ?_)
        | (refine wpList_store_row rfl 24 _ _ rfl w.heap.size _ rfl rfl _ _ hr (info24r _ _) (size2 _ _ _ _) (rowOf_one _ _) ?_))
    exact bodyPost_ret (rres_row _ (hr.setRow _) _ rfl rfl) rfl ⟨rfl, below_setRow HB.out (Nat.le_refl _) _⟩
  · have h' : 8 ≤ d := by omega
    have h'' : 7 < d := by omega
    clear hd
    go_enter Tryd.func11, Tryd.ntmps11
    go_wp2_with (first
        | (refine wpList_store_row rfl 24 _ (.tmp 12) rfl (w.heap.size + 1) _ rfl rfl _ _ (rnew w) info24z rfl zeros_one ?_; rw [rset])
        | (refine wpList_load_row rfl 24 _ rfl _ rfl _ _ _ _ hv Tryd.underlying24 rfl (info24r _ _) ?_)
        | (refine wpList_store_row rfl 24 _ _ rfl w.heap.size _ rfl rfl _ _ hr (info24r _ _) (size2 _ _ _ _) (rowOf_one _ _) ?_))
    exact bodyPost_ret (rres_row _ (hr.setRow _) _ rfl rfl) rfl ⟨rfl, below_setRow HB.out (Nat.le_refl _) _⟩
end Go.Proofs.YtmgaonkmfdeohaaDoor
