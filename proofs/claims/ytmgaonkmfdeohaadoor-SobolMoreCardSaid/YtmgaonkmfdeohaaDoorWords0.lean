/- The walk of sobol.Words at the dimension 0, and at a dimension that is none. -/
import Derived.Test.YtmgaonkmfdeohaaDoorRow
import Derived.LoopTactic
namespace Go.Proofs.YtmgaonkmfdeohaaDoor
open Go.RowKit

def pow (j : Nat) : Nat := 2 ^ (31 - j)
theorem pow_word : ∀ j, j < 32 → Sob.wd 0 j = pow j := by decide +kernel
theorem pow_lt (j : Nat) : pow j < 4294967296 := by
  unfold pow
  exact Nat.lt_of_le_of_lt (Nat.pow_le_pow_right (by decide) (show 31 - j ≤ 31 by omega)) (by decide)

theorem pow_int (i : Nat) : (2 : Int) ^ (31 - i) % 4294967296 = ((pow i : Nat) : Int) := by
  have h2 := pow_lt i
  have h3 : ((pow i : Nat) : Int) = (2 : Int) ^ (31 - i) := by unfold pow; rw [Int.natCast_pow]; rfl
  rw [← h3]
  omega

structure LIn (f : Nat → Nat) (N : Nat) (i : Nat) (w wr : World) : Prop where
  hi : i ≤ 32
  v : Blk wr (N + 1) 24 (rowOf f i)
  r : Blk wr N 24 (rowOf f 0)
  b : Below N w wr
  s : wr.heap.size = N + 2

theorem LIn.start (w : World) (f : Nat → Nat) : LIn f w.heap.size 0 w ((w.alloc (.cells zeros 24)).alloc (.cells zeros 24)) :=
  ⟨by omega, (Blk.new_at _ 24 zeros (by simp)).congr (zeros_row f), ((Blk.new_at _ 24 zeros rfl).alloc _).congr (zeros_row f), ((Below.refl _ _).alloc (Nat.le_refl _) _).alloc (by simp) _, by simp⟩
theorem LIn.step {f : Nat → Nat} {N i : Nat} {w wr : World} (h : LIn f N i w wr) (hi : i < 32) (u : Value) (hu : u = .int .u32 (f i : Nat)) : LIn f N (i + 1) w (wr.setCell ⟨N + 1, i, none⟩ u) :=
  ⟨hi, (h.v.set_ i u).congr (rowOf_set f i hi u hu), h.r.far (p := ⟨N + 1, i, none⟩) (by simp) u, h.b.setCell (by simp) u, by simpa using h.s⟩
theorem LIn.next {f : Nat → Nat} {N i : Nat} {w wr : World} (h : LIn f N i w wr) (hi : i < 32) : wr.cell? ⟨N + 1, i, none⟩ = some (.int .u32 0) := by
  rw [h.v.cell, rowOf_get f i i hi, if_neg (by omega)]

def Rel0 (w : World) (c : Value) (wr : World) : Prop := ∃ i : Nat, c = .int .i64 i ∧ LIn (Sob.wd 0) w.heap.size i w wr

set_option maxRecDepth 100000 in
set_option maxHeartbeats 1000000 in
theorem words0 (w : World) : Calls Tryd.prog 10 #[.int .i64 0] w fun e w' => e = .returned (.tuple #[.agg (rowOf (Sob.wd 0) 32), .int .i64 0]) ∧ Below w.heap.size w w' := by
  go_enter Tryd.func10, Tryd.ntmps10
  go_wp2
  go_loopw [18] (fun c wr => Rel0 w c wr) (fun c _ => 32 - (intOf c).toNat)
  case atStart => exact ⟨0, rfl, LIn.start w _⟩
  case round =>
    obtain ⟨i, rfl, hw⟩ := hrel
    by_cases hlt : i < 32
    · have hn := hw.next hlt
      have hf := hw.v.frozen i
      have H := Lib.hid hw; clear hw
      go_wp2
      go_roundw
      case rel => exact ⟨i + 1, rfl, H.out.step hlt _ (congrArg (Value.int IntKind.u32) ((pow_int i).trans (congrArg Nat.cast (pow_word i hlt).symm)))⟩
      case measure => simp [intOf]; omega
    · obtain rfl : i = 32 := by have := hw.hi; omega
      have hv := hw.v
      have hr := hw.r
      have H := Lib.hid hw; clear hw
      go_wp2_with (first
        | (refine wpList_load_row rfl 24 _ rfl _ rfl _ _ _ _ hv Tryd.underlying24 rfl (info24r _ _) ?_)
        | (refine wpList_store_row rfl 24 _ _ rfl w.heap.size _ rfl rfl _ _ hr (info24r _ _) (size2 _ _ _ _) (rowOf_one _ _) ?_))
      exact bodyPost_ret (res_row _ (hr.setRow _) _ rfl rfl) rfl ⟨rfl, below_setRow H.out.b (Nat.le_refl _) _⟩

/-- A dimension that is none: nothing but zeros, and the error. -/
theorem res_zeros {w : World} {N : Nat} (h : Blk w N 24 (rowOf (Sob.wd 0) 0)) (tmps : Array Value) {v : Value} (h2 : tmps.getD 2 undef = .pointer (some ⟨N, 0, none⟩)) (h3 : tmps.getD 3 undef = v) :
    (results Tryd.f10 tmps).run Tryd.prog w = .ok (.tuple #[.agg (rowOf (Sob.wd 0) 0), v]) w := by
  rw [results_cell_tmp rfl, h2, h3]
  have hl := run_loadVar_row (P := Tryd.prog) w N 24 24 (rowOf (Sob.wd 0) 0) (0, 0) _ h Tryd.underlying24 rfl (by rw [info24, rowOf_size])
  simp [asAddr, hl]

set_option maxRecDepth 100000 in
set_option maxHeartbeats 1000000 in
theorem words_bad (d : Int) (hd : d < 0 ∨ 8 ≤ d) (w : World) : Calls Tryd.prog 10 #[.int .i64 d] w fun e w' => e = .returned (.tuple #[.agg (rowOf (Sob.wd 0) 0), .int .i64 50]) ∧ Below w.heap.size w w' := by
  have hb : Below w.heap.size w ((w.alloc (.cells zeros 24)).alloc (.cells zeros 24)) := ((Below.refl _ _).alloc (Nat.le_refl _) _).alloc (by simp) _
  have hr : Blk ((w.alloc (.cells zeros 24)).alloc (.cells zeros 24)) w.heap.size 24 (rowOf (Sob.wd 0) 0) := ((Blk.new_at _ 24 zeros rfl).alloc _).congr (zeros_row _)
  have hv : Blk ((w.alloc (.cells zeros 24)).alloc (.cells zeros 24)) (w.heap.size + 1) 24 (rowOf (Sob.wd 0) 0) := (Blk.new_at _ 24 zeros (by simp)).congr (zeros_row _)
  have HB := Lib.hid hb
  clear hb
  by_cases h : d < 0
  · clear hd
    go_enter Tryd.func10, Tryd.ntmps10
    go_wp2_with (first
        | (refine wpList_load_row rfl 24 _ rfl _ rfl _ _ _ _ hv Tryd.underlying24 rfl (info24r _ _) ?_)
        | (refine wpList_store_row rfl 24 _ _ rfl w.heap.size _ rfl rfl _ _ hr (info24r _ _) (size2 _ _ _ _) (rowOf_one _ _) ?_))
    exact bodyPost_ret (res_zeros (hr.setRow _) _ rfl rfl) rfl ⟨rfl, below_setRow HB.out (Nat.le_refl _) _⟩
  · have h' : 8 ≤ d := by omega
    clear hd
    go_enter Tryd.func10, Tryd.ntmps10
    go_wp2_with (first
        | (refine wpList_load_row rfl 24 _ rfl _ rfl _ _ _ _ hv Tryd.underlying24 rfl (info24r _ _) ?_)
        | (refine wpList_store_row rfl 24 _ _ rfl w.heap.size _ rfl rfl _ _ hr (info24r _ _) (size2 _ _ _ _) (rowOf_one _ _) ?_))
    exact bodyPost_ret (res_zeros (hr.setRow _) _ rfl rfl) rfl ⟨rfl, below_setRow HB.out (Nat.le_refl _) _⟩
end Go.Proofs.YtmgaonkmfdeohaaDoor
