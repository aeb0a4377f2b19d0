/- The walk of sobol.Words at the dimension 1. -/
import Derived.Test.YtmgaonkmfdeohaaDoorRow
import Derived.RegionTactic
import Derived.LoopTactic
namespace Go.Proofs.YtmgaonkmfdeohaaDoor
open Go.RowKit

abbrev pc1 : Array Value := #[Value.int IntKind.i64 1, Value.int IntKind.i64 0, Value.int IntKind.u32 1, Value.int IntKind.u32 0, Value.int IntKind.u32 0, Value.int IntKind.u32 0, Value.int IntKind.u32 0]
def Rel1 (w : World) (c : Value) (wr : World) : Prop := ∃ i : Nat, c = .int .i64 i ∧ WIn (Sob.wd 1) w.heap.size pc1 i w wr

theorem word1 : ∀ j, j < 31 → Sob.wd 1 (j + 1) = Sob.wd 1 j ^^^ Sob.wd 1 j / 2 := by decide +kernel

theorem step1 (j : Nat) (hj : j < 31) : bits BinOp.xor IntKind.u32 ((Sob.wd 1 j : Nat) : Int) (((Sob.wd 1 j : Nat) : Int) / 2) = ((Sob.wd 1 (j + 1) : Nat) : Int) := by
  have x : ∀ x : Nat, x < 4294967296 → bits .xor .u32 (x : Int) ((x : Int) / (2 : Int)) = ((x ^^^ x / 2 : Nat) : Int) := fun x hx => xor_step x 2 hx
  rw [word1 j hj, x _ (Sob.wd_lt _ _)]

set_option maxRecDepth 100000 in
set_option maxHeartbeats 1000000 in
theorem words1 (w : World) (h0 : w.cell? ⟨0, 0, none⟩ = some (.int .i64 1)) (h1 : w.cell? ⟨0, 1, none⟩ = some (.int .i64 0)) (h2 : w.cell? ⟨0, 2, none⟩ = some (.int .u32 1)) (h3 : w.cell? ⟨0, 3, none⟩ = some (.int .u32 0)) (h4 : w.cell? ⟨0, 4, none⟩ = some (.int .u32 0)) (h5 : w.cell? ⟨0, 5, none⟩ = some (.int .u32 0)) (h6 : w.cell? ⟨0, 6, none⟩ = some (.int .u32 0)) (hN : 0 < w.heap.size) :
    Calls Tryd.prog 10 #[.int .i64 1] w fun e w' => e = .returned (.tuple #[.agg (rowOf (Sob.wd 1) 32), .int .i64 0]) ∧ Below w.heap.size w w' := by
  go_enter Tryd.func10, Tryd.ntmps10
  go_wp2
  clear h0 h1 h2 h3 h4 h5 h6
  go_loopw [32] (fun c wr => Rel1 w c wr) (fun c _ => 32 - (intOf c).toNat)
  case atStart => exact ⟨0, rfl, WIn.start w _ _⟩
  case round =>
    obtain ⟨i, rfl, hw⟩ := hrel
    have hp0 : ∀ j, wr.cell? ⟨w.heap.size + 1 + 1, j, none⟩ = pc1[j]? := fun j => hw.p.cell j
    have q0 := hp0 0
    have q1 := hp0 1
    have q2 := hp0 2
    simp only [List.getElem?_toArray] at q0 q1 q2
    clear hp0
    have hfz : ∀ j, wr.frozen? ⟨w.heap.size + 1, j, none⟩ = false := fun j => hw.v.frozen j
    by_cases hlt : i < 32
    · by_cases hd : i < 1
      · have hn := hw.next hlt
        have hf := hfz i
        clear hfz
        have H := Lib.hid hw; clear hw
        obtain rfl : i = 0 := by omega
        go_wp2
        go_roundw
        case rel => exact ⟨1, rfl, (H.out.mid hlt _).done rfl⟩
        case measure => simp [intOf]
      · obtain ⟨j, rfl⟩ : ∃ j, i = j + 1 := ⟨i - 1, by omega⟩
        have hn := hw.next hlt
        have c0 := hw.cell (j := j) (by omega)
        have hf := hfz (j + 1)
        clear hfz hd
        have E := Lib.hid (step1 j (by omega))
        have H := Lib.hid hw; clear hw
        generalize Sob.wd 1 j = x0 at *
        go_wp2
        go_region
        go_wp2
        refine wp_loop_rounds 1 ?_
        rw [rounds_succ]
        go_wp2
        go_roundw
        case rel => exact ⟨j + 2, rfl, (((H.out.mid hlt _)).drew).done (congrArg (Value.int IntKind.u32) E.out)⟩
        case measure => simp [intOf]; omega
    · obtain rfl : i = 32 := by have := hw.hi; omega
      have hv := hw.v
      have hr := hw.r
      have H := Lib.hid hw; clear hw hfz q0 q1 q2
      go_wp2_with (first
        | (refine wpList_load_row rfl 24 _ rfl _ rfl _ _ _ _ hv Tryd.underlying24 rfl (info24r _ _) ?_)
        | (refine wpList_store_row rfl 24 _ _ rfl w.heap.size _ rfl rfl _ _ hr (info24r _ _) (size2 _ _ _ _) (rowOf_one _ _) ?_))
      exact bodyPost_ret (res_row _ (hr.setRow _) _ rfl rfl) rfl ⟨rfl, below_setRow H.out.b (Nat.le_refl _) _⟩
end Go.Proofs.YtmgaonkmfdeohaaDoor
