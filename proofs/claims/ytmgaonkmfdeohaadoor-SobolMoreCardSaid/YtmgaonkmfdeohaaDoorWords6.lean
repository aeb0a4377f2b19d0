/- The walk of sobol.Words at the dimension 6. -/
import Derived.Test.YtmgaonkmfdeohaaDoorRow
import Derived.RegionTactic
import Derived.LoopTactic
namespace Go.Proofs.YtmgaonkmfdeohaaDoor
open Go.RowKit

abbrev pc6 : Array Value := #[Value.int IntKind.i64 4, Value.int IntKind.i64 4, Value.int IntKind.u32 1, Value.int IntKind.u32 3, Value.int IntKind.u32 5, Value.int IntKind.u32 13, Value.int IntKind.u32 0]
def Rel6 (w : World) (c : Value) (wr : World) : Prop := ∃ i : Nat, c = .int .i64 i ∧ WIn (Sob.wd 6) w.heap.size pc6 i w wr

theorem word6 : ∀ j, j < 28 → Sob.wd 6 (j + 4) = (Sob.wd 6 j ^^^ Sob.wd 6 j / 16) ^^^ Sob.wd 6 (j + 3) := by decide +kernel

theorem step6 (j : Nat) (hj : j < 28) : bits BinOp.xor IntKind.u32 (bits BinOp.xor IntKind.u32 ((Sob.wd 6 j : Nat) : Int) (((Sob.wd 6 j : Nat) : Int) / 16)) ((Sob.wd 6 (j + 3) : Nat) : Int) = ((Sob.wd 6 (j + 4) : Nat) : Int) := by
  have x : ∀ x : Nat, x < 4294967296 → bits .xor .u32 (x : Int) ((x : Int) / (16 : Int)) = ((x ^^^ x / 16 : Nat) : Int) := fun x hx => xor_step x 16 hx
  rw [word6 j hj, x _ (Sob.wd_lt _ _)]
  rw [u32_xor_nat _ _ (Nat.xor_lt_two_pow (n := 32) (Sob.wd_lt _ _) (Nat.lt_of_le_of_lt (Nat.div_le_self _ _) (Sob.wd_lt _ _))) (Sob.wd_lt _ _)]

set_option maxRecDepth 100000 in
set_option maxHeartbeats 1000000 in
theorem words6 (w : World) (h0 : w.cell? ⟨0, 35, none⟩ = some (.int .i64 4)) (h1 : w.cell? ⟨0, 36, none⟩ = some (.int .i64 4)) (h2 : w.cell? ⟨0, 37, none⟩ = some (.int .u32 1)) (h3 : w.cell? ⟨0, 38, none⟩ = some (.int .u32 3)) (h4 : w.cell? ⟨0, 39, none⟩ = some (.int .u32 5)) (h5 : w.cell? ⟨0, 40, none⟩ = some (.int .u32 13)) (h6 : w.cell? ⟨0, 41, none⟩ = some (.int .u32 0)) (hN : 0 < w.heap.size) :
    Calls Tryd.prog 10 #[.int .i64 6] w fun e w' => e = .returned (.tuple #[.agg (rowOf (Sob.wd 6) 32), .int .i64 0]) ∧ Below w.heap.size w w' := by
  go_enter Tryd.func10, Tryd.ntmps10
  go_wp2
  clear h0 h1 h2 h3 h4 h5 h6
  go_loopw [32] (fun c wr => Rel6 w c wr) (fun c _ => 32 - (intOf c).toNat)
  case atStart => exact ⟨0, rfl, WIn.start w _ _⟩
  case round =>
    obtain ⟨i, rfl, hw⟩ := hrel
    have hp0 : ∀ j, wr.cell? ⟨w.heap.size + 1 + 1, j, none⟩ = pc6[j]? := fun j => hw.p.cell j
    have q0 := hp0 0
    have q1 := hp0 1
    have q2 := hp0 2
    have q3 := hp0 3
    have q4 := hp0 4
    have q5 := hp0 5
    simp only [List.getElem?_toArray] at q0 q1 q2 q3 q4 q5
    clear hp0
    have hfz : ∀ j, wr.frozen? ⟨w.heap.size + 1, j, none⟩ = false := fun j => hw.v.frozen j
    by_cases hlt : i < 32
    · by_cases hd : i < 4
      · have hn := hw.next hlt
        have hf := hfz i
        clear hfz
        have H := Lib.hid hw; clear hw
        obtain rfl | rfl | rfl | rfl : i = 0 ∨ i = 1 ∨ i = 2 ∨ i = 3 := by omega
        · go_wp2
          go_roundw
          case rel => exact ⟨1, rfl, (H.out.mid hlt _).done rfl⟩
          case measure => simp [intOf]
        · go_wp2
          go_roundw
          case rel => exact ⟨2, rfl, (H.out.mid hlt _).done rfl⟩
          case measure => simp [intOf]
        · go_wp2
          go_roundw
          case rel => exact ⟨3, rfl, (H.out.mid hlt _).done rfl⟩
          case measure => simp [intOf]
        · go_wp2
          go_roundw
          case rel => exact ⟨4, rfl, (H.out.mid hlt _).done rfl⟩
          case measure => simp [intOf]
      · obtain ⟨j, rfl⟩ : ∃ j, i = j + 4 := ⟨i - 4, by omega⟩
        have hn := hw.next hlt
        have c0 := hw.cell (j := j) (by omega)
        have c3 := hw.cell (j := (j + 3)) (by omega)
        have hf := hfz (j + 4)
        clear hfz hd
        have E := Lib.hid (step6 j (by omega))
        have H := Lib.hid hw; clear hw
        generalize Sob.wd 6 j = x0 at *
        generalize Sob.wd 6 (j + 3) = x3 at *
        go_wp2
        go_region
        go_wp2
        refine wp_loop_rounds 4 ?_
        rw [rounds_succ]
        go_wp2
        go_region
        go_wp2
        rw [rounds_succ]
        go_wp2
        rw [rounds_succ]
        go_wp2
        rw [rounds_succ]
        go_wp2
        go_roundw
        case rel => exact ⟨j + 5, rfl, (((H.out.mid hlt _).set _).drew.drew).done (congrArg (Value.int IntKind.u32) E.out)⟩
        case measure => simp [intOf]; omega
    · obtain rfl : i = 32 := by have := hw.hi; omega
      have hv := hw.v
      have hr := hw.r
      have H := Lib.hid hw; clear hw hfz q0 q1 q2 q3 q4 q5
      go_wp2_with (first
        | (refine wpList_load_row rfl 24 _ rfl _ rfl _ _ _ _ hv Tryd.underlying24 rfl (info24r _ _) ?_)
        | (refine wpList_store_row rfl 24 _ _ rfl w.heap.size _ rfl rfl _ _ hr (info24r _ _) (size2 _ _ _ _) (rowOf_one _ _) ?_))
      exact bodyPost_ret (res_row _ (hr.setRow _) _ rfl rfl) rfl ⟨rfl, below_setRow H.out.b (Nat.le_refl _) _⟩
end Go.Proofs.YtmgaonkmfdeohaaDoor
