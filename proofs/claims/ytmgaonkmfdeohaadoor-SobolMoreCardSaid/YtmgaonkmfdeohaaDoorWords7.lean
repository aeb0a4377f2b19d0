/- The walk of sobol.Words at the dimension 7. -/
import Derived.Test.YtmgaonkmfdeohaaDoorRow
import Derived.RegionTactic
import Derived.LoopTactic
namespace Go.Proofs.YtmgaonkmfdeohaaDoor
open Go.RowKit

abbrev pc7 : Array Value := #[Value.int IntKind.i64 5, Value.int IntKind.i64 2, Value.int IntKind.u32 1, Value.int IntKind.u32 1, Value.int IntKind.u32 5, Value.int IntKind.u32 5, Value.int IntKind.u32 17]
def Rel7 (w : World) (c : Value) (wr : World) : Prop := ∃ i : Nat, c = .int .i64 i ∧ WIn (Sob.wd 7) w.heap.size pc7 i w wr

theorem word7 : ∀ j, j < 27 → Sob.wd 7 (j + 5) = (Sob.wd 7 j ^^^ Sob.wd 7 j / 32) ^^^ Sob.wd 7 (j + 2) := by decide +kernel

theorem step7 (j : Nat) (hj : j < 27) : bits BinOp.xor IntKind.u32 (bits BinOp.xor IntKind.u32 ((Sob.wd 7 j : Nat) : Int) (((Sob.wd 7 j : Nat) : Int) / 32)) ((Sob.wd 7 (j + 2) : Nat) : Int) = ((Sob.wd 7 (j + 5) : Nat) : Int) := by
  have x : ∀ x : Nat, x < 4294967296 → bits .xor .u32 (x : Int) ((x : Int) / (32 : Int)) = ((x ^^^ x / 32 : Nat) : Int) := fun x hx => xor_step x 32 hx
  rw [word7 j hj, x _ (Sob.wd_lt _ _)]
  rw [u32_xor_nat _ _ (Nat.xor_lt_two_pow (n := 32) (Sob.wd_lt _ _) (Nat.lt_of_le_of_lt (Nat.div_le_self _ _) (Sob.wd_lt _ _))) (Sob.wd_lt _ _)]

set_option maxRecDepth 100000 in
set_option maxHeartbeats 1000000 in
theorem words7 (w : World) (h0 : w.cell? ⟨0, 42, none⟩ = some (.int .i64 5)) (h1 : w.cell? ⟨0, 43, none⟩ = some (.int .i64 2)) (h2 : w.cell? ⟨0, 44, none⟩ = some (.int .u32 1)) (h3 : w.cell? ⟨0, 45, none⟩ = some (.int .u32 1)) (h4 : w.cell? ⟨0, 46, none⟩ = some (.int .u32 5)) (h5 : w.cell? ⟨0, 47, none⟩ = some (.int .u32 5)) (h6 : w.cell? ⟨0, 48, none⟩ = some (.int .u32 17)) (hN : 0 < w.heap.size) :
    Calls Tryd.prog 10 #[.int .i64 7] w fun e w' => e = .returned (.tuple #[.agg (rowOf (Sob.wd 7) 32), .int .i64 0]) ∧ Below w.heap.size w w' := by
  go_enter Tryd.func10, Tryd.ntmps10
  go_wp2
  clear h0 h1 h2 h3 h4 h5 h6
  go_loopw [32] (fun c wr => Rel7 w c wr) (fun c _ => 32 - (intOf c).toNat)
  case atStart => exact ⟨0, rfl, WIn.start w _ _⟩
  case round =>
    obtain ⟨i, rfl, hw⟩ := hrel
    have hp0 : ∀ j, wr.cell? ⟨w.heap.size + 1 + 1, j, none⟩ = pc7[j]? := fun j => hw.p.cell j
    have q0 := hp0 0
    have q1 := hp0 1
    have q2 := hp0 2
    have q3 := hp0 3
    have q4 := hp0 4
    have q5 := hp0 5
    have q6 := hp0 6
    simp only [List.getElem?_toArray] at q0 q1 q2 q3 q4 q5 q6
    clear hp0
    have hfz : ∀ j, wr.frozen? ⟨w.heap.size + 1, j, none⟩ = false := fun j => hw.v.frozen j
    by_cases hlt : i < 32
    · by_cases hd : i < 5
      · have hn := hw.next hlt
        have hf := hfz i
        clear hfz
        have H := Lib.hid hw; clear hw
        obtain rfl | rfl | rfl | rfl | rfl : i = 0 ∨ i = 1 ∨ i = 2 ∨ i = 3 ∨ i = 4 := by omega
        · go_wp2
          go_roundw
          case rel => exact ⟨1, rfl, (H.out.mid hlt _).done rfl⟩
          case measure => simp [intOf]
        · go_wp2
          go_roundw
          case rel => exact ⟨2, rfl, (H.out.mid hlt _).done rfl⟩
          case measure => simp [intOf]
        · go_wp2
          go_roundw
          case rel => exact ⟨3, rfl, (H.out.mid hlt _).done rfl⟩
          case measure => simp [intOf]
        · go_wp2
          go_roundw
          case rel => exact ⟨4, rfl, (H.out.mid hlt _).done rfl⟩
          case measure => simp [intOf]
        · go_wp2
          go_roundw
          case rel => exact ⟨5, rfl, (H.out.mid hlt _).done rfl⟩
          case measure => simp [intOf]
      · obtain ⟨j, rfl⟩ : ∃ j, i = j + 5 := ⟨i - 5, by omega⟩
        have hn := hw.next hlt
        have c0 := hw.cell (j := j) (by omega)
        have c2 := hw.cell (j := (j + 2)) (by omega)
        have hf := hfz (j + 5)
        clear hfz hd
        have E := Lib.hid (step7 j (by omega))
        have H := Lib.hid hw; clear hw
        generalize Sob.wd 7 j = x0 at *
        generalize Sob.wd 7 (j + 2) = x2 at *
        go_wp2
        go_region
        go_wp2
        refine wp_loop_rounds 5 ?_
        rw [rounds_succ]
        go_wp2
        rw [rounds_succ]
        go_wp2
        rw [rounds_succ]
        go_wp2
        go_region
        go_wp2
        rw [rounds_succ]
        go_wp2
        rw [rounds_succ]
        go_wp2
        go_roundw
        case rel => exact ⟨j + 6, rfl, (((H.out.mid hlt _).set _).drew.drew).done (congrArg (Value.int IntKind.u32) E.out)⟩
        case measure => simp [intOf]; omega
    · obtain rfl : i = 32 := by have := hw.hi; omega
      have hv := hw.v
      have hr := hw.r
      have H := Lib.hid hw; clear hw hfz q0 q1 q2 q3 q4 q5 q6
      go_wp2_with (first
        | (refine wpList_load_row rfl 24 _ rfl _ rfl _ _ _ _ hv Tryd.underlying24 rfl (info24r _ _) ?_)
        | (refine wpList_store_row rfl 24 _ _ rfl w.heap.size _ rfl rfl _ _ hr (info24r _ _) (size2 _ _ _ _) (rowOf_one _ _) ?_))
      exact bodyPost_ret (res_row _ (hr.setRow _) _ rfl rfl) rfl ⟨rfl, below_setRow H.out.b (Nat.le_refl _) _⟩
end Go.Proofs.YtmgaonkmfdeohaaDoor
