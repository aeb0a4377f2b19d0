/- The walk of lanternref05.Words at the dimension 6. -/
import Derived.Test.YtmgaonkmfdeohaaDoorRRow
import Derived.Test.YtmgaonkmfdeohaaDoorWords6
import Derived.RegionTactic
import Derived.LoopTactic
namespace Go.Proofs.YtmgaonkmfdeohaaDoor
open Go.RowKit

abbrev mc6 : Array Value := #[Value.int IntKind.u32 1, Value.int IntKind.u32 3, Value.int IntKind.u32 5, Value.int IntKind.u32 13]
def RRel6 (w : World) (c : Value) (wr : World) : Prop := ∃ i : Nat, c = .int .i64 i ∧ RIn (Sob.wd 6) w.heap.size mc6 i w wr

set_option maxHeartbeats 400000 in
theorem first6 (w : World) : Calls Tryd.prog 23 #[.int .i64 6] w fun e w' => e = .returned (.tuple #[.int .i64 4, .int .i64 4, .slice (some ⟨w.heap.size, 0, none⟩) 4 4]) ∧ w.alloc (.cells mc6 22) = w' := by
  go_enter Tryd.func23, Tryd.ntmps23
  go_wp2
  go_ret3
  exact ⟨rfl, rfl⟩

set_option maxRecDepth 100000 in
set_option maxHeartbeats 1000000 in
theorem rwords6 (w : World) :
    Calls Tryd.prog 11 #[.int .i64 6] w fun e w' => e = .returned (.tuple #[.agg (rowOf (Sob.wd 6) 32), .int .i64 0]) ∧ Below w.heap.size w w' := by
  have hbu := rbuild
  go_enter Tryd.func11, Tryd.ntmps11
  go_wp2_with (refine wpList_store_row rfl 24 _ _ rfl (w.heap.size + 1) _ rfl rfl _ _ (rnew w) info24z rfl zeros_one ?_)
  rw [rset]
  go_loopw [5] (fun c wr => RRel0 w c wr) (fun c _ => 32 - (intOf c).toNat)
  case atStart => exact ⟨0, rfl, LIn.start w _⟩
  case round =>
    obtain ⟨i, rfl, hw⟩ := hrel
    by_cases hlt : i < 32
    · have hn := hw.next hlt
      have hf := hw.v.frozen i
      have H := Lib.hid hw; clear hw
      go_wp2
      go_roundw
      case rel => exact ⟨i + 1, rfl, H.out.step hlt _ (congrArg (Value.int IntKind.u32) (pow_int i))⟩
      case measure => simp [intOf]; omega
    · obtain rfl : i = 32 := by have := hw.hi; omega
      have hs := hw.s
      have H := Lib.hid hw; clear hw
      obtain ⟨w1, hw1⟩ : ∃ w1, w1 = wr := ⟨_, rfl⟩
      subst hw1
      go_wp2_with (go_at_call 23; refine (first6 _).mono ?_; rintro e w' ⟨rfl, rfl⟩)
      have hst : RIn (Sob.wd 6) w.heap.size mc6 0 w (w1.alloc (.cells mc6 22)) := RIn.start H.out _ _
      have Hs := Lib.hid hst
      clear hst
      clear hs
      go_loopw [9] (fun c wr => RRel6 w c wr) (fun c _ => 32 - (intOf c).toNat)
      case atStart => exact ⟨0, rfl, Hs.out⟩
      case round =>
        clear Hs H
        obtain ⟨i, rfl, hw⟩ := hrel
        have hp0 : ∀ j, wr.cell? ⟨w.heap.size + 2, j, none⟩ = mc6[j]? := fun j => hw.m.cell j
        have q0 := hp0 0
        have q1 := hp0 1
        have q2 := hp0 2
        have q3 := hp0 3
        simp only [List.getElem?_toArray] at q0 q1 q2 q3
        clear hp0
        have hfz : ∀ j, wr.frozen? ⟨w.heap.size + 1, j, none⟩ = false := fun j => hw.v.frozen j
        by_cases hlt : i < 32
        · by_cases hd : i < 4
          · have hn := hw.next hlt
            have hf := hfz i
            clear hfz
            have H := Lib.hid hw; clear hw
            obtain rfl | rfl | rfl | rfl : i = 0 ∨ i = 1 ∨ i = 2 ∨ i = 3 := by omega
            · go_wp2
              go_roundw
              case rel => exact ⟨1, rfl, H.out.step hlt _ rfl⟩
              case measure => simp [intOf]
            · go_wp2
              go_roundw
              case rel => exact ⟨2, rfl, H.out.step hlt _ rfl⟩
              case measure => simp [intOf]
            · go_wp2
              go_roundw
              case rel => exact ⟨3, rfl, H.out.step hlt _ rfl⟩
              case measure => simp [intOf]
            · go_wp2
              go_roundw
              case rel => exact ⟨4, rfl, H.out.step hlt _ rfl⟩
              case measure => simp [intOf]
          · obtain ⟨j, rfl⟩ : ∃ j, i = j + 4 := ⟨i - 4, by omega⟩
            have hn := hw.next hlt
            have c0 := hw.cell (j := j) (by omega)
            have c3 := hw.cell (j := (j + 3)) (by omega)
            have hf := hfz (j + 4)
            clear hfz hd
            have E := Lib.hid (step6 j (by omega))
            have H := Lib.hid hw; clear hw
            have hpn := pow_gen (j + 4)
            obtain ⟨pw, hpw⟩ := hpn
            rw [hpw] at hn
            clear hpw
            generalize Sob.wd 6 j = x0 at *
            generalize Sob.wd 6 (j + 3) = x3 at *
            go_wp2
            go_region
            go_wp2
            refine wp_loop_rounds 4 ?_
            rw [rounds_succ]
            go_wp2
            rw [rounds_succ]
            go_wp2
            rw [rounds_succ]
            go_wp2
            rw [rounds_succ]
            go_wp2
            go_roundw
            case rel => exact ⟨j + 5, rfl, (H.out.drew.step hlt _ (congrArg (Value.int IntKind.u32) E.out))⟩
            case measure => simp [intOf]; omega
        · obtain rfl : i = 32 := by have := hw.hi; omega
          have hv := hw.full
          have hr := hw.r
          have H := Lib.hid hw; clear hw hfz q0 q1 q2 q3
          go_wp2_with (first
            | (refine wpList_load_row rfl 24 _ rfl _ rfl _ _ _ _ hv Tryd.underlying24 rfl (info24r _ _) ?_)
            | (refine wpList_store_row rfl 24 _ _ rfl w.heap.size _ rfl rfl _ _ hr (info24r _ _) (size2 _ _ _ _) (rowOf_one _ _) ?_))
          exact bodyPost_ret (rres_row _ (hr.setRow _) _ rfl rfl) rfl ⟨rfl, below_setRow H.out.b (Nat.le_refl _) _⟩
end Go.Proofs.YtmgaonkmfdeohaaDoor
