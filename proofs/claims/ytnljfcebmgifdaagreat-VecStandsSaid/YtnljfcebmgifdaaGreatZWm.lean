/- Shaken: Wm. -/
import Derived.Test.YtnljfcebmgifdaaGreatZGa
set_option maxRecDepth 100000
set_option maxHeartbeats 4000000
set_option linter.unusedVariables false
set_option linter.unusedSimpArgs false
namespace Go.Proofs.YtnljfcebmgifdaaGreat
open Go.RowKit Ieee
theorem sum_left0 (na nb : Bool) (ha hb A B : Nat) (ea eb : Int)
   (hZa : ∀ w, Calls Tryz.prog 143 #[exv na ha A ea false] w fun r w' => r = .returned (.bool true) ∧ ∃ o, w' = w.alloc o) (w : World) :
   Calls Tryz.prog 132 #[exv na ha A ea false, exv nb hb B eb false] w fun r w' => r = .returned (exv nb hb B eb false) ∧ Below w.heap.size w w' := by
 have HZa := Lib.hid hZa
 clear hZa
 go_enter Tryz.func132, Tryz.ntmps132
 go_wp2_with fail
 go_cut [26] (fun c wc => c = .bool true ∧ ∃ o1 k, wc = ((((w.alloc (exo na ha A ea false)).alloc (exo nb hb B eb false)).alloc (exo false 0 0 0 false)).alloc o1).drewN k)
 case first =>
   refine wp_region_any (by kernel_rfl) ?_
   (try (change wpAny _ _ _ _ _ _ _ (World.drew _)))
   refine wpAny_ready (rs := [0]) (by kernel_rfl) (by simp) ?_
   refine AllReady.cons rfl (fun K hK => ?_) AllReady.nil
   go_simp
   refine hK _ _ ?_
   clear hK K
   refine wpAny_ready (rs := [1]) (by kernel_rfl) (by simp) ?_
   refine AllReady.cons rfl (fun K hK => ?_) AllReady.nil
   go_simp
   go_at_call 143
   refine (HZa.out _).mono ?_
   rintro r w' ⟨rfl, o, rfl⟩
   dsimp only
   refine hK _ _ ?_
   clear hK K
   refine wpAny_ready (rs := [2]) (by kernel_rfl) (by simp) ?_
   refine AllReady.cons rfl (fun K hK => ?_) AllReady.nil
   go_simp
   refine hK _ _ ?_
   clear hK K
   refine wpAny_take (i := 3) (v := undef) rfl (by kernel_rfl) (by kernel_rfl) (by kernel_rfl) (fun _ _ _ h => h) (Or.inr ⟨by kernel_rfl, by kernel_rfl⟩) ?_
   refine wpAny_take (i := 4) (v := undef) rfl (by kernel_rfl) (by kernel_rfl) (by kernel_rfl) (fun _ _ _ h => h) (Or.inr ⟨by kernel_rfl, by kernel_rfl⟩) ?_
   refine wpAny_take (i := 5) (v := undef) rfl (by kernel_rfl) (by kernel_rfl) (by kernel_rfl) (fun _ _ _ h => h) (Or.inr ⟨by kernel_rfl, by kernel_rfl⟩) ?_
   refine wpAny_take (i := 6) (v := undef) rfl (by kernel_rfl) (by kernel_rfl) (by kernel_rfl) (fun _ _ _ h => h) (Or.inr ⟨by kernel_rfl, by kernel_rfl⟩) ?_
   refine wpAny_take (i := 7) (v := undef) rfl (by kernel_rfl) (by kernel_rfl) (by kernel_rfl) (fun _ _ _ h => h) (Or.inr ⟨by kernel_rfl, by kernel_rfl⟩) ?_
   refine wpAny_take (i := 8) (v := undef) rfl (by kernel_rfl) (by kernel_rfl) (by kernel_rfl) (fun _ _ _ h => h) (Or.inr ⟨by kernel_rfl, by kernel_rfl⟩) ?_
   refine wpAny_take (i := 9) (v := undef) rfl (by kernel_rfl) (by kernel_rfl) (by kernel_rfl) (fun _ _ _ h => h) (Or.inr ⟨by kernel_rfl, by kernel_rfl⟩) ?_
   refine wpAny_take (i := 10) (v := undef) rfl (by kernel_rfl) (by kernel_rfl) (by kernel_rfl) (fun _ _ _ h => h) (Or.inr ⟨by kernel_rfl, by kernel_rfl⟩) ?_
   refine wpAny_take (i := 11) (v := undef) rfl (by kernel_rfl) (by kernel_rfl) (by kernel_rfl) (fun _ _ _ h => h) (Or.inr ⟨by kernel_rfl, by kernel_rfl⟩) ?_
   refine wpAny_take (i := 12) (v := undef) rfl (by kernel_rfl) (by kernel_rfl) (by kernel_rfl) (fun _ _ _ h => h) (Or.inr ⟨by kernel_rfl, by kernel_rfl⟩) ?_
   refine wpAny_take (i := 13) (v := undef) rfl (by kernel_rfl) (by kernel_rfl) (by kernel_rfl) (fun _ _ _ h => h) (Or.inr ⟨by kernel_rfl, by kernel_rfl⟩) ?_
   refine wpAny_take (i := 14) (v := undef) rfl (by kernel_rfl) (by kernel_rfl) (by kernel_rfl) (fun _ _ _ h => h) (Or.inr ⟨by kernel_rfl, by kernel_rfl⟩) ?_
   refine wpAny_take (i := 15) (v := undef) rfl (by kernel_rfl) (by kernel_rfl) (by kernel_rfl) (fun _ _ _ h => h) (Or.inr ⟨by kernel_rfl, by kernel_rfl⟩) ?_
   refine wpAny_take (i := 16) (v := undef) rfl (by kernel_rfl) (by kernel_rfl) (by kernel_rfl) (fun _ _ _ h => h) (Or.inr ⟨by kernel_rfl, by kernel_rfl⟩) ?_
   refine wpAny_take (i := 17) (v := undef) rfl (by kernel_rfl) (by kernel_rfl) (by kernel_rfl) (fun _ _ _ h => h) (Or.inr ⟨by kernel_rfl, by kernel_rfl⟩) ?_
   refine wpAny_take (i := 18) (v := undef) rfl (by kernel_rfl) (by kernel_rfl) (by kernel_rfl) (fun _ _ _ h => h) (Or.inr ⟨by kernel_rfl, by kernel_rfl⟩) ?_
   refine wpAny_ready (rs := [19]) (by kernel_rfl) (by simp) ?_
   refine AllReady.cons rfl (fun K hK => ?_) AllReady.nil
   go_simp
   refine hK _ _ ?_
   clear hK K
   refine wpAny_done (by kernel_rfl) ?_ _
   go_wp2_with fail
   go_meet
   exact ⟨rfl, _, 1, rfl⟩
 case rest =>
   obtain ⟨rfl, o1, k, rfl⟩ := hcut
   go_wp2_with fail
   refine (HZa.out _).mono ?_
   rintro r w' ⟨rfl, o5, rfl⟩
   go_wp2_with fail
   (try simp only [Exit.inBlock, Exit.then])
   refine bodyPost_ret (res53b rfl _ _ (w.heap.size + 1 + 1) (.bool nb) (.int .u64 (hb : Int)) (.int .u64 (B : Int)) (.int .i64 eb) (.bool false) rfl ?hh) rfl ?_
   case hh => exact ((((Blk.new_at _ _ _ (by simp)).alloc _).alloc _).drewN _)
   exact ⟨rfl, (below_drewN (below_more (below_more (below_more (below_more (below_new _ _) _) _) _) _) _)⟩
theorem sum_right0 (na nb : Bool) (ha hb A B : Nat) (ea eb : Int)
   (hZa : ∀ w, Calls Tryz.prog 143 #[exv na ha A ea false] w fun r w' => r = .returned (.bool false) ∧ ∃ o, w' = w.alloc o)
   (hZb : ∀ w, Calls Tryz.prog 143 #[exv nb hb B eb false] w fun r w' => r = .returned (.bool true) ∧ ∃ o, w' = w.alloc o) (w : World) :
   Calls Tryz.prog 132 #[exv na ha A ea false, exv nb hb B eb false] w fun r w' => r = .returned (exv na ha A ea false) ∧ Below w.heap.size w w' := by
 have HZa := Lib.hid hZa
 have HZb := Lib.hid hZb
 clear hZa hZb
 go_enter Tryz.func132, Tryz.ntmps132
 go_wp2_with fail
 go_cut [26] (fun c wc => c = .bool false ∧ ∃ o1 o2 k, wc = (((((w.alloc (exo na ha A ea false)).alloc (exo nb hb B eb false)).alloc (exo false 0 0 0 false)).alloc o1).alloc o2).drewN k)
 case first =>
   refine wp_region_any (by kernel_rfl) ?_
   (try (change wpAny _ _ _ _ _ _ _ (World.drew _)))
   refine wpAny_ready (rs := [0]) (by kernel_rfl) (by simp) ?_
   refine AllReady.cons rfl (fun K hK => ?_) AllReady.nil
   go_simp
   refine hK _ _ ?_
   clear hK K
   refine wpAny_ready (rs := [1]) (by kernel_rfl) (by simp) ?_
   refine AllReady.cons rfl (fun K hK => ?_) AllReady.nil
   go_simp
   go_at_call 143
   refine (HZa.out _).mono ?_
   rintro r w' ⟨rfl, o, rfl⟩
   dsimp only
   refine hK _ _ ?_
   clear hK K
   refine wpAny_ready (rs := [2]) (by kernel_rfl) (by simp) ?_
   refine AllReady.cons rfl (fun K hK => ?_) AllReady.nil
   go_simp
   refine hK _ _ ?_
   clear hK K
   refine wpAny_ready (rs := [3]) (by kernel_rfl) (by simp) ?_
   refine AllReady.cons rfl (fun K hK => ?_) AllReady.nil
   go_simp
   refine hK _ _ ?_
   clear hK K
   refine wpAny_ready (rs := [4]) (by kernel_rfl) (by simp) ?_
   refine AllReady.cons rfl (fun K hK => ?_) AllReady.nil
   go_simp
   go_at_call 143
   refine (HZb.out _).mono ?_
   rintro r w' ⟨rfl, o, rfl⟩
   dsimp only
   refine hK _ _ ?_
   clear hK K
   refine wpAny_ready (rs := [5]) (by kernel_rfl) (by simp) ?_
   refine AllReady.cons rfl (fun K hK => ?_) AllReady.nil
   go_simp
   refine hK _ _ ?_
   clear hK K
   refine wpAny_ready (rs := [6]) (by kernel_rfl) (by simp) ?_
   refine AllReady.cons rfl (fun K hK => ?_) AllReady.nil
   go_simp
   refine hK _ _ ?_
   clear hK K
   refine wpAny_take (i := 7) (v := undef) rfl (by kernel_rfl) (by kernel_rfl) (by kernel_rfl) (fun _ _ _ h => h) (Or.inr ⟨by kernel_rfl, by kernel_rfl⟩) ?_
   refine wpAny_take (i := 8) (v := undef) rfl (by kernel_rfl) (by kernel_rfl) (by kernel_rfl) (fun _ _ _ h => h) (Or.inr ⟨by kernel_rfl, by kernel_rfl⟩) ?_
   refine wpAny_take (i := 9) (v := undef) rfl (by kernel_rfl) (by kernel_rfl) (by kernel_rfl) (fun _ _ _ h => h) (Or.inr ⟨by kernel_rfl, by kernel_rfl⟩) ?_
   refine wpAny_take (i := 10) (v := undef) rfl (by kernel_rfl) (by kernel_rfl) (by kernel_rfl) (fun _ _ _ h => h) (Or.inr ⟨by kernel_rfl, by kernel_rfl⟩) ?_
   refine wpAny_take (i := 11) (v := undef) rfl (by kernel_rfl) (by kernel_rfl) (by kernel_rfl) (fun _ _ _ h => h) (Or.inr ⟨by kernel_rfl, by kernel_rfl⟩) ?_
   refine wpAny_take (i := 12) (v := undef) rfl (by kernel_rfl) (by kernel_rfl) (by kernel_rfl) (fun _ _ _ h => h) (Or.inr ⟨by kernel_rfl, by kernel_rfl⟩) ?_
   refine wpAny_take (i := 13) (v := undef) rfl (by kernel_rfl) (by kernel_rfl) (by kernel_rfl) (fun _ _ _ h => h) (Or.inr ⟨by kernel_rfl, by kernel_rfl⟩) ?_
   refine wpAny_take (i := 14) (v := undef) rfl (by kernel_rfl) (by kernel_rfl) (by kernel_rfl) (fun _ _ _ h => h) (Or.inr ⟨by kernel_rfl, by kernel_rfl⟩) ?_
   refine wpAny_take (i := 15) (v := undef) rfl (by kernel_rfl) (by kernel_rfl) (by kernel_rfl) (fun _ _ _ h => h) (Or.inr ⟨by kernel_rfl, by kernel_rfl⟩) ?_
   refine wpAny_take (i := 16) (v := undef) rfl (by kernel_rfl) (by kernel_rfl) (by kernel_rfl) (fun _ _ _ h => h) (Or.inr ⟨by kernel_rfl, by kernel_rfl⟩) ?_
   refine wpAny_take (i := 17) (v := undef) rfl (by kernel_rfl) (by kernel_rfl) (by kernel_rfl) (fun _ _ _ h => h) (Or.inr ⟨by kernel_rfl, by kernel_rfl⟩) ?_
   refine wpAny_ready (rs := [18]) (by kernel_rfl) (by simp) ?_
   refine AllReady.cons rfl (fun K hK => ?_) AllReady.nil
   go_simp
   refine hK _ _ ?_
   clear hK K
   refine wpAny_ready (rs := [19]) (by kernel_rfl) (by simp) ?_
   refine AllReady.cons rfl (fun K hK => ?_) AllReady.nil
   go_simp
   refine hK _ _ ?_
   clear hK K
   refine wpAny_done (by kernel_rfl) ?_ _
   go_wp2_with fail
   go_meet
   exact ⟨rfl, _, _, 1, rfl⟩
 case rest =>
   obtain ⟨rfl, o1, o2, k, rfl⟩ := hcut
   go_wp2_with fail
   refine (HZb.out _).mono ?_
   rintro r w' ⟨rfl, o5, rfl⟩
   go_wp2_with fail
   (try simp only [Exit.inBlock, Exit.then])
   refine bodyPost_ret (res53b rfl _ _ (w.heap.size + 1 + 1) (.bool na) (.int .u64 (ha : Int)) (.int .u64 (A : Int)) (.int .i64 ea) (.bool false) rfl ?hh) rfl ?_
   case hh => exact (((((Blk.new_at _ _ _ (by simp)).alloc _).alloc _).alloc _).drewN _)
   exact ⟨rfl, (below_drewN (below_more (below_more (below_more (below_more (below_more (below_new _ _) _) _) _) _) _) _)⟩
end Go.Proofs.YtnljfcebmgifdaaGreat
