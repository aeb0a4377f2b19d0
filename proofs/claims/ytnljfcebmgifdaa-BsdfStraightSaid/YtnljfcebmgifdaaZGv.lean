/- Shaken: Gv. -/
import Derived.Test.YtnljfcebmgifdaaZGb
set_option maxRecDepth 100000
set_option maxHeartbeats 4000000
set_option linter.unusedVariables false
set_option linter.unusedSimpArgs false
namespace Go.Proofs.Ytnljfcebmgifdaa
open Go.RowKit Ieee
theorem near_f_Z (hi lo : Nat) (e : Int) (more : Bool) (grow : Bool) (he : -100000 ≤ e) (he2 : e ≤ 100000) (L0 : Nat) (hL0 : L0 ≤ 128) (HL0 : ∀ w, Calls Try.prog 144 #[wdv hi lo e more] w fun r w' => r = .returned (.int .i64 (L0 : Int)) ∧ ∃ o, w' = w.alloc o)
   (m0 : Nat) (hm0 : m0 < 9007199254740992) (e' : Int) (he' : -1074 ≤ e') (he'2 : e' ≤ 100000) (HD : ∀ (x : Int), ((L0 : Int) - 53 ≤ x ∧ -1074 - e ≤ x ∧ (x = (L0 : Int) - 53 ∨ x = -1074 - e)) → ∀ w, Calls Try.prog 148 #[wdv hi lo e more, .int .i64 x] w fun r w' => r = .returned (wdv 0 m0 e' false) ∧ ∃ k o o', w' = ((w.alloc o).alloc o').drewN k)
   (hz : ((m0 : Int) == 0) = true) (w : World) :
   Calls Try.prog 161 #[wdv hi lo e more, .bool grow] w fun r w' => r = .returned (.float .f64 0) ∧ Below w.heap.size w w' := by
 have HL0 := Lib.hid HL0
 have HD := Lib.hid HD
 go_enter Try.func161, Try.ntmps161
 go_wp2_with fail
 refine (HL0.out _).mono ?_
 rintro r w' ⟨rfl, o1, rfl⟩
 go_wp2_with fail
 all_goals
   refine (HD.out _ (by omega) _).mono ?_
   rintro r w' ⟨rfl, k, o2, o3, rfl⟩
   go_wp2_with fail
   go_ret
   exact ⟨rfl, below_drewN (below_more (below_more (below_more (below_new _ _) _) _) _) _⟩
theorem near_tf_Z (hi lo : Nat) (e : Int) (more : Bool) (he : -100000 ≤ e) (he2 : e ≤ 100000) (L0 : Nat) (hL0 : L0 ≤ 128) (HL0 : ∀ w, Calls Try.prog 144 #[wdv hi lo e more] w fun r w' => r = .returned (.int .i64 (L0 : Int)) ∧ ∃ o, w' = w.alloc o)
   (m0 : Nat) (hm0 : m0 < 9007199254740992) (e' : Int) (he' : -1074 ≤ e') (he'2 : e' ≤ 100000) (HD : ∀ (x : Int), ((L0 : Int) - 53 ≤ x ∧ -1074 - e ≤ x ∧ (x = (L0 : Int) - 53 ∨ x = -1074 - e)) → ∀ w, Calls Try.prog 148 #[wdv hi lo e more, .int .i64 x] w fun r w' => r = .returned (wdv 0 m0 e' true) ∧ ∃ k o o', w' = ((w.alloc o).alloc o').drewN k)
   (hz : ((m0 : Int) == 0) = true) (w : World) :
   Calls Try.prog 161 #[wdv hi lo e more, .bool false] w fun r w' => r = .returned (.float .f64 0) ∧ Below w.heap.size w w' := by
 have HL0 := Lib.hid HL0
 have HD := Lib.hid HD
 go_enter Try.func161, Try.ntmps161
 go_wp2_with fail
 refine (HL0.out _).mono ?_
 rintro r w' ⟨rfl, o1, rfl⟩
 go_wp2_with fail
 all_goals
   refine (HD.out _ (by omega) _).mono ?_
   rintro r w' ⟨rfl, k, o2, o3, rfl⟩
   go_wp2_with fail
   go_ret
   exact ⟨rfl, below_drewN (below_more (below_more (below_more (below_new _ _) _) _) _) _⟩
theorem near_f_F (hi lo : Nat) (e : Int) (more : Bool) (grow : Bool) (he : -100000 ≤ e) (he2 : e ≤ 100000) (L0 : Nat) (hL0 : L0 ≤ 128) (HL0 : ∀ w, Calls Try.prog 144 #[wdv hi lo e more] w fun r w' => r = .returned (.int .i64 (L0 : Int)) ∧ ∃ o, w' = w.alloc o)
   (m0 : Nat) (hm0 : m0 < 9007199254740992) (e' : Int) (he' : -1074 ≤ e') (he'2 : e' ≤ 100000) (HD : ∀ (x : Int), ((L0 : Int) - 53 ≤ x ∧ -1074 - e ≤ x ∧ (x = (L0 : Int) - 53 ∨ x = -1074 - e)) → ∀ w, Calls Try.prog 148 #[wdv hi lo e more, .int .i64 x] w fun r w' => r = .returned (wdv 0 m0 e' false) ∧ ∃ k o o', w' = ((w.alloc o).alloc o').drewN k)
   (hz : ((m0 : Int) == 0) = false) (L1 : Nat) (hL1 : L1 ≤ 128) (HL1 : ∀ w, Calls Try.prog 144 #[.agg #[.int .u64 0, .int .u64 (m0 : Int), .int .i64 0, .bool false]] w fun r w' => r = .returned (.int .i64 (L1 : Int)) ∧ ∃ o, w' = w.alloc o) (ht : (L1 : Int) - 1 + e' ≤ 1023) (he971 : e' ≤ 971) (p x : Nat) (HP : ∀ w, Calls Try.prog 165 #[.int .i64 e'] w fun r w' => r = .returned (.float .f64 p) ∧ w = w') (hm : floatBits .mul .f64 (floatOfInt .f64 (m0 : Int)) p = some x) (w : World) :
   Calls Try.prog 161 #[wdv hi lo e more, .bool grow] w fun r w' => r = .returned (.float .f64 x) ∧ Below w.heap.size w w' := by
 have HL0 := Lib.hid HL0
 have HD := Lib.hid HD
 have HL1 := Lib.hid HL1
 have hr := fun (t : TypeId) (w : World) => run_float_arith (P := Try.prog) w .mul t .f64 _ _ _ hm
 clear hm
 have HP := Lib.hid HP
 go_enter Try.func161, Try.ntmps161
 go_wp2_with fail
 refine (HL0.out _).mono ?_
 rintro r w' ⟨rfl, o1, rfl⟩
 go_wp2_with fail
 all_goals
   refine (HD.out _ (by omega) _).mono ?_
   rintro r w' ⟨rfl, k, o2, o3, rfl⟩
   go_wp2_with fail
   go_cut [7] (fun c wc => c = .int .i64 ((L1 : Int) - 1 + e') ∧ ∃ o4 k, wc = (((((w.alloc (wdo 0 m0 e' false)).alloc o1).alloc o2).alloc o3).alloc o4).drewN k)
   case first =>
     go_region_with (go_at_call 144; refine (HL1.out _).mono ?_; rintro r w' ⟨rfl, o, rfl⟩)
     all_goals (go_wp2_with fail; go_meet; refine ⟨congrArg _ ?_, _, _, rfl⟩; simp only [IntKind.wrap_i64]; omega)
   case rest =>
     obtain ⟨rfl, o4, k4, rfl⟩ := hcut
     go_wp2_with fail
     refine (HP.out _).mono ?_
     rintro r w' ⟨rfl, rfl⟩
     go_wp2_with fail
     go_ret
     exact ⟨rfl, below_drewN (below_more (below_more (below_more (below_more (below_new _ _) _) _) _) _) _⟩
end Go.Proofs.Ytnljfcebmgifdaa
namespace Go.Proofs.Ytnljfcebmgifdaa
open Go.RowKit Ieee
theorem near_tf_F (hi lo : Nat) (e : Int) (more : Bool) (he : -100000 ≤ e) (he2 : e ≤ 100000) (L0 : Nat) (hL0 : L0 ≤ 128) (HL0 : ∀ w, Calls Try.prog 144 #[wdv hi lo e more] w fun r w' => r = .returned (.int .i64 (L0 : Int)) ∧ ∃ o, w' = w.alloc o)
   (m0 : Nat) (hm0 : m0 < 9007199254740992) (e' : Int) (he' : -1074 ≤ e') (he'2 : e' ≤ 100000) (HD : ∀ (x : Int), ((L0 : Int) - 53 ≤ x ∧ -1074 - e ≤ x ∧ (x = (L0 : Int) - 53 ∨ x = -1074 - e)) → ∀ w, Calls Try.prog 148 #[wdv hi lo e more, .int .i64 x] w fun r w' => r = .returned (wdv 0 m0 e' true) ∧ ∃ k o o', w' = ((w.alloc o).alloc o').drewN k)
   (hz : ((m0 : Int) == 0) = false) (L1 : Nat) (hL1 : L1 ≤ 128) (HL1 : ∀ w, Calls Try.prog 144 #[.agg #[.int .u64 0, .int .u64 (m0 : Int), .int .i64 0, .bool false]] w fun r w' => r = .returned (.int .i64 (L1 : Int)) ∧ ∃ o, w' = w.alloc o) (ht : (L1 : Int) - 1 + e' ≤ 1023) (he971 : e' ≤ 971) (p x : Nat) (HP : ∀ w, Calls Try.prog 165 #[.int .i64 e'] w fun r w' => r = .returned (.float .f64 p) ∧ w = w') (hm : floatBits .mul .f64 (floatOfInt .f64 (m0 : Int)) p = some x) (w : World) :
   Calls Try.prog 161 #[wdv hi lo e more, .bool false] w fun r w' => r = .returned (.float .f64 x) ∧ Below w.heap.size w w' := by
 have HL0 := Lib.hid HL0
 have HD := Lib.hid HD
 have HL1 := Lib.hid HL1
 have hr := fun (t : TypeId) (w : World) => run_float_arith (P := Try.prog) w .mul t .f64 _ _ _ hm
 clear hm
 have HP := Lib.hid HP
 go_enter Try.func161, Try.ntmps161
 go_wp2_with fail
 refine (HL0.out _).mono ?_
 rintro r w' ⟨rfl, o1, rfl⟩
 go_wp2_with fail
 all_goals
   refine (HD.out _ (by omega) _).mono ?_
   rintro r w' ⟨rfl, k, o2, o3, rfl⟩
   go_wp2_with fail
   go_cut [7] (fun c wc => c = .int .i64 ((L1 : Int) - 1 + e') ∧ ∃ o4 k, wc = (((((w.alloc (wdo 0 m0 e' true)).alloc o1).alloc o2).alloc o3).alloc o4).drewN k)
   case first =>
     go_region_with (go_at_call 144; refine (HL1.out _).mono ?_; rintro r w' ⟨rfl, o, rfl⟩)
     all_goals (go_wp2_with fail; go_meet; refine ⟨congrArg _ ?_, _, _, rfl⟩; simp only [IntKind.wrap_i64]; omega)
   case rest =>
     obtain ⟨rfl, o4, k4, rfl⟩ := hcut
     go_wp2_with fail
     refine (HP.out _).mono ?_
     rintro r w' ⟨rfl, rfl⟩
     go_wp2_with fail
     go_ret
     exact ⟨rfl, below_drewN (below_more (below_more (below_more (below_more (below_new _ _) _) _) _) _) _⟩
theorem near_tt_F (hi lo : Nat) (e : Int) (more : Bool) (he : -100000 ≤ e) (he2 : e ≤ 100000) (L0 : Nat) (hL0 : L0 ≤ 128) (HL0 : ∀ w, Calls Try.prog 144 #[wdv hi lo e more] w fun r w' => r = .returned (.int .i64 (L0 : Int)) ∧ ∃ o, w' = w.alloc o)
   (m0 : Nat) (hm0 : m0 < 9007199254740992) (e' : Int) (he' : -1074 ≤ e') (he'2 : e' ≤ 100000) (HD : ∀ (x : Int), ((L0 : Int) - 53 ≤ x ∧ -1074 - e ≤ x ∧ (x = (L0 : Int) - 53 ∨ x = -1074 - e)) → ∀ w, Calls Try.prog 148 #[wdv hi lo e more, .int .i64 x] w fun r w' => r = .returned (wdv 0 m0 e' true) ∧ ∃ k o o', w' = ((w.alloc o).alloc o').drewN k)
   (hz : (((m0 : Int) + 1) == 0) = false) (L1 : Nat) (hL1 : L1 ≤ 128) (HL1 : ∀ w, Calls Try.prog 144 #[.agg #[.int .u64 0, .int .u64 ((m0 : Int) + 1), .int .i64 0, .bool false]] w fun r w' => r = .returned (.int .i64 (L1 : Int)) ∧ ∃ o, w' = w.alloc o) (ht : (L1 : Int) - 1 + e' ≤ 1023) (he971 : e' ≤ 971) (p x : Nat) (HP : ∀ w, Calls Try.prog 165 #[.int .i64 e'] w fun r w' => r = .returned (.float .f64 p) ∧ w = w') (hm : floatBits .mul .f64 (floatOfInt .f64 ((m0 : Int) + 1)) p = some x) (w : World) :
   Calls Try.prog 161 #[wdv hi lo e more, .bool true] w fun r w' => r = .returned (.float .f64 x) ∧ Below w.heap.size w w' := by
 have HL0 := Lib.hid HL0
 have HD := Lib.hid HD
 have HL1 := Lib.hid HL1
 have hr := fun (t : TypeId) (w : World) => run_float_arith (P := Try.prog) w .mul t .f64 _ _ _ hm
 clear hm
 have HP := Lib.hid HP
 go_enter Try.func161, Try.ntmps161
 go_wp2_with fail
 refine (HL0.out _).mono ?_
 rintro r w' ⟨rfl, o1, rfl⟩
 go_wp2_with fail
 all_goals
   refine (HD.out _ (by omega) _).mono ?_
   rintro r w' ⟨rfl, k, o2, o3, rfl⟩
   go_wp2_with fail
   go_cut [7] (fun c wc => c = .int .i64 ((L1 : Int) - 1 + e') ∧ ∃ o4 k, wc = (((((w.alloc (wdo 0 m0 e' true)).alloc o1).alloc o2).alloc o3).alloc o4).drewN k)
   case first =>
     go_region_with (go_at_call 144; refine (HL1.out _).mono ?_; rintro r w' ⟨rfl, o, rfl⟩)
     all_goals (go_wp2_with fail; go_meet; refine ⟨congrArg _ ?_, _, _, rfl⟩; simp only [IntKind.wrap_i64]; omega)
   case rest =>
     obtain ⟨rfl, o4, k4, rfl⟩ := hcut
     go_wp2_with fail
     refine (HP.out _).mono ?_
     rintro r w' ⟨rfl, rfl⟩
     go_wp2_with fail
     go_ret
     exact ⟨rfl, below_drewN (below_more (below_more (below_more (below_more (below_new _ _) _) _) _) _) _⟩
end Go.Proofs.Ytnljfcebmgifdaa
