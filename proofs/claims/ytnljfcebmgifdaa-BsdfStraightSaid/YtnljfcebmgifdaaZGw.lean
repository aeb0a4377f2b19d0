/- Shaken: Gw. -/
import Derived.Test.YtnljfcebmgifdaaZGb
set_option maxRecDepth 100000
set_option maxHeartbeats 4000000
set_option linter.unusedVariables false
set_option linter.unusedSimpArgs false
namespace Go.Proofs.Ytnljfcebmgifdaa
open Go.RowKit Ieee
theorem near_f_IG (hi lo : Nat) (e : Int) (more : Bool) (he : -100000 ≤ e) (he2 : e ≤ 100000) (L0 : Nat) (hL0 : L0 ≤ 128) (HL0 : ∀ w, Calls Try.prog 144 #[wdv hi lo e more] w fun r w' => r = .returned (.int .i64 (L0 : Int)) ∧ ∃ o, w' = w.alloc o)
   (m0 : Nat) (hm0 : m0 < 9007199254740992) (e' : Int) (he' : -1074 ≤ e') (he'2 : e' ≤ 100000) (HD : ∀ (x : Int), ((L0 : Int) - 53 ≤ x ∧ -1074 - e ≤ x ∧ (x = (L0 : Int) - 53 ∨ x = -1074 - e)) → ∀ w, Calls Try.prog 148 #[wdv hi lo e more, .int .i64 x] w fun r w' => r = .returned (wdv 0 m0 e' false) ∧ ∃ k o o', w' = ((w.alloc o).alloc o').drewN k)
   (hz : ((m0 : Int) == 0) = false) (L1 : Nat) (hL1 : L1 ≤ 128) (HL1 : ∀ w, Calls Try.prog 144 #[.agg #[.int .u64 0, .int .u64 (m0 : Int), .int .i64 0, .bool false]] w fun r w' => r = .returned (.int .i64 (L1 : Int)) ∧ ∃ o, w' = w.alloc o) (ht : 1023 < (L1 : Int) - 1 + e') (w : World) :
   Calls Try.prog 161 #[wdv hi lo e more, .bool true] w fun r w' => r = .returned (.float .f64 9218868437227405312) ∧ Below w.heap.size w w' := by
 have HL0 := Lib.hid HL0
 have HD := Lib.hid HD
 have HL1 := Lib.hid HL1
 go_enter Try.func161, Try.ntmps161
 go_wp2_with fail
 refine (HL0.out _).mono ?_
 rintro r w' ⟨rfl, o1, rfl⟩
 go_wp2_with fail
 all_goals
   refine (HD.out _ (by omega) _).mono ?_
   rintro r w' ⟨rfl, k, o2, o3, rfl⟩
   go_wp2_with fail
   go_cut [7] (fun c wc => c = .int .i64 ((L1 : Int) - 1 + e') ∧ ∃ o4 k, wc = (((((w.alloc (wdo 0 m0 e' false)).alloc o1).alloc o2).alloc o3).alloc o4).drewN k)
   case first =>
     go_region_with (go_at_call 144; refine (HL1.out _).mono ?_; rintro r w' ⟨rfl, o, rfl⟩)
     all_goals (go_wp2_with fail; go_meet; refine ⟨congrArg _ ?_, _, _, rfl⟩; simp only [IntKind.wrap_i64]; omega)
   case rest =>
     obtain ⟨rfl, o4, k4, rfl⟩ := hcut
     go_wp2_with fail
     refine (rinf_any _).mono ?_
     rintro r w' ⟨rfl, rfl⟩
     go_wp2_with fail
     go_ret
     exact ⟨rfl, below_drewN (below_more (below_more (below_more (below_more (below_new _ _) _) _) _) _) _⟩
theorem near_f_IM (hi lo : Nat) (e : Int) (more : Bool) (he : -100000 ≤ e) (he2 : e ≤ 100000) (L0 : Nat) (hL0 : L0 ≤ 128) (HL0 : ∀ w, Calls Try.prog 144 #[wdv hi lo e more] w fun r w' => r = .returned (.int .i64 (L0 : Int)) ∧ ∃ o, w' = w.alloc o)
   (m0 : Nat) (hm0 : m0 < 9007199254740992) (e' : Int) (he' : -1074 ≤ e') (he'2 : e' ≤ 100000) (HD : ∀ (x : Int), ((L0 : Int) - 53 ≤ x ∧ -1074 - e ≤ x ∧ (x = (L0 : Int) - 53 ∨ x = -1074 - e)) → ∀ w, Calls Try.prog 148 #[wdv hi lo e more, .int .i64 x] w fun r w' => r = .returned (wdv 0 m0 e' false) ∧ ∃ k o o', w' = ((w.alloc o).alloc o').drewN k)
   (hz : ((m0 : Int) == 0) = false) (L1 : Nat) (hL1 : L1 ≤ 128) (HL1 : ∀ w, Calls Try.prog 144 #[.agg #[.int .u64 0, .int .u64 (m0 : Int), .int .i64 0, .bool false]] w fun r w' => r = .returned (.int .i64 (L1 : Int)) ∧ ∃ o, w' = w.alloc o) (ht : 1023 < (L1 : Int) - 1 + e') (w : World) :
   Calls Try.prog 161 #[wdv hi lo e more, .bool false] w fun r w' => r = .returned (.float .f64 9218868437227405311) ∧ Below w.heap.size w w' := by
 have HL0 := Lib.hid HL0
 have HD := Lib.hid HD
 have HL1 := Lib.hid HL1
 go_enter Try.func161, Try.ntmps161
 go_wp2_with fail
 refine (HL0.out _).mono ?_
 rintro r w' ⟨rfl, o1, rfl⟩
 go_wp2_with fail
 all_goals
   refine (HD.out _ (by omega) _).mono ?_
   rintro r w' ⟨rfl, k, o2, o3, rfl⟩
   go_wp2_with fail
   go_cut [7] (fun c wc => c = .int .i64 ((L1 : Int) - 1 + e') ∧ ∃ o4 k, wc = (((((w.alloc (wdo 0 m0 e' false)).alloc o1).alloc o2).alloc o3).alloc o4).drewN k)
   case first =>
     go_region_with (go_at_call 144; refine (HL1.out _).mono ?_; rintro r w' ⟨rfl, o, rfl⟩)
     all_goals (go_wp2_with fail; go_meet; refine ⟨congrArg _ ?_, _, _, rfl⟩; simp only [IntKind.wrap_i64]; omega)
   case rest =>
     obtain ⟨rfl, o4, k4, rfl⟩ := hcut
     go_wp2_with fail
     refine (rmost_any _).mono ?_
     rintro r w' ⟨rfl, rfl⟩
     go_wp2_with fail
     go_ret
     exact ⟨rfl, below_drewN (below_more (below_more (below_more (below_more (below_new _ _) _) _) _) _) _⟩
end Go.Proofs.Ytnljfcebmgifdaa
namespace Go.Proofs.Ytnljfcebmgifdaa
open Go.RowKit Ieee
theorem near_tf_IM (hi lo : Nat) (e : Int) (more : Bool) (he : -100000 ≤ e) (he2 : e ≤ 100000) (L0 : Nat) (hL0 : L0 ≤ 128) (HL0 : ∀ w, Calls Try.prog 144 #[wdv hi lo e more] w fun r w' => r = .returned (.int .i64 (L0 : Int)) ∧ ∃ o, w' = w.alloc o)
   (m0 : Nat) (hm0 : m0 < 9007199254740992) (e' : Int) (he' : -1074 ≤ e') (he'2 : e' ≤ 100000) (HD : ∀ (x : Int), ((L0 : Int) - 53 ≤ x ∧ -1074 - e ≤ x ∧ (x = (L0 : Int) - 53 ∨ x = -1074 - e)) → ∀ w, Calls Try.prog 148 #[wdv hi lo e more, .int .i64 x] w fun r w' => r = .returned (wdv 0 m0 e' true) ∧ ∃ k o o', w' = ((w.alloc o).alloc o').drewN k)
   (hz : ((m0 : Int) == 0) = false) (L1 : Nat) (hL1 : L1 ≤ 128) (HL1 : ∀ w, Calls Try.prog 144 #[.agg #[.int .u64 0, .int .u64 (m0 : Int), .int .i64 0, .bool false]] w fun r w' => r = .returned (.int .i64 (L1 : Int)) ∧ ∃ o, w' = w.alloc o) (ht : 1023 < (L1 : Int) - 1 + e') (w : World) :
   Calls Try.prog 161 #[wdv hi lo e more, .bool false] w fun r w' => r = .returned (.float .f64 9218868437227405311) ∧ Below w.heap.size w w' := by
 have HL0 := Lib.hid HL0
 have HD := Lib.hid HD
 have HL1 := Lib.hid HL1
 go_enter Try.func161, Try.ntmps161
 go_wp2_with fail
 refine (HL0.out _).mono ?_
 rintro r w' ⟨rfl, o1, rfl⟩
 go_wp2_with fail
 all_goals
   refine (HD.out _ (by omega) _).mono ?_
   rintro r w' ⟨rfl, k, o2, o3, rfl⟩
   go_wp2_with fail
   go_cut [7] (fun c wc => c = .int .i64 ((L1 : Int) - 1 + e') ∧ ∃ o4 k, wc = (((((w.alloc (wdo 0 m0 e' true)).alloc o1).alloc o2).alloc o3).alloc o4).drewN k)
   case first =>
     go_region_with (go_at_call 144; refine (HL1.out _).mono ?_; rintro r w' ⟨rfl, o, rfl⟩)
     all_goals (go_wp2_with fail; go_meet; refine ⟨congrArg _ ?_, _, _, rfl⟩; simp only [IntKind.wrap_i64]; omega)
   case rest =>
     obtain ⟨rfl, o4, k4, rfl⟩ := hcut
     go_wp2_with fail
     refine (rmost_any _).mono ?_
     rintro r w' ⟨rfl, rfl⟩
     go_wp2_with fail
     go_ret
     exact ⟨rfl, below_drewN (below_more (below_more (below_more (below_more (below_new _ _) _) _) _) _) _⟩
theorem near_tt_IG (hi lo : Nat) (e : Int) (more : Bool) (he : -100000 ≤ e) (he2 : e ≤ 100000) (L0 : Nat) (hL0 : L0 ≤ 128) (HL0 : ∀ w, Calls Try.prog 144 #[wdv hi lo e more] w fun r w' => r = .returned (.int .i64 (L0 : Int)) ∧ ∃ o, w' = w.alloc o)
   (m0 : Nat) (hm0 : m0 < 9007199254740992) (e' : Int) (he' : -1074 ≤ e') (he'2 : e' ≤ 100000) (HD : ∀ (x : Int), ((L0 : Int) - 53 ≤ x ∧ -1074 - e ≤ x ∧ (x = (L0 : Int) - 53 ∨ x = -1074 - e)) → ∀ w, Calls Try.prog 148 #[wdv hi lo e more, .int .i64 x] w fun r w' => r = .returned (wdv 0 m0 e' true) ∧ ∃ k o o', w' = ((w.alloc o).alloc o').drewN k)
   (hz : (((m0 : Int) + 1) == 0) = false) (L1 : Nat) (hL1 : L1 ≤ 128) (HL1 : ∀ w, Calls Try.prog 144 #[.agg #[.int .u64 0, .int .u64 ((m0 : Int) + 1), .int .i64 0, .bool false]] w fun r w' => r = .returned (.int .i64 (L1 : Int)) ∧ ∃ o, w' = w.alloc o) (ht : 1023 < (L1 : Int) - 1 + e') (w : World) :
   Calls Try.prog 161 #[wdv hi lo e more, .bool true] w fun r w' => r = .returned (.float .f64 9218868437227405312) ∧ Below w.heap.size w w' := by
 have HL0 := Lib.hid HL0
 have HD := Lib.hid HD
 have HL1 := Lib.hid HL1
 go_enter Try.func161, Try.ntmps161
 go_wp2_with fail
 refine (HL0.out _).mono ?_
 rintro r w' ⟨rfl, o1, rfl⟩
 go_wp2_with fail
 all_goals
   refine (HD.out _ (by omega) _).mono ?_
   rintro r w' ⟨rfl, k, o2, o3, rfl⟩
   go_wp2_with fail
   go_cut [7] (fun c wc => c = .int .i64 ((L1 : Int) - 1 + e') ∧ ∃ o4 k, wc = (((((w.alloc (wdo 0 m0 e' true)).alloc o1).alloc o2).alloc o3).alloc o4).drewN k)
   case first =>
     go_region_with (go_at_call 144; refine (HL1.out _).mono ?_; rintro r w' ⟨rfl, o, rfl⟩)
     all_goals (go_wp2_with fail; go_meet; refine ⟨congrArg _ ?_, _, _, rfl⟩; simp only [IntKind.wrap_i64]; omega)
   case rest =>
     obtain ⟨rfl, o4, k4, rfl⟩ := hcut
     go_wp2_with fail
     refine (rinf_any _).mono ?_
     rintro r w' ⟨rfl, rfl⟩
     go_wp2_with fail
     go_ret
     exact ⟨rfl, below_drewN (below_more (below_more (below_more (below_more (below_new _ _) _) _) _) _) _⟩
end Go.Proofs.Ytnljfcebmgifdaa
