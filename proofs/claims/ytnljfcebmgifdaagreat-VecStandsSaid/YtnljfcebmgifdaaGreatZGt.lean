/- Shaken: Gt. -/
import Derived.Test.YtnljfcebmgifdaaGreatZGa
set_option maxRecDepth 100000
set_option maxHeartbeats 4000000
set_option linter.unusedVariables false
set_option linter.unusedSimpArgs false
namespace Go.Proofs.YtnljfcebmgifdaaGreat
open Go.RowKit Ieee
theorem sum_n_Q_s (na nb : Bool) (ha hb A B : Nat) (ea eb : Int) (La Lb : Nat) (hLa : La ≤ 126) (hLb : Lb ≤ 126)
   (hea : -5000 ≤ ea) (hea2 : ea ≤ 5000) (heb : -5000 ≤ eb) (heb2 : eb ≤ 5000) (hc : eb + (Lb : Int) ≤ ea + La)
   (hZa : ∀ w, Calls Tryz.prog 143 #[exv na ha A ea false] w fun r w' => r = .returned (.bool false) ∧ ∃ o, w' = w.alloc o)
   (hZb : ∀ w, Calls Tryz.prog 143 #[exv nb hb B eb false] w fun r w' => r = .returned (.bool false) ∧ ∃ o, w' = w.alloc o)
   (hLa' : ∀ w, Calls Tryz.prog 121 #[exv na ha A ea false] w fun r w' => r = .returned (.int .i64 (La : Int)) ∧ ∃ o, w' = w.alloc o)
   (hLb' : ∀ w, Calls Tryz.prog 121 #[exv nb hb B eb false] w fun r w' => r = .returned (.int .i64 (Lb : Int)) ∧ ∃ o, w' = w.alloc o)
   (A1h A1l : Nat) (e1 : Int) (HLf : ∀ w, Calls Tryz.prog 120 #[exv na ha A ea false, .int .i64 (IntKind.i64.wrap (126 - (La : Int)))] w fun r w' => r = .returned (exv na A1h A1l e1 false) ∧ ∃ k o o', w' = ((w.alloc o).alloc o').drewN k)
   (he1 : -10000 ≤ e1) (he12 : e1 ≤ 10000) (hcb : eb ≤ e1) (Bh Bl : Nat) (eb' : Int) (mb : Bool) (HB : ∀ w, Calls Tryz.prog 139 #[exv nb hb B eb false, .int .i64 (e1 - eb)] w fun r w' => r = .returned (exv nb Bh Bl eb' mb) ∧ ∃ k o o' o'', w' = (((w.alloc o).alloc o').alloc o'').drewN k)
   (hs : (na == nb) = true) (S0 C0 S1 C1 : Nat) (HS0 : ∀ w, (callFunc 144 #[.int .u64 (A1l : Int), .int .u64 (Bl : Int), .int .u64 0]).run Tryz.prog w = .ok (.value (.tuple #[.int .u64 (S0 : Int), .int .u64 (C0 : Int)])) w)
   (HS1 : ∀ w, (callFunc 144 #[.int .u64 (A1h : Int), .int .u64 (Bh : Int), .int .u64 (C0 : Int)]).run Tryz.prog w = .ok (.value (.tuple #[.int .u64 (S1 : Int), .int .u64 (C1 : Int)])) w) (w : World) :
   Calls Tryz.prog 132 #[exv na ha A ea false, exv nb hb B eb false] w fun r w' => r = .returned (exv na S1 S0 e1 mb) ∧ Below w.heap.size w w' := by
 have HZa := Lib.hid hZa
 have HZb := Lib.hid hZb
 have HLa := Lib.hid hLa'
 have HLf' := Lib.hid HLf
 have HLb := Lib.hid hLb'
 have HC := Lib.hid hc
 have HB' := Lib.hid HB
 clear hZa hZb hLa' hLb' HLf hc HB
 go_enter Tryz.func132, Tryz.ntmps132
 go_wp2_with fail
 go_cut [26] (fun c wc => c = .bool false ∧ ∃ o1 o2 o3 o4, wc = (((((((w.alloc (exo na ha A ea false)).alloc (exo nb hb B eb false)).alloc (exo false 0 0 0 false)).alloc o1).alloc o2).alloc o3).alloc o4).drew)
 case first =>
   go_region_held3 (fun w' => w'.cell? ⟨w.heap.size, 0, none⟩ = some (.bool na) ∧ w'.cell? ⟨w.heap.size, 1, none⟩ = some (.int .u64 (ha : Int)) ∧ w'.cell? ⟨w.heap.size, 2, none⟩ = some (.int .u64 (A : Int)) ∧ w'.cell? ⟨w.heap.size, 3, none⟩ = some (.int .i64 ea) ∧ w'.cell? ⟨w.heap.size, 4, none⟩ = some (.bool false) ∧ w'.cell? ⟨w.heap.size + 1, 0, none⟩ = some (.bool nb) ∧ w'.cell? ⟨w.heap.size + 1, 1, none⟩ = some (.int .u64 (hb : Int)) ∧ w'.cell? ⟨w.heap.size + 1, 2, none⟩ = some (.int .u64 (B : Int)) ∧ w'.cell? ⟨w.heap.size + 1, 3, none⟩ = some (.int .i64 eb) ∧ w'.cell? ⟨w.heap.size + 1, 4, none⟩ = some (.bool false))
     (exact ten_of (t := 105) (t' := 105) (by (repeat' (first | exact Blk.new_at _ _ _ (by simp) | apply Blk.drew | apply Blk.drewN | apply Blk.alloc))) (by (repeat' (first | exact Blk.new_at _ _ _ (by simp) | apply Blk.drew | apply Blk.drewN | apply Blk.alloc))))
     (first
       | (go_simp; go_at_call_of 143 (Value.agg #[Value.bool na, Value.int IntKind.u64 (ha : Int), Value.int IntKind.u64 (A : Int), Value.int IntKind.i64 ea, Value.bool false]); refine (HZa.out _).mono ?_; rintro r w' ⟨rfl, o, rfl⟩; dsimp only)
       | (go_simp; go_at_call_of 143 (Value.agg #[Value.bool nb, Value.int IntKind.u64 (hb : Int), Value.int IntKind.u64 (B : Int), Value.int IntKind.i64 eb, Value.bool false]); refine (HZb.out _).mono ?_; rintro r w' ⟨rfl, o, rfl⟩; dsimp only)
       | (go_simp; go_at_call_of 121 (Value.agg #[Value.bool na, Value.int IntKind.u64 (ha : Int), Value.int IntKind.u64 (A : Int), Value.int IntKind.i64 ea, Value.bool false]); refine (HLa.out _).mono ?_; rintro r w' ⟨rfl, o, rfl⟩; dsimp only)
       | (go_simp; go_at_call_of 121 (Value.agg #[Value.bool nb, Value.int IntKind.u64 (hb : Int), Value.int IntKind.u64 (B : Int), Value.int IntKind.i64 eb, Value.bool false]); refine (HLb.out _).mono ?_; rintro r w' ⟨rfl, o, rfl⟩; dsimp only))
   go_wp2_with fail
   go_meet
   refine ⟨?_, _, _, _, _, rfl⟩
   have hc := HC.out
   rw [show IntKind.i64.wrap (ea + (La : Int)) = ea + La by rw [IntKind.wrap_i64]; omega, show IntKind.i64.wrap (eb + (Lb : Int)) = eb + Lb by rw [IntKind.wrap_i64]; omega, decide_eq_false (Int.not_lt.2 hc)]
 case rest =>
   obtain ⟨rfl, o1, o2, o3, o4, rfl⟩ := hcut
   go_wp2_with fail
   refine (HZb.out _).mono ?_
   rintro r w' ⟨rfl, o5, rfl⟩
   go_wp2_with fail
   go_cut [] (fun wc => ∃ o1 o2 o3 o4 o5 o6 o7 o8 k, wc = (((((((((((w.alloc (exo na A1h A1l e1 false)).alloc (exo nb hb B eb false)).alloc (exo false 0 0 0 false)).alloc o1).alloc o2).alloc o3).alloc o4).alloc o5).alloc o6).alloc o7).alloc o8).drewN k)
   case first =>
     go_region_with (first
       | (go_at_call 121; refine (HLa.out _).mono ?_; rintro r w' ⟨rfl, o, rfl⟩)
       | (go_at_call 120; refine (HLf'.out _).mono ?_; rintro r w' ⟨rfl, k, o, o', rfl⟩))
     all_goals (go_wp2_with fail; go_meet; exact ⟨_, _, _, _, _, _, _, _, _, rfl⟩)
   case rest =>
     obtain ⟨o1, o2, o3, o4, o5, o6, o7, o8, k, rfl⟩ := hcut
     go_wp2_with fail
     refine (HB'.out _).mono ?_
     rintro r w' ⟨rfl, k', p1, p2, p3, rfl⟩
     go_wp2_with fail
     (try simp only [Exit.inBlock, Exit.then])
     refine bodyPost_ret (res53b rfl _ _ (w.heap.size + 1 + 1) (.bool na) (.int .u64 (S1 : Int)) (.int .u64 (S0 : Int)) (.int .i64 e1) (.bool mb) rfl ?hh) rfl ?_
     case hh => exact (((((((((((((Blk.new_at _ _ _ (by simp)).alloc _).alloc _).alloc _).alloc _).alloc _).alloc _).alloc _).alloc _).alloc _).alloc _).alloc _).drewN _)
     exact ⟨rfl, (below_drewN (below_more (below_more (below_more (below_more (below_more (below_more (below_more (below_more (below_more (below_more (below_more (below_more (below_more (below_new _ _) _) _) _) _) _) _) _) _) _) _) _) _) _) _)⟩
theorem sum_n_Q_d1 (na nb : Bool) (ha hb A B : Nat) (ea eb : Int) (La Lb : Nat) (hLa : La ≤ 126) (hLb : Lb ≤ 126)
   (hea : -5000 ≤ ea) (hea2 : ea ≤ 5000) (heb : -5000 ≤ eb) (heb2 : eb ≤ 5000) (hc : eb + (Lb : Int) ≤ ea + La)
   (hZa : ∀ w, Calls Tryz.prog 143 #[exv na ha A ea false] w fun r w' => r = .returned (.bool false) ∧ ∃ o, w' = w.alloc o)
   (hZb : ∀ w, Calls Tryz.prog 143 #[exv nb hb B eb false] w fun r w' => r = .returned (.bool false) ∧ ∃ o, w' = w.alloc o)
   (hLa' : ∀ w, Calls Tryz.prog 121 #[exv na ha A ea false] w fun r w' => r = .returned (.int .i64 (La : Int)) ∧ ∃ o, w' = w.alloc o)
   (hLb' : ∀ w, Calls Tryz.prog 121 #[exv nb hb B eb false] w fun r w' => r = .returned (.int .i64 (Lb : Int)) ∧ ∃ o, w' = w.alloc o)
   (A1h A1l : Nat) (e1 : Int) (HLf : ∀ w, Calls Tryz.prog 120 #[exv na ha A ea false, .int .i64 (IntKind.i64.wrap (126 - (La : Int)))] w fun r w' => r = .returned (exv na A1h A1l e1 false) ∧ ∃ k o o', w' = ((w.alloc o).alloc o').drewN k)
   (he1 : -10000 ≤ e1) (he12 : e1 ≤ 10000) (hcb : eb ≤ e1) (Bh Bl : Nat) (eb' : Int) (mb : Bool) (HB : ∀ w, Calls Tryz.prog 139 #[exv nb hb B eb false, .int .i64 (e1 - eb)] w fun r w' => r = .returned (exv nb Bh Bl eb' mb) ∧ ∃ k o o' o'', w' = (((w.alloc o).alloc o').alloc o'').drewN k)
   (hs : (na == nb) = false) (hmb : mb = true) (S0 C0 S1 C1 : Nat) (HS0 : ∀ w, (callFunc 145 #[.int .u64 (A1l : Int), .int .u64 (Bl : Int), .int .u64 1]).run Tryz.prog w = .ok (.value (.tuple #[.int .u64 (S0 : Int), .int .u64 (C0 : Int)])) w)
   (HS1 : ∀ w, (callFunc 145 #[.int .u64 (A1h : Int), .int .u64 (Bh : Int), .int .u64 (C0 : Int)]).run Tryz.prog w = .ok (.value (.tuple #[.int .u64 (S1 : Int), .int .u64 (C1 : Int)])) w) (hC1 : C1 = 0) (w : World) :
   Calls Tryz.prog 132 #[exv na ha A ea false, exv nb hb B eb false] w fun r w' => r = .returned (exv na S1 S0 e1 mb) ∧ Below w.heap.size w w' := by
 subst hmb
 subst hC1
 have HZa := Lib.hid hZa
 have HZb := Lib.hid hZb
 have HLa := Lib.hid hLa'
 have HLf' := Lib.hid HLf
 have HLb := Lib.hid hLb'
 have HC := Lib.hid hc
 have HB' := Lib.hid HB
 clear hZa hZb hLa' hLb' HLf hc HB
 go_enter Tryz.func132, Tryz.ntmps132
 go_wp2_with fail
 go_cut [26] (fun c wc => c = .bool false ∧ ∃ o1 o2 o3 o4, wc = (((((((w.alloc (exo na ha A ea false)).alloc (exo nb hb B eb false)).alloc (exo false 0 0 0 false)).alloc o1).alloc o2).alloc o3).alloc o4).drew)
 case first =>
   go_region_held3 (fun w' => w'.cell? ⟨w.heap.size, 0, none⟩ = some (.bool na) ∧ w'.cell? ⟨w.heap.size, 1, none⟩ = some (.int .u64 (ha : Int)) ∧ w'.cell? ⟨w.heap.size, 2, none⟩ = some (.int .u64 (A : Int)) ∧ w'.cell? ⟨w.heap.size, 3, none⟩ = some (.int .i64 ea) ∧ w'.cell? ⟨w.heap.size, 4, none⟩ = some (.bool false) ∧ w'.cell? ⟨w.heap.size + 1, 0, none⟩ = some (.bool nb) ∧ w'.cell? ⟨w.heap.size + 1, 1, none⟩ = some (.int .u64 (hb : Int)) ∧ w'.cell? ⟨w.heap.size + 1, 2, none⟩ = some (.int .u64 (B : Int)) ∧ w'.cell? ⟨w.heap.size + 1, 3, none⟩ = some (.int .i64 eb) ∧ w'.cell? ⟨w.heap.size + 1, 4, none⟩ = some (.bool false))
     (exact ten_of (t := 105) (t' := 105) (by (repeat' (first | exact Blk.new_at _ _ _ (by simp) | apply Blk.drew | apply Blk.drewN | apply Blk.alloc))) (by (repeat' (first | exact Blk.new_at _ _ _ (by simp) | apply Blk.drew | apply Blk.drewN | apply Blk.alloc))))
     (first
       | (go_simp; go_at_call_of 143 (Value.agg #[Value.bool na, Value.int IntKind.u64 (ha : Int), Value.int IntKind.u64 (A : Int), Value.int IntKind.i64 ea, Value.bool false]); refine (HZa.out _).mono ?_; rintro r w' ⟨rfl, o, rfl⟩; dsimp only)
       | (go_simp; go_at_call_of 143 (Value.agg #[Value.bool nb, Value.int IntKind.u64 (hb : Int), Value.int IntKind.u64 (B : Int), Value.int IntKind.i64 eb, Value.bool false]); refine (HZb.out _).mono ?_; rintro r w' ⟨rfl, o, rfl⟩; dsimp only)
       | (go_simp; go_at_call_of 121 (Value.agg #[Value.bool na, Value.int IntKind.u64 (ha : Int), Value.int IntKind.u64 (A : Int), Value.int IntKind.i64 ea, Value.bool false]); refine (HLa.out _).mono ?_; rintro r w' ⟨rfl, o, rfl⟩; dsimp only)
       | (go_simp; go_at_call_of 121 (Value.agg #[Value.bool nb, Value.int IntKind.u64 (hb : Int), Value.int IntKind.u64 (B : Int), Value.int IntKind.i64 eb, Value.bool false]); refine (HLb.out _).mono ?_; rintro r w' ⟨rfl, o, rfl⟩; dsimp only))
   go_wp2_with fail
   go_meet
   refine ⟨?_, _, _, _, _, rfl⟩
   have hc := HC.out
   rw [show IntKind.i64.wrap (ea + (La : Int)) = ea + La by rw [IntKind.wrap_i64]; omega, show IntKind.i64.wrap (eb + (Lb : Int)) = eb + Lb by rw [IntKind.wrap_i64]; omega, decide_eq_false (Int.not_lt.2 hc)]
 case rest =>
   obtain ⟨rfl, o1, o2, o3, o4, rfl⟩ := hcut
   go_wp2_with fail
   refine (HZb.out _).mono ?_
   rintro r w' ⟨rfl, o5, rfl⟩
   go_wp2_with fail
   go_cut [] (fun wc => ∃ o1 o2 o3 o4 o5 o6 o7 o8 k, wc = (((((((((((w.alloc (exo na A1h A1l e1 false)).alloc (exo nb hb B eb false)).alloc (exo false 0 0 0 false)).alloc o1).alloc o2).alloc o3).alloc o4).alloc o5).alloc o6).alloc o7).alloc o8).drewN k)
   case first =>
     go_region_with (first
       | (go_at_call 121; refine (HLa.out _).mono ?_; rintro r w' ⟨rfl, o, rfl⟩)
       | (go_at_call 120; refine (HLf'.out _).mono ?_; rintro r w' ⟨rfl, k, o, o', rfl⟩))
     all_goals (go_wp2_with fail; go_meet; exact ⟨_, _, _, _, _, _, _, _, _, rfl⟩)
   case rest =>
     obtain ⟨o1, o2, o3, o4, o5, o6, o7, o8, k, rfl⟩ := hcut
     go_wp2_with fail
     refine (HB'.out _).mono ?_
     rintro r w' ⟨rfl, k', p1, p2, p3, rfl⟩
     go_wp2_with fail
     (try simp only [Exit.inBlock, Exit.then])
     refine bodyPost_ret (res53b rfl _ _ (w.heap.size + 1 + 1) (.bool na) (.int .u64 (S1 : Int)) (.int .u64 (S0 : Int)) (.int .i64 e1) (.bool true) rfl ?hh) rfl ?_
     case hh => exact (((((((((((((Blk.new_at _ _ _ (by simp)).alloc _).alloc _).alloc _).alloc _).alloc _).alloc _).alloc _).alloc _).alloc _).alloc _).alloc _).drewN _)
     exact ⟨rfl, (below_drewN (below_more (below_more (below_more (below_more (below_more (below_more (below_more (below_more (below_more (below_more (below_more (below_more (below_more (below_new _ _) _) _) _) _) _) _) _) _) _) _) _) _) _) _)⟩
end Go.Proofs.YtnljfcebmgifdaaGreat
namespace Go.Proofs.YtnljfcebmgifdaaGreat
open Go.RowKit Ieee
theorem sum_y_L_s (na nb : Bool) (ha hb A B : Nat) (ea eb : Int) (La Lb : Nat) (hLa : La ≤ 126) (hLb : Lb ≤ 126)
   (hea : -5000 ≤ ea) (hea2 : ea ≤ 5000) (heb : -5000 ≤ eb) (heb2 : eb ≤ 5000) (hc : eb + (Lb : Int) < ea + La)
   (hZa : ∀ w, Calls Tryz.prog 143 #[exv na ha A ea false] w fun r w' => r = .returned (.bool false) ∧ ∃ o, w' = w.alloc o)
   (hZb : ∀ w, Calls Tryz.prog 143 #[exv nb hb B eb false] w fun r w' => r = .returned (.bool false) ∧ ∃ o, w' = w.alloc o)
   (hLa' : ∀ w, Calls Tryz.prog 121 #[exv na ha A ea false] w fun r w' => r = .returned (.int .i64 (La : Int)) ∧ ∃ o, w' = w.alloc o)
   (hLb' : ∀ w, Calls Tryz.prog 121 #[exv nb hb B eb false] w fun r w' => r = .returned (.int .i64 (Lb : Int)) ∧ ∃ o, w' = w.alloc o)
   (A1h A1l : Nat) (e1 : Int) (HLf : ∀ w, Calls Tryz.prog 120 #[exv na ha A ea false, .int .i64 (IntKind.i64.wrap (126 - (La : Int)))] w fun r w' => r = .returned (exv na A1h A1l e1 false) ∧ ∃ k o o', w' = ((w.alloc o).alloc o').drewN k)
   (he1 : -10000 ≤ e1) (he12 : e1 ≤ 10000) (hcb : e1 < eb) (Bh Bl : Nat) (eb' : Int) (HB : ∀ w, Calls Tryz.prog 120 #[exv nb hb B eb false, .int .i64 (eb - e1)] w fun r w' => r = .returned (exv nb Bh Bl eb' false) ∧ ∃ k o o', w' = ((w.alloc o).alloc o').drewN k)
   (hs : (na == nb) = true) (S0 C0 S1 C1 : Nat) (HS0 : ∀ w, (callFunc 144 #[.int .u64 (A1l : Int), .int .u64 (Bl : Int), .int .u64 0]).run Tryz.prog w = .ok (.value (.tuple #[.int .u64 (S0 : Int), .int .u64 (C0 : Int)])) w)
   (HS1 : ∀ w, (callFunc 144 #[.int .u64 (A1h : Int), .int .u64 (Bh : Int), .int .u64 (C0 : Int)]).run Tryz.prog w = .ok (.value (.tuple #[.int .u64 (S1 : Int), .int .u64 (C1 : Int)])) w) (w : World) :
   Calls Tryz.prog 132 #[exv nb hb B eb false, exv na ha A ea false] w fun r w' => r = .returned (exv na S1 S0 e1 false) ∧ Below w.heap.size w w' := by
 have HZa := Lib.hid hZa
 have HZb := Lib.hid hZb
 have HLa := Lib.hid hLa'
 have HLf' := Lib.hid HLf
 have HLb := Lib.hid hLb'
 have HC := Lib.hid hc
 have HB' := Lib.hid HB
 clear hZa hZb hLa' hLb' HLf hc HB
 go_enter Tryz.func132, Tryz.ntmps132
 go_wp2_with fail
 go_cut [26] (fun c wc => c = .bool true ∧ ∃ o1 o2 o3 o4, wc = (((((((w.alloc (exo nb hb B eb false)).alloc (exo na ha A ea false)).alloc (exo false 0 0 0 false)).alloc o1).alloc o2).alloc o3).alloc o4).drew)
 case first =>
   go_region_held3 (fun w' => w'.cell? ⟨w.heap.size, 0, none⟩ = some (.bool nb) ∧ w'.cell? ⟨w.heap.size, 1, none⟩ = some (.int .u64 (hb : Int)) ∧ w'.cell? ⟨w.heap.size, 2, none⟩ = some (.int .u64 (B : Int)) ∧ w'.cell? ⟨w.heap.size, 3, none⟩ = some (.int .i64 eb) ∧ w'.cell? ⟨w.heap.size, 4, none⟩ = some (.bool false) ∧ w'.cell? ⟨w.heap.size + 1, 0, none⟩ = some (.bool na) ∧ w'.cell? ⟨w.heap.size + 1, 1, none⟩ = some (.int .u64 (ha : Int)) ∧ w'.cell? ⟨w.heap.size + 1, 2, none⟩ = some (.int .u64 (A : Int)) ∧ w'.cell? ⟨w.heap.size + 1, 3, none⟩ = some (.int .i64 ea) ∧ w'.cell? ⟨w.heap.size + 1, 4, none⟩ = some (.bool false))
     (exact ten_of (t := 105) (t' := 105) (by (repeat' (first | exact Blk.new_at _ _ _ (by simp) | apply Blk.drew | apply Blk.drewN | apply Blk.alloc))) (by (repeat' (first | exact Blk.new_at _ _ _ (by simp) | apply Blk.drew | apply Blk.drewN | apply Blk.alloc))))
     (first
       | (go_simp; go_at_call_of 143 (Value.agg #[Value.bool na, Value.int IntKind.u64 (ha : Int), Value.int IntKind.u64 (A : Int), Value.int IntKind.i64 ea, Value.bool false]); refine (HZa.out _).mono ?_; rintro r w' ⟨rfl, o, rfl⟩; dsimp only)
       | (go_simp; go_at_call_of 143 (Value.agg #[Value.bool nb, Value.int IntKind.u64 (hb : Int), Value.int IntKind.u64 (B : Int), Value.int IntKind.i64 eb, Value.bool false]); refine (HZb.out _).mono ?_; rintro r w' ⟨rfl, o, rfl⟩; dsimp only)
       | (go_simp; go_at_call_of 121 (Value.agg #[Value.bool na, Value.int IntKind.u64 (ha : Int), Value.int IntKind.u64 (A : Int), Value.int IntKind.i64 ea, Value.bool false]); refine (HLa.out _).mono ?_; rintro r w' ⟨rfl, o, rfl⟩; dsimp only)
       | (go_simp; go_at_call_of 121 (Value.agg #[Value.bool nb, Value.int IntKind.u64 (hb : Int), Value.int IntKind.u64 (B : Int), Value.int IntKind.i64 eb, Value.bool false]); refine (HLb.out _).mono ?_; rintro r w' ⟨rfl, o, rfl⟩; dsimp only))
   go_wp2_with fail
   go_meet
   refine ⟨?_, _, _, _, _, rfl⟩
   have hc := HC.out
   rw [show IntKind.i64.wrap (ea + (La : Int)) = ea + La by rw [IntKind.wrap_i64]; omega, show IntKind.i64.wrap (eb + (Lb : Int)) = eb + Lb by rw [IntKind.wrap_i64]; omega, decide_eq_true hc]
 case rest =>
   obtain ⟨rfl, o1, o2, o3, o4, rfl⟩ := hcut
   go_wp2_with fail
   refine (HZb.out _).mono ?_
   rintro r w' ⟨rfl, o5, rfl⟩
   go_wp2_with fail
   go_cut [] (fun wc => ∃ o1 o2 o3 o4 o5 o6 o7 o8 k, wc = (((((((((((w.alloc (exo na A1h A1l e1 false)).alloc (exo nb hb B eb false)).alloc (exo false 0 0 0 false)).alloc o1).alloc o2).alloc o3).alloc o4).alloc o5).alloc o6).alloc o7).alloc o8).drewN k)
   case first =>
     go_region_with (first
       | (go_at_call 121; refine (HLa.out _).mono ?_; rintro r w' ⟨rfl, o, rfl⟩)
       | (go_at_call 120; refine (HLf'.out _).mono ?_; rintro r w' ⟨rfl, k, o, o', rfl⟩))
     all_goals (go_wp2_with fail; go_meet; exact ⟨_, _, _, _, _, _, _, _, _, rfl⟩)
   case rest =>
     obtain ⟨o1, o2, o3, o4, o5, o6, o7, o8, k, rfl⟩ := hcut
     go_wp2_with fail
     refine (HB'.out _).mono ?_
     rintro r w' ⟨rfl, k', p1, p2, rfl⟩
     go_wp2_with fail
     (try simp only [Exit.inBlock, Exit.then])
     refine bodyPost_ret (res53b rfl _ _ (w.heap.size + 1 + 1) (.bool na) (.int .u64 (S1 : Int)) (.int .u64 (S0 : Int)) (.int .i64 e1) (.bool false) rfl ?hh) rfl ?_
     case hh => exact ((((((((((((Blk.new_at _ _ _ (by simp)).alloc _).alloc _).alloc _).alloc _).alloc _).alloc _).alloc _).alloc _).alloc _).alloc _).drewN _)
     exact ⟨rfl, (below_drewN (below_more (below_more (below_more (below_more (below_more (below_more (below_more (below_more (below_more (below_more (below_more (below_more (below_new _ _) _) _) _) _) _) _) _) _) _) _) _) _) _)⟩
theorem sum_y_L_d0 (na nb : Bool) (ha hb A B : Nat) (ea eb : Int) (La Lb : Nat) (hLa : La ≤ 126) (hLb : Lb ≤ 126)
   (hea : -5000 ≤ ea) (hea2 : ea ≤ 5000) (heb : -5000 ≤ eb) (heb2 : eb ≤ 5000) (hc : eb + (Lb : Int) < ea + La)
   (hZa : ∀ w, Calls Tryz.prog 143 #[exv na ha A ea false] w fun r w' => r = .returned (.bool false) ∧ ∃ o, w' = w.alloc o)
   (hZb : ∀ w, Calls Tryz.prog 143 #[exv nb hb B eb false] w fun r w' => r = .returned (.bool false) ∧ ∃ o, w' = w.alloc o)
   (hLa' : ∀ w, Calls Tryz.prog 121 #[exv na ha A ea false] w fun r w' => r = .returned (.int .i64 (La : Int)) ∧ ∃ o, w' = w.alloc o)
   (hLb' : ∀ w, Calls Tryz.prog 121 #[exv nb hb B eb false] w fun r w' => r = .returned (.int .i64 (Lb : Int)) ∧ ∃ o, w' = w.alloc o)
   (A1h A1l : Nat) (e1 : Int) (HLf : ∀ w, Calls Tryz.prog 120 #[exv na ha A ea false, .int .i64 (IntKind.i64.wrap (126 - (La : Int)))] w fun r w' => r = .returned (exv na A1h A1l e1 false) ∧ ∃ k o o', w' = ((w.alloc o).alloc o').drewN k)
   (he1 : -10000 ≤ e1) (he12 : e1 ≤ 10000) (hcb : e1 < eb) (Bh Bl : Nat) (eb' : Int) (HB : ∀ w, Calls Tryz.prog 120 #[exv nb hb B eb false, .int .i64 (eb - e1)] w fun r w' => r = .returned (exv nb Bh Bl eb' false) ∧ ∃ k o o', w' = ((w.alloc o).alloc o').drewN k)
   (hs : (na == nb) = false)  (S0 C0 S1 C1 : Nat) (HS0 : ∀ w, (callFunc 145 #[.int .u64 (A1l : Int), .int .u64 (Bl : Int), .int .u64 0]).run Tryz.prog w = .ok (.value (.tuple #[.int .u64 (S0 : Int), .int .u64 (C0 : Int)])) w)
   (HS1 : ∀ w, (callFunc 145 #[.int .u64 (A1h : Int), .int .u64 (Bh : Int), .int .u64 (C0 : Int)]).run Tryz.prog w = .ok (.value (.tuple #[.int .u64 (S1 : Int), .int .u64 (C1 : Int)])) w) (hC1 : C1 = 0) (w : World) :
   Calls Tryz.prog 132 #[exv nb hb B eb false, exv na ha A ea false] w fun r w' => r = .returned (exv na S1 S0 e1 false) ∧ Below w.heap.size w w' := by
 subst hC1
 have HZa := Lib.hid hZa
 have HZb := Lib.hid hZb
 have HLa := Lib.hid hLa'
 have HLf' := Lib.hid HLf
 have HLb := Lib.hid hLb'
 have HC := Lib.hid hc
 have HB' := Lib.hid HB
 clear hZa hZb hLa' hLb' HLf hc HB
 go_enter Tryz.func132, Tryz.ntmps132
 go_wp2_with fail
 go_cut [26] (fun c wc => c = .bool true ∧ ∃ o1 o2 o3 o4, wc = (((((((w.alloc (exo nb hb B eb false)).alloc (exo na ha A ea false)).alloc (exo false 0 0 0 false)).alloc o1).alloc o2).alloc o3).alloc o4).drew)
 case first =>
   go_region_held3 (fun w' => w'.cell? ⟨w.heap.size, 0, none⟩ = some (.bool nb) ∧ w'.cell? ⟨w.heap.size, 1, none⟩ = some (.int .u64 (hb : Int)) ∧ w'.cell? ⟨w.heap.size, 2, none⟩ = some (.int .u64 (B : Int)) ∧ w'.cell? ⟨w.heap.size, 3, none⟩ = some (.int .i64 eb) ∧ w'.cell? ⟨w.heap.size, 4, none⟩ = some (.bool false) ∧ w'.cell? ⟨w.heap.size + 1, 0, none⟩ = some (.bool na) ∧ w'.cell? ⟨w.heap.size + 1, 1, none⟩ = some (.int .u64 (ha : Int)) ∧ w'.cell? ⟨w.heap.size + 1, 2, none⟩ = some (.int .u64 (A : Int)) ∧ w'.cell? ⟨w.heap.size + 1, 3, none⟩ = some (.int .i64 ea) ∧ w'.cell? ⟨w.heap.size + 1, 4, none⟩ = some (.bool false))
     (exact ten_of (t := 105) (t' := 105) (by (repeat' (first | exact Blk.new_at _ _ _ (by simp) | apply Blk.drew | apply Blk.drewN | apply Blk.alloc))) (by (repeat' (first | exact Blk.new_at _ _ _ (by simp) | apply Blk.drew | apply Blk.drewN | apply Blk.alloc))))
     (first
       | (go_simp; go_at_call_of 143 (Value.agg #[Value.bool na, Value.int IntKind.u64 (ha : Int), Value.int IntKind.u64 (A : Int), Value.int IntKind.i64 ea, Value.bool false]); refine (HZa.out _).mono ?_; rintro r w' ⟨rfl, o, rfl⟩; dsimp only)
       | (go_simp; go_at_call_of 143 (Value.agg #[Value.bool nb, Value.int IntKind.u64 (hb : Int), Value.int IntKind.u64 (B : Int), Value.int IntKind.i64 eb, Value.bool false]); refine (HZb.out _).mono ?_; rintro r w' ⟨rfl, o, rfl⟩; dsimp only)
       | (go_simp; go_at_call_of 121 (Value.agg #[Value.bool na, Value.int IntKind.u64 (ha : Int), Value.int IntKind.u64 (A : Int), Value.int IntKind.i64 ea, Value.bool false]); refine (HLa.out _).mono ?_; rintro r w' ⟨rfl, o, rfl⟩; dsimp only)
       | (go_simp; go_at_call_of 121 (Value.agg #[Value.bool nb, Value.int IntKind.u64 (hb : Int), Value.int IntKind.u64 (B : Int), Value.int IntKind.i64 eb, Value.bool false]); refine (HLb.out _).mono ?_; rintro r w' ⟨rfl, o, rfl⟩; dsimp only))
   go_wp2_with fail
   go_meet
   refine ⟨?_, _, _, _, _, rfl⟩
   have hc := HC.out
   rw [show IntKind.i64.wrap (ea + (La : Int)) = ea + La by rw [IntKind.wrap_i64]; omega, show IntKind.i64.wrap (eb + (Lb : Int)) = eb + Lb by rw [IntKind.wrap_i64]; omega, decide_eq_true hc]
 case rest =>
   obtain ⟨rfl, o1, o2, o3, o4, rfl⟩ := hcut
   go_wp2_with fail
   refine (HZb.out _).mono ?_
   rintro r w' ⟨rfl, o5, rfl⟩
   go_wp2_with fail
   go_cut [] (fun wc => ∃ o1 o2 o3 o4 o5 o6 o7 o8 k, wc = (((((((((((w.alloc (exo na A1h A1l e1 false)).alloc (exo nb hb B eb false)).alloc (exo false 0 0 0 false)).alloc o1).alloc o2).alloc o3).alloc o4).alloc o5).alloc o6).alloc o7).alloc o8).drewN k)
   case first =>
     go_region_with (first
       | (go_at_call 121; refine (HLa.out _).mono ?_; rintro r w' ⟨rfl, o, rfl⟩)
       | (go_at_call 120; refine (HLf'.out _).mono ?_; rintro r w' ⟨rfl, k, o, o', rfl⟩))
     all_goals (go_wp2_with fail; go_meet; exact ⟨_, _, _, _, _, _, _, _, _, rfl⟩)
   case rest =>
     obtain ⟨o1, o2, o3, o4, o5, o6, o7, o8, k, rfl⟩ := hcut
     go_wp2_with fail
     refine (HB'.out _).mono ?_
     rintro r w' ⟨rfl, k', p1, p2, rfl⟩
     go_wp2_with fail
     (try simp only [Exit.inBlock, Exit.then])
     refine bodyPost_ret (res53b rfl _ _ (w.heap.size + 1 + 1) (.bool na) (.int .u64 (S1 : Int)) (.int .u64 (S0 : Int)) (.int .i64 e1) (.bool false) rfl ?hh) rfl ?_
     case hh => exact ((((((((((((Blk.new_at _ _ _ (by simp)).alloc _).alloc _).alloc _).alloc _).alloc _).alloc _).alloc _).alloc _).alloc _).alloc _).drewN _)
     exact ⟨rfl, (below_drewN (below_more (below_more (below_more (below_more (below_more (below_more (below_more (below_more (below_more (below_more (below_more (below_more (below_new _ _) _) _) _) _) _) _) _) _) _) _) _) _) _)⟩
end Go.Proofs.YtnljfcebmgifdaaGreat
namespace Go.Proofs.YtnljfcebmgifdaaGreat
open Go.RowKit Ieee
theorem sum_y_L_d0n (na nb : Bool) (ha hb A B : Nat) (ea eb : Int) (La Lb : Nat) (hLa : La ≤ 126) (hLb : Lb ≤ 126)
   (hea : -5000 ≤ ea) (hea2 : ea ≤ 5000) (heb : -5000 ≤ eb) (heb2 : eb ≤ 5000) (hc : eb + (Lb : Int) < ea + La)
   (hZa : ∀ w, Calls Tryz.prog 143 #[exv na ha A ea false] w fun r w' => r = .returned (.bool false) ∧ ∃ o, w' = w.alloc o)
   (hZb : ∀ w, Calls Tryz.prog 143 #[exv nb hb B eb false] w fun r w' => r = .returned (.bool false) ∧ ∃ o, w' = w.alloc o)
   (hLa' : ∀ w, Calls Tryz.prog 121 #[exv na ha A ea false] w fun r w' => r = .returned (.int .i64 (La : Int)) ∧ ∃ o, w' = w.alloc o)
   (hLb' : ∀ w, Calls Tryz.prog 121 #[exv nb hb B eb false] w fun r w' => r = .returned (.int .i64 (Lb : Int)) ∧ ∃ o, w' = w.alloc o)
   (A1h A1l : Nat) (e1 : Int) (HLf : ∀ w, Calls Tryz.prog 120 #[exv na ha A ea false, .int .i64 (IntKind.i64.wrap (126 - (La : Int)))] w fun r w' => r = .returned (exv na A1h A1l e1 false) ∧ ∃ k o o', w' = ((w.alloc o).alloc o').drewN k)
   (he1 : -10000 ≤ e1) (he12 : e1 ≤ 10000) (hcb : e1 < eb) (Bh Bl : Nat) (eb' : Int) (HB : ∀ w, Calls Tryz.prog 120 #[exv nb hb B eb false, .int .i64 (eb - e1)] w fun r w' => r = .returned (exv nb Bh Bl eb' false) ∧ ∃ k o o', w' = ((w.alloc o).alloc o').drewN k)
   (hs : (na == nb) = false)  (S0 C0 S1 C1 : Nat) (HS0 : ∀ w, (callFunc 145 #[.int .u64 (A1l : Int), .int .u64 (Bl : Int), .int .u64 0]).run Tryz.prog w = .ok (.value (.tuple #[.int .u64 (S0 : Int), .int .u64 (C0 : Int)])) w)
   (HS1 : ∀ w, (callFunc 145 #[.int .u64 (A1h : Int), .int .u64 (Bh : Int), .int .u64 (C0 : Int)]).run Tryz.prog w = .ok (.value (.tuple #[.int .u64 (S1 : Int), .int .u64 (C1 : Int)])) w) (hC1 : 0 < C1) (F0 D0 F1 D1 : Nat) (HF0 : ∀ w, (callFunc 145 #[.int .u64 0, .int .u64 (S0 : Int), .int .u64 0]).run Tryz.prog w = .ok (.value (.tuple #[.int .u64 (F0 : Int), .int .u64 (D0 : Int)])) w)
   (HF1 : ∀ w, (callFunc 145 #[.int .u64 0, .int .u64 (S1 : Int), .int .u64 (D0 : Int)]).run Tryz.prog w = .ok (.value (.tuple #[.int .u64 (F1 : Int), .int .u64 (D1 : Int)])) w) (w : World) :
   Calls Tryz.prog 132 #[exv nb hb B eb false, exv na ha A ea false] w fun r w' => r = .returned (exv (!na) F1 F0 e1 false) ∧ Below w.heap.size w w' := by
 have HZa := Lib.hid hZa
 have HZb := Lib.hid hZb
 have HLa := Lib.hid hLa'
 have HLf' := Lib.hid HLf
 have HLb := Lib.hid hLb'
 have HC := Lib.hid hc
 have HB' := Lib.hid HB
 clear hZa hZb hLa' hLb' HLf hc HB
 go_enter Tryz.func132, Tryz.ntmps132
 go_wp2_with fail
 go_cut [26] (fun c wc => c = .bool true ∧ ∃ o1 o2 o3 o4, wc = (((((((w.alloc (exo nb hb B eb false)).alloc (exo na ha A ea false)).alloc (exo false 0 0 0 false)).alloc o1).alloc o2).alloc o3).alloc o4).drew)
 case first =>
   go_region_held3 (fun w' => w'.cell? ⟨w.heap.size, 0, none⟩ = some (.bool nb) ∧ w'.cell? ⟨w.heap.size, 1, none⟩ = some (.int .u64 (hb : Int)) ∧ w'.cell? ⟨w.heap.size, 2, none⟩ = some (.int .u64 (B : Int)) ∧ w'.cell? ⟨w.heap.size, 3, none⟩ = some (.int .i64 eb) ∧ w'.cell? ⟨w.heap.size, 4, none⟩ = some (.bool false) ∧ w'.cell? ⟨w.heap.size + 1, 0, none⟩ = some (.bool na) ∧ w'.cell? ⟨w.heap.size + 1, 1, none⟩ = some (.int .u64 (ha : Int)) ∧ w'.cell? ⟨w.heap.size + 1, 2, none⟩ = some (.int .u64 (A : Int)) ∧ w'.cell? ⟨w.heap.size + 1, 3, none⟩ = some (.int .i64 ea) ∧ w'.cell? ⟨w.heap.size + 1, 4, none⟩ = some (.bool false))
     (exact ten_of (t := 105) (t' := 105) (by (repeat' (first | exact Blk.new_at _ _ _ (by simp) | apply Blk.drew | apply Blk.drewN | apply Blk.alloc))) (by (repeat' (first | exact Blk.new_at _ _ _ (by simp) | apply Blk.drew | apply Blk.drewN | apply Blk.alloc))))
     (first
       | (go_simp; go_at_call_of 143 (Value.agg #[Value.bool na, Value.int IntKind.u64 (ha : Int), Value.int IntKind.u64 (A : Int), Value.int IntKind.i64 ea, Value.bool false]); refine (HZa.out _).mono ?_; rintro r w' ⟨rfl, o, rfl⟩; dsimp only)
       | (go_simp; go_at_call_of 143 (Value.agg #[Value.bool nb, Value.int IntKind.u64 (hb : Int), Value.int IntKind.u64 (B : Int), Value.int IntKind.i64 eb, Value.bool false]); refine (HZb.out _).mono ?_; rintro r w' ⟨rfl, o, rfl⟩; dsimp only)
       | (go_simp; go_at_call_of 121 (Value.agg #[Value.bool na, Value.int IntKind.u64 (ha : Int), Value.int IntKind.u64 (A : Int), Value.int IntKind.i64 ea, Value.bool false]); refine (HLa.out _).mono ?_; rintro r w' ⟨rfl, o, rfl⟩; dsimp only)
       | (go_simp; go_at_call_of 121 (Value.agg #[Value.bool nb, Value.int IntKind.u64 (hb : Int), Value.int IntKind.u64 (B : Int), Value.int IntKind.i64 eb, Value.bool false]); refine (HLb.out _).mono ?_; rintro r w' ⟨rfl, o, rfl⟩; dsimp only))
   go_wp2_with fail
   go_meet
   refine ⟨?_, _, _, _, _, rfl⟩
   have hc := HC.out
   rw [show IntKind.i64.wrap (ea + (La : Int)) = ea + La by rw [IntKind.wrap_i64]; omega, show IntKind.i64.wrap (eb + (Lb : Int)) = eb + Lb by rw [IntKind.wrap_i64]; omega, decide_eq_true hc]
 case rest =>
   obtain ⟨rfl, o1, o2, o3, o4, rfl⟩ := hcut
   go_wp2_with fail
   refine (HZb.out _).mono ?_
   rintro r w' ⟨rfl, o5, rfl⟩
   go_wp2_with fail
   go_cut [] (fun wc => ∃ o1 o2 o3 o4 o5 o6 o7 o8 k, wc = (((((((((((w.alloc (exo na A1h A1l e1 false)).alloc (exo nb hb B eb false)).alloc (exo false 0 0 0 false)).alloc o1).alloc o2).alloc o3).alloc o4).alloc o5).alloc o6).alloc o7).alloc o8).drewN k)
   case first =>
     go_region_with (first
       | (go_at_call 121; refine (HLa.out _).mono ?_; rintro r w' ⟨rfl, o, rfl⟩)
       | (go_at_call 120; refine (HLf'.out _).mono ?_; rintro r w' ⟨rfl, k, o, o', rfl⟩))
     all_goals (go_wp2_with fail; go_meet; exact ⟨_, _, _, _, _, _, _, _, _, rfl⟩)
   case rest =>
     obtain ⟨o1, o2, o3, o4, o5, o6, o7, o8, k, rfl⟩ := hcut
     go_wp2_with fail
     refine (HB'.out _).mono ?_
     rintro r w' ⟨rfl, k', p1, p2, rfl⟩
     go_wp2_with fail
     (try simp only [Exit.inBlock, Exit.then])
     refine bodyPost_ret (res53b rfl _ _ (w.heap.size + 1 + 1) (.bool (!na)) (.int .u64 (F1 : Int)) (.int .u64 (F0 : Int)) (.int .i64 e1) (.bool false) rfl ?hh) rfl ?_
     case hh => exact ((((((((((((Blk.new_at _ _ _ (by simp)).alloc _).alloc _).alloc _).alloc _).alloc _).alloc _).alloc _).alloc _).alloc _).alloc _).drewN _)
     exact ⟨rfl, (below_drewN (below_more (below_more (below_more (below_more (below_more (below_more (below_more (below_more (below_more (below_more (below_more (below_more (below_new _ _) _) _) _) _) _) _) _) _) _) _) _) _) _)⟩
theorem sum_y_R_s (na nb : Bool) (ha hb A B : Nat) (ea eb : Int) (La Lb : Nat) (hLa : La ≤ 126) (hLb : Lb ≤ 126)
   (hea : -5000 ≤ ea) (hea2 : ea ≤ 5000) (heb : -5000 ≤ eb) (heb2 : eb ≤ 5000) (hc : eb + (Lb : Int) < ea + La)
   (hZa : ∀ w, Calls Tryz.prog 143 #[exv na ha A ea false] w fun r w' => r = .returned (.bool false) ∧ ∃ o, w' = w.alloc o)
   (hZb : ∀ w, Calls Tryz.prog 143 #[exv nb hb B eb false] w fun r w' => r = .returned (.bool false) ∧ ∃ o, w' = w.alloc o)
   (hLa' : ∀ w, Calls Tryz.prog 121 #[exv na ha A ea false] w fun r w' => r = .returned (.int .i64 (La : Int)) ∧ ∃ o, w' = w.alloc o)
   (hLb' : ∀ w, Calls Tryz.prog 121 #[exv nb hb B eb false] w fun r w' => r = .returned (.int .i64 (Lb : Int)) ∧ ∃ o, w' = w.alloc o)
   (A1h A1l : Nat) (e1 : Int) (HLf : ∀ w, Calls Tryz.prog 120 #[exv na ha A ea false, .int .i64 (IntKind.i64.wrap (126 - (La : Int)))] w fun r w' => r = .returned (exv na A1h A1l e1 false) ∧ ∃ k o o', w' = ((w.alloc o).alloc o').drewN k)
   (he1 : -10000 ≤ e1) (he12 : e1 ≤ 10000) (hcb : eb ≤ e1) (Bh Bl : Nat) (eb' : Int) (mb : Bool) (HB : ∀ w, Calls Tryz.prog 139 #[exv nb hb B eb false, .int .i64 (e1 - eb)] w fun r w' => r = .returned (exv nb Bh Bl eb' mb) ∧ ∃ k o o', w' = ((w.alloc o).alloc o').drewN k)
   (hs : (na == nb) = true) (S0 C0 S1 C1 : Nat) (HS0 : ∀ w, (callFunc 144 #[.int .u64 (A1l : Int), .int .u64 (Bl : Int), .int .u64 0]).run Tryz.prog w = .ok (.value (.tuple #[.int .u64 (S0 : Int), .int .u64 (C0 : Int)])) w)
   (HS1 : ∀ w, (callFunc 144 #[.int .u64 (A1h : Int), .int .u64 (Bh : Int), .int .u64 (C0 : Int)]).run Tryz.prog w = .ok (.value (.tuple #[.int .u64 (S1 : Int), .int .u64 (C1 : Int)])) w) (w : World) :
   Calls Tryz.prog 132 #[exv nb hb B eb false, exv na ha A ea false] w fun r w' => r = .returned (exv na S1 S0 e1 mb) ∧ Below w.heap.size w w' := by
 have HZa := Lib.hid hZa
 have HZb := Lib.hid hZb
 have HLa := Lib.hid hLa'
 have HLf' := Lib.hid HLf
 have HLb := Lib.hid hLb'
 have HC := Lib.hid hc
 have HB' := Lib.hid HB
 clear hZa hZb hLa' hLb' HLf hc HB
 go_enter Tryz.func132, Tryz.ntmps132
 go_wp2_with fail
 go_cut [26] (fun c wc => c = .bool true ∧ ∃ o1 o2 o3 o4, wc = (((((((w.alloc (exo nb hb B eb false)).alloc (exo na ha A ea false)).alloc (exo false 0 0 0 false)).alloc o1).alloc o2).alloc o3).alloc o4).drew)
 case first =>
   go_region_held3 (fun w' => w'.cell? ⟨w.heap.size, 0, none⟩ = some (.bool nb) ∧ w'.cell? ⟨w.heap.size, 1, none⟩ = some (.int .u64 (hb : Int)) ∧ w'.cell? ⟨w.heap.size, 2, none⟩ = some (.int .u64 (B : Int)) ∧ w'.cell? ⟨w.heap.size, 3, none⟩ = some (.int .i64 eb) ∧ w'.cell? ⟨w.heap.size, 4, none⟩ = some (.bool false) ∧ w'.cell? ⟨w.heap.size + 1, 0, none⟩ = some (.bool na) ∧ w'.cell? ⟨w.heap.size + 1, 1, none⟩ = some (.int .u64 (ha : Int)) ∧ w'.cell? ⟨w.heap.size + 1, 2, none⟩ = some (.int .u64 (A : Int)) ∧ w'.cell? ⟨w.heap.size + 1, 3, none⟩ = some (.int .i64 ea) ∧ w'.cell? ⟨w.heap.size + 1, 4, none⟩ = some (.bool false))
     (exact ten_of (t := 105) (t' := 105) (by (repeat' (first | exact Blk.new_at _ _ _ (by simp) | apply Blk.drew | apply Blk.drewN | apply Blk.alloc))) (by (repeat' (first | exact Blk.new_at _ _ _ (by simp) | apply Blk.drew | apply Blk.drewN | apply Blk.alloc))))
     (first
       | (go_simp; go_at_call_of 143 (Value.agg #[Value.bool na, Value.int IntKind.u64 (ha : Int), Value.int IntKind.u64 (A : Int), Value.int IntKind.i64 ea, Value.bool false]); refine (HZa.out _).mono ?_; rintro r w' ⟨rfl, o, rfl⟩; dsimp only)
       | (go_simp; go_at_call_of 143 (Value.agg #[Value.bool nb, Value.int IntKind.u64 (hb : Int), Value.int IntKind.u64 (B : Int), Value.int IntKind.i64 eb, Value.bool false]); refine (HZb.out _).mono ?_; rintro r w' ⟨rfl, o, rfl⟩; dsimp only)
       | (go_simp; go_at_call_of 121 (Value.agg #[Value.bool na, Value.int IntKind.u64 (ha : Int), Value.int IntKind.u64 (A : Int), Value.int IntKind.i64 ea, Value.bool false]); refine (HLa.out _).mono ?_; rintro r w' ⟨rfl, o, rfl⟩; dsimp only)
       | (go_simp; go_at_call_of 121 (Value.agg #[Value.bool nb, Value.int IntKind.u64 (hb : Int), Value.int IntKind.u64 (B : Int), Value.int IntKind.i64 eb, Value.bool false]); refine (HLb.out _).mono ?_; rintro r w' ⟨rfl, o, rfl⟩; dsimp only))
   go_wp2_with fail
   go_meet
   refine ⟨?_, _, _, _, _, rfl⟩
   have hc := HC.out
   rw [show IntKind.i64.wrap (ea + (La : Int)) = ea + La by rw [IntKind.wrap_i64]; omega, show IntKind.i64.wrap (eb + (Lb : Int)) = eb + Lb by rw [IntKind.wrap_i64]; omega, decide_eq_true hc]
 case rest =>
   obtain ⟨rfl, o1, o2, o3, o4, rfl⟩ := hcut
   go_wp2_with fail
   refine (HZb.out _).mono ?_
   rintro r w' ⟨rfl, o5, rfl⟩
   go_wp2_with fail
   go_cut [] (fun wc => ∃ o1 o2 o3 o4 o5 o6 o7 o8 k, wc = (((((((((((w.alloc (exo na A1h A1l e1 false)).alloc (exo nb hb B eb false)).alloc (exo false 0 0 0 false)).alloc o1).alloc o2).alloc o3).alloc o4).alloc o5).alloc o6).alloc o7).alloc o8).drewN k)
   case first =>
     go_region_with (first
       | (go_at_call 121; refine (HLa.out _).mono ?_; rintro r w' ⟨rfl, o, rfl⟩)
       | (go_at_call 120; refine (HLf'.out _).mono ?_; rintro r w' ⟨rfl, k, o, o', rfl⟩))
     all_goals (go_wp2_with fail; go_meet; exact ⟨_, _, _, _, _, _, _, _, _, rfl⟩)
   case rest =>
     obtain ⟨o1, o2, o3, o4, o5, o6, o7, o8, k, rfl⟩ := hcut
     go_wp2_with fail
     refine (HB'.out _).mono ?_
     rintro r w' ⟨rfl, k', p1, p2, rfl⟩
     go_wp2_with fail
     (try simp only [Exit.inBlock, Exit.then])
     refine bodyPost_ret (res53b rfl _ _ (w.heap.size + 1 + 1) (.bool na) (.int .u64 (S1 : Int)) (.int .u64 (S0 : Int)) (.int .i64 e1) (.bool mb) rfl ?hh) rfl ?_
     case hh => exact ((((((((((((Blk.new_at _ _ _ (by simp)).alloc _).alloc _).alloc _).alloc _).alloc _).alloc _).alloc _).alloc _).alloc _).alloc _).drewN _)
     exact ⟨rfl, (below_drewN (below_more (below_more (below_more (below_more (below_more (below_more (below_more (below_more (below_more (below_more (below_more (below_more (below_new _ _) _) _) _) _) _) _) _) _) _) _) _) _) _)⟩
end Go.Proofs.YtnljfcebmgifdaaGreat
