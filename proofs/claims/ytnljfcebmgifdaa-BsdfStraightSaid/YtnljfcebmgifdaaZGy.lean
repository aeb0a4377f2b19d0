/- Shaken: Gy. -/
import Derived.Test.YtnljfcebmgifdaaZVh
set_option maxRecDepth 100000
set_option maxHeartbeats 4000000
set_option linter.unusedVariables false
set_option linter.unusedSimpArgs false
namespace Go.Proofs.Ytnljfcebmgifdaa
open Go.RowKit Ieee
theorem radd_n_R_d0 (x y : Nat) (down na nb : Bool) (ha hb A B : Nat) (ea eb : Int) (La Lb : Nat) (hLa : La ≤ 126) (hLb : Lb ≤ 126)
   (hea : -5000 ≤ ea) (hea2 : ea ≤ 5000) (heb : -5000 ≤ eb) (heb2 : eb ≤ 5000) (hc : eb + (Lb : Int) ≤ ea + La) (hX0 : (FloatKind.f64.format.order x 0 == some .eq) = false) (hY0 : (FloatKind.f64.format.order y 0 == some .eq) = false)
   (hNx : ∀ w, Calls Try.prog 90 #[.float .f64 x] w fun e w' => e = .returned (.bool true) ∧ w = w') (hNy : ∀ w, Calls Try.prog 90 #[.float .f64 y] w fun e w' => e = .returned (.bool true) ∧ w = w')
   (hPx : ∀ w, Calls Try.prog 142 #[.float .f64 x] w fun r w' => r = .returned (.tuple #[wdv ha A ea false, .bool na]) ∧ ∃ o, w' = w.alloc o)
   (hPy : ∀ w, Calls Try.prog 142 #[.float .f64 y] w fun r w' => r = .returned (.tuple #[wdv hb B eb false, .bool nb]) ∧ ∃ o, w' = w.alloc o)
   (hLA : ∀ w, Calls Try.prog 144 #[wdv ha A ea false] w fun r w' => r = .returned (.int .i64 (La : Int)) ∧ ∃ o, w' = w.alloc o)
   (hLB : ∀ w, Calls Try.prog 144 #[wdv hb B eb false] w fun r w' => r = .returned (.int .i64 (Lb : Int)) ∧ ∃ o, w' = w.alloc o)
   (A1h A1l : Nat) (e1 : Int) (hUp : ∀ w, Calls Try.prog 143 #[wdv ha A ea false, .int .i64 (IntKind.i64.wrap (126 - (La : Int)))] w fun r w' => r = .returned (wdv A1h A1l e1 false) ∧ ∃ k o o', w' = ((w.alloc o).alloc o').drewN k)
   (he1 : -10000 ≤ e1) (he12 : e1 ≤ 10000) (hcb : eb < e1) (Bh Bl : Nat) (eb' : Int) (hB : ∀ w, Calls Try.prog 148 #[wdv hb B eb false, .int .i64 (e1 - eb)] w fun r w' => r = .returned (wdv Bh Bl eb' false) ∧ ∃ k o o', w' = ((w.alloc o).alloc o').drewN k)
   (hs : (na == nb) = false) (S1 S0 : Nat) (hBe : ∀ w, Calls Try.prog 146 #[wdv A1h A1l e1 false, wdv Bh Bl eb' false] w fun r w' => r = .returned (.bool false) ∧ ∃ o o', w' = (w.alloc o).alloc o') (hS : ∀ w, Calls Try.prog 150 #[wdv A1h A1l e1 false, wdv Bh Bl eb' false] w fun r w' => r = .returned (wdv S1 S0 e1 false) ∧ ∃ o o' o'' o3, w' = (((w.alloc o).alloc o').alloc o'').alloc o3)
   (v : Nat) (hO : ∀ w, Calls Try.prog 147 #[wdv S1 S0 e1 false, .bool na, .bool down] w fun r w' => r = .returned (.float .f64 v) ∧ Below w.heap.size w w') (w : World) :
   Calls Try.prog 113 #[.float .f64 x, .float .f64 y, .bool down] w fun r w' => r = .returned (numV v 0) ∧ Below w.heap.size w w' := by
 have HNx := Lib.hid hNx
 have HNy := Lib.hid hNy
 have HPx := Lib.hid hPx
 have HPy := Lib.hid hPy
 have HLA := Lib.hid hLA
 have HLB := Lib.hid hLB
 have HUp := Lib.hid hUp
 have HB := Lib.hid hB
 have HS := Lib.hid hS
 have HO := Lib.hid hO
 have HC := Lib.hid hc
 clear hNx hNy hPx hPy hLA hLB hUp hB hS hO hc
 have HBe := Lib.hid hBe
 clear hBe
 go_enter Try.func113, Try.ntmps113
 go_wp2_with fail
 refine (HNx.out _).mono ?_
 rintro e w' ⟨rfl, rfl⟩
 go_wp2_with fail
 refine (HNy.out _).mono ?_
 rintro e w' ⟨rfl, rfl⟩
 go_wp2_with fail
 refine (HPx.out _).mono ?_
 rintro e w' ⟨rfl, p1, rfl⟩
 go_wp2_with fail
 refine (HPy.out _).mono ?_
 rintro e w' ⟨rfl, p2, rfl⟩
 go_wp2_with fail
 go_cut [48] (fun c wc => c = .bool false ∧ ∃ p3 p4, wc = ((((((w.alloc p1).alloc (wdo ha A ea false)).alloc p2).alloc (wdo hb B eb false)).alloc p3).alloc p4).drew)
 case first =>
   go_region_held3 (fun w' => w'.cell? ⟨w.heap.size + 1, 0, none⟩ = some (.int .u64 (ha : Int)) ∧ w'.cell? ⟨w.heap.size + 1, 1, none⟩ = some (.int .u64 (A : Int)) ∧ w'.cell? ⟨w.heap.size + 1, 2, none⟩ = some (.int .i64 ea) ∧ w'.cell? ⟨w.heap.size + 1, 3, none⟩ = some (.bool false) ∧ w'.cell? ⟨w.heap.size + 1 + 1 + 1, 0, none⟩ = some (.int .u64 (hb : Int)) ∧ w'.cell? ⟨w.heap.size + 1 + 1 + 1, 1, none⟩ = some (.int .u64 (B : Int)) ∧ w'.cell? ⟨w.heap.size + 1 + 1 + 1, 2, none⟩ = some (.int .i64 eb) ∧ w'.cell? ⟨w.heap.size + 1 + 1 + 1, 3, none⟩ = some (.bool false))
     (exact eight_of (t := 136) (t' := 136) (by (repeat' (first | exact Blk.new_at _ _ _ (by simp) | apply Blk.drew | apply Blk.drewN | apply Blk.alloc))) (by (repeat' (first | exact Blk.new_at _ _ _ (by simp) | apply Blk.drew | apply Blk.drewN | apply Blk.alloc))))
     (first
       | (go_simp; go_at_call_of 144 (Value.agg #[Value.int IntKind.u64 (ha : Int), Value.int IntKind.u64 (A : Int), Value.int IntKind.i64 ea, Value.bool false]); refine (HLA.out _).mono ?_; rintro r w' ⟨rfl, o, rfl⟩; dsimp only)
       | (go_simp; go_at_call_of 144 (Value.agg #[Value.int IntKind.u64 (hb : Int), Value.int IntKind.u64 (B : Int), Value.int IntKind.i64 eb, Value.bool false]); refine (HLB.out _).mono ?_; rintro r w' ⟨rfl, o, rfl⟩; dsimp only))
   go_wp2_with fail
   go_meet
   refine ⟨?_, _, _, rfl⟩
   have hc := HC.out
   rw [show IntKind.i64.wrap ((La : Int) + ea) = ea + La by rw [IntKind.wrap_i64]; omega, show IntKind.i64.wrap ((Lb : Int) + eb) = eb + Lb by rw [IntKind.wrap_i64]; omega, decide_eq_false (Int.not_lt.2 hc)]
 case rest =>
   obtain ⟨rfl, p3, p4, rfl⟩ := hcut
   go_wp2_with fail
   go_cut [] (fun wc => ∃ p3 p4 p5 p6 p7 k, wc = (((((((((w.alloc p1).alloc (wdo A1h A1l e1 false)).alloc p2).alloc (wdo hb B eb false)).alloc p3).alloc p4).alloc p5).alloc p6).alloc p7).drewN k)
   case first =>
     go_region_with (first
       | (go_at_call 144; refine (HLA.out _).mono ?_; rintro r w' ⟨rfl, o, rfl⟩)
       | (go_at_call 143; refine (HUp.out _).mono ?_; rintro r w' ⟨rfl, k, o, o', rfl⟩))
     all_goals (go_wp2_with fail; go_meet; exact ⟨_, _, _, _, _, _, rfl⟩)
   case rest =>
     obtain ⟨p3, p4, p5, p6, p7, k, rfl⟩ := hcut
     go_wp2_with fail
     refine (HB.out _).mono ?_
     rintro r w' ⟨rfl, k', p8, p9, rfl⟩
     go_wp2_with fail
     refine (HBe.out _).mono ?_
     rintro r w' ⟨rfl, s00, s01, rfl⟩
     go_wp2_with fail
     refine (HS.out _).mono ?_
     rintro r w' ⟨rfl, s10, s11, s12, s13, rfl⟩
     go_wp2_with fail
     refine (HO.out _).mono ?_
     rintro r w' ⟨rfl, hb⟩
     have HBE := Lib.hid hb
     clear hb
     go_wp2_with fail
     go_ret2
     exact ⟨rfl, (below_drewN (below_more (below_more (below_more (below_more (below_more (below_more (below_more (below_more (below_more (below_more (below_more (below_more (below_more (below_more (below_more (below_more (below_more (below_new _ _) _) _) _) _) _) _) _) _) _) _) _) _) _) _) _) _) _) _).trans (HBE.out.mono (by simp; omega))⟩
theorem radd_n_R_d1 (x y : Nat) (down na nb : Bool) (ha hb A B : Nat) (ea eb : Int) (La Lb : Nat) (hLa : La ≤ 126) (hLb : Lb ≤ 126)
   (hea : -5000 ≤ ea) (hea2 : ea ≤ 5000) (heb : -5000 ≤ eb) (heb2 : eb ≤ 5000) (hc : eb + (Lb : Int) ≤ ea + La) (hX0 : (FloatKind.f64.format.order x 0 == some .eq) = false) (hY0 : (FloatKind.f64.format.order y 0 == some .eq) = false)
   (hNx : ∀ w, Calls Try.prog 90 #[.float .f64 x] w fun e w' => e = .returned (.bool true) ∧ w = w') (hNy : ∀ w, Calls Try.prog 90 #[.float .f64 y] w fun e w' => e = .returned (.bool true) ∧ w = w')
   (hPx : ∀ w, Calls Try.prog 142 #[.float .f64 x] w fun r w' => r = .returned (.tuple #[wdv ha A ea false, .bool na]) ∧ ∃ o, w' = w.alloc o)
   (hPy : ∀ w, Calls Try.prog 142 #[.float .f64 y] w fun r w' => r = .returned (.tuple #[wdv hb B eb false, .bool nb]) ∧ ∃ o, w' = w.alloc o)
   (hLA : ∀ w, Calls Try.prog 144 #[wdv ha A ea false] w fun r w' => r = .returned (.int .i64 (La : Int)) ∧ ∃ o, w' = w.alloc o)
   (hLB : ∀ w, Calls Try.prog 144 #[wdv hb B eb false] w fun r w' => r = .returned (.int .i64 (Lb : Int)) ∧ ∃ o, w' = w.alloc o)
   (A1h A1l : Nat) (e1 : Int) (hUp : ∀ w, Calls Try.prog 143 #[wdv ha A ea false, .int .i64 (IntKind.i64.wrap (126 - (La : Int)))] w fun r w' => r = .returned (wdv A1h A1l e1 false) ∧ ∃ k o o', w' = ((w.alloc o).alloc o').drewN k)
   (he1 : -10000 ≤ e1) (he12 : e1 ≤ 10000) (hcb : eb < e1) (Bh Bl : Nat) (eb' : Int) (hB : ∀ w, Calls Try.prog 148 #[wdv hb B eb false, .int .i64 (e1 - eb)] w fun r w' => r = .returned (wdv Bh Bl eb' true) ∧ ∃ k o o', w' = ((w.alloc o).alloc o').drewN k)
   (hs : (na == nb) = false) (T1 T0 S1 S0 : Nat) (hBe : ∀ w, Calls Try.prog 150 #[wdv A1h A1l e1 false, wdv Bh Bl eb' true] w fun r w' => r = .returned (wdv T1 T0 e1 false) ∧ ∃ o o' o'' o3, w' = (((w.alloc o).alloc o').alloc o'').alloc o3) (hS : ∀ w, Calls Try.prog 150 #[wdv T1 T0 e1 false, .agg #[.int .u64 0, .int .u64 1, .int .i64 0, .bool false]] w fun r w' => r = .returned (wdv S1 S0 e1 false) ∧ ∃ o o' o'' o3, w' = (((w.alloc o).alloc o').alloc o'').alloc o3)
   (v : Nat) (hO : ∀ w, Calls Try.prog 147 #[wdv S1 S0 e1 true, .bool na, .bool down] w fun r w' => r = .returned (.float .f64 v) ∧ Below w.heap.size w w') (w : World) :
   Calls Try.prog 113 #[.float .f64 x, .float .f64 y, .bool down] w fun r w' => r = .returned (numV v 0) ∧ Below w.heap.size w w' := by
 have HNx := Lib.hid hNx
 have HNy := Lib.hid hNy
 have HPx := Lib.hid hPx
 have HPy := Lib.hid hPy
 have HLA := Lib.hid hLA
 have HLB := Lib.hid hLB
 have HUp := Lib.hid hUp
 have HB := Lib.hid hB
 have HS := Lib.hid hS
 have HO := Lib.hid hO
 have HC := Lib.hid hc
 clear hNx hNy hPx hPy hLA hLB hUp hB hS hO hc
 have HBe := Lib.hid hBe
 clear hBe
 go_enter Try.func113, Try.ntmps113
 go_wp2_with fail
 refine (HNx.out _).mono ?_
 rintro e w' ⟨rfl, rfl⟩
 go_wp2_with fail
 refine (HNy.out _).mono ?_
 rintro e w' ⟨rfl, rfl⟩
 go_wp2_with fail
 refine (HPx.out _).mono ?_
 rintro e w' ⟨rfl, p1, rfl⟩
 go_wp2_with fail
 refine (HPy.out _).mono ?_
 rintro e w' ⟨rfl, p2, rfl⟩
 go_wp2_with fail
 go_cut [48] (fun c wc => c = .bool false ∧ ∃ p3 p4, wc = ((((((w.alloc p1).alloc (wdo ha A ea false)).alloc p2).alloc (wdo hb B eb false)).alloc p3).alloc p4).drew)
 case first =>
   go_region_held3 (fun w' => w'.cell? ⟨w.heap.size + 1, 0, none⟩ = some (.int .u64 (ha : Int)) ∧ w'.cell? ⟨w.heap.size + 1, 1, none⟩ = some (.int .u64 (A : Int)) ∧ w'.cell? ⟨w.heap.size + 1, 2, none⟩ = some (.int .i64 ea) ∧ w'.cell? ⟨w.heap.size + 1, 3, none⟩ = some (.bool false) ∧ w'.cell? ⟨w.heap.size + 1 + 1 + 1, 0, none⟩ = some (.int .u64 (hb : Int)) ∧ w'.cell? ⟨w.heap.size + 1 + 1 + 1, 1, none⟩ = some (.int .u64 (B : Int)) ∧ w'.cell? ⟨w.heap.size + 1 + 1 + 1, 2, none⟩ = some (.int .i64 eb) ∧ w'.cell? ⟨w.heap.size + 1 + 1 + 1, 3, none⟩ = some (.bool false))
     (exact eight_of (t := 136) (t' := 136) (by (repeat' (first | exact Blk.new_at _ _ _ (by simp) | apply Blk.drew | apply Blk.drewN | apply Blk.alloc))) (by (repeat' (first | exact Blk.new_at _ _ _ (by simp) | apply Blk.drew | apply Blk.drewN | apply Blk.alloc))))
     (first
       | (go_simp; go_at_call_of 144 (Value.agg #[Value.int IntKind.u64 (ha : Int), Value.int IntKind.u64 (A : Int), Value.int IntKind.i64 ea, Value.bool false]); refine (HLA.out _).mono ?_; rintro r w' ⟨rfl, o, rfl⟩; dsimp only)
       | (go_simp; go_at_call_of 144 (Value.agg #[Value.int IntKind.u64 (hb : Int), Value.int IntKind.u64 (B : Int), Value.int IntKind.i64 eb, Value.bool false]); refine (HLB.out _).mono ?_; rintro r w' ⟨rfl, o, rfl⟩; dsimp only))
   go_wp2_with fail
   go_meet
   refine ⟨?_, _, _, rfl⟩
   have hc := HC.out
   rw [show IntKind.i64.wrap ((La : Int) + ea) = ea + La by rw [IntKind.wrap_i64]; omega, show IntKind.i64.wrap ((Lb : Int) + eb) = eb + Lb by rw [IntKind.wrap_i64]; omega, decide_eq_false (Int.not_lt.2 hc)]
 case rest =>
   obtain ⟨rfl, p3, p4, rfl⟩ := hcut
   go_wp2_with fail
   go_cut [] (fun wc => ∃ p3 p4 p5 p6 p7 k, wc = (((((((((w.alloc p1).alloc (wdo A1h A1l e1 false)).alloc p2).alloc (wdo hb B eb false)).alloc p3).alloc p4).alloc p5).alloc p6).alloc p7).drewN k)
   case first =>
     go_region_with (first
       | (go_at_call 144; refine (HLA.out _).mono ?_; rintro r w' ⟨rfl, o, rfl⟩)
       | (go_at_call 143; refine (HUp.out _).mono ?_; rintro r w' ⟨rfl, k, o, o', rfl⟩))
     all_goals (go_wp2_with fail; go_meet; exact ⟨_, _, _, _, _, _, rfl⟩)
   case rest =>
     obtain ⟨p3, p4, p5, p6, p7, k, rfl⟩ := hcut
     go_wp2_with fail
     refine (HB.out _).mono ?_
     rintro r w' ⟨rfl, k', p8, p9, rfl⟩
     go_wp2_with fail
     refine (HBe.out _).mono ?_
     rintro r w' ⟨rfl, s00, s01, s02, s03, rfl⟩
     go_wp2_with fail
     refine (HS.out _).mono ?_
     rintro r w' ⟨rfl, s10, s11, s12, s13, rfl⟩
     go_wp2_with fail
     refine (HO.out _).mono ?_
     rintro r w' ⟨rfl, hb⟩
     have HBE := Lib.hid hb
     clear hb
     go_wp2_with fail
     go_ret2
     exact ⟨rfl, (below_drewN (below_more (below_more (below_more (below_more (below_more (below_more (below_more (below_more (below_more (below_more (below_more (below_more (below_more (below_more (below_more (below_more (below_more (below_more (below_more (below_new _ _) _) _) _) _) _) _) _) _) _) _) _) _) _) _) _) _) _) _) _) _).trans (HBE.out.mono (by simp; omega))⟩
end Go.Proofs.Ytnljfcebmgifdaa
namespace Go.Proofs.Ytnljfcebmgifdaa
open Go.RowKit Ieee
theorem radd_y_L_s (x y : Nat) (down na nb : Bool) (ha hb A B : Nat) (ea eb : Int) (La Lb : Nat) (hLa : La ≤ 126) (hLb : Lb ≤ 126)
   (hea : -5000 ≤ ea) (hea2 : ea ≤ 5000) (heb : -5000 ≤ eb) (heb2 : eb ≤ 5000) (hc : eb + (Lb : Int) < ea + La) (hX0 : (FloatKind.f64.format.order x 0 == some .eq) = false) (hY0 : (FloatKind.f64.format.order y 0 == some .eq) = false)
   (hNx : ∀ w, Calls Try.prog 90 #[.float .f64 x] w fun e w' => e = .returned (.bool true) ∧ w = w') (hNy : ∀ w, Calls Try.prog 90 #[.float .f64 y] w fun e w' => e = .returned (.bool true) ∧ w = w')
   (hPx : ∀ w, Calls Try.prog 142 #[.float .f64 x] w fun r w' => r = .returned (.tuple #[wdv hb B eb false, .bool nb]) ∧ ∃ o, w' = w.alloc o)
   (hPy : ∀ w, Calls Try.prog 142 #[.float .f64 y] w fun r w' => r = .returned (.tuple #[wdv ha A ea false, .bool na]) ∧ ∃ o, w' = w.alloc o)
   (hLA : ∀ w, Calls Try.prog 144 #[wdv ha A ea false] w fun r w' => r = .returned (.int .i64 (La : Int)) ∧ ∃ o, w' = w.alloc o)
   (hLB : ∀ w, Calls Try.prog 144 #[wdv hb B eb false] w fun r w' => r = .returned (.int .i64 (Lb : Int)) ∧ ∃ o, w' = w.alloc o)
   (A1h A1l : Nat) (e1 : Int) (hUp : ∀ w, Calls Try.prog 143 #[wdv ha A ea false, .int .i64 (IntKind.i64.wrap (126 - (La : Int)))] w fun r w' => r = .returned (wdv A1h A1l e1 false) ∧ ∃ k o o', w' = ((w.alloc o).alloc o').drewN k)
   (he1 : -10000 ≤ e1) (he12 : e1 ≤ 10000) (hcb : e1 ≤ eb) (Bh Bl : Nat) (eb' : Int) (hB : ∀ w, Calls Try.prog 143 #[wdv hb B eb false, .int .i64 (eb - e1)] w fun r w' => r = .returned (wdv Bh Bl eb' false) ∧ ∃ k o o', w' = ((w.alloc o).alloc o').drewN k)
   (hs : (na == nb) = true) (S1 S0 : Nat) (hS : ∀ w, Calls Try.prog 149 #[wdv A1h A1l e1 false, wdv Bh Bl eb' false] w fun r w' => r = .returned (wdv S1 S0 e1 false) ∧ ∃ o o' o'' o3, w' = (((w.alloc o).alloc o').alloc o'').alloc o3)
   (v : Nat) (hO : ∀ w, Calls Try.prog 147 #[wdv S1 S0 e1 false, .bool na, .bool down] w fun r w' => r = .returned (.float .f64 v) ∧ Below w.heap.size w w') (w : World) :
   Calls Try.prog 113 #[.float .f64 x, .float .f64 y, .bool down] w fun r w' => r = .returned (numV v 0) ∧ Below w.heap.size w w' := by
 have HNx := Lib.hid hNx
 have HNy := Lib.hid hNy
 have HPx := Lib.hid hPx
 have HPy := Lib.hid hPy
 have HLA := Lib.hid hLA
 have HLB := Lib.hid hLB
 have HUp := Lib.hid hUp
 have HB := Lib.hid hB
 have HS := Lib.hid hS
 have HO := Lib.hid hO
 have HC := Lib.hid hc
 clear hNx hNy hPx hPy hLA hLB hUp hB hS hO hc
 go_enter Try.func113, Try.ntmps113
 go_wp2_with fail
 refine (HNx.out _).mono ?_
 rintro e w' ⟨rfl, rfl⟩
 go_wp2_with fail
 refine (HNy.out _).mono ?_
 rintro e w' ⟨rfl, rfl⟩
 go_wp2_with fail
 refine (HPx.out _).mono ?_
 rintro e w' ⟨rfl, p1, rfl⟩
 go_wp2_with fail
 refine (HPy.out _).mono ?_
 rintro e w' ⟨rfl, p2, rfl⟩
 go_wp2_with fail
 go_cut [48] (fun c wc => c = .bool true ∧ ∃ p3 p4, wc = ((((((w.alloc p1).alloc (wdo hb B eb false)).alloc p2).alloc (wdo ha A ea false)).alloc p3).alloc p4).drew)
 case first =>
   go_region_held3 (fun w' => w'.cell? ⟨w.heap.size + 1, 0, none⟩ = some (.int .u64 (hb : Int)) ∧ w'.cell? ⟨w.heap.size + 1, 1, none⟩ = some (.int .u64 (B : Int)) ∧ w'.cell? ⟨w.heap.size + 1, 2, none⟩ = some (.int .i64 eb) ∧ w'.cell? ⟨w.heap.size + 1, 3, none⟩ = some (.bool false) ∧ w'.cell? ⟨w.heap.size + 1 + 1 + 1, 0, none⟩ = some (.int .u64 (ha : Int)) ∧ w'.cell? ⟨w.heap.size + 1 + 1 + 1, 1, none⟩ = some (.int .u64 (A : Int)) ∧ w'.cell? ⟨w.heap.size + 1 + 1 + 1, 2, none⟩ = some (.int .i64 ea) ∧ w'.cell? ⟨w.heap.size + 1 + 1 + 1, 3, none⟩ = some (.bool false))
     (exact eight_of (t := 136) (t' := 136) (by (repeat' (first | exact Blk.new_at _ _ _ (by simp) | apply Blk.drew | apply Blk.drewN | apply Blk.alloc))) (by (repeat' (first | exact Blk.new_at _ _ _ (by simp) | apply Blk.drew | apply Blk.drewN | apply Blk.alloc))))
     (first
       | (go_simp; go_at_call_of 144 (Value.agg #[Value.int IntKind.u64 (ha : Int), Value.int IntKind.u64 (A : Int), Value.int IntKind.i64 ea, Value.bool false]); refine (HLA.out _).mono ?_; rintro r w' ⟨rfl, o, rfl⟩; dsimp only)
       | (go_simp; go_at_call_of 144 (Value.agg #[Value.int IntKind.u64 (hb : Int), Value.int IntKind.u64 (B : Int), Value.int IntKind.i64 eb, Value.bool false]); refine (HLB.out _).mono ?_; rintro r w' ⟨rfl, o, rfl⟩; dsimp only))
   go_wp2_with fail
   go_meet
   refine ⟨?_, _, _, rfl⟩
   have hc := HC.out
   rw [show IntKind.i64.wrap ((La : Int) + ea) = ea + La by rw [IntKind.wrap_i64]; omega, show IntKind.i64.wrap ((Lb : Int) + eb) = eb + Lb by rw [IntKind.wrap_i64]; omega, decide_eq_true hc]
 case rest =>
   obtain ⟨rfl, p3, p4, rfl⟩ := hcut
   go_wp2_with fail
   go_cut [] (fun wc => ∃ p3 p4 p5 p6 p7 k, wc = (((((((((w.alloc p1).alloc (wdo A1h A1l e1 false)).alloc p2).alloc (wdo hb B eb false)).alloc p3).alloc p4).alloc p5).alloc p6).alloc p7).drewN k)
   case first =>
     go_region_with (first
       | (go_at_call 144; refine (HLA.out _).mono ?_; rintro r w' ⟨rfl, o, rfl⟩)
       | (go_at_call 143; refine (HUp.out _).mono ?_; rintro r w' ⟨rfl, k, o, o', rfl⟩))
     all_goals (go_wp2_with fail; go_meet; exact ⟨_, _, _, _, _, _, rfl⟩)
   case rest =>
     obtain ⟨p3, p4, p5, p6, p7, k, rfl⟩ := hcut
     go_wp2_with fail
     refine (HB.out _).mono ?_
     rintro r w' ⟨rfl, k', p8, p9, rfl⟩
     go_wp2_with fail
     refine (HS.out _).mono ?_
     rintro r w' ⟨rfl, s00, s01, s02, s03, rfl⟩
     go_wp2_with fail
     refine (HO.out _).mono ?_
     rintro r w' ⟨rfl, hb⟩
     have HBE := Lib.hid hb
     clear hb
     go_wp2_with fail
     go_ret2
     exact ⟨rfl, (below_drewN (below_more (below_more (below_more (below_more (below_more (below_more (below_more (below_more (below_more (below_more (below_more (below_more (below_more (below_more (below_new _ _) _) _) _) _) _) _) _) _) _) _) _) _) _) _) _).trans (HBE.out.mono (by simp; omega))⟩
theorem radd_y_L_d0 (x y : Nat) (down na nb : Bool) (ha hb A B : Nat) (ea eb : Int) (La Lb : Nat) (hLa : La ≤ 126) (hLb : Lb ≤ 126)
   (hea : -5000 ≤ ea) (hea2 : ea ≤ 5000) (heb : -5000 ≤ eb) (heb2 : eb ≤ 5000) (hc : eb + (Lb : Int) < ea + La) (hX0 : (FloatKind.f64.format.order x 0 == some .eq) = false) (hY0 : (FloatKind.f64.format.order y 0 == some .eq) = false)
   (hNx : ∀ w, Calls Try.prog 90 #[.float .f64 x] w fun e w' => e = .returned (.bool true) ∧ w = w') (hNy : ∀ w, Calls Try.prog 90 #[.float .f64 y] w fun e w' => e = .returned (.bool true) ∧ w = w')
   (hPx : ∀ w, Calls Try.prog 142 #[.float .f64 x] w fun r w' => r = .returned (.tuple #[wdv hb B eb false, .bool nb]) ∧ ∃ o, w' = w.alloc o)
   (hPy : ∀ w, Calls Try.prog 142 #[.float .f64 y] w fun r w' => r = .returned (.tuple #[wdv ha A ea false, .bool na]) ∧ ∃ o, w' = w.alloc o)
   (hLA : ∀ w, Calls Try.prog 144 #[wdv ha A ea false] w fun r w' => r = .returned (.int .i64 (La : Int)) ∧ ∃ o, w' = w.alloc o)
   (hLB : ∀ w, Calls Try.prog 144 #[wdv hb B eb false] w fun r w' => r = .returned (.int .i64 (Lb : Int)) ∧ ∃ o, w' = w.alloc o)
   (A1h A1l : Nat) (e1 : Int) (hUp : ∀ w, Calls Try.prog 143 #[wdv ha A ea false, .int .i64 (IntKind.i64.wrap (126 - (La : Int)))] w fun r w' => r = .returned (wdv A1h A1l e1 false) ∧ ∃ k o o', w' = ((w.alloc o).alloc o').drewN k)
   (he1 : -10000 ≤ e1) (he12 : e1 ≤ 10000) (hcb : e1 ≤ eb) (Bh Bl : Nat) (eb' : Int) (hB : ∀ w, Calls Try.prog 143 #[wdv hb B eb false, .int .i64 (eb - e1)] w fun r w' => r = .returned (wdv Bh Bl eb' false) ∧ ∃ k o o', w' = ((w.alloc o).alloc o').drewN k)
   (hs : (na == nb) = false) (S1 S0 : Nat) (hBe : ∀ w, Calls Try.prog 146 #[wdv A1h A1l e1 false, wdv Bh Bl eb' false] w fun r w' => r = .returned (.bool false) ∧ ∃ o o', w' = (w.alloc o).alloc o') (hS : ∀ w, Calls Try.prog 150 #[wdv A1h A1l e1 false, wdv Bh Bl eb' false] w fun r w' => r = .returned (wdv S1 S0 e1 false) ∧ ∃ o o' o'' o3, w' = (((w.alloc o).alloc o').alloc o'').alloc o3)
   (v : Nat) (hO : ∀ w, Calls Try.prog 147 #[wdv S1 S0 e1 false, .bool na, .bool down] w fun r w' => r = .returned (.float .f64 v) ∧ Below w.heap.size w w') (w : World) :
   Calls Try.prog 113 #[.float .f64 x, .float .f64 y, .bool down] w fun r w' => r = .returned (numV v 0) ∧ Below w.heap.size w w' := by
 have HNx := Lib.hid hNx
 have HNy := Lib.hid hNy
 have HPx := Lib.hid hPx
 have HPy := Lib.hid hPy
 have HLA := Lib.hid hLA
 have HLB := Lib.hid hLB
 have HUp := Lib.hid hUp
 have HB := Lib.hid hB
 have HS := Lib.hid hS
 have HO := Lib.hid hO
 have HC := Lib.hid hc
 clear hNx hNy hPx hPy hLA hLB hUp hB hS hO hc
 have HBe := Lib.hid hBe
 clear hBe
 go_enter Try.func113, Try.ntmps113
 go_wp2_with fail
 refine (HNx.out _).mono ?_
 rintro e w' ⟨rfl, rfl⟩
 go_wp2_with fail
 refine (HNy.out _).mono ?_
 rintro e w' ⟨rfl, rfl⟩
 go_wp2_with fail
 refine (HPx.out _).mono ?_
 rintro e w' ⟨rfl, p1, rfl⟩
 go_wp2_with fail
 refine (HPy.out _).mono ?_
 rintro e w' ⟨rfl, p2, rfl⟩
 go_wp2_with fail
 go_cut [48] (fun c wc => c = .bool true ∧ ∃ p3 p4, wc = ((((((w.alloc p1).alloc (wdo hb B eb false)).alloc p2).alloc (wdo ha A ea false)).alloc p3).alloc p4).drew)
 case first =>
   go_region_held3 (fun w' => w'.cell? ⟨w.heap.size + 1, 0, none⟩ = some (.int .u64 (hb : Int)) ∧ w'.cell? ⟨w.heap.size + 1, 1, none⟩ = some (.int .u64 (B : Int)) ∧ w'.cell? ⟨w.heap.size + 1, 2, none⟩ = some (.int .i64 eb) ∧ w'.cell? ⟨w.heap.size + 1, 3, none⟩ = some (.bool false) ∧ w'.cell? ⟨w.heap.size + 1 + 1 + 1, 0, none⟩ = some (.int .u64 (ha : Int)) ∧ w'.cell? ⟨w.heap.size + 1 + 1 + 1, 1, none⟩ = some (.int .u64 (A : Int)) ∧ w'.cell? ⟨w.heap.size + 1 + 1 + 1, 2, none⟩ = some (.int .i64 ea) ∧ w'.cell? ⟨w.heap.size + 1 + 1 + 1, 3, none⟩ = some (.bool false))
     (exact eight_of (t := 136) (t' := 136) (by (repeat' (first | exact Blk.new_at _ _ _ (by simp) | apply Blk.drew | apply Blk.drewN | apply Blk.alloc))) (by (repeat' (first | exact Blk.new_at _ _ _ (by simp) | apply Blk.drew | apply Blk.drewN | apply Blk.alloc))))
     (first
       | (go_simp; go_at_call_of 144 (Value.agg #[Value.int IntKind.u64 (ha : Int), Value.int IntKind.u64 (A : Int), Value.int IntKind.i64 ea, Value.bool false]); refine (HLA.out _).mono ?_; rintro r w' ⟨rfl, o, rfl⟩; dsimp only)
       | (go_simp; go_at_call_of 144 (Value.agg #[Value.int IntKind.u64 (hb : Int), Value.int IntKind.u64 (B : Int), Value.int IntKind.i64 eb, Value.bool false]); refine (HLB.out _).mono ?_; rintro r w' ⟨rfl, o, rfl⟩; dsimp only))
   go_wp2_with fail
   go_meet
   refine ⟨?_, _, _, rfl⟩
   have hc := HC.out
   rw [show IntKind.i64.wrap ((La : Int) + ea) = ea + La by rw [IntKind.wrap_i64]; omega, show IntKind.i64.wrap ((Lb : Int) + eb) = eb + Lb by rw [IntKind.wrap_i64]; omega, decide_eq_true hc]
 case rest =>
   obtain ⟨rfl, p3, p4, rfl⟩ := hcut
   go_wp2_with fail
   go_cut [] (fun wc => ∃ p3 p4 p5 p6 p7 k, wc = (((((((((w.alloc p1).alloc (wdo A1h A1l e1 false)).alloc p2).alloc (wdo hb B eb false)).alloc p3).alloc p4).alloc p5).alloc p6).alloc p7).drewN k)
   case first =>
     go_region_with (first
       | (go_at_call 144; refine (HLA.out _).mono ?_; rintro r w' ⟨rfl, o, rfl⟩)
       | (go_at_call 143; refine (HUp.out _).mono ?_; rintro r w' ⟨rfl, k, o, o', rfl⟩))
     all_goals (go_wp2_with fail; go_meet; exact ⟨_, _, _, _, _, _, rfl⟩)
   case rest =>
     obtain ⟨p3, p4, p5, p6, p7, k, rfl⟩ := hcut
     go_wp2_with fail
     refine (HB.out _).mono ?_
     rintro r w' ⟨rfl, k', p8, p9, rfl⟩
     go_wp2_with fail
     refine (HBe.out _).mono ?_
     rintro r w' ⟨rfl, s00, s01, rfl⟩
     go_wp2_with fail
     refine (HS.out _).mono ?_
     rintro r w' ⟨rfl, s10, s11, s12, s13, rfl⟩
     go_wp2_with fail
     refine (HO.out _).mono ?_
     rintro r w' ⟨rfl, hb⟩
     have HBE := Lib.hid hb
     clear hb
     go_wp2_with fail
     go_ret2
     exact ⟨rfl, (below_drewN (below_more (below_more (below_more (below_more (below_more (below_more (below_more (below_more (below_more (below_more (below_more (below_more (below_more (below_more (below_more (below_more (below_more (below_new _ _) _) _) _) _) _) _) _) _) _) _) _) _) _) _) _) _) _) _).trans (HBE.out.mono (by simp; omega))⟩
end Go.Proofs.Ytnljfcebmgifdaa
