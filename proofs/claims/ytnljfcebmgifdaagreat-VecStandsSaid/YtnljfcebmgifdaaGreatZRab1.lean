/- Shaken: Gx Gy Gz Vl Gd. -/
import Derived.Test.YtnljfcebmgifdaaGreatZRab
import Derived.Test.YtnljfcebmgifdaaGreatZGd
set_option maxRecDepth 100000
set_option maxHeartbeats 4000000
set_option linter.unusedVariables false
set_option linter.unusedSimpArgs false
namespace Go.Proofs.YtnljfcebmgifdaaGreat
open Go.RowKit Ieee
theorem radd_n_L_s (x y : Nat) (down na nb : Bool) (ha hb A B : Nat) (ea eb : Int) (La Lb : Nat) (hLa : La ≤ 126) (hLb : Lb ≤ 126)
   (hea : -5000 ≤ ea) (hea2 : ea ≤ 5000) (heb : -5000 ≤ eb) (heb2 : eb ≤ 5000) (hc : eb + (Lb : Int) ≤ ea + La) (hX0 : (FloatKind.f64.format.order x 0 == some .eq) = false) (hY0 : (FloatKind.f64.format.order y 0 == some .eq) = false)
   (hNx : ∀ w, Calls Tryz.prog 92 #[.float .f64 x] w fun e w' => e = .returned (.bool true) ∧ w = w') (hNy : ∀ w, Calls Tryz.prog 92 #[.float .f64 y] w fun e w' => e = .returned (.bool true) ∧ w = w')
   (hPx : ∀ w, Calls Tryz.prog 125 #[.float .f64 x] w fun r w' => r = .returned (.tuple #[wdv ha A ea false, .bool na]) ∧ ∃ o, w' = w.alloc o)
   (hPy : ∀ w, Calls Tryz.prog 125 #[.float .f64 y] w fun r w' => r = .returned (.tuple #[wdv hb B eb false, .bool nb]) ∧ ∃ o, w' = w.alloc o)
   (hLA : ∀ w, Calls Tryz.prog 127 #[wdv ha A ea false] w fun r w' => r = .returned (.int .i64 (La : Int)) ∧ ∃ o, w' = w.alloc o)
   (hLB : ∀ w, Calls Tryz.prog 127 #[wdv hb B eb false] w fun r w' => r = .returned (.int .i64 (Lb : Int)) ∧ ∃ o, w' = w.alloc o)
   (A1h A1l : Nat) (e1 : Int) (hUp : ∀ w, Calls Tryz.prog 126 #[wdv ha A ea false, .int .i64 (IntKind.i64.wrap (126 - (La : Int)))] w fun r w' => r = .returned (wdv A1h A1l e1 false) ∧ ∃ k o o', w' = ((w.alloc o).alloc o').drewN k)
   (he1 : -10000 ≤ e1) (he12 : e1 ≤ 10000) (hcb : e1 ≤ eb) (Bh Bl : Nat) (eb' : Int) (hB : ∀ w, Calls Tryz.prog 126 #[wdv hb B eb false, .int .i64 (eb - e1)] w fun r w' => r = .returned (wdv Bh Bl eb' false) ∧ ∃ k o o', w' = ((w.alloc o).alloc o').drewN k)
   (hs : (na == nb) = true) (S1 S0 : Nat) (hS : ∀ w, Calls Tryz.prog 135 #[wdv A1h A1l e1 false, wdv Bh Bl eb' false] w fun r w' => r = .returned (wdv S1 S0 e1 false) ∧ ∃ o o' o'' o3, w' = (((w.alloc o).alloc o').alloc o'').alloc o3)
   (v : Nat) (hO : ∀ w, Calls Tryz.prog 130 #[wdv S1 S0 e1 false, .bool na, .bool down] w fun r w' => r = .returned (.float .f64 v) ∧ Below w.heap.size w w') (w : World) :
   Calls Tryz.prog 109 #[.float .f64 x, .float .f64 y, .bool down] w fun r w' => r = .returned (numV v 0) ∧ Below w.heap.size w w' := by
 have HNx := Lib.hid hNx
 have HNy := Lib.hid hNy
 have HPx := Lib.hid hPx
 have HPy := Lib.hid hPy
 have HLA := Lib.hid hLA
 have HLB := Lib.hid hLB
 have HUp := Lib.hid hUp
 have HB := Lib.hid hB
 have HS := Lib.hid hS
 have HO := Lib.hid hO
 have HC := Lib.hid hc
 clear hNx hNy hPx hPy hLA hLB hUp hB hS hO hc
 go_enter Tryz.func109, Tryz.ntmps109
 go_wp2_with fail
 refine (HNx.out _).mono ?_
 rintro e w' ⟨rfl, rfl⟩
 go_wp2_with fail
 refine (HNy.out _).mono ?_
 rintro e w' ⟨rfl, rfl⟩
 go_wp2_with fail
 refine (HPx.out _).mono ?_
 rintro e w' ⟨rfl, p1, rfl⟩
 go_wp2_with fail
 refine (HPy.out _).mono ?_
 rintro e w' ⟨rfl, p2, rfl⟩
 go_wp2_with fail
 go_cut [48] (fun c wc => c = .bool false ∧ ∃ p3 p4, wc = ((((((w.alloc p1).alloc (wdo ha A ea false)).alloc p2).alloc (wdo hb B eb false)).alloc p3).alloc p4).drew)
 case first =>
   go_region_held3 (fun w' => w'.cell? ⟨w.heap.size + 1, 0, none⟩ = some (.int .u64 (ha : Int)) ∧ w'.cell? ⟨w.heap.size + 1, 1, none⟩ = some (.int .u64 (A : Int)) ∧ w'.cell? ⟨w.heap.size + 1, 2, none⟩ = some (.int .i64 ea) ∧ w'.cell? ⟨w.heap.size + 1, 3, none⟩ = some (.bool false) ∧ w'.cell? ⟨w.heap.size + 1 + 1 + 1, 0, none⟩ = some (.int .u64 (hb : Int)) ∧ w'.cell? ⟨w.heap.size + 1 + 1 + 1, 1, none⟩ = some (.int .u64 (B : Int)) ∧ w'.cell? ⟨w.heap.size + 1 + 1 + 1, 2, none⟩ = some (.int .i64 eb) ∧ w'.cell? ⟨w.heap.size + 1 + 1 + 1, 3, none⟩ = some (.bool false))
     (exact eight_of (t := 115) (t' := 115) (by (repeat' (first | exact Blk.new_at _ _ _ (by simp) | apply Blk.drew | apply Blk.drewN | apply Blk.alloc))) (by (repeat' (first | exact Blk.new_at _ _ _ (by simp) | apply Blk.drew | apply Blk.drewN | apply Blk.alloc))))
     (first
       | (go_simp; go_at_call_of 127 (Value.agg #[Value.int IntKind.u64 (ha : Int), Value.int IntKind.u64 (A : Int), Value.int IntKind.i64 ea, Value.bool false]); refine (HLA.out _).mono ?_; rintro r w' ⟨rfl, o, rfl⟩; dsimp only)
       | (go_simp; go_at_call_of 127 (Value.agg #[Value.int IntKind.u64 (hb : Int), Value.int IntKind.u64 (B : Int), Value.int IntKind.i64 eb, Value.bool false]); refine (HLB.out _).mono ?_; rintro r w' ⟨rfl, o, rfl⟩; dsimp only))
   go_wp2_with fail
   go_meet
   refine ⟨?_, _, _, rfl⟩
   have hc := HC.out
   rw [show IntKind.i64.wrap ((La : Int) + ea) = ea + La by rw [IntKind.wrap_i64]; omega, show IntKind.i64.wrap ((Lb : Int) + eb) = eb + Lb by rw [IntKind.wrap_i64]; omega, decide_eq_false (Int.not_lt.2 hc)]
 case rest =>
   obtain ⟨rfl, p3, p4, rfl⟩ := hcut
   go_wp2_with fail
   go_cut [] (fun wc => ∃ p3 p4 p5 p6 p7 k, wc = (((((((((w.alloc p1).alloc (wdo A1h A1l e1 false)).alloc p2).alloc (wdo hb B eb false)).alloc p3).alloc p4).alloc p5).alloc p6).alloc p7).drewN k)
   case first =>
     go_region_with (first
       | (go_at_call 127; refine (HLA.out _).mono ?_; rintro r w' ⟨rfl, o, rfl⟩)
       | (go_at_call 126; refine (HUp.out _).mono ?_; rintro r w' ⟨rfl, k, o, o', rfl⟩))
     all_goals (go_wp2_with fail; go_meet; exact ⟨_, _, _, _, _, _, rfl⟩)
   case rest =>
     obtain ⟨p3, p4, p5, p6, p7, k, rfl⟩ := hcut
     go_wp2_with fail
     refine (HB.out _).mono ?_
     rintro r w' ⟨rfl, k', p8, p9, rfl⟩
     go_wp2_with fail
     refine (HS.out _).mono ?_
     rintro r w' ⟨rfl, s00, s01, s02, s03, rfl⟩
     go_wp2_with fail
     refine (HO.out _).mono ?_
     rintro r w' ⟨rfl, hb⟩
     have HBE := Lib.hid hb
     clear hb
     go_wp2_with fail
     go_ret2
     exact ⟨rfl, (below_drewN (below_more (below_more (below_more (below_more (below_more (below_more (below_more (below_more (below_more (below_more (below_more (below_more (below_more (below_more (below_new _ _) _) _) _) _) _) _) _) _) _) _) _) _) _) _) _).trans (HBE.out.mono (by simp; omega))⟩
theorem radd_n_L_d0 (x y : Nat) (down na nb : Bool) (ha hb A B : Nat) (ea eb : Int) (La Lb : Nat) (hLa : La ≤ 126) (hLb : Lb ≤ 126)
   (hea : -5000 ≤ ea) (hea2 : ea ≤ 5000) (heb : -5000 ≤ eb) (heb2 : eb ≤ 5000) (hc : eb + (Lb : Int) ≤ ea + La) (hX0 : (FloatKind.f64.format.order x 0 == some .eq) = false) (hY0 : (FloatKind.f64.format.order y 0 == some .eq) = false)
   (hNx : ∀ w, Calls Tryz.prog 92 #[.float .f64 x] w fun e w' => e = .returned (.bool true) ∧ w = w') (hNy : ∀ w, Calls Tryz.prog 92 #[.float .f64 y] w fun e w' => e = .returned (.bool true) ∧ w = w')
   (hPx : ∀ w, Calls Tryz.prog 125 #[.float .f64 x] w fun r w' => r = .returned (.tuple #[wdv ha A ea false, .bool na]) ∧ ∃ o, w' = w.alloc o)
   (hPy : ∀ w, Calls Tryz.prog 125 #[.float .f64 y] w fun r w' => r = .returned (.tuple #[wdv hb B eb false, .bool nb]) ∧ ∃ o, w' = w.alloc o)
   (hLA : ∀ w, Calls Tryz.prog 127 #[wdv ha A ea false] w fun r w' => r = .returned (.int .i64 (La : Int)) ∧ ∃ o, w' = w.alloc o)
   (hLB : ∀ w, Calls Tryz.prog 127 #[wdv hb B eb false] w fun r w' => r = .returned (.int .i64 (Lb : Int)) ∧ ∃ o, w' = w.alloc o)
   (A1h A1l : Nat) (e1 : Int) (hUp : ∀ w, Calls Tryz.prog 126 #[wdv ha A ea false, .int .i64 (IntKind.i64.wrap (126 - (La : Int)))] w fun r w' => r = .returned (wdv A1h A1l e1 false) ∧ ∃ k o o', w' = ((w.alloc o).alloc o').drewN k)
   (he1 : -10000 ≤ e1) (he12 : e1 ≤ 10000) (hcb : e1 ≤ eb) (Bh Bl : Nat) (eb' : Int) (hB : ∀ w, Calls Tryz.prog 126 #[wdv hb B eb false, .int .i64 (eb - e1)] w fun r w' => r = .returned (wdv Bh Bl eb' false) ∧ ∃ k o o', w' = ((w.alloc o).alloc o').drewN k)
   (hs : (na == nb) = false) (S1 S0 : Nat) (hBe : ∀ w, Calls Tryz.prog 129 #[wdv A1h A1l e1 false, wdv Bh Bl eb' false] w fun r w' => r = .returned (.bool false) ∧ ∃ o o', w' = (w.alloc o).alloc o') (hS : ∀ w, Calls Tryz.prog 136 #[wdv A1h A1l e1 false, wdv Bh Bl eb' false] w fun r w' => r = .returned (wdv S1 S0 e1 false) ∧ ∃ o o' o'' o3, w' = (((w.alloc o).alloc o').alloc o'').alloc o3)
   (v : Nat) (hO : ∀ w, Calls Tryz.prog 130 #[wdv S1 S0 e1 false, .bool na, .bool down] w fun r w' => r = .returned (.float .f64 v) ∧ Below w.heap.size w w') (w : World) :
   Calls Tryz.prog 109 #[.float .f64 x, .float .f64 y, .bool down] w fun r w' => r = .returned (numV v 0) ∧ Below w.heap.size w w' := by
 have HNx := Lib.hid hNx
 have HNy := Lib.hid hNy
 have HPx := Lib.hid hPx
 have HPy := Lib.hid hPy
 have HLA := Lib.hid hLA
 have HLB := Lib.hid hLB
 have HUp := Lib.hid hUp
 have HB := Lib.hid hB
 have HS := Lib.hid hS
 have HO := Lib.hid hO
 have HC := Lib.hid hc
 clear hNx hNy hPx hPy hLA hLB hUp hB hS hO hc
 have HBe := Lib.hid hBe
 clear hBe
 go_enter Tryz.func109, Tryz.ntmps109
 go_wp2_with fail
 refine (HNx.out _).mono ?_
 rintro e w' ⟨rfl, rfl⟩
 go_wp2_with fail
 refine (HNy.out _).mono ?_
 rintro e w' ⟨rfl, rfl⟩
 go_wp2_with fail
 refine (HPx.out _).mono ?_
 rintro e w' ⟨rfl, p1, rfl⟩
 go_wp2_with fail
 refine (HPy.out _).mono ?_
 rintro e w' ⟨rfl, p2, rfl⟩
 go_wp2_with fail
 go_cut [48] (fun c wc => c = .bool false ∧ ∃ p3 p4, wc = ((((((w.alloc p1).alloc (wdo ha A ea false)).alloc p2).alloc (wdo hb B eb false)).alloc p3).alloc p4).drew)
 case first =>
   go_region_held3 (fun w' => w'.cell? ⟨w.heap.size + 1, 0, none⟩ = some (.int .u64 (ha : Int)) ∧ w'.cell? ⟨w.heap.size + 1, 1, none⟩ = some (.int .u64 (A : Int)) ∧ w'.cell? ⟨w.heap.size + 1, 2, none⟩ = some (.int .i64 ea) ∧ w'.cell? ⟨w.heap.size + 1, 3, none⟩ = some (.bool false) ∧ w'.cell? ⟨w.heap.size + 1 + 1 + 1, 0, none⟩ = some (.int .u64 (hb : Int)) ∧ w'.cell? ⟨w.heap.size + 1 + 1 + 1, 1, none⟩ = some (.int .u64 (B : Int)) ∧ w'.cell? ⟨w.heap.size + 1 + 1 + 1, 2, none⟩ = some (.int .i64 eb) ∧ w'.cell? ⟨w.heap.size + 1 + 1 + 1, 3, none⟩ = some (.bool false))
     (exact eight_of (t := 115) (t' := 115) (by (repeat' (first | exact Blk.new_at _ _ _ (by simp) | apply Blk.drew | apply Blk.drewN | apply Blk.alloc))) (by (repeat' (first | exact Blk.new_at _ _ _ (by simp) | apply Blk.drew | apply Blk.drewN | apply Blk.alloc))))
     (first
       | (go_simp; go_at_call_of 127 (Value.agg #[Value.int IntKind.u64 (ha : Int), Value.int IntKind.u64 (A : Int), Value.int IntKind.i64 ea, Value.bool false]); refine (HLA.out _).mono ?_; rintro r w' ⟨rfl, o, rfl⟩; dsimp only)
       | (go_simp; go_at_call_of 127 (Value.agg #[Value.int IntKind.u64 (hb : Int), Value.int IntKind.u64 (B : Int), Value.int IntKind.i64 eb, Value.bool false]); refine (HLB.out _).mono ?_; rintro r w' ⟨rfl, o, rfl⟩; dsimp only))
   go_wp2_with fail
   go_meet
   refine ⟨?_, _, _, rfl⟩
   have hc := HC.out
   rw [show IntKind.i64.wrap ((La : Int) + ea) = ea + La by rw [IntKind.wrap_i64]; omega, show IntKind.i64.wrap ((Lb : Int) + eb) = eb + Lb by rw [IntKind.wrap_i64]; omega, decide_eq_false (Int.not_lt.2 hc)]
 case rest =>
   obtain ⟨rfl, p3, p4, rfl⟩ := hcut
   go_wp2_with fail
   go_cut [] (fun wc => ∃ p3 p4 p5 p6 p7 k, wc = (((((((((w.alloc p1).alloc (wdo A1h A1l e1 false)).alloc p2).alloc (wdo hb B eb false)).alloc p3).alloc p4).alloc p5).alloc p6).alloc p7).drewN k)
   case first =>
     go_region_with (first
       | (go_at_call 127; refine (HLA.out _).mono ?_; rintro r w' ⟨rfl, o, rfl⟩)
       | (go_at_call 126; refine (HUp.out _).mono ?_; rintro r w' ⟨rfl, k, o, o', rfl⟩))
     all_goals (go_wp2_with fail; go_meet; exact ⟨_, _, _, _, _, _, rfl⟩)
   case rest =>
     obtain ⟨p3, p4, p5, p6, p7, k, rfl⟩ := hcut
     go_wp2_with fail
     refine (HB.out _).mono ?_
     rintro r w' ⟨rfl, k', p8, p9, rfl⟩
     go_wp2_with fail
     refine (HBe.out _).mono ?_
     rintro r w' ⟨rfl, s00, s01, rfl⟩
     go_wp2_with fail
     refine (HS.out _).mono ?_
     rintro r w' ⟨rfl, s10, s11, s12, s13, rfl⟩
     go_wp2_with fail
     refine (HO.out _).mono ?_
     rintro r w' ⟨rfl, hb⟩
     have HBE := Lib.hid hb
     clear hb
     go_wp2_with fail
     go_ret2
     exact ⟨rfl, (below_drewN (below_more (below_more (below_more (below_more (below_more (below_more (below_more (below_more (below_more (below_more (below_more (below_more (below_more (below_more (below_more (below_more (below_more (below_new _ _) _) _) _) _) _) _) _) _) _) _) _) _) _) _) _) _) _) _).trans (HBE.out.mono (by simp; omega))⟩
end Go.Proofs.YtnljfcebmgifdaaGreat
namespace Go.Proofs.YtnljfcebmgifdaaGreat
open Go.RowKit Ieee
theorem radd_n_L_d0n (x y : Nat) (down na nb : Bool) (ha hb A B : Nat) (ea eb : Int) (La Lb : Nat) (hLa : La ≤ 126) (hLb : Lb ≤ 126)
   (hea : -5000 ≤ ea) (hea2 : ea ≤ 5000) (heb : -5000 ≤ eb) (heb2 : eb ≤ 5000) (hc : eb + (Lb : Int) ≤ ea + La) (hX0 : (FloatKind.f64.format.order x 0 == some .eq) = false) (hY0 : (FloatKind.f64.format.order y 0 == some .eq) = false)
   (hNx : ∀ w, Calls Tryz.prog 92 #[.float .f64 x] w fun e w' => e = .returned (.bool true) ∧ w = w') (hNy : ∀ w, Calls Tryz.prog 92 #[.float .f64 y] w fun e w' => e = .returned (.bool true) ∧ w = w')
   (hPx : ∀ w, Calls Tryz.prog 125 #[.float .f64 x] w fun r w' => r = .returned (.tuple #[wdv ha A ea false, .bool na]) ∧ ∃ o, w' = w.alloc o)
   (hPy : ∀ w, Calls Tryz.prog 125 #[.float .f64 y] w fun r w' => r = .returned (.tuple #[wdv hb B eb false, .bool nb]) ∧ ∃ o, w' = w.alloc o)
   (hLA : ∀ w, Calls Tryz.prog 127 #[wdv ha A ea false] w fun r w' => r = .returned (.int .i64 (La : Int)) ∧ ∃ o, w' = w.alloc o)
   (hLB : ∀ w, Calls Tryz.prog 127 #[wdv hb B eb false] w fun r w' => r = .returned (.int .i64 (Lb : Int)) ∧ ∃ o, w' = w.alloc o)
   (A1h A1l : Nat) (e1 : Int) (hUp : ∀ w, Calls Tryz.prog 126 #[wdv ha A ea false, .int .i64 (IntKind.i64.wrap (126 - (La : Int)))] w fun r w' => r = .returned (wdv A1h A1l e1 false) ∧ ∃ k o o', w' = ((w.alloc o).alloc o').drewN k)
   (he1 : -10000 ≤ e1) (he12 : e1 ≤ 10000) (hcb : e1 ≤ eb) (Bh Bl : Nat) (eb' : Int) (hB : ∀ w, Calls Tryz.prog 126 #[wdv hb B eb false, .int .i64 (eb - e1)] w fun r w' => r = .returned (wdv Bh Bl eb' false) ∧ ∃ k o o', w' = ((w.alloc o).alloc o').drewN k)
   (hs : (na == nb) = false) (S1 S0 : Nat) (hBe : ∀ w, Calls Tryz.prog 129 #[wdv A1h A1l e1 false, wdv Bh Bl eb' false] w fun r w' => r = .returned (.bool true) ∧ ∃ o o', w' = (w.alloc o).alloc o') (hS : ∀ w, Calls Tryz.prog 136 #[wdv Bh Bl eb' false, wdv A1h A1l e1 false] w fun r w' => r = .returned (wdv S1 S0 eb' false) ∧ ∃ o o' o'' o3, w' = (((w.alloc o).alloc o').alloc o'').alloc o3)
   (v : Nat) (hO : ∀ w, Calls Tryz.prog 130 #[wdv S1 S0 eb' false, .bool nb, .bool down] w fun r w' => r = .returned (.float .f64 v) ∧ Below w.heap.size w w') (w : World) :
   Calls Tryz.prog 109 #[.float .f64 x, .float .f64 y, .bool down] w fun r w' => r = .returned (numV v 0) ∧ Below w.heap.size w w' := by
 have HNx := Lib.hid hNx
 have HNy := Lib.hid hNy
 have HPx := Lib.hid hPx
 have HPy := Lib.hid hPy
 have HLA := Lib.hid hLA
 have HLB := Lib.hid hLB
 have HUp := Lib.hid hUp
 have HB := Lib.hid hB
 have HS := Lib.hid hS
 have HO := Lib.hid hO
 have HC := Lib.hid hc
 clear hNx hNy hPx hPy hLA hLB hUp hB hS hO hc
 have HBe := Lib.hid hBe
 clear hBe
 go_enter Tryz.func109, Tryz.ntmps109
 go_wp2_with fail
 refine (HNx.out _).mono ?_
 rintro e w' ⟨rfl, rfl⟩
 go_wp2_with fail
 refine (HNy.out _).mono ?_
 rintro e w' ⟨rfl, rfl⟩
 go_wp2_with fail
 refine (HPx.out _).mono ?_
 rintro e w' ⟨rfl, p1, rfl⟩
 go_wp2_with fail
 refine (HPy.out _).mono ?_
 rintro e w' ⟨rfl, p2, rfl⟩
 go_wp2_with fail
 go_cut [48] (fun c wc => c = .bool false ∧ ∃ p3 p4, wc = ((((((w.alloc p1).alloc (wdo ha A ea false)).alloc p2).alloc (wdo hb B eb false)).alloc p3).alloc p4).drew)
 case first =>
   go_region_held3 (fun w' => w'.cell? ⟨w.heap.size + 1, 0, none⟩ = some (.int .u64 (ha : Int)) ∧ w'.cell? ⟨w.heap.size + 1, 1, none⟩ = some (.int .u64 (A : Int)) ∧ w'.cell? ⟨w.heap.size + 1, 2, none⟩ = some (.int .i64 ea) ∧ w'.cell? ⟨w.heap.size + 1, 3, none⟩ = some (.bool false) ∧ w'.cell? ⟨w.heap.size + 1 + 1 + 1, 0, none⟩ = some (.int .u64 (hb : Int)) ∧ w'.cell? ⟨w.heap.size + 1 + 1 + 1, 1, none⟩ = some (.int .u64 (B : Int)) ∧ w'.cell? ⟨w.heap.size + 1 + 1 + 1, 2, none⟩ = some (.int .i64 eb) ∧ w'.cell? ⟨w.heap.size + 1 + 1 + 1, 3, none⟩ = some (.bool false))
     (exact eight_of (t := 115) (t' := 115) (by (repeat' (first | exact Blk.new_at _ _ _ (by simp) | apply Blk.drew | apply Blk.drewN | apply Blk.alloc))) (by (repeat' (first | exact Blk.new_at _ _ _ (by simp) | apply Blk.drew | apply Blk.drewN | apply Blk.alloc))))
     (first
       | (go_simp; go_at_call_of 127 (Value.agg #[Value.int IntKind.u64 (ha : Int), Value.int IntKind.u64 (A : Int), Value.int IntKind.i64 ea, Value.bool false]); refine (HLA.out _).mono ?_; rintro r w' ⟨rfl, o, rfl⟩; dsimp only)
       | (go_simp; go_at_call_of 127 (Value.agg #[Value.int IntKind.u64 (hb : Int), Value.int IntKind.u64 (B : Int), Value.int IntKind.i64 eb, Value.bool false]); refine (HLB.out _).mono ?_; rintro r w' ⟨rfl, o, rfl⟩; dsimp only))
   go_wp2_with fail
   go_meet
   refine ⟨?_, _, _, rfl⟩
   have hc := HC.out
   rw [show IntKind.i64.wrap ((La : Int) + ea) = ea + La by rw [IntKind.wrap_i64]; omega, show IntKind.i64.wrap ((Lb : Int) + eb) = eb + Lb by rw [IntKind.wrap_i64]; omega, decide_eq_false (Int.not_lt.2 hc)]
 case rest =>
   obtain ⟨rfl, p3, p4, rfl⟩ := hcut
   go_wp2_with fail
   go_cut [] (fun wc => ∃ p3 p4 p5 p6 p7 k, wc = (((((((((w.alloc p1).alloc (wdo A1h A1l e1 false)).alloc p2).alloc (wdo hb B eb false)).alloc p3).alloc p4).alloc p5).alloc p6).alloc p7).drewN k)
   case first =>
     go_region_with (first
       | (go_at_call 127; refine (HLA.out _).mono ?_; rintro r w' ⟨rfl, o, rfl⟩)
       | (go_at_call 126; refine (HUp.out _).mono ?_; rintro r w' ⟨rfl, k, o, o', rfl⟩))
     all_goals (go_wp2_with fail; go_meet; exact ⟨_, _, _, _, _, _, rfl⟩)
   case rest =>
     obtain ⟨p3, p4, p5, p6, p7, k, rfl⟩ := hcut
     go_wp2_with fail
     refine (HB.out _).mono ?_
     rintro r w' ⟨rfl, k', p8, p9, rfl⟩
     go_wp2_with fail
     refine (HBe.out _).mono ?_
     rintro r w' ⟨rfl, s00, s01, rfl⟩
     go_wp2_with fail
     refine (HS.out _).mono ?_
     rintro r w' ⟨rfl, s10, s11, s12, s13, rfl⟩
     go_wp2_with fail
     refine (HO.out _).mono ?_
     rintro r w' ⟨rfl, hb⟩
     have HBE := Lib.hid hb
     clear hb
     go_wp2_with fail
     go_ret2
     exact ⟨rfl, (below_drewN (below_more (below_more (below_more (below_more (below_more (below_more (below_more (below_more (below_more (below_more (below_more (below_more (below_more (below_more (below_more (below_more (below_new _ _) _) _) _) _) _) _) _) _) _) _) _) _) _) _) _) _) _).trans (HBE.out.mono (by simp; omega))⟩
theorem radd_n_R_s (x y : Nat) (down na nb : Bool) (ha hb A B : Nat) (ea eb : Int) (La Lb : Nat) (hLa : La ≤ 126) (hLb : Lb ≤ 126)
   (hea : -5000 ≤ ea) (hea2 : ea ≤ 5000) (heb : -5000 ≤ eb) (heb2 : eb ≤ 5000) (hc : eb + (Lb : Int) ≤ ea + La) (hX0 : (FloatKind.f64.format.order x 0 == some .eq) = false) (hY0 : (FloatKind.f64.format.order y 0 == some .eq) = false)
   (hNx : ∀ w, Calls Tryz.prog 92 #[.float .f64 x] w fun e w' => e = .returned (.bool true) ∧ w = w') (hNy : ∀ w, Calls Tryz.prog 92 #[.float .f64 y] w fun e w' => e = .returned (.bool true) ∧ w = w')
   (hPx : ∀ w, Calls Tryz.prog 125 #[.float .f64 x] w fun r w' => r = .returned (.tuple #[wdv ha A ea false, .bool na]) ∧ ∃ o, w' = w.alloc o)
   (hPy : ∀ w, Calls Tryz.prog 125 #[.float .f64 y] w fun r w' => r = .returned (.tuple #[wdv hb B eb false, .bool nb]) ∧ ∃ o, w' = w.alloc o)
   (hLA : ∀ w, Calls Tryz.prog 127 #[wdv ha A ea false] w fun r w' => r = .returned (.int .i64 (La : Int)) ∧ ∃ o, w' = w.alloc o)
   (hLB : ∀ w, Calls Tryz.prog 127 #[wdv hb B eb false] w fun r w' => r = .returned (.int .i64 (Lb : Int)) ∧ ∃ o, w' = w.alloc o)
   (A1h A1l : Nat) (e1 : Int) (hUp : ∀ w, Calls Tryz.prog 126 #[wdv ha A ea false, .int .i64 (IntKind.i64.wrap (126 - (La : Int)))] w fun r w' => r = .returned (wdv A1h A1l e1 false) ∧ ∃ k o o', w' = ((w.alloc o).alloc o').drewN k)
   (he1 : -10000 ≤ e1) (he12 : e1 ≤ 10000) (hcb : eb < e1) (Bh Bl : Nat) (eb' : Int) (mb : Bool) (hB : ∀ w, Calls Tryz.prog 134 #[wdv hb B eb false, .int .i64 (e1 - eb)] w fun r w' => r = .returned (wdv Bh Bl eb' mb) ∧ ∃ k o o', w' = ((w.alloc o).alloc o').drewN k)
   (hs : (na == nb) = true) (S1 S0 : Nat) (hS : ∀ w, Calls Tryz.prog 135 #[wdv A1h A1l e1 false, wdv Bh Bl eb' mb] w fun r w' => r = .returned (wdv S1 S0 e1 mb) ∧ ∃ o o' o'' o3, w' = (((w.alloc o).alloc o').alloc o'').alloc o3)
   (v : Nat) (hO : ∀ w, Calls Tryz.prog 130 #[wdv S1 S0 e1 mb, .bool na, .bool down] w fun r w' => r = .returned (.float .f64 v) ∧ Below w.heap.size w w') (w : World) :
   Calls Tryz.prog 109 #[.float .f64 x, .float .f64 y, .bool down] w fun r w' => r = .returned (numV v 0) ∧ Below w.heap.size w w' := by
 have HNx := Lib.hid hNx
 have HNy := Lib.hid hNy
 have HPx := Lib.hid hPx
 have HPy := Lib.hid hPy
 have HLA := Lib.hid hLA
 have HLB := Lib.hid hLB
 have HUp := Lib.hid hUp
 have HB := Lib.hid hB
 have HS := Lib.hid hS
 have HO := Lib.hid hO
 have HC := Lib.hid hc
 clear hNx hNy hPx hPy hLA hLB hUp hB hS hO hc
 go_enter Tryz.func109, Tryz.ntmps109
 go_wp2_with fail
 refine (HNx.out _).mono ?_
 rintro e w' ⟨rfl, rfl⟩
 go_wp2_with fail
 refine (HNy.out _).mono ?_
 rintro e w' ⟨rfl, rfl⟩
 go_wp2_with fail
 refine (HPx.out _).mono ?_
 rintro e w' ⟨rfl, p1, rfl⟩
 go_wp2_with fail
 refine (HPy.out _).mono ?_
 rintro e w' ⟨rfl, p2, rfl⟩
 go_wp2_with fail
 go_cut [48] (fun c wc => c = .bool false ∧ ∃ p3 p4, wc = ((((((w.alloc p1).alloc (wdo ha A ea false)).alloc p2).alloc (wdo hb B eb false)).alloc p3).alloc p4).drew)
 case first =>
   go_region_held3 (fun w' => w'.cell? ⟨w.heap.size + 1, 0, none⟩ = some (.int .u64 (ha : Int)) ∧ w'.cell? ⟨w.heap.size + 1, 1, none⟩ = some (.int .u64 (A : Int)) ∧ w'.cell? ⟨w.heap.size + 1, 2, none⟩ = some (.int .i64 ea) ∧ w'.cell? ⟨w.heap.size + 1, 3, none⟩ = some (.bool false) ∧ w'.cell? ⟨w.heap.size + 1 + 1 + 1, 0, none⟩ = some (.int .u64 (hb : Int)) ∧ w'.cell? ⟨w.heap.size + 1 + 1 + 1, 1, none⟩ = some (.int .u64 (B : Int)) ∧ w'.cell? ⟨w.heap.size + 1 + 1 + 1, 2, none⟩ = some (.int .i64 eb) ∧ w'.cell? ⟨w.heap.size + 1 + 1 + 1, 3, none⟩ = some (.bool false))
     (exact eight_of (t := 115) (t' := 115) (by (repeat' (first | exact Blk.new_at _ _ _ (by simp) | apply Blk.drew | apply Blk.drewN | apply Blk.alloc))) (by (repeat' (first | exact Blk.new_at _ _ _ (by simp) | apply Blk.drew | apply Blk.drewN | apply Blk.alloc))))
     (first
       | (go_simp; go_at_call_of 127 (Value.agg #[Value.int IntKind.u64 (ha : Int), Value.int IntKind.u64 (A : Int), Value.int IntKind.i64 ea, Value.bool false]); refine (HLA.out _).mono ?_; rintro r w' ⟨rfl, o, rfl⟩; dsimp only)
       | (go_simp; go_at_call_of 127 (Value.agg #[Value.int IntKind.u64 (hb : Int), Value.int IntKind.u64 (B : Int), Value.int IntKind.i64 eb, Value.bool false]); refine (HLB.out _).mono ?_; rintro r w' ⟨rfl, o, rfl⟩; dsimp only))
   go_wp2_with fail
   go_meet
   refine ⟨?_, _, _, rfl⟩
   have hc := HC.out
   rw [show IntKind.i64.wrap ((La : Int) + ea) = ea + La by rw [IntKind.wrap_i64]; omega, show IntKind.i64.wrap ((Lb : Int) + eb) = eb + Lb by rw [IntKind.wrap_i64]; omega, decide_eq_false (Int.not_lt.2 hc)]
 case rest =>
   obtain ⟨rfl, p3, p4, rfl⟩ := hcut
   go_wp2_with fail
   go_cut [] (fun wc => ∃ p3 p4 p5 p6 p7 k, wc = (((((((((w.alloc p1).alloc (wdo A1h A1l e1 false)).alloc p2).alloc (wdo hb B eb false)).alloc p3).alloc p4).alloc p5).alloc p6).alloc p7).drewN k)
   case first =>
     go_region_with (first
       | (go_at_call 127; refine (HLA.out _).mono ?_; rintro r w' ⟨rfl, o, rfl⟩)
       | (go_at_call 126; refine (HUp.out _).mono ?_; rintro r w' ⟨rfl, k, o, o', rfl⟩))
     all_goals (go_wp2_with fail; go_meet; exact ⟨_, _, _, _, _, _, rfl⟩)
   case rest =>
     obtain ⟨p3, p4, p5, p6, p7, k, rfl⟩ := hcut
     go_wp2_with fail
     refine (HB.out _).mono ?_
     rintro r w' ⟨rfl, k', p8, p9, rfl⟩
     go_wp2_with fail
     refine (HS.out _).mono ?_
     rintro r w' ⟨rfl, s00, s01, s02, s03, rfl⟩
     go_wp2_with fail
     refine (HO.out _).mono ?_
     rintro r w' ⟨rfl, hb⟩
     have HBE := Lib.hid hb
     clear hb
     go_wp2_with fail
     go_ret2
     exact ⟨rfl, (below_drewN (below_more (below_more (below_more (below_more (below_more (below_more (below_more (below_more (below_more (below_more (below_more (below_more (below_more (below_more (below_new _ _) _) _) _) _) _) _) _) _) _) _) _) _) _) _) _).trans (HBE.out.mono (by simp; omega))⟩
end Go.Proofs.YtnljfcebmgifdaaGreat
set_option linter.unusedVariables false
set_option linter.unusedSimpArgs false
namespace Go.Proofs.YtnljfcebmgifdaaGreat
open Go.RowKit Ieee
theorem radd_n_R_d0 (x y : Nat) (down na nb : Bool) (ha hb A B : Nat) (ea eb : Int) (La Lb : Nat) (hLa : La ≤ 126) (hLb : Lb ≤ 126)
   (hea : -5000 ≤ ea) (hea2 : ea ≤ 5000) (heb : -5000 ≤ eb) (heb2 : eb ≤ 5000) (hc : eb + (Lb : Int) ≤ ea + La) (hX0 : (FloatKind.f64.format.order x 0 == some .eq) = false) (hY0 : (FloatKind.f64.format.order y 0 == some .eq) = false)
   (hNx : ∀ w, Calls Tryz.prog 92 #[.float .f64 x] w fun e w' => e = .returned (.bool true) ∧ w = w') (hNy : ∀ w, Calls Tryz.prog 92 #[.float .f64 y] w fun e w' => e = .returned (.bool true) ∧ w = w')
   (hPx : ∀ w, Calls Tryz.prog 125 #[.float .f64 x] w fun r w' => r = .returned (.tuple #[wdv ha A ea false, .bool na]) ∧ ∃ o, w' = w.alloc o)
   (hPy : ∀ w, Calls Tryz.prog 125 #[.float .f64 y] w fun r w' => r = .returned (.tuple #[wdv hb B eb false, .bool nb]) ∧ ∃ o, w' = w.alloc o)
   (hLA : ∀ w, Calls Tryz.prog 127 #[wdv ha A ea false] w fun r w' => r = .returned (.int .i64 (La : Int)) ∧ ∃ o, w' = w.alloc o)
   (hLB : ∀ w, Calls Tryz.prog 127 #[wdv hb B eb false] w fun r w' => r = .returned (.int .i64 (Lb : Int)) ∧ ∃ o, w' = w.alloc o)
   (A1h A1l : Nat) (e1 : Int) (hUp : ∀ w, Calls Tryz.prog 126 #[wdv ha A ea false, .int .i64 (IntKind.i64.wrap (126 - (La : Int)))] w fun r w' => r = .returned (wdv A1h A1l e1 false) ∧ ∃ k o o', w' = ((w.alloc o).alloc o').drewN k)
   (he1 : -10000 ≤ e1) (he12 : e1 ≤ 10000) (hcb : eb < e1) (Bh Bl : Nat) (eb' : Int) (hB : ∀ w, Calls Tryz.prog 134 #[wdv hb B eb false, .int .i64 (e1 - eb)] w fun r w' => r = .returned (wdv Bh Bl eb' false) ∧ ∃ k o o', w' = ((w.alloc o).alloc o').drewN k)
   (hs : (na == nb) = false) (S1 S0 : Nat) (hBe : ∀ w, Calls Tryz.prog 129 #[wdv A1h A1l e1 false, wdv Bh Bl eb' false] w fun r w' => r = .returned (.bool false) ∧ ∃ o o', w' = (w.alloc o).alloc o') (hS : ∀ w, Calls Tryz.prog 136 #[wdv A1h A1l e1 false, wdv Bh Bl eb' false] w fun r w' => r = .returned (wdv S1 S0 e1 false) ∧ ∃ o o' o'' o3, w' = (((w.alloc o).alloc o').alloc o'').alloc o3)
   (v : Nat) (hO : ∀ w, Calls Tryz.prog 130 #[wdv S1 S0 e1 false, .bool na, .bool down] w fun r w' => r = .returned (.float .f64 v) ∧ Below w.heap.size w w') (w : World) :
   Calls Tryz.prog 109 #[.float .f64 x, .float .f64 y, .bool down] w fun r w' => r = .returned (numV v 0) ∧ Below w.heap.size w w' := by
 have HNx := Lib.hid hNx
 have HNy := Lib.hid hNy
 have HPx := Lib.hid hPx
 have HPy := Lib.hid hPy
 have HLA := Lib.hid hLA
 have HLB := Lib.hid hLB
 have HUp := Lib.hid hUp
 have HB := Lib.hid hB
 have HS := Lib.hid hS
 have HO := Lib.hid hO
 have HC := Lib.hid hc
 clear hNx hNy hPx hPy hLA hLB hUp hB hS hO hc
 have HBe := Lib.hid hBe
 clear hBe
 go_enter Tryz.func109, Tryz.ntmps109
 go_wp2_with fail
 refine (HNx.out _).mono ?_
 rintro e w' ⟨rfl, rfl⟩
 go_wp2_with fail
 refine (HNy.out _).mono ?_
 rintro e w' ⟨rfl, rfl⟩
 go_wp2_with fail
 refine (HPx.out _).mono ?_
 rintro e w' ⟨rfl, p1, rfl⟩
 go_wp2_with fail
 refine (HPy.out _).mono ?_
 rintro e w' ⟨rfl, p2, rfl⟩
 go_wp2_with fail
 go_cut [48] (fun c wc => c = .bool false ∧ ∃ p3 p4, wc = ((((((w.alloc p1).alloc (wdo ha A ea false)).alloc p2).alloc (wdo hb B eb false)).alloc p3).alloc p4).drew)
 case first =>
   go_region_held3 (fun w' => w'.cell? ⟨w.heap.size + 1, 0, none⟩ = some (.int .u64 (ha : Int)) ∧ w'.cell? ⟨w.heap.size + 1, 1, none⟩ = some (.int .u64 (A : Int)) ∧ w'.cell? ⟨w.heap.size + 1, 2, none⟩ = some (.int .i64 ea) ∧ w'.cell? ⟨w.heap.size + 1, 3, none⟩ = some (.bool false) ∧ w'.cell? ⟨w.heap.size + 1 + 1 + 1, 0, none⟩ = some (.int .u64 (hb : Int)) ∧ w'.cell? ⟨w.heap.size + 1 + 1 + 1, 1, none⟩ = some (.int .u64 (B : Int)) ∧ w'.cell? ⟨w.heap.size + 1 + 1 + 1, 2, none⟩ = some (.int .i64 eb) ∧ w'.cell? ⟨w.heap.size + 1 + 1 + 1, 3, none⟩ = some (.bool false))
     (exact eight_of (t := 115) (t' := 115) (by (repeat' (first | exact Blk.new_at _ _ _ (by simp) | apply Blk.drew | apply Blk.drewN | apply Blk.alloc))) (by (repeat' (first | exact Blk.new_at _ _ _ (by simp) | apply Blk.drew | apply Blk.drewN | apply Blk.alloc))))
     (first
       | (go_simp; go_at_call_of 127 (Value.agg #[Value.int IntKind.u64 (ha : Int), Value.int IntKind.u64 (A : Int), Value.int IntKind.i64 ea, Value.bool false]); refine (HLA.out _).mono ?_; rintro r w' ⟨rfl, o, rfl⟩; dsimp only)
       | (go_simp; go_at_call_of 127 (Value.agg #[Value.int IntKind.u64 (hb : Int), Value.int IntKind.u64 (B : Int), Value.int IntKind.i64 eb, Value.bool false]); refine (HLB.out _).mono ?_; rintro r w' ⟨rfl, o, rfl⟩; dsimp only))
   go_wp2_with fail
   go_meet
   refine ⟨?_, _, _, rfl⟩
   have hc := HC.out
   rw [show IntKind.i64.wrap ((La : Int) + ea) = ea + La by rw [IntKind.wrap_i64]; omega, show IntKind.i64.wrap ((Lb : Int) + eb) = eb + Lb by rw [IntKind.wrap_i64]; omega, decide_eq_false (Int.not_lt.2 hc)]
 case rest =>
   obtain ⟨rfl, p3, p4, rfl⟩ := hcut
   go_wp2_with fail
   go_cut [] (fun wc => ∃ p3 p4 p5 p6 p7 k, wc = (((((((((w.alloc p1).alloc (wdo A1h A1l e1 false)).alloc p2).alloc (wdo hb B eb false)).alloc p3).alloc p4).alloc p5).alloc p6).alloc p7).drewN k)
   case first =>
     go_region_with (first
       | (go_at_call 127; refine (HLA.out _).mono ?_; rintro r w' ⟨rfl, o, rfl⟩)
       | (go_at_call 126; refine (HUp.out _).mono ?_; rintro r w' ⟨rfl, k, o, o', rfl⟩))
     all_goals (go_wp2_with fail; go_meet; exact ⟨_, _, _, _, _, _, rfl⟩)
   case rest =>
     obtain ⟨p3, p4, p5, p6, p7, k, rfl⟩ := hcut
     go_wp2_with fail
     refine (HB.out _).mono ?_
     rintro r w' ⟨rfl, k', p8, p9, rfl⟩
     go_wp2_with fail
     refine (HBe.out _).mono ?_
     rintro r w' ⟨rfl, s00, s01, rfl⟩
     go_wp2_with fail
     refine (HS.out _).mono ?_
     rintro r w' ⟨rfl, s10, s11, s12, s13, rfl⟩
     go_wp2_with fail
     refine (HO.out _).mono ?_
     rintro r w' ⟨rfl, hb⟩
     have HBE := Lib.hid hb
     clear hb
     go_wp2_with fail
     go_ret2
     exact ⟨rfl, (below_drewN (below_more (below_more (below_more (below_more (below_more (below_more (below_more (below_more (below_more (below_more (below_more (below_more (below_more (below_more (below_more (below_more (below_more (below_new _ _) _) _) _) _) _) _) _) _) _) _) _) _) _) _) _) _) _) _).trans (HBE.out.mono (by simp; omega))⟩
theorem radd_n_R_d1 (x y : Nat) (down na nb : Bool) (ha hb A B : Nat) (ea eb : Int) (La Lb : Nat) (hLa : La ≤ 126) (hLb : Lb ≤ 126)
   (hea : -5000 ≤ ea) (hea2 : ea ≤ 5000) (heb : -5000 ≤ eb) (heb2 : eb ≤ 5000) (hc : eb + (Lb : Int) ≤ ea + La) (hX0 : (FloatKind.f64.format.order x 0 == some .eq) = false) (hY0 : (FloatKind.f64.format.order y 0 == some .eq) = false)
   (hNx : ∀ w, Calls Tryz.prog 92 #[.float .f64 x] w fun e w' => e = .returned (.bool true) ∧ w = w') (hNy : ∀ w, Calls Tryz.prog 92 #[.float .f64 y] w fun e w' => e = .returned (.bool true) ∧ w = w')
   (hPx : ∀ w, Calls Tryz.prog 125 #[.float .f64 x] w fun r w' => r = .returned (.tuple #[wdv ha A ea false, .bool na]) ∧ ∃ o, w' = w.alloc o)
   (hPy : ∀ w, Calls Tryz.prog 125 #[.float .f64 y] w fun r w' => r = .returned (.tuple #[wdv hb B eb false, .bool nb]) ∧ ∃ o, w' = w.alloc o)
   (hLA : ∀ w, Calls Tryz.prog 127 #[wdv ha A ea false] w fun r w' => r = .returned (.int .i64 (La : Int)) ∧ ∃ o, w' = w.alloc o)
   (hLB : ∀ w, Calls Tryz.prog 127 #[wdv hb B eb false] w fun r w' => r = .returned (.int .i64 (Lb : Int)) ∧ ∃ o, w' = w.alloc o)
   (A1h A1l : Nat) (e1 : Int) (hUp : ∀ w, Calls Tryz.prog 126 #[wdv ha A ea false, .int .i64 (IntKind.i64.wrap (126 - (La : Int)))] w fun r w' => r = .returned (wdv A1h A1l e1 false) ∧ ∃ k o o', w' = ((w.alloc o).alloc o').drewN k)
   (he1 : -10000 ≤ e1) (he12 : e1 ≤ 10000) (hcb : eb < e1) (Bh Bl : Nat) (eb' : Int) (hB : ∀ w, Calls Tryz.prog 134 #[wdv hb B eb false, .int .i64 (e1 - eb)] w fun r w' => r = .returned (wdv Bh Bl eb' true) ∧ ∃ k o o', w' = ((w.alloc o).alloc o').drewN k)
   (hs : (na == nb) = false) (T1 T0 S1 S0 : Nat) (hBe : ∀ w, Calls Tryz.prog 136 #[wdv A1h A1l e1 false, wdv Bh Bl eb' true] w fun r w' => r = .returned (wdv T1 T0 e1 false) ∧ ∃ o o' o'' o3, w' = (((w.alloc o).alloc o').alloc o'').alloc o3) (hS : ∀ w, Calls Tryz.prog 136 #[wdv T1 T0 e1 false, .agg #[.int .u64 0, .int .u64 1, .int .i64 0, .bool false]] w fun r w' => r = .returned (wdv S1 S0 e1 false) ∧ ∃ o o' o'' o3, w' = (((w.alloc o).alloc o').alloc o'').alloc o3)
   (v : Nat) (hO : ∀ w, Calls Tryz.prog 130 #[wdv S1 S0 e1 true, .bool na, .bool down] w fun r w' => r = .returned (.float .f64 v) ∧ Below w.heap.size w w') (w : World) :
   Calls Tryz.prog 109 #[.float .f64 x, .float .f64 y, .bool down] w fun r w' => r = .returned (numV v 0) ∧ Below w.heap.size w w' := by
 have HNx := Lib.hid hNx
 have HNy := Lib.hid hNy
 have HPx := Lib.hid hPx
 have HPy := Lib.hid hPy
 have HLA := Lib.hid hLA
 have HLB := Lib.hid hLB
 have HUp := Lib.hid hUp
 have HB := Lib.hid hB
 have HS := Lib.hid hS
 have HO := Lib.hid hO
 have HC := Lib.hid hc
 clear hNx hNy hPx hPy hLA hLB hUp hB hS hO hc
 have HBe := Lib.hid hBe
 clear hBe
 go_enter Tryz.func109, Tryz.ntmps109
 go_wp2_with fail
 refine (HNx.out _).mono ?_
 rintro e w' ⟨rfl, rfl⟩
 go_wp2_with fail
 refine (HNy.out _).mono ?_
 rintro e w' ⟨rfl, rfl⟩
 go_wp2_with fail
 refine (HPx.out _).mono ?_
 rintro e w' ⟨rfl, p1, rfl⟩
 go_wp2_with fail
 refine (HPy.out _).mono ?_
 rintro e w' ⟨rfl, p2, rfl⟩
 go_wp2_with fail
 go_cut [48] (fun c wc => c = .bool false ∧ ∃ p3 p4, wc = ((((((w.alloc p1).alloc (wdo ha A ea false)).alloc p2).alloc (wdo hb B eb false)).alloc p3).alloc p4).drew)
 case first =>
   go_region_held3 (fun w' => w'.cell? ⟨w.heap.size + 1, 0, none⟩ = some (.int .u64 (ha : Int)) ∧ w'.cell? ⟨w.heap.size + 1, 1, none⟩ = some (.int .u64 (A : Int)) ∧ w'.cell? ⟨w.heap.size + 1, 2, none⟩ = some (.int .i64 ea) ∧ w'.cell? ⟨w.heap.size + 1, 3, none⟩ = some (.bool false) ∧ w'.cell? ⟨w.heap.size + 1 + 1 + 1, 0, none⟩ = some (.int .u64 (hb : Int)) ∧ w'.cell? ⟨w.heap.size + 1 + 1 + 1, 1, none⟩ = some (.int .u64 (B : Int)) ∧ w'.cell? ⟨w.heap.size + 1 + 1 + 1, 2, none⟩ = some (.int .i64 eb) ∧ w'.cell? ⟨w.heap.size + 1 + 1 + 1, 3, none⟩ = some (.bool false))
     (exact eight_of (t := 115) (t' := 115) (by (repeat' (first | exact Blk.new_at _ _ _ (by simp) | apply Blk.drew | apply Blk.drewN | apply Blk.alloc))) (by (repeat' (first | exact Blk.new_at _ _ _ (by simp) | apply Blk.drew | apply Blk.drewN | apply Blk.alloc))))
     (first
       | (go_simp; go_at_call_of 127 (Value.agg #[Value.int IntKind.u64 (ha : Int), Value.int IntKind.u64 (A : Int), Value.int IntKind.i64 ea, Value.bool false]); refine (HLA.out _).mono ?_; rintro r w' ⟨rfl, o, rfl⟩; dsimp only)
       | (go_simp; go_at_call_of 127 (Value.agg #[Value.int IntKind.u64 (hb : Int), Value.int IntKind.u64 (B : Int), Value.int IntKind.i64 eb, Value.bool false]); refine (HLB.out _).mono ?_; rintro r w' ⟨rfl, o, rfl⟩; dsimp only))
   go_wp2_with fail
   go_meet
   refine ⟨?_, _, _, rfl⟩
   have hc := HC.out
   rw [show IntKind.i64.wrap ((La : Int) + ea) = ea + La by rw [IntKind.wrap_i64]; omega, show IntKind.i64.wrap ((Lb : Int) + eb) = eb + Lb by rw [IntKind.wrap_i64]; omega, decide_eq_false (Int.not_lt.2 hc)]
 case rest =>
   obtain ⟨rfl, p3, p4, rfl⟩ := hcut
   go_wp2_with fail
   go_cut [] (fun wc => ∃ p3 p4 p5 p6 p7 k, wc = (((((((((w.alloc p1).alloc (wdo A1h A1l e1 false)).alloc p2).alloc (wdo hb B eb false)).alloc p3).alloc p4).alloc p5).alloc p6).alloc p7).drewN k)
   case first =>
     go_region_with (first
       | (go_at_call 127; refine (HLA.out _).mono ?_; rintro r w' ⟨rfl, o, rfl⟩)
       | (go_at_call 126; refine (HUp.out _).mono ?_; rintro r w' ⟨rfl, k, o, o', rfl⟩))
     all_goals (go_wp2_with fail; go_meet; exact ⟨_, _, _, _, _, _, rfl⟩)
   case rest =>
     obtain ⟨p3, p4, p5, p6, p7, k, rfl⟩ := hcut
     go_wp2_with fail
     refine (HB.out _).mono ?_
     rintro r w' ⟨rfl, k', p8, p9, rfl⟩
     go_wp2_with fail
     refine (HBe.out _).mono ?_
     rintro r w' ⟨rfl, s00, s01, s02, s03, rfl⟩
     go_wp2_with fail
     refine (HS.out _).mono ?_
     rintro r w' ⟨rfl, s10, s11, s12, s13, rfl⟩
     go_wp2_with fail
     refine (HO.out _).mono ?_
     rintro r w' ⟨rfl, hb⟩
     have HBE := Lib.hid hb
     clear hb
     go_wp2_with fail
     go_ret2
     exact ⟨rfl, (below_drewN (below_more (below_more (below_more (below_more (below_more (below_more (below_more (below_more (below_more (below_more (below_more (below_more (below_more (below_more (below_more (below_more (below_more (below_more (below_more (below_new _ _) _) _) _) _) _) _) _) _) _) _) _) _) _) _) _) _) _) _) _) _).trans (HBE.out.mono (by simp; omega))⟩
end Go.Proofs.YtnljfcebmgifdaaGreat
namespace Go.Proofs.YtnljfcebmgifdaaGreat
open Go.RowKit Ieee
theorem radd_y_L_s (x y : Nat) (down na nb : Bool) (ha hb A B : Nat) (ea eb : Int) (La Lb : Nat) (hLa : La ≤ 126) (hLb : Lb ≤ 126)
   (hea : -5000 ≤ ea) (hea2 : ea ≤ 5000) (heb : -5000 ≤ eb) (heb2 : eb ≤ 5000) (hc : eb + (Lb : Int) < ea + La) (hX0 : (FloatKind.f64.format.order x 0 == some .eq) = false) (hY0 : (FloatKind.f64.format.order y 0 == some .eq) = false)
   (hNx : ∀ w, Calls Tryz.prog 92 #[.float .f64 x] w fun e w' => e = .returned (.bool true) ∧ w = w') (hNy : ∀ w, Calls Tryz.prog 92 #[.float .f64 y] w fun e w' => e = .returned (.bool true) ∧ w = w')
   (hPx : ∀ w, Calls Tryz.prog 125 #[.float .f64 x] w fun r w' => r = .returned (.tuple #[wdv hb B eb false, .bool nb]) ∧ ∃ o, w' = w.alloc o)
   (hPy : ∀ w, Calls Tryz.prog 125 #[.float .f64 y] w fun r w' => r = .returned (.tuple #[wdv ha A ea false, .bool na]) ∧ ∃ o, w' = w.alloc o)
   (hLA : ∀ w, Calls Tryz.prog 127 #[wdv ha A ea false] w fun r w' => r = .returned (.int .i64 (La : Int)) ∧ ∃ o, w' = w.alloc o)
   (hLB : ∀ w, Calls Tryz.prog 127 #[wdv hb B eb false] w fun r w' => r = .returned (.int .i64 (Lb : Int)) ∧ ∃ o, w' = w.alloc o)
   (A1h A1l : Nat) (e1 : Int) (hUp : ∀ w, Calls Tryz.prog 126 #[wdv ha A ea false, .int .i64 (IntKind.i64.wrap (126 - (La : Int)))] w fun r w' => r = .returned (wdv A1h A1l e1 false) ∧ ∃ k o o', w' = ((w.alloc o).alloc o').drewN k)
   (he1 : -10000 ≤ e1) (he12 : e1 ≤ 10000) (hcb : e1 ≤ eb) (Bh Bl : Nat) (eb' : Int) (hB : ∀ w, Calls Tryz.prog 126 #[wdv hb B eb false, .int .i64 (eb - e1)] w fun r w' => r = .returned (wdv Bh Bl eb' false) ∧ ∃ k o o', w' = ((w.alloc o).alloc o').drewN k)
   (hs : (na == nb) = true) (S1 S0 : Nat) (hS : ∀ w, Calls Tryz.prog 135 #[wdv A1h A1l e1 false, wdv Bh Bl eb' false] w fun r w' => r = .returned (wdv S1 S0 e1 false) ∧ ∃ o o' o'' o3, w' = (((w.alloc o).alloc o').alloc o'').alloc o3)
   (v : Nat) (hO : ∀ w, Calls Tryz.prog 130 #[wdv S1 S0 e1 false, .bool na, .bool down] w fun r w' => r = .returned (.float .f64 v) ∧ Below w.heap.size w w') (w : World) :
   Calls Tryz.prog 109 #[.float .f64 x, .float .f64 y, .bool down] w fun r w' => r = .returned (numV v 0) ∧ Below w.heap.size w w' := by
 have HNx := Lib.hid hNx
 have HNy := Lib.hid hNy
 have HPx := Lib.hid hPx
 have HPy := Lib.hid hPy
 have HLA := Lib.hid hLA
 have HLB := Lib.hid hLB
 have HUp := Lib.hid hUp
 have HB := Lib.hid hB
 have HS := Lib.hid hS
 have HO := Lib.hid hO
 have HC := Lib.hid hc
 clear hNx hNy hPx hPy hLA hLB hUp hB hS hO hc
 go_enter Tryz.func109, Tryz.ntmps109
 go_wp2_with fail
 refine (HNx.out _).mono ?_
 rintro e w' ⟨rfl, rfl⟩
 go_wp2_with fail
 refine (HNy.out _).mono ?_
 rintro e w' ⟨rfl, rfl⟩
 go_wp2_with fail
 refine (HPx.out _).mono ?_
 rintro e w' ⟨rfl, p1, rfl⟩
 go_wp2_with fail
 refine (HPy.out _).mono ?_
 rintro e w' ⟨rfl, p2, rfl⟩
 go_wp2_with fail
 go_cut [48] (fun c wc => c = .bool true ∧ ∃ p3 p4, wc = ((((((w.alloc p1).alloc (wdo hb B eb false)).alloc p2).alloc (wdo ha A ea false)).alloc p3).alloc p4).drew)
 case first =>
   go_region_held3 (fun w' => w'.cell? ⟨w.heap.size + 1, 0, none⟩ = some (.int .u64 (hb : Int)) ∧ w'.cell? ⟨w.heap.size + 1, 1, none⟩ = some (.int .u64 (B : Int)) ∧ w'.cell? ⟨w.heap.size + 1, 2, none⟩ = some (.int .i64 eb) ∧ w'.cell? ⟨w.heap.size + 1, 3, none⟩ = some (.bool false) ∧ w'.cell? ⟨w.heap.size + 1 + 1 + 1, 0, none⟩ = some (.int .u64 (ha : Int)) ∧ w'.cell? ⟨w.heap.size + 1 + 1 + 1, 1, none⟩ = some (.int .u64 (A : Int)) ∧ w'.cell? ⟨w.heap.size + 1 + 1 + 1, 2, none⟩ = some (.int .i64 ea) ∧ w'.cell? ⟨w.heap.size + 1 + 1 + 1, 3, none⟩ = some (.bool false))
     (exact eight_of (t := 115) (t' := 115) (by (repeat' (first | exact Blk.new_at _ _ _ (by simp) | apply Blk.drew | apply Blk.drewN | apply Blk.alloc))) (by (repeat' (first | exact Blk.new_at _ _ _ (by simp) | apply Blk.drew | apply Blk.drewN | apply Blk.alloc))))
     (first
       | (go_simp; go_at_call_of 127 (Value.agg #[Value.int IntKind.u64 (ha : Int), Value.int IntKind.u64 (A : Int), Value.int IntKind.i64 ea, Value.bool false]); refine (HLA.out _).mono ?_; rintro r w' ⟨rfl, o, rfl⟩; dsimp only)
       | (go_simp; go_at_call_of 127 (Value.agg #[Value.int IntKind.u64 (hb : Int), Value.int IntKind.u64 (B : Int), Value.int IntKind.i64 eb, Value.bool false]); refine (HLB.out _).mono ?_; rintro r w' ⟨rfl, o, rfl⟩; dsimp only))
   go_wp2_with fail
   go_meet
   refine ⟨?_, _, _, rfl⟩
   have hc := HC.out
   rw [show IntKind.i64.wrap ((La : Int) + ea) = ea + La by rw [IntKind.wrap_i64]; omega, show IntKind.i64.wrap ((Lb : Int) + eb) = eb + Lb by rw [IntKind.wrap_i64]; omega, decide_eq_true hc]
 case rest =>
   obtain ⟨rfl, p3, p4, rfl⟩ := hcut
   go_wp2_with fail
   go_cut [] (fun wc => ∃ p3 p4 p5 p6 p7 k, wc = (((((((((w.alloc p1).alloc (wdo A1h A1l e1 false)).alloc p2).alloc (wdo hb B eb false)).alloc p3).alloc p4).alloc p5).alloc p6).alloc p7).drewN k)
   case first =>
     go_region_with (first
       | (go_at_call 127; refine (HLA.out _).mono ?_; rintro r w' ⟨rfl, o, rfl⟩)
       | (go_at_call 126; refine (HUp.out _).mono ?_; rintro r w' ⟨rfl, k, o, o', rfl⟩))
     all_goals (go_wp2_with fail; go_meet; exact ⟨_, _, _, _, _, _, rfl⟩)
   case rest =>
     obtain ⟨p3, p4, p5, p6, p7, k, rfl⟩ := hcut
     go_wp2_with fail
     refine (HB.out _).mono ?_
     rintro r w' ⟨rfl, k', p8, p9, rfl⟩
     go_wp2_with fail
     refine (HS.out _).mono ?_
     rintro r w' ⟨rfl, s00, s01, s02, s03, rfl⟩
     go_wp2_with fail
     refine (HO.out _).mono ?_
     rintro r w' ⟨rfl, hb⟩
     have HBE := Lib.hid hb
     clear hb
     go_wp2_with fail
     go_ret2
     exact ⟨rfl, (below_drewN (below_more (below_more (below_more (below_more (below_more (below_more (below_more (below_more (below_more (below_more (below_more (below_more (below_more (below_more (below_new _ _) _) _) _) _) _) _) _) _) _) _) _) _) _) _) _).trans (HBE.out.mono (by simp; omega))⟩
theorem radd_y_L_d0 (x y : Nat) (down na nb : Bool) (ha hb A B : Nat) (ea eb : Int) (La Lb : Nat) (hLa : La ≤ 126) (hLb : Lb ≤ 126)
   (hea : -5000 ≤ ea) (hea2 : ea ≤ 5000) (heb : -5000 ≤ eb) (heb2 : eb ≤ 5000) (hc : eb + (Lb : Int) < ea + La) (hX0 : (FloatKind.f64.format.order x 0 == some .eq) = false) (hY0 : (FloatKind.f64.format.order y 0 == some .eq) = false)
   (hNx : ∀ w, Calls Tryz.prog 92 #[.float .f64 x] w fun e w' => e = .returned (.bool true) ∧ w = w') (hNy : ∀ w, Calls Tryz.prog 92 #[.float .f64 y] w fun e w' => e = .returned (.bool true) ∧ w = w')
   (hPx : ∀ w, Calls Tryz.prog 125 #[.float .f64 x] w fun r w' => r = .returned (.tuple #[wdv hb B eb false, .bool nb]) ∧ ∃ o, w' = w.alloc o)
   (hPy : ∀ w, Calls Tryz.prog 125 #[.float .f64 y] w fun r w' => r = .returned (.tuple #[wdv ha A ea false, .bool na]) ∧ ∃ o, w' = w.alloc o)
   (hLA : ∀ w, Calls Tryz.prog 127 #[wdv ha A ea false] w fun r w' => r = .returned (.int .i64 (La : Int)) ∧ ∃ o, w' = w.alloc o)
   (hLB : ∀ w, Calls Tryz.prog 127 #[wdv hb B eb false] w fun r w' => r = .returned (.int .i64 (Lb : Int)) ∧ ∃ o, w' = w.alloc o)
   (A1h A1l : Nat) (e1 : Int) (hUp : ∀ w, Calls Tryz.prog 126 #[wdv ha A ea false, .int .i64 (IntKind.i64.wrap (126 - (La : Int)))] w fun r w' => r = .returned (wdv A1h A1l e1 false) ∧ ∃ k o o', w' = ((w.alloc o).alloc o').drewN k)
   (he1 : -10000 ≤ e1) (he12 : e1 ≤ 10000) (hcb : e1 ≤ eb) (Bh Bl : Nat) (eb' : Int) (hB : ∀ w, Calls Tryz.prog 126 #[wdv hb B eb false, .int .i64 (eb - e1)] w fun r w' => r = .returned (wdv Bh Bl eb' false) ∧ ∃ k o o', w' = ((w.alloc o).alloc o').drewN k)
   (hs : (na == nb) = false) (S1 S0 : Nat) (hBe : ∀ w, Calls Tryz.prog 129 #[wdv A1h A1l e1 false, wdv Bh Bl eb' false] w fun r w' => r = .returned (.bool false) ∧ ∃ o o', w' = (w.alloc o).alloc o') (hS : ∀ w, Calls Tryz.prog 136 #[wdv A1h A1l e1 false, wdv Bh Bl eb' false] w fun r w' => r = .returned (wdv S1 S0 e1 false) ∧ ∃ o o' o'' o3, w' = (((w.alloc o).alloc o').alloc o'').alloc o3)
   (v : Nat) (hO : ∀ w, Calls Tryz.prog 130 #[wdv S1 S0 e1 false, .bool na, .bool down] w fun r w' => r = .returned (.float .f64 v) ∧ Below w.heap.size w w') (w : World) :
   Calls Tryz.prog 109 #[.float .f64 x, .float .f64 y, .bool down] w fun r w' => r = .returned (numV v 0) ∧ Below w.heap.size w w' := by
 have HNx := Lib.hid hNx
 have HNy := Lib.hid hNy
 have HPx := Lib.hid hPx
 have HPy := Lib.hid hPy
 have HLA := Lib.hid hLA
 have HLB := Lib.hid hLB
 have HUp := Lib.hid hUp
 have HB := Lib.hid hB
 have HS := Lib.hid hS
 have HO := Lib.hid hO
 have HC := Lib.hid hc
 clear hNx hNy hPx hPy hLA hLB hUp hB hS hO hc
 have HBe := Lib.hid hBe
 clear hBe
 go_enter Tryz.func109, Tryz.ntmps109
 go_wp2_with fail
 refine (HNx.out _).mono ?_
 rintro e w' ⟨rfl, rfl⟩
 go_wp2_with fail
 refine (HNy.out _).mono ?_
 rintro e w' ⟨rfl, rfl⟩
 go_wp2_with fail
 refine (HPx.out _).mono ?_
 rintro e w' ⟨rfl, p1, rfl⟩
 go_wp2_with fail
 refine (HPy.out _).mono ?_
 rintro e w' ⟨rfl, p2, rfl⟩
 go_wp2_with fail
 go_cut [48] (fun c wc => c = .bool true ∧ ∃ p3 p4, wc = ((((((w.alloc p1).alloc (wdo hb B eb false)).alloc p2).alloc (wdo ha A ea false)).alloc p3).alloc p4).drew)
 case first =>
   go_region_held3 (fun w' => w'.cell? ⟨w.heap.size + 1, 0, none⟩ = some (.int .u64 (hb : Int)) ∧ w'.cell? ⟨w.heap.size + 1, 1, none⟩ = some (.int .u64 (B : Int)) ∧ w'.cell? ⟨w.heap.size + 1, 2, none⟩ = some (.int .i64 eb) ∧ w'.cell? ⟨w.heap.size + 1, 3, none⟩ = some (.bool false) ∧ w'.cell? ⟨w.heap.size + 1 + 1 + 1, 0, none⟩ = some (.int .u64 (ha : Int)) ∧ w'.cell? ⟨w.heap.size + 1 + 1 + 1, 1, none⟩ = some (.int .u64 (A : Int)) ∧ w'.cell? ⟨w.heap.size + 1 + 1 + 1, 2, none⟩ = some (.int .i64 ea) ∧ w'.cell? ⟨w.heap.size + 1 + 1 + 1, 3, none⟩ = some (.bool false))
     (exact eight_of (t := 115) (t' := 115) (by (repeat' (first | exact Blk.new_at _ _ _ (by simp) | apply Blk.drew | apply Blk.drewN | apply Blk.alloc))) (by (repeat' (first | exact Blk.new_at _ _ _ (by simp) | apply Blk.drew | apply Blk.drewN | apply Blk.alloc))))
     (first
       | (go_simp; go_at_call_of 127 (Value.agg #[Value.int IntKind.u64 (ha : Int), Value.int IntKind.u64 (A : Int), Value.int IntKind.i64 ea, Value.bool false]); refine (HLA.out _).mono ?_; rintro r w' ⟨rfl, o, rfl⟩; dsimp only)
       | (go_simp; go_at_call_of 127 (Value.agg #[Value.int IntKind.u64 (hb : Int), Value.int IntKind.u64 (B : Int), Value.int IntKind.i64 eb, Value.bool false]); refine (HLB.out _).mono ?_; rintro r w' ⟨rfl, o, rfl⟩; dsimp only))
   go_wp2_with fail
   go_meet
   refine ⟨?_, _, _, rfl⟩
   have hc := HC.out
   rw [show IntKind.i64.wrap ((La : Int) + ea) = ea + La by rw [IntKind.wrap_i64]; omega, show IntKind.i64.wrap ((Lb : Int) + eb) = eb + Lb by rw [IntKind.wrap_i64]; omega, decide_eq_true hc]
 case rest =>
   obtain ⟨rfl, p3, p4, rfl⟩ := hcut
   go_wp2_with fail
   go_cut [] (fun wc => ∃ p3 p4 p5 p6 p7 k, wc = (((((((((w.alloc p1).alloc (wdo A1h A1l e1 false)).alloc p2).alloc (wdo hb B eb false)).alloc p3).alloc p4).alloc p5).alloc p6).alloc p7).drewN k)
   case first =>
     go_region_with (first
       | (go_at_call 127; refine (HLA.out _).mono ?_; rintro r w' ⟨rfl, o, rfl⟩)
       | (go_at_call 126; refine (HUp.out _).mono ?_; rintro r w' ⟨rfl, k, o, o', rfl⟩))
     all_goals (go_wp2_with fail; go_meet; exact ⟨_, _, _, _, _, _, rfl⟩)
   case rest =>
     obtain ⟨p3, p4, p5, p6, p7, k, rfl⟩ := hcut
     go_wp2_with fail
     refine (HB.out _).mono ?_
     rintro r w' ⟨rfl, k', p8, p9, rfl⟩
     go_wp2_with fail
     refine (HBe.out _).mono ?_
     rintro r w' ⟨rfl, s00, s01, rfl⟩
     go_wp2_with fail
     refine (HS.out _).mono ?_
     rintro r w' ⟨rfl, s10, s11, s12, s13, rfl⟩
     go_wp2_with fail
     refine (HO.out _).mono ?_
     rintro r w' ⟨rfl, hb⟩
     have HBE := Lib.hid hb
     clear hb
     go_wp2_with fail
     go_ret2
     exact ⟨rfl, (below_drewN (below_more (below_more (below_more (below_more (below_more (below_more (below_more (below_more (below_more (below_more (below_more (below_more (below_more (below_more (below_more (below_more (below_more (below_new _ _) _) _) _) _) _) _) _) _) _) _) _) _) _) _) _) _) _) _).trans (HBE.out.mono (by simp; omega))⟩
end Go.Proofs.YtnljfcebmgifdaaGreat
set_option linter.unusedVariables false
set_option linter.unusedSimpArgs false
namespace Go.Proofs.YtnljfcebmgifdaaGreat
open Go.RowKit Ieee
theorem radd_y_L_d0n (x y : Nat) (down na nb : Bool) (ha hb A B : Nat) (ea eb : Int) (La Lb : Nat) (hLa : La ≤ 126) (hLb : Lb ≤ 126)
   (hea : -5000 ≤ ea) (hea2 : ea ≤ 5000) (heb : -5000 ≤ eb) (heb2 : eb ≤ 5000) (hc : eb + (Lb : Int) < ea + La) (hX0 : (FloatKind.f64.format.order x 0 == some .eq) = false) (hY0 : (FloatKind.f64.format.order y 0 == some .eq) = false)
   (hNx : ∀ w, Calls Tryz.prog 92 #[.float .f64 x] w fun e w' => e = .returned (.bool true) ∧ w = w') (hNy : ∀ w, Calls Tryz.prog 92 #[.float .f64 y] w fun e w' => e = .returned (.bool true) ∧ w = w')
   (hPx : ∀ w, Calls Tryz.prog 125 #[.float .f64 x] w fun r w' => r = .returned (.tuple #[wdv hb B eb false, .bool nb]) ∧ ∃ o, w' = w.alloc o)
   (hPy : ∀ w, Calls Tryz.prog 125 #[.float .f64 y] w fun r w' => r = .returned (.tuple #[wdv ha A ea false, .bool na]) ∧ ∃ o, w' = w.alloc o)
   (hLA : ∀ w, Calls Tryz.prog 127 #[wdv ha A ea false] w fun r w' => r = .returned (.int .i64 (La : Int)) ∧ ∃ o, w' = w.alloc o)
   (hLB : ∀ w, Calls Tryz.prog 127 #[wdv hb B eb false] w fun r w' => r = .returned (.int .i64 (Lb : Int)) ∧ ∃ o, w' = w.alloc o)
   (A1h A1l : Nat) (e1 : Int) (hUp : ∀ w, Calls Tryz.prog 126 #[wdv ha A ea false, .int .i64 (IntKind.i64.wrap (126 - (La : Int)))] w fun r w' => r = .returned (wdv A1h A1l e1 false) ∧ ∃ k o o', w' = ((w.alloc o).alloc o').drewN k)
   (he1 : -10000 ≤ e1) (he12 : e1 ≤ 10000) (hcb : e1 ≤ eb) (Bh Bl : Nat) (eb' : Int) (hB : ∀ w, Calls Tryz.prog 126 #[wdv hb B eb false, .int .i64 (eb - e1)] w fun r w' => r = .returned (wdv Bh Bl eb' false) ∧ ∃ k o o', w' = ((w.alloc o).alloc o').drewN k)
   (hs : (na == nb) = false) (S1 S0 : Nat) (hBe : ∀ w, Calls Tryz.prog 129 #[wdv A1h A1l e1 false, wdv Bh Bl eb' false] w fun r w' => r = .returned (.bool true) ∧ ∃ o o', w' = (w.alloc o).alloc o') (hS : ∀ w, Calls Tryz.prog 136 #[wdv Bh Bl eb' false, wdv A1h A1l e1 false] w fun r w' => r = .returned (wdv S1 S0 eb' false) ∧ ∃ o o' o'' o3, w' = (((w.alloc o).alloc o').alloc o'').alloc o3)
   (v : Nat) (hO : ∀ w, Calls Tryz.prog 130 #[wdv S1 S0 eb' false, .bool nb, .bool down] w fun r w' => r = .returned (.float .f64 v) ∧ Below w.heap.size w w') (w : World) :
   Calls Tryz.prog 109 #[.float .f64 x, .float .f64 y, .bool down] w fun r w' => r = .returned (numV v 0) ∧ Below w.heap.size w w' := by
 have HNx := Lib.hid hNx
 have HNy := Lib.hid hNy
 have HPx := Lib.hid hPx
 have HPy := Lib.hid hPy
 have HLA := Lib.hid hLA
 have HLB := Lib.hid hLB
 have HUp := Lib.hid hUp
 have HB := Lib.hid hB
 have HS := Lib.hid hS
 have HO := Lib.hid hO
 have HC := Lib.hid hc
 clear hNx hNy hPx hPy hLA hLB hUp hB hS hO hc
 have HBe := Lib.hid hBe
 clear hBe
 go_enter Tryz.func109, Tryz.ntmps109
 go_wp2_with fail
 refine (HNx.out _).mono ?_
 rintro e w' ⟨rfl, rfl⟩
 go_wp2_with fail
 refine (HNy.out _).mono ?_
 rintro e w' ⟨rfl, rfl⟩
 go_wp2_with fail
 refine (HPx.out _).mono ?_
 rintro e w' ⟨rfl, p1, rfl⟩
 go_wp2_with fail
 refine (HPy.out _).mono ?_
 rintro e w' ⟨rfl, p2, rfl⟩
 go_wp2_with fail
 go_cut [48] (fun c wc => c = .bool true ∧ ∃ p3 p4, wc = ((((((w.alloc p1).alloc (wdo hb B eb false)).alloc p2).alloc (wdo ha A ea false)).alloc p3).alloc p4).drew)
 case first =>
   go_region_held3 (fun w' => w'.cell? ⟨w.heap.size + 1, 0, none⟩ = some (.int .u64 (hb : Int)) ∧ w'.cell? ⟨w.heap.size + 1, 1, none⟩ = some (.int .u64 (B : Int)) ∧ w'.cell? ⟨w.heap.size + 1, 2, none⟩ = some (.int .i64 eb) ∧ w'.cell? ⟨w.heap.size + 1, 3, none⟩ = some (.bool false) ∧ w'.cell? ⟨w.heap.size + 1 + 1 + 1, 0, none⟩ = some (.int .u64 (ha : Int)) ∧ w'.cell? ⟨w.heap.size + 1 + 1 + 1, 1, none⟩ = some (.int .u64 (A : Int)) ∧ w'.cell? ⟨w.heap.size + 1 + 1 + 1, 2, none⟩ = some (.int .i64 ea) ∧ w'.cell? ⟨w.heap.size + 1 + 1 + 1, 3, none⟩ = some (.bool false))
     (exact eight_of (t := 115) (t' := 115) (by (repeat' (first | exact Blk.new_at _ _ _ (by simp) | apply Blk.drew | apply Blk.drewN | apply Blk.alloc))) (by (repeat' (first | exact Blk.new_at _ _ _ (by simp) | apply Blk.drew | apply Blk.drewN | apply Blk.alloc))))
     (first
       | (go_simp; go_at_call_of 127 (Value.agg #[Value.int IntKind.u64 (ha : Int), Value.int IntKind.u64 (A : Int), Value.int IntKind.i64 ea, Value.bool false]); refine (HLA.out _).mono ?_; rintro r w' ⟨rfl, o, rfl⟩; dsimp only)
       | (go_simp; go_at_call_of 127 (Value.agg #[Value.int IntKind.u64 (hb : Int), Value.int IntKind.u64 (B : Int), Value.int IntKind.i64 eb, Value.bool false]); refine (HLB.out _).mono ?_; rintro r w' ⟨rfl, o, rfl⟩; dsimp only))
   go_wp2_with fail
   go_meet
   refine ⟨?_, _, _, rfl⟩
   have hc := HC.out
   rw [show IntKind.i64.wrap ((La : Int) + ea) = ea + La by rw [IntKind.wrap_i64]; omega, show IntKind.i64.wrap ((Lb : Int) + eb) = eb + Lb by rw [IntKind.wrap_i64]; omega, decide_eq_true hc]
 case rest =>
   obtain ⟨rfl, p3, p4, rfl⟩ := hcut
   go_wp2_with fail
   go_cut [] (fun wc => ∃ p3 p4 p5 p6 p7 k, wc = (((((((((w.alloc p1).alloc (wdo A1h A1l e1 false)).alloc p2).alloc (wdo hb B eb false)).alloc p3).alloc p4).alloc p5).alloc p6).alloc p7).drewN k)
   case first =>
     go_region_with (first
       | (go_at_call 127; refine (HLA.out _).mono ?_; rintro r w' ⟨rfl, o, rfl⟩)
       | (go_at_call 126; refine (HUp.out _).mono ?_; rintro r w' ⟨rfl, k, o, o', rfl⟩))
     all_goals (go_wp2_with fail; go_meet; exact ⟨_, _, _, _, _, _, rfl⟩)
   case rest =>
     obtain ⟨p3, p4, p5, p6, p7, k, rfl⟩ := hcut
     go_wp2_with fail
     refine (HB.out _).mono ?_
     rintro r w' ⟨rfl, k', p8, p9, rfl⟩
     go_wp2_with fail
     refine (HBe.out _).mono ?_
     rintro r w' ⟨rfl, s00, s01, rfl⟩
     go_wp2_with fail
     refine (HS.out _).mono ?_
     rintro r w' ⟨rfl, s10, s11, s12, s13, rfl⟩
     go_wp2_with fail
     refine (HO.out _).mono ?_
     rintro r w' ⟨rfl, hb⟩
     have HBE := Lib.hid hb
     clear hb
     go_wp2_with fail
     go_ret2
     exact ⟨rfl, (below_drewN (below_more (below_more (below_more (below_more (below_more (below_more (below_more (below_more (below_more (below_more (below_more (below_more (below_more (below_more (below_more (below_more (below_new _ _) _) _) _) _) _) _) _) _) _) _) _) _) _) _) _) _) _).trans (HBE.out.mono (by simp; omega))⟩
theorem radd_y_R_s (x y : Nat) (down na nb : Bool) (ha hb A B : Nat) (ea eb : Int) (La Lb : Nat) (hLa : La ≤ 126) (hLb : Lb ≤ 126)
   (hea : -5000 ≤ ea) (hea2 : ea ≤ 5000) (heb : -5000 ≤ eb) (heb2 : eb ≤ 5000) (hc : eb + (Lb : Int) < ea + La) (hX0 : (FloatKind.f64.format.order x 0 == some .eq) = false) (hY0 : (FloatKind.f64.format.order y 0 == some .eq) = false)
   (hNx : ∀ w, Calls Tryz.prog 92 #[.float .f64 x] w fun e w' => e = .returned (.bool true) ∧ w = w') (hNy : ∀ w, Calls Tryz.prog 92 #[.float .f64 y] w fun e w' => e = .returned (.bool true) ∧ w = w')
   (hPx : ∀ w, Calls Tryz.prog 125 #[.float .f64 x] w fun r w' => r = .returned (.tuple #[wdv hb B eb false, .bool nb]) ∧ ∃ o, w' = w.alloc o)
   (hPy : ∀ w, Calls Tryz.prog 125 #[.float .f64 y] w fun r w' => r = .returned (.tuple #[wdv ha A ea false, .bool na]) ∧ ∃ o, w' = w.alloc o)
   (hLA : ∀ w, Calls Tryz.prog 127 #[wdv ha A ea false] w fun r w' => r = .returned (.int .i64 (La : Int)) ∧ ∃ o, w' = w.alloc o)
   (hLB : ∀ w, Calls Tryz.prog 127 #[wdv hb B eb false] w fun r w' => r = .returned (.int .i64 (Lb : Int)) ∧ ∃ o, w' = w.alloc o)
   (A1h A1l : Nat) (e1 : Int) (hUp : ∀ w, Calls Tryz.prog 126 #[wdv ha A ea false, .int .i64 (IntKind.i64.wrap (126 - (La : Int)))] w fun r w' => r = .returned (wdv A1h A1l e1 false) ∧ ∃ k o o', w' = ((w.alloc o).alloc o').drewN k)
   (he1 : -10000 ≤ e1) (he12 : e1 ≤ 10000) (hcb : eb < e1) (Bh Bl : Nat) (eb' : Int) (mb : Bool) (hB : ∀ w, Calls Tryz.prog 134 #[wdv hb B eb false, .int .i64 (e1 - eb)] w fun r w' => r = .returned (wdv Bh Bl eb' mb) ∧ ∃ k o o', w' = ((w.alloc o).alloc o').drewN k)
   (hs : (na == nb) = true) (S1 S0 : Nat) (hS : ∀ w, Calls Tryz.prog 135 #[wdv A1h A1l e1 false, wdv Bh Bl eb' mb] w fun r w' => r = .returned (wdv S1 S0 e1 mb) ∧ ∃ o o' o'' o3, w' = (((w.alloc o).alloc o').alloc o'').alloc o3)
   (v : Nat) (hO : ∀ w, Calls Tryz.prog 130 #[wdv S1 S0 e1 mb, .bool na, .bool down] w fun r w' => r = .returned (.float .f64 v) ∧ Below w.heap.size w w') (w : World) :
   Calls Tryz.prog 109 #[.float .f64 x, .float .f64 y, .bool down] w fun r w' => r = .returned (numV v 0) ∧ Below w.heap.size w w' := by
 have HNx := Lib.hid hNx
 have HNy := Lib.hid hNy
 have HPx := Lib.hid hPx
 have HPy := Lib.hid hPy
 have HLA := Lib.hid hLA
 have HLB := Lib.hid hLB
 have HUp := Lib.hid hUp
 have HB := Lib.hid hB
 have HS := Lib.hid hS
 have HO := Lib.hid hO
 have HC := Lib.hid hc
 clear hNx hNy hPx hPy hLA hLB hUp hB hS hO hc
 go_enter Tryz.func109, Tryz.ntmps109
 go_wp2_with fail
 refine (HNx.out _).mono ?_
 rintro e w' ⟨rfl, rfl⟩
 go_wp2_with fail
 refine (HNy.out _).mono ?_
 rintro e w' ⟨rfl, rfl⟩
 go_wp2_with fail
 refine (HPx.out _).mono ?_
 rintro e w' ⟨rfl, p1, rfl⟩
 go_wp2_with fail
 refine (HPy.out _).mono ?_
 rintro e w' ⟨rfl, p2, rfl⟩
 go_wp2_with fail
 go_cut [48] (fun c wc => c = .bool true ∧ ∃ p3 p4, wc = ((((((w.alloc p1).alloc (wdo hb B eb false)).alloc p2).alloc (wdo ha A ea false)).alloc p3).alloc p4).drew)
 case first =>
   go_region_held3 (fun w' => w'.cell? ⟨w.heap.size + 1, 0, none⟩ = some (.int .u64 (hb : Int)) ∧ w'.cell? ⟨w.heap.size + 1, 1, none⟩ = some (.int .u64 (B : Int)) ∧ w'.cell? ⟨w.heap.size + 1, 2, none⟩ = some (.int .i64 eb) ∧ w'.cell? ⟨w.heap.size + 1, 3, none⟩ = some (.bool false) ∧ w'.cell? ⟨w.heap.size + 1 + 1 + 1, 0, none⟩ = some (.int .u64 (ha : Int)) ∧ w'.cell? ⟨w.heap.size + 1 + 1 + 1, 1, none⟩ = some (.int .u64 (A : Int)) ∧ w'.cell? ⟨w.heap.size + 1 + 1 + 1, 2, none⟩ = some (.int .i64 ea) ∧ w'.cell? ⟨w.heap.size + 1 + 1 + 1, 3, none⟩ = some (.bool false))
     (exact eight_of (t := 115) (t' := 115) (by (repeat' (first | exact Blk.new_at _ _ _ (by simp) | apply Blk.drew | apply Blk.drewN | apply Blk.alloc))) (by (repeat' (first | exact Blk.new_at _ _ _ (by simp) | apply Blk.drew | apply Blk.drewN | apply Blk.alloc))))
     (first
       | (go_simp; go_at_call_of 127 (Value.agg #[Value.int IntKind.u64 (ha : Int), Value.int IntKind.u64 (A : Int), Value.int IntKind.i64 ea, Value.bool false]); refine (HLA.out _).mono ?_; rintro r w' ⟨rfl, o, rfl⟩; dsimp only)
       | (go_simp; go_at_call_of 127 (Value.agg #[Value.int IntKind.u64 (hb : Int), Value.int IntKind.u64 (B : Int), Value.int IntKind.i64 eb, Value.bool false]); refine (HLB.out _).mono ?_; rintro r w' ⟨rfl, o, rfl⟩; dsimp only))
   go_wp2_with fail
   go_meet
   refine ⟨?_, _, _, rfl⟩
   have hc := HC.out
   rw [show IntKind.i64.wrap ((La : Int) + ea) = ea + La by rw [IntKind.wrap_i64]; omega, show IntKind.i64.wrap ((Lb : Int) + eb) = eb + Lb by rw [IntKind.wrap_i64]; omega, decide_eq_true hc]
 case rest =>
   obtain ⟨rfl, p3, p4, rfl⟩ := hcut
   go_wp2_with fail
   go_cut [] (fun wc => ∃ p3 p4 p5 p6 p7 k, wc = (((((((((w.alloc p1).alloc (wdo A1h A1l e1 false)).alloc p2).alloc (wdo hb B eb false)).alloc p3).alloc p4).alloc p5).alloc p6).alloc p7).drewN k)
   case first =>
     go_region_with (first
       | (go_at_call 127; refine (HLA.out _).mono ?_; rintro r w' ⟨rfl, o, rfl⟩)
       | (go_at_call 126; refine (HUp.out _).mono ?_; rintro r w' ⟨rfl, k, o, o', rfl⟩))
     all_goals (go_wp2_with fail; go_meet; exact ⟨_, _, _, _, _, _, rfl⟩)
   case rest =>
     obtain ⟨p3, p4, p5, p6, p7, k, rfl⟩ := hcut
     go_wp2_with fail
     refine (HB.out _).mono ?_
     rintro r w' ⟨rfl, k', p8, p9, rfl⟩
     go_wp2_with fail
     refine (HS.out _).mono ?_
     rintro r w' ⟨rfl, s00, s01, s02, s03, rfl⟩
     go_wp2_with fail
     refine (HO.out _).mono ?_
     rintro r w' ⟨rfl, hb⟩
     have HBE := Lib.hid hb
     clear hb
     go_wp2_with fail
     go_ret2
     exact ⟨rfl, (below_drewN (below_more (below_more (below_more (below_more (below_more (below_more (below_more (below_more (below_more (below_more (below_more (below_more (below_more (below_more (below_new _ _) _) _) _) _) _) _) _) _) _) _) _) _) _) _) _).trans (HBE.out.mono (by simp; omega))⟩
end Go.Proofs.YtnljfcebmgifdaaGreat
namespace Go.Proofs.YtnljfcebmgifdaaGreat
open Go.RowKit Ieee
theorem radd_y_R_d0 (x y : Nat) (down na nb : Bool) (ha hb A B : Nat) (ea eb : Int) (La Lb : Nat) (hLa : La ≤ 126) (hLb : Lb ≤ 126)
   (hea : -5000 ≤ ea) (hea2 : ea ≤ 5000) (heb : -5000 ≤ eb) (heb2 : eb ≤ 5000) (hc : eb + (Lb : Int) < ea + La) (hX0 : (FloatKind.f64.format.order x 0 == some .eq) = false) (hY0 : (FloatKind.f64.format.order y 0 == some .eq) = false)
   (hNx : ∀ w, Calls Tryz.prog 92 #[.float .f64 x] w fun e w' => e = .returned (.bool true) ∧ w = w') (hNy : ∀ w, Calls Tryz.prog 92 #[.float .f64 y] w fun e w' => e = .returned (.bool true) ∧ w = w')
   (hPx : ∀ w, Calls Tryz.prog 125 #[.float .f64 x] w fun r w' => r = .returned (.tuple #[wdv hb B eb false, .bool nb]) ∧ ∃ o, w' = w.alloc o)
   (hPy : ∀ w, Calls Tryz.prog 125 #[.float .f64 y] w fun r w' => r = .returned (.tuple #[wdv ha A ea false, .bool na]) ∧ ∃ o, w' = w.alloc o)
   (hLA : ∀ w, Calls Tryz.prog 127 #[wdv ha A ea false] w fun r w' => r = .returned (.int .i64 (La : Int)) ∧ ∃ o, w' = w.alloc o)
   (hLB : ∀ w, Calls Tryz.prog 127 #[wdv hb B eb false] w fun r w' => r = .returned (.int .i64 (Lb : Int)) ∧ ∃ o, w' = w.alloc o)
   (A1h A1l : Nat) (e1 : Int) (hUp : ∀ w, Calls Tryz.prog 126 #[wdv ha A ea false, .int .i64 (IntKind.i64.wrap (126 - (La : Int)))] w fun r w' => r = .returned (wdv A1h A1l e1 false) ∧ ∃ k o o', w' = ((w.alloc o).alloc o').drewN k)
   (he1 : -10000 ≤ e1) (he12 : e1 ≤ 10000) (hcb : eb < e1) (Bh Bl : Nat) (eb' : Int) (hB : ∀ w, Calls Tryz.prog 134 #[wdv hb B eb false, .int .i64 (e1 - eb)] w fun r w' => r = .returned (wdv Bh Bl eb' false) ∧ ∃ k o o', w' = ((w.alloc o).alloc o').drewN k)
   (hs : (na == nb) = false) (S1 S0 : Nat) (hBe : ∀ w, Calls Tryz.prog 129 #[wdv A1h A1l e1 false, wdv Bh Bl eb' false] w fun r w' => r = .returned (.bool false) ∧ ∃ o o', w' = (w.alloc o).alloc o') (hS : ∀ w, Calls Tryz.prog 136 #[wdv A1h A1l e1 false, wdv Bh Bl eb' false] w fun r w' => r = .returned (wdv S1 S0 e1 false) ∧ ∃ o o' o'' o3, w' = (((w.alloc o).alloc o').alloc o'').alloc o3)
   (v : Nat) (hO : ∀ w, Calls Tryz.prog 130 #[wdv S1 S0 e1 false, .bool na, .bool down] w fun r w' => r = .returned (.float .f64 v) ∧ Below w.heap.size w w') (w : World) :
   Calls Tryz.prog 109 #[.float .f64 x, .float .f64 y, .bool down] w fun r w' => r = .returned (numV v 0) ∧ Below w.heap.size w w' := by
 have HNx := Lib.hid hNx
 have HNy := Lib.hid hNy
 have HPx := Lib.hid hPx
 have HPy := Lib.hid hPy
 have HLA := Lib.hid hLA
 have HLB := Lib.hid hLB
 have HUp := Lib.hid hUp
 have HB := Lib.hid hB
 have HS := Lib.hid hS
 have HO := Lib.hid hO
 have HC := Lib.hid hc
 clear hNx hNy hPx hPy hLA hLB hUp hB hS hO hc
 have HBe := Lib.hid hBe
 clear hBe
 go_enter Tryz.func109, Tryz.ntmps109
 go_wp2_with fail
 refine (HNx.out _).mono ?_
 rintro e w' ⟨rfl, rfl⟩
 go_wp2_with fail
 refine (HNy.out _).mono ?_
 rintro e w' ⟨rfl, rfl⟩
 go_wp2_with fail
 refine (HPx.out _).mono ?_
 rintro e w' ⟨rfl, p1, rfl⟩
 go_wp2_with fail
 refine (HPy.out _).mono ?_
 rintro e w' ⟨rfl, p2, rfl⟩
 go_wp2_with fail
 go_cut [48] (fun c wc => c = .bool true ∧ ∃ p3 p4, wc = ((((((w.alloc p1).alloc (wdo hb B eb false)).alloc p2).alloc (wdo ha A ea false)).alloc p3).alloc p4).drew)
 case first =>
   go_region_held3 (fun w' => w'.cell? ⟨w.heap.size + 1, 0, none⟩ = some (.int .u64 (hb : Int)) ∧ w'.cell? ⟨w.heap.size + 1, 1, none⟩ = some (.int .u64 (B : Int)) ∧ w'.cell? ⟨w.heap.size + 1, 2, none⟩ = some (.int .i64 eb) ∧ w'.cell? ⟨w.heap.size + 1, 3, none⟩ = some (.bool false) ∧ w'.cell? ⟨w.heap.size + 1 + 1 + 1, 0, none⟩ = some (.int .u64 (ha : Int)) ∧ w'.cell? ⟨w.heap.size + 1 + 1 + 1, 1, none⟩ = some (.int .u64 (A : Int)) ∧ w'.cell? ⟨w.heap.size + 1 + 1 + 1, 2, none⟩ = some (.int .i64 ea) ∧ w'.cell? ⟨w.heap.size + 1 + 1 + 1, 3, none⟩ = some (.bool false))
     (exact eight_of (t := 115) (t' := 115) (by (repeat' (first | exact Blk.new_at _ _ _ (by simp) | apply Blk.drew | apply Blk.drewN | apply Blk.alloc))) (by (repeat' (first | exact Blk.new_at _ _ _ (by simp) | apply Blk.drew | apply Blk.drewN | apply Blk.alloc))))
     (first
       | (go_simp; go_at_call_of 127 (Value.agg #[Value.int IntKind.u64 (ha : Int), Value.int IntKind.u64 (A : Int), Value.int IntKind.i64 ea, Value.bool false]); refine (HLA.out _).mono ?_; rintro r w' ⟨rfl, o, rfl⟩; dsimp only)
       | (go_simp; go_at_call_of 127 (Value.agg #[Value.int IntKind.u64 (hb : Int), Value.int IntKind.u64 (B : Int), Value.int IntKind.i64 eb, Value.bool false]); refine (HLB.out _).mono ?_; rintro r w' ⟨rfl, o, rfl⟩; dsimp only))
   go_wp2_with fail
   go_meet
   refine ⟨?_, _, _, rfl⟩
   have hc := HC.out
   rw [show IntKind.i64.wrap ((La : Int) + ea) = ea + La by rw [IntKind.wrap_i64]; omega, show IntKind.i64.wrap ((Lb : Int) + eb) = eb + Lb by rw [IntKind.wrap_i64]; omega, decide_eq_true hc]
 case rest =>
   obtain ⟨rfl, p3, p4, rfl⟩ := hcut
   go_wp2_with fail
   go_cut [] (fun wc => ∃ p3 p4 p5 p6 p7 k, wc = (((((((((w.alloc p1).alloc (wdo A1h A1l e1 false)).alloc p2).alloc (wdo hb B eb false)).alloc p3).alloc p4).alloc p5).alloc p6).alloc p7).drewN k)
   case first =>
     go_region_with (first
       | (go_at_call 127; refine (HLA.out _).mono ?_; rintro r w' ⟨rfl, o, rfl⟩)
       | (go_at_call 126; refine (HUp.out _).mono ?_; rintro r w' ⟨rfl, k, o, o', rfl⟩))
     all_goals (go_wp2_with fail; go_meet; exact ⟨_, _, _, _, _, _, rfl⟩)
   case rest =>
     obtain ⟨p3, p4, p5, p6, p7, k, rfl⟩ := hcut
     go_wp2_with fail
     refine (HB.out _).mono ?_
     rintro r w' ⟨rfl, k', p8, p9, rfl⟩
     go_wp2_with fail
     refine (HBe.out _).mono ?_
     rintro r w' ⟨rfl, s00, s01, rfl⟩
     go_wp2_with fail
     refine (HS.out _).mono ?_
     rintro r w' ⟨rfl, s10, s11, s12, s13, rfl⟩
     go_wp2_with fail
     refine (HO.out _).mono ?_
     rintro r w' ⟨rfl, hb⟩
     have HBE := Lib.hid hb
     clear hb
     go_wp2_with fail
     go_ret2
     exact ⟨rfl, (below_drewN (below_more (below_more (below_more (below_more (below_more (below_more (below_more (below_more (below_more (below_more (below_more (below_more (below_more (below_more (below_more (below_more (below_more (below_new _ _) _) _) _) _) _) _) _) _) _) _) _) _) _) _) _) _) _) _).trans (HBE.out.mono (by simp; omega))⟩
theorem radd_y_R_d1 (x y : Nat) (down na nb : Bool) (ha hb A B : Nat) (ea eb : Int) (La Lb : Nat) (hLa : La ≤ 126) (hLb : Lb ≤ 126)
   (hea : -5000 ≤ ea) (hea2 : ea ≤ 5000) (heb : -5000 ≤ eb) (heb2 : eb ≤ 5000) (hc : eb + (Lb : Int) < ea + La) (hX0 : (FloatKind.f64.format.order x 0 == some .eq) = false) (hY0 : (FloatKind.f64.format.order y 0 == some .eq) = false)
   (hNx : ∀ w, Calls Tryz.prog 92 #[.float .f64 x] w fun e w' => e = .returned (.bool true) ∧ w = w') (hNy : ∀ w, Calls Tryz.prog 92 #[.float .f64 y] w fun e w' => e = .returned (.bool true) ∧ w = w')
   (hPx : ∀ w, Calls Tryz.prog 125 #[.float .f64 x] w fun r w' => r = .returned (.tuple #[wdv hb B eb false, .bool nb]) ∧ ∃ o, w' = w.alloc o)
   (hPy : ∀ w, Calls Tryz.prog 125 #[.float .f64 y] w fun r w' => r = .returned (.tuple #[wdv ha A ea false, .bool na]) ∧ ∃ o, w' = w.alloc o)
   (hLA : ∀ w, Calls Tryz.prog 127 #[wdv ha A ea false] w fun r w' => r = .returned (.int .i64 (La : Int)) ∧ ∃ o, w' = w.alloc o)
   (hLB : ∀ w, Calls Tryz.prog 127 #[wdv hb B eb false] w fun r w' => r = .returned (.int .i64 (Lb : Int)) ∧ ∃ o, w' = w.alloc o)
   (A1h A1l : Nat) (e1 : Int) (hUp : ∀ w, Calls Tryz.prog 126 #[wdv ha A ea false, .int .i64 (IntKind.i64.wrap (126 - (La : Int)))] w fun r w' => r = .returned (wdv A1h A1l e1 false) ∧ ∃ k o o', w' = ((w.alloc o).alloc o').drewN k)
   (he1 : -10000 ≤ e1) (he12 : e1 ≤ 10000) (hcb : eb < e1) (Bh Bl : Nat) (eb' : Int) (hB : ∀ w, Calls Tryz.prog 134 #[wdv hb B eb false, .int .i64 (e1 - eb)] w fun r w' => r = .returned (wdv Bh Bl eb' true) ∧ ∃ k o o', w' = ((w.alloc o).alloc o').drewN k)
   (hs : (na == nb) = false) (T1 T0 S1 S0 : Nat) (hBe : ∀ w, Calls Tryz.prog 136 #[wdv A1h A1l e1 false, wdv Bh Bl eb' true] w fun r w' => r = .returned (wdv T1 T0 e1 false) ∧ ∃ o o' o'' o3, w' = (((w.alloc o).alloc o').alloc o'').alloc o3) (hS : ∀ w, Calls Tryz.prog 136 #[wdv T1 T0 e1 false, .agg #[.int .u64 0, .int .u64 1, .int .i64 0, .bool false]] w fun r w' => r = .returned (wdv S1 S0 e1 false) ∧ ∃ o o' o'' o3, w' = (((w.alloc o).alloc o').alloc o'').alloc o3)
   (v : Nat) (hO : ∀ w, Calls Tryz.prog 130 #[wdv S1 S0 e1 true, .bool na, .bool down] w fun r w' => r = .returned (.float .f64 v) ∧ Below w.heap.size w w') (w : World) :
   Calls Tryz.prog 109 #[.float .f64 x, .float .f64 y, .bool down] w fun r w' => r = .returned (numV v 0) ∧ Below w.heap.size w w' := by
 have HNx := Lib.hid hNx
 have HNy := Lib.hid hNy
 have HPx := Lib.hid hPx
 have HPy := Lib.hid hPy
 have HLA := Lib.hid hLA
 have HLB := Lib.hid hLB
 have HUp := Lib.hid hUp
 have HB := Lib.hid hB
 have HS := Lib.hid hS
 have HO := Lib.hid hO
 have HC := Lib.hid hc
 clear hNx hNy hPx hPy hLA hLB hUp hB hS hO hc
 have HBe := Lib.hid hBe
 clear hBe
 go_enter Tryz.func109, Tryz.ntmps109
 go_wp2_with fail
 refine (HNx.out _).mono ?_
 rintro e w' ⟨rfl, rfl⟩
 go_wp2_with fail
 refine (HNy.out _).mono ?_
 rintro e w' ⟨rfl, rfl⟩
 go_wp2_with fail
 refine (HPx.out _).mono ?_
 rintro e w' ⟨rfl, p1, rfl⟩
 go_wp2_with fail
 refine (HPy.out _).mono ?_
 rintro e w' ⟨rfl, p2, rfl⟩
 go_wp2_with fail
 go_cut [48] (fun c wc => c = .bool true ∧ ∃ p3 p4, wc = ((((((w.alloc p1).alloc (wdo hb B eb false)).alloc p2).alloc (wdo ha A ea false)).alloc p3).alloc p4).drew)
 case first =>
   go_region_held3 (fun w' => w'.cell? ⟨w.heap.size + 1, 0, none⟩ = some (.int .u64 (hb : Int)) ∧ w'.cell? ⟨w.heap.size + 1, 1, none⟩ = some (.int .u64 (B : Int)) ∧ w'.cell? ⟨w.heap.size + 1, 2, none⟩ = some (.int .i64 eb) ∧ w'.cell? ⟨w.heap.size + 1, 3, none⟩ = some (.bool false) ∧ w'.cell? ⟨w.heap.size + 1 + 1 + 1, 0, none⟩ = some (.int .u64 (ha : Int)) ∧ w'.cell? ⟨w.heap.size + 1 + 1 + 1, 1, none⟩ = some (.int .u64 (A : Int)) ∧ w'.cell? ⟨w.heap.size + 1 + 1 + 1, 2, none⟩ = some (.int .i64 ea) ∧ w'.cell? ⟨w.heap.size + 1 + 1 + 1, 3, none⟩ = some (.bool false))
     (exact eight_of (t := 115) (t' := 115) (by (repeat' (first | exact Blk.new_at _ _ _ (by simp) | apply Blk.drew | apply Blk.drewN | apply Blk.alloc))) (by (repeat' (first | exact Blk.new_at _ _ _ (by simp) | apply Blk.drew | apply Blk.drewN | apply Blk.alloc))))
     (first
       | (go_simp; go_at_call_of 127 (Value.agg #[Value.int IntKind.u64 (ha : Int), Value.int IntKind.u64 (A : Int), Value.int IntKind.i64 ea, Value.bool false]); refine (HLA.out _).mono ?_; rintro r w' ⟨rfl, o, rfl⟩; dsimp only)
       | (go_simp; go_at_call_of 127 (Value.agg #[Value.int IntKind.u64 (hb : Int), Value.int IntKind.u64 (B : Int), Value.int IntKind.i64 eb, Value.bool false]); refine (HLB.out _).mono ?_; rintro r w' ⟨rfl, o, rfl⟩; dsimp only))
   go_wp2_with fail
   go_meet
   refine ⟨?_, _, _, rfl⟩
   have hc := HC.out
   rw [show IntKind.i64.wrap ((La : Int) + ea) = ea + La by rw [IntKind.wrap_i64]; omega, show IntKind.i64.wrap ((Lb : Int) + eb) = eb + Lb by rw [IntKind.wrap_i64]; omega, decide_eq_true hc]
 case rest =>
   obtain ⟨rfl, p3, p4, rfl⟩ := hcut
   go_wp2_with fail
   go_cut [] (fun wc => ∃ p3 p4 p5 p6 p7 k, wc = (((((((((w.alloc p1).alloc (wdo A1h A1l e1 false)).alloc p2).alloc (wdo hb B eb false)).alloc p3).alloc p4).alloc p5).alloc p6).alloc p7).drewN k)
   case first =>
     go_region_with (first
       | (go_at_call 127; refine (HLA.out _).mono ?_; rintro r w' ⟨rfl, o, rfl⟩)
       | (go_at_call 126; refine (HUp.out _).mono ?_; rintro r w' ⟨rfl, k, o, o', rfl⟩))
     all_goals (go_wp2_with fail; go_meet; exact ⟨_, _, _, _, _, _, rfl⟩)
   case rest =>
     obtain ⟨p3, p4, p5, p6, p7, k, rfl⟩ := hcut
     go_wp2_with fail
     refine (HB.out _).mono ?_
     rintro r w' ⟨rfl, k', p8, p9, rfl⟩
     go_wp2_with fail
     refine (HBe.out _).mono ?_
     rintro r w' ⟨rfl, s00, s01, s02, s03, rfl⟩
     go_wp2_with fail
     refine (HS.out _).mono ?_
     rintro r w' ⟨rfl, s10, s11, s12, s13, rfl⟩
     go_wp2_with fail
     refine (HO.out _).mono ?_
     rintro r w' ⟨rfl, hb⟩
     have HBE := Lib.hid hb
     clear hb
     go_wp2_with fail
     go_ret2
     exact ⟨rfl, (below_drewN (below_more (below_more (below_more (below_more (below_more (below_more (below_more (below_more (below_more (below_more (below_more (below_more (below_more (below_more (below_more (below_more (below_more (below_more (below_more (below_new _ _) _) _) _) _) _) _) _) _) _) _) _) _) _) _) _) _) _) _) _) _).trans (HBE.out.mono (by simp; omega))⟩
end Go.Proofs.YtnljfcebmgifdaaGreat
set_option linter.unusedVariables false
set_option linter.unusedSimpArgs false
namespace Go.Proofs.YtnljfcebmgifdaaGreat
open Go.RowKit Ieee
theorem wdW_small (W : Nat) (e : Int) (more : Bool) (h : W < 18446744073709551616) : wdW W e more = wdv 0 W e more := by
 unfold wdW
 rw [Nat.div_eq_of_lt h, Nat.mod_eq_of_lt h]
theorem wlen_s (A : Nat) (e : Int) (h : A < 18446744073709551616) (w : World) : Calls Tryz.prog 127 #[wdv 0 A e false] w fun r w' => r = .returned (.int .i64 (Fl.len A : Int)) ∧ ∃ o, w' = w.alloc o := by
 have := wlen_any 0 A e false (by omega) h w
 rw [Nat.zero_mul, Nat.zero_add] at this
 exact this
theorem up_s (A n m : Nat) (e : Int) (x : Int) (hx : x = (n : Int)) (hA : A < 18446744073709551616) (hm : m = A * 2 ^ n) (hW : m < 340282366920938463463374607431768211456) (hn : n ≤ 128) (he : -100000 ≤ e) (he2 : e ≤ 100000) (w : World) :
   Calls Tryz.prog 126 #[wdv 0 A e false, .int .i64 x] w fun r w' => r = .returned (wdW m (e - n) false) ∧ ∃ k o o', w' = ((w.alloc o).alloc o').drewN k := by
 subst hx hm
 have := up_any A e false n hW hn he he2 w
 rw [wdW_small A e false hA] at this
 exact this
end Go.Proofs.YtnljfcebmgifdaaGreat
namespace Go.Proofs.YtnljfcebmgifdaaGreat
open Go.RowKit Ieee
theorem wminus_one (A : Nat) (e : Int) (hA : A < 340282366920938463463374607431768211456) (h1 : 1 ≤ A) (w : World) :
   Calls Tryz.prog 136 #[wdW A e false, .agg #[.int .u64 0, .int .u64 1, .int .i64 0, .bool false]] w fun r w' => r = .returned (wdW (A - 1) e false) ∧ ∃ o o' o'' o3, w' = (((w.alloc o).alloc o').alloc o'').alloc o3 := by
 have := wminus_any A 1 e 0 false false hA h1 w
 rw [wdW_small 1 0 false (by omega)] at this
 exact this
theorem rcore_n (a b : Nat) (down : Bool) (ha : a < 18446744073709551616) (hb : b < 18446744073709551616) (fa : Fl.fin a = true) (fb : Fl.fin b = true) (ha0' : Fl.mg a ≠ 0) (hb0' : Fl.mg b ≠ 0) (hc : Fl.sE b + (Fl.len (Fl.sM b) : Int) ≤ Fl.sE a + Fl.len (Fl.sM a)) (w : World) :
   Calls Tryz.prog 109 #[.float .f64 a, .float .f64 b, .bool down] w fun r w' => r = .returned (numV (toS down (sumCore (Fl.sg a) (Fl.sg b) (Fl.sM a) (Fl.sM b) (Fl.sE a) (Fl.sE b))) 0) ∧ Below w.heap.size w w' := by
 have ha0 := eq0_of a ha fa
 rw [decide_eq_false ha0'] at ha0
 have hb0 := eq0_of b hb fb
 rw [decide_eq_false hb0'] at hb0
 have hA0 : Fl.sM a ≠ 0 := fun h => ha0' ((Fl.sM_zero a).1 h)
 have hB0 : Fl.sM b ≠ 0 := fun h => hb0' ((Fl.sM_zero b).1 h)
 have hNa := rnum_good a ha fa
 have hNb := rnum_good b hb fb
 have hA := Fl.sM_lt a
 have hB := Fl.sM_lt b
 have hea := Fl.sE_ge a
 have hea2 := Fl.sE_le a fa
 have heb := Fl.sE_ge b
 have heb2 := Fl.sE_le b fb
 have l1 := len53 hA
 have l2 := len53 hB
 have l3 := Fl.len_pos hA0
 have l4 := Fl.len_pos hB0
 have bA := norm126 hA
 have hok := sumCore_ok (Fl.sg a) (Fl.sg b) (Fl.sM a) (Fl.sM b) (Fl.sE a) (Fl.sE b) hA hB hA0 hB0 hea hea2 heb heb2 (by omega)
 obtain ⟨e1, he1⟩ : ∃ e1, e1 = Fl.sE a + (Fl.len (Fl.sM a) : Int) - 126 := ⟨_, rfl⟩
 obtain ⟨A1, hA1⟩ : ∃ A1, A1 = Fl.sM a * 2 ^ (126 - Fl.len (Fl.sM a)) := ⟨_, rfl⟩
 rw [← hA1] at bA
 have hUp : ∀ w, Calls Tryz.prog 126 #[wdv 0 (Fl.sM a) (Fl.sE a) false, .int .i64 (IntKind.i64.wrap (126 - (Fl.len (Fl.sM a) : Int)))] w fun r w' => r = .returned (wdW A1 e1 false) ∧ ∃ k o o', w' = ((w.alloc o).alloc o').drewN k := by
   intro w
   have := up_s (Fl.sM a) (126 - Fl.len (Fl.sM a)) A1 (Fl.sE a) _ (wrap_sub 126 (Fl.len (Fl.sM a)) l1 (by omega) (by omega)) (by omega) hA1 (by omega) (by omega) (by omega) (by omega) w
   rw [show Fl.sE a - ((126 - Fl.len (Fl.sM a) : Nat) : Int) = e1 by omega] at this
   exact this
 by_cases h1 : e1 ≤ Fl.sE b
 · rw [sumCore_le _ _ _ _ _ _ (by omega), ← he1, ← hA1] at hok ⊢
   obtain ⟨k, hk⟩ : ∃ k : Nat, Fl.sE b - e1 = k := ⟨(Fl.sE b - e1).toNat, by omega⟩
   rw [show (Fl.sE b - e1).toNat = k by omega] at hok ⊢
   obtain ⟨B1, hB1⟩ : ∃ B1, B1 = Fl.sM b * 2 ^ k := ⟨_, rfl⟩
   have bB : B1 < 85070591730234615865843651857942052864 := by
     rw [hB1]; exact lt126 (Fl.lt_len (Fl.sM b)) (by omega)
   have hBc : ∀ w, Calls Tryz.prog 126 #[wdv 0 (Fl.sM b) (Fl.sE b) false, .int .i64 (Fl.sE b - e1)] w fun r w' => r = .returned (wdW B1 e1 false) ∧ ∃ k o o', w' = ((w.alloc o).alloc o').drewN k := by
     intro w
     have := up_s (Fl.sM b) k B1 (Fl.sE b) _ hk (by omega) hB1 (by omega) (by omega) (by omega) (by omega) w
     rw [show Fl.sE b - (k : Int) = e1 by omega] at this
     exact this
   rw [← hB1] at hok ⊢
   unfold sumFin toS at *
   by_cases hs : (Fl.sg a == Fl.sg b) = true
   · rw [if_pos hs] at hok ⊢
     exact radd_n_L_s a b down (Fl.sg a) (Fl.sg b) 0 0 (Fl.sM a) (Fl.sM b) (Fl.sE a) (Fl.sE b) _ _ (by omega) (by omega) (by omega) (by omega) (by omega) (by omega) hc ha0 hb0 hNa hNb (part_any a ha) (part_any b hb) (wlen_s _ _ (by omega)) (wlen_s _ _ (by omega)) _ _ e1 hUp (by omega) (by omega) (by omega) _ _ e1 hBc hs _ _ (fun w => wplus_any A1 B1 e1 e1 false (by omega) (by omega) (by omega) w) _ (rto_ok _ down _ _ _ hok) w
   · rw [if_neg hs, if_neg Bool.false_ne_true] at hok ⊢
     have hs' : (Fl.sg a == Fl.sg b) = false := by revert hs; cases Fl.sg a <;> cases Fl.sg b <;> decide
     by_cases hlt : A1 < B1
     · rw [if_pos hlt] at hok ⊢
       exact radd_n_L_d0n a b down (Fl.sg a) (Fl.sg b) 0 0 (Fl.sM a) (Fl.sM b) (Fl.sE a) (Fl.sE b) _ _ (by omega) (by omega) (by omega) (by omega) (by omega) (by omega) hc ha0 hb0 hNa hNb (part_any a ha) (part_any b hb) (wlen_s _ _ (by omega)) (wlen_s _ _ (by omega)) _ _ e1 hUp (by omega) (by omega) (by omega) _ _ e1 hBc hs' _ _ (fun w => by have := wless_any A1 B1 e1 e1 false false (by omega) (by omega) w; rw [decide_eq_true hlt] at this; exact this) (fun w => wminus_any B1 A1 e1 e1 false false (by omega) (by omega) w) _ (rto_ok _ down _ _ _ hok) w
     · rw [if_neg hlt] at hok ⊢
       exact radd_n_L_d0 a b down (Fl.sg a) (Fl.sg b) 0 0 (Fl.sM a) (Fl.sM b) (Fl.sE a) (Fl.sE b) _ _ (by omega) (by omega) (by omega) (by omega) (by omega) (by omega) hc ha0 hb0 hNa hNb (part_any a ha) (part_any b hb) (wlen_s _ _ (by omega)) (wlen_s _ _ (by omega)) _ _ e1 hUp (by omega) (by omega) (by omega) _ _ e1 hBc hs' _ _ (fun w => by have := wless_any A1 B1 e1 e1 false false (by omega) (by omega) w; rw [decide_eq_false hlt] at this; exact this) (fun w => wminus_any A1 B1 e1 e1 false false (by omega) (by omega) w) _ (rto_ok _ down _ _ _ hok) w
 · rw [sumCore_gt _ _ _ _ _ _ (by omega), ← he1, ← hA1] at hok ⊢
   obtain ⟨k, hk⟩ : ∃ k : Nat, e1 - Fl.sE b = k := ⟨(e1 - Fl.sE b).toNat, by omega⟩
   rw [show (e1 - Fl.sE b).toNat = k by omega] at hok ⊢
   obtain ⟨B1, hB1⟩ : ∃ B1, B1 = Fl.sM b / 2 ^ k := ⟨_, rfl⟩
   have bB : B1 < 9007199254740992 := by
     rw [hB1]; exact Nat.lt_of_le_of_lt (Nat.div_le_self _ _) hB
   have hge := top126 hA0 (by omega)
   rw [← hA1] at hge
   obtain ⟨mb, hmb⟩ : ∃ x, x = (Fl.sM b % 2 ^ k != 0) := ⟨_, rfl⟩
   have hBc : ∀ w, Calls Tryz.prog 134 #[wdv 0 (Fl.sM b) (Fl.sE b) false, .int .i64 (e1 - Fl.sE b)] w fun r w' => r = .returned (wdW B1 e1 mb) ∧ ∃ k o o', w' = ((w.alloc o).alloc o').drewN k := by
     intro w
     have := down_any (Fl.sM b) (Fl.sE b) false k (by omega) (by omega) (by omega) (by omega) (by omega) w
     rw [wdW_small (Fl.sM b) _ _ (by omega), ← hB1, Bool.false_or, ← hmb, show Fl.sE b + (k : Int) = e1 by omega] at this
     rw [hk]
     exact this
   rw [← hB1, ← hmb] at hok ⊢
   unfold sumFin toS at *
   by_cases hs : (Fl.sg a == Fl.sg b) = true
   · rw [if_pos hs] at hok ⊢
     exact radd_n_R_s a b down (Fl.sg a) (Fl.sg b) 0 0 (Fl.sM a) (Fl.sM b) (Fl.sE a) (Fl.sE b) _ _ (by omega) (by omega) (by omega) (by omega) (by omega) (by omega) hc ha0 hb0 hNa hNb (part_any a ha) (part_any b hb) (wlen_s _ _ (by omega)) (wlen_s _ _ (by omega)) _ _ e1 hUp (by omega) (by omega) (by omega) _ _ e1 mb hBc hs _ _ (fun w => wplus_any A1 B1 e1 e1 mb (by omega) (by omega) (by omega) w) _ (rto_ok _ down _ _ _ hok) w
   · rw [if_neg hs] at hok ⊢
     have hs' : (Fl.sg a == Fl.sg b) = false := by revert hs; cases Fl.sg a <;> cases Fl.sg b <;> decide
     clear hmb
     cases mb
     · rw [if_neg Bool.false_ne_true, if_neg (by omega : ¬ A1 < B1)] at hok ⊢
       exact radd_n_R_d0 a b down (Fl.sg a) (Fl.sg b) 0 0 (Fl.sM a) (Fl.sM b) (Fl.sE a) (Fl.sE b) _ _ (by omega) (by omega) (by omega) (by omega) (by omega) (by omega) hc ha0 hb0 hNa hNb (part_any a ha) (part_any b hb) (wlen_s _ _ (by omega)) (wlen_s _ _ (by omega)) _ _ e1 hUp (by omega) (by omega) (by omega) _ _ e1 hBc hs' _ _ (fun w => by have := wless_any A1 B1 e1 e1 false false (by omega) (by omega) w; rw [decide_eq_false (by omega : ¬ A1 < B1)] at this; exact this) (fun w => wminus_any A1 B1 e1 e1 false false (by omega) (by omega) w) _ (rto_ok _ down _ _ _ hok) w
     · rw [if_pos rfl] at hok ⊢
       exact radd_n_R_d1 a b down (Fl.sg a) (Fl.sg b) 0 0 (Fl.sM a) (Fl.sM b) (Fl.sE a) (Fl.sE b) _ _ (by omega) (by omega) (by omega) (by omega) (by omega) (by omega) hc ha0 hb0 hNa hNb (part_any a ha) (part_any b hb) (wlen_s _ _ (by omega)) (wlen_s _ _ (by omega)) _ _ e1 hUp (by omega) (by omega) (by omega) _ _ e1 hBc hs' _ _ _ _ (fun w => wminus_any A1 B1 e1 e1 false true (by omega) (by omega) w) (fun w => wminus_one (A1 - B1) e1 (by omega) (by omega) w) _ (rto_ok _ down _ _ _ hok) w
theorem rcore_y (a b : Nat) (down : Bool) (ha : a < 18446744073709551616) (hb : b < 18446744073709551616) (fa : Fl.fin a = true) (fb : Fl.fin b = true) (ha0' : Fl.mg a ≠ 0) (hb0' : Fl.mg b ≠ 0) (hc : Fl.sE b + (Fl.len (Fl.sM b) : Int) < Fl.sE a + Fl.len (Fl.sM a)) (w : World) :
   Calls Tryz.prog 109 #[.float .f64 b, .float .f64 a, .bool down] w fun r w' => r = .returned (numV (toS down (sumCore (Fl.sg a) (Fl.sg b) (Fl.sM a) (Fl.sM b) (Fl.sE a) (Fl.sE b))) 0) ∧ Below w.heap.size w w' := by
 have ha0 := eq0_of a ha fa
 rw [decide_eq_false ha0'] at ha0
 have hb0 := eq0_of b hb fb
 rw [decide_eq_false hb0'] at hb0
 have hA0 : Fl.sM a ≠ 0 := fun h => ha0' ((Fl.sM_zero a).1 h)
 have hB0 : Fl.sM b ≠ 0 := fun h => hb0' ((Fl.sM_zero b).1 h)
 have hNa := rnum_good a ha fa
 have hNb := rnum_good b hb fb
 have hA := Fl.sM_lt a
 have hB := Fl.sM_lt b
 have hea := Fl.sE_ge a
 have hea2 := Fl.sE_le a fa
 have heb := Fl.sE_ge b
 have heb2 := Fl.sE_le b fb
 have l1 := len53 hA
 have l2 := len53 hB
 have l3 := Fl.len_pos hA0
 have l4 := Fl.len_pos hB0
 have bA := norm126 hA
 have hok := sumCore_ok (Fl.sg a) (Fl.sg b) (Fl.sM a) (Fl.sM b) (Fl.sE a) (Fl.sE b) hA hB hA0 hB0 hea hea2 heb heb2 (by omega)
 obtain ⟨e1, he1⟩ : ∃ e1, e1 = Fl.sE a + (Fl.len (Fl.sM a) : Int) - 126 := ⟨_, rfl⟩
 obtain ⟨A1, hA1⟩ : ∃ A1, A1 = Fl.sM a * 2 ^ (126 - Fl.len (Fl.sM a)) := ⟨_, rfl⟩
 rw [← hA1] at bA
 have hUp : ∀ w, Calls Tryz.prog 126 #[wdv 0 (Fl.sM a) (Fl.sE a) false, .int .i64 (IntKind.i64.wrap (126 - (Fl.len (Fl.sM a) : Int)))] w fun r w' => r = .returned (wdW A1 e1 false) ∧ ∃ k o o', w' = ((w.alloc o).alloc o').drewN k := by
   intro w
   have := up_s (Fl.sM a) (126 - Fl.len (Fl.sM a)) A1 (Fl.sE a) _ (wrap_sub 126 (Fl.len (Fl.sM a)) l1 (by omega) (by omega)) (by omega) hA1 (by omega) (by omega) (by omega) (by omega) w
   rw [show Fl.sE a - ((126 - Fl.len (Fl.sM a) : Nat) : Int) = e1 by omega] at this
   exact this
 by_cases h1 : e1 ≤ Fl.sE b
 · rw [sumCore_le _ _ _ _ _ _ (by omega), ← he1, ← hA1] at hok ⊢
   obtain ⟨k, hk⟩ : ∃ k : Nat, Fl.sE b - e1 = k := ⟨(Fl.sE b - e1).toNat, by omega⟩
   rw [show (Fl.sE b - e1).toNat = k by omega] at hok ⊢
   obtain ⟨B1, hB1⟩ : ∃ B1, B1 = Fl.sM b * 2 ^ k := ⟨_, rfl⟩
   have bB : B1 < 85070591730234615865843651857942052864 := by
     rw [hB1]; exact lt126 (Fl.lt_len (Fl.sM b)) (by omega)
   have hBc : ∀ w, Calls Tryz.prog 126 #[wdv 0 (Fl.sM b) (Fl.sE b) false, .int .i64 (Fl.sE b - e1)] w fun r w' => r = .returned (wdW B1 e1 false) ∧ ∃ k o o', w' = ((w.alloc o).alloc o').drewN k := by
     intro w
     have := up_s (Fl.sM b) k B1 (Fl.sE b) _ hk (by omega) hB1 (by omega) (by omega) (by omega) (by omega) w
     rw [show Fl.sE b - (k : Int) = e1 by omega] at this
     exact this
   rw [← hB1] at hok ⊢
   unfold sumFin toS at *
   by_cases hs : (Fl.sg a == Fl.sg b) = true
   · rw [if_pos hs] at hok ⊢
     exact radd_y_L_s b a down (Fl.sg a) (Fl.sg b) 0 0 (Fl.sM a) (Fl.sM b) (Fl.sE a) (Fl.sE b) _ _ (by omega) (by omega) (by omega) (by omega) (by omega) (by omega) hc hb0 ha0 hNb hNa (part_any b hb) (part_any a ha) (wlen_s _ _ (by omega)) (wlen_s _ _ (by omega)) _ _ e1 hUp (by omega) (by omega) (by omega) _ _ e1 hBc hs _ _ (fun w => wplus_any A1 B1 e1 e1 false (by omega) (by omega) (by omega) w) _ (rto_ok _ down _ _ _ hok) w
   · rw [if_neg hs, if_neg Bool.false_ne_true] at hok ⊢
     have hs' : (Fl.sg a == Fl.sg b) = false := by revert hs; cases Fl.sg a <;> cases Fl.sg b <;> decide
     by_cases hlt : A1 < B1
     · rw [if_pos hlt] at hok ⊢
       exact radd_y_L_d0n b a down (Fl.sg a) (Fl.sg b) 0 0 (Fl.sM a) (Fl.sM b) (Fl.sE a) (Fl.sE b) _ _ (by omega) (by omega) (by omega) (by omega) (by omega) (by omega) hc hb0 ha0 hNb hNa (part_any b hb) (part_any a ha) (wlen_s _ _ (by omega)) (wlen_s _ _ (by omega)) _ _ e1 hUp (by omega) (by omega) (by omega) _ _ e1 hBc hs' _ _ (fun w => by have := wless_any A1 B1 e1 e1 false false (by omega) (by omega) w; rw [decide_eq_true hlt] at this; exact this) (fun w => wminus_any B1 A1 e1 e1 false false (by omega) (by omega) w) _ (rto_ok _ down _ _ _ hok) w
     · rw [if_neg hlt] at hok ⊢
       exact radd_y_L_d0 b a down (Fl.sg a) (Fl.sg b) 0 0 (Fl.sM a) (Fl.sM b) (Fl.sE a) (Fl.sE b) _ _ (by omega) (by omega) (by omega) (by omega) (by omega) (by omega) hc hb0 ha0 hNb hNa (part_any b hb) (part_any a ha) (wlen_s _ _ (by omega)) (wlen_s _ _ (by omega)) _ _ e1 hUp (by omega) (by omega) (by omega) _ _ e1 hBc hs' _ _ (fun w => by have := wless_any A1 B1 e1 e1 false false (by omega) (by omega) w; rw [decide_eq_false hlt] at this; exact this) (fun w => wminus_any A1 B1 e1 e1 false false (by omega) (by omega) w) _ (rto_ok _ down _ _ _ hok) w
 · rw [sumCore_gt _ _ _ _ _ _ (by omega), ← he1, ← hA1] at hok ⊢
   obtain ⟨k, hk⟩ : ∃ k : Nat, e1 - Fl.sE b = k := ⟨(e1 - Fl.sE b).toNat, by omega⟩
   rw [show (e1 - Fl.sE b).toNat = k by omega] at hok ⊢
   obtain ⟨B1, hB1⟩ : ∃ B1, B1 = Fl.sM b / 2 ^ k := ⟨_, rfl⟩
   have bB : B1 < 9007199254740992 := by
     rw [hB1]; exact Nat.lt_of_le_of_lt (Nat.div_le_self _ _) hB
   have hge := top126 hA0 (by omega)
   rw [← hA1] at hge
   obtain ⟨mb, hmb⟩ : ∃ x, x = (Fl.sM b % 2 ^ k != 0) := ⟨_, rfl⟩
   have hBc : ∀ w, Calls Tryz.prog 134 #[wdv 0 (Fl.sM b) (Fl.sE b) false, .int .i64 (e1 - Fl.sE b)] w fun r w' => r = .returned (wdW B1 e1 mb) ∧ ∃ k o o', w' = ((w.alloc o).alloc o').drewN k := by
     intro w
     have := down_any (Fl.sM b) (Fl.sE b) false k (by omega) (by omega) (by omega) (by omega) (by omega) w
     rw [wdW_small (Fl.sM b) _ _ (by omega), ← hB1, Bool.false_or, ← hmb, show Fl.sE b + (k : Int) = e1 by omega] at this
     rw [hk]
     exact this
   rw [← hB1, ← hmb] at hok ⊢
   unfold sumFin toS at *
   by_cases hs : (Fl.sg a == Fl.sg b) = true
   · rw [if_pos hs] at hok ⊢
     exact radd_y_R_s b a down (Fl.sg a) (Fl.sg b) 0 0 (Fl.sM a) (Fl.sM b) (Fl.sE a) (Fl.sE b) _ _ (by omega) (by omega) (by omega) (by omega) (by omega) (by omega) hc hb0 ha0 hNb hNa (part_any b hb) (part_any a ha) (wlen_s _ _ (by omega)) (wlen_s _ _ (by omega)) _ _ e1 hUp (by omega) (by omega) (by omega) _ _ e1 mb hBc hs _ _ (fun w => wplus_any A1 B1 e1 e1 mb (by omega) (by omega) (by omega) w) _ (rto_ok _ down _ _ _ hok) w
   · rw [if_neg hs] at hok ⊢
     have hs' : (Fl.sg a == Fl.sg b) = false := by revert hs; cases Fl.sg a <;> cases Fl.sg b <;> decide
     clear hmb
     cases mb
     · rw [if_neg Bool.false_ne_true, if_neg (by omega : ¬ A1 < B1)] at hok ⊢
       exact radd_y_R_d0 b a down (Fl.sg a) (Fl.sg b) 0 0 (Fl.sM a) (Fl.sM b) (Fl.sE a) (Fl.sE b) _ _ (by omega) (by omega) (by omega) (by omega) (by omega) (by omega) hc hb0 ha0 hNb hNa (part_any b hb) (part_any a ha) (wlen_s _ _ (by omega)) (wlen_s _ _ (by omega)) _ _ e1 hUp (by omega) (by omega) (by omega) _ _ e1 hBc hs' _ _ (fun w => by have := wless_any A1 B1 e1 e1 false false (by omega) (by omega) w; rw [decide_eq_false (by omega : ¬ A1 < B1)] at this; exact this) (fun w => wminus_any A1 B1 e1 e1 false false (by omega) (by omega) w) _ (rto_ok _ down _ _ _ hok) w
     · rw [if_pos rfl] at hok ⊢
       exact radd_y_R_d1 b a down (Fl.sg a) (Fl.sg b) 0 0 (Fl.sM a) (Fl.sM b) (Fl.sE a) (Fl.sE b) _ _ (by omega) (by omega) (by omega) (by omega) (by omega) (by omega) hc hb0 ha0 hNb hNa (part_any b hb) (part_any a ha) (wlen_s _ _ (by omega)) (wlen_s _ _ (by omega)) _ _ e1 hUp (by omega) (by omega) (by omega) _ _ e1 hBc hs' _ _ _ _ (fun w => wminus_any A1 B1 e1 e1 false true (by omega) (by omega) w) (fun w => wminus_one (A1 - B1) e1 (by omega) (by omega) w) _ (rto_ok _ down _ _ _ hok) w
end Go.Proofs.YtnljfcebmgifdaaGreat
namespace Go.Proofs.YtnljfcebmgifdaaGreat
open Go.RowKit Ieee
theorem below_drewN0 (w : World) (k : Nat) : Below w.heap.size w (w.drewN k) := below_drewN (Below.refl _ _) k
theorem rmul_any (a b : Nat) (down : Bool) (ha : a < 18446744073709551616) (hb : b < 18446744073709551616) (w : World) :
   Calls Tryz.prog 111 #[.float .f64 a, .float .f64 b, .bool down] w fun r w' => r = .returned (pV (mulR a b down)) ∧ Below w.heap.size w w' := by
 unfold mulR pV
 by_cases hf : (Fl.fin a && Fl.fin b) = true
 · rw [if_pos hf]
   have h2 : Fl.fin a = true ∧ Fl.fin b = true := by revert hf; cases Fl.fin a <;> cases Fl.fin b <;> simp
   exact rmul_good a b down ha hb h2.1 h2.2 w
 · rw [if_neg hf]
   refine (rmul_bad a b down ha hb (by revert hf; cases (Fl.fin a && Fl.fin b) <;> simp) w).mono ?_
   rintro r w' ⟨rfl, k, rfl⟩
   exact ⟨rfl, below_drewN0 w k⟩
section
variable (F : FuncId)
end
theorem radd_bad (a b : Nat) (down : Bool) (ha : a < 18446744073709551616) (hb : b < 18446744073709551616) (hf : (Fl.fin a && Fl.fin b) = false) (w : World) :
   Calls Tryz.prog 109 #[.float .f64 a, .float .f64 b, .bool down] w fun r w' => r = .returned (numV 0 10) ∧ ∃ k, w' = w.drewN k := by
 have HX := Lib.hid (fun w => rnum_any a ha w)
 have HY := Lib.hid (fun w => rnum_any b hb w)
 generalize Fl.fin a = x at *
 generalize Fl.fin b = y at *
 cases x
 · go_enter Tryz.func109, Tryz.ntmps109
   go_wp2_with fail
   refine (HX.out _).mono ?_
   rintro e w' ⟨rfl, k, rfl⟩
   go_wp2_with fail
   go_ret2
   exact ⟨rfl, _, rfl⟩
 · obtain rfl : y = false := by simpa using hf
   go_enter Tryz.func109, Tryz.ntmps109
   go_wp2_with fail
   refine (HX.out _).mono ?_
   rintro e w' ⟨rfl, k, rfl⟩
   go_wp2_with fail
   refine (HY.out _).mono ?_
   rintro e w' ⟨rfl, k', rfl⟩
   go_wp2_with fail
   go_ret2
   exact ⟨rfl, _, rfl⟩
theorem radd_y0 (a b : Nat) (down : Bool) (ha : a < 18446744073709551616) (hb : b < 18446744073709551616) (fa : Fl.fin a = true) (fb : Fl.fin b = true) (h0 : Fl.mg b = 0) (w : World) :
   Calls Tryz.prog 109 #[.float .f64 a, .float .f64 b, .bool down] w fun r w' => r = .returned (numV (Fl.pl a) 0) ∧ w = w' := by
 have HX := Lib.hid (fun w => rnum_good a ha fa w)
 have HY := Lib.hid (fun w => rnum_good b hb fb w)
 have HZ := Lib.hid (fun w => zeroed_any a ha (Fl.nan_of_fin fa) w)
 have E := eq0_of b hb fb
 rw [decide_eq_true h0] at E
 generalize Fl.pl a = p at *
 clear fa fb h0
 go_enter Tryz.func109, Tryz.ntmps109
 go_wp2_with fail
 refine (HX.out _).mono ?_
 rintro e w' ⟨rfl, rfl⟩
 go_wp2_with fail
 refine (HY.out _).mono ?_
 rintro e w' ⟨rfl, rfl⟩
 go_wp2_with fail
 refine (HZ.out _).mono ?_
 rintro e w' ⟨rfl, rfl⟩
 go_wp2_with fail
 go_ret2
 exact ⟨rfl, rfl⟩
theorem radd_x0 (a b : Nat) (down : Bool) (ha : a < 18446744073709551616) (hb : b < 18446744073709551616) (fa : Fl.fin a = true) (fb : Fl.fin b = true) (h0 : Fl.mg b ≠ 0) (ha0 : Fl.mg a = 0) (w : World) :
   Calls Tryz.prog 109 #[.float .f64 a, .float .f64 b, .bool down] w fun r w' => r = .returned (numV b 0) ∧ w = w' := by
 have HX := Lib.hid (fun w => rnum_good a ha fa w)
 have HY := Lib.hid (fun w => rnum_good b hb fb w)
 have E := eq0_of b hb fb
 rw [decide_eq_false h0] at E
 have E2 := eq0_of a ha fa
 rw [decide_eq_true ha0] at E2
 clear fa fb h0 ha0
 go_enter Tryz.func109, Tryz.ntmps109
 go_wp2_with fail
 refine (HX.out _).mono ?_
 rintro e w' ⟨rfl, rfl⟩
 go_wp2_with fail
 refine (HY.out _).mono ?_
 rintro e w' ⟨rfl, rfl⟩
 go_wp2_with fail
 go_ret2
 exact ⟨rfl, rfl⟩
theorem radd_any (a b : Nat) (down : Bool) (ha : a < 18446744073709551616) (hb : b < 18446744073709551616) (w : World) :
   Calls Tryz.prog 109 #[.float .f64 a, .float .f64 b, .bool down] w fun r w' => r = .returned (pV (addR a b down)) ∧ Below w.heap.size w w' := by
 unfold addR pV
 by_cases hf : (Fl.fin a && Fl.fin b) = true
 · rw [if_pos hf]
   have h2 : Fl.fin a = true ∧ Fl.fin b = true := by revert hf; cases Fl.fin a <;> cases Fl.fin b <;> simp
   by_cases h0 : Fl.mg b = 0
   · refine (radd_y0 a b down ha hb h2.1 h2.2 h0 w).mono ?_
     rintro r w' ⟨rfl, rfl⟩
     have hv : toS down (sumOf (Fl.sg a) (Fl.sg b) (Fl.sM a) (Fl.sM b) (Fl.sE a) (Fl.sE b)) = Fl.pl a := by
       unfold sumOf
       by_cases ha0 : Fl.sM a = 0
       · rw [if_pos ha0, pl_zero ha ((Fl.sM_zero a).1 ha0)]
         unfold toS
         dsimp only
         rw [toVal_self down b hb h2.2, pl_zero hb h0]
       · rw [if_neg ha0, if_pos ((Fl.sM_zero b).2 h0)]
         exact toVal_self down a ha h2.1
     exact ⟨by rw [hv], Below.refl _ _⟩
   · by_cases ha0 : Fl.mg a = 0
     · refine (radd_x0 a b down ha hb h2.1 h2.2 h0 ha0 w).mono ?_
       rintro r w' ⟨rfl, rfl⟩
       have hv : toS down (sumOf (Fl.sg a) (Fl.sg b) (Fl.sM a) (Fl.sM b) (Fl.sE a) (Fl.sE b)) = b := by
         unfold sumOf
         rw [if_pos ((Fl.sM_zero a).2 ha0)]
         exact (toVal_self down b hb h2.2).trans (pl_nonzero h0)
       exact ⟨by rw [hv], Below.refl _ _⟩
     · have hs : sumOf (Fl.sg a) (Fl.sg b) (Fl.sM a) (Fl.sM b) (Fl.sE a) (Fl.sE b) = if Fl.sE a + (Fl.len (Fl.sM a) : Int) < Fl.sE b + (Fl.len (Fl.sM b) : Int) then sumCore (Fl.sg b) (Fl.sg a) (Fl.sM b) (Fl.sM a) (Fl.sE b) (Fl.sE a) else sumCore (Fl.sg a) (Fl.sg b) (Fl.sM a) (Fl.sM b) (Fl.sE a) (Fl.sE b) := by
         unfold sumOf
         rw [if_neg (fun h => ha0 ((Fl.sM_zero a).1 h)), if_neg (fun h => h0 ((Fl.sM_zero b).1 h))]
       rw [hs]
       by_cases hc : Fl.sE a + (Fl.len (Fl.sM a) : Int) < Fl.sE b + (Fl.len (Fl.sM b) : Int)
       · rw [if_pos hc]
         exact rcore_y b a down hb ha h2.2 h2.1 h0 ha0 hc w
       · rw [if_neg hc]
         exact rcore_n a b down ha hb h2.1 h2.2 ha0 h0 (by omega) w
 · rw [if_neg hf]
   refine (radd_bad a b down ha hb (by revert hf; cases (Fl.fin a && Fl.fin b) <;> simp) w).mono ?_
   rintro r w' ⟨rfl, k, rfl⟩
   exact ⟨rfl, below_drewN0 w k⟩
end Go.Proofs.YtnljfcebmgifdaaGreat
namespace Go.Proofs.YtnljfcebmgifdaaGreat
open Go.RowKit Ieee
end Go.Proofs.YtnljfcebmgifdaaGreat
set_option linter.unusedVariables false
set_option linter.unusedSimpArgs false
namespace Go.Proofs.YtnljfcebmgifdaaGreat
open Fl
theorem fv_nonpos {a : Nat} : fv a ≤ 0 ↔ Z a ≤ 0 := by have := fv_le (a := a) (b := 0); rw [fv0, show Z 0 = 0 by decide] at this; exact this
end Go.Proofs.YtnljfcebmgifdaaGreat
namespace Go.Proofs.YtnljfcebmgifdaaGreat
open Fl
end Go.Proofs.YtnljfcebmgifdaaGreat
namespace Go.Proofs.YtnljfcebmgifdaaGreat
open Fl
theorem fv_pl (x : Nat) : fv (pl x) = fv x := by unfold fv; rw [Z_pl]
theorem in_of (x : Nat) : InS (fv x) (ofS x) := by
 unfold ofS
 split
 · exact ⟨Or.inr (by show fv (pl x) ≤ _; rw [fv_pl]; exact Rat.le_refl), Or.inr (by show _ ≤ fv (pl x); rw [fv_pl]; exact Rat.le_refl)⟩
 · exact in_all _
end Go.Proofs.YtnljfcebmgifdaaGreat
namespace Go.Proofs.YtnljfcebmgifdaaGreat
open Fl
end Go.Proofs.YtnljfcebmgifdaaGreat
namespace Go.Proofs.YtnljfcebmgifdaaGreat
open Fl Ieee
end Go.Proofs.YtnljfcebmgifdaaGreat
