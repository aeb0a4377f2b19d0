/- Shaken: Se. -/
import Derived.Test.YtnljfcebmgifdaaGreatZGe
set_option maxRecDepth 100000
set_option maxHeartbeats 2000000
set_option linter.unusedVariables false
set_option linter.unusedSimpArgs false
namespace Go.Proofs.YtnljfcebmgifdaaGreat
open Go.RowKit Fl
theorem mul_a0 (a b : Sp) (e1 : isZW a.lo a.hi = true) (w : World) : Calls Tryz.prog 68 #[.agg #[.float .f64 a.lo, .float .f64 a.hi], .agg #[.float .f64 b.lo, .float .f64 b.hi]] w fun r w' => r = .returned (.agg #[.float .f64 0, .float .f64 0]) ∧ Below w.heap.size w w' := by
 go_enter Tryz.func68, Tryz.ntmps68
 go_wp2_with fail
 go_returns
 exact ⟨rfl, below_new3 _ _ _ _⟩
theorem mul_b0 (a b : Sp) (e1 : isZW a.lo a.hi = false) (e2 : isZW b.lo b.hi = true) (w : World) : Calls Tryz.prog 68 #[.agg #[.float .f64 a.lo, .float .f64 a.hi], .agg #[.float .f64 b.lo, .float .f64 b.hi]] w fun r w' => r = .returned (.agg #[.float .f64 0, .float .f64 0]) ∧ Below w.heap.size w w' := by
 go_enter Tryz.func68, Tryz.ntmps68
 go_wp2_with fail
 go_returns
 exact ⟨rfl, below_new3 _ _ _ _⟩
theorem mul_aw (a b : Sp) (e1 : isZW a.lo a.hi = false) (e2 : isZW b.lo b.hi = false) (h : a.wide = true) (w : World) : Calls Tryz.prog 68 #[.agg #[.float .f64 a.lo, .float .f64 a.hi], .agg #[.float .f64 b.lo, .float .f64 b.hi]] w fun r w' => r = .returned (.agg #[.float .f64 18442240474082181120, .float .f64 9218868437227405312]) ∧ Below w.heap.size w w' := by
 have H1 := Lib.hid (fun w => wide_sp a w)
 have H2 := Lib.hid (fun w => all_below w)
 rw [h] at H1
 clear h
 go_enter Tryz.func68, Tryz.ntmps68
 go_wp2_with fail
 obtain ⟨W, hW, K0, K1, K2, hB, hz⟩ := box3 w 24 24 24 #[Value.float FloatKind.f64 a.lo, Value.float FloatKind.f64 a.hi] #[Value.float FloatKind.f64 b.lo, Value.float FloatKind.f64 b.hi] #[Value.float FloatKind.f64 0, Value.float FloatKind.f64 0]
 rw [← hW]
 have K0 := Lib.hid K0
 have K1 := Lib.hid K1
 have K2 := Lib.hid K2
 have HB := Lib.hid hB
 clear hW hB hz
 have HO := Lib.hid (show ∀ w', Hd W (w.heap.size + 1 + 1) 24 2 w' → (Hd W (w.heap.size + 1 + 1) 24 2 w' ∧ w'.cell? ⟨w.heap.size, 0, none⟩ = some (Value.float FloatKind.f64 a.lo) ∧ w'.cell? ⟨w.heap.size, 1, none⟩ = some (Value.float FloatKind.f64 a.hi) ∧ w'.cell? ⟨w.heap.size + 1, 0, none⟩ = some (Value.float FloatKind.f64 b.lo) ∧ w'.cell? ⟨w.heap.size + 1, 1, none⟩ = some (Value.float FloatKind.f64 b.hi) ∧ w'.cell? ⟨w.heap.size + 1 + 1, 0, none⟩ = some (cellAt w' ⟨w.heap.size + 1 + 1, 0, none⟩) ∧ w'.frozen? ⟨w.heap.size + 1 + 1, 0, none⟩ = false ∧ w'.cell? ⟨w.heap.size + 1 + 1, 1, none⟩ = some (cellAt w' ⟨w.heap.size + 1 + 1, 1, none⟩) ∧ w'.frozen? ⟨w.heap.size + 1 + 1, 1, none⟩ = false) from fun w' h => ⟨h, (h.blk K0.out (by omega)).cell 0, (h.blk K0.out (by omega)).cell 1, (h.blk K1.out (by omega)).cell 0, (h.blk K1.out (by omega)).cell 1, (h.at_ 0 (by decide)).1, (h.at_ 0 (by decide)).2, (h.at_ 1 (by decide)).1, (h.at_ 1 (by decide)).2⟩)
 have D0 := Lib.hid (show Hd W (w.heap.size + 1 + 1) 24 2 W from Hd.start K2.out)
 refine (H1.out _).mono ?_
 rintro r w1 ⟨rfl, hb⟩
 have D1 := Lib.hid (Hd.call D0.out hb)
 clear hb
 obtain ⟨-, q0, q1, q2, q3, q4, q5, q6, q7⟩ := HO.out _ D1.out
 have z1 := Hd.lt D1.out
 go_wp2_with fail
 refine (H2.out _).mono ?_
 rintro r w2 ⟨rfl, hb⟩
 have D2 := Lib.hid (Hd.call D1.out hb)
 clear hb
 clear q0 q1 q2 q3 q4 q5 q6 q7
 obtain ⟨-, q0, q1, q2, q3, q4, q5, q6, q7⟩ := HO.out _ D2.out
 have z2 := Hd.lt D2.out
 go_wp2_with fail
 (try simp only [Exit.inBlock, Exit.then])
 have hF := (Hd.set (Hd.set D2.out 0 (.float .f64 18442240474082181120)) 1 (.float .f64 9218868437227405312))
 exact bodyPost_ret (resS rfl _ _ (w.heap.size + 1 + 1) (.float .f64 18442240474082181120) (.float .f64 9218868437227405312) rfl (Hd.wrote2 hF)) rfl ⟨rfl, Hd.below hF HB.out (by omega)⟩
theorem mul_bw (a b : Sp) (e1 : isZW a.lo a.hi = false) (e2 : isZW b.lo b.hi = false) (h : a.wide = false) (h' : b.wide = true) (w : World) : Calls Tryz.prog 68 #[.agg #[.float .f64 a.lo, .float .f64 a.hi], .agg #[.float .f64 b.lo, .float .f64 b.hi]] w fun r w' => r = .returned (.agg #[.float .f64 18442240474082181120, .float .f64 9218868437227405312]) ∧ Below w.heap.size w w' := by
 have H1 := Lib.hid (fun w => wide_sp a w)
 have H3 := Lib.hid (fun w => wide_sp b w)
 have H2 := Lib.hid (fun w => all_below w)
 rw [h] at H1
 rw [h'] at H3
 clear h h'
 go_enter Tryz.func68, Tryz.ntmps68
 go_wp2_with fail
 obtain ⟨W, hW, K0, K1, K2, hB, hz⟩ := box3 w 24 24 24 #[Value.float FloatKind.f64 a.lo, Value.float FloatKind.f64 a.hi] #[Value.float FloatKind.f64 b.lo, Value.float FloatKind.f64 b.hi] #[Value.float FloatKind.f64 0, Value.float FloatKind.f64 0]
 rw [← hW]
 have K0 := Lib.hid K0
 have K1 := Lib.hid K1
 have K2 := Lib.hid K2
 have HB := Lib.hid hB
 clear hW hB hz
 have HO := Lib.hid (show ∀ w', Hd W (w.heap.size + 1 + 1) 24 2 w' → (Hd W (w.heap.size + 1 + 1) 24 2 w' ∧ w'.cell? ⟨w.heap.size, 0, none⟩ = some (Value.float FloatKind.f64 a.lo) ∧ w'.cell? ⟨w.heap.size, 1, none⟩ = some (Value.float FloatKind.f64 a.hi) ∧ w'.cell? ⟨w.heap.size + 1, 0, none⟩ = some (Value.float FloatKind.f64 b.lo) ∧ w'.cell? ⟨w.heap.size + 1, 1, none⟩ = some (Value.float FloatKind.f64 b.hi) ∧ w'.cell? ⟨w.heap.size + 1 + 1, 0, none⟩ = some (cellAt w' ⟨w.heap.size + 1 + 1, 0, none⟩) ∧ w'.frozen? ⟨w.heap.size + 1 + 1, 0, none⟩ = false ∧ w'.cell? ⟨w.heap.size + 1 + 1, 1, none⟩ = some (cellAt w' ⟨w.heap.size + 1 + 1, 1, none⟩) ∧ w'.frozen? ⟨w.heap.size + 1 + 1, 1, none⟩ = false) from fun w' h => ⟨h, (h.blk K0.out (by omega)).cell 0, (h.blk K0.out (by omega)).cell 1, (h.blk K1.out (by omega)).cell 0, (h.blk K1.out (by omega)).cell 1, (h.at_ 0 (by decide)).1, (h.at_ 0 (by decide)).2, (h.at_ 1 (by decide)).1, (h.at_ 1 (by decide)).2⟩)
 have D0 := Lib.hid (show Hd W (w.heap.size + 1 + 1) 24 2 W from Hd.start K2.out)
 refine (H1.out _).mono ?_
 rintro r w1 ⟨rfl, hb⟩
 have D1 := Lib.hid (Hd.call D0.out hb)
 clear hb
 obtain ⟨-, q0, q1, q2, q3, q4, q5, q6, q7⟩ := HO.out _ D1.out
 have z1 := Hd.lt D1.out
 go_wp2_with fail
 refine (H3.out _).mono ?_
 rintro r w2 ⟨rfl, hb⟩
 have D2 := Lib.hid (Hd.call D1.out hb)
 clear hb
 clear q0 q1 q2 q3 q4 q5 q6 q7
 obtain ⟨-, q0, q1, q2, q3, q4, q5, q6, q7⟩ := HO.out _ D2.out
 have z2 := Hd.lt D2.out
 go_wp2_with fail
 refine (H2.out _).mono ?_
 rintro r w3 ⟨rfl, hb⟩
 have D3 := Lib.hid (Hd.call D2.out hb)
 clear hb
 clear q0 q1 q2 q3 q4 q5 q6 q7
 obtain ⟨-, q0, q1, q2, q3, q4, q5, q6, q7⟩ := HO.out _ D3.out
 have z3 := Hd.lt D3.out
 go_wp2_with fail
 (try simp only [Exit.inBlock, Exit.then])
 have hF := (Hd.set (Hd.set D3.out 0 (.float .f64 18442240474082181120)) 1 (.float .f64 9218868437227405312))
 exact bodyPost_ret (resS rfl _ _ (w.heap.size + 1 + 1) (.float .f64 18442240474082181120) (.float .f64 9218868437227405312) rfl (Hd.wrote2 hF)) rfl ⟨rfl, Hd.below hF HB.out (by omega)⟩
theorem mul_on (a b : Sp) (e1 : isZW a.lo a.hi = false) (e2 : isZW b.lo b.hi = false) (h : a.wide = false) (h' : b.wide = false) (w : World) : Calls Tryz.prog 68 #[.agg #[.float .f64 a.lo, .float .f64 a.hi], .agg #[.float .f64 b.lo, .float .f64 b.hi]] w fun r w' => r = .returned (.agg #[.float .f64 (q4lo mulD a b), .float .f64 (q4hi mulU a b)]) ∧ Below w.heap.size w w' := by
 have H1 := Lib.hid (fun w => wide_sp a w)
 have H3 := Lib.hid (fun w => wide_sp b w)
 have I1 := Lib.hid (fun w => inf_pos 1 (by decide) w)
 have I2 := Lib.hid (fun w => inf_neg (-1) (by decide) w)
 have HD := mul_rd (a := a) (b := b) (by rw [h, h']; rfl)
 have HU := mul_ru (a := a) (b := b) (by rw [h, h']; rfl)
 have HC : ∀ x y, x < 18446744073709551616 → y < 18446744073709551616 → ∀ d : Bool, ∃ e : Nat, ∀ w, Calls Tryz.prog 106 #[.float .f64 x, .float .f64 y, .bool d] w fun r w' => r = .returned (.tuple #[.float .f64 (mulR x y d).1, .int .i64 (e : Int)]) ∧ Below w.heap.size w w' := fun x y hx hy d => ⟨(mulR x y d).2, fun w => mul_any x y d hx hy w⟩
 rw [h] at H1
 rw [h'] at H3
 have g0 := (HD a.lo b.lo (Or.inl rfl) (Or.inl rfl)).gd
 have k0 := (HU a.lo b.lo (Or.inl rfl) (Or.inl rfl)).gd
 obtain ⟨e0, he0⟩ := HC a.lo b.lo a.vd.l.lt b.vd.l.lt true
 obtain ⟨e1, he1⟩ := HC a.lo b.lo a.vd.l.lt b.vd.l.lt false
 have C0 := Lib.hid he0
 have C1 := Lib.hid he1
 clear he0 he1
 have g1 := (HD a.lo b.hi (Or.inl rfl) (Or.inr rfl)).gd
 have k1 := (HU a.lo b.hi (Or.inl rfl) (Or.inr rfl)).gd
 obtain ⟨e2, he2⟩ := HC a.lo b.hi a.vd.l.lt b.vd.h.lt true
 obtain ⟨e3, he3⟩ := HC a.lo b.hi a.vd.l.lt b.vd.h.lt false
 have C2 := Lib.hid he2
 have C3 := Lib.hid he3
 clear he2 he3
 have g2 := (HD a.hi b.lo (Or.inr rfl) (Or.inl rfl)).gd
 have k2 := (HU a.hi b.lo (Or.inr rfl) (Or.inl rfl)).gd
 obtain ⟨e4, he4⟩ := HC a.hi b.lo a.vd.h.lt b.vd.l.lt true
 obtain ⟨e5, he5⟩ := HC a.hi b.lo a.vd.h.lt b.vd.l.lt false
 have C4 := Lib.hid he4
 have C5 := Lib.hid he5
 clear he4 he5
 have g3 := (HD a.hi b.hi (Or.inr rfl) (Or.inr rfl)).gd
 have k3 := (HU a.hi b.hi (Or.inr rfl) (Or.inr rfl)).gd
 obtain ⟨e6, he6⟩ := HC a.hi b.hi a.vd.h.lt b.vd.h.lt true
 obtain ⟨e7, he7⟩ := HC a.hi b.hi a.vd.h.lt b.vd.h.lt false
 have C6 := Lib.hid he6
 have C7 := Lib.hid he7
 clear he6 he7
 unfold q4lo q4hi
 obtain ⟨d0, hd0⟩ : ∃ d, mulD a.lo b.lo = d := ⟨_, rfl⟩
 obtain ⟨u0, hu0⟩ : ∃ d, mulU a.lo b.lo = d := ⟨_, rfl⟩
 have hd0' : (mulR a.lo b.lo true).1 = d0 := hd0
 have hu0' : (mulR a.lo b.lo false).1 = u0 := hu0
 rw [hd0] at g0 ⊢
 rw [hu0] at k0 ⊢
 rw [hd0'] at C0
 rw [hu0'] at C1
 clear hd0 hu0 hd0' hu0'
 obtain ⟨d1, hd1⟩ : ∃ d, mulD a.lo b.hi = d := ⟨_, rfl⟩
 obtain ⟨u1, hu1⟩ : ∃ d, mulU a.lo b.hi = d := ⟨_, rfl⟩
 have hd1' : (mulR a.lo b.hi true).1 = d1 := hd1
 have hu1' : (mulR a.lo b.hi false).1 = u1 := hu1
 rw [hd1] at g1 ⊢
 rw [hu1] at k1 ⊢
 rw [hd1'] at C2
 rw [hu1'] at C3
 clear hd1 hu1 hd1' hu1'
 obtain ⟨d2, hd2⟩ : ∃ d, mulD a.hi b.lo = d := ⟨_, rfl⟩
 obtain ⟨u2, hu2⟩ : ∃ d, mulU a.hi b.lo = d := ⟨_, rfl⟩
 have hd2' : (mulR a.hi b.lo true).1 = d2 := hd2
 have hu2' : (mulR a.hi b.lo false).1 = u2 := hu2
 rw [hd2] at g2 ⊢
 rw [hu2] at k2 ⊢
 rw [hd2'] at C4
 rw [hu2'] at C5
 clear hd2 hu2 hd2' hu2'
 obtain ⟨d3, hd3⟩ : ∃ d, mulD a.hi b.hi = d := ⟨_, rfl⟩
 obtain ⟨u3, hu3⟩ : ∃ d, mulU a.hi b.hi = d := ⟨_, rfl⟩
 have hd3' : (mulR a.hi b.hi true).1 = d3 := hd3
 have hu3' : (mulR a.hi b.hi false).1 = u3 := hu3
 rw [hd3] at g3 ⊢
 rw [hu3] at k3 ⊢
 rw [hd3'] at C6
 rw [hu3'] at C7
 clear hd3 hu3 hd3' hu3'
 have M0 := fun (ts : Array TypeId) (t : TypeId) (w : World) => run_min_gd (P := Tryz.prog) (x := 9218868437227405312) (y := d0) gdPI g0 ts t w
 have N0 := fun (ts : Array TypeId) (t : TypeId) (w : World) => run_max_gd (P := Tryz.prog) (x := 18442240474082181120) (y := u0) gdNI k0 ts t w
 have M1 := fun (ts : Array TypeId) (t : TypeId) (w : World) => run_min_gd (P := Tryz.prog) (x := (mn 9218868437227405312 d0)) (y := d1) (mn_gd gdPI g0) g1 ts t w
 have N1 := fun (ts : Array TypeId) (t : TypeId) (w : World) => run_max_gd (P := Tryz.prog) (x := (mx 18442240474082181120 u0)) (y := u1) (mx_gd gdNI k0) k1 ts t w
 have M2 := fun (ts : Array TypeId) (t : TypeId) (w : World) => run_min_gd (P := Tryz.prog) (x := (mn (mn 9218868437227405312 d0) d1)) (y := d2) (mn_gd (mn_gd gdPI g0) g1) g2 ts t w
 have N2 := fun (ts : Array TypeId) (t : TypeId) (w : World) => run_max_gd (P := Tryz.prog) (x := (mx (mx 18442240474082181120 u0) u1)) (y := u2) (mx_gd (mx_gd gdNI k0) k1) k2 ts t w
 have M3 := fun (ts : Array TypeId) (t : TypeId) (w : World) => run_min_gd (P := Tryz.prog) (x := (mn (mn (mn 9218868437227405312 d0) d1) d2)) (y := d3) (mn_gd (mn_gd (mn_gd gdPI g0) g1) g2) g3 ts t w
 have N3 := fun (ts : Array TypeId) (t : TypeId) (w : World) => run_max_gd (P := Tryz.prog) (x := (mx (mx (mx 18442240474082181120 u0) u1) u2)) (y := u3) (mx_gd (mx_gd (mx_gd gdNI k0) k1) k2) k3 ts t w
 obtain ⟨l0, hl0⟩ : ∃ l, mn 9218868437227405312 d0 = l := ⟨_, rfl⟩
 obtain ⟨m0, hm0⟩ : ∃ l, mx 18442240474082181120 u0 = l := ⟨_, rfl⟩
 rw [hl0]
 rw [hm0]
 simp only [hl0] at M0
 simp only [hm0] at N0
 simp only [hl0] at M1
 simp only [hm0] at N1
 simp only [hl0] at M2
 simp only [hm0] at N2
 simp only [hl0] at M3
 simp only [hm0] at N3
 clear hl0 hm0
 obtain ⟨l1, hl1⟩ : ∃ l, mn l0 d1 = l := ⟨_, rfl⟩
 obtain ⟨m1, hm1⟩ : ∃ l, mx m0 u1 = l := ⟨_, rfl⟩
 rw [hl1]
 rw [hm1]
 simp only [hl1] at M1
 simp only [hm1] at N1
 simp only [hl1] at M2
 simp only [hm1] at N2
 simp only [hl1] at M3
 simp only [hm1] at N3
 clear hl1 hm1
 obtain ⟨l2, hl2⟩ : ∃ l, mn l1 d2 = l := ⟨_, rfl⟩
 obtain ⟨m2, hm2⟩ : ∃ l, mx m1 u2 = l := ⟨_, rfl⟩
 rw [hl2]
 rw [hm2]
 simp only [hl2] at M2
 simp only [hm2] at N2
 simp only [hl2] at M3
 simp only [hm2] at N3
 clear hl2 hm2
 obtain ⟨l3, hl3⟩ : ∃ l, mn l2 d3 = l := ⟨_, rfl⟩
 obtain ⟨m3, hm3⟩ : ∃ l, mx m2 u3 = l := ⟨_, rfl⟩
 rw [hl3]
 rw [hm3]
 simp only [hl3] at M3
 simp only [hm3] at N3
 clear hl3 hm3
 have MH0 := Lib.hid M0
 have NH0 := Lib.hid N0
 clear M0 N0
 have MH1 := Lib.hid M1
 have NH1 := Lib.hid N1
 clear M1 N1
 have MH2 := Lib.hid M2
 have NH2 := Lib.hid N2
 clear M2 N2
 have MH3 := Lib.hid M3
 have NH3 := Lib.hid N3
 clear M3 N3
 clear HD HU HC h h' g0 k0 g1 k1 g2 k2 g3 k3
 go_enter Tryz.func68, Tryz.ntmps68
 go_wp2_with fail
 obtain ⟨W, hW, K0, K1, K2, hB, hz⟩ := box3 w 24 24 24 #[Value.float FloatKind.f64 a.lo, Value.float FloatKind.f64 a.hi] #[Value.float FloatKind.f64 b.lo, Value.float FloatKind.f64 b.hi] #[Value.float FloatKind.f64 0, Value.float FloatKind.f64 0]
 rw [← hW]
 have K0 := Lib.hid K0
 have K1 := Lib.hid K1
 have K2 := Lib.hid K2
 have HB := Lib.hid hB
 clear hW hB hz
 have HO := Lib.hid (show ∀ w', Hd W (w.heap.size + 1 + 1) 24 2 w' → (Hd W (w.heap.size + 1 + 1) 24 2 w' ∧ w'.cell? ⟨w.heap.size, 0, none⟩ = some (Value.float FloatKind.f64 a.lo) ∧ w'.cell? ⟨w.heap.size, 1, none⟩ = some (Value.float FloatKind.f64 a.hi) ∧ w'.cell? ⟨w.heap.size + 1, 0, none⟩ = some (Value.float FloatKind.f64 b.lo) ∧ w'.cell? ⟨w.heap.size + 1, 1, none⟩ = some (Value.float FloatKind.f64 b.hi) ∧ w'.cell? ⟨w.heap.size + 1 + 1, 0, none⟩ = some (cellAt w' ⟨w.heap.size + 1 + 1, 0, none⟩) ∧ w'.frozen? ⟨w.heap.size + 1 + 1, 0, none⟩ = false ∧ w'.cell? ⟨w.heap.size + 1 + 1, 1, none⟩ = some (cellAt w' ⟨w.heap.size + 1 + 1, 1, none⟩) ∧ w'.frozen? ⟨w.heap.size + 1 + 1, 1, none⟩ = false) from fun w' h => ⟨h, (h.blk K0.out (by omega)).cell 0, (h.blk K0.out (by omega)).cell 1, (h.blk K1.out (by omega)).cell 0, (h.blk K1.out (by omega)).cell 1, (h.at_ 0 (by decide)).1, (h.at_ 0 (by decide)).2, (h.at_ 1 (by decide)).1, (h.at_ 1 (by decide)).2⟩)
 have D0 := Lib.hid (show Hd W (w.heap.size + 1 + 1) 24 2 W from Hd.start K2.out)
 refine (H1.out _).mono ?_
 rintro r w1 ⟨rfl, hb⟩
 have D1 := Lib.hid (Hd.call D0.out hb)
 clear hb
 obtain ⟨-, q0, q1, q2, q3, q4, q5, q6, q7⟩ := HO.out _ D1.out
 have z1 := Hd.lt D1.out
 go_wp2_with fail
 refine (H3.out _).mono ?_
 rintro r w2 ⟨rfl, hb⟩
 have D2 := Lib.hid (Hd.call D1.out hb)
 clear hb
 clear q0 q1 q2 q3 q4 q5 q6 q7
 obtain ⟨-, q0, q1, q2, q3, q4, q5, q6, q7⟩ := HO.out _ D2.out
 have z2 := Hd.lt D2.out
 go_wp2_with fail
 refine (I1.out _).mono ?_
 rintro r w' ⟨rfl, rfl⟩
 go_wp2_with fail
 refine (I2.out _).mono ?_
 rintro r w' ⟨rfl, rfl⟩
 have hz9 := z2
 obtain ⟨g, hg⟩ : ∃ g, w2.heap.size = g := ⟨_, rfl⟩
 obtain ⟨V, hV⟩ : ∃ V, w2.alloc (.cells #[Value.float FloatKind.f64 9218868437227405312, Value.float FloatKind.f64 18442240474082181120] 24) = V := ⟨_, rfl⟩
 have O0 : Blk V g 24 #[Value.float FloatKind.f64 9218868437227405312, Value.float FloatKind.f64 18442240474082181120] := by rw [← hV, ← hg]; exact Blk.new_at _ _ _ rfl
 have E0 := Lib.hid (hV ▸ Hd.alloc D2.out _ : Hd W (w.heap.size + 1 + 1) 24 2 V)
 rw [hg] at hz9
 obtain ⟨o0, o1, o2, o3⟩ := O0.both
 clear q0 q1 q2 q3 q4 q5 q6 q7
 have O0 := Lib.hid O0
 clear z2
 obtain ⟨-, q0, q1, q2, q3, q4, q5, q6, q7⟩ := HO.out _ E0.out
 have z0 := Hd.lt E0.out
 go_wp2_with fail
 clear hV hg
 refine wp_loop_rounds 3 ?_
 rw [rounds_succ]
 go_wp2_with fail
 refine wp_loop_rounds 3 ?_
 rw [rounds_succ]
 go_wp2_with fail
 refine (C0.out _).mono ?_
 rintro r v1 ⟨rfl, hb⟩
 have E1 := Lib.hid (Hd.call E0.out hb)
 have O1 := Lib.hid (Blk.below O0.out hb (Blk.lt O0.out))
 clear hb q0 q1 q2 q3 q4 q5 q6 q7 o0 o1 o2 o3
 obtain ⟨-, q0, q1, q2, q3, q4, q5, q6, q7⟩ := HO.out _ E1.out
 obtain ⟨o0, o1, o2, o3⟩ := Blk.both O1.out
 go_wp2_with fail
 refine (C1.out _).mono ?_
 rintro r v2 ⟨rfl, hb⟩
 have E2 := Lib.hid (Hd.call E1.out hb)
 have O2 := Lib.hid (Blk.below O1.out hb (Blk.lt O1.out))
 clear hb q0 q1 q2 q3 q4 q5 q6 q7 o0 o1 o2 o3
 obtain ⟨-, q0, q1, q2, q3, q4, q5, q6, q7⟩ := HO.out _ E2.out
 obtain ⟨o0, o1, o2, o3⟩ := Blk.both O2.out
 obtain ⟨V0, hV⟩ : ∃ V, (v2.setCell ⟨g, 0, none⟩ (.float .f64 l0)).setCell ⟨g, 1, none⟩ (.float .f64 m0) = V := ⟨_, rfl⟩
 have E3 := Lib.hid (hV ▸ Hd.far (Hd.far E2.out hz9 0 _) hz9 1 _ : Hd W (w.heap.size + 1 + 1) 24 2 V0)
 have O3 := Lib.hid (hV ▸ Blk.set_ (Blk.set_ O2.out 0 _) 1 _ : Blk V0 g 24 #[.float .f64 l0, .float .f64 m0])
 obtain ⟨-, p0, p1, p2, p3, p4, p5, p6, p7⟩ := HO.out _ E3.out
 obtain ⟨r0, r1, r2, r3⟩ := Blk.both O3.out
 have M := MH0.out
 have N := NH0.out
 go_wp2_with fail
 clear hV M N q0 q1 q2 q3 q4 q5 q6 q7 o0 o1 o2 o3
 have q0 := p0
 clear p0
 have q1 := p1
 clear p1
 have q2 := p2
 clear p2
 have q3 := p3
 clear p3
 have q4 := p4
 clear p4
 have q5 := p5
 clear p5
 have q6 := p6
 clear p6
 have q7 := p7
 clear p7
 have o0 := r0
 clear r0
 have o1 := r1
 clear r1
 have o2 := r2
 clear r2
 have o3 := r3
 clear r3
 rw [rounds_succ]
 go_wp2_with fail
 refine (C2.out _).mono ?_
 rintro r v3 ⟨rfl, hb⟩
 have E4 := Lib.hid (Hd.call E3.out hb)
 have O4 := Lib.hid (Blk.below O3.out hb (Blk.lt O3.out))
 clear hb q0 q1 q2 q3 q4 q5 q6 q7 o0 o1 o2 o3
 obtain ⟨-, q0, q1, q2, q3, q4, q5, q6, q7⟩ := HO.out _ E4.out
 obtain ⟨o0, o1, o2, o3⟩ := Blk.both O4.out
 go_wp2_with fail
 refine (C3.out _).mono ?_
 rintro r v4 ⟨rfl, hb⟩
 have E5 := Lib.hid (Hd.call E4.out hb)
 have O5 := Lib.hid (Blk.below O4.out hb (Blk.lt O4.out))
 clear hb q0 q1 q2 q3 q4 q5 q6 q7 o0 o1 o2 o3
 obtain ⟨-, q0, q1, q2, q3, q4, q5, q6, q7⟩ := HO.out _ E5.out
 obtain ⟨o0, o1, o2, o3⟩ := Blk.both O5.out
 obtain ⟨V1, hV⟩ : ∃ V, (v4.setCell ⟨g, 0, none⟩ (.float .f64 l1)).setCell ⟨g, 1, none⟩ (.float .f64 m1) = V := ⟨_, rfl⟩
 have E6 := Lib.hid (hV ▸ Hd.far (Hd.far E5.out hz9 0 _) hz9 1 _ : Hd W (w.heap.size + 1 + 1) 24 2 V1)
 have O6 := Lib.hid (hV ▸ Blk.set_ (Blk.set_ O5.out 0 _) 1 _ : Blk V1 g 24 #[.float .f64 l1, .float .f64 m1])
 obtain ⟨-, p0, p1, p2, p3, p4, p5, p6, p7⟩ := HO.out _ E6.out
 obtain ⟨r0, r1, r2, r3⟩ := Blk.both O6.out
 have M := MH1.out
 have N := NH1.out
 go_wp2_with fail
 clear hV M N q0 q1 q2 q3 q4 q5 q6 q7 o0 o1 o2 o3
 have q0 := p0
 clear p0
 have q1 := p1
 clear p1
 have q2 := p2
 clear p2
 have q3 := p3
 clear p3
 have q4 := p4
 clear p4
 have q5 := p5
 clear p5
 have q6 := p6
 clear p6
 have q7 := p7
 clear p7
 have o0 := r0
 clear r0
 have o1 := r1
 clear r1
 have o2 := r2
 clear r2
 have o3 := r3
 clear r3
 rw [rounds_succ]
 go_wp2_with fail
 rw [rounds_succ]
 go_wp2_with fail
 refine wp_loop_rounds 3 ?_
 rw [rounds_succ]
 go_wp2_with fail
 refine (C4.out _).mono ?_
 rintro r v5 ⟨rfl, hb⟩
 have E7 := Lib.hid (Hd.call E6.out hb)
 have O7 := Lib.hid (Blk.below O6.out hb (Blk.lt O6.out))
 clear hb q0 q1 q2 q3 q4 q5 q6 q7 o0 o1 o2 o3
 obtain ⟨-, q0, q1, q2, q3, q4, q5, q6, q7⟩ := HO.out _ E7.out
 obtain ⟨o0, o1, o2, o3⟩ := Blk.both O7.out
 go_wp2_with fail
 refine (C5.out _).mono ?_
 rintro r v6 ⟨rfl, hb⟩
 have E8 := Lib.hid (Hd.call E7.out hb)
 have O8 := Lib.hid (Blk.below O7.out hb (Blk.lt O7.out))
 clear hb q0 q1 q2 q3 q4 q5 q6 q7 o0 o1 o2 o3
 obtain ⟨-, q0, q1, q2, q3, q4, q5, q6, q7⟩ := HO.out _ E8.out
 obtain ⟨o0, o1, o2, o3⟩ := Blk.both O8.out
 obtain ⟨V2, hV⟩ : ∃ V, (v6.setCell ⟨g, 0, none⟩ (.float .f64 l2)).setCell ⟨g, 1, none⟩ (.float .f64 m2) = V := ⟨_, rfl⟩
 have E9 := Lib.hid (hV ▸ Hd.far (Hd.far E8.out hz9 0 _) hz9 1 _ : Hd W (w.heap.size + 1 + 1) 24 2 V2)
 have O9 := Lib.hid (hV ▸ Blk.set_ (Blk.set_ O8.out 0 _) 1 _ : Blk V2 g 24 #[.float .f64 l2, .float .f64 m2])
 obtain ⟨-, p0, p1, p2, p3, p4, p5, p6, p7⟩ := HO.out _ E9.out
 obtain ⟨r0, r1, r2, r3⟩ := Blk.both O9.out
 have M := MH2.out
 have N := NH2.out
 go_wp2_with fail
 clear hV M N q0 q1 q2 q3 q4 q5 q6 q7 o0 o1 o2 o3
 have q0 := p0
 clear p0
 have q1 := p1
 clear p1
 have q2 := p2
 clear p2
 have q3 := p3
 clear p3
 have q4 := p4
 clear p4
 have q5 := p5
 clear p5
 have q6 := p6
 clear p6
 have q7 := p7
 clear p7
 have o0 := r0
 clear r0
 have o1 := r1
 clear r1
 have o2 := r2
 clear r2
 have o3 := r3
 clear r3
 rw [rounds_succ]
 go_wp2_with fail
 refine (C6.out _).mono ?_
 rintro r v7 ⟨rfl, hb⟩
 have E10 := Lib.hid (Hd.call E9.out hb)
 have O10 := Lib.hid (Blk.below O9.out hb (Blk.lt O9.out))
 clear hb q0 q1 q2 q3 q4 q5 q6 q7 o0 o1 o2 o3
 obtain ⟨-, q0, q1, q2, q3, q4, q5, q6, q7⟩ := HO.out _ E10.out
 obtain ⟨o0, o1, o2, o3⟩ := Blk.both O10.out
 go_wp2_with fail
 refine (C7.out _).mono ?_
 rintro r v8 ⟨rfl, hb⟩
 have E11 := Lib.hid (Hd.call E10.out hb)
 have O11 := Lib.hid (Blk.below O10.out hb (Blk.lt O10.out))
 clear hb q0 q1 q2 q3 q4 q5 q6 q7 o0 o1 o2 o3
 obtain ⟨-, q0, q1, q2, q3, q4, q5, q6, q7⟩ := HO.out _ E11.out
 obtain ⟨o0, o1, o2, o3⟩ := Blk.both O11.out
 obtain ⟨V3, hV⟩ : ∃ V, (v8.setCell ⟨g, 0, none⟩ (.float .f64 l3)).setCell ⟨g, 1, none⟩ (.float .f64 m3) = V := ⟨_, rfl⟩
 have E12 := Lib.hid (hV ▸ Hd.far (Hd.far E11.out hz9 0 _) hz9 1 _ : Hd W (w.heap.size + 1 + 1) 24 2 V3)
 have O12 := Lib.hid (hV ▸ Blk.set_ (Blk.set_ O11.out 0 _) 1 _ : Blk V3 g 24 #[.float .f64 l3, .float .f64 m3])
 obtain ⟨-, p0, p1, p2, p3, p4, p5, p6, p7⟩ := HO.out _ E12.out
 obtain ⟨r0, r1, r2, r3⟩ := Blk.both O12.out
 have M := MH3.out
 have N := NH3.out
 go_wp2_with fail
 clear hV M N q0 q1 q2 q3 q4 q5 q6 q7 o0 o1 o2 o3
 have q0 := p0
 clear p0
 have q1 := p1
 clear p1
 have q2 := p2
 clear p2
 have q3 := p3
 clear p3
 have q4 := p4
 clear p4
 have q5 := p5
 clear p5
 have q6 := p6
 clear p6
 have q7 := p7
 clear p7
 have o0 := r0
 clear r0
 have o1 := r1
 clear r1
 have o2 := r2
 clear r2
 have o3 := r3
 clear r3
 rw [rounds_succ]
 go_wp2_with fail
 rw [rounds_succ]
 go_wp2_with fail
 (try simp only [Exit.inBlock, Exit.then])
 have hF := Hd.set (Hd.set E12.out 0 (.float .f64 l3)) 1 (.float .f64 m3)
 exact bodyPost_ret (resS rfl _ _ (w.heap.size + 1 + 1) (.float .f64 l3) (.float .f64 m3) rfl (Hd.wrote2 hF)) rfl ⟨rfl, Hd.below hF HB.out (by omega)⟩
theorem mul_sp (a b : Sp) (w : World) : Calls Tryz.prog 68 #[.agg #[.float .f64 a.lo, .float .f64 a.hi], .agg #[.float .f64 b.lo, .float .f64 b.hi]] w fun r w' => r = .returned (.agg #[.float .f64 (mulS a b).lo, .float .f64 (mulS a b).hi]) ∧ Below w.heap.size w w' := by
 unfold mulS
 by_cases hz : (isZ a || isZ b) = true
 · rw [if_pos hz]
   cases h1 : isZ a
   · rw [h1, Bool.false_or] at hz
     exact mul_b0 a b (by rw [isZ_eqW]; exact h1) (by rw [isZ_eqW]; exact hz) w
   · exact mul_a0 a b (by rw [isZ_eqW]; exact h1) w
 · rw [if_neg hz]
   have ⟨z1, z2⟩ : isZ a = false ∧ isZ b = false := by cases h1 : isZ a <;> cases h2 : isZ b <;> simp_all
   rw [← isZ_eqW] at z1 z2
   by_cases hw : (a.wide || b.wide) = false
   · rw [dif_pos hw]
     exact mul_on a b z1 z2 (or_false' hw).1 (or_false' hw).2 w
   · rw [dif_neg hw]
     cases h1 : a.wide
     · have h2 : b.wide = true := by rw [h1] at hw; revert hw; cases b.wide <;> simp
       exact mul_bw a b z1 z2 h1 h2 w
     · exact mul_aw a b z1 z2 h1 w
end Go.Proofs.YtnljfcebmgifdaaGreat
