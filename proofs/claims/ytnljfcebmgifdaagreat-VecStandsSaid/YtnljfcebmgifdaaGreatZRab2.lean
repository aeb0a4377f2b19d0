/- Shaken: Ge Sh Gf Ya Yb Tx Tb Ta Tn. -/
import Derived.Test.YtnljfcebmgifdaaGreatZRab1
import Derived.Test.YtnljfcebmgifdaaGreatZTb
import Derived.Test.YtnljfcebmgifdaaGreatZTa
set_option maxRecDepth 100000
set_option maxHeartbeats 8000000
set_option linter.unusedVariables false
set_option linter.unusedSimpArgs false
namespace Go.Proofs.YtnljfcebmgifdaaGreat
end Go.Proofs.YtnljfcebmgifdaaGreat
namespace Go.Proofs.YtnljfcebmgifdaaGreat
open Go.RowKit
end Go.Proofs.YtnljfcebmgifdaaGreat
namespace Go.Proofs.YtnljfcebmgifdaaGreat
open Go.RowKit Fl
end Go.Proofs.YtnljfcebmgifdaaGreat
namespace Go.Proofs.YtnljfcebmgifdaaGreat
open Go.RowKit Fl
theorem rwide_sp (a : Sp) (w : World) : Calls Tryz.prog 47 #[.agg #[.float .f64 a.lo, .float .f64 a.hi]] w fun r w' => r = .returned (.bool a.wide) ∧ Below w.heap.size w w' := by
 have H1 := Lib.hid (fun w => rnum_any a.lo a.vd.l.lt w)
 have H2 := Lib.hid (fun w => rnum_any a.hi a.vd.h.lt w)
 rw [wide_or]
 generalize fin a.lo = p at *
 generalize fin a.hi = q at *
 cases p
 · go_enter Tryz.func47, Tryz.ntmps47
   go_wp2_with fail
   refine (H1.out _).mono ?_
   rintro r w' ⟨rfl, k, rfl⟩
   go_wp2_with fail
   go_ret
   exact ⟨rfl, below_drewN (below_new _ _) _⟩
 · go_enter Tryz.func47, Tryz.ntmps47
   go_wp2_with fail
   refine (H1.out _).mono ?_
   rintro r w' ⟨rfl, k, rfl⟩
   go_wp2_with fail
   refine (H2.out _).mono ?_
   rintro r w' ⟨rfl, l, rfl⟩
   go_wp2_with fail
   go_ret
   exact ⟨rfl, below_drewN (below_new _ _) _⟩
theorem rneg_sp (a : Sp) (w : World) : Calls Tryz.prog 72 #[.agg #[.float .f64 a.lo, .float .f64 a.hi]] w fun r w' => r = .returned (.agg #[.float .f64 (negS a).lo, .float .f64 (negS a).hi]) ∧ Below w.heap.size w w' := by
 have d1 := ng_sub a.lo a.vd.l.lt a.vd.l.nn
 have d2 := ng_sub a.hi a.vd.h.lt a.vd.h.nn
 have m1 := fun (t : TypeId) (w : World) => run_float_arith (P := Tryz.prog) w .sub t .f64 _ _ _ d1
 have m2 := fun (t : TypeId) (w : World) => run_float_arith (P := Tryz.prog) w .sub t .f64 _ _ _ d2
 show Calls _ _ _ _ fun r w' => r = .returned (.agg #[.float .f64 (ng a.hi), .float .f64 (ng a.lo)]) ∧ Below w.heap.size w w'
 generalize ng a.hi = x at *
 generalize ng a.lo = y at *
 clear d1 d2
 go_enter Tryz.func72, Tryz.ntmps72
 go_wp2_with fail
 go_returns
 exact ⟨rfl, below_new2 _ _ _⟩
end Go.Proofs.YtnljfcebmgifdaaGreat
namespace Go.Proofs.YtnljfcebmgifdaaGreat
open Go.RowKit Fl
end Go.Proofs.YtnljfcebmgifdaaGreat
namespace Go.Proofs.YtnljfcebmgifdaaGreat
open Go.RowKit Fl
theorem addL_cases (a b : Nat) : ∃ v e, addR a b true = (v, e) ∧ ((e = 0 ∧ addL a b = v) ∨ (e = 10 ∧ addL a b = NI)) := by
 unfold addL addR
 by_cases h : (fin a && fin b) = true
 · rw [if_pos h, if_pos h]; exact ⟨_, _, rfl, Or.inl ⟨rfl, rfl⟩⟩
 · rw [if_neg h, if_neg h]; exact ⟨_, _, rfl, Or.inr ⟨rfl, rfl⟩⟩
theorem addH_cases (a b : Nat) : ∃ v e, addR a b false = (v, e) ∧ ((e = 0 ∧ addH a b = v) ∨ (e = 10 ∧ addH a b = PI)) := by
 unfold addH addR
 by_cases h : (fin a && fin b) = true
 · rw [if_pos h, if_pos h]; exact ⟨_, _, rfl, Or.inl ⟨rfl, rfl⟩⟩
 · rw [if_neg h, if_neg h]; exact ⟨_, _, rfl, Or.inr ⟨rfl, rfl⟩⟩
theorem radd_sp (a b : Sp) (w : World) : Calls Tryz.prog 74 #[.agg #[.float .f64 a.lo, .float .f64 a.hi], .agg #[.float .f64 b.lo, .float .f64 b.hi]] w fun r w' => r = .returned (.agg #[.float .f64 (addS a b).lo, .float .f64 (addS a b).hi]) ∧ Below w.heap.size w w' := by
 have H1 := Lib.hid (fun w => radd_any a.lo b.lo true a.vd.l.lt b.vd.l.lt w)
 have H2 := Lib.hid (fun w => radd_any a.hi b.hi false a.vd.h.lt b.vd.h.lt w)
 have HI := Lib.hid (fun w => rinf_any w)
 have NG := neg_inf
 show Calls _ _ _ _ fun r w' => r = .returned (.agg #[.float .f64 (addL a.lo b.lo), .float .f64 (addH a.hi b.hi)]) ∧ Below w.heap.size w w'
 obtain ⟨x1, x2, hx, kx⟩ := addL_cases a.lo b.lo
 obtain ⟨y1, y2, hy, ky⟩ := addH_cases a.hi b.hi
 rw [hx] at H1
 rw [hy] at H2
 clear hx hy
 unfold pV numV at H1 H2
 dsimp only at H1 H2
 rcases kx with ⟨rfl, kx⟩ | ⟨rfl, kx⟩ <;> rcases ky with ⟨rfl, ky⟩ | ⟨rfl, ky⟩ <;> rw [kx, ky] <;> clear kx ky
 · go_enter Tryz.func74, Tryz.ntmps74
   go_wp2_with fail
   obtain ⟨W, hW, K0, K1, K2, hB, hz⟩ := box3 w 24 24 24 #[Value.float FloatKind.f64 a.lo, Value.float FloatKind.f64 a.hi] #[Value.float FloatKind.f64 b.lo, Value.float FloatKind.f64 b.hi] #[Value.float FloatKind.f64 0, Value.float FloatKind.f64 0]
   rw [← hW]
   have K0 := Lib.hid K0
   have K1 := Lib.hid K1
   have K2 := Lib.hid K2
   have HB := Lib.hid hB
   clear hW hB hz
   have HO := Lib.hid (show ∀ w', Hd W (w.heap.size + 1 + 1) 24 2 w' → (Hd W (w.heap.size + 1 + 1) 24 2 w' ∧ w'.cell? ⟨w.heap.size, 0, none⟩ = some (Value.float FloatKind.f64 a.lo) ∧ w'.cell? ⟨w.heap.size, 1, none⟩ = some (Value.float FloatKind.f64 a.hi) ∧ w'.cell? ⟨w.heap.size + 1, 0, none⟩ = some (Value.float FloatKind.f64 b.lo) ∧ w'.cell? ⟨w.heap.size + 1, 1, none⟩ = some (Value.float FloatKind.f64 b.hi) ∧ w'.cell? ⟨w.heap.size + 1 + 1, 0, none⟩ = some (cellAt w' ⟨w.heap.size + 1 + 1, 0, none⟩) ∧ w'.frozen? ⟨w.heap.size + 1 + 1, 0, none⟩ = false ∧ w'.cell? ⟨w.heap.size + 1 + 1, 1, none⟩ = some (cellAt w' ⟨w.heap.size + 1 + 1, 1, none⟩) ∧ w'.frozen? ⟨w.heap.size + 1 + 1, 1, none⟩ = false) from fun w' h => ⟨h, (h.blk K0.out (by omega)).cell 0, (h.blk K0.out (by omega)).cell 1, (h.blk K1.out (by omega)).cell 0, (h.blk K1.out (by omega)).cell 1, (h.at_ 0 (by decide)).1, (h.at_ 0 (by decide)).2, (h.at_ 1 (by decide)).1, (h.at_ 1 (by decide)).2⟩)
   have D0 := Lib.hid (show Hd W (w.heap.size + 1 + 1) 24 2 W from Hd.start K2.out)
   refine (H1.out _).mono ?_
   rintro r w1 ⟨rfl, hb⟩
   have D1 := Lib.hid (Hd.call D0.out hb)
   clear hb
   obtain ⟨-, q0, q1, q2, q3, q4, q5, q6, q7⟩ := HO.out _ D1.out
   have z1 := Hd.lt D1.out
   go_wp2_with fail
   refine (H2.out _).mono ?_
   rintro r w2 ⟨rfl, hb⟩
   have D2 := Lib.hid (Hd.call D1.out hb)
   clear hb
   clear q0 q1 q2 q3 q4 q5 q6 q7
   obtain ⟨-, q0, q1, q2, q3, q4, q5, q6, q7⟩ := HO.out _ D2.out
   have z2 := Hd.lt D2.out
   go_wp2_with fail
   (try simp only [Exit.inBlock, Exit.then])
   have hF := (Hd.set (Hd.set D2.out 0 (.float .f64 x1)) 1 (.float .f64 y1))
   exact bodyPost_ret (resS rfl _ _ (w.heap.size + 1 + 1) (.float .f64 x1) (.float .f64 y1) rfl (Hd.wrote2 hF)) rfl ⟨rfl, Hd.below hF HB.out (by omega)⟩
 · go_enter Tryz.func74, Tryz.ntmps74
   go_wp2_with fail
   obtain ⟨W, hW, K0, K1, K2, hB, hz⟩ := box3 w 24 24 24 #[Value.float FloatKind.f64 a.lo, Value.float FloatKind.f64 a.hi] #[Value.float FloatKind.f64 b.lo, Value.float FloatKind.f64 b.hi] #[Value.float FloatKind.f64 0, Value.float FloatKind.f64 0]
   rw [← hW]
   have K0 := Lib.hid K0
   have K1 := Lib.hid K1
   have K2 := Lib.hid K2
   have HB := Lib.hid hB
   clear hW hB hz
   have HO := Lib.hid (show ∀ w', Hd W (w.heap.size + 1 + 1) 24 2 w' → (Hd W (w.heap.size + 1 + 1) 24 2 w' ∧ w'.cell? ⟨w.heap.size, 0, none⟩ = some (Value.float FloatKind.f64 a.lo) ∧ w'.cell? ⟨w.heap.size, 1, none⟩ = some (Value.float FloatKind.f64 a.hi) ∧ w'.cell? ⟨w.heap.size + 1, 0, none⟩ = some (Value.float FloatKind.f64 b.lo) ∧ w'.cell? ⟨w.heap.size + 1, 1, none⟩ = some (Value.float FloatKind.f64 b.hi) ∧ w'.cell? ⟨w.heap.size + 1 + 1, 0, none⟩ = some (cellAt w' ⟨w.heap.size + 1 + 1, 0, none⟩) ∧ w'.frozen? ⟨w.heap.size + 1 + 1, 0, none⟩ = false ∧ w'.cell? ⟨w.heap.size + 1 + 1, 1, none⟩ = some (cellAt w' ⟨w.heap.size + 1 + 1, 1, none⟩) ∧ w'.frozen? ⟨w.heap.size + 1 + 1, 1, none⟩ = false) from fun w' h => ⟨h, (h.blk K0.out (by omega)).cell 0, (h.blk K0.out (by omega)).cell 1, (h.blk K1.out (by omega)).cell 0, (h.blk K1.out (by omega)).cell 1, (h.at_ 0 (by decide)).1, (h.at_ 0 (by decide)).2, (h.at_ 1 (by decide)).1, (h.at_ 1 (by decide)).2⟩)
   have D0 := Lib.hid (show Hd W (w.heap.size + 1 + 1) 24 2 W from Hd.start K2.out)
   refine (H1.out _).mono ?_
   rintro r w1 ⟨rfl, hb⟩
   have D1 := Lib.hid (Hd.call D0.out hb)
   clear hb
   obtain ⟨-, q0, q1, q2, q3, q4, q5, q6, q7⟩ := HO.out _ D1.out
   have z1 := Hd.lt D1.out
   go_wp2_with fail
   refine (H2.out _).mono ?_
   rintro r w2 ⟨rfl, hb⟩
   have D2 := Lib.hid (Hd.call D1.out hb)
   clear hb
   clear q0 q1 q2 q3 q4 q5 q6 q7
   obtain ⟨-, q0, q1, q2, q3, q4, q5, q6, q7⟩ := HO.out _ D2.out
   have z2 := Hd.lt D2.out
   go_wp2_with fail
   refine (HI.out _).mono ?_
   rintro r w' ⟨rfl, rfl⟩
   go_wp2_with fail
   (try simp only [Exit.inBlock, Exit.then])
   have hF := (Hd.set (Hd.set D2.out 0 (.float .f64 x1)) 1 (.float .f64 9218868437227405312))
   exact bodyPost_ret (resS rfl _ _ (w.heap.size + 1 + 1) (.float .f64 x1) (.float .f64 9218868437227405312) rfl (Hd.wrote2 hF)) rfl ⟨rfl, Hd.below hF HB.out (by omega)⟩
 · go_enter Tryz.func74, Tryz.ntmps74
   go_wp2_with fail
   obtain ⟨W, hW, K0, K1, K2, hB, hz⟩ := box3 w 24 24 24 #[Value.float FloatKind.f64 a.lo, Value.float FloatKind.f64 a.hi] #[Value.float FloatKind.f64 b.lo, Value.float FloatKind.f64 b.hi] #[Value.float FloatKind.f64 0, Value.float FloatKind.f64 0]
   rw [← hW]
   have K0 := Lib.hid K0
   have K1 := Lib.hid K1
   have K2 := Lib.hid K2
   have HB := Lib.hid hB
   clear hW hB hz
   have HO := Lib.hid (show ∀ w', Hd W (w.heap.size + 1 + 1) 24 2 w' → (Hd W (w.heap.size + 1 + 1) 24 2 w' ∧ w'.cell? ⟨w.heap.size, 0, none⟩ = some (Value.float FloatKind.f64 a.lo) ∧ w'.cell? ⟨w.heap.size, 1, none⟩ = some (Value.float FloatKind.f64 a.hi) ∧ w'.cell? ⟨w.heap.size + 1, 0, none⟩ = some (Value.float FloatKind.f64 b.lo) ∧ w'.cell? ⟨w.heap.size + 1, 1, none⟩ = some (Value.float FloatKind.f64 b.hi) ∧ w'.cell? ⟨w.heap.size + 1 + 1, 0, none⟩ = some (cellAt w' ⟨w.heap.size + 1 + 1, 0, none⟩) ∧ w'.frozen? ⟨w.heap.size + 1 + 1, 0, none⟩ = false ∧ w'.cell? ⟨w.heap.size + 1 + 1, 1, none⟩ = some (cellAt w' ⟨w.heap.size + 1 + 1, 1, none⟩) ∧ w'.frozen? ⟨w.heap.size + 1 + 1, 1, none⟩ = false) from fun w' h => ⟨h, (h.blk K0.out (by omega)).cell 0, (h.blk K0.out (by omega)).cell 1, (h.blk K1.out (by omega)).cell 0, (h.blk K1.out (by omega)).cell 1, (h.at_ 0 (by decide)).1, (h.at_ 0 (by decide)).2, (h.at_ 1 (by decide)).1, (h.at_ 1 (by decide)).2⟩)
   have D0 := Lib.hid (show Hd W (w.heap.size + 1 + 1) 24 2 W from Hd.start K2.out)
   refine (H1.out _).mono ?_
   rintro r w1 ⟨rfl, hb⟩
   have D1 := Lib.hid (Hd.call D0.out hb)
   clear hb
   obtain ⟨-, q0, q1, q2, q3, q4, q5, q6, q7⟩ := HO.out _ D1.out
   have z1 := Hd.lt D1.out
   go_wp2_with fail
   refine (HI.out _).mono ?_
   rintro r w' ⟨rfl, rfl⟩
   go_wp2_with fail
   refine (H2.out _).mono ?_
   rintro r w2 ⟨rfl, hb⟩
   have D2 := Lib.hid (Hd.call D1.out hb)
   clear hb
   clear q0 q1 q2 q3 q4 q5 q6 q7
   obtain ⟨-, q0, q1, q2, q3, q4, q5, q6, q7⟩ := HO.out _ D2.out
   have z2 := Hd.lt D2.out
   go_wp2_with fail
   (try simp only [Exit.inBlock, Exit.then])
   have hF := (Hd.set (Hd.set D2.out 0 (.float .f64 18442240474082181120)) 1 (.float .f64 y1))
   exact bodyPost_ret (resS rfl _ _ (w.heap.size + 1 + 1) (.float .f64 18442240474082181120) (.float .f64 y1) rfl (Hd.wrote2 hF)) rfl ⟨rfl, Hd.below hF HB.out (by omega)⟩
 · go_enter Tryz.func74, Tryz.ntmps74
   go_wp2_with fail
   obtain ⟨W, hW, K0, K1, K2, hB, hz⟩ := box3 w 24 24 24 #[Value.float FloatKind.f64 a.lo, Value.float FloatKind.f64 a.hi] #[Value.float FloatKind.f64 b.lo, Value.float FloatKind.f64 b.hi] #[Value.float FloatKind.f64 0, Value.float FloatKind.f64 0]
   rw [← hW]
   have K0 := Lib.hid K0
   have K1 := Lib.hid K1
   have K2 := Lib.hid K2
   have HB := Lib.hid hB
   clear hW hB hz
   have HO := Lib.hid (show ∀ w', Hd W (w.heap.size + 1 + 1) 24 2 w' → (Hd W (w.heap.size + 1 + 1) 24 2 w' ∧ w'.cell? ⟨w.heap.size, 0, none⟩ = some (Value.float FloatKind.f64 a.lo) ∧ w'.cell? ⟨w.heap.size, 1, none⟩ = some (Value.float FloatKind.f64 a.hi) ∧ w'.cell? ⟨w.heap.size + 1, 0, none⟩ = some (Value.float FloatKind.f64 b.lo) ∧ w'.cell? ⟨w.heap.size + 1, 1, none⟩ = some (Value.float FloatKind.f64 b.hi) ∧ w'.cell? ⟨w.heap.size + 1 + 1, 0, none⟩ = some (cellAt w' ⟨w.heap.size + 1 + 1, 0, none⟩) ∧ w'.frozen? ⟨w.heap.size + 1 + 1, 0, none⟩ = false ∧ w'.cell? ⟨w.heap.size + 1 + 1, 1, none⟩ = some (cellAt w' ⟨w.heap.size + 1 + 1, 1, none⟩) ∧ w'.frozen? ⟨w.heap.size + 1 + 1, 1, none⟩ = false) from fun w' h => ⟨h, (h.blk K0.out (by omega)).cell 0, (h.blk K0.out (by omega)).cell 1, (h.blk K1.out (by omega)).cell 0, (h.blk K1.out (by omega)).cell 1, (h.at_ 0 (by decide)).1, (h.at_ 0 (by decide)).2, (h.at_ 1 (by decide)).1, (h.at_ 1 (by decide)).2⟩)
   have D0 := Lib.hid (show Hd W (w.heap.size + 1 + 1) 24 2 W from Hd.start K2.out)
   refine (H1.out _).mono ?_
   rintro r w1 ⟨rfl, hb⟩
   have D1 := Lib.hid (Hd.call D0.out hb)
   clear hb
   obtain ⟨-, q0, q1, q2, q3, q4, q5, q6, q7⟩ := HO.out _ D1.out
   have z1 := Hd.lt D1.out
   go_wp2_with fail
   refine (HI.out _).mono ?_
   rintro r w' ⟨rfl, rfl⟩
   go_wp2_with fail
   refine (H2.out _).mono ?_
   rintro r w2 ⟨rfl, hb⟩
   have D2 := Lib.hid (Hd.call D1.out hb)
   clear hb
   clear q0 q1 q2 q3 q4 q5 q6 q7
   obtain ⟨-, q0, q1, q2, q3, q4, q5, q6, q7⟩ := HO.out _ D2.out
   have z2 := Hd.lt D2.out
   go_wp2_with fail
   refine (HI.out _).mono ?_
   rintro r w' ⟨rfl, rfl⟩
   go_wp2_with fail
   (try simp only [Exit.inBlock, Exit.then])
   have hF := (Hd.set (Hd.set D2.out 0 (.float .f64 18442240474082181120)) 1 (.float .f64 9218868437227405312))
   exact bodyPost_ret (resS rfl _ _ (w.heap.size + 1 + 1) (.float .f64 18442240474082181120) (.float .f64 9218868437227405312) rfl (Hd.wrote2 hF)) rfl ⟨rfl, Hd.below hF HB.out (by omega)⟩
end Go.Proofs.YtnljfcebmgifdaaGreat
set_option linter.unusedVariables false
set_option linter.unusedSimpArgs false
namespace Go.Proofs.YtnljfcebmgifdaaGreat
open Go.RowKit Fl
def LR (l0 l1 l2 l3 m0 m1 m2 m3 : Nat) (V : World) (x y i : Value) (wr : World) : Prop :=
 Below V.heap.size V wr ∧ ((x = .float .f64 9218868437227405312 ∧ y = .float .f64 18442240474082181120 ∧ i = .int .i64 0) ∨ (x = .float .f64 l0 ∧ y = .float .f64 m0 ∧ i = .int .i64 1) ∨ (x = .float .f64 l1 ∧ y = .float .f64 m1 ∧ i = .int .i64 2) ∨ (x = .float .f64 l2 ∧ y = .float .f64 m2 ∧ i = .int .i64 3) ∨ (x = .float .f64 l3 ∧ y = .float .f64 m3 ∧ i = .int .i64 4))
theorem nothing_sp (a : Sp) (w : World) : Calls Tryz.prog 110 #[.agg #[.float .f64 a.lo, .float .f64 a.hi]] w fun r w' => r = .returned (.bool (isZ a)) ∧ Below w.heap.size w w' := by
 have key : ∀ x : Nat, Gd x → (FloatKind.f64.format.order x 0 == some .eq) = decide (Z x = 0) := by
   intro x h
   have z0 : Z 0 = 0 := by decide
   have := eqb h gd0
   rw [z0] at this
   exact this
 have e1 := key a.lo a.vd.l
 have e2 := key a.hi a.vd.h
 unfold isZ
 generalize decide (Z a.lo = 0) = p at *
 generalize decide (Z a.hi = 0) = q at *
 clear key
 cases p
 all_goals
   go_enter Tryz.func110, Tryz.ntmps110
   go_wp2_with fail
   go_ret
   exact ⟨rfl, below_new _ _⟩
theorem rmul_on (a b : Sp) (z1 : isZ a = false) (z2 : isZ b = false) (h : a.wide = false) (h' : b.wide = false) (w : World) : Calls Tryz.prog 75 #[.agg #[.float .f64 a.lo, .float .f64 a.hi], .agg #[.float .f64 b.lo, .float .f64 b.hi]] w fun r w' => r = .returned (.agg #[.float .f64 (q4lo mulD a b), .float .f64 (q4hi mulU a b)]) ∧ Below w.heap.size w w' := by
 have HD := mul_rd (a := a) (b := b) (by rw [h, h']; rfl)
 have HU := mul_ru (a := a) (b := b) (by rw [h, h']; rfl)
 have HC : ∀ x y, x < 18446744073709551616 → y < 18446744073709551616 → ∀ d : Bool, ∃ e : Nat, ∀ w, Calls Tryz.prog 111 #[.float .f64 x, .float .f64 y, .bool d] w fun r w' => r = .returned (.tuple #[.float .f64 (mulR x y d).1, .int .i64 (e : Int)]) ∧ Below w.heap.size w w' := fun x y hx hy d => ⟨(mulR x y d).2, fun w => rmul_any x y d hx hy w⟩
 have H1 := Lib.hid (fun w => nothing_sp a w)
 have H2 := Lib.hid (fun w => nothing_sp b w)
 have H3 := Lib.hid (fun w => rwide_sp a w)
 have H4 := Lib.hid (fun w => rwide_sp b w)
 have HI := Lib.hid (fun w => rinf_any w)
 have NG := neg_inf
 rw [z1] at H1
 rw [z2] at H2
 rw [h] at H3
 rw [h'] at H4
 clear z1 z2 h h'
 have g0 := (HD a.lo b.lo (Or.inl rfl) (Or.inl rfl)).gd
 have k0 := (HU a.lo b.lo (Or.inl rfl) (Or.inl rfl)).gd
 obtain ⟨e0, he⟩ := HC a.lo b.lo a.vd.l.lt b.vd.l.lt true
 have C0 := Lib.hid he
 clear he
 obtain ⟨e1, he⟩ := HC a.lo b.lo a.vd.l.lt b.vd.l.lt false
 have C1 := Lib.hid he
 clear he
 have g1 := (HD a.lo b.hi (Or.inl rfl) (Or.inr rfl)).gd
 have k1 := (HU a.lo b.hi (Or.inl rfl) (Or.inr rfl)).gd
 obtain ⟨e2, he⟩ := HC a.lo b.hi a.vd.l.lt b.vd.h.lt true
 have C2 := Lib.hid he
 clear he
 obtain ⟨e3, he⟩ := HC a.lo b.hi a.vd.l.lt b.vd.h.lt false
 have C3 := Lib.hid he
 clear he
 have g2 := (HD a.hi b.lo (Or.inr rfl) (Or.inl rfl)).gd
 have k2 := (HU a.hi b.lo (Or.inr rfl) (Or.inl rfl)).gd
 obtain ⟨e4, he⟩ := HC a.hi b.lo a.vd.h.lt b.vd.l.lt true
 have C4 := Lib.hid he
 clear he
 obtain ⟨e5, he⟩ := HC a.hi b.lo a.vd.h.lt b.vd.l.lt false
 have C5 := Lib.hid he
 clear he
 have g3 := (HD a.hi b.hi (Or.inr rfl) (Or.inr rfl)).gd
 have k3 := (HU a.hi b.hi (Or.inr rfl) (Or.inr rfl)).gd
 obtain ⟨e6, he⟩ := HC a.hi b.hi a.vd.h.lt b.vd.h.lt true
 have C6 := Lib.hid he
 clear he
 obtain ⟨e7, he⟩ := HC a.hi b.hi a.vd.h.lt b.vd.h.lt false
 have C7 := Lib.hid he
 clear he
 unfold q4lo q4hi
 obtain ⟨d0, hd⟩ : ∃ d, mulD a.lo b.lo = d := ⟨_, rfl⟩
 have hd' : (mulR a.lo b.lo true).1 = d0 := hd
 rw [hd] at g0 ⊢
 rw [hd'] at C0
 clear hd hd'
 obtain ⟨u0, hd⟩ : ∃ d, mulU a.lo b.lo = d := ⟨_, rfl⟩
 have hd' : (mulR a.lo b.lo false).1 = u0 := hd
 rw [hd] at k0 ⊢
 rw [hd'] at C1
 clear hd hd'
 obtain ⟨d1, hd⟩ : ∃ d, mulD a.lo b.hi = d := ⟨_, rfl⟩
 have hd' : (mulR a.lo b.hi true).1 = d1 := hd
 rw [hd] at g1 ⊢
 rw [hd'] at C2
 clear hd hd'
 obtain ⟨u1, hd⟩ : ∃ d, mulU a.lo b.hi = d := ⟨_, rfl⟩
 have hd' : (mulR a.lo b.hi false).1 = u1 := hd
 rw [hd] at k1 ⊢
 rw [hd'] at C3
 clear hd hd'
 obtain ⟨d2, hd⟩ : ∃ d, mulD a.hi b.lo = d := ⟨_, rfl⟩
 have hd' : (mulR a.hi b.lo true).1 = d2 := hd
 rw [hd] at g2 ⊢
 rw [hd'] at C4
 clear hd hd'
 obtain ⟨u2, hd⟩ : ∃ d, mulU a.hi b.lo = d := ⟨_, rfl⟩
 have hd' : (mulR a.hi b.lo false).1 = u2 := hd
 rw [hd] at k2 ⊢
 rw [hd'] at C5
 clear hd hd'
 obtain ⟨d3, hd⟩ : ∃ d, mulD a.hi b.hi = d := ⟨_, rfl⟩
 have hd' : (mulR a.hi b.hi true).1 = d3 := hd
 rw [hd] at g3 ⊢
 rw [hd'] at C6
 clear hd hd'
 obtain ⟨u3, hd⟩ : ∃ d, mulU a.hi b.hi = d := ⟨_, rfl⟩
 have hd' : (mulR a.hi b.hi false).1 = u3 := hd
 rw [hd] at k3 ⊢
 rw [hd'] at C7
 clear hd hd'
 have c0 : ∃ c : Bool, (FloatKind.f64.format.order d0 9218868437227405312 == some .lt) = c ∧ mn 9218868437227405312 d0 = (if c = true then d0 else 9218868437227405312) := ⟨_, rfl, by unfold mn; rw [ltb g0 gdPI]; by_cases h : Z d0 < Z 9218868437227405312 <;> simp [h]⟩
 have s0 : ∃ c : Bool, (FloatKind.f64.format.order u0 18442240474082181120 == some .gt) = c ∧ mx 18442240474082181120 u0 = (if c = true then u0 else 18442240474082181120) := ⟨_, rfl, by unfold mx; rw [gtb k0 gdNI]; by_cases h : Z 18442240474082181120 < Z u0 <;> simp [h]⟩
 have gl0 := mn_gd gdPI g0
 have gh0 := mx_gd gdNI k0
 obtain ⟨l0, hl⟩ : ∃ l, mn 9218868437227405312 d0 = l := ⟨_, rfl⟩
 rw [hl] at c0 gl0 ⊢
 clear hl
 obtain ⟨m0, hl⟩ : ∃ l, mx 18442240474082181120 u0 = l := ⟨_, rfl⟩
 rw [hl] at s0 gh0 ⊢
 clear hl
 have c0 := Lib.hid c0
 have s0 := Lib.hid s0
 have c1 : ∃ c : Bool, (FloatKind.f64.format.order d1 l0 == some .lt) = c ∧ mn l0 d1 = (if c = true then d1 else l0) := ⟨_, rfl, by unfold mn; rw [ltb g1 gl0]; by_cases h : Z d1 < Z l0 <;> simp [h]⟩
 have s1 : ∃ c : Bool, (FloatKind.f64.format.order u1 m0 == some .gt) = c ∧ mx m0 u1 = (if c = true then u1 else m0) := ⟨_, rfl, by unfold mx; rw [gtb k1 gh0]; by_cases h : Z m0 < Z u1 <;> simp [h]⟩
 have gl1 := mn_gd gl0 g1
 have gh1 := mx_gd gh0 k1
 obtain ⟨l1, hl⟩ : ∃ l, mn l0 d1 = l := ⟨_, rfl⟩
 rw [hl] at c1 gl1 ⊢
 clear hl
 obtain ⟨m1, hl⟩ : ∃ l, mx m0 u1 = l := ⟨_, rfl⟩
 rw [hl] at s1 gh1 ⊢
 clear hl
 have c1 := Lib.hid c1
 have s1 := Lib.hid s1
 have c2 : ∃ c : Bool, (FloatKind.f64.format.order d2 l1 == some .lt) = c ∧ mn l1 d2 = (if c = true then d2 else l1) := ⟨_, rfl, by unfold mn; rw [ltb g2 gl1]; by_cases h : Z d2 < Z l1 <;> simp [h]⟩
 have s2 : ∃ c : Bool, (FloatKind.f64.format.order u2 m1 == some .gt) = c ∧ mx m1 u2 = (if c = true then u2 else m1) := ⟨_, rfl, by unfold mx; rw [gtb k2 gh1]; by_cases h : Z m1 < Z u2 <;> simp [h]⟩
 have gl2 := mn_gd gl1 g2
 have gh2 := mx_gd gh1 k2
 obtain ⟨l2, hl⟩ : ∃ l, mn l1 d2 = l := ⟨_, rfl⟩
 rw [hl] at c2 gl2 ⊢
 clear hl
 obtain ⟨m2, hl⟩ : ∃ l, mx m1 u2 = l := ⟨_, rfl⟩
 rw [hl] at s2 gh2 ⊢
 clear hl
 have c2 := Lib.hid c2
 have s2 := Lib.hid s2
 have c3 : ∃ c : Bool, (FloatKind.f64.format.order d3 l2 == some .lt) = c ∧ mn l2 d3 = (if c = true then d3 else l2) := ⟨_, rfl, by unfold mn; rw [ltb g3 gl2]; by_cases h : Z d3 < Z l2 <;> simp [h]⟩
 have s3 : ∃ c : Bool, (FloatKind.f64.format.order u3 m2 == some .gt) = c ∧ mx m2 u3 = (if c = true then u3 else m2) := ⟨_, rfl, by unfold mx; rw [gtb k3 gh2]; by_cases h : Z m2 < Z u3 <;> simp [h]⟩
 have gl3 := mn_gd gl2 g3
 have gh3 := mx_gd gh2 k3
 obtain ⟨l3, hl⟩ : ∃ l, mn l2 d3 = l := ⟨_, rfl⟩
 rw [hl] at c3 gl3 ⊢
 clear hl
 obtain ⟨m3, hl⟩ : ∃ l, mx m2 u3 = l := ⟨_, rfl⟩
 rw [hl] at s3 gh3 ⊢
 clear hl
 have c3 := Lib.hid c3
 have s3 := Lib.hid s3
 clear HD HU HC g0 k0 gl0 gh0 g1 k1 gl1 gh1 g2 k2 gl2 gh2 g3 k3 gl3 gh3
 go_enter Tryz.func75, Tryz.ntmps75
 go_wp2_with fail
 obtain ⟨W, hW, K0, K1, K2, hB, hz⟩ := box3 w 24 24 24 #[Value.float FloatKind.f64 a.lo, Value.float FloatKind.f64 a.hi] #[Value.float FloatKind.f64 b.lo, Value.float FloatKind.f64 b.hi] #[Value.float FloatKind.f64 0, Value.float FloatKind.f64 0]
 rw [← hW]
 have K0 := Lib.hid K0
 have K1 := Lib.hid K1
 have K2 := Lib.hid K2
 have HB := Lib.hid hB
 clear hW hB hz
 have HO := Lib.hid (show ∀ w', Hd W (w.heap.size + 1 + 1) 24 2 w' → (Hd W (w.heap.size + 1 + 1) 24 2 w' ∧ w'.cell? ⟨w.heap.size, 0, none⟩ = some (Value.float FloatKind.f64 a.lo) ∧ w'.cell? ⟨w.heap.size, 1, none⟩ = some (Value.float FloatKind.f64 a.hi) ∧ w'.cell? ⟨w.heap.size + 1, 0, none⟩ = some (Value.float FloatKind.f64 b.lo) ∧ w'.cell? ⟨w.heap.size + 1, 1, none⟩ = some (Value.float FloatKind.f64 b.hi) ∧ w'.cell? ⟨w.heap.size + 1 + 1, 0, none⟩ = some (cellAt w' ⟨w.heap.size + 1 + 1, 0, none⟩) ∧ w'.frozen? ⟨w.heap.size + 1 + 1, 0, none⟩ = false ∧ w'.cell? ⟨w.heap.size + 1 + 1, 1, none⟩ = some (cellAt w' ⟨w.heap.size + 1 + 1, 1, none⟩) ∧ w'.frozen? ⟨w.heap.size + 1 + 1, 1, none⟩ = false) from fun w' h => ⟨h, (h.blk K0.out (by omega)).cell 0, (h.blk K0.out (by omega)).cell 1, (h.blk K1.out (by omega)).cell 0, (h.blk K1.out (by omega)).cell 1, (h.at_ 0 (by decide)).1, (h.at_ 0 (by decide)).2, (h.at_ 1 (by decide)).1, (h.at_ 1 (by decide)).2⟩)
 have D0 := Lib.hid (show Hd W (w.heap.size + 1 + 1) 24 2 W from Hd.start K2.out)
 refine (H1.out _).mono ?_
 rintro r w1 ⟨rfl, hb⟩
 have D1 := Lib.hid (Hd.call D0.out hb)
 clear hb
 obtain ⟨-, q0, q1, q2, q3, q4, q5, q6, q7⟩ := HO.out _ D1.out
 have z1 := Hd.lt D1.out
 go_wp2_with fail
 refine (H2.out _).mono ?_
 rintro r w2 ⟨rfl, hb⟩
 have D2 := Lib.hid (Hd.call D1.out hb)
 clear hb
 clear q0 q1 q2 q3 q4 q5 q6 q7
 obtain ⟨-, q0, q1, q2, q3, q4, q5, q6, q7⟩ := HO.out _ D2.out
 have z2 := Hd.lt D2.out
 go_wp2_with fail
 refine (H3.out _).mono ?_
 rintro r w3 ⟨rfl, hb⟩
 have D3 := Lib.hid (Hd.call D2.out hb)
 clear hb
 clear q0 q1 q2 q3 q4 q5 q6 q7
 obtain ⟨-, q0, q1, q2, q3, q4, q5, q6, q7⟩ := HO.out _ D3.out
 have z3 := Hd.lt D3.out
 go_wp2_with fail
 refine (H4.out _).mono ?_
 rintro r w4 ⟨rfl, hb⟩
 have D4 := Lib.hid (Hd.call D3.out hb)
 clear hb
 clear q0 q1 q2 q3 q4 q5 q6 q7
 obtain ⟨-, q0, q1, q2, q3, q4, q5, q6, q7⟩ := HO.out _ D4.out
 have z4 := Hd.lt D4.out
 go_wp2_with fail
 refine (HI.out _).mono ?_
 rintro r w' ⟨rfl, rfl⟩
 go_wp2_with fail
 refine (HI.out _).mono ?_
 rintro r w' ⟨rfl, rfl⟩
 have hz9 := z4
 obtain ⟨g, hg⟩ : ∃ g, w4.heap.size = g := ⟨_, rfl⟩
 obtain ⟨V, hV⟩ : ∃ V, (w4.alloc (.cells #[Value.float FloatKind.f64 a.lo, Value.float FloatKind.f64 a.lo, Value.float FloatKind.f64 a.hi, Value.float FloatKind.f64 a.hi] 22)).alloc (.cells #[Value.float FloatKind.f64 b.lo, Value.float FloatKind.f64 b.hi, Value.float FloatKind.f64 b.lo, Value.float FloatKind.f64 b.hi] 22) = V := ⟨_, rfl⟩
 have O0 : Blk V g 22 #[Value.float FloatKind.f64 a.lo, Value.float FloatKind.f64 a.lo, Value.float FloatKind.f64 a.hi, Value.float FloatKind.f64 a.hi] := by rw [← hV, ← hg]; exact (Blk.new_at _ _ _ rfl).alloc _
 have O1 : Blk V (g + 1) 22 #[Value.float FloatKind.f64 b.lo, Value.float FloatKind.f64 b.hi, Value.float FloatKind.f64 b.lo, Value.float FloatKind.f64 b.hi] := by rw [← hV, ← hg]; exact Blk.new_at _ _ _ (by simp)
 have E0 := Lib.hid (hV ▸ Hd.alloc (Hd.alloc D4.out _) _ : Hd W (w.heap.size + 1 + 1) 24 2 V)
 rw [hg] at hz9
 have y0 : w.heap.size < g := by omega
 have y1 : w.heap.size + 1 < g := by omega
 have HS := Lib.hid (show ∀ w', Below V.heap.size V w' → (Below V.heap.size V w' ∧ w'.cell? ⟨g, 0, none⟩ = some (Value.float FloatKind.f64 a.lo) ∧ w'.cell? ⟨g, 1, none⟩ = some (Value.float FloatKind.f64 a.lo) ∧ w'.cell? ⟨g, 2, none⟩ = some (Value.float FloatKind.f64 a.hi) ∧ w'.cell? ⟨g, 3, none⟩ = some (Value.float FloatKind.f64 a.hi) ∧ w'.cell? ⟨g + 1, 0, none⟩ = some (Value.float FloatKind.f64 b.lo) ∧ w'.cell? ⟨g + 1, 1, none⟩ = some (Value.float FloatKind.f64 b.hi) ∧ w'.cell? ⟨g + 1, 2, none⟩ = some (Value.float FloatKind.f64 b.lo) ∧ w'.cell? ⟨g + 1, 3, none⟩ = some (Value.float FloatKind.f64 b.hi)) from fun w' h => ⟨h, (O0.below h O0.lt).cell 0, (O0.below h O0.lt).cell 1, (O0.below h O0.lt).cell 2, (O0.below h O0.lt).cell 3, (O1.below h O1.lt).cell 0, (O1.below h O1.lt).cell 1, (O1.below h O1.lt).cell 2, (O1.below h O1.lt).cell 3⟩)
 have O0' := Lib.hid O0
 have O1' := Lib.hid O1
 clear O0 O1
 go_wp2_with fail
 clear hV hg q0 q1 q2 q3 q4 q5 q6 q7
 go_loopw [5, 6, 9] (fun x y i wr => LR l0 l1 l2 l3 m0 m1 m2 m3 V x y i wr) (fun _ _ i _ => 4 - (intOf i).toNat)
 case atStart => exact ⟨Below.refl _ _, Or.inl ⟨rfl, rfl, rfl⟩⟩
 case round =>
   obtain ⟨hL, hk⟩ := hrel
   have hS := HS.out _ hL
   rcases hk with ⟨rfl, rfl, rfl⟩ | ⟨rfl, rfl, rfl⟩ | ⟨rfl, rfl, rfl⟩ | ⟨rfl, rfl, rfl⟩ | ⟨rfl, rfl, rfl⟩
   · obtain ⟨c, hc1, hc2⟩ := c0.out
     obtain ⟨e, he1, he2⟩ := s0.out
     have hc2 := Lib.hid hc2
     have he2 := Lib.hid he2
     go_wp2_with fail
     go_region_held3 (fun w' => Below V.heap.size V w' ∧ w'.cell? ⟨g, 0, none⟩ = some (Value.float FloatKind.f64 a.lo) ∧ w'.cell? ⟨g, 1, none⟩ = some (Value.float FloatKind.f64 a.lo) ∧ w'.cell? ⟨g, 2, none⟩ = some (Value.float FloatKind.f64 a.hi) ∧ w'.cell? ⟨g, 3, none⟩ = some (Value.float FloatKind.f64 a.hi) ∧ w'.cell? ⟨g + 1, 0, none⟩ = some (Value.float FloatKind.f64 b.lo) ∧ w'.cell? ⟨g + 1, 1, none⟩ = some (Value.float FloatKind.f64 b.hi) ∧ w'.cell? ⟨g + 1, 2, none⟩ = some (Value.float FloatKind.f64 b.lo) ∧ w'.cell? ⟨g + 1, 3, none⟩ = some (Value.float FloatKind.f64 b.hi))
       (exact HS.out _ (by first | exact (Below.refl _ _).drew | exact Below.drew (And.left (by assumption)) | exact below_step (And.left (by assumption)) hb | exact And.left (by assumption)))
       (first
         | ((go_simp; go_at_call 111; refine (C0.out _).mono ?_; rintro r w' ⟨rfl, hb⟩; dsimp only)))
     go_wp2_with fail
     go_region_held3 (fun w' => Below V.heap.size V w' ∧ w'.cell? ⟨g, 0, none⟩ = some (Value.float FloatKind.f64 a.lo) ∧ w'.cell? ⟨g, 1, none⟩ = some (Value.float FloatKind.f64 a.lo) ∧ w'.cell? ⟨g, 2, none⟩ = some (Value.float FloatKind.f64 a.hi) ∧ w'.cell? ⟨g, 3, none⟩ = some (Value.float FloatKind.f64 a.hi) ∧ w'.cell? ⟨g + 1, 0, none⟩ = some (Value.float FloatKind.f64 b.lo) ∧ w'.cell? ⟨g + 1, 1, none⟩ = some (Value.float FloatKind.f64 b.hi) ∧ w'.cell? ⟨g + 1, 2, none⟩ = some (Value.float FloatKind.f64 b.lo) ∧ w'.cell? ⟨g + 1, 3, none⟩ = some (Value.float FloatKind.f64 b.hi))
       (exact HS.out _ (by first | exact (Below.refl _ _).drew | exact Below.drew (And.left (by assumption)) | exact below_step (And.left (by assumption)) hb | exact And.left (by assumption)))
       (first
         | ((go_simp; go_at_call 111; refine (C1.out _).mono ?_; rintro r w' ⟨rfl, hb⟩; dsimp only)))
     have hL2 := And.left (by assumption)
     clear hL hS
     go_wp2_with fail
     all_goals
       go_roundw
       case rel => exact ⟨hL2, Or.inr (Or.inl ⟨by rw [hc2.out]; simp [*], by rw [he2.out]; simp [*], rfl⟩)⟩
       case measure => simp [intOf]
   · obtain ⟨c, hc1, hc2⟩ := c1.out
     obtain ⟨e, he1, he2⟩ := s1.out
     have hc2 := Lib.hid hc2
     have he2 := Lib.hid he2
     go_wp2_with fail
     go_region_held3 (fun w' => Below V.heap.size V w' ∧ w'.cell? ⟨g, 0, none⟩ = some (Value.float FloatKind.f64 a.lo) ∧ w'.cell? ⟨g, 1, none⟩ = some (Value.float FloatKind.f64 a.lo) ∧ w'.cell? ⟨g, 2, none⟩ = some (Value.float FloatKind.f64 a.hi) ∧ w'.cell? ⟨g, 3, none⟩ = some (Value.float FloatKind.f64 a.hi) ∧ w'.cell? ⟨g + 1, 0, none⟩ = some (Value.float FloatKind.f64 b.lo) ∧ w'.cell? ⟨g + 1, 1, none⟩ = some (Value.float FloatKind.f64 b.hi) ∧ w'.cell? ⟨g + 1, 2, none⟩ = some (Value.float FloatKind.f64 b.lo) ∧ w'.cell? ⟨g + 1, 3, none⟩ = some (Value.float FloatKind.f64 b.hi))
       (exact HS.out _ (by first | exact (Below.refl _ _).drew | exact Below.drew (And.left (by assumption)) | exact below_step (And.left (by assumption)) hb | exact And.left (by assumption)))
       (first
         | ((go_simp; go_at_call 111; refine (C2.out _).mono ?_; rintro r w' ⟨rfl, hb⟩; dsimp only)))
     go_wp2_with fail
     go_region_held3 (fun w' => Below V.heap.size V w' ∧ w'.cell? ⟨g, 0, none⟩ = some (Value.float FloatKind.f64 a.lo) ∧ w'.cell? ⟨g, 1, none⟩ = some (Value.float FloatKind.f64 a.lo) ∧ w'.cell? ⟨g, 2, none⟩ = some (Value.float FloatKind.f64 a.hi) ∧ w'.cell? ⟨g, 3, none⟩ = some (Value.float FloatKind.f64 a.hi) ∧ w'.cell? ⟨g + 1, 0, none⟩ = some (Value.float FloatKind.f64 b.lo) ∧ w'.cell? ⟨g + 1, 1, none⟩ = some (Value.float FloatKind.f64 b.hi) ∧ w'.cell? ⟨g + 1, 2, none⟩ = some (Value.float FloatKind.f64 b.lo) ∧ w'.cell? ⟨g + 1, 3, none⟩ = some (Value.float FloatKind.f64 b.hi))
       (exact HS.out _ (by first | exact (Below.refl _ _).drew | exact Below.drew (And.left (by assumption)) | exact below_step (And.left (by assumption)) hb | exact And.left (by assumption)))
       (first
         | ((go_simp; go_at_call 111; refine (C3.out _).mono ?_; rintro r w' ⟨rfl, hb⟩; dsimp only)))
     have hL2 := And.left (by assumption)
     clear hL hS
     go_wp2_with fail
     all_goals
       go_roundw
       case rel => exact ⟨hL2, Or.inr (Or.inr (Or.inl ⟨by rw [hc2.out]; simp [*], by rw [he2.out]; simp [*], rfl⟩))⟩
       case measure => simp [intOf]
   · obtain ⟨c, hc1, hc2⟩ := c2.out
     obtain ⟨e, he1, he2⟩ := s2.out
     have hc2 := Lib.hid hc2
     have he2 := Lib.hid he2
     go_wp2_with fail
     go_region_held3 (fun w' => Below V.heap.size V w' ∧ w'.cell? ⟨g, 0, none⟩ = some (Value.float FloatKind.f64 a.lo) ∧ w'.cell? ⟨g, 1, none⟩ = some (Value.float FloatKind.f64 a.lo) ∧ w'.cell? ⟨g, 2, none⟩ = some (Value.float FloatKind.f64 a.hi) ∧ w'.cell? ⟨g, 3, none⟩ = some (Value.float FloatKind.f64 a.hi) ∧ w'.cell? ⟨g + 1, 0, none⟩ = some (Value.float FloatKind.f64 b.lo) ∧ w'.cell? ⟨g + 1, 1, none⟩ = some (Value.float FloatKind.f64 b.hi) ∧ w'.cell? ⟨g + 1, 2, none⟩ = some (Value.float FloatKind.f64 b.lo) ∧ w'.cell? ⟨g + 1, 3, none⟩ = some (Value.float FloatKind.f64 b.hi))
       (exact HS.out _ (by first | exact (Below.refl _ _).drew | exact Below.drew (And.left (by assumption)) | exact below_step (And.left (by assumption)) hb | exact And.left (by assumption)))
       (first
         | ((go_simp; go_at_call 111; refine (C4.out _).mono ?_; rintro r w' ⟨rfl, hb⟩; dsimp only)))
     go_wp2_with fail
     go_region_held3 (fun w' => Below V.heap.size V w' ∧ w'.cell? ⟨g, 0, none⟩ = some (Value.float FloatKind.f64 a.lo) ∧ w'.cell? ⟨g, 1, none⟩ = some (Value.float FloatKind.f64 a.lo) ∧ w'.cell? ⟨g, 2, none⟩ = some (Value.float FloatKind.f64 a.hi) ∧ w'.cell? ⟨g, 3, none⟩ = some (Value.float FloatKind.f64 a.hi) ∧ w'.cell? ⟨g + 1, 0, none⟩ = some (Value.float FloatKind.f64 b.lo) ∧ w'.cell? ⟨g + 1, 1, none⟩ = some (Value.float FloatKind.f64 b.hi) ∧ w'.cell? ⟨g + 1, 2, none⟩ = some (Value.float FloatKind.f64 b.lo) ∧ w'.cell? ⟨g + 1, 3, none⟩ = some (Value.float FloatKind.f64 b.hi))
       (exact HS.out _ (by first | exact (Below.refl _ _).drew | exact Below.drew (And.left (by assumption)) | exact below_step (And.left (by assumption)) hb | exact And.left (by assumption)))
       (first
         | ((go_simp; go_at_call 111; refine (C5.out _).mono ?_; rintro r w' ⟨rfl, hb⟩; dsimp only)))
     have hL2 := And.left (by assumption)
     clear hL hS
     go_wp2_with fail
     all_goals
       go_roundw
       case rel => exact ⟨hL2, Or.inr (Or.inr (Or.inr (Or.inl ⟨by rw [hc2.out]; simp [*], by rw [he2.out]; simp [*], rfl⟩)))⟩
       case measure => simp [intOf]
   · obtain ⟨c, hc1, hc2⟩ := c3.out
     obtain ⟨e, he1, he2⟩ := s3.out
     have hc2 := Lib.hid hc2
     have he2 := Lib.hid he2
     go_wp2_with fail
     go_region_held3 (fun w' => Below V.heap.size V w' ∧ w'.cell? ⟨g, 0, none⟩ = some (Value.float FloatKind.f64 a.lo) ∧ w'.cell? ⟨g, 1, none⟩ = some (Value.float FloatKind.f64 a.lo) ∧ w'.cell? ⟨g, 2, none⟩ = some (Value.float FloatKind.f64 a.hi) ∧ w'.cell? ⟨g, 3, none⟩ = some (Value.float FloatKind.f64 a.hi) ∧ w'.cell? ⟨g + 1, 0, none⟩ = some (Value.float FloatKind.f64 b.lo) ∧ w'.cell? ⟨g + 1, 1, none⟩ = some (Value.float FloatKind.f64 b.hi) ∧ w'.cell? ⟨g + 1, 2, none⟩ = some (Value.float FloatKind.f64 b.lo) ∧ w'.cell? ⟨g + 1, 3, none⟩ = some (Value.float FloatKind.f64 b.hi))
       (exact HS.out _ (by first | exact (Below.refl _ _).drew | exact Below.drew (And.left (by assumption)) | exact below_step (And.left (by assumption)) hb | exact And.left (by assumption)))
       (first
         | ((go_simp; go_at_call 111; refine (C6.out _).mono ?_; rintro r w' ⟨rfl, hb⟩; dsimp only)))
     go_wp2_with fail
     go_region_held3 (fun w' => Below V.heap.size V w' ∧ w'.cell? ⟨g, 0, none⟩ = some (Value.float FloatKind.f64 a.lo) ∧ w'.cell? ⟨g, 1, none⟩ = some (Value.float FloatKind.f64 a.lo) ∧ w'.cell? ⟨g, 2, none⟩ = some (Value.float FloatKind.f64 a.hi) ∧ w'.cell? ⟨g, 3, none⟩ = some (Value.float FloatKind.f64 a.hi) ∧ w'.cell? ⟨g + 1, 0, none⟩ = some (Value.float FloatKind.f64 b.lo) ∧ w'.cell? ⟨g + 1, 1, none⟩ = some (Value.float FloatKind.f64 b.hi) ∧ w'.cell? ⟨g + 1, 2, none⟩ = some (Value.float FloatKind.f64 b.lo) ∧ w'.cell? ⟨g + 1, 3, none⟩ = some (Value.float FloatKind.f64 b.hi))
       (exact HS.out _ (by first | exact (Below.refl _ _).drew | exact Below.drew (And.left (by assumption)) | exact below_step (And.left (by assumption)) hb | exact And.left (by assumption)))
       (first
         | ((go_simp; go_at_call 111; refine (C7.out _).mono ?_; rintro r w' ⟨rfl, hb⟩; dsimp only)))
     have hL2 := And.left (by assumption)
     clear hL hS
     go_wp2_with fail
     all_goals
       go_roundw
       case rel => exact ⟨hL2, Or.inr (Or.inr (Or.inr (Or.inr (⟨by rw [hc2.out]; simp [*], by rw [he2.out]; simp [*], rfl⟩))))⟩
       case measure => simp [intOf]
   · obtain ⟨-, q0, q1, q2, q3, q4, q5, q6, q7⟩ := HO.out _ (Hd.call E0.out hL)
     go_wp2_with fail
     (try simp only [Exit.inBlock, Exit.then])
     have hF := Hd.set (Hd.set (Hd.call E0.out hL) 0 (.float .f64 l3)) 1 (.float .f64 m3)
     exact bodyPost_ret (resS rfl _ _ (w.heap.size + 1 + 1) (.float .f64 l3) (.float .f64 m3) rfl (Hd.wrote2 hF)) rfl ⟨rfl, Hd.below hF HB.out (by omega)⟩
theorem rmul_a0 (a b : Sp) (z1 : isZ a = true) (w : World) : Calls Tryz.prog 75 #[.agg #[.float .f64 a.lo, .float .f64 a.hi], .agg #[.float .f64 b.lo, .float .f64 b.hi]] w fun r w' => r = .returned (.agg #[.float .f64 0, .float .f64 0]) ∧ Below w.heap.size w w' := by
 have H1 := Lib.hid (fun w => nothing_sp a w)
 rw [z1] at H1
 go_enter Tryz.func75, Tryz.ntmps75
 go_wp2_with fail
 obtain ⟨W, hW, K0, K1, K2, hB, hz⟩ := box3 w 24 24 24 #[Value.float FloatKind.f64 a.lo, Value.float FloatKind.f64 a.hi] #[Value.float FloatKind.f64 b.lo, Value.float FloatKind.f64 b.hi] #[Value.float FloatKind.f64 0, Value.float FloatKind.f64 0]
 rw [← hW]
 have K0 := Lib.hid K0
 have K1 := Lib.hid K1
 have K2 := Lib.hid K2
 have HB := Lib.hid hB
 clear hW hB hz
 have HO := Lib.hid (show ∀ w', Hd W (w.heap.size + 1 + 1) 24 2 w' → (Hd W (w.heap.size + 1 + 1) 24 2 w' ∧ w'.cell? ⟨w.heap.size, 0, none⟩ = some (Value.float FloatKind.f64 a.lo) ∧ w'.cell? ⟨w.heap.size, 1, none⟩ = some (Value.float FloatKind.f64 a.hi) ∧ w'.cell? ⟨w.heap.size + 1, 0, none⟩ = some (Value.float FloatKind.f64 b.lo) ∧ w'.cell? ⟨w.heap.size + 1, 1, none⟩ = some (Value.float FloatKind.f64 b.hi) ∧ w'.cell? ⟨w.heap.size + 1 + 1, 0, none⟩ = some (cellAt w' ⟨w.heap.size + 1 + 1, 0, none⟩) ∧ w'.frozen? ⟨w.heap.size + 1 + 1, 0, none⟩ = false ∧ w'.cell? ⟨w.heap.size + 1 + 1, 1, none⟩ = some (cellAt w' ⟨w.heap.size + 1 + 1, 1, none⟩) ∧ w'.frozen? ⟨w.heap.size + 1 + 1, 1, none⟩ = false) from fun w' h => ⟨h, (h.blk K0.out (by omega)).cell 0, (h.blk K0.out (by omega)).cell 1, (h.blk K1.out (by omega)).cell 0, (h.blk K1.out (by omega)).cell 1, (h.at_ 0 (by decide)).1, (h.at_ 0 (by decide)).2, (h.at_ 1 (by decide)).1, (h.at_ 1 (by decide)).2⟩)
 have D0 := Lib.hid (show Hd W (w.heap.size + 1 + 1) 24 2 W from Hd.start K2.out)
 refine (H1.out _).mono ?_
 rintro r w1 ⟨rfl, hb⟩
 have D1 := Lib.hid (Hd.call D0.out hb)
 clear hb
 obtain ⟨-, q0, q1, q2, q3, q4, q5, q6, q7⟩ := HO.out _ D1.out
 have z1 := Hd.lt D1.out
 go_wp2_with fail
 (try simp only [Exit.inBlock, Exit.then])
 have hF := (Hd.set (Hd.set D1.out 0 (.float .f64 0)) 1 (.float .f64 0))
 exact bodyPost_ret (resS rfl _ _ (w.heap.size + 1 + 1) (.float .f64 0) (.float .f64 0) rfl (Hd.wrote2 hF)) rfl ⟨rfl, Hd.below hF HB.out (by omega)⟩
theorem rmul_b0 (a b : Sp) (z1 : isZ a = false) (z2 : isZ b = true) (w : World) : Calls Tryz.prog 75 #[.agg #[.float .f64 a.lo, .float .f64 a.hi], .agg #[.float .f64 b.lo, .float .f64 b.hi]] w fun r w' => r = .returned (.agg #[.float .f64 0, .float .f64 0]) ∧ Below w.heap.size w w' := by
 have H1 := Lib.hid (fun w => nothing_sp a w)
 have H2 := Lib.hid (fun w => nothing_sp b w)
 rw [z1] at H1
 rw [z2] at H2
 go_enter Tryz.func75, Tryz.ntmps75
 go_wp2_with fail
 obtain ⟨W, hW, K0, K1, K2, hB, hz⟩ := box3 w 24 24 24 #[Value.float FloatKind.f64 a.lo, Value.float FloatKind.f64 a.hi] #[Value.float FloatKind.f64 b.lo, Value.float FloatKind.f64 b.hi] #[Value.float FloatKind.f64 0, Value.float FloatKind.f64 0]
 rw [← hW]
 have K0 := Lib.hid K0
 have K1 := Lib.hid K1
 have K2 := Lib.hid K2
 have HB := Lib.hid hB
 clear hW hB hz
 have HO := Lib.hid (show ∀ w', Hd W (w.heap.size + 1 + 1) 24 2 w' → (Hd W (w.heap.size + 1 + 1) 24 2 w' ∧ w'.cell? ⟨w.heap.size, 0, none⟩ = some (Value.float FloatKind.f64 a.lo) ∧ w'.cell? ⟨w.heap.size, 1, none⟩ = some (Value.float FloatKind.f64 a.hi) ∧ w'.cell? ⟨w.heap.size + 1, 0, none⟩ = some (Value.float FloatKind.f64 b.lo) ∧ w'.cell? ⟨w.heap.size + 1, 1, none⟩ = some (Value.float FloatKind.f64 b.hi) ∧ w'.cell? ⟨w.heap.size + 1 + 1, 0, none⟩ = some (cellAt w' ⟨w.heap.size + 1 + 1, 0, none⟩) ∧ w'.frozen? ⟨w.heap.size + 1 + 1, 0, none⟩ = false ∧ w'.cell? ⟨w.heap.size + 1 + 1, 1, none⟩ = some (cellAt w' ⟨w.heap.size + 1 + 1, 1, none⟩) ∧ w'.frozen? ⟨w.heap.size + 1 + 1, 1, none⟩ = false) from fun w' h => ⟨h, (h.blk K0.out (by omega)).cell 0, (h.blk K0.out (by omega)).cell 1, (h.blk K1.out (by omega)).cell 0, (h.blk K1.out (by omega)).cell 1, (h.at_ 0 (by decide)).1, (h.at_ 0 (by decide)).2, (h.at_ 1 (by decide)).1, (h.at_ 1 (by decide)).2⟩)
 have D0 := Lib.hid (show Hd W (w.heap.size + 1 + 1) 24 2 W from Hd.start K2.out)
 refine (H1.out _).mono ?_
 rintro r w1 ⟨rfl, hb⟩
 have D1 := Lib.hid (Hd.call D0.out hb)
 clear hb
 obtain ⟨-, q0, q1, q2, q3, q4, q5, q6, q7⟩ := HO.out _ D1.out
 have z1 := Hd.lt D1.out
 go_wp2_with fail
 refine (H2.out _).mono ?_
 rintro r w2 ⟨rfl, hb⟩
 have D2 := Lib.hid (Hd.call D1.out hb)
 clear hb
 clear q0 q1 q2 q3 q4 q5 q6 q7
 obtain ⟨-, q0, q1, q2, q3, q4, q5, q6, q7⟩ := HO.out _ D2.out
 have z2 := Hd.lt D2.out
 go_wp2_with fail
 (try simp only [Exit.inBlock, Exit.then])
 have hF := (Hd.set (Hd.set D2.out 0 (.float .f64 0)) 1 (.float .f64 0))
 exact bodyPost_ret (resS rfl _ _ (w.heap.size + 1 + 1) (.float .f64 0) (.float .f64 0) rfl (Hd.wrote2 hF)) rfl ⟨rfl, Hd.below hF HB.out (by omega)⟩
theorem rmul_aw (a b : Sp) (z1 : isZ a = false) (z2 : isZ b = false) (h : a.wide = true) (w : World) : Calls Tryz.prog 75 #[.agg #[.float .f64 a.lo, .float .f64 a.hi], .agg #[.float .f64 b.lo, .float .f64 b.hi]] w fun r w' => r = .returned (.agg #[.float .f64 18442240474082181120, .float .f64 9218868437227405312]) ∧ Below w.heap.size w w' := by
 have H1 := Lib.hid (fun w => nothing_sp a w)
 have H2 := Lib.hid (fun w => nothing_sp b w)
 have H3 := Lib.hid (fun w => rwide_sp a w)
 have H5 := Lib.hid (fun w => rall_below w)
 rw [z1] at H1
 rw [z2] at H2
 rw [h] at H3
 go_enter Tryz.func75, Tryz.ntmps75
 go_wp2_with fail
 obtain ⟨W, hW, K0, K1, K2, hB, hz⟩ := box3 w 24 24 24 #[Value.float FloatKind.f64 a.lo, Value.float FloatKind.f64 a.hi] #[Value.float FloatKind.f64 b.lo, Value.float FloatKind.f64 b.hi] #[Value.float FloatKind.f64 0, Value.float FloatKind.f64 0]
 rw [← hW]
 have K0 := Lib.hid K0
 have K1 := Lib.hid K1
 have K2 := Lib.hid K2
 have HB := Lib.hid hB
 clear hW hB hz
 have HO := Lib.hid (show ∀ w', Hd W (w.heap.size + 1 + 1) 24 2 w' → (Hd W (w.heap.size + 1 + 1) 24 2 w' ∧ w'.cell? ⟨w.heap.size, 0, none⟩ = some (Value.float FloatKind.f64 a.lo) ∧ w'.cell? ⟨w.heap.size, 1, none⟩ = some (Value.float FloatKind.f64 a.hi) ∧ w'.cell? ⟨w.heap.size + 1, 0, none⟩ = some (Value.float FloatKind.f64 b.lo) ∧ w'.cell? ⟨w.heap.size + 1, 1, none⟩ = some (Value.float FloatKind.f64 b.hi) ∧ w'.cell? ⟨w.heap.size + 1 + 1, 0, none⟩ = some (cellAt w' ⟨w.heap.size + 1 + 1, 0, none⟩) ∧ w'.frozen? ⟨w.heap.size + 1 + 1, 0, none⟩ = false ∧ w'.cell? ⟨w.heap.size + 1 + 1, 1, none⟩ = some (cellAt w' ⟨w.heap.size + 1 + 1, 1, none⟩) ∧ w'.frozen? ⟨w.heap.size + 1 + 1, 1, none⟩ = false) from fun w' h => ⟨h, (h.blk K0.out (by omega)).cell 0, (h.blk K0.out (by omega)).cell 1, (h.blk K1.out (by omega)).cell 0, (h.blk K1.out (by omega)).cell 1, (h.at_ 0 (by decide)).1, (h.at_ 0 (by decide)).2, (h.at_ 1 (by decide)).1, (h.at_ 1 (by decide)).2⟩)
 have D0 := Lib.hid (show Hd W (w.heap.size + 1 + 1) 24 2 W from Hd.start K2.out)
 refine (H1.out _).mono ?_
 rintro r w1 ⟨rfl, hb⟩
 have D1 := Lib.hid (Hd.call D0.out hb)
 clear hb
 obtain ⟨-, q0, q1, q2, q3, q4, q5, q6, q7⟩ := HO.out _ D1.out
 have z1 := Hd.lt D1.out
 go_wp2_with fail
 refine (H2.out _).mono ?_
 rintro r w2 ⟨rfl, hb⟩
 have D2 := Lib.hid (Hd.call D1.out hb)
 clear hb
 clear q0 q1 q2 q3 q4 q5 q6 q7
 obtain ⟨-, q0, q1, q2, q3, q4, q5, q6, q7⟩ := HO.out _ D2.out
 have z2 := Hd.lt D2.out
 go_wp2_with fail
 refine (H3.out _).mono ?_
 rintro r w3 ⟨rfl, hb⟩
 have D3 := Lib.hid (Hd.call D2.out hb)
 clear hb
 clear q0 q1 q2 q3 q4 q5 q6 q7
 obtain ⟨-, q0, q1, q2, q3, q4, q5, q6, q7⟩ := HO.out _ D3.out
 have z3 := Hd.lt D3.out
 go_wp2_with fail
 refine (H5.out _).mono ?_
 rintro r w4 ⟨rfl, hb⟩
 have D4 := Lib.hid (Hd.call D3.out hb)
 clear hb
 clear q0 q1 q2 q3 q4 q5 q6 q7
 obtain ⟨-, q0, q1, q2, q3, q4, q5, q6, q7⟩ := HO.out _ D4.out
 have z4 := Hd.lt D4.out
 go_wp2_with fail
 (try simp only [Exit.inBlock, Exit.then])
 have hF := (Hd.set (Hd.set D4.out 0 (.float .f64 18442240474082181120)) 1 (.float .f64 9218868437227405312))
 exact bodyPost_ret (resS rfl _ _ (w.heap.size + 1 + 1) (.float .f64 18442240474082181120) (.float .f64 9218868437227405312) rfl (Hd.wrote2 hF)) rfl ⟨rfl, Hd.below hF HB.out (by omega)⟩
theorem rmul_bw (a b : Sp) (z1 : isZ a = false) (z2 : isZ b = false) (h : a.wide = false) (h' : b.wide = true) (w : World) : Calls Tryz.prog 75 #[.agg #[.float .f64 a.lo, .float .f64 a.hi], .agg #[.float .f64 b.lo, .float .f64 b.hi]] w fun r w' => r = .returned (.agg #[.float .f64 18442240474082181120, .float .f64 9218868437227405312]) ∧ Below w.heap.size w w' := by
 have H1 := Lib.hid (fun w => nothing_sp a w)
 have H2 := Lib.hid (fun w => nothing_sp b w)
 have H3 := Lib.hid (fun w => rwide_sp a w)
 have H4 := Lib.hid (fun w => rwide_sp b w)
 have H5 := Lib.hid (fun w => rall_below w)
 rw [z1] at H1
 rw [z2] at H2
 rw [h] at H3
 rw [h'] at H4
 go_enter Tryz.func75, Tryz.ntmps75
 go_wp2_with fail
 obtain ⟨W, hW, K0, K1, K2, hB, hz⟩ := box3 w 24 24 24 #[Value.float FloatKind.f64 a.lo, Value.float FloatKind.f64 a.hi] #[Value.float FloatKind.f64 b.lo, Value.float FloatKind.f64 b.hi] #[Value.float FloatKind.f64 0, Value.float FloatKind.f64 0]
 rw [← hW]
 have K0 := Lib.hid K0
 have K1 := Lib.hid K1
 have K2 := Lib.hid K2
 have HB := Lib.hid hB
 clear hW hB hz
 have HO := Lib.hid (show ∀ w', Hd W (w.heap.size + 1 + 1) 24 2 w' → (Hd W (w.heap.size + 1 + 1) 24 2 w' ∧ w'.cell? ⟨w.heap.size, 0, none⟩ = some (Value.float FloatKind.f64 a.lo) ∧ w'.cell? ⟨w.heap.size, 1, none⟩ = some (Value.float FloatKind.f64 a.hi) ∧ w'.cell? ⟨w.heap.size + 1, 0, none⟩ = some (Value.float FloatKind.f64 b.lo) ∧ w'.cell? ⟨w.heap.size + 1, 1, none⟩ = some (Value.float FloatKind.f64 b.hi) ∧ w'.cell? ⟨w.heap.size + 1 + 1, 0, none⟩ = some (cellAt w' ⟨w.heap.size + 1 + 1, 0, none⟩) ∧ w'.frozen? ⟨w.heap.size + 1 + 1, 0, none⟩ = false ∧ w'.cell? ⟨w.heap.size + 1 + 1, 1, none⟩ = some (cellAt w' ⟨w.heap.size + 1 + 1, 1, none⟩) ∧ w'.frozen? ⟨w.heap.size + 1 + 1, 1, none⟩ = false) from fun w' h => ⟨h, (h.blk K0.out (by omega)).cell 0, (h.blk K0.out (by omega)).cell 1, (h.blk K1.out (by omega)).cell 0, (h.blk K1.out (by omega)).cell 1, (h.at_ 0 (by decide)).1, (h.at_ 0 (by decide)).2, (h.at_ 1 (by decide)).1, (h.at_ 1 (by decide)).2⟩)
 have D0 := Lib.hid (show Hd W (w.heap.size + 1 + 1) 24 2 W from Hd.start K2.out)
 refine (H1.out _).mono ?_
 rintro r w1 ⟨rfl, hb⟩
 have D1 := Lib.hid (Hd.call D0.out hb)
 clear hb
 obtain ⟨-, q0, q1, q2, q3, q4, q5, q6, q7⟩ := HO.out _ D1.out
 have z1 := Hd.lt D1.out
 go_wp2_with fail
 refine (H2.out _).mono ?_
 rintro r w2 ⟨rfl, hb⟩
 have D2 := Lib.hid (Hd.call D1.out hb)
 clear hb
 clear q0 q1 q2 q3 q4 q5 q6 q7
 obtain ⟨-, q0, q1, q2, q3, q4, q5, q6, q7⟩ := HO.out _ D2.out
 have z2 := Hd.lt D2.out
 go_wp2_with fail
 refine (H3.out _).mono ?_
 rintro r w3 ⟨rfl, hb⟩
 have D3 := Lib.hid (Hd.call D2.out hb)
 clear hb
 clear q0 q1 q2 q3 q4 q5 q6 q7
 obtain ⟨-, q0, q1, q2, q3, q4, q5, q6, q7⟩ := HO.out _ D3.out
 have z3 := Hd.lt D3.out
 go_wp2_with fail
 refine (H4.out _).mono ?_
 rintro r w4 ⟨rfl, hb⟩
 have D4 := Lib.hid (Hd.call D3.out hb)
 clear hb
 clear q0 q1 q2 q3 q4 q5 q6 q7
 obtain ⟨-, q0, q1, q2, q3, q4, q5, q6, q7⟩ := HO.out _ D4.out
 have z4 := Hd.lt D4.out
 go_wp2_with fail
 refine (H5.out _).mono ?_
 rintro r w5 ⟨rfl, hb⟩
 have D5 := Lib.hid (Hd.call D4.out hb)
 clear hb
 clear q0 q1 q2 q3 q4 q5 q6 q7
 obtain ⟨-, q0, q1, q2, q3, q4, q5, q6, q7⟩ := HO.out _ D5.out
 have z5 := Hd.lt D5.out
 go_wp2_with fail
 (try simp only [Exit.inBlock, Exit.then])
 have hF := (Hd.set (Hd.set D5.out 0 (.float .f64 18442240474082181120)) 1 (.float .f64 9218868437227405312))
 exact bodyPost_ret (resS rfl _ _ (w.heap.size + 1 + 1) (.float .f64 18442240474082181120) (.float .f64 9218868437227405312) rfl (Hd.wrote2 hF)) rfl ⟨rfl, Hd.below hF HB.out (by omega)⟩
theorem rmul_sp (a b : Sp) (w : World) : Calls Tryz.prog 75 #[.agg #[.float .f64 a.lo, .float .f64 a.hi], .agg #[.float .f64 b.lo, .float .f64 b.hi]] w fun r w' => r = .returned (.agg #[.float .f64 (mulS a b).lo, .float .f64 (mulS a b).hi]) ∧ Below w.heap.size w w' := by
 unfold mulS
 by_cases hz : (isZ a || isZ b) = true
 · rw [if_pos hz]
   cases h1 : isZ a
   · rw [h1, Bool.false_or] at hz
     exact rmul_b0 a b h1 hz w
   · exact rmul_a0 a b h1 w
 · rw [if_neg hz]
   have ⟨z1, z2⟩ : isZ a = false ∧ isZ b = false := by cases h1 : isZ a <;> cases h2 : isZ b <;> simp_all
   by_cases hw : (a.wide || b.wide) = false
   · rw [dif_pos hw]
     exact rmul_on a b z1 z2 (or_false' hw).1 (or_false' hw).2 w
   · rw [dif_neg hw]
     cases h1 : a.wide
     · have h2 : b.wide = true := by rw [h1] at hw; revert hw; cases b.wide <;> simp
       exact rmul_bw a b z1 z2 h1 h2 w
     · exact rmul_aw a b z1 z2 h1 w
end Go.Proofs.YtnljfcebmgifdaaGreat
set_option linter.unusedVariables false
set_option linter.unusedSimpArgs false
namespace Go.Proofs.YtnljfcebmgifdaaGreat
open Go.RowKit Fl
end Go.Proofs.YtnljfcebmgifdaaGreat
namespace Go.Proofs.YtnljfcebmgifdaaGreat
open Go.RowKit Fl
theorem gd_lit {a : Nat} (h : (decide (a < 18446744073709551616) && !nan a && decide (a ≠ SGN)) = true) : Gd a := by
 simp only [Bool.and_eq_true, decide_eq_true_eq, Bool.not_eq_true'] at h
 exact ⟨h.1.1, h.1.2, h.2⟩
end Go.Proofs.YtnljfcebmgifdaaGreat
namespace Go.Proofs.YtnljfcebmgifdaaGreat
open Go.RowKit Fl
end Go.Proofs.YtnljfcebmgifdaaGreat
namespace Go.Proofs.YtnljfcebmgifdaaGreat
open Go.RowKit Fl
end Go.Proofs.YtnljfcebmgifdaaGreat
namespace Go.Proofs.YtnljfcebmgifdaaGreat
open Go.RowKit Fl
end Go.Proofs.YtnljfcebmgifdaaGreat
namespace Go.Proofs.YtnljfcebmgifdaaGreat
open Go.RowKit Fl
end Go.Proofs.YtnljfcebmgifdaaGreat
set_option linter.unusedVariables false
set_option linter.unusedSimpArgs false
namespace Go.Proofs.YtnljfcebmgifdaaGreat
open Fl
noncomputable def vCrs (a b c d : Sp) : Sp := subS (mulS a b) (mulS c d)
noncomputable def vCross (a b : V3) : V3 := ⟨vCrs a.y b.z a.z b.y, vCrs a.z b.x a.x b.z, vCrs a.x b.y a.y b.x⟩
/-- The third of a frame's numbers. -/
noncomputable def frA (s : Sp) (n : V3) : Sp := negS (divS (ofS 4607182418800017408) (addS s n.z))
noncomputable def frB (s : Sp) (n : V3) : Sp := mulS (mulS n.x n.y) (frA s n)
noncomputable def frT (s : Sp) (n : V3) : V3 := ⟨addS (ofS 4607182418800017408) (mulS (mulS s (sqrS n.x)) (frA s n)), mulS s (frB s n), negS (mulS s n.x)⟩
noncomputable def frU (s : Sp) (n : V3) : V3 := ⟨frB s n, addS s (mulS (sqrS n.y) (frA s n)), negS n.y⟩
def frS (n : V3) : Sp := if posS (negS n.z) = 1 then ofS 13830554455654793216 else ofS 4607182418800017408
theorem wi_frA {a c : V3} {s : Sp} (h : WiV c a) : Wi (frA s c) (frA s a) := wi_neg (wi_div (Wi.refl _) (wi_add (Wi.refl s) h.z))
theorem wi_frB {a c : V3} {s : Sp} (h : WiV c a) : Wi (frB s c) (frB s a) := wi_mul (wi_mul h.x h.y) (wi_frA h)
theorem WiV.frT {a c : V3} {s : Sp} (h : WiV c a) : WiV (frT s c) (frT s a) :=
 ⟨wi_add (Wi.refl _) (wi_mul (wi_mul (Wi.refl s) (wi_sqr h.x)) (wi_frA h)), wi_mul (Wi.refl s) (wi_frB h), wi_neg (wi_mul (Wi.refl s) h.x)⟩
theorem WiV.frU {a c : V3} {s : Sp} (h : WiV c a) : WiV (frU s c) (frU s a) :=
 ⟨wi_frB h, wi_add (Wi.refl s) (wi_mul (wi_sqr h.y) (wi_frA h)), wi_neg h.y⟩
theorem InS.mid {p q v : Rat} {s : Sp} (h : InS p s) (k : InS q s) (h1 : p ≤ v) (h2 : v ≤ q) : InS v s :=
 ⟨h.lo.imp id fun l => Rat.le_trans l h1, k.hi.imp id fun l => Rat.le_trans h2 l⟩
end Go.Proofs.YtnljfcebmgifdaaGreat
set_option linter.unusedVariables false
set_option linter.unusedSimpArgs false
namespace Go.Proofs.YtnljfcebmgifdaaGreat
open Fl
theorem Z_one : Z 4607182418800017408 = ((2 ^ BB : Nat) : Int) := by rw [BB_eq]; decide +kernel
theorem fv_one : fv 4607182418800017408 = 1 := by
 unfold fv
 rw [Z_one]
 show ((((2 ^ BB : Nat) : Int) : Rat)) / UU = 1
 rw [show ((((2 ^ BB : Nat) : Int) : Rat)) = UU from rfl]
 rw [Rat.div_def]; exact Rat.mul_inv_cancel _ UU_ne
theorem Z_mone : Z 13830554455654793216 = -((2 ^ BB : Nat) : Int) := by rw [BB_eq]; decide +kernel
theorem fv_mone : fv 13830554455654793216 = -1 := by
 have h : fv 13830554455654793216 = -fv 4607182418800017408 := by
   unfold fv
   rw [Z_mone, Z_one, Rat.intCast_neg, Rat.div_def, Rat.div_def, Rat.neg_mul]
 rw [h, fv_one]
theorem in_one : InS 1 (ofS 4607182418800017408) := by have := in_of 4607182418800017408; rw [fv_one] at this; exact this
theorem in_mone : InS (-1) (ofS 13830554455654793216) := by have := in_of 13830554455654793216; rw [fv_mone] at this; exact this
theorem rat_inv {y d : Rat} (h : d ≠ 0) (hy : y = 1 / d) : y * d = 1 := by
 rw [hy, Rat.div_def, Rat.one_mul]; exact Rat.inv_mul_cancel _ h
/-- The sign that a frame takes: with the third number it is away from 0. -/
theorem frS_in {n : V3} {x y z : Rat} (h : InV x y z n) (hq : posS (negS n.z) ≠ 2) : ∃ s : Rat, InS s (frS n) ∧ s * s = 1 ∧ 0 < s * (s + z) := by
 unfold frS
 have k := in_neg h.z
 by_cases e : posS (negS n.z) = 1
 · rw [if_pos e]
   refine ⟨-1, in_mone, by grind, ?_⟩
   have e' : 0 < Z (negS n.z).lo := by
     unfold posS at e
     by_cases f : 0 < Z (negS n.z).lo
     · exact f
     · rw [if_neg f] at e; split at e <;> omega
   have : 0 < -z := by
     rcases k.lo with f | f
     · rw [f, Z_NI] at e'; omega
     · have := fv_pos.2 e'; grind
   grind
 · rw [if_neg e]
   refine ⟨1, in_one, by grind, ?_⟩
   have e' : Z (negS n.z).hi ≤ 0 := by
     unfold posS at e hq
     by_cases f : 0 < Z (negS n.z).lo
     · rw [if_pos f] at e; omega
     · rw [if_neg f] at hq
       by_cases g : Z (negS n.z).hi ≤ 0
       · exact g
       · rw [if_neg g] at hq; omega
   have : -z ≤ 0 := by
     rcases k.hi with f | f
     · rw [f, Z_PI] at e'; have := rv_inf_pos; omega
     · exact Rat.le_trans f (fv_nonpos.2 e')
   grind
theorem frA_in {n : V3} {s : Sp} {t z : Rat} (hs : InS t s) (hz : InS z n.z) : InS (-(1 / (t + z))) (frA s n) := in_neg (in_div in_one (in_add hs hz))
theorem frT_in {n : V3} {s : Sp} {x y z t A : Rat} (h : InV x y z n) (hs : InS t s) (hA : InS A (frA s n)) : InV (1 + t * (x * x) * A) (t * (x * y * A)) (-(t * x)) (frT s n) :=
 ⟨in_add in_one (in_mul (in_mul hs (in_sqr h.x)) hA), in_mul hs (in_mul (in_mul h.x h.y) hA), in_neg (in_mul hs h.x)⟩
theorem frU_in {n : V3} {s : Sp} {x y z t A : Rat} (h : InV x y z n) (hs : InS t s) (hA : InS A (frA s n)) : InV (x * y * A) (t + y * y * A) (-y) (frU s n) :=
 ⟨in_mul (in_mul h.x h.y) hA, in_add hs (in_mul (in_sqr h.y) hA), in_neg h.y⟩
theorem fr_tn {x y z s A : Rat} (hs : s * s = 1) (hA : A * (s + z) = -1) : (1 + s * (x * x) * A) * x + s * (x * y * A) * y + -(s * x) * z = x * (s * A) * (x * x + y * y + z * z - 1) := by grind
theorem fr_un {x y z s A : Rat} (hs : s * s = 1) (hA : A * (s + z) = -1) : x * y * A * x + (s + y * y * A) * y + -y * z = y * A * (x * x + y * y + z * z - 1) := by grind
theorem fr_tu {x y z s A : Rat} (hs : s * s = 1) (hA : A * (s + z) = -1) : (1 + s * (x * x) * A) * (x * y * A) + s * (x * y * A) * (s + y * y * A) + -(s * x) * -y = x * y * s * (A * A) * (x * x + y * y + z * z - 1) := by grind
theorem fr_tt {x y z s A : Rat} (hs : s * s = 1) (hA : A * (s + z) = -1) : (1 + s * (x * x) * A) * (1 + s * (x * x) * A) + s * (x * y * A) * (s * (x * y * A)) + -(s * x) * -(s * x) = 1 + x * x * (A * A) * (x * x + y * y + z * z - 1) := by grind
theorem fr_uu {x y z s A : Rat} (hs : s * s = 1) (hA : A * (s + z) = -1) : x * y * A * (x * y * A) + (s + y * y * A) * (s + y * y * A) + -y * -y = 1 + y * y * (A * A) * (x * x + y * y + z * z - 1) := by grind
theorem zero_mid {d : Sp} {k m1 m2 : Rat} (h1 : InS (k * m1) d) (h2 : InS (k * m2) d) (l1 : m1 ≤ 0) (l2 : 0 ≤ m2) : InS 0 d := by
 rcases (Rat.le_total : (0 : Rat) ≤ k ∨ k ≤ 0) with e | e
 · exact h1.mid h2 (by have := Rat.mul_nonneg e (show (0 : Rat) ≤ -m1 by grind); grind) (Rat.mul_nonneg e l2)
 · have e' : (0 : Rat) ≤ -k := by grind
   exact h2.mid h1 (by have := Rat.mul_nonneg e' l2; grind) (by have := Rat.mul_nonneg e' (show (0 : Rat) ≤ -m1 by grind); grind)
/-- What a number of the root makes of a frame. -/
structure Fr (n : V3) (s : Rat) (v0 v1 : Rat) (l N A : Rat) : Prop where
 tn : InS (v0 * (l * (s * A) * (N - 1))) (vDot (frT (frS n) n) n)
 un : InS ((s * v1) * (l * (s * A) * (N - 1))) (vDot (frU (frS n) n) n)
 tu : InS ((v0 * v1 * s) * (l * l * (A * A) * (N - 1))) (vDot (frT (frS n) n) (frU (frS n) n))
 tt : InS (1 + v0 * v0 * (l * l * (A * A) * (N - 1))) (vSqr (frT (frS n) n))
 uu : InS (1 + v1 * v1 * (l * l * (A * A) * (N - 1))) (vSqr (frU (frS n) n))
 nn : InS N (vSqr n)
theorem fr_at {n : V3} {s v0 v1 v2 l A : Rat} (h : InV (v0 * l) (v1 * l) (v2 * l) n) (hs : InS s (frS n)) (h1 : s * s = 1) (hA : A * (s + v2 * l) = -1) (iA : InS A (frA (frS n) n)) :
   Fr n s v0 v1 l ((v0 * v0 + v1 * v1 + v2 * v2) * (l * l)) A := by
 have hn := h.sqr
 have ht := frT_in h hs iA
 have hu := frU_in h hs iA
 have eN : v0 * l * (v0 * l) + v1 * l * (v1 * l) + v2 * l * (v2 * l) = (v0 * v0 + v1 * v1 + v2 * v2) * (l * l) := by grind
 have tn := ht.dot h
 rw [fr_tn h1 hA, eN] at tn
 have un := hu.dot h
 rw [fr_un h1 hA, eN] at un
 have tu := ht.dot hu
 rw [fr_tu h1 hA, eN] at tu
 have tt := ht.sqr
 rw [fr_tt h1 hA, eN] at tt
 have uu := hu.sqr
 rw [fr_uu h1 hA, eN] at uu
 rw [eN] at hn
 generalize (v0 * v0 + v1 * v1 + v2 * v2) * (l * l) = N at *
 refine ⟨?_, ?_, ?_, ?_, ?_, hn⟩
 · rw [show v0 * (l * (s * A) * (N - 1)) = v0 * l * (s * A) * (N - 1) by grind]; exact tn
 · rw [show (s * v1) * (l * (s * A) * (N - 1)) = (s * s) * (v1 * l * A * (N - 1)) by grind, h1, Rat.one_mul]; exact un
 · rw [show (v0 * v1 * s) * (l * l * (A * A) * (N - 1)) = v0 * l * (v1 * l) * s * (A * A) * (N - 1) by grind]; exact tu
 · rw [show v0 * v0 * (l * l * (A * A) * (N - 1)) = v0 * l * (v0 * l) * (A * A) * (N - 1) by grind]; exact tt
 · rw [show v1 * v1 * (l * l * (A * A) * (N - 1)) = v1 * l * (v1 * l) * (A * A) * (N - 1) by grind]; exact uu
theorem neg_of {s A z : Rat} (h1 : s * s = 1) (h0 : 0 < s * (s + z)) (hA : A * (s + z) = -1) : s * A ≤ 0 := by
 apply Classical.byContradiction
 intro k
 have k' : 0 < s * A := by grind
 have := Rat.mul_pos k' h0
 have e : s * A * (s * (s + z)) = (s * s) * (A * (s + z)) := by grind
 rw [e, h1, hA] at this
 grind
/-- The frame of a unit vector stands upright. -/
structure Up (n : V3) : Prop where
 tn : InS 0 (vDot (frT (frS n) n) n)
 un : InS 0 (vDot (frU (frS n) n) n)
 tu : InS 0 (vDot (frT (frS n) n) (frU (frS n) n))
 tt : InS 1 (vSqr (frT (frS n) n))
 uu : InS 1 (vSqr (frU (frS n) n))
 nn : InS 1 (vSqr n)
theorem upright {n : V3} {v0 v1 v2 a b : Rat} (ia : InV (v0 * a) (v1 * a) (v2 * a) n) (ib : InV (v0 * b) (v1 * b) (v2 * b) n) (ha : 0 < a) (hb : 0 < b)
   (ka : 1 ≤ (v0 * v0 + v1 * v1 + v2 * v2) * (a * a)) (kb : (v0 * v0 + v1 * v1 + v2 * v2) * (b * b) ≤ 1) (hq : posS (negS n.z) ≠ 2) : Up n := by
 obtain ⟨s, hs, s1, sa⟩ := frS_in ia hq
 obtain ⟨t, ht, t1, tb⟩ := frS_in ib hq
 have sb : 0 < s * (s + v2 * b) := by
   have e : t = s ∨ t = -s := by
     have : (t - s) * (t + s) = 0 := by grind
     rcases Rat.mul_eq_zero.1 this with k | k
     · left; grind
     · right; grind
   rcases e with rfl | rfl
   · exact tb
   · exfalso
     unfold frS at hs ht
     by_cases e : posS (negS n.z) = 1
     · rw [if_pos e] at hs ht
       have f1 := hs.hi
       have g1 := ht.hi
       have e1 : (ofS 13830554455654793216).hi = 13830554455654793216 := by decide +kernel
       rw [e1, fv_mone] at f1 g1
       rcases f1 with f | f
       · exact absurd f (by decide)
       · rcases g1 with g | g
         · exact absurd g (by decide)
         · grind
     · rw [if_neg e] at hs ht
       have f1 := hs.lo
       have g1 := ht.lo
       have e1 : (ofS 4607182418800017408).lo = 4607182418800017408 := by decide +kernel
       rw [e1, fv_one] at f1 g1
       rcases f1 with f | f
       · exact absurd f (by decide)
       · rcases g1 with g | g
         · exact absurd g (by decide)
         · grind
 have na : s + v2 * a ≠ 0 := by intro e; rw [e] at sa; grind
 have nb : s + v2 * b ≠ 0 := by intro e; rw [e] at sb; grind
 obtain ⟨A, hA⟩ : ∃ A, A = -(1 / (s + v2 * a)) := ⟨_, rfl⟩
 obtain ⟨B, hB⟩ : ∃ B, B = -(1 / (s + v2 * b)) := ⟨_, rfl⟩
 have iA := frA_in (n := n) hs ia.z
 have iB := frA_in (n := n) hs ib.z
 rw [← hA] at iA
 rw [← hB] at iB
 have eA : A * (s + v2 * a) = -1 := by have := rat_inv na rfl; rw [hA]; grind
 have eB : B * (s + v2 * b) = -1 := by have := rat_inv nb rfl; rw [hB]; grind
 obtain ⟨atn, aun, atu, att, auu, ann⟩ := fr_at ia hs s1 eA iA
 obtain ⟨btn, bun, btu, btt, buu, bnn⟩ := fr_at ib hs s1 eB iB
 have ma := neg_of s1 sa eA
 have mb := neg_of s1 sb eB
 generalize (v0 * v0 + v1 * v1 + v2 * v2) * (a * a) = N at *
 generalize (v0 * v0 + v1 * v1 + v2 * v2) * (b * b) = M at *
 have p1 : a * (s * A) * (N - 1) ≤ 0 := by
   have := Rat.mul_nonneg (Rat.mul_nonneg (Rat.le_of_lt ha) (show (0 : Rat) ≤ -(s * A) by grind)) (show (0 : Rat) ≤ N - 1 by grind)
   grind
 have p2 : 0 ≤ b * (s * B) * (M - 1) := by
   have := Rat.mul_nonneg (Rat.mul_nonneg (Rat.le_of_lt hb) (show (0 : Rat) ≤ -(s * B) by grind)) (show (0 : Rat) ≤ 1 - M by grind)
   grind
 have q1 : 0 ≤ a * a * (A * A) * (N - 1) := Rat.mul_nonneg (Rat.mul_nonneg (sq_nonneg a) (sq_nonneg A)) (by grind)
 have q2 : b * b * (B * B) * (M - 1) ≤ 0 := by
   have := Rat.mul_nonneg (Rat.mul_nonneg (sq_nonneg b) (sq_nonneg B)) (show (0 : Rat) ≤ 1 - M by grind)
   grind
 generalize a * (s * A) * (N - 1) = m1 at *
 generalize b * (s * B) * (M - 1) = m2 at *
 generalize a * a * (A * A) * (N - 1) = r1 at *
 generalize b * b * (B * B) * (M - 1) = r2 at *
 refine ⟨zero_mid atn btn p1 p2, zero_mid aun bun p1 p2, zero_mid btu atu q2 q1, btt.mid att ?_ ?_, buu.mid auu ?_ ?_, bnn.mid ann kb ka⟩
 · have := Rat.mul_nonneg (sq_nonneg v0) (show (0 : Rat) ≤ -r2 by grind); grind
 · have := Rat.mul_nonneg (sq_nonneg v0) q1; grind
 · have := Rat.mul_nonneg (sq_nonneg v1) (show (0 : Rat) ≤ -r2 by grind); grind
 · have := Rat.mul_nonneg (sq_nonneg v1) q1; grind
end Go.Proofs.YtnljfcebmgifdaaGreat
set_option linter.unusedVariables false
set_option linter.unusedSimpArgs false
namespace Go.Proofs.YtnljfcebmgifdaaGreat
open Go.RowKit Fl
section
variable {fn : Func} {p q r : Tmp} {ta tb : TypeId}
end
theorem tu {P : Program} {ops : Array Oper} {Q : Exit → Act → World → Prop} {md : Region.Mode} {S : World → Prop} {oi : Oper} {fuel : Nat} {listed : Array Bool} {a : Act} {w : World} (i : Nat) (l' : Array Bool) (a' : Act)
   (hi : ops[i]? = some oi) (hk : tkOk md ops listed i l' = true) (hQ : ∀ c a w, Q (.panic c) (a.put oi.dst undef) w → Q (.panic c) a w) (hw : Region.wanted oi (yielded ops a.tmps) = false)
   (ha : a.put oi.dst undef = a') (hS : S w) (h : wpAnyH P md ops Q S fuel l' a' w) : wpAnyH P md ops Q S (fuel + 1) listed a w := by
 unfold tkOk at hk
 simp only [Bool.and_eq_true, decide_eq_true_eq] at hk
 obtain ⟨⟨⟨h1, h2⟩, h3⟩, rfl⟩ := hk
 subst ha
 exact wpAnyH_take hi h1 h2 h3 hQ (Or.inr ⟨hw, rfl⟩) hS h
end Go.Proofs.YtnljfcebmgifdaaGreat
set_option linter.unusedVariables false
set_option linter.unusedSimpArgs false
namespace Go.Proofs.YtnljfcebmgifdaaGreat
open Go.RowKit Fl
theorem ofV_any (t0 t1 t2 : Nat) (h0 : t0 < 18446744073709551616) (h1 : t1 < 18446744073709551616) (h2 : t2 < 18446744073709551616) (w : World) : Calls Tryz.prog 57 #[Value.agg #[.float .f64 t0, .float .f64 t1, .float .f64 t2]] w fun r w' => r = .returned (vval (vOf t0 t1 t2)) ∧ Below w.heap.size w w' := by
 have C0 := Lib.hid (fun w => of_sp t0 h0 w)
 obtain ⟨p0, hp0⟩ : ∃ z_, ofS t0 = z_ := ⟨_, rfl⟩
 rw [hp0] at C0
 have C1 := Lib.hid (fun w => of_sp t1 h1 w)
 obtain ⟨p1, hp1⟩ : ∃ z_, ofS t1 = z_ := ⟨_, rfl⟩
 rw [hp1] at C1
 have C2 := Lib.hid (fun w => of_sp t2 h2 w)
 obtain ⟨p2, hp2⟩ : ∃ z_, ofS t2 = z_ := ⟨_, rfl⟩
 rw [hp2] at C2
 have hT : vOf t0 t1 t2 = (⟨p0, p1, p2⟩ : V3) := by
   subst hp0 hp1 hp2; rfl
 rw [hT]
 clear hT
 clear hp0 hp1 hp2
 go_enter Tryz.func57, Tryz.ntmps57
 go_wp2_with fail
 obtain ⟨W, hW, K0, K1, hB, hz⟩ := bx2 w 62 26 #[.float .f64 t0, .float .f64 t1, .float .f64 t2] #[.float .f64 0, .float .f64 0, .float .f64 0, .float .f64 0, .float .f64 0, .float .f64 0]
 rw [← hW]
 have K0 := Lib.hid K0
 have K1 := Lib.hid K1
 have HB := Lib.hid hB
 clear hW hB hz
 have D1 := dr W
 refine wp_region_held (S := (fun w' => True ∧ CellsL w' (w.heap.size) 0 [.float .f64 t0, .float .f64 t1, .float .f64 t2])) (by kernel_rfl) ?_
 change wpAnyH _ _ _ _ _ _ _ _ (World.drew _)
 obtain ⟨wd2, hwd⟩ : ∃ x, x = World.drew W := ⟨_, rfl⟩
 rw [← hwd]
 have D3 := Lib.hid (hwd ▸ Below.drew D1.out : Below W.heap.size W wd2)
 clear D1 hwd
 have hS4 : True ∧ CellsL wd2 (w.heap.size) 0 [.float .f64 t0, .float .f64 t1, .float .f64 t2] := ⟨trivial, (kb K0 D3).cellsL 0 [.float .f64 t0, .float .f64 t1, .float .f64 t2] rfl⟩
 refine tkq 0 (bm 11 1) hS4 ?_
 refine tke 1 (bm 11 3) hS4 ?_
 refine tkq 3 (bm 11 11) hS4 ?_
 refine tke 4 (bm 11 27) hS4 ?_
 refine tkq 6 (bm 11 91) hS4 ?_
 refine tke 7 (bm 11 219) hS4 ?_
 refine wpAnyH_oneN (i := 2) (l' := bm 11 223) rfl (by kernel_rfl) (by kernel_rfl) (by kernel_rfl) (fun K hK => ?_)
 go_simp
 go_at_call 66
 refine (C0.out _).mono ?_
 rintro r w11 ⟨rfl, hb⟩
 dsimp only
 have D12 := ds D3 hb
 clear D3
 clear hb
 have hS13 : True ∧ CellsL w11 (w.heap.size) 0 [.float .f64 t0, .float .f64 t1, .float .f64 t2] := ⟨trivial, (kb K0 D12).cellsL 0 [.float .f64 t0, .float .f64 t1, .float .f64 t2] rfl⟩
 refine hK _ _ hS13 ?_
 clear hK K hS4
 refine wpAnyH_oneN (i := 5) (l' := bm 11 255) rfl (by kernel_rfl) (by kernel_rfl) (by kernel_rfl) (fun K hK => ?_)
 go_simp
 go_at_call 66
 refine (C1.out _).mono ?_
 rintro r w14 ⟨rfl, hb⟩
 dsimp only
 have D15 := ds D12 hb
 clear D12
 clear hb
 have hS16 : True ∧ CellsL w14 (w.heap.size) 0 [.float .f64 t0, .float .f64 t1, .float .f64 t2] := ⟨trivial, (kb K0 D15).cellsL 0 [.float .f64 t0, .float .f64 t1, .float .f64 t2] rfl⟩
 refine hK _ _ hS16 ?_
 clear hK K hS13
 refine wpAnyH_oneN (i := 8) (l' := bm 11 511) rfl (by kernel_rfl) (by kernel_rfl) (by kernel_rfl) (fun K hK => ?_)
 go_simp
 go_at_call 66
 refine (C2.out _).mono ?_
 rintro r w17 ⟨rfl, hb⟩
 dsimp only
 have D18 := ds D15 hb
 clear D15
 clear hb
 have hS19 : True ∧ CellsL w17 (w.heap.size) 0 [.float .f64 t0, .float .f64 t1, .float .f64 t2] := ⟨trivial, (kb K0 D18).cellsL 0 [.float .f64 t0, .float .f64 t1, .float .f64 t2] rfl⟩
 refine hK _ _ hS19 ?_
 clear hK K hS16
 refine tkq 9 (bm 11 1023) hS19 ?_
 refine wpAnyH_oneN (i := 10) (l' := bm 11 2047) rfl (by kernel_rfl) (by kernel_rfl) (by kernel_rfl) (fun K hK => ?_)
 have f23 := (kb K1 D18)
 obtain ⟨V21, hV22⟩ : ∃ V, World.setRow w17 (w.heap.size + 1) #[.float .f64 p0.lo, .float .f64 p0.hi, .float .f64 p1.lo, .float .f64 p1.hi, .float .f64 p2.lo, .float .f64 p2.hi] = V := ⟨_, rfl⟩
 have K24 := kfr hV22 K0 D18 (by omega)
 have K25 := ksr hV22 K1 D18
 have HB26 := hbr hV22 HB D18 (by omega)
 have D27 := dr V21
 clear K0 K1 HB D18
 refine wp_store_row 26 _ _ rfl (w.heap.size + 1) #[.float .f64 p0.lo, .float .f64 p0.hi, .float .f64 p1.lo, .float .f64 p1.hi, .float .f64 p2.lo, .float .f64 p2.hi] rfl rfl _ _ f23 (by rw [info_V3]; rfl) rfl (by kernel_rfl) ?_
 rw [hV22]
 go_simp
 clear hV22 f23
 have hS28 : True ∧ CellsL V21 (w.heap.size) 0 [.float .f64 t0, .float .f64 t1, .float .f64 t2] := ⟨trivial, (kb K24 D27).cellsL 0 [.float .f64 t0, .float .f64 t1, .float .f64 t2] rfl⟩
 refine hK _ _ hS28 ?_
 clear hK K hS19
 refine wpAnyH_done (by kernel_rfl) ?_ _
 clear hS28
 go_wp2_with fail
 (try simp only [Exit.inBlock, Exit.then])
 exact bodyPost_ret (res_c rfl _ _ (w.heap.size + 1) #[.float .f64 p0.lo, .float .f64 p0.hi, .float .f64 p1.lo, .float .f64 p1.hi, .float .f64 p2.lo, .float .f64 p2.hi] rfl (kb K25 D27) (by rw [info_V3]; rfl) Tryz.underlying26 rfl) rfl ⟨rfl, below_step HB26.out D27.out⟩
theorem crossV_any (a b : V3) (w : World) : Calls Tryz.prog 44 #[Value.agg #[.float .f64 a.x.lo, .float .f64 a.x.hi, .float .f64 a.y.lo, .float .f64 a.y.hi, .float .f64 a.z.lo, .float .f64 a.z.hi], Value.agg #[.float .f64 b.x.lo, .float .f64 b.x.hi, .float .f64 b.y.lo, .float .f64 b.y.hi, .float .f64 b.z.lo, .float .f64 b.z.hi]] w fun r w' => r = .returned (vval (vCross a b)) ∧ Below w.heap.size w w' := by
 have C0 := Lib.hid (fun w => mul_sp a.y b.z w)
 obtain ⟨p0, hp0⟩ : ∃ z_, mulS a.y b.z = z_ := ⟨_, rfl⟩
 rw [hp0] at C0
 have C1 := Lib.hid (fun w => mul_sp a.z b.y w)
 obtain ⟨p1, hp1⟩ : ∃ z_, mulS a.z b.y = z_ := ⟨_, rfl⟩
 rw [hp1] at C1
 have C2 := Lib.hid (fun w => sub_sp p0 p1 w)
 obtain ⟨p2, hp2⟩ : ∃ z_, subS p0 p1 = z_ := ⟨_, rfl⟩
 rw [hp2] at C2
 have C3 := Lib.hid (fun w => mul_sp a.z b.x w)
 obtain ⟨p3, hp3⟩ : ∃ z_, mulS a.z b.x = z_ := ⟨_, rfl⟩
 rw [hp3] at C3
 have C4 := Lib.hid (fun w => mul_sp a.x b.z w)
 obtain ⟨p4, hp4⟩ : ∃ z_, mulS a.x b.z = z_ := ⟨_, rfl⟩
 rw [hp4] at C4
 have C5 := Lib.hid (fun w => sub_sp p3 p4 w)
 obtain ⟨p5, hp5⟩ : ∃ z_, subS p3 p4 = z_ := ⟨_, rfl⟩
 rw [hp5] at C5
 have C6 := Lib.hid (fun w => mul_sp a.x b.y w)
 obtain ⟨p6, hp6⟩ : ∃ z_, mulS a.x b.y = z_ := ⟨_, rfl⟩
 rw [hp6] at C6
 have C7 := Lib.hid (fun w => mul_sp a.y b.x w)
 obtain ⟨p7, hp7⟩ : ∃ z_, mulS a.y b.x = z_ := ⟨_, rfl⟩
 rw [hp7] at C7
 have C8 := Lib.hid (fun w => sub_sp p6 p7 w)
 obtain ⟨p8, hp8⟩ : ∃ z_, subS p6 p7 = z_ := ⟨_, rfl⟩
 rw [hp8] at C8
 have hT : vCross a b = (⟨p2, p5, p8⟩ : V3) := by
   subst hp0 hp1 hp2 hp3 hp4 hp5 hp6 hp7 hp8; rfl
 rw [hT]
 clear hT
 clear hp0 hp1 hp2 hp3 hp4 hp5 hp6 hp7 hp8
 go_enter Tryz.func44, Tryz.ntmps44
 go_wp2_with fail
 obtain ⟨W, hW, K0, K1, K2, K3, hB, hz⟩ := bx4 w 26 26 26 26 (vc a) (vc b) #[.float .f64 0, .float .f64 0, .float .f64 0, .float .f64 0, .float .f64 0, .float .f64 0] #[.float .f64 0, .float .f64 0, .float .f64 0, .float .f64 0, .float .f64 0, .float .f64 0]
 rw [← hW]
 have K0 := Lib.hid K0
 have K1 := Lib.hid K1
 have K2 := Lib.hid K2
 have K3 := Lib.hid K3
 have HB := Lib.hid hB
 clear hW hB hz
 have D1 := dr W
 go_wp2_with fail
 refine wp_loop_rounds 4 ?_
 rw [rounds_succ]
 go_wp2_with fail
 refine wp_region_held (S := (fun w' => True ∧ CellsL w' (w.heap.size) 2 [.float .f64 a.y.lo, .float .f64 a.y.hi, .float .f64 a.z.lo, .float .f64 a.z.hi] ∧ CellsL w' (w.heap.size + 1) 2 [.float .f64 b.y.lo, .float .f64 b.y.hi, .float .f64 b.z.lo, .float .f64 b.z.hi])) (by kernel_rfl) ?_
 change wpAnyH _ _ _ _ _ _ _ _ (World.drew _)
 obtain ⟨wd2, hwd⟩ : ∃ x, x = World.drew W := ⟨_, rfl⟩
 rw [← hwd]
 have D3 := Lib.hid (hwd ▸ Below.drew D1.out : Below W.heap.size W wd2)
 clear D1 hwd
 have hS4 : True ∧ CellsL wd2 (w.heap.size) 2 [.float .f64 a.y.lo, .float .f64 a.y.hi, .float .f64 a.z.lo, .float .f64 a.z.hi] ∧ CellsL wd2 (w.heap.size + 1) 2 [.float .f64 b.y.lo, .float .f64 b.y.hi, .float .f64 b.z.lo, .float .f64 b.z.hi] := ⟨trivial, (kb K0 D3).cellsL 2 [.float .f64 a.y.lo, .float .f64 a.y.hi, .float .f64 a.z.lo, .float .f64 a.z.hi] rfl, (kb K1 D3).cellsL 2 [.float .f64 b.y.lo, .float .f64 b.y.hi, .float .f64 b.z.lo, .float .f64 b.z.hi] rfl⟩
 refine tkq 0 (bm 18 1) hS4 ?_
 refine tkq 1 (bm 18 3) hS4 ?_
 refine tkq 2 (bm 18 7) hS4 ?_
 refine tke 3 (bm 18 15) hS4 ?_
 refine tkq 4 (bm 18 31) hS4 ?_
 refine tkq 5 (bm 18 63) hS4 ?_
 refine tke 6 (bm 18 127) hS4 ?_
 refine tkq 8 (bm 18 383) hS4 ?_
 refine tkq 9 (bm 18 895) hS4 ?_
 refine tke 10 (bm 18 1919) hS4 ?_
 refine tkq 11 (bm 18 3967) hS4 ?_
 refine tkq 12 (bm 18 8063) hS4 ?_
 refine tke 13 (bm 18 16255) hS4 ?_
 refine wpAnyH_oneN (i := 7) (l' := bm 18 16383) rfl (by kernel_rfl) (by kernel_rfl) (by kernel_rfl) (fun K hK => ?_)
 go_simp
 go_at_call 68
 refine (C0.out _).mono ?_
 rintro r w18 ⟨rfl, hb⟩
 dsimp only
 have D19 := ds D3 hb
 clear D3
 clear hb
 have hS20 : True ∧ CellsL w18 (w.heap.size) 2 [.float .f64 a.y.lo, .float .f64 a.y.hi, .float .f64 a.z.lo, .float .f64 a.z.hi] ∧ CellsL w18 (w.heap.size + 1) 2 [.float .f64 b.y.lo, .float .f64 b.y.hi, .float .f64 b.z.lo, .float .f64 b.z.hi] := ⟨trivial, (kb K0 D19).cellsL 2 [.float .f64 a.y.lo, .float .f64 a.y.hi, .float .f64 a.z.lo, .float .f64 a.z.hi] rfl, (kb K1 D19).cellsL 2 [.float .f64 b.y.lo, .float .f64 b.y.hi, .float .f64 b.z.lo, .float .f64 b.z.hi] rfl⟩
 refine hK _ _ hS20 ?_
 clear hK K hS4
 refine wpAnyH_oneN (i := 14) (l' := bm 18 32767) rfl (by kernel_rfl) (by kernel_rfl) (by kernel_rfl) (fun K hK => ?_)
 go_simp
 go_at_call 68
 refine (C1.out _).mono ?_
 rintro r w21 ⟨rfl, hb⟩
 dsimp only
 have D22 := ds D19 hb
 clear D19
 clear hb
 have hS23 : True ∧ CellsL w21 (w.heap.size) 2 [.float .f64 a.y.lo, .float .f64 a.y.hi, .float .f64 a.z.lo, .float .f64 a.z.hi] ∧ CellsL w21 (w.heap.size + 1) 2 [.float .f64 b.y.lo, .float .f64 b.y.hi, .float .f64 b.z.lo, .float .f64 b.z.hi] := ⟨trivial, (kb K0 D22).cellsL 2 [.float .f64 a.y.lo, .float .f64 a.y.hi, .float .f64 a.z.lo, .float .f64 a.z.hi] rfl, (kb K1 D22).cellsL 2 [.float .f64 b.y.lo, .float .f64 b.y.hi, .float .f64 b.z.lo, .float .f64 b.z.hi] rfl⟩
 refine hK _ _ hS23 ?_
 clear hK K hS20
 refine wpAnyH_oneN (i := 15) (l' := bm 18 65535) rfl (by kernel_rfl) (by kernel_rfl) (by kernel_rfl) (fun K hK => ?_)
 go_simp
 go_at_call 83
 refine (C2.out _).mono ?_
 rintro r w24 ⟨rfl, hb⟩
 dsimp only
 have D25 := ds D22 hb
 clear D22
 clear hb
 have hS26 : True ∧ CellsL w24 (w.heap.size) 2 [.float .f64 a.y.lo, .float .f64 a.y.hi, .float .f64 a.z.lo, .float .f64 a.z.hi] ∧ CellsL w24 (w.heap.size + 1) 2 [.float .f64 b.y.lo, .float .f64 b.y.hi, .float .f64 b.z.lo, .float .f64 b.z.hi] := ⟨trivial, (kb K0 D25).cellsL 2 [.float .f64 a.y.lo, .float .f64 a.y.hi, .float .f64 a.z.lo, .float .f64 a.z.hi] rfl, (kb K1 D25).cellsL 2 [.float .f64 b.y.lo, .float .f64 b.y.hi, .float .f64 b.z.lo, .float .f64 b.z.hi] rfl⟩
 refine hK _ _ hS26 ?_
 clear hK K hS23
 refine tkq 16 (bm 18 131071) hS26 ?_
 refine wpAnyH_oneN (i := 17) (l' := bm 18 262143) rfl (by kernel_rfl) (by kernel_rfl) (by kernel_rfl) (fun K hK => ?_)
 have f30 := (kb K3 D25).cellsL 0 [.float .f64 0, .float .f64 0] rfl
 dsimp only [CellsL, al, vl, Nat.reduceAdd] at f30
 have u31 := (kb K3 D25).unfrozen
 obtain ⟨V28, hV29⟩ : ∃ V, setCells w24 (w.heap.size + 1 + 1 + 1) 0 [.float .f64 p2.lo, .float .f64 p2.hi] = V := ⟨_, rfl⟩
 have hv32 := hV29
 simp only [setCells, Nat.reduceAdd] at hv32
 have K33 := kf hV29 K0 D25 (by omega)
 have K34 := kf hV29 K1 D25 (by omega)
 have K35 := kf hV29 K2 D25 (by omega)
 have K36 := Lib.hid (show Blk V28 (w.heap.size + 1 + 1 + 1) 26 #[.float .f64 p2.lo, .float .f64 p2.hi, .float .f64 0, .float .f64 0, .float .f64 0, .float .f64 0] from (ks hV29 K3 D25).out)
 have HB37 := hbs hV29 HB D25 (by omega)
 have D38 := dr V28
 clear K0 K1 K2 K3 HB D25
 go_simp
 clear hV29 f30 u31 hv32
 have hS39 : True ∧ CellsL V28 (w.heap.size) 2 [.float .f64 a.y.lo, .float .f64 a.y.hi, .float .f64 a.z.lo, .float .f64 a.z.hi] ∧ CellsL V28 (w.heap.size + 1) 2 [.float .f64 b.y.lo, .float .f64 b.y.hi, .float .f64 b.z.lo, .float .f64 b.z.hi] := ⟨trivial, (kb K33 D38).cellsL 2 [.float .f64 a.y.lo, .float .f64 a.y.hi, .float .f64 a.z.lo, .float .f64 a.z.hi] rfl, (kb K34 D38).cellsL 2 [.float .f64 b.y.lo, .float .f64 b.y.hi, .float .f64 b.z.lo, .float .f64 b.z.hi] rfl⟩
 refine hK _ _ hS39 ?_
 clear hK K hS26
 refine wpAnyH_done (by kernel_rfl) ?_ _
 clear hS39
 go_wp2_with fail
 rw [rounds_succ]
 go_wp2_with fail
 refine wp_region_held (S := (fun w' => True ∧ CellsL w' (w.heap.size) 0 [.float .f64 a.x.lo, .float .f64 a.x.hi] ∧ CellsL w' (w.heap.size) 4 [.float .f64 a.z.lo, .float .f64 a.z.hi] ∧ CellsL w' (w.heap.size + 1) 0 [.float .f64 b.x.lo, .float .f64 b.x.hi] ∧ CellsL w' (w.heap.size + 1) 4 [.float .f64 b.z.lo, .float .f64 b.z.hi])) (by kernel_rfl) ?_
 change wpAnyH _ _ _ _ _ _ _ _ (World.drew _)
 obtain ⟨wd40, hwd⟩ : ∃ x, x = World.drew V28 := ⟨_, rfl⟩
 rw [← hwd]
 have D41 := Lib.hid (hwd ▸ Below.drew D38.out : Below V28.heap.size V28 wd40)
 clear D38 hwd
 have hS42 : True ∧ CellsL wd40 (w.heap.size) 0 [.float .f64 a.x.lo, .float .f64 a.x.hi] ∧ CellsL wd40 (w.heap.size) 4 [.float .f64 a.z.lo, .float .f64 a.z.hi] ∧ CellsL wd40 (w.heap.size + 1) 0 [.float .f64 b.x.lo, .float .f64 b.x.hi] ∧ CellsL wd40 (w.heap.size + 1) 4 [.float .f64 b.z.lo, .float .f64 b.z.hi] := ⟨trivial, (kb K33 D41).cellsL 0 [.float .f64 a.x.lo, .float .f64 a.x.hi] rfl, (kb K33 D41).cellsL 4 [.float .f64 a.z.lo, .float .f64 a.z.hi] rfl, (kb K34 D41).cellsL 0 [.float .f64 b.x.lo, .float .f64 b.x.hi] rfl, (kb K34 D41).cellsL 4 [.float .f64 b.z.lo, .float .f64 b.z.hi] rfl⟩
 refine tkq 0 (bm 18 1) hS42 ?_
 refine tkq 1 (bm 18 3) hS42 ?_
 refine tkq 2 (bm 18 7) hS42 ?_
 refine tke 3 (bm 18 15) hS42 ?_
 refine tkq 4 (bm 18 31) hS42 ?_
 refine tkq 5 (bm 18 63) hS42 ?_
 refine tke 6 (bm 18 127) hS42 ?_
 refine tkq 8 (bm 18 383) hS42 ?_
 refine tkq 9 (bm 18 895) hS42 ?_
 refine tke 10 (bm 18 1919) hS42 ?_
 refine tkq 11 (bm 18 3967) hS42 ?_
 refine tkq 12 (bm 18 8063) hS42 ?_
 refine tke 13 (bm 18 16255) hS42 ?_
 refine wpAnyH_oneN (i := 7) (l' := bm 18 16383) rfl (by kernel_rfl) (by kernel_rfl) (by kernel_rfl) (fun K hK => ?_)
 go_simp
 go_at_call 68
 refine (C3.out _).mono ?_
 rintro r w56 ⟨rfl, hb⟩
 dsimp only
 have D57 := ds D41 hb
 clear D41
 clear hb
 have hS58 : True ∧ CellsL w56 (w.heap.size) 0 [.float .f64 a.x.lo, .float .f64 a.x.hi] ∧ CellsL w56 (w.heap.size) 4 [.float .f64 a.z.lo, .float .f64 a.z.hi] ∧ CellsL w56 (w.heap.size + 1) 0 [.float .f64 b.x.lo, .float .f64 b.x.hi] ∧ CellsL w56 (w.heap.size + 1) 4 [.float .f64 b.z.lo, .float .f64 b.z.hi] := ⟨trivial, (kb K33 D57).cellsL 0 [.float .f64 a.x.lo, .float .f64 a.x.hi] rfl, (kb K33 D57).cellsL 4 [.float .f64 a.z.lo, .float .f64 a.z.hi] rfl, (kb K34 D57).cellsL 0 [.float .f64 b.x.lo, .float .f64 b.x.hi] rfl, (kb K34 D57).cellsL 4 [.float .f64 b.z.lo, .float .f64 b.z.hi] rfl⟩
 refine hK _ _ hS58 ?_
 clear hK K hS42
 refine wpAnyH_oneN (i := 14) (l' := bm 18 32767) rfl (by kernel_rfl) (by kernel_rfl) (by kernel_rfl) (fun K hK => ?_)
 go_simp
 go_at_call 68
 refine (C4.out _).mono ?_
 rintro r w59 ⟨rfl, hb⟩
 dsimp only
 have D60 := ds D57 hb
 clear D57
 clear hb
 have hS61 : True ∧ CellsL w59 (w.heap.size) 0 [.float .f64 a.x.lo, .float .f64 a.x.hi] ∧ CellsL w59 (w.heap.size) 4 [.float .f64 a.z.lo, .float .f64 a.z.hi] ∧ CellsL w59 (w.heap.size + 1) 0 [.float .f64 b.x.lo, .float .f64 b.x.hi] ∧ CellsL w59 (w.heap.size + 1) 4 [.float .f64 b.z.lo, .float .f64 b.z.hi] := ⟨trivial, (kb K33 D60).cellsL 0 [.float .f64 a.x.lo, .float .f64 a.x.hi] rfl, (kb K33 D60).cellsL 4 [.float .f64 a.z.lo, .float .f64 a.z.hi] rfl, (kb K34 D60).cellsL 0 [.float .f64 b.x.lo, .float .f64 b.x.hi] rfl, (kb K34 D60).cellsL 4 [.float .f64 b.z.lo, .float .f64 b.z.hi] rfl⟩
 refine hK _ _ hS61 ?_
 clear hK K hS58
 refine wpAnyH_oneN (i := 15) (l' := bm 18 65535) rfl (by kernel_rfl) (by kernel_rfl) (by kernel_rfl) (fun K hK => ?_)
 go_simp
 go_at_call 83
 refine (C5.out _).mono ?_
 rintro r w62 ⟨rfl, hb⟩
 dsimp only
 have D63 := ds D60 hb
 clear D60
 clear hb
 have hS64 : True ∧ CellsL w62 (w.heap.size) 0 [.float .f64 a.x.lo, .float .f64 a.x.hi] ∧ CellsL w62 (w.heap.size) 4 [.float .f64 a.z.lo, .float .f64 a.z.hi] ∧ CellsL w62 (w.heap.size + 1) 0 [.float .f64 b.x.lo, .float .f64 b.x.hi] ∧ CellsL w62 (w.heap.size + 1) 4 [.float .f64 b.z.lo, .float .f64 b.z.hi] := ⟨trivial, (kb K33 D63).cellsL 0 [.float .f64 a.x.lo, .float .f64 a.x.hi] rfl, (kb K33 D63).cellsL 4 [.float .f64 a.z.lo, .float .f64 a.z.hi] rfl, (kb K34 D63).cellsL 0 [.float .f64 b.x.lo, .float .f64 b.x.hi] rfl, (kb K34 D63).cellsL 4 [.float .f64 b.z.lo, .float .f64 b.z.hi] rfl⟩
 refine hK _ _ hS64 ?_
 clear hK K hS61
 refine tkq 16 (bm 18 131071) hS64 ?_
 refine wpAnyH_oneN (i := 17) (l' := bm 18 262143) rfl (by kernel_rfl) (by kernel_rfl) (by kernel_rfl) (fun K hK => ?_)
 have f68 := (kb K36 D63).cellsL 2 [.float .f64 0, .float .f64 0] rfl
 dsimp only [CellsL, al, vl, Nat.reduceAdd] at f68
 have u69 := (kb K36 D63).unfrozen
 obtain ⟨V66, hV67⟩ : ∃ V, setCells w62 (w.heap.size + 1 + 1 + 1) 2 [.float .f64 p5.lo, .float .f64 p5.hi] = V := ⟨_, rfl⟩
 have hv70 := hV67
 simp only [setCells, Nat.reduceAdd] at hv70
 have K71 := kf hV67 K33 D63 (by omega)
 have K72 := kf hV67 K34 D63 (by omega)
 have K73 := kf hV67 K35 D63 (by omega)
 have K74 := Lib.hid (show Blk V66 (w.heap.size + 1 + 1 + 1) 26 #[.float .f64 p2.lo, .float .f64 p2.hi, .float .f64 p5.lo, .float .f64 p5.hi, .float .f64 0, .float .f64 0] from (ks hV67 K36 D63).out)
 have HB75 := hbs hV67 HB37 D63 (by omega)
 have D76 := dr V66
 clear K33 K34 K35 K36 HB37 D63
 go_simp
 clear hV67 f68 u69 hv70
 have hS77 : True ∧ CellsL V66 (w.heap.size) 0 [.float .f64 a.x.lo, .float .f64 a.x.hi] ∧ CellsL V66 (w.heap.size) 4 [.float .f64 a.z.lo, .float .f64 a.z.hi] ∧ CellsL V66 (w.heap.size + 1) 0 [.float .f64 b.x.lo, .float .f64 b.x.hi] ∧ CellsL V66 (w.heap.size + 1) 4 [.float .f64 b.z.lo, .float .f64 b.z.hi] := ⟨trivial, (kb K71 D76).cellsL 0 [.float .f64 a.x.lo, .float .f64 a.x.hi] rfl, (kb K71 D76).cellsL 4 [.float .f64 a.z.lo, .float .f64 a.z.hi] rfl, (kb K72 D76).cellsL 0 [.float .f64 b.x.lo, .float .f64 b.x.hi] rfl, (kb K72 D76).cellsL 4 [.float .f64 b.z.lo, .float .f64 b.z.hi] rfl⟩
 refine hK _ _ hS77 ?_
 clear hK K hS64
 refine wpAnyH_done (by kernel_rfl) ?_ _
 clear hS77
 go_wp2_with fail
 rw [rounds_succ]
 go_wp2_with fail
 refine wp_region_held (S := (fun w' => True ∧ CellsL w' (w.heap.size) 0 [.float .f64 a.x.lo, .float .f64 a.x.hi, .float .f64 a.y.lo, .float .f64 a.y.hi] ∧ CellsL w' (w.heap.size + 1) 0 [.float .f64 b.x.lo, .float .f64 b.x.hi, .float .f64 b.y.lo, .float .f64 b.y.hi])) (by kernel_rfl) ?_
 change wpAnyH _ _ _ _ _ _ _ _ (World.drew _)
 obtain ⟨wd78, hwd⟩ : ∃ x, x = World.drew V66 := ⟨_, rfl⟩
 rw [← hwd]
 have D79 := Lib.hid (hwd ▸ Below.drew D76.out : Below V66.heap.size V66 wd78)
 clear D76 hwd
 have hS80 : True ∧ CellsL wd78 (w.heap.size) 0 [.float .f64 a.x.lo, .float .f64 a.x.hi, .float .f64 a.y.lo, .float .f64 a.y.hi] ∧ CellsL wd78 (w.heap.size + 1) 0 [.float .f64 b.x.lo, .float .f64 b.x.hi, .float .f64 b.y.lo, .float .f64 b.y.hi] := ⟨trivial, (kb K71 D79).cellsL 0 [.float .f64 a.x.lo, .float .f64 a.x.hi, .float .f64 a.y.lo, .float .f64 a.y.hi] rfl, (kb K72 D79).cellsL 0 [.float .f64 b.x.lo, .float .f64 b.x.hi, .float .f64 b.y.lo, .float .f64 b.y.hi] rfl⟩
 refine tkq 0 (bm 18 1) hS80 ?_
 refine tkq 1 (bm 18 3) hS80 ?_
 refine tkq 2 (bm 18 7) hS80 ?_
 refine tke 3 (bm 18 15) hS80 ?_
 refine tkq 4 (bm 18 31) hS80 ?_
 refine tkq 5 (bm 18 63) hS80 ?_
 refine tke 6 (bm 18 127) hS80 ?_
 refine tkq 8 (bm 18 383) hS80 ?_
 refine tkq 9 (bm 18 895) hS80 ?_
 refine tke 10 (bm 18 1919) hS80 ?_
 refine tkq 11 (bm 18 3967) hS80 ?_
 refine tkq 12 (bm 18 8063) hS80 ?_
 refine tke 13 (bm 18 16255) hS80 ?_
 refine wpAnyH_oneN (i := 7) (l' := bm 18 16383) rfl (by kernel_rfl) (by kernel_rfl) (by kernel_rfl) (fun K hK => ?_)
 go_simp
 go_at_call 68
 refine (C6.out _).mono ?_
 rintro r w94 ⟨rfl, hb⟩
 dsimp only
 have D95 := ds D79 hb
 clear D79
 clear hb
 have hS96 : True ∧ CellsL w94 (w.heap.size) 0 [.float .f64 a.x.lo, .float .f64 a.x.hi, .float .f64 a.y.lo, .float .f64 a.y.hi] ∧ CellsL w94 (w.heap.size + 1) 0 [.float .f64 b.x.lo, .float .f64 b.x.hi, .float .f64 b.y.lo, .float .f64 b.y.hi] := ⟨trivial, (kb K71 D95).cellsL 0 [.float .f64 a.x.lo, .float .f64 a.x.hi, .float .f64 a.y.lo, .float .f64 a.y.hi] rfl, (kb K72 D95).cellsL 0 [.float .f64 b.x.lo, .float .f64 b.x.hi, .float .f64 b.y.lo, .float .f64 b.y.hi] rfl⟩
 refine hK _ _ hS96 ?_
 clear hK K hS80
 refine wpAnyH_oneN (i := 14) (l' := bm 18 32767) rfl (by kernel_rfl) (by kernel_rfl) (by kernel_rfl) (fun K hK => ?_)
 go_simp
 go_at_call 68
 refine (C7.out _).mono ?_
 rintro r w97 ⟨rfl, hb⟩
 dsimp only
 have D98 := ds D95 hb
 clear D95
 clear hb
 have hS99 : True ∧ CellsL w97 (w.heap.size) 0 [.float .f64 a.x.lo, .float .f64 a.x.hi, .float .f64 a.y.lo, .float .f64 a.y.hi] ∧ CellsL w97 (w.heap.size + 1) 0 [.float .f64 b.x.lo, .float .f64 b.x.hi, .float .f64 b.y.lo, .float .f64 b.y.hi] := ⟨trivial, (kb K71 D98).cellsL 0 [.float .f64 a.x.lo, .float .f64 a.x.hi, .float .f64 a.y.lo, .float .f64 a.y.hi] rfl, (kb K72 D98).cellsL 0 [.float .f64 b.x.lo, .float .f64 b.x.hi, .float .f64 b.y.lo, .float .f64 b.y.hi] rfl⟩
 refine hK _ _ hS99 ?_
 clear hK K hS96
 refine wpAnyH_oneN (i := 15) (l' := bm 18 65535) rfl (by kernel_rfl) (by kernel_rfl) (by kernel_rfl) (fun K hK => ?_)
 go_simp
 go_at_call 83
 refine (C8.out _).mono ?_
 rintro r w100 ⟨rfl, hb⟩
 dsimp only
 have D101 := ds D98 hb
 clear D98
 clear hb
 have hS102 : True ∧ CellsL w100 (w.heap.size) 0 [.float .f64 a.x.lo, .float .f64 a.x.hi, .float .f64 a.y.lo, .float .f64 a.y.hi] ∧ CellsL w100 (w.heap.size + 1) 0 [.float .f64 b.x.lo, .float .f64 b.x.hi, .float .f64 b.y.lo, .float .f64 b.y.hi] := ⟨trivial, (kb K71 D101).cellsL 0 [.float .f64 a.x.lo, .float .f64 a.x.hi, .float .f64 a.y.lo, .float .f64 a.y.hi] rfl, (kb K72 D101).cellsL 0 [.float .f64 b.x.lo, .float .f64 b.x.hi, .float .f64 b.y.lo, .float .f64 b.y.hi] rfl⟩
 refine hK _ _ hS102 ?_
 clear hK K hS99
 refine tkq 16 (bm 18 131071) hS102 ?_
 refine wpAnyH_oneN (i := 17) (l' := bm 18 262143) rfl (by kernel_rfl) (by kernel_rfl) (by kernel_rfl) (fun K hK => ?_)
 have f106 := (kb K74 D101).cellsL 4 [.float .f64 0, .float .f64 0] rfl
 dsimp only [CellsL, al, vl, Nat.reduceAdd] at f106
 have u107 := (kb K74 D101).unfrozen
 obtain ⟨V104, hV105⟩ : ∃ V, setCells w100 (w.heap.size + 1 + 1 + 1) 4 [.float .f64 p8.lo, .float .f64 p8.hi] = V := ⟨_, rfl⟩
 have hv108 := hV105
 simp only [setCells, Nat.reduceAdd] at hv108
 have K109 := kf hV105 K71 D101 (by omega)
 have K110 := kf hV105 K72 D101 (by omega)
 have K111 := kf hV105 K73 D101 (by omega)
 have K112 := Lib.hid (show Blk V104 (w.heap.size + 1 + 1 + 1) 26 #[.float .f64 p2.lo, .float .f64 p2.hi, .float .f64 p5.lo, .float .f64 p5.hi, .float .f64 p8.lo, .float .f64 p8.hi] from (ks hV105 K74 D101).out)
 have HB113 := hbs hV105 HB75 D101 (by omega)
 have D114 := dr V104
 clear K71 K72 K73 K74 HB75 D101
 go_simp
 clear hV105 f106 u107 hv108
 have hS115 : True ∧ CellsL V104 (w.heap.size) 0 [.float .f64 a.x.lo, .float .f64 a.x.hi, .float .f64 a.y.lo, .float .f64 a.y.hi] ∧ CellsL V104 (w.heap.size + 1) 0 [.float .f64 b.x.lo, .float .f64 b.x.hi, .float .f64 b.y.lo, .float .f64 b.y.hi] := ⟨trivial, (kb K109 D114).cellsL 0 [.float .f64 a.x.lo, .float .f64 a.x.hi, .float .f64 a.y.lo, .float .f64 a.y.hi] rfl, (kb K110 D114).cellsL 0 [.float .f64 b.x.lo, .float .f64 b.x.hi, .float .f64 b.y.lo, .float .f64 b.y.hi] rfl⟩
 refine hK _ _ hS115 ?_
 clear hK K hS102
 refine wpAnyH_done (by kernel_rfl) ?_ _
 clear hS115
 go_wp2_with fail
 rw [rounds_succ]
 have f116 := (kb K112 D114)
 have f119 := (kb K111 D114)
 obtain ⟨V117, hV118⟩ : ∃ V, World.setRow V104 (w.heap.size + 1 + 1) #[.float .f64 p2.lo, .float .f64 p2.hi, .float .f64 p5.lo, .float .f64 p5.hi, .float .f64 p8.lo, .float .f64 p8.hi] = V := ⟨_, rfl⟩
 have K120 := kfr hV118 K109 D114 (by omega)
 have K121 := kfr hV118 K110 D114 (by omega)
 have K122 := ksr hV118 K111 D114
 have K123 := kfr hV118 K112 D114 (by omega)
 have HB124 := hbr hV118 HB113 D114 (by omega)
 have D125 := dr V117
 clear K109 K110 K111 K112 HB113 D114
 go_wp2_with (first | (refine wpList_store_row rfl 26 _ _ rfl (w.heap.size + 1 + 1) #[.float .f64 p2.lo, .float .f64 p2.hi, .float .f64 p5.lo, .float .f64 p5.hi, .float .f64 p8.lo, .float .f64 p8.hi] rfl rfl _ _ f119 (by rw [info_V3]; rfl) rfl (by kernel_rfl) ?_; rw [hV118]) | (refine wl_load (by kernel_rfl) rfl rfl f116 (by rw [info_V3]; rfl) Tryz.underlying26 rfl ?_))
 clear f116 hV118 f119
 (try simp only [Exit.inBlock, Exit.then])
 exact bodyPost_ret (res_c rfl _ _ (w.heap.size + 1 + 1) #[.float .f64 p2.lo, .float .f64 p2.hi, .float .f64 p5.lo, .float .f64 p5.hi, .float .f64 p8.lo, .float .f64 p8.hi] rfl (kb K122 D125) (by rw [info_V3]; rfl) Tryz.underlying26 rfl) rfl ⟨rfl, below_step HB124.out D125.out⟩
end Go.Proofs.YtnljfcebmgifdaaGreat
set_option linter.unusedVariables false
set_option linter.unusedSimpArgs false
namespace Go.Proofs.YtnljfcebmgifdaaGreat
open Go.RowKit Fl
theorem raddV_any (a b : V3) (w : World) : Calls Tryz.prog 54 #[Value.agg #[.float .f64 a.x.lo, .float .f64 a.x.hi, .float .f64 a.y.lo, .float .f64 a.y.hi, .float .f64 a.z.lo, .float .f64 a.z.hi], Value.agg #[.float .f64 b.x.lo, .float .f64 b.x.hi, .float .f64 b.y.lo, .float .f64 b.y.hi, .float .f64 b.z.lo, .float .f64 b.z.hi]] w fun r w' => r = .returned (vval (vAdd a b)) ∧ Below w.heap.size w w' := by
 have C0 := Lib.hid (fun w => radd_sp a.x b.x w)
 obtain ⟨p0, hp0⟩ : ∃ z_, addS a.x b.x = z_ := ⟨_, rfl⟩
 rw [hp0] at C0
 have C1 := Lib.hid (fun w => radd_sp a.y b.y w)
 obtain ⟨p1, hp1⟩ : ∃ z_, addS a.y b.y = z_ := ⟨_, rfl⟩
 rw [hp1] at C1
 have C2 := Lib.hid (fun w => radd_sp a.z b.z w)
 obtain ⟨p2, hp2⟩ : ∃ z_, addS a.z b.z = z_ := ⟨_, rfl⟩
 rw [hp2] at C2
 have hT : vAdd a b = (⟨p0, p1, p2⟩ : V3) := by
   subst hp0 hp1 hp2; rfl
 rw [hT]
 clear hT
 clear hp0 hp1 hp2
 go_enter Tryz.func54, Tryz.ntmps54
 go_wp2_with fail
 obtain ⟨W, hW, K0, K1, K2, hB, hz⟩ := bx3 w 26 26 26 (vc a) (vc b) #[.float .f64 0, .float .f64 0, .float .f64 0, .float .f64 0, .float .f64 0, .float .f64 0]
 rw [← hW]
 have K0 := Lib.hid K0
 have K1 := Lib.hid K1
 have K2 := Lib.hid K2
 have HB := Lib.hid hB
 clear hW hB hz
 have D1 := dr W
 refine wp_region_held (S := (fun w' => True ∧ CellsL w' (w.heap.size) 0 (vl a) ∧ CellsL w' (w.heap.size + 1) 0 (vl b))) (by kernel_rfl) ?_
 change wpAnyH _ _ _ _ _ _ _ _ (World.drew _)
 obtain ⟨wd2, hwd⟩ : ∃ x, x = World.drew W := ⟨_, rfl⟩
 rw [← hwd]
 have D3 := Lib.hid (hwd ▸ Below.drew D1.out : Below W.heap.size W wd2)
 clear D1 hwd
 have hS4 : True ∧ CellsL wd2 (w.heap.size) 0 (vl a) ∧ CellsL wd2 (w.heap.size + 1) 0 (vl b) := ⟨trivial, (kb K0 D3).cellsL 0 (vl a) rfl, (kb K1 D3).cellsL 0 (vl b) rfl⟩
 refine tkq 0 (bm 17 1) hS4 ?_
 refine tke 1 (bm 17 3) hS4 ?_
 refine tkq 2 (bm 17 7) hS4 ?_
 refine tke 3 (bm 17 15) hS4 ?_
 refine tkq 5 (bm 17 47) hS4 ?_
 refine tke 6 (bm 17 111) hS4 ?_
 refine tkq 7 (bm 17 239) hS4 ?_
 refine tke 8 (bm 17 495) hS4 ?_
 refine tkq 10 (bm 17 1519) hS4 ?_
 refine tke 11 (bm 17 3567) hS4 ?_
 refine tkq 12 (bm 17 7663) hS4 ?_
 refine tke 13 (bm 17 15855) hS4 ?_
 refine wpAnyH_oneN (i := 4) (l' := bm 17 15871) rfl (by kernel_rfl) (by kernel_rfl) (by kernel_rfl) (fun K hK => ?_)
 go_simp
 go_at_call 74
 refine (C0.out _).mono ?_
 rintro r w17 ⟨rfl, hb⟩
 dsimp only
 have D18 := ds D3 hb
 clear D3
 clear hb
 have hS19 : True ∧ CellsL w17 (w.heap.size) 0 (vl a) ∧ CellsL w17 (w.heap.size + 1) 0 (vl b) := ⟨trivial, (kb K0 D18).cellsL 0 (vl a) rfl, (kb K1 D18).cellsL 0 (vl b) rfl⟩
 refine hK _ _ hS19 ?_
 clear hK K hS4
 refine wpAnyH_oneN (i := 9) (l' := bm 17 16383) rfl (by kernel_rfl) (by kernel_rfl) (by kernel_rfl) (fun K hK => ?_)
 go_simp
 go_at_call 74
 refine (C1.out _).mono ?_
 rintro r w20 ⟨rfl, hb⟩
 dsimp only
 have D21 := ds D18 hb
 clear D18
 clear hb
 have hS22 : True ∧ CellsL w20 (w.heap.size) 0 (vl a) ∧ CellsL w20 (w.heap.size + 1) 0 (vl b) := ⟨trivial, (kb K0 D21).cellsL 0 (vl a) rfl, (kb K1 D21).cellsL 0 (vl b) rfl⟩
 refine hK _ _ hS22 ?_
 clear hK K hS19
 refine wpAnyH_oneN (i := 14) (l' := bm 17 32767) rfl (by kernel_rfl) (by kernel_rfl) (by kernel_rfl) (fun K hK => ?_)
 go_simp
 go_at_call 74
 refine (C2.out _).mono ?_
 rintro r w23 ⟨rfl, hb⟩
 dsimp only
 have D24 := ds D21 hb
 clear D21
 clear hb
 have hS25 : True ∧ CellsL w23 (w.heap.size) 0 (vl a) ∧ CellsL w23 (w.heap.size + 1) 0 (vl b) := ⟨trivial, (kb K0 D24).cellsL 0 (vl a) rfl, (kb K1 D24).cellsL 0 (vl b) rfl⟩
 refine hK _ _ hS25 ?_
 clear hK K hS22
 refine tkq 15 (bm 17 65535) hS25 ?_
 refine wpAnyH_oneN (i := 16) (l' := bm 17 131071) rfl (by kernel_rfl) (by kernel_rfl) (by kernel_rfl) (fun K hK => ?_)
 have f29 := (kb K2 D24)
 obtain ⟨V27, hV28⟩ : ∃ V, World.setRow w23 (w.heap.size + 1 + 1) #[.float .f64 p0.lo, .float .f64 p0.hi, .float .f64 p1.lo, .float .f64 p1.hi, .float .f64 p2.lo, .float .f64 p2.hi] = V := ⟨_, rfl⟩
 have K30 := kfr hV28 K0 D24 (by omega)
 have K31 := kfr hV28 K1 D24 (by omega)
 have K32 := ksr hV28 K2 D24
 have HB33 := hbr hV28 HB D24 (by omega)
 have D34 := dr V27
 clear K0 K1 K2 HB D24
 refine wp_store_row 26 _ _ rfl (w.heap.size + 1 + 1) #[.float .f64 p0.lo, .float .f64 p0.hi, .float .f64 p1.lo, .float .f64 p1.hi, .float .f64 p2.lo, .float .f64 p2.hi] rfl rfl _ _ f29 (by rw [info_V3]; rfl) rfl (by kernel_rfl) ?_
 rw [hV28]
 go_simp
 clear hV28 f29
 have hS35 : True ∧ CellsL V27 (w.heap.size) 0 (vl a) ∧ CellsL V27 (w.heap.size + 1) 0 (vl b) := ⟨trivial, (kb K30 D34).cellsL 0 (vl a) rfl, (kb K31 D34).cellsL 0 (vl b) rfl⟩
 refine hK _ _ hS35 ?_
 clear hK K hS25
 refine wpAnyH_done (by kernel_rfl) ?_ _
 clear hS35
 go_wp2_with fail
 (try simp only [Exit.inBlock, Exit.then])
 exact bodyPost_ret (res_c rfl _ _ (w.heap.size + 1 + 1) #[.float .f64 p0.lo, .float .f64 p0.hi, .float .f64 p1.lo, .float .f64 p1.hi, .float .f64 p2.lo, .float .f64 p2.hi] rfl (kb K32 D34) (by rw [info_V3]; rfl) Tryz.underlying26 rfl) rfl ⟨rfl, below_step HB33.out D34.out⟩
theorem rmulV_any (a b : V3) (w : World) : Calls Tryz.prog 96 #[Value.agg #[.float .f64 a.x.lo, .float .f64 a.x.hi, .float .f64 a.y.lo, .float .f64 a.y.hi, .float .f64 a.z.lo, .float .f64 a.z.hi], Value.agg #[.float .f64 b.x.lo, .float .f64 b.x.hi, .float .f64 b.y.lo, .float .f64 b.y.hi, .float .f64 b.z.lo, .float .f64 b.z.hi]] w fun r w' => r = .returned (vval (vMul a b)) ∧ Below w.heap.size w w' := by
 have C0 := Lib.hid (fun w => rmul_sp a.x b.x w)
 obtain ⟨p0, hp0⟩ : ∃ z_, mulS a.x b.x = z_ := ⟨_, rfl⟩
 rw [hp0] at C0
 have C1 := Lib.hid (fun w => rmul_sp a.y b.y w)
 obtain ⟨p1, hp1⟩ : ∃ z_, mulS a.y b.y = z_ := ⟨_, rfl⟩
 rw [hp1] at C1
 have C2 := Lib.hid (fun w => rmul_sp a.z b.z w)
 obtain ⟨p2, hp2⟩ : ∃ z_, mulS a.z b.z = z_ := ⟨_, rfl⟩
 rw [hp2] at C2
 have hT : vMul a b = (⟨p0, p1, p2⟩ : V3) := by
   subst hp0 hp1 hp2; rfl
 rw [hT]
 clear hT
 clear hp0 hp1 hp2
 go_enter Tryz.func96, Tryz.ntmps96
 go_wp2_with fail
 obtain ⟨W, hW, K0, K1, K2, hB, hz⟩ := bx3 w 26 26 26 (vc a) (vc b) #[.float .f64 0, .float .f64 0, .float .f64 0, .float .f64 0, .float .f64 0, .float .f64 0]
 rw [← hW]
 have K0 := Lib.hid K0
 have K1 := Lib.hid K1
 have K2 := Lib.hid K2
 have HB := Lib.hid hB
 clear hW hB hz
 have D1 := dr W
 refine wp_region_held (S := (fun w' => True ∧ CellsL w' (w.heap.size) 0 (vl a) ∧ CellsL w' (w.heap.size + 1) 0 (vl b))) (by kernel_rfl) ?_
 change wpAnyH _ _ _ _ _ _ _ _ (World.drew _)
 obtain ⟨wd2, hwd⟩ : ∃ x, x = World.drew W := ⟨_, rfl⟩
 rw [← hwd]
 have D3 := Lib.hid (hwd ▸ Below.drew D1.out : Below W.heap.size W wd2)
 clear D1 hwd
 have hS4 : True ∧ CellsL wd2 (w.heap.size) 0 (vl a) ∧ CellsL wd2 (w.heap.size + 1) 0 (vl b) := ⟨trivial, (kb K0 D3).cellsL 0 (vl a) rfl, (kb K1 D3).cellsL 0 (vl b) rfl⟩
 refine tkq 0 (bm 17 1) hS4 ?_
 refine tke 1 (bm 17 3) hS4 ?_
 refine tkq 2 (bm 17 7) hS4 ?_
 refine tke 3 (bm 17 15) hS4 ?_
 refine tkq 5 (bm 17 47) hS4 ?_
 refine tke 6 (bm 17 111) hS4 ?_
 refine tkq 7 (bm 17 239) hS4 ?_
 refine tke 8 (bm 17 495) hS4 ?_
 refine tkq 10 (bm 17 1519) hS4 ?_
 refine tke 11 (bm 17 3567) hS4 ?_
 refine tkq 12 (bm 17 7663) hS4 ?_
 refine tke 13 (bm 17 15855) hS4 ?_
 refine wpAnyH_oneN (i := 4) (l' := bm 17 15871) rfl (by kernel_rfl) (by kernel_rfl) (by kernel_rfl) (fun K hK => ?_)
 go_simp
 go_at_call 75
 refine (C0.out _).mono ?_
 rintro r w17 ⟨rfl, hb⟩
 dsimp only
 have D18 := ds D3 hb
 clear D3
 clear hb
 have hS19 : True ∧ CellsL w17 (w.heap.size) 0 (vl a) ∧ CellsL w17 (w.heap.size + 1) 0 (vl b) := ⟨trivial, (kb K0 D18).cellsL 0 (vl a) rfl, (kb K1 D18).cellsL 0 (vl b) rfl⟩
 refine hK _ _ hS19 ?_
 clear hK K hS4
 refine wpAnyH_oneN (i := 9) (l' := bm 17 16383) rfl (by kernel_rfl) (by kernel_rfl) (by kernel_rfl) (fun K hK => ?_)
 go_simp
 go_at_call 75
 refine (C1.out _).mono ?_
 rintro r w20 ⟨rfl, hb⟩
 dsimp only
 have D21 := ds D18 hb
 clear D18
 clear hb
 have hS22 : True ∧ CellsL w20 (w.heap.size) 0 (vl a) ∧ CellsL w20 (w.heap.size + 1) 0 (vl b) := ⟨trivial, (kb K0 D21).cellsL 0 (vl a) rfl, (kb K1 D21).cellsL 0 (vl b) rfl⟩
 refine hK _ _ hS22 ?_
 clear hK K hS19
 refine wpAnyH_oneN (i := 14) (l' := bm 17 32767) rfl (by kernel_rfl) (by kernel_rfl) (by kernel_rfl) (fun K hK => ?_)
 go_simp
 go_at_call 75
 refine (C2.out _).mono ?_
 rintro r w23 ⟨rfl, hb⟩
 dsimp only
 have D24 := ds D21 hb
 clear D21
 clear hb
 have hS25 : True ∧ CellsL w23 (w.heap.size) 0 (vl a) ∧ CellsL w23 (w.heap.size + 1) 0 (vl b) := ⟨trivial, (kb K0 D24).cellsL 0 (vl a) rfl, (kb K1 D24).cellsL 0 (vl b) rfl⟩
 refine hK _ _ hS25 ?_
 clear hK K hS22
 refine tkq 15 (bm 17 65535) hS25 ?_
 refine wpAnyH_oneN (i := 16) (l' := bm 17 131071) rfl (by kernel_rfl) (by kernel_rfl) (by kernel_rfl) (fun K hK => ?_)
 have f29 := (kb K2 D24)
 obtain ⟨V27, hV28⟩ : ∃ V, World.setRow w23 (w.heap.size + 1 + 1) #[.float .f64 p0.lo, .float .f64 p0.hi, .float .f64 p1.lo, .float .f64 p1.hi, .float .f64 p2.lo, .float .f64 p2.hi] = V := ⟨_, rfl⟩
 have K30 := kfr hV28 K0 D24 (by omega)
 have K31 := kfr hV28 K1 D24 (by omega)
 have K32 := ksr hV28 K2 D24
 have HB33 := hbr hV28 HB D24 (by omega)
 have D34 := dr V27
 clear K0 K1 K2 HB D24
 refine wp_store_row 26 _ _ rfl (w.heap.size + 1 + 1) #[.float .f64 p0.lo, .float .f64 p0.hi, .float .f64 p1.lo, .float .f64 p1.hi, .float .f64 p2.lo, .float .f64 p2.hi] rfl rfl _ _ f29 (by rw [info_V3]; rfl) rfl (by kernel_rfl) ?_
 rw [hV28]
 go_simp
 clear hV28 f29
 have hS35 : True ∧ CellsL V27 (w.heap.size) 0 (vl a) ∧ CellsL V27 (w.heap.size + 1) 0 (vl b) := ⟨trivial, (kb K30 D34).cellsL 0 (vl a) rfl, (kb K31 D34).cellsL 0 (vl b) rfl⟩
 refine hK _ _ hS35 ?_
 clear hK K hS25
 refine wpAnyH_done (by kernel_rfl) ?_ _
 clear hS35
 go_wp2_with fail
 (try simp only [Exit.inBlock, Exit.then])
 exact bodyPost_ret (res_c rfl _ _ (w.heap.size + 1 + 1) #[.float .f64 p0.lo, .float .f64 p0.hi, .float .f64 p1.lo, .float .f64 p1.hi, .float .f64 p2.lo, .float .f64 p2.hi] rfl (kb K32 D34) (by rw [info_V3]; rfl) Tryz.underlying26 rfl) rfl ⟨rfl, below_step HB33.out D34.out⟩
theorem rsumV_any (a : V3) (w : World) : Calls Tryz.prog 95 #[Value.agg #[.float .f64 a.x.lo, .float .f64 a.x.hi, .float .f64 a.y.lo, .float .f64 a.y.hi, .float .f64 a.z.lo, .float .f64 a.z.hi]] w fun r w' => r = .returned (.agg #[.float .f64 (vSum a).lo, .float .f64 (vSum a).hi]) ∧ Below w.heap.size w w' := by
 have C0 := Lib.hid (fun w => radd_sp a.x a.y w)
 obtain ⟨p0, hp0⟩ : ∃ z_, addS a.x a.y = z_ := ⟨_, rfl⟩
 rw [hp0] at C0
 have C1 := Lib.hid (fun w => radd_sp p0 a.z w)
 obtain ⟨p1, hp1⟩ : ∃ z_, addS p0 a.z = z_ := ⟨_, rfl⟩
 rw [hp1] at C1
 have hT : vSum a = p1 := by
   subst hp0 hp1; rfl
 rw [hT]
 clear hT
 clear hp0 hp1
 go_enter Tryz.func95, Tryz.ntmps95
 go_wp2_with fail
 obtain ⟨W, hW, K0, K1, hB, hz⟩ := bx2 w 26 24 (vc a) #[.float .f64 0, .float .f64 0]
 rw [← hW]
 have K0 := Lib.hid K0
 have K1 := Lib.hid K1
 have HB := Lib.hid hB
 clear hW hB hz
 have D1 := dr W
 refine wp_region_held (S := (fun w' => True ∧ CellsL w' (w.heap.size) 0 (vl a))) (by kernel_rfl) ?_
 change wpAnyH _ _ _ _ _ _ _ _ (World.drew _)
 obtain ⟨wd2, hwd⟩ : ∃ x, x = World.drew W := ⟨_, rfl⟩
 rw [← hwd]
 have D3 := Lib.hid (hwd ▸ Below.drew D1.out : Below W.heap.size W wd2)
 clear D1 hwd
 have hS4 : True ∧ CellsL wd2 (w.heap.size) 0 (vl a) := ⟨trivial, (kb K0 D3).cellsL 0 (vl a) rfl⟩
 refine tkq 0 (bm 9 1) hS4 ?_
 refine tke 1 (bm 9 3) hS4 ?_
 refine tkq 2 (bm 9 7) hS4 ?_
 refine tke 3 (bm 9 15) hS4 ?_
 refine tkq 5 (bm 9 47) hS4 ?_
 refine tke 6 (bm 9 111) hS4 ?_
 refine wpAnyH_oneN (i := 4) (l' := bm 9 127) rfl (by kernel_rfl) (by kernel_rfl) (by kernel_rfl) (fun K hK => ?_)
 go_simp
 go_at_call 74
 refine (C0.out _).mono ?_
 rintro r w11 ⟨rfl, hb⟩
 dsimp only
 have D12 := ds D3 hb
 clear D3
 clear hb
 have hS13 : True ∧ CellsL w11 (w.heap.size) 0 (vl a) := ⟨trivial, (kb K0 D12).cellsL 0 (vl a) rfl⟩
 refine hK _ _ hS13 ?_
 clear hK K hS4
 refine wpAnyH_oneN (i := 7) (l' := bm 9 255) rfl (by kernel_rfl) (by kernel_rfl) (by kernel_rfl) (fun K hK => ?_)
 go_simp
 go_at_call 74
 refine (C1.out _).mono ?_
 rintro r w14 ⟨rfl, hb⟩
 dsimp only
 have D15 := ds D12 hb
 clear D12
 clear hb
 have hS16 : True ∧ CellsL w14 (w.heap.size) 0 (vl a) := ⟨trivial, (kb K0 D15).cellsL 0 (vl a) rfl⟩
 refine hK _ _ hS16 ?_
 clear hK K hS13
 refine wpAnyH_oneN (i := 8) (l' := bm 9 511) rfl (by kernel_rfl) (by kernel_rfl) (by kernel_rfl) (fun K hK => ?_)
 have f19 := (kb K1 D15).cellsL 0 [.float .f64 0, .float .f64 0] rfl
 dsimp only [CellsL, al, vl, Nat.reduceAdd] at f19
 have u20 := (kb K1 D15).unfrozen
 obtain ⟨V17, hV18⟩ : ∃ V, setCells w14 (w.heap.size + 1) 0 [.float .f64 p1.lo, .float .f64 p1.hi] = V := ⟨_, rfl⟩
 have hv21 := hV18
 simp only [setCells, Nat.reduceAdd] at hv21
 have K22 := kf hV18 K0 D15 (by omega)
 have K23 := Lib.hid (show Blk V17 (w.heap.size + 1) 24 #[.float .f64 p1.lo, .float .f64 p1.hi] from (ks hV18 K1 D15).out)
 have HB24 := hbs hV18 HB D15 (by omega)
 have D25 := dr V17
 clear K0 K1 HB D15
 go_simp
 clear hV18 f19 u20 hv21
 have hS26 : True ∧ CellsL V17 (w.heap.size) 0 (vl a) := ⟨trivial, (kb K22 D25).cellsL 0 (vl a) rfl⟩
 refine hK _ _ hS26 ?_
 clear hK K hS16
 refine wpAnyH_done (by kernel_rfl) ?_ _
 clear hS26
 go_wp2_with fail
 (try simp only [Exit.inBlock, Exit.then])
 exact bodyPost_ret (res_c rfl _ _ (w.heap.size + 1) #[.float .f64 p1.lo, .float .f64 p1.hi] rfl (kb K23 D25) (by rw [info_Span]; rfl) Tryz.underlying24 rfl) rfl ⟨rfl, below_step HB24.out D25.out⟩
end Go.Proofs.YtnljfcebmgifdaaGreat
set_option linter.unusedVariables false
set_option linter.unusedSimpArgs false
namespace Go.Proofs.YtnljfcebmgifdaaGreat
theorem tn {m i j : Nat} {b : Bool} (h : (m ||| 2 ^ i).testBit j = b) (hne : i ≠ j := by decide) : m.testBit j = b := by rwa [tb_ne hne] at h
end Go.Proofs.YtnljfcebmgifdaaGreat
