/- Shaken: Gg Gf. -/
import Derived.Test.YtnljfcebmgifdaaZSe
import Derived.Test.YtnljfcebmgifdaaZGd
import Derived.Laws.FloatArith
import GoSem.Extern.MathFloor
set_option maxRecDepth 100000
set_option maxHeartbeats 2000000
set_option linter.unusedVariables false
set_option linter.unusedSimpArgs false
namespace Go.Proofs.Ytnljfcebmgifdaa
open Ieee
namespace Fl
/-- The whole part of a size; is something behind it? -/
def whole (b : Nat) : Nat := rv (mg b) / 2 ^ BB
def rest (b : Nat) : Bool := rv (mg b) % 2 ^ BB != 0
end Fl
end Go.Proofs.Ytnljfcebmgifdaa
namespace Go.Proofs.Ytnljfcebmgifdaa
open Go.RowKit Ieee
namespace Fl
end Fl
end Go.Proofs.Ytnljfcebmgifdaa
namespace Go.Proofs.Ytnljfcebmgifdaa
open Go.RowKit Ieee
end Go.Proofs.Ytnljfcebmgifdaa
namespace Go.Proofs.Ytnljfcebmgifdaa
open Fl Ieee
def UI : Int := ((2 ^ BB : Nat) : Int)
theorem UI_pos : 0 < UI := Int.natCast_pos.2 (Nat.two_pow_pos _)
/-- The whole number at or below a word's number. -/
def flq (b : Nat) : Int := Z b / UI
theorem flq_mono {a b : Nat} (h : Z a ≤ Z b) : flq a ≤ flq b := Int.ediv_le_ediv UI_pos h
/-- What Floor tells. -/
structure FlSure (a : Sp) (n : Int) : Prop where
 lo : fin a.lo = true
 hi : fin a.hi = true
 el : flq a.lo = n
 eh : flq a.hi = n
 ge : -9007199254740992 ≤ n
 le : n ≤ 9007199254740992
theorem FlSure.wi {a c : Sp} {n : Int} (h : FlSure a n) (k : Wi c a) : FlSure c n := by
 have w : c.wide = false := k.fin (by unfold Sp.wide wd; rw [h.lo, h.hi]; rfl)
 have ⟨f1, f2⟩ := Sp.fins w
 have h1 := flq_mono k.lo
 have h2 := flq_mono k.hi
 have h3 := flq_mono c.vd.le
 have e1 := h.el
 have e2 := h.eh
 exact ⟨f1, f2, by omega, by omega, h.ge, h.le⟩
theorem FlSure.uniq {a : Sp} {n m : Int} (h : FlSure a n) (k : FlSure a m) : n = m := h.el.symm.trans k.el
end Go.Proofs.Ytnljfcebmgifdaa
set_option linter.unusedVariables false
set_option linter.unusedSimpArgs false
namespace Go.Proofs.Ytnljfcebmgifdaa
open Go.RowKit Fl
@[go_sem] theorem fld_span0 (x y : Nat) (w : World) : (Instr.field 28 (.agg #[.float .f64 x, .float .f64 y]) 0).run Try.prog w = .ok (.float .f64 x) w := by kernel_rfl
@[go_sem] theorem fld_span1 (x y : Nat) (w : World) : (Instr.field 28 (.agg #[.float .f64 x, .float .f64 y]) 1).run Try.prog w = .ok (.float .f64 y) w := by kernel_rfl
theorem sqr_w (a : Sp) (h : a.wide = true) (w : World) : Calls Try.prog 63 #[.agg #[.float .f64 a.lo, .float .f64 a.hi]] w fun r w' => r = .returned (.agg #[.float .f64 0, .float .f64 9218868437227405312]) ∧ Below w.heap.size w w' := by
 have H1 := Lib.hid (fun w => wide_sp a w)
 have I := Lib.hid (fun w => inf_pos 1 (by decide) w)
 rw [h] at H1
 clear h
 go_enter Try.func63, Try.ntmps63
 go_wp2_with fail
 obtain ⟨W, hW, K0, K1, hB, hz⟩ := box2 w 28 28 #[Value.float FloatKind.f64 a.lo, Value.float FloatKind.f64 a.hi] #[Value.float FloatKind.f64 0, Value.float FloatKind.f64 0]
 rw [← hW]
 have K0 := Lib.hid K0
 have K1 := Lib.hid K1
 have HB := Lib.hid hB
 clear hW hB hz
 have HO := Lib.hid (show ∀ w', Hd W (w.heap.size + 1) 28 2 w' → (Hd W (w.heap.size + 1) 28 2 w' ∧ w'.cell? ⟨w.heap.size, 0, none⟩ = some (Value.float FloatKind.f64 a.lo) ∧ w'.cell? ⟨w.heap.size, 1, none⟩ = some (Value.float FloatKind.f64 a.hi) ∧ w'.cell? ⟨w.heap.size + 1, 0, none⟩ = some (cellAt w' ⟨w.heap.size + 1, 0, none⟩) ∧ w'.frozen? ⟨w.heap.size + 1, 0, none⟩ = false ∧ w'.cell? ⟨w.heap.size + 1, 1, none⟩ = some (cellAt w' ⟨w.heap.size + 1, 1, none⟩) ∧ w'.frozen? ⟨w.heap.size + 1, 1, none⟩ = false) from fun w' h => ⟨h, (h.blk K0.out (by omega)).cell 0, (h.blk K0.out (by omega)).cell 1, (h.at_ 0 (by decide)).1, (h.at_ 0 (by decide)).2, (h.at_ 1 (by decide)).1, (h.at_ 1 (by decide)).2⟩)
 have D0 := Lib.hid (show Hd W (w.heap.size + 1) 28 2 W from Hd.start K1.out)
 refine (H1.out _).mono ?_
 rintro r w1 ⟨rfl, hb⟩
 have D1 := Lib.hid (Hd.call D0.out hb)
 clear hb
 obtain ⟨-, q0, q1, q2, q3, q4, q5⟩ := HO.out _ D1.out
 have z1 := Hd.lt D1.out
 go_wp2_with fail
 refine (I.out _).mono ?_
 rintro r w' ⟨rfl, rfl⟩
 go_wp2_with fail
 (try simp only [Exit.inBlock, Exit.then])
 have hF := (Hd.set (Hd.set D1.out 0 (.float .f64 0)) 1 (.float .f64 9218868437227405312))
 exact bodyPost_ret (resS rfl _ _ (w.heap.size + 1) (.float .f64 0) (.float .f64 9218868437227405312) rfl (Hd.wrote2 hF)) rfl ⟨rfl, Hd.below hF HB.out (by omega)⟩
theorem sqr_h (a : Sp) (h : a.wide = false) (k : has0 a = true) (w : World) : Calls Try.prog 63 #[.agg #[.float .f64 a.lo, .float .f64 a.hi]] w fun r w' => r = .returned (.agg #[.float .f64 0, .float .f64 (mulS a a).hi]) ∧ Below w.heap.size w w' := by
 have H1 := Lib.hid (fun w => wide_sp a w)
 have H2 := Lib.hid (fun w => mul_sp a a w)
 rw [h] at H1
 have B1 := le0_gd a.vd.l
 have B2 := ge0_gd a.vd.h
 have B3 : decide (Z a.lo ≤ 0) = true ∧ decide (0 ≤ Z a.hi) = true := by unfold has0 at k; simpa using k
 generalize decide (Z a.lo ≤ 0) = p1 at *
 generalize decide (0 ≤ Z a.hi) = p2 at *
 generalize mulS a a = s at *
 clear h k
 obtain ⟨rfl, rfl⟩ := B3
 go_enter Try.func63, Try.ntmps63
 go_wp2_with fail
 obtain ⟨W, hW, K0, K1, hB, hz⟩ := box2 w 28 28 #[Value.float FloatKind.f64 a.lo, Value.float FloatKind.f64 a.hi] #[Value.float FloatKind.f64 0, Value.float FloatKind.f64 0]
 rw [← hW]
 have K0 := Lib.hid K0
 have K1 := Lib.hid K1
 have HB := Lib.hid hB
 clear hW hB hz
 have HO := Lib.hid (show ∀ w', Hd W (w.heap.size + 1) 28 2 w' → (Hd W (w.heap.size + 1) 28 2 w' ∧ w'.cell? ⟨w.heap.size, 0, none⟩ = some (Value.float FloatKind.f64 a.lo) ∧ w'.cell? ⟨w.heap.size, 1, none⟩ = some (Value.float FloatKind.f64 a.hi) ∧ w'.cell? ⟨w.heap.size + 1, 0, none⟩ = some (cellAt w' ⟨w.heap.size + 1, 0, none⟩) ∧ w'.frozen? ⟨w.heap.size + 1, 0, none⟩ = false ∧ w'.cell? ⟨w.heap.size + 1, 1, none⟩ = some (cellAt w' ⟨w.heap.size + 1, 1, none⟩) ∧ w'.frozen? ⟨w.heap.size + 1, 1, none⟩ = false) from fun w' h => ⟨h, (h.blk K0.out (by omega)).cell 0, (h.blk K0.out (by omega)).cell 1, (h.at_ 0 (by decide)).1, (h.at_ 0 (by decide)).2, (h.at_ 1 (by decide)).1, (h.at_ 1 (by decide)).2⟩)
 have D0 := Lib.hid (show Hd W (w.heap.size + 1) 28 2 W from Hd.start K1.out)
 refine (H1.out _).mono ?_
 rintro r w1 ⟨rfl, hb⟩
 have D1 := Lib.hid (Hd.call D0.out hb)
 clear hb
 obtain ⟨-, q0, q1, q2, q3, q4, q5⟩ := HO.out _ D1.out
 have z1 := Hd.lt D1.out
 go_wp2_with fail
 refine (H2.out _).mono ?_
 rintro r w2 ⟨rfl, hb⟩
 have D2 := Lib.hid (Hd.call D1.out hb)
 clear hb
 clear q0 q1 q2 q3 q4 q5
 obtain ⟨-, q0, q1, q2, q3, q4, q5⟩ := HO.out _ D2.out
 have z2 := Hd.lt D2.out
 have hz9 := z2
 have y0 : w.heap.size < w2.heap.size := by omega
 obtain ⟨g, hg⟩ : ∃ g, w2.heap.size = g := ⟨_, rfl⟩
 obtain ⟨V, hV⟩ : ∃ V, w2.alloc (.cells #[Value.float FloatKind.f64 s.lo, Value.float FloatKind.f64 s.hi] 28) = V := ⟨_, rfl⟩
 have O0 : Blk V g 28 #[Value.float FloatKind.f64 s.lo, Value.float FloatKind.f64 s.hi] := by rw [← hV, ← hg]; exact Blk.new_at _ _ _ rfl
 have E0 := Lib.hid (hV ▸ Hd.alloc D2.out _ : Hd W (w.heap.size + 1) 28 2 V)
 rw [hg] at hz9 y0
 obtain ⟨o0, o1, o2, o3⟩ := O0.both
 clear q0 q1 q2 q3 q4 q5 z2
 obtain ⟨-, q0, q1, q2, q3, q4, q5⟩ := HO.out _ E0.out
 have O0' := Lib.hid O0
 clear O0
 obtain ⟨V1, hV1⟩ : ∃ V1, V.setCell ⟨g, 0, none⟩ (.float .f64 0) = V1 := ⟨_, rfl⟩
 have O1 := (hV1 ▸ Blk.set_ O0'.out 0 _ : Blk V1 g 28 #[.float .f64 0, .float .f64 s.hi])
 have E1 := Lib.hid (hV1 ▸ Hd.far E0.out (by omega) 0 _ : Hd W (w.heap.size + 1) 28 2 V1)
 obtain ⟨r0, r1, r2, r3⟩ := O1.both
 obtain ⟨-, p0, p1, p2, p3, p4, p5⟩ := HO.out _ E1.out
 go_wp2_with fail
 (try simp only [Exit.inBlock, Exit.then])
 have hF := Hd.set (Hd.set E1.out 0 (.float .f64 0)) 1 (.float .f64 s.hi)
 exact bodyPost_ret (resS rfl _ _ (w.heap.size + 1) (.float .f64 0) (.float .f64 s.hi) rfl (Hd.wrote2 hF)) rfl ⟨rfl, Hd.below hF HB.out (by omega)⟩
theorem sqr_n (a : Sp) (h : a.wide = false) (k : has0 a = false) (w : World) : Calls Try.prog 63 #[.agg #[.float .f64 a.lo, .float .f64 a.hi]] w fun r w' => r = .returned (.agg #[.float .f64 (mulS a a).lo, .float .f64 (mulS a a).hi]) ∧ Below w.heap.size w w' := by
 have H1 := Lib.hid (fun w => wide_sp a w)
 have H2 := Lib.hid (fun w => mul_sp a a w)
 rw [h] at H1
 have B1 := le0_gd a.vd.l
 have B2 := ge0_gd a.vd.h
 have B3 : (decide (Z a.lo ≤ 0) = false) ∨ (decide (Z a.lo ≤ 0) = true ∧ decide (0 ≤ Z a.hi) = false) := by
   unfold has0 at k
   cases p : decide (Z a.lo ≤ 0)
   · exact Or.inl rfl
   · rw [p, Bool.true_and] at k
     exact Or.inr ⟨rfl, k⟩
 generalize decide (Z a.lo ≤ 0) = p1 at *
 generalize decide (0 ≤ Z a.hi) = p2 at *
 generalize mulS a a = s at *
 clear h k
 rcases B3 with rfl | ⟨rfl, rfl⟩
 all_goals
   go_enter Try.func63, Try.ntmps63
   go_wp2_with fail
   obtain ⟨W, hW, K0, K1, hB, hz⟩ := box2 w 28 28 #[Value.float FloatKind.f64 a.lo, Value.float FloatKind.f64 a.hi] #[Value.float FloatKind.f64 0, Value.float FloatKind.f64 0]
   rw [← hW]
   have K0 := Lib.hid K0
   have K1 := Lib.hid K1
   have HB := Lib.hid hB
   clear hW hB hz
   have HO := Lib.hid (show ∀ w', Hd W (w.heap.size + 1) 28 2 w' → (Hd W (w.heap.size + 1) 28 2 w' ∧ w'.cell? ⟨w.heap.size, 0, none⟩ = some (Value.float FloatKind.f64 a.lo) ∧ w'.cell? ⟨w.heap.size, 1, none⟩ = some (Value.float FloatKind.f64 a.hi) ∧ w'.cell? ⟨w.heap.size + 1, 0, none⟩ = some (cellAt w' ⟨w.heap.size + 1, 0, none⟩) ∧ w'.frozen? ⟨w.heap.size + 1, 0, none⟩ = false ∧ w'.cell? ⟨w.heap.size + 1, 1, none⟩ = some (cellAt w' ⟨w.heap.size + 1, 1, none⟩) ∧ w'.frozen? ⟨w.heap.size + 1, 1, none⟩ = false) from fun w' h => ⟨h, (h.blk K0.out (by omega)).cell 0, (h.blk K0.out (by omega)).cell 1, (h.at_ 0 (by decide)).1, (h.at_ 0 (by decide)).2, (h.at_ 1 (by decide)).1, (h.at_ 1 (by decide)).2⟩)
   have D0 := Lib.hid (show Hd W (w.heap.size + 1) 28 2 W from Hd.start K1.out)
   refine (H1.out _).mono ?_
   rintro r w1 ⟨rfl, hb⟩
   have D1 := Lib.hid (Hd.call D0.out hb)
   clear hb
   obtain ⟨-, q0, q1, q2, q3, q4, q5⟩ := HO.out _ D1.out
   have z1 := Hd.lt D1.out
   go_wp2_with fail
   refine (H2.out _).mono ?_
   rintro r w2 ⟨rfl, hb⟩
   have D2 := Lib.hid (Hd.call D1.out hb)
   clear hb
   clear q0 q1 q2 q3 q4 q5
   obtain ⟨-, q0, q1, q2, q3, q4, q5⟩ := HO.out _ D2.out
   have z2 := Hd.lt D2.out
   have hz9 := z2
   have y0 : w.heap.size < w2.heap.size := by omega
   obtain ⟨g, hg⟩ : ∃ g, w2.heap.size = g := ⟨_, rfl⟩
   obtain ⟨V, hV⟩ : ∃ V, w2.alloc (.cells #[Value.float FloatKind.f64 s.lo, Value.float FloatKind.f64 s.hi] 28) = V := ⟨_, rfl⟩
   have O0 : Blk V g 28 #[Value.float FloatKind.f64 s.lo, Value.float FloatKind.f64 s.hi] := by rw [← hV, ← hg]; exact Blk.new_at _ _ _ rfl
   have E0 := Lib.hid (hV ▸ Hd.alloc D2.out _ : Hd W (w.heap.size + 1) 28 2 V)
   rw [hg] at hz9 y0
   obtain ⟨o0, o1, o2, o3⟩ := O0.both
   clear q0 q1 q2 q3 q4 q5 z2
   obtain ⟨-, q0, q1, q2, q3, q4, q5⟩ := HO.out _ E0.out
   have O0' := Lib.hid O0
   clear O0
   go_wp2_with fail
   (try simp only [Exit.inBlock, Exit.then])
   have hF := Hd.set (Hd.set E0.out 0 (.float .f64 s.lo)) 1 (.float .f64 s.hi)
   exact bodyPost_ret (resS rfl _ _ (w.heap.size + 1) (.float .f64 s.lo) (.float .f64 s.hi) rfl (Hd.wrote2 hF)) rfl ⟨rfl, Hd.below hF HB.out (by omega)⟩
theorem sqr_sp (a : Sp) (w : World) : Calls Try.prog 63 #[.agg #[.float .f64 a.lo, .float .f64 a.hi]] w fun r w' => r = .returned (.agg #[.float .f64 (sqrS a).lo, .float .f64 (sqrS a).hi]) ∧ Below w.heap.size w w' := by
 cases h : a.wide
 · cases k : has0 a
   · rw [sqrS_not h k]; exact sqr_n a h k w
   · rw [sqrS_has h k]; exact sqr_h a h k w
 · rw [sqrS_wide h]; exact sqr_w a h w
end Go.Proofs.Ytnljfcebmgifdaa
namespace Go.Proofs.Ytnljfcebmgifdaa
open Go.RowKit Fl
theorem bx1 (w : World) (t1 : TypeId) (c1 : Array Value) : ∃ W, W = w.alloc (.cells c1 t1) ∧ Blk W w.heap.size t1 c1 ∧ Below w.heap.size w W ∧ W.heap.size = w.heap.size + 1 :=
 ⟨_, rfl, Blk.new_at _ _ _ rfl, (Below.refl _ _).alloc (Nat.le_refl _) _, by simp⟩
theorem bx2 (w : World) (t1 t2 : TypeId) (c1 c2 : Array Value) : ∃ W, W = (w.alloc (.cells c1 t1)).alloc (.cells c2 t2) ∧ Blk W w.heap.size t1 c1 ∧ Blk W (w.heap.size + 1) t2 c2 ∧ Below w.heap.size w W ∧ W.heap.size = w.heap.size + 1 + 1 := box2 w t1 t2 c1 c2
theorem bx3 (w : World) (t1 t2 t3 : TypeId) (c1 c2 c3 : Array Value) : ∃ W, W = ((w.alloc (.cells c1 t1)).alloc (.cells c2 t2)).alloc (.cells c3 t3) ∧ Blk W w.heap.size t1 c1 ∧ Blk W (w.heap.size + 1) t2 c2 ∧ Blk W (w.heap.size + 1 + 1) t3 c3 ∧ Below w.heap.size w W ∧ W.heap.size = w.heap.size + 1 + 1 + 1 := box3 w t1 t2 t3 c1 c2 c3
theorem bx4 (w : World) (t1 t2 t3 t4 : TypeId) (c1 c2 c3 c4 : Array Value) : ∃ W, W = (((w.alloc (.cells c1 t1)).alloc (.cells c2 t2)).alloc (.cells c3 t3)).alloc (.cells c4 t4) ∧ Blk W w.heap.size t1 c1 ∧ Blk W (w.heap.size + 1) t2 c2 ∧ Blk W (w.heap.size + 1 + 1) t3 c3 ∧ Blk W (w.heap.size + 1 + 1 + 1) t4 c4 ∧ Below w.heap.size w W ∧ W.heap.size = w.heap.size + 1 + 1 + 1 + 1 := by
 obtain ⟨W, rfl, k0, k1, k2, hb, hz⟩ := box3 w t1 t2 t3 c1 c2 c3
 exact ⟨_, rfl, k0.alloc _, k1.alloc _, k2.alloc _, Blk.new_at _ _ _ (by omega), hb.alloc (by omega) _, by simp⟩
theorem order_self {a : Nat} (h : Gd a) : (FloatKind.f64.format.order a a == some .eq) = true := by
 rw [eqb h h]; exact decide_eq_true rfl
end Go.Proofs.Ytnljfcebmgifdaa
namespace Go.Proofs.Ytnljfcebmgifdaa
open Go.RowKit Fl
end Go.Proofs.Ytnljfcebmgifdaa
namespace Go.Proofs.Ytnljfcebmgifdaa
open Go.RowKit Fl
theorem ofS_fin {x : Nat} (h : x < 18446744073709551616) (f : fin x = true) : (ofS x).lo = pl x ∧ (ofS x).hi = pl x := by
 unfold ofS
 rw [dif_pos ⟨h, f⟩]
 exact ⟨rfl, rfl⟩
theorem ofS_not {x : Nat} (f : fin x = false) : ofS x = allS := by
 unfold ofS
 rw [dif_neg (by rw [f]; simp)]
theorem of_sp (x : Nat) (hx : x < 18446744073709551616) (w : World) : Calls Try.prog 64 #[.float .f64 x] w fun r w' => r = .returned (.agg #[.float .f64 (ofS x).lo, .float .f64 (ofS x).hi]) ∧ Below w.heap.size w w' := by
 have H1 := Lib.hid (fun w => number_any x hx w)
 have H2 := Lib.hid (fun w => all_below w)
 cases f : fin x
 · rw [ofS_not f]
   rw [f] at H1
   show Calls _ _ _ _ fun r w' => r = .returned (.agg #[.float .f64 18442240474082181120, .float .f64 9218868437227405312]) ∧ Below w.heap.size w w'
   clear f hx
   go_enter Try.func64, Try.ntmps64
   go_wp2_with fail
   obtain ⟨W, hW, K0, hB, hz⟩ := bx1 w 28 #[Value.float FloatKind.f64 0, Value.float FloatKind.f64 0]
   rw [← hW]
   have K0 := Lib.hid K0
   have HB := Lib.hid hB
   clear hW hB hz
   have HO := Lib.hid (show ∀ w', Hd W (w.heap.size) 28 2 w' → (Hd W (w.heap.size) 28 2 w' ∧ w'.cell? ⟨w.heap.size, 0, none⟩ = some (cellAt w' ⟨w.heap.size, 0, none⟩) ∧ w'.frozen? ⟨w.heap.size, 0, none⟩ = false ∧ w'.cell? ⟨w.heap.size, 1, none⟩ = some (cellAt w' ⟨w.heap.size, 1, none⟩) ∧ w'.frozen? ⟨w.heap.size, 1, none⟩ = false) from fun w' h => ⟨h, (h.at_ 0 (by decide)).1, (h.at_ 0 (by decide)).2, (h.at_ 1 (by decide)).1, (h.at_ 1 (by decide)).2⟩)
   have D0 := Lib.hid (show Hd W (w.heap.size) 28 2 W from Hd.start K0.out)
   refine (H1.out _).mono ?_
   rintro r w' ⟨rfl, rfl⟩
   obtain ⟨-, q0, q1, q2, q3⟩ := HO.out _ D0.out
   have z0 := Hd.lt D0.out
   go_wp2_with fail
   refine (H2.out _).mono ?_
   rintro r w1 ⟨rfl, hb⟩
   have D1 := Lib.hid (Hd.call D0.out hb)
   clear hb q0 q1 q2 q3
   obtain ⟨-, q0, q1, q2, q3⟩ := HO.out _ D1.out
   have z1 := Hd.lt D1.out
   go_wp2_with fail
   (try simp only [Exit.inBlock, Exit.then])
   have hF := (Hd.set (Hd.set D1.out 0 (.float .f64 18442240474082181120)) 1 (.float .f64 9218868437227405312))
   exact bodyPost_ret (resS rfl _ _ (w.heap.size) (.float .f64 18442240474082181120) (.float .f64 9218868437227405312) rfl (Hd.wrote2 hF)) rfl ⟨rfl, Hd.below hF HB.out (by omega)⟩
 · obtain ⟨e1, e2⟩ := ofS_fin hx f
   rw [e1, e2]
   rw [f] at H1
   have hn := nan_of_fin f
   have hd : floatBits .add .f64 x 0 = some (pl x) := add_zero x hx hn
   have hr := fun (t : TypeId) (w : World) => run_float_arith (P := Try.prog) w .add t .f64 _ _ _ hd
   clear hd e1 e2 hn f hx H2
   generalize pl x = p at *
   go_enter Try.func64, Try.ntmps64
   go_wp2_with fail
   obtain ⟨W, hW, K0, hB, hz⟩ := bx1 w 28 #[Value.float FloatKind.f64 0, Value.float FloatKind.f64 0]
   rw [← hW]
   have K0 := Lib.hid K0
   have HB := Lib.hid hB
   clear hW hB hz
   have HO := Lib.hid (show ∀ w', Hd W (w.heap.size) 28 2 w' → (Hd W (w.heap.size) 28 2 w' ∧ w'.cell? ⟨w.heap.size, 0, none⟩ = some (cellAt w' ⟨w.heap.size, 0, none⟩) ∧ w'.frozen? ⟨w.heap.size, 0, none⟩ = false ∧ w'.cell? ⟨w.heap.size, 1, none⟩ = some (cellAt w' ⟨w.heap.size, 1, none⟩) ∧ w'.frozen? ⟨w.heap.size, 1, none⟩ = false) from fun w' h => ⟨h, (h.at_ 0 (by decide)).1, (h.at_ 0 (by decide)).2, (h.at_ 1 (by decide)).1, (h.at_ 1 (by decide)).2⟩)
   have D0 := Lib.hid (show Hd W (w.heap.size) 28 2 W from Hd.start K0.out)
   refine (H1.out _).mono ?_
   rintro r w' ⟨rfl, rfl⟩
   obtain ⟨-, q0, q1, q2, q3⟩ := HO.out _ D0.out
   have z0 := Hd.lt D0.out
   go_wp2_with fail
   (try simp only [Exit.inBlock, Exit.then])
   have hF := (Hd.set (Hd.set D0.out 0 (.float .f64 p)) 1 (.float .f64 p))
   exact bodyPost_ret (resS rfl _ _ (w.heap.size) (.float .f64 p) (.float .f64 p) rfl (Hd.wrote2 hF)) rfl ⟨rfl, Hd.below hF HB.out (by omega)⟩
theorem rof_sp (x : Nat) (hx : x < 18446744073709551616) (w : World) : Calls Try.prog 50 #[.float .f64 x] w fun r w' => r = .returned (.agg #[.float .f64 (ofS x).lo, .float .f64 (ofS x).hi]) ∧ Below w.heap.size w w' := by
 have H1 := Lib.hid (fun w => rnum_any x hx w)
 have H2 := Lib.hid (fun w => rall_below w)
 cases f : fin x
 · rw [ofS_not f]
   rw [f] at H1
   show Calls _ _ _ _ fun r w' => r = .returned (.agg #[.float .f64 18442240474082181120, .float .f64 9218868437227405312]) ∧ Below w.heap.size w w'
   clear f hx
   go_enter Try.func50, Try.ntmps50
   go_wp2_with fail
   obtain ⟨W, hW, K0, hB, hz⟩ := bx1 w 28 #[Value.float FloatKind.f64 0, Value.float FloatKind.f64 0]
   rw [← hW]
   have K0 := Lib.hid K0
   have HB := Lib.hid hB
   clear hW hB hz
   have HO := Lib.hid (show ∀ w', Hd W (w.heap.size) 28 2 w' → (Hd W (w.heap.size) 28 2 w' ∧ w'.cell? ⟨w.heap.size, 0, none⟩ = some (cellAt w' ⟨w.heap.size, 0, none⟩) ∧ w'.frozen? ⟨w.heap.size, 0, none⟩ = false ∧ w'.cell? ⟨w.heap.size, 1, none⟩ = some (cellAt w' ⟨w.heap.size, 1, none⟩) ∧ w'.frozen? ⟨w.heap.size, 1, none⟩ = false) from fun w' h => ⟨h, (h.at_ 0 (by decide)).1, (h.at_ 0 (by decide)).2, (h.at_ 1 (by decide)).1, (h.at_ 1 (by decide)).2⟩)
   have D0 := Lib.hid (show Hd W (w.heap.size) 28 2 W from Hd.start K0.out)
   refine (H1.out _).mono ?_
   rintro r w1 ⟨rfl, k, rfl⟩
   have D1 := Lib.hid (Hd.call D0.out (below_drewN (Below.refl _ _) k))
   go_wp2_with fail
   refine (H2.out _).mono ?_
   rintro r w2 ⟨rfl, hb⟩
   have D2 := Lib.hid (Hd.call D1.out hb)
   clear hb
   obtain ⟨-, q0, q1, q2, q3⟩ := HO.out _ D2.out
   have z2 := Hd.lt D2.out
   go_wp2_with fail
   (try simp only [Exit.inBlock, Exit.then])
   have hF := (Hd.set (Hd.set D2.out 0 (.float .f64 18442240474082181120)) 1 (.float .f64 9218868437227405312))
   exact bodyPost_ret (resS rfl _ _ (w.heap.size) (.float .f64 18442240474082181120) (.float .f64 9218868437227405312) rfl (Hd.wrote2 hF)) rfl ⟨rfl, Hd.below hF HB.out (by omega)⟩
 · obtain ⟨e1, e2⟩ := ofS_fin hx f
   rw [e1, e2]
   rw [f] at H1
   have hn := nan_of_fin f
   have H3 := Lib.hid (fun w => zeroed_any x hx hn w)
   have H1 := Lib.hid (fun w => rnum_good x hx f w)
   clear e1 e2 hn f hx H2
   generalize pl x = p at *
   go_enter Try.func50, Try.ntmps50
   go_wp2_with fail
   obtain ⟨W, hW, K0, hB, hz⟩ := bx1 w 28 #[Value.float FloatKind.f64 0, Value.float FloatKind.f64 0]
   rw [← hW]
   have K0 := Lib.hid K0
   have HB := Lib.hid hB
   clear hW hB hz
   have HO := Lib.hid (show ∀ w', Hd W (w.heap.size) 28 2 w' → (Hd W (w.heap.size) 28 2 w' ∧ w'.cell? ⟨w.heap.size, 0, none⟩ = some (cellAt w' ⟨w.heap.size, 0, none⟩) ∧ w'.frozen? ⟨w.heap.size, 0, none⟩ = false ∧ w'.cell? ⟨w.heap.size, 1, none⟩ = some (cellAt w' ⟨w.heap.size, 1, none⟩) ∧ w'.frozen? ⟨w.heap.size, 1, none⟩ = false) from fun w' h => ⟨h, (h.at_ 0 (by decide)).1, (h.at_ 0 (by decide)).2, (h.at_ 1 (by decide)).1, (h.at_ 1 (by decide)).2⟩)
   have D0 := Lib.hid (show Hd W (w.heap.size) 28 2 W from Hd.start K0.out)
   refine (H1.out _).mono ?_
   rintro r w' ⟨rfl, rfl⟩
   go_wp2_with fail
   refine (H3.out _).mono ?_
   rintro r w' ⟨rfl, rfl⟩
   go_wp2_with fail
   refine (H3.out _).mono ?_
   rintro r w' ⟨rfl, rfl⟩
   obtain ⟨-, q0, q1, q2, q3⟩ := HO.out _ D0.out
   have z0 := Hd.lt D0.out
   go_wp2_with fail
   (try simp only [Exit.inBlock, Exit.then])
   have hF := (Hd.set (Hd.set D0.out 0 (.float .f64 p)) 1 (.float .f64 p))
   exact bodyPost_ret (resS rfl _ _ (w.heap.size) (.float .f64 p) (.float .f64 p) rfl (Hd.wrote2 hF)) rfl ⟨rfl, Hd.below hF HB.out (by omega)⟩
end Go.Proofs.Ytnljfcebmgifdaa
namespace Go.Proofs.Ytnljfcebmgifdaa
open Go.RowKit Fl
end Go.Proofs.Ytnljfcebmgifdaa
namespace Go.Proofs.Ytnljfcebmgifdaa
open Go.RowKit Fl
end Go.Proofs.Ytnljfcebmgifdaa
