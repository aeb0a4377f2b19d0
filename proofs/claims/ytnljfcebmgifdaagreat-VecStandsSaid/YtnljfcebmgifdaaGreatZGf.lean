/- Shaken: Gg Gf. -/
import Derived.Test.YtnljfcebmgifdaaGreatZSe
import Derived.Test.YtnljfcebmgifdaaGreatZGd
import Derived.Laws.FloatArith
import GoSem.Extern.MathFloor
set_option linter.unusedVariables false
set_option linter.unusedSimpArgs false
namespace Go.Proofs.YtnljfcebmgifdaaGreat
open Ieee
namespace Fl
/-- The whole part of a size; is something behind it? -/
def whole (b : Nat) : Nat := rv (mg b) / 2 ^ BB
def rest (b : Nat) : Bool := rv (mg b) % 2 ^ BB != 0
end Fl
end Go.Proofs.YtnljfcebmgifdaaGreat
namespace Go.Proofs.YtnljfcebmgifdaaGreat
open Go.RowKit Ieee
namespace Fl
end Fl
end Go.Proofs.YtnljfcebmgifdaaGreat
namespace Go.Proofs.YtnljfcebmgifdaaGreat
open Go.RowKit Ieee
end Go.Proofs.YtnljfcebmgifdaaGreat
namespace Go.Proofs.YtnljfcebmgifdaaGreat
open Fl Ieee
def UI : Int := ((2 ^ BB : Nat) : Int)
/-- The whole number at or below a word's number. -/
def flq (b : Nat) : Int := Z b / UI
/-- What Floor tells. -/
structure FlSure (a : Sp) (n : Int) : Prop where
 lo : fin a.lo = true
 hi : fin a.hi = true
 el : flq a.lo = n
 eh : flq a.hi = n
 ge : -9007199254740992 ≤ n
 le : n ≤ 9007199254740992
theorem FlSure.uniq {a : Sp} {n m : Int} (h : FlSure a n) (k : FlSure a m) : n = m := h.el.symm.trans k.el
end Go.Proofs.YtnljfcebmgifdaaGreat
set_option linter.unusedVariables false
set_option linter.unusedSimpArgs false
namespace Go.Proofs.YtnljfcebmgifdaaGreat
open Go.RowKit Fl
@[go_sem] theorem fld_span0 (x y : Nat) (w : World) : (Instr.field 24 (.agg #[.float .f64 x, .float .f64 y]) 0).run Tryz.prog w = .ok (.float .f64 x) w := by kernel_rfl
@[go_sem] theorem fld_span1 (x y : Nat) (w : World) : (Instr.field 24 (.agg #[.float .f64 x, .float .f64 y]) 1).run Tryz.prog w = .ok (.float .f64 y) w := by kernel_rfl
end Go.Proofs.YtnljfcebmgifdaaGreat
namespace Go.Proofs.YtnljfcebmgifdaaGreat
open Go.RowKit Fl
theorem bx1 (w : World) (t1 : TypeId) (c1 : Array Value) : ∃ W, W = w.alloc (.cells c1 t1) ∧ Blk W w.heap.size t1 c1 ∧ Below w.heap.size w W ∧ W.heap.size = w.heap.size + 1 :=
 ⟨_, rfl, Blk.new_at _ _ _ rfl, (Below.refl _ _).alloc (Nat.le_refl _) _, by simp⟩
theorem bx2 (w : World) (t1 t2 : TypeId) (c1 c2 : Array Value) : ∃ W, W = (w.alloc (.cells c1 t1)).alloc (.cells c2 t2) ∧ Blk W w.heap.size t1 c1 ∧ Blk W (w.heap.size + 1) t2 c2 ∧ Below w.heap.size w W ∧ W.heap.size = w.heap.size + 1 + 1 := box2 w t1 t2 c1 c2
theorem bx3 (w : World) (t1 t2 t3 : TypeId) (c1 c2 c3 : Array Value) : ∃ W, W = ((w.alloc (.cells c1 t1)).alloc (.cells c2 t2)).alloc (.cells c3 t3) ∧ Blk W w.heap.size t1 c1 ∧ Blk W (w.heap.size + 1) t2 c2 ∧ Blk W (w.heap.size + 1 + 1) t3 c3 ∧ Below w.heap.size w W ∧ W.heap.size = w.heap.size + 1 + 1 + 1 := box3 w t1 t2 t3 c1 c2 c3
theorem bx4 (w : World) (t1 t2 t3 t4 : TypeId) (c1 c2 c3 c4 : Array Value) : ∃ W, W = (((w.alloc (.cells c1 t1)).alloc (.cells c2 t2)).alloc (.cells c3 t3)).alloc (.cells c4 t4) ∧ Blk W w.heap.size t1 c1 ∧ Blk W (w.heap.size + 1) t2 c2 ∧ Blk W (w.heap.size + 1 + 1) t3 c3 ∧ Blk W (w.heap.size + 1 + 1 + 1) t4 c4 ∧ Below w.heap.size w W ∧ W.heap.size = w.heap.size + 1 + 1 + 1 + 1 := by
 obtain ⟨W, rfl, k0, k1, k2, hb, hz⟩ := box3 w t1 t2 t3 c1 c2 c3
 exact ⟨_, rfl, k0.alloc _, k1.alloc _, k2.alloc _, Blk.new_at _ _ _ (by omega), hb.alloc (by omega) _, by simp⟩
theorem order_self {a : Nat} (h : Gd a) : (FloatKind.f64.format.order a a == some .eq) = true := by
 rw [eqb h h]; exact decide_eq_true rfl
end Go.Proofs.YtnljfcebmgifdaaGreat
namespace Go.Proofs.YtnljfcebmgifdaaGreat
open Go.RowKit Fl
end Go.Proofs.YtnljfcebmgifdaaGreat
namespace Go.Proofs.YtnljfcebmgifdaaGreat
open Go.RowKit Fl
theorem rsame_any (x y : Nat) (w : World) : Calls Tryz.prog 19 #[.agg #[.float .f64 x, .float .f64 y], .agg #[.float .f64 x, .float .f64 y]] w fun r w' => r = .returned (.bool true) ∧ Below w.heap.size w w' := by
 go_enter Tryz.func19, Tryz.ntmps19
 go_wp2_with fail
 go_quiet (fail)
 go_wp2_with fail
 go_ret
 exact ⟨ret_bool (by simp), below_drewN (below_new2 w _ _) _⟩
theorem rsame_sp (a : Sp) (w : World) : Calls Tryz.prog 19 #[.agg #[.float .f64 a.lo, .float .f64 a.hi], .agg #[.float .f64 a.lo, .float .f64 a.hi]] w fun r w' => r = .returned (.bool true) ∧ Below w.heap.size w w' := rsame_any a.lo a.hi w
theorem ofS_fin {x : Nat} (h : x < 18446744073709551616) (f : fin x = true) : (ofS x).lo = pl x ∧ (ofS x).hi = pl x := by
 unfold ofS
 rw [dif_pos ⟨h, f⟩]
 exact ⟨rfl, rfl⟩
theorem ofS_not {x : Nat} (f : fin x = false) : ofS x = allS := by
 unfold ofS
 rw [dif_neg (by rw [f]; simp)]
theorem of_sp (x : Nat) (hx : x < 18446744073709551616) (w : World) : Calls Tryz.prog 66 #[.float .f64 x] w fun r w' => r = .returned (.agg #[.float .f64 (ofS x).lo, .float .f64 (ofS x).hi]) ∧ Below w.heap.size w w' := by
 have H1 := Lib.hid (fun w => number_any x hx w)
 have H2 := Lib.hid (fun w => all_below w)
 cases f : fin x
 · rw [ofS_not f]
   rw [f] at H1
   show Calls _ _ _ _ fun r w' => r = .returned (.agg #[.float .f64 18442240474082181120, .float .f64 9218868437227405312]) ∧ Below w.heap.size w w'
   clear f hx
   go_enter Tryz.func66, Tryz.ntmps66
   go_wp2_with fail
   obtain ⟨W, hW, K0, hB, hz⟩ := bx1 w 24 #[Value.float FloatKind.f64 0, Value.float FloatKind.f64 0]
   rw [← hW]
   have K0 := Lib.hid K0
   have HB := Lib.hid hB
   clear hW hB hz
   have HO := Lib.hid (show ∀ w', Hd W (w.heap.size) 24 2 w' → (Hd W (w.heap.size) 24 2 w' ∧ w'.cell? ⟨w.heap.size, 0, none⟩ = some (cellAt w' ⟨w.heap.size, 0, none⟩) ∧ w'.frozen? ⟨w.heap.size, 0, none⟩ = false ∧ w'.cell? ⟨w.heap.size, 1, none⟩ = some (cellAt w' ⟨w.heap.size, 1, none⟩) ∧ w'.frozen? ⟨w.heap.size, 1, none⟩ = false) from fun w' h => ⟨h, (h.at_ 0 (by decide)).1, (h.at_ 0 (by decide)).2, (h.at_ 1 (by decide)).1, (h.at_ 1 (by decide)).2⟩)
   have D0 := Lib.hid (show Hd W (w.heap.size) 24 2 W from Hd.start K0.out)
   refine (H1.out _).mono ?_
   rintro r w' ⟨rfl, rfl⟩
   obtain ⟨-, q0, q1, q2, q3⟩ := HO.out _ D0.out
   have z0 := Hd.lt D0.out
   go_wp2_with fail
   refine (H2.out _).mono ?_
   rintro r w1 ⟨rfl, hb⟩
   have D1 := Lib.hid (Hd.call D0.out hb)
   clear hb q0 q1 q2 q3
   obtain ⟨-, q0, q1, q2, q3⟩ := HO.out _ D1.out
   have z1 := Hd.lt D1.out
   go_wp2_with fail
   (try simp only [Exit.inBlock, Exit.then])
   have hF := (Hd.set (Hd.set D1.out 0 (.float .f64 18442240474082181120)) 1 (.float .f64 9218868437227405312))
   exact bodyPost_ret (resS rfl _ _ (w.heap.size) (.float .f64 18442240474082181120) (.float .f64 9218868437227405312) rfl (Hd.wrote2 hF)) rfl ⟨rfl, Hd.below hF HB.out (by omega)⟩
 · obtain ⟨e1, e2⟩ := ofS_fin hx f
   rw [e1, e2]
   rw [f] at H1
   have hn := nan_of_fin f
   have hd : floatBits .add .f64 x 0 = some (pl x) := add_zero x hx hn
   have hr := fun (t : TypeId) (w : World) => run_float_arith (P := Tryz.prog) w .add t .f64 _ _ _ hd
   clear hd e1 e2 hn f hx H2
   generalize pl x = p at *
   go_enter Tryz.func66, Tryz.ntmps66
   go_wp2_with fail
   obtain ⟨W, hW, K0, hB, hz⟩ := bx1 w 24 #[Value.float FloatKind.f64 0, Value.float FloatKind.f64 0]
   rw [← hW]
   have K0 := Lib.hid K0
   have HB := Lib.hid hB
   clear hW hB hz
   have HO := Lib.hid (show ∀ w', Hd W (w.heap.size) 24 2 w' → (Hd W (w.heap.size) 24 2 w' ∧ w'.cell? ⟨w.heap.size, 0, none⟩ = some (cellAt w' ⟨w.heap.size, 0, none⟩) ∧ w'.frozen? ⟨w.heap.size, 0, none⟩ = false ∧ w'.cell? ⟨w.heap.size, 1, none⟩ = some (cellAt w' ⟨w.heap.size, 1, none⟩) ∧ w'.frozen? ⟨w.heap.size, 1, none⟩ = false) from fun w' h => ⟨h, (h.at_ 0 (by decide)).1, (h.at_ 0 (by decide)).2, (h.at_ 1 (by decide)).1, (h.at_ 1 (by decide)).2⟩)
   have D0 := Lib.hid (show Hd W (w.heap.size) 24 2 W from Hd.start K0.out)
   refine (H1.out _).mono ?_
   rintro r w' ⟨rfl, rfl⟩
   obtain ⟨-, q0, q1, q2, q3⟩ := HO.out _ D0.out
   have z0 := Hd.lt D0.out
   go_wp2_with fail
   (try simp only [Exit.inBlock, Exit.then])
   have hF := (Hd.set (Hd.set D0.out 0 (.float .f64 p)) 1 (.float .f64 p))
   exact bodyPost_ret (resS rfl _ _ (w.heap.size) (.float .f64 p) (.float .f64 p) rfl (Hd.wrote2 hF)) rfl ⟨rfl, Hd.below hF HB.out (by omega)⟩
theorem rof_sp (x : Nat) (hx : x < 18446744073709551616) (w : World) : Calls Tryz.prog 70 #[.float .f64 x] w fun r w' => r = .returned (.agg #[.float .f64 (ofS x).lo, .float .f64 (ofS x).hi]) ∧ Below w.heap.size w w' := by
 have H1 := Lib.hid (fun w => rnum_any x hx w)
 have H2 := Lib.hid (fun w => rall_below w)
 cases f : fin x
 · rw [ofS_not f]
   rw [f] at H1
   show Calls _ _ _ _ fun r w' => r = .returned (.agg #[.float .f64 18442240474082181120, .float .f64 9218868437227405312]) ∧ Below w.heap.size w w'
   clear f hx
   go_enter Tryz.func70, Tryz.ntmps70
   go_wp2_with fail
   obtain ⟨W, hW, K0, hB, hz⟩ := bx1 w 24 #[Value.float FloatKind.f64 0, Value.float FloatKind.f64 0]
   rw [← hW]
   have K0 := Lib.hid K0
   have HB := Lib.hid hB
   clear hW hB hz
   have HO := Lib.hid (show ∀ w', Hd W (w.heap.size) 24 2 w' → (Hd W (w.heap.size) 24 2 w' ∧ w'.cell? ⟨w.heap.size, 0, none⟩ = some (cellAt w' ⟨w.heap.size, 0, none⟩) ∧ w'.frozen? ⟨w.heap.size, 0, none⟩ = false ∧ w'.cell? ⟨w.heap.size, 1, none⟩ = some (cellAt w' ⟨w.heap.size, 1, none⟩) ∧ w'.frozen? ⟨w.heap.size, 1, none⟩ = false) from fun w' h => ⟨h, (h.at_ 0 (by decide)).1, (h.at_ 0 (by decide)).2, (h.at_ 1 (by decide)).1, (h.at_ 1 (by decide)).2⟩)
   have D0 := Lib.hid (show Hd W (w.heap.size) 24 2 W from Hd.start K0.out)
   refine (H1.out _).mono ?_
   rintro r w1 ⟨rfl, k, rfl⟩
   have D1 := Lib.hid (Hd.call D0.out (below_drewN (Below.refl _ _) k))
   go_wp2_with fail
   refine (H2.out _).mono ?_
   rintro r w2 ⟨rfl, hb⟩
   have D2 := Lib.hid (Hd.call D1.out hb)
   clear hb
   obtain ⟨-, q0, q1, q2, q3⟩ := HO.out _ D2.out
   have z2 := Hd.lt D2.out
   go_wp2_with fail
   (try simp only [Exit.inBlock, Exit.then])
   have hF := (Hd.set (Hd.set D2.out 0 (.float .f64 18442240474082181120)) 1 (.float .f64 9218868437227405312))
   exact bodyPost_ret (resS rfl _ _ (w.heap.size) (.float .f64 18442240474082181120) (.float .f64 9218868437227405312) rfl (Hd.wrote2 hF)) rfl ⟨rfl, Hd.below hF HB.out (by omega)⟩
 · obtain ⟨e1, e2⟩ := ofS_fin hx f
   rw [e1, e2]
   rw [f] at H1
   have hn := nan_of_fin f
   have H3 := Lib.hid (fun w => zeroed_any x hx hn w)
   have H1 := Lib.hid (fun w => rnum_good x hx f w)
   clear e1 e2 hn f hx H2
   generalize pl x = p at *
   go_enter Tryz.func70, Tryz.ntmps70
   go_wp2_with fail
   obtain ⟨W, hW, K0, hB, hz⟩ := bx1 w 24 #[Value.float FloatKind.f64 0, Value.float FloatKind.f64 0]
   rw [← hW]
   have K0 := Lib.hid K0
   have HB := Lib.hid hB
   clear hW hB hz
   have HO := Lib.hid (show ∀ w', Hd W (w.heap.size) 24 2 w' → (Hd W (w.heap.size) 24 2 w' ∧ w'.cell? ⟨w.heap.size, 0, none⟩ = some (cellAt w' ⟨w.heap.size, 0, none⟩) ∧ w'.frozen? ⟨w.heap.size, 0, none⟩ = false ∧ w'.cell? ⟨w.heap.size, 1, none⟩ = some (cellAt w' ⟨w.heap.size, 1, none⟩) ∧ w'.frozen? ⟨w.heap.size, 1, none⟩ = false) from fun w' h => ⟨h, (h.at_ 0 (by decide)).1, (h.at_ 0 (by decide)).2, (h.at_ 1 (by decide)).1, (h.at_ 1 (by decide)).2⟩)
   have D0 := Lib.hid (show Hd W (w.heap.size) 24 2 W from Hd.start K0.out)
   refine (H1.out _).mono ?_
   rintro r w' ⟨rfl, rfl⟩
   go_wp2_with fail
   refine (H3.out _).mono ?_
   rintro r w' ⟨rfl, rfl⟩
   go_wp2_with fail
   refine (H3.out _).mono ?_
   rintro r w' ⟨rfl, rfl⟩
   obtain ⟨-, q0, q1, q2, q3⟩ := HO.out _ D0.out
   have z0 := Hd.lt D0.out
   go_wp2_with fail
   (try simp only [Exit.inBlock, Exit.then])
   have hF := (Hd.set (Hd.set D0.out 0 (.float .f64 p)) 1 (.float .f64 p))
   exact bodyPost_ret (resS rfl _ _ (w.heap.size) (.float .f64 p) (.float .f64 p) rfl (Hd.wrote2 hF)) rfl ⟨rfl, Hd.below hF HB.out (by omega)⟩
end Go.Proofs.YtnljfcebmgifdaaGreat
namespace Go.Proofs.YtnljfcebmgifdaaGreat
open Go.RowKit Fl
end Go.Proofs.YtnljfcebmgifdaaGreat
namespace Go.Proofs.YtnljfcebmgifdaaGreat
open Go.RowKit Fl
end Go.Proofs.YtnljfcebmgifdaaGreat
