/- Shaken: Gd Ya Yb Yc Yd Ta Uc. -/
import Derived.Test.YtnljfcebmgifdaaZRacdef
import Derived.Test.YtnljfcebmgifdaaZRabcf
import Derived.Test.YtnljfcebmgifdaaZYe
set_option maxRecDepth 100000
set_option maxHeartbeats 8000000
set_option linter.unusedVariables false
set_option linter.unusedSimpArgs false
namespace Go.Proofs.Ytnljfcebmgifdaa
open Fl
end Go.Proofs.Ytnljfcebmgifdaa
namespace Go.Proofs.Ytnljfcebmgifdaa
open Fl
theorem sq_rat {a b : Nat} : Z b * Z b ≤ Z a * (2 ^ BB : Nat) ↔ fv b * fv b ≤ fv a := by
 have hu := UU_pos
 have h1 : fv b * fv b = ((Z b * Z b : Int) : Rat) / (UU * UU) := by
   have := UU_ne
   unfold fv
   rw [Rat.intCast_mul]
   grind
 have h2 : fv a = ((Z a * (2 ^ BB : Nat) : Int) : Rat) / (UU * UU) := by
   have := UU_ne
   unfold fv
   rw [Rat.intCast_mul, Rat.intCast_natCast, show ((2 ^ BB : Nat) : Rat) = UU from rfl]
   grind
 rw [h1, h2, div_le_div_pos (Rat.mul_pos hu hu), Rat.intCast_le_intCast]
theorem rat_sq {a b : Nat} : Z a * (2 ^ BB : Nat) ≤ Z b * Z b ↔ fv a ≤ fv b * fv b := by
 have hu := UU_pos
 have h1 : fv b * fv b = ((Z b * Z b : Int) : Rat) / (UU * UU) := by
   have := UU_ne
   unfold fv
   rw [Rat.intCast_mul]
   grind
 have h2 : fv a = ((Z a * (2 ^ BB : Nat) : Int) : Rat) / (UU * UU) := by
   have := UU_ne
   unfold fv
   rw [Rat.intCast_mul, Rat.intCast_natCast, show ((2 ^ BB : Nat) : Rat) = UU from rfl]
   grind
 rw [h1, h2, div_le_div_pos (Rat.mul_pos hu hu), Rat.intCast_le_intCast]
end Go.Proofs.Ytnljfcebmgifdaa
namespace Go.Proofs.Ytnljfcebmgifdaa
open Fl
end Go.Proofs.Ytnljfcebmgifdaa
namespace Go.Proofs.Ytnljfcebmgifdaa
open Fl
theorem fv_mx0 (a : Nat) : fv (mx a 0) = max (fv a) 0 := by
 rw [Rat.max_def]
 by_cases h : fv a ≤ 0
 · rw [if_pos h]
   have hz := fv_nonpos.1 h
   unfold fv
   rw [mx_Z, Z00, show max (Z a) 0 = 0 by omega]
   rw [Rat.intCast_zero, Rat.div_def, Rat.zero_mul]
 · rw [if_neg h]
   have hz : ¬ Z a ≤ 0 := fun k => h (fv_nonpos.2 k)
   unfold fv
   rw [mx_Z, Z00, show max (Z a) 0 = Z a by omega]
/-- The ends of a root. -/
theorem sqrtS_lo {a : Sp} (w : a.wide = false) (h : 0 ≤ Z a.hi) : 0 ≤ fv (sqrtS a).lo ∧ fv (sqrtS a).lo * fv (sqrtS a).lo ≤ max (fv a.lo) 0 := by
 have ⟨f1, f2⟩ := Sp.fins w
 have d := sqrt_dn (mx0_fin f1) mx0_nn
 unfold sqrtS
 rw [dif_pos ⟨w, h⟩]
 refine ⟨fv_nonneg.2 d.nn, ?_⟩
 rw [← fv_mx0]
 exact sq_rat.1 d.lo
theorem sqrtS_hi {a : Sp} (w : a.wide = false) (h : 0 ≤ Z a.hi) : (sqrtS a).hi = PI ∨ (0 ≤ fv (sqrtS a).hi ∧ fv a.hi ≤ fv (sqrtS a).hi * fv (sqrtS a).hi) := by
 have ⟨f1, f2⟩ := Sp.fins w
 have u := sqrt_up f2 h
 unfold sqrtS
 rw [dif_pos ⟨w, h⟩]
 exact u.hi.imp id fun e => ⟨fv_nonneg.2 u.nn, rat_sq.1 e⟩
end Go.Proofs.Ytnljfcebmgifdaa
namespace Go.Proofs.Ytnljfcebmgifdaa
open Fl Ieee
end Go.Proofs.Ytnljfcebmgifdaa
set_option linter.unusedVariables false
set_option linter.unusedSimpArgs false
namespace Go.Proofs.Ytnljfcebmgifdaa
open Fl
theorem in_vof (a b c : Nat) : InV (fv a) (fv b) (fv c) (vOf a b c) := ⟨in_of a, in_of b, in_of c⟩
/-- A number in both. -/
theorem InS.share {x : Rat} {a b : Sp} (h : InS x a) (k : InS x b) : Z a.lo ≤ Z b.hi := by
 rcases h.lo with e | e
 · rw [e]; have := (Z_range b.vd.h.nn).1; rw [Z_NI]; exact this
 · rcases k.hi with f | f
   · rw [f]; have := (Z_range a.vd.l.nn).2; rw [Z_PI]; exact this
   · exact fv_le.1 (Rat.le_trans e f)
/-- A root that is above 0: numbers of it whose squares are not above, and not below. -/
theorem root_two {q : Sp} {S : Rat} (hS : 0 ≤ S) (h : InS S q) (hl : 0 < Z (sqrtS q).lo) :
   ∃ a b : Rat, 0 < a ∧ 0 < b ∧ InS a (sqrtS q) ∧ InS b (sqrtS q) ∧ a * a ≤ S ∧ S ≤ b * b := by
 have hw : q.wide = false ∧ 0 ≤ Z q.hi := by
   apply Classical.byContradiction
   intro k
   unfold sqrtS at hl
   rw [dif_neg k] at hl
   have : Z allS.lo = -(rv INF : Int) := Z_NI
   rw [this] at hl
   omega
 have ⟨f1, f2⟩ := Sp.fins hw.1
 have ⟨l1, l2⟩ := sqrtS_lo hw.1 hw.2
 have hp : 0 < fv (sqrtS q).lo := fv_pos.2 hl
 have e1 := h.lo' f1
 have e2 := h.hi' f2
 have k1 : fv (sqrtS q).lo * fv (sqrtS q).lo ≤ S := by grind
 rcases sqrtS_hi hw.1 hw.2 with k | ⟨k, k'⟩
 · refine ⟨fv (sqrtS q).lo, max (fv (sqrtS q).lo) (S + 1), hp, by grind, Sp.in_lo _, ⟨Or.inr (by grind), Or.inl k⟩, k1, ?_⟩
   have : S + 1 ≤ max (fv (sqrtS q).lo) (S + 1) := by grind
   generalize max (fv (sqrtS q).lo) (S + 1) = m at *
   have h0 : 0 ≤ m - S - 1 := by grind
   have h1 := Rat.mul_nonneg h0 (show (0 : Rat) ≤ m by grind)
   have h2 := sq_nonneg S
   have h3 := Rat.mul_nonneg h0 hS
   grind
 · have := Sp.fv_le (sqrtS q)
   exact ⟨fv (sqrtS q).lo, fv (sqrtS q).hi, hp, by grind, Sp.in_lo _, Sp.in_hi _, k1, by grind⟩
end Go.Proofs.Ytnljfcebmgifdaa
set_option linter.unusedVariables false
set_option linter.unusedSimpArgs false
namespace Go.Proofs.Ytnljfcebmgifdaa
open Fl
theorem inv_sq {S a : Rat} (ha : 0 < a) (h : a * a ≤ S) : 1 ≤ S * (1 / a * (1 / a)) := by
 have e := rat_inv (Rat.ne_of_gt ha) rfl
 have p : 0 ≤ 1 / a * (1 / a) := sq_nonneg _
 generalize 1 / a = i at *
 have := Rat.mul_nonneg (show (0 : Rat) ≤ S - a * a by grind) p
 have e2 : a * a * (i * i) = 1 := by grind
 grind
theorem inv_sq' {S a : Rat} (ha : 0 < a) (h : S ≤ a * a) : S * (1 / a * (1 / a)) ≤ 1 := by
 have e := rat_inv (Rat.ne_of_gt ha) rfl
 have p : 0 ≤ 1 / a * (1 / a) := sq_nonneg _
 generalize 1 / a = i at *
 have := Rat.mul_nonneg (show (0 : Rat) ≤ a * a - S by grind) p
 have e2 : a * a * (i * i) = 1 := by grind
 grind
theorem inv_pos' {a : Rat} (ha : 0 < a) : 0 < 1 / a := by
 rw [Rat.div_def, Rat.one_mul]; exact Rat.inv_pos.2 ha
end Go.Proofs.Ytnljfcebmgifdaa
set_option linter.unusedVariables false
set_option linter.unusedSimpArgs false
namespace Go.Proofs.Ytnljfcebmgifdaa
open Fl
/-- A number in both, each by each. -/
structure ShV (a b : V3) : Prop where
 x1 : Z a.x.lo ≤ Z b.x.hi
 x2 : Z b.x.lo ≤ Z a.x.hi
 y1 : Z a.y.lo ≤ Z b.y.hi
 y2 : Z b.y.lo ≤ Z a.y.hi
 z1 : Z a.z.lo ≤ Z b.z.hi
 z2 : Z b.z.lo ≤ Z a.z.hi
theorem InV.share {x y z x' y' z' : Rat} {a b : V3} (h : InV x y z a) (k : InV x' y' z' b) (e1 : x = x') (e2 : y = y') (e3 : z = z') : ShV a b := by
 subst e1 e2 e3
 exact ⟨h.x.share k.x, k.x.share h.x, h.y.share k.y, k.y.share h.y, h.z.share k.z, k.z.share h.z⟩
end Go.Proofs.Ytnljfcebmgifdaa
set_option linter.unusedVariables false
set_option linter.unusedSimpArgs false
namespace Go.Proofs.Ytnljfcebmgifdaa
open Fl
theorem zeroS_lo : zeroS.lo = 0 := rfl
theorem zeroS_hi : zeroS.hi = 0 := rfl
theorem zeroV_x : zeroV.x = zeroS := rfl
theorem zeroV_y : zeroV.y = zeroS := rfl
theorem zeroV_z : zeroV.z = zeroS := rfl
theorem zeroA_a : zeroA.a = zeroV := rfl
theorem zeroA_b : zeroA.b = zeroV := rfl
theorem zeroA_c : zeroA.c = zeroV := rfl
theorem zeroA_t : zeroA.t = zeroV := rfl
end Go.Proofs.Ytnljfcebmgifdaa
set_option linter.unusedVariables false
set_option linter.unusedSimpArgs false
namespace Go.Proofs.Ytnljfcebmgifdaa
open Go.RowKit Fl
theorem rsqrV_any (a : V3) (w : World) : Calls Try.prog 17 #[Value.agg #[.float .f64 a.x.lo, .float .f64 a.x.hi, .float .f64 a.y.lo, .float .f64 a.y.hi, .float .f64 a.z.lo, .float .f64 a.z.hi]] w fun r w' => r = .returned (.agg #[.float .f64 (vSqr a).lo, .float .f64 (vSqr a).hi]) ∧ Below w.heap.size w w' := by
 have C0 := Lib.hid (fun w => rsqr_sp a.x w)
 obtain ⟨p0, hp0⟩ : ∃ z_, sqrS a.x = z_ := ⟨_, rfl⟩
 rw [hp0] at C0
 have C1 := Lib.hid (fun w => rsqr_sp a.y w)
 obtain ⟨p1, hp1⟩ : ∃ z_, sqrS a.y = z_ := ⟨_, rfl⟩
 rw [hp1] at C1
 have C2 := Lib.hid (fun w => rsqr_sp a.z w)
 obtain ⟨p2, hp2⟩ : ∃ z_, sqrS a.z = z_ := ⟨_, rfl⟩
 rw [hp2] at C2
 have C3 := Lib.hid (fun w => rsumV_any (⟨p0, p1, p2⟩ : V3) w)
 obtain ⟨p3, hp3⟩ : ∃ z_, vSum (⟨p0, p1, p2⟩ : V3) = z_ := ⟨_, rfl⟩
 rw [hp3] at C3
 have hT : vSqr a = p3 := by
   subst hp0 hp1 hp2 hp3; rfl
 rw [hT]
 clear hT
 clear hp0 hp1 hp2 hp3
 go_enter Try.func17, Try.ntmps17
 go_wp2_with fail
 obtain ⟨W, hW, K0, K1, hB, hz⟩ := bx2 w 30 28 (vc a) #[.float .f64 0, .float .f64 0]
 rw [← hW]
 have K0 := Lib.hid K0
 have K1 := Lib.hid K1
 have HB := Lib.hid hB
 clear hW hB hz
 have D1 := dr W
 refine wp_region_held (S := (fun w' => True ∧ CellsL w' (w.heap.size) 0 (vl a))) (by kernel_rfl) ?_
 change wpAnyH _ _ _ _ _ _ _ _ (World.drew _)
 obtain ⟨wd2, hwd⟩ : ∃ x, x = World.drew W := ⟨_, rfl⟩
 rw [← hwd]
 have D3 := Lib.hid (hwd ▸ Below.drew D1.out : Below W.heap.size W wd2)
 clear D1 hwd
 have hS4 : True ∧ CellsL wd2 (w.heap.size) 0 (vl a) := ⟨trivial, (kb K0 D3).cellsL 0 (vl a) rfl⟩
 refine tkq 0 (bm 12 1) hS4 ?_
 refine tke 1 (bm 12 3) hS4 ?_
 refine tkq 3 (bm 12 11) hS4 ?_
 refine tke 4 (bm 12 27) hS4 ?_
 refine tkq 6 (bm 12 91) hS4 ?_
 refine tke 7 (bm 12 219) hS4 ?_
 refine wpAnyH_oneN (i := 2) (l' := bm 12 223) rfl (by kernel_rfl) (by kernel_rfl) (by kernel_rfl) (fun K hK => ?_)
 go_simp
 go_at_call 69
 refine (C0.out _).mono ?_
 rintro r w11 ⟨rfl, hb⟩
 dsimp only
 have D12 := ds D3 hb
 clear D3
 clear hb
 have hS13 : True ∧ CellsL w11 (w.heap.size) 0 (vl a) := ⟨trivial, (kb K0 D12).cellsL 0 (vl a) rfl⟩
 refine hK _ _ hS13 ?_
 clear hK K hS4
 refine wpAnyH_oneN (i := 5) (l' := bm 12 255) rfl (by kernel_rfl) (by kernel_rfl) (by kernel_rfl) (fun K hK => ?_)
 go_simp
 go_at_call 69
 refine (C1.out _).mono ?_
 rintro r w14 ⟨rfl, hb⟩
 dsimp only
 have D15 := ds D12 hb
 clear D12
 clear hb
 have hS16 : True ∧ CellsL w14 (w.heap.size) 0 (vl a) := ⟨trivial, (kb K0 D15).cellsL 0 (vl a) rfl⟩
 refine hK _ _ hS16 ?_
 clear hK K hS13
 refine wpAnyH_oneN (i := 8) (l' := bm 12 511) rfl (by kernel_rfl) (by kernel_rfl) (by kernel_rfl) (fun K hK => ?_)
 go_simp
 go_at_call 69
 refine (C2.out _).mono ?_
 rintro r w17 ⟨rfl, hb⟩
 dsimp only
 have D18 := ds D15 hb
 clear D15
 clear hb
 have hS19 : True ∧ CellsL w17 (w.heap.size) 0 (vl a) := ⟨trivial, (kb K0 D18).cellsL 0 (vl a) rfl⟩
 refine hK _ _ hS19 ?_
 clear hK K hS16
 refine tkq 9 (bm 12 1023) hS19 ?_
 refine wpAnyH_oneN (i := 10) (l' := bm 12 2047) rfl (by kernel_rfl) (by kernel_rfl) (by kernel_rfl) (fun K hK => ?_)
 go_simp
 go_at_call 68
 refine (C3.out _).mono ?_
 rintro r w21 ⟨rfl, hb⟩
 dsimp only
 have D22 := ds D18 hb
 clear D18
 clear hb
 have hS23 : True ∧ CellsL w21 (w.heap.size) 0 (vl a) := ⟨trivial, (kb K0 D22).cellsL 0 (vl a) rfl⟩
 refine hK _ _ hS23 ?_
 clear hK K hS19
 refine wpAnyH_oneN (i := 11) (l' := bm 12 4095) rfl (by kernel_rfl) (by kernel_rfl) (by kernel_rfl) (fun K hK => ?_)
 have f26 := (kb K1 D22).cellsL 0 [.float .f64 0, .float .f64 0] rfl
 dsimp only [CellsL, al, vl, Nat.reduceAdd] at f26
 have u27 := (kb K1 D22).unfrozen
 obtain ⟨V24, hV25⟩ : ∃ V, setCells w21 (w.heap.size + 1) 0 [.float .f64 p3.lo, .float .f64 p3.hi] = V := ⟨_, rfl⟩
 have hv28 := hV25
 simp only [setCells, Nat.reduceAdd] at hv28
 have K29 := kf hV25 K0 D22 (by omega)
 have K30 := Lib.hid (show Blk V24 (w.heap.size + 1) 28 #[.float .f64 p3.lo, .float .f64 p3.hi] from (ks hV25 K1 D22).out)
 have HB31 := hbs hV25 HB D22 (by omega)
 have D32 := dr V24
 clear K0 K1 HB D22
 go_simp
 clear hV25 f26 u27 hv28
 have hS33 : True ∧ CellsL V24 (w.heap.size) 0 (vl a) := ⟨trivial, (kb K29 D32).cellsL 0 (vl a) rfl⟩
 refine hK _ _ hS33 ?_
 clear hK K hS23
 refine wpAnyH_done (by kernel_rfl) ?_ _
 clear hS33
 go_wp2_with fail
 (try simp only [Exit.inBlock, Exit.then])
 exact bodyPost_ret (res_c rfl _ _ (w.heap.size + 1) #[.float .f64 p3.lo, .float .f64 p3.hi] rfl (kb K30 D32) (by rw [info_Span]; rfl) Try.underlying28 rfl) rfl ⟨rfl, below_step HB31.out D32.out⟩
end Go.Proofs.Ytnljfcebmgifdaa
set_option linter.unusedVariables false
set_option linter.unusedSimpArgs false
namespace Go.Proofs.Ytnljfcebmgifdaa
open Go.RowKit Fl
def nmB (p q r : Nat) : Bool := vdB p p && vdB q q && vdB r r
theorem rnumbers_f (p q r : Nat) (hp : p < 18446744073709551616) (hq : q < 18446744073709551616) (hr : r < 18446744073709551616) (v0 : vdB p p = false) (w : World) : Calls Try.prog 12 #[Value.agg #[.float .f64 p, .float .f64 q, .float .f64 r]] w fun r w' => r = .returned (.bool false) ∧ Below w.heap.size w w' := by
 have C0 := Lib.hid (fun w => rvalid_any p p hp hp w)
 rw [v0] at C0
 go_enter Try.func12, Try.ntmps12
 go_wp2_with fail
 obtain ⟨W, hW, K0, hB, hz⟩ := bx1 w 24 #[.float .f64 p, .float .f64 q, .float .f64 r]
 rw [← hW]
 have K0 := Lib.hid K0
 have HB := Lib.hid hB
 clear hW hB hz
 have D1 := dr W
 go_wp2_with fail
 refine wp_loop_rounds 1 ?_
 rw [rounds_succ]
 go_wp2_with fail
 refine wp_region_held (S := (fun w' => True ∧ CellsL w' (w.heap.size) 0 [.float .f64 p])) (by kernel_rfl) ?_
 change wpAnyH _ _ _ _ _ _ _ _ (World.drew _)
 obtain ⟨wd2, hwd⟩ : ∃ x, x = World.drew W := ⟨_, rfl⟩
 rw [← hwd]
 have D3 := Lib.hid (hwd ▸ Below.drew D1.out : Below W.heap.size W wd2)
 clear D1 hwd
 have hS4 : True ∧ CellsL wd2 (w.heap.size) 0 [.float .f64 p] := ⟨trivial, (kb K0 D3).cellsL 0 [.float .f64 p] rfl⟩
 refine tkq 0 (bm 9 1) hS4 ?_
 refine tkq 1 (bm 9 3) hS4 ?_
 refine tke 2 (bm 9 7) hS4 ?_
 refine tkq 3 (bm 9 15) hS4 ?_
 refine tkq 4 (bm 9 31) hS4 ?_
 refine tke 5 (bm 9 63) hS4 ?_
 refine tkq 6 (bm 9 127) hS4 ?_
 refine wpAnyH_oneN (i := 7) (l' := bm 9 255) rfl (by kernel_rfl) (by kernel_rfl) (by kernel_rfl) (fun K hK => ?_)
 go_simp
 go_at_call 51
 refine (C0.out _).mono ?_
 rintro r w12 ⟨rfl, hb⟩
 dsimp only
 have D13 := ds D3 hb
 clear D3
 clear hb
 have hS14 : True ∧ CellsL w12 (w.heap.size) 0 [.float .f64 p] := ⟨trivial, (kb K0 D13).cellsL 0 [.float .f64 p] rfl⟩
 refine hK _ _ hS14 ?_
 clear hK K hS4
 refine tkq 8 (bm 9 511) hS14 ?_
 refine wpAnyH_done (by kernel_rfl) ?_ _
 clear hS14
 go_wp2_with fail
 go_ret
 exact ⟨rfl, below_step HB.out D13.out⟩
theorem rnumbers_tf (p q r : Nat) (hp : p < 18446744073709551616) (hq : q < 18446744073709551616) (hr : r < 18446744073709551616) (v0 : vdB p p = true) (v1 : vdB q q = false) (w : World) : Calls Try.prog 12 #[Value.agg #[.float .f64 p, .float .f64 q, .float .f64 r]] w fun r w' => r = .returned (.bool false) ∧ Below w.heap.size w w' := by
 have C0 := Lib.hid (fun w => rvalid_any p p hp hp w)
 rw [v0] at C0
 have C1 := Lib.hid (fun w => rvalid_any q q hq hq w)
 rw [v1] at C1
 go_enter Try.func12, Try.ntmps12
 go_wp2_with fail
 obtain ⟨W, hW, K0, hB, hz⟩ := bx1 w 24 #[.float .f64 p, .float .f64 q, .float .f64 r]
 rw [← hW]
 have K0 := Lib.hid K0
 have HB := Lib.hid hB
 clear hW hB hz
 have D1 := dr W
 go_wp2_with fail
 refine wp_loop_rounds 2 ?_
 rw [rounds_succ]
 go_wp2_with fail
 refine wp_region_held (S := (fun w' => True ∧ CellsL w' (w.heap.size) 0 [.float .f64 p])) (by kernel_rfl) ?_
 change wpAnyH _ _ _ _ _ _ _ _ (World.drew _)
 obtain ⟨wd2, hwd⟩ : ∃ x, x = World.drew W := ⟨_, rfl⟩
 rw [← hwd]
 have D3 := Lib.hid (hwd ▸ Below.drew D1.out : Below W.heap.size W wd2)
 clear D1 hwd
 have hS4 : True ∧ CellsL wd2 (w.heap.size) 0 [.float .f64 p] := ⟨trivial, (kb K0 D3).cellsL 0 [.float .f64 p] rfl⟩
 refine tkq 0 (bm 9 1) hS4 ?_
 refine tkq 1 (bm 9 3) hS4 ?_
 refine tke 2 (bm 9 7) hS4 ?_
 refine tkq 3 (bm 9 15) hS4 ?_
 refine tkq 4 (bm 9 31) hS4 ?_
 refine tke 5 (bm 9 63) hS4 ?_
 refine tkq 6 (bm 9 127) hS4 ?_
 refine wpAnyH_oneN (i := 7) (l' := bm 9 255) rfl (by kernel_rfl) (by kernel_rfl) (by kernel_rfl) (fun K hK => ?_)
 go_simp
 go_at_call 51
 refine (C0.out _).mono ?_
 rintro r w12 ⟨rfl, hb⟩
 dsimp only
 have D13 := ds D3 hb
 clear D3
 clear hb
 have hS14 : True ∧ CellsL w12 (w.heap.size) 0 [.float .f64 p] := ⟨trivial, (kb K0 D13).cellsL 0 [.float .f64 p] rfl⟩
 refine hK _ _ hS14 ?_
 clear hK K hS4
 refine tkq 8 (bm 9 511) hS14 ?_
 refine wpAnyH_done (by kernel_rfl) ?_ _
 clear hS14
 go_wp2_with fail
 rw [rounds_succ]
 go_wp2_with fail
 refine wp_region_held (S := (fun w' => True ∧ CellsL w' (w.heap.size) 1 [.float .f64 q])) (by kernel_rfl) ?_
 change wpAnyH _ _ _ _ _ _ _ _ (World.drew _)
 obtain ⟨wd16, hwd⟩ : ∃ x, x = World.drew w12 := ⟨_, rfl⟩
 rw [← hwd]
 have D17 := Lib.hid (hwd ▸ Below.drew D13.out : Below W.heap.size W wd16)
 clear D13 hwd
 have hS18 : True ∧ CellsL wd16 (w.heap.size) 1 [.float .f64 q] := ⟨trivial, (kb K0 D17).cellsL 1 [.float .f64 q] rfl⟩
 refine tkq 0 (bm 9 1) hS18 ?_
 refine tkq 1 (bm 9 3) hS18 ?_
 refine tke 2 (bm 9 7) hS18 ?_
 refine tkq 3 (bm 9 15) hS18 ?_
 refine tkq 4 (bm 9 31) hS18 ?_
 refine tke 5 (bm 9 63) hS18 ?_
 refine tkq 6 (bm 9 127) hS18 ?_
 refine wpAnyH_oneN (i := 7) (l' := bm 9 255) rfl (by kernel_rfl) (by kernel_rfl) (by kernel_rfl) (fun K hK => ?_)
 go_simp
 go_at_call 51
 refine (C1.out _).mono ?_
 rintro r w26 ⟨rfl, hb⟩
 dsimp only
 have D27 := ds D17 hb
 clear D17
 clear hb
 have hS28 : True ∧ CellsL w26 (w.heap.size) 1 [.float .f64 q] := ⟨trivial, (kb K0 D27).cellsL 1 [.float .f64 q] rfl⟩
 refine hK _ _ hS28 ?_
 clear hK K hS18
 refine tkq 8 (bm 9 511) hS28 ?_
 refine wpAnyH_done (by kernel_rfl) ?_ _
 clear hS28
 go_wp2_with fail
 go_ret
 exact ⟨rfl, below_step HB.out D27.out⟩
theorem rnumbers_ttf (p q r : Nat) (hp : p < 18446744073709551616) (hq : q < 18446744073709551616) (hr : r < 18446744073709551616) (v0 : vdB p p = true) (v1 : vdB q q = true) (v2 : vdB r r = false) (w : World) : Calls Try.prog 12 #[Value.agg #[.float .f64 p, .float .f64 q, .float .f64 r]] w fun r w' => r = .returned (.bool false) ∧ Below w.heap.size w w' := by
 have C0 := Lib.hid (fun w => rvalid_any p p hp hp w)
 rw [v0] at C0
 have C1 := Lib.hid (fun w => rvalid_any q q hq hq w)
 rw [v1] at C1
 have C2 := Lib.hid (fun w => rvalid_any r r hr hr w)
 rw [v2] at C2
 go_enter Try.func12, Try.ntmps12
 go_wp2_with fail
 obtain ⟨W, hW, K0, hB, hz⟩ := bx1 w 24 #[.float .f64 p, .float .f64 q, .float .f64 r]
 rw [← hW]
 have K0 := Lib.hid K0
 have HB := Lib.hid hB
 clear hW hB hz
 have D1 := dr W
 go_wp2_with fail
 refine wp_loop_rounds 3 ?_
 rw [rounds_succ]
 go_wp2_with fail
 refine wp_region_held (S := (fun w' => True ∧ CellsL w' (w.heap.size) 0 [.float .f64 p])) (by kernel_rfl) ?_
 change wpAnyH _ _ _ _ _ _ _ _ (World.drew _)
 obtain ⟨wd2, hwd⟩ : ∃ x, x = World.drew W := ⟨_, rfl⟩
 rw [← hwd]
 have D3 := Lib.hid (hwd ▸ Below.drew D1.out : Below W.heap.size W wd2)
 clear D1 hwd
 have hS4 : True ∧ CellsL wd2 (w.heap.size) 0 [.float .f64 p] := ⟨trivial, (kb K0 D3).cellsL 0 [.float .f64 p] rfl⟩
 refine tkq 0 (bm 9 1) hS4 ?_
 refine tkq 1 (bm 9 3) hS4 ?_
 refine tke 2 (bm 9 7) hS4 ?_
 refine tkq 3 (bm 9 15) hS4 ?_
 refine tkq 4 (bm 9 31) hS4 ?_
 refine tke 5 (bm 9 63) hS4 ?_
 refine tkq 6 (bm 9 127) hS4 ?_
 refine wpAnyH_oneN (i := 7) (l' := bm 9 255) rfl (by kernel_rfl) (by kernel_rfl) (by kernel_rfl) (fun K hK => ?_)
 go_simp
 go_at_call 51
 refine (C0.out _).mono ?_
 rintro r w12 ⟨rfl, hb⟩
 dsimp only
 have D13 := ds D3 hb
 clear D3
 clear hb
 have hS14 : True ∧ CellsL w12 (w.heap.size) 0 [.float .f64 p] := ⟨trivial, (kb K0 D13).cellsL 0 [.float .f64 p] rfl⟩
 refine hK _ _ hS14 ?_
 clear hK K hS4
 refine tkq 8 (bm 9 511) hS14 ?_
 refine wpAnyH_done (by kernel_rfl) ?_ _
 clear hS14
 go_wp2_with fail
 rw [rounds_succ]
 go_wp2_with fail
 refine wp_region_held (S := (fun w' => True ∧ CellsL w' (w.heap.size) 1 [.float .f64 q])) (by kernel_rfl) ?_
 change wpAnyH _ _ _ _ _ _ _ _ (World.drew _)
 obtain ⟨wd16, hwd⟩ : ∃ x, x = World.drew w12 := ⟨_, rfl⟩
 rw [← hwd]
 have D17 := Lib.hid (hwd ▸ Below.drew D13.out : Below W.heap.size W wd16)
 clear D13 hwd
 have hS18 : True ∧ CellsL wd16 (w.heap.size) 1 [.float .f64 q] := ⟨trivial, (kb K0 D17).cellsL 1 [.float .f64 q] rfl⟩
 refine tkq 0 (bm 9 1) hS18 ?_
 refine tkq 1 (bm 9 3) hS18 ?_
 refine tke 2 (bm 9 7) hS18 ?_
 refine tkq 3 (bm 9 15) hS18 ?_
 refine tkq 4 (bm 9 31) hS18 ?_
 refine tke 5 (bm 9 63) hS18 ?_
 refine tkq 6 (bm 9 127) hS18 ?_
 refine wpAnyH_oneN (i := 7) (l' := bm 9 255) rfl (by kernel_rfl) (by kernel_rfl) (by kernel_rfl) (fun K hK => ?_)
 go_simp
 go_at_call 51
 refine (C1.out _).mono ?_
 rintro r w26 ⟨rfl, hb⟩
 dsimp only
 have D27 := ds D17 hb
 clear D17
 clear hb
 have hS28 : True ∧ CellsL w26 (w.heap.size) 1 [.float .f64 q] := ⟨trivial, (kb K0 D27).cellsL 1 [.float .f64 q] rfl⟩
 refine hK _ _ hS28 ?_
 clear hK K hS18
 refine tkq 8 (bm 9 511) hS28 ?_
 refine wpAnyH_done (by kernel_rfl) ?_ _
 clear hS28
 go_wp2_with fail
 rw [rounds_succ]
 go_wp2_with fail
 refine wp_region_held (S := (fun w' => True ∧ CellsL w' (w.heap.size) 2 [.float .f64 r])) (by kernel_rfl) ?_
 change wpAnyH _ _ _ _ _ _ _ _ (World.drew _)
 obtain ⟨wd30, hwd⟩ : ∃ x, x = World.drew w26 := ⟨_, rfl⟩
 rw [← hwd]
 have D31 := Lib.hid (hwd ▸ Below.drew D27.out : Below W.heap.size W wd30)
 clear D27 hwd
 have hS32 : True ∧ CellsL wd30 (w.heap.size) 2 [.float .f64 r] := ⟨trivial, (kb K0 D31).cellsL 2 [.float .f64 r] rfl⟩
 refine tkq 0 (bm 9 1) hS32 ?_
 refine tkq 1 (bm 9 3) hS32 ?_
 refine tke 2 (bm 9 7) hS32 ?_
 refine tkq 3 (bm 9 15) hS32 ?_
 refine tkq 4 (bm 9 31) hS32 ?_
 refine tke 5 (bm 9 63) hS32 ?_
 refine tkq 6 (bm 9 127) hS32 ?_
 refine wpAnyH_oneN (i := 7) (l' := bm 9 255) rfl (by kernel_rfl) (by kernel_rfl) (by kernel_rfl) (fun K hK => ?_)
 go_simp
 go_at_call 51
 refine (C2.out _).mono ?_
 rintro r w40 ⟨rfl, hb⟩
 dsimp only
 have D41 := ds D31 hb
 clear D31
 clear hb
 have hS42 : True ∧ CellsL w40 (w.heap.size) 2 [.float .f64 r] := ⟨trivial, (kb K0 D41).cellsL 2 [.float .f64 r] rfl⟩
 refine hK _ _ hS42 ?_
 clear hK K hS32
 refine tkq 8 (bm 9 511) hS42 ?_
 refine wpAnyH_done (by kernel_rfl) ?_ _
 clear hS42
 go_wp2_with fail
 go_ret
 exact ⟨rfl, below_step HB.out D41.out⟩
theorem rnumbers_ttt (p q r : Nat) (hp : p < 18446744073709551616) (hq : q < 18446744073709551616) (hr : r < 18446744073709551616) (v0 : vdB p p = true) (v1 : vdB q q = true) (v2 : vdB r r = true) (w : World) : Calls Try.prog 12 #[Value.agg #[.float .f64 p, .float .f64 q, .float .f64 r]] w fun r w' => r = .returned (.bool true) ∧ Below w.heap.size w w' := by
 have C0 := Lib.hid (fun w => rvalid_any p p hp hp w)
 rw [v0] at C0
 have C1 := Lib.hid (fun w => rvalid_any q q hq hq w)
 rw [v1] at C1
 have C2 := Lib.hid (fun w => rvalid_any r r hr hr w)
 rw [v2] at C2
 go_enter Try.func12, Try.ntmps12
 go_wp2_with fail
 obtain ⟨W, hW, K0, hB, hz⟩ := bx1 w 24 #[.float .f64 p, .float .f64 q, .float .f64 r]
 rw [← hW]
 have K0 := Lib.hid K0
 have HB := Lib.hid hB
 clear hW hB hz
 have D1 := dr W
 go_wp2_with fail
 refine wp_loop_rounds 4 ?_
 rw [rounds_succ]
 go_wp2_with fail
 refine wp_region_held (S := (fun w' => True ∧ CellsL w' (w.heap.size) 0 [.float .f64 p])) (by kernel_rfl) ?_
 change wpAnyH _ _ _ _ _ _ _ _ (World.drew _)
 obtain ⟨wd2, hwd⟩ : ∃ x, x = World.drew W := ⟨_, rfl⟩
 rw [← hwd]
 have D3 := Lib.hid (hwd ▸ Below.drew D1.out : Below W.heap.size W wd2)
 clear D1 hwd
 have hS4 : True ∧ CellsL wd2 (w.heap.size) 0 [.float .f64 p] := ⟨trivial, (kb K0 D3).cellsL 0 [.float .f64 p] rfl⟩
 refine tkq 0 (bm 9 1) hS4 ?_
 refine tkq 1 (bm 9 3) hS4 ?_
 refine tke 2 (bm 9 7) hS4 ?_
 refine tkq 3 (bm 9 15) hS4 ?_
 refine tkq 4 (bm 9 31) hS4 ?_
 refine tke 5 (bm 9 63) hS4 ?_
 refine tkq 6 (bm 9 127) hS4 ?_
 refine wpAnyH_oneN (i := 7) (l' := bm 9 255) rfl (by kernel_rfl) (by kernel_rfl) (by kernel_rfl) (fun K hK => ?_)
 go_simp
 go_at_call 51
 refine (C0.out _).mono ?_
 rintro r w12 ⟨rfl, hb⟩
 dsimp only
 have D13 := ds D3 hb
 clear D3
 clear hb
 have hS14 : True ∧ CellsL w12 (w.heap.size) 0 [.float .f64 p] := ⟨trivial, (kb K0 D13).cellsL 0 [.float .f64 p] rfl⟩
 refine hK _ _ hS14 ?_
 clear hK K hS4
 refine tkq 8 (bm 9 511) hS14 ?_
 refine wpAnyH_done (by kernel_rfl) ?_ _
 clear hS14
 go_wp2_with fail
 rw [rounds_succ]
 go_wp2_with fail
 refine wp_region_held (S := (fun w' => True ∧ CellsL w' (w.heap.size) 1 [.float .f64 q])) (by kernel_rfl) ?_
 change wpAnyH _ _ _ _ _ _ _ _ (World.drew _)
 obtain ⟨wd16, hwd⟩ : ∃ x, x = World.drew w12 := ⟨_, rfl⟩
 rw [← hwd]
 have D17 := Lib.hid (hwd ▸ Below.drew D13.out : Below W.heap.size W wd16)
 clear D13 hwd
 have hS18 : True ∧ CellsL wd16 (w.heap.size) 1 [.float .f64 q] := ⟨trivial, (kb K0 D17).cellsL 1 [.float .f64 q] rfl⟩
 refine tkq 0 (bm 9 1) hS18 ?_
 refine tkq 1 (bm 9 3) hS18 ?_
 refine tke 2 (bm 9 7) hS18 ?_
 refine tkq 3 (bm 9 15) hS18 ?_
 refine tkq 4 (bm 9 31) hS18 ?_
 refine tke 5 (bm 9 63) hS18 ?_
 refine tkq 6 (bm 9 127) hS18 ?_
 refine wpAnyH_oneN (i := 7) (l' := bm 9 255) rfl (by kernel_rfl) (by kernel_rfl) (by kernel_rfl) (fun K hK => ?_)
 go_simp
 go_at_call 51
 refine (C1.out _).mono ?_
 rintro r w26 ⟨rfl, hb⟩
 dsimp only
 have D27 := ds D17 hb
 clear D17
 clear hb
 have hS28 : True ∧ CellsL w26 (w.heap.size) 1 [.float .f64 q] := ⟨trivial, (kb K0 D27).cellsL 1 [.float .f64 q] rfl⟩
 refine hK _ _ hS28 ?_
 clear hK K hS18
 refine tkq 8 (bm 9 511) hS28 ?_
 refine wpAnyH_done (by kernel_rfl) ?_ _
 clear hS28
 go_wp2_with fail
 rw [rounds_succ]
 go_wp2_with fail
 refine wp_region_held (S := (fun w' => True ∧ CellsL w' (w.heap.size) 2 [.float .f64 r])) (by kernel_rfl) ?_
 change wpAnyH _ _ _ _ _ _ _ _ (World.drew _)
 obtain ⟨wd30, hwd⟩ : ∃ x, x = World.drew w26 := ⟨_, rfl⟩
 rw [← hwd]
 have D31 := Lib.hid (hwd ▸ Below.drew D27.out : Below W.heap.size W wd30)
 clear D27 hwd
 have hS32 : True ∧ CellsL wd30 (w.heap.size) 2 [.float .f64 r] := ⟨trivial, (kb K0 D31).cellsL 2 [.float .f64 r] rfl⟩
 refine tkq 0 (bm 9 1) hS32 ?_
 refine tkq 1 (bm 9 3) hS32 ?_
 refine tke 2 (bm 9 7) hS32 ?_
 refine tkq 3 (bm 9 15) hS32 ?_
 refine tkq 4 (bm 9 31) hS32 ?_
 refine tke 5 (bm 9 63) hS32 ?_
 refine tkq 6 (bm 9 127) hS32 ?_
 refine wpAnyH_oneN (i := 7) (l' := bm 9 255) rfl (by kernel_rfl) (by kernel_rfl) (by kernel_rfl) (fun K hK => ?_)
 go_simp
 go_at_call 51
 refine (C2.out _).mono ?_
 rintro r w40 ⟨rfl, hb⟩
 dsimp only
 have D41 := ds D31 hb
 clear D31
 clear hb
 have hS42 : True ∧ CellsL w40 (w.heap.size) 2 [.float .f64 r] := ⟨trivial, (kb K0 D41).cellsL 2 [.float .f64 r] rfl⟩
 refine hK _ _ hS42 ?_
 clear hK K hS32
 refine tkq 8 (bm 9 511) hS42 ?_
 refine wpAnyH_done (by kernel_rfl) ?_ _
 clear hS42
 go_wp2_with fail
 rw [rounds_succ]
 go_wp2_with fail
 go_ret
 exact ⟨rfl, below_step HB.out D41.out⟩
theorem rnumbers_any (p q r : Nat) (hp : p < 18446744073709551616) (hq : q < 18446744073709551616) (hr : r < 18446744073709551616) (w : World) : Calls Try.prog 12 #[.agg #[.float .f64 p, .float .f64 q, .float .f64 r]] w fun e w' => e = .returned (.bool (nmB p q r)) ∧ Below w.heap.size w w' := by
 unfold nmB
 cases v0 : vdB p p
 · exact rnumbers_f p q r hp hq hr v0 w
 · cases v1 : vdB q q
   · exact rnumbers_tf p q r hp hq hr v0 v1 w
   · cases v2 : vdB r r
     · exact rnumbers_ttf p q r hp hq hr v0 v1 v2 w
     · exact rnumbers_ttt p q r hp hq hr v0 v1 v2 w
end Go.Proofs.Ytnljfcebmgifdaa
