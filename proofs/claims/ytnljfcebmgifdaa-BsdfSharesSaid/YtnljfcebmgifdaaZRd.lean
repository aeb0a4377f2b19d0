/- Shaken: Yf Bs7. -/
import Derived.Test.YtnljfcebmgifdaaZRdf
set_option maxRecDepth 100000
set_option maxHeartbeats 8000000
set_option linter.unusedVariables false
set_option linter.unusedSimpArgs false
namespace Go.Proofs.Ytnljfcebmgifdaa
open Fl
theorem Z_half : 2 * Z WH = ((2 ^ BB : Nat) : Int) := by rw [BB_eq]; decide +kernel
theorem fv_half : 2 * fv WH = 1 := by
 have h : 2 * fv WH = fv 4607182418800017408 := by
   unfold fv
   rw [Z_one, ← Z_half, Rat.intCast_mul, Rat.div_def, Rat.div_def, Rat.mul_assoc]
   rfl
 rw [h, fv_one]
theorem quot_sq {x y : Rat} (hx : 0 < x) (hy : 0 < y) : 0 ≤ (x - y) / (x + y) * ((x - y) / (x + y)) ∧ (x - y) / (x + y) * ((x - y) / (x + y)) ≤ 1 := by
 refine ⟨sq_nonneg _, ?_⟩
 have hp : 0 < x + y := by grind
 have e : (x - y) / (x + y) = (x - y) * (1 / (x + y)) := by rw [Rat.div_def, Rat.div_def, Rat.one_mul]
 have e2 := rat_inv (Rat.ne_of_gt hp) rfl
 rw [e]
 generalize 1 / (x + y) = i at *
 have h1 := Rat.mul_nonneg (Rat.mul_nonneg (Rat.le_of_lt hx) (Rat.le_of_lt hy)) (sq_nonneg i)
 have e3 : (x + y) * (x + y) * (i * i) = 1 := by grind
 grind
/-- A number above 0 in what is made of one above 0. -/
theorem pos_in {x : Nat} (hx : x < 18446744073709551616) (hn : nan x = false) (h : 0 < Z x) : ∃ y : Rat, 0 < y ∧ InS y (ofS x) := by
 by_cases f : fin x = true
 · exact ⟨fv x, fv_pos.2 h, in_of x⟩
 · refine ⟨1, by decide, ?_⟩
   unfold ofS
   rw [dif_neg (fun k => f k.2)]
   exact in_all 1
theorem share_between {i o r : Nat} (hi : i < 18446744073709551616) (ho : o < 18446744073709551616) (hr : r < 18446744073709551616) (ni : nan i = false) (no : nan o = false) (nr : nan r = false) (pi : 0 < Z i) (po : 0 < Z o) (pr : 0 < Z r) :
   ∃ x : Rat, 0 ≤ x ∧ x ≤ 1 ∧ InS x (bdFr (ofS i) (ofS o) (ofS r)) := by
 obtain ⟨x, px, ix⟩ := pos_in hi ni pi
 obtain ⟨y, py, iy⟩ := pos_in ho no po
 obtain ⟨z, pz, iz⟩ := pos_in hr nr pr
 refine ⟨_, ?_, ?_, in_share ix iy iz⟩
 · have q1 := quot_sq (Rat.mul_pos pz px) py
   have q2 := quot_sq px (Rat.mul_pos pz py)
   have h := fv_half
   have hw : 0 ≤ fv WH := by grind
   exact Rat.mul_nonneg (by grind) hw
 · have q1 := quot_sq (Rat.mul_pos pz px) py
   have q2 := quot_sq px (Rat.mul_pos pz py)
   have h := fv_half
   have hw : 0 ≤ fv WH := by grind
   generalize (z * x - y) / (z * x + y) * ((z * x - y) / (z * x + y)) = s at *
   generalize (x - z * y) / (x + z * y) * ((x - z * y) / (x + z * y)) = t at *
   have := Rat.mul_nonneg (show (0 : Rat) ≤ 2 - (s + t) by grind) hw
   grind
end Go.Proofs.Ytnljfcebmgifdaa
set_option linter.unusedVariables false
set_option linter.unusedSimpArgs false
namespace Go.Proofs.Ytnljfcebmgifdaa
open Go.RowKit Fl
theorem le_ys {a b : Nat} (ha : Gd a) (hb : Gd b) (h : Z a ≤ Z b) : (FloatKind.f64.format.order a b == some .lt || FloatKind.f64.format.order a b == some .eq) = true := by
 rw [leb ha hb]; exact decide_eq_true h
theorem gdOneS : Gd 4607182418800017408 := gd_lit (by decide)
theorem gt0_raw {a : Nat} (ha : a < 18446744073709551616) (h : (FloatKind.f64.format.order a 0 == some .gt) = true) : nan a = false ∧ 0 < Z a := by
 cases hn : nan a
 · refine ⟨rfl, ?_⟩
   rw [show FloatKind.f64.format.order a 0 = Ieee.double.order a 0 from rfl, gt_eq ha (by decide) hn (by decide)] at h
   have := of_decide_eq_true h
   rw [show Z 0 = 0 by decide] at this
   exact this
 · rw [show FloatKind.f64.format.order a 0 = Ieee.double.order a 0 from rfl, order_none ha (by decide) (Or.inl hn)] at h
   exact absurd h (by decide)
theorem share_ends {i o q : Nat} (hi : i < 18446744073709551616) (ho : o < 18446744073709551616) (hq : q < 18446744073709551616) (e0 : (FloatKind.f64.format.order i 0 == some .gt) = true) (e1 : (FloatKind.f64.format.order o 0 == some .gt) = true) (e2 : (FloatKind.f64.format.order q 0 == some .gt) = true) :
   Z (bdFr (ofS i) (ofS o) (ofS q)).lo ≤ Z 4607182418800017408 ∧ 0 ≤ Z (bdFr (ofS i) (ofS o) (ofS q)).hi := by
 have ⟨a0, b0⟩ := gt0_raw hi e0
 have ⟨a1, b1⟩ := gt0_raw ho e1
 have ⟨a2, b2⟩ := gt0_raw hq e2
 obtain ⟨x, h0, h1, h⟩ := share_between hi ho hq a0 a1 a2 b0 b1 b2
 refine ⟨?_, ?_⟩
 · rcases h.lo with e | e
   · rw [e]; exact (by rw [Z_NI]; exact (Z_range gdOneS.nn).1)
   · have : fv (bdFr (ofS i) (ofS o) (ofS q)).lo ≤ fv 4607182418800017408 := by rw [fv_one]; grind
     exact fv_le.1 this
 · rcases h.hi with e | e
   · rw [e, Z_PI]; have := rv_inf_pos; omega
   · exact fv_nonneg.1 (by grind)
theorem bsdfShares_0 (i o q : Nat) (hi : i < 18446744073709551616) (ho : o < 18446744073709551616) (hq : q < 18446744073709551616) (e0 : (FloatKind.f64.format.order i 0 == some .gt) = false) (w : World) : Calls Try.prog 8 #[.float .f64 i, .float .f64 o, .float .f64 q] w fun r w' => r = .returned (.bool true) ∧ Below w.heap.size w w' := by
 have C0 := Lib.hid (awake12)
 go_enter Try.func8, Try.ntmps8
 go_wp2_with fail
 obtain ⟨W, hW⟩ : ∃ W, W = w := ⟨_, rfl⟩
 rw [← hW]
 have HB := Lib.hid (hW ▸ Below.refl w.heap.size w : Below w.heap.size w W)
 clear hW
 have D1 := dr W
 refine (C0.out _).mono ?_
 rintro r w2 ⟨rfl, hb⟩
 have D3 := ds D1 hb
 clear D1
 clear hb
 go_wp2_with fail
 go_ret
 exact ⟨rfl, below_step HB.out D3.out⟩
theorem bsdfShares_1 (i o q : Nat) (hi : i < 18446744073709551616) (ho : o < 18446744073709551616) (hq : q < 18446744073709551616) (e0 : (FloatKind.f64.format.order i 0 == some .gt) = true) (e1 : (FloatKind.f64.format.order o 0 == some .gt) = false) (w : World) : Calls Try.prog 8 #[.float .f64 i, .float .f64 o, .float .f64 q] w fun r w' => r = .returned (.bool true) ∧ Below w.heap.size w w' := by
 have C0 := Lib.hid (awake12)
 go_enter Try.func8, Try.ntmps8
 go_wp2_with fail
 obtain ⟨W, hW⟩ : ∃ W, W = w := ⟨_, rfl⟩
 rw [← hW]
 have HB := Lib.hid (hW ▸ Below.refl w.heap.size w : Below w.heap.size w W)
 clear hW
 have D1 := dr W
 refine (C0.out _).mono ?_
 rintro r w2 ⟨rfl, hb⟩
 have D3 := ds D1 hb
 clear D1
 clear hb
 go_wp2_with fail
 go_ret
 exact ⟨rfl, below_step HB.out D3.out⟩
theorem bsdfShares_2 (i o q : Nat) (hi : i < 18446744073709551616) (ho : o < 18446744073709551616) (hq : q < 18446744073709551616) (e0 : (FloatKind.f64.format.order i 0 == some .gt) = true) (e1 : (FloatKind.f64.format.order o 0 == some .gt) = true) (e2 : (FloatKind.f64.format.order q 0 == some .gt) = false) (w : World) : Calls Try.prog 8 #[.float .f64 i, .float .f64 o, .float .f64 q] w fun r w' => r = .returned (.bool true) ∧ Below w.heap.size w w' := by
 have C0 := Lib.hid (awake12)
 go_enter Try.func8, Try.ntmps8
 go_wp2_with fail
 obtain ⟨W, hW⟩ : ∃ W, W = w := ⟨_, rfl⟩
 rw [← hW]
 have HB := Lib.hid (hW ▸ Below.refl w.heap.size w : Below w.heap.size w W)
 clear hW
 have D1 := dr W
 refine (C0.out _).mono ?_
 rintro r w2 ⟨rfl, hb⟩
 have D3 := ds D1 hb
 clear D1
 clear hb
 go_wp2_with fail
 go_ret
 exact ⟨rfl, below_step HB.out D3.out⟩
theorem bsdfShares_3 (i o q : Nat) (hi : i < 18446744073709551616) (ho : o < 18446744073709551616) (hq : q < 18446744073709551616) (e0 : (FloatKind.f64.format.order i 0 == some .gt) = true) (e1 : (FloatKind.f64.format.order o 0 == some .gt) = true) (e2 : (FloatKind.f64.format.order q 0 == some .gt) = true) (w : World) : Calls Try.prog 8 #[.float .f64 i, .float .f64 o, .float .f64 q] w fun r w' => r = .returned (.bool true) ∧ Below w.heap.size w w' := by
 have hk := share_ends hi ho hq e0 e1 e2
 have C0 := Lib.hid (awake12)
 have C1 := Lib.hid (fun w => rof_sp i hi w)
 obtain ⟨p1, hp1⟩ : ∃ z_, ofS i = z_ := ⟨_, rfl⟩
 rw [hp1] at C1
 have C2 := Lib.hid (fun w => rof_sp o ho w)
 obtain ⟨p2, hp2⟩ : ∃ z_, ofS o = z_ := ⟨_, rfl⟩
 rw [hp2] at C2
 have C3 := Lib.hid (fun w => rof_sp q hq w)
 obtain ⟨p3, hp3⟩ : ∃ z_, ofS q = z_ := ⟨_, rfl⟩
 rw [hp3] at C3
 have C4 := Lib.hid (fun w => fresnel_any p1 p2 p3 w)
 obtain ⟨p4, hp4⟩ : ∃ z_, bdFr p1 p2 p3 = z_ := ⟨_, rfl⟩
 rw [hp4] at C4
 have z5 : Z p4.lo ≤ Z 4607182418800017408 := by rw [← hp4, ← hp3, ← hp2, ← hp1]; exact hk.1
 have e5_ := le_ys p4.vd.l gdOneS z5
 have z6 : 0 ≤ Z p4.hi := by rw [← hp4, ← hp3, ← hp2, ← hp1]; exact hk.2
 have e6_ : (FloatKind.f64.format.order p4.hi 0 == some .gt || FloatKind.f64.format.order p4.hi 0 == some .eq) = true := by rw [ge0_gd p4.vd.h]; exact decide_eq_true z6
 have C7 := Lib.hid (fun w => rvalid_any p4.lo p4.hi p4.vd.l.lt p4.vd.h.lt w)
 rw [vdB_of p4.vd] at C7
 clear hp1 hp2 hp3 hp4
 go_enter Try.func8, Try.ntmps8
 go_wp2_with fail
 obtain ⟨W, hW⟩ : ∃ W, W = w := ⟨_, rfl⟩
 rw [← hW]
 have HB := Lib.hid (hW ▸ Below.refl w.heap.size w : Below w.heap.size w W)
 clear hW
 have D1 := dr W
 refine (C0.out _).mono ?_
 rintro r w2 ⟨rfl, hb⟩
 have D3 := ds D1 hb
 clear D1
 clear hb
 go_wp2_with fail
 refine (C1.out _).mono ?_
 rintro r w4 ⟨rfl, hb⟩
 have D5 := ds D3 hb
 clear D3
 clear hb
 go_wp2_with fail
 refine (C2.out _).mono ?_
 rintro r w6 ⟨rfl, hb⟩
 have D7 := ds D5 hb
 clear D5
 clear hb
 go_wp2_with fail
 refine (C3.out _).mono ?_
 rintro r w8 ⟨rfl, hb⟩
 have D9 := ds D7 hb
 clear D7
 clear hb
 go_wp2_with fail
 refine (C4.out _).mono ?_
 rintro r w10 ⟨rfl, hb⟩
 have D11 := ds D9 hb
 clear D9
 clear hb
 obtain ⟨g12, hg14⟩ : ∃ g, w10.heap.size = g := ⟨_, rfl⟩
 have Y16 := Lib.hid (show w.heap.size ≤ g12 by rw [← hg14]; exact (below_step HB.out D11.out).size)
 obtain ⟨V13, hV15⟩ : ∃ V, w10.alloc (.cells #[.float .f64 0, .float .f64 0] 28) = V := ⟨_, rfl⟩
 have K17 := kn hV15 hg14
 have HB18 := hba hV15 HB D11
 have D19 := dr V13
 clear  HB D11
 have f22 := (kb K17 D19).cellsL 0 [.float .f64 0, .float .f64 0] rfl
 dsimp only [CellsL, al, vl, Nat.reduceAdd] at f22
 have u23 := (kb K17 D19).unfrozen
 obtain ⟨V20, hV21⟩ : ∃ V, setCells V13 (g12) 0 [.float .f64 p4.lo, .float .f64 p4.hi] = V := ⟨_, rfl⟩
 have hv24 := hV21
 simp only [setCells, Nat.reduceAdd] at hv24
 have K25 := Lib.hid (show Blk V20 (g12) 28 #[.float .f64 p4.lo, .float .f64 p4.hi] from (ks hV21 K17 D19).out)
 have HB26 := hbs hV21 HB18 D19 (by have := Y16.out; omega)
 have D27 := dr V20
 clear K17 HB18 D19
 have hq28 := (kb K25 D27).cellsL 0 [.float .f64 p4.lo, .float .f64 p4.hi] rfl
 dsimp only [CellsL, al, vl, Nat.reduceAdd] at hq28
 go_wp2_with fail
 clear hg14 hV15 hV21 f22 u23 hv24 hq28
 refine (C7.out _).mono ?_
 rintro r w29 ⟨rfl, hb⟩
 have D30 := ds D27 hb
 clear D27
 clear hb
 go_wp2_with fail
 go_ret
 exact ⟨rfl, below_step HB26.out D30.out⟩
theorem walk_bsdfShares (i o q : Nat) (hi : i < 18446744073709551616) (ho : o < 18446744073709551616) (hq : q < 18446744073709551616) (w : World) : Calls Try.prog 8 #[.float .f64 i, .float .f64 o, .float .f64 q] w fun r w' => r = .returned (.bool true) ∧ Below w.heap.size w w' := by
 cases e0 : (FloatKind.f64.format.order i 0 == some .gt)
 · exact bsdfShares_0 i o q hi ho hq e0 w
 · cases e1 : (FloatKind.f64.format.order o 0 == some .gt)
   · exact bsdfShares_1 i o q hi ho hq e0 e1 w
   · cases e2 : (FloatKind.f64.format.order q 0 == some .gt)
     · exact bsdfShares_2 i o q hi ho hq e0 e1 e2 w
     · exact bsdfShares_3 i o q hi ho hq e0 e1 e2 w
end Go.Proofs.Ytnljfcebmgifdaa
