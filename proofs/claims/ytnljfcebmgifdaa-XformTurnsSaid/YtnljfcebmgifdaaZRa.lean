/- Shaken: Ya Yc Ui. -/
import Derived.Test.YtnljfcebmgifdaaZRacf
import Derived.Test.YtnljfcebmgifdaaZRab2
set_option maxRecDepth 100000
set_option maxHeartbeats 8000000
set_option linter.unusedVariables false
set_option linter.unusedSimpArgs false
namespace Go.Proofs.Ytnljfcebmgifdaa
open Fl
theorem wi_crs {a b c d a' b' c' d' : Sp} (h1 : Wi a a') (h2 : Wi b b') (h3 : Wi c c') (h4 : Wi d d') : Wi (vCrs a b c d) (vCrs a' b' c' d') := wi_sub (wi_mul h1 h2) (wi_mul h3 h4)
theorem WiV.cross {a b c d : V3} (h : WiV c a) (k : WiV d b) : WiV (vCross c d) (vCross a b) := ⟨wi_crs h.y k.z h.z k.y, wi_crs h.z k.x h.x k.z, wi_crs h.x k.y h.y k.x⟩
theorem in_crs {x y z t : Rat} {a b c d : Sp} (h1 : InS x a) (h2 : InS y b) (h3 : InS z c) (h4 : InS t d) : InS (x * y - z * t) (vCrs a b c d) := in_sub (in_mul h1 h2) (in_mul h3 h4)
theorem InV.cross {x y z p q r : Rat} {a b : V3} (h : InV x y z a) (k : InV p q r b) : InV (y * r - z * q) (z * p - x * r) (x * q - y * p) (vCross a b) :=
 ⟨in_crs h.y k.z h.z k.y, in_crs h.z k.x h.x k.z, in_crs h.x k.y h.y k.x⟩
end Go.Proofs.Ytnljfcebmgifdaa
set_option linter.unusedVariables false
set_option linter.unusedSimpArgs false
namespace Go.Proofs.Ytnljfcebmgifdaa
open Fl
theorem in_det {a1 a2 a3 b1 b2 b3 c1 c2 c3 t1 t2 t3 : Rat} {m : Af} (h : InA a1 a2 a3 b1 b2 b3 c1 c2 c3 t1 t2 t3 m) :
   InS (a1 * (b2 * c3 - b3 * c2) + a2 * (b3 * c1 - b1 * c3) + a3 * (b1 * c2 - b2 * c1)) (afDet m) := h.a.dot (h.b.cross h.c)
theorem turn_two (c s : Nat) (hl : 0 < Z (tuL c s).lo) : ∃ a b : Rat, 0 < a ∧ 0 < b ∧ InS (fv c * a) (divS (ofS c) (tuL c s)) ∧ InS (fv s * a) (divS (ofS s) (tuL c s)) ∧ InS (fv c * b) (divS (ofS c) (tuL c s)) ∧ InS (fv s * b) (divS (ofS s) (tuL c s)) ∧
   1 ≤ (fv c * fv c + fv s * fv s) * (a * a) ∧ (fv c * fv c + fv s * fv s) * (b * b) ≤ 1 := by
 have hS : 0 ≤ fv c * fv c + fv s * fv s := by have := sq_nonneg (fv c); have := sq_nonneg (fv s); grind
 obtain ⟨a, b, ha, hb, ja, jb, ka, kb⟩ := root_two hS (in_add (in_sqr (in_of c)) (in_sqr (in_of s))) hl
 have e : ∀ x y : Rat, x / y = x * (1 / y) := by intro x y; rw [Rat.div_def, Rat.div_def, Rat.one_mul]
 have j1 := in_div (in_of c) ja
 have j2 := in_div (in_of s) ja
 have j3 := in_div (in_of c) jb
 have j4 := in_div (in_of s) jb
 rw [e] at j1 j2 j3 j4
 exact ⟨1 / a, 1 / b, inv_pos' ha, inv_pos' hb, j1, j2, j3, j4, inv_sq ha ka, inv_sq' hb kb⟩
theorem turn0_in {p q : Sp} {x y : Rat} (h : InS x p) (k : InS y q) : InA 1 0 0 0 x (-y) 0 y x 0 0 0 (afTurn0 p q) :=
 ⟨⟨in_one, in_zero, in_zero⟩, ⟨in_zero, h, in_neg k⟩, ⟨in_zero, k, h⟩, ⟨in_zero, in_zero, in_zero⟩⟩
theorem turn1_in {p q : Sp} {x y : Rat} (h : InS x p) (k : InS y q) : InA x 0 y 0 1 0 (-y) 0 x 0 0 0 (afTurn1 p q) :=
 ⟨⟨h, in_zero, k⟩, ⟨in_zero, in_one, in_zero⟩, ⟨in_neg k, in_zero, h⟩, ⟨in_zero, in_zero, in_zero⟩⟩
theorem turn2_in {p q : Sp} {x y : Rat} (h : InS x p) (k : InS y q) : InA x (-y) 0 y x 0 0 0 1 0 0 0 (afTurn2 p q) :=
 ⟨⟨h, in_neg k, in_zero⟩, ⟨k, h, in_zero⟩, ⟨in_zero, in_zero, in_one⟩, ⟨in_zero, in_zero, in_zero⟩⟩
theorem keeps_of {m : Af} {v : V3} {N M d e f : Rat} (h1 : InS N (afDet m)) (h2 : InS M (afDet m)) (k1 : 1 ≤ N) (k2 : M ≤ 1) (hf : 0 ≤ f) (i0 : InS (e + f) (vSqr v)) (i1 : InS (e + f * N) (vSqr (afVec m v))) (i2 : InS (e + f * M) (vSqr (afVec m v))) : Keeps m v := by
 refine ⟨h2.mid h1 k2 k1, e + f, i0, i2.mid i1 ?_ ?_⟩
 · have := Rat.mul_nonneg hf (show (0 : Rat) ≤ 1 - M by grind); grind
 · have := Rat.mul_nonneg hf (show (0 : Rat) ≤ N - 1 by grind); grind
theorem turn0_keeps (c s : Nat) (hl : 0 < Z (tuL c s).lo) (p q r : Nat) : Keeps (afTurn0 (divS (ofS c) (tuL c s)) (divS (ofS s) (tuL c s))) (vOf p q r) := by
 obtain ⟨a, b, ha, hb, j1, j2, j3, j4, ka, kb⟩ := turn_two c s hl
 have v := in_vof p q r
 have m1 := turn0_in j1 j2
 have m2 := turn0_in j3 j4
 have d1 := in_det m1
 have d2 := in_det m2
 have s1 := (InV.vec m1.a m1.b m1.c v).sqr
 have s2 := (InV.vec m2.a m2.b m2.c v).sqr
 have s0 := v.sqr
 generalize fv p = x at *
 generalize fv q = y at *
 generalize fv r = z at *
 generalize fv c = c at *
 generalize fv s = s at *
 refine keeps_of (N := (c * c + s * s) * (a * a)) (M := (c * c + s * s) * (b * b)) (d := 0) (e := x * x) (f := y * y + z * z) ?_ ?_ ka kb (by have := sq_nonneg y; have := sq_nonneg z; grind) ?_ ?_ ?_
 · grind
 · grind
 · grind
 · grind
 · grind
theorem turn1_keeps (c s : Nat) (hl : 0 < Z (tuL c s).lo) (p q r : Nat) : Keeps (afTurn1 (divS (ofS c) (tuL c s)) (divS (ofS s) (tuL c s))) (vOf p q r) := by
 obtain ⟨a, b, ha, hb, j1, j2, j3, j4, ka, kb⟩ := turn_two c s hl
 have v := in_vof p q r
 have m1 := turn1_in j1 j2
 have m2 := turn1_in j3 j4
 have d1 := in_det m1
 have d2 := in_det m2
 have s1 := (InV.vec m1.a m1.b m1.c v).sqr
 have s2 := (InV.vec m2.a m2.b m2.c v).sqr
 have s0 := v.sqr
 generalize fv p = x at *
 generalize fv q = y at *
 generalize fv r = z at *
 generalize fv c = c at *
 generalize fv s = s at *
 refine keeps_of (N := (c * c + s * s) * (a * a)) (M := (c * c + s * s) * (b * b)) (d := 0) (e := y * y) (f := x * x + z * z) ?_ ?_ ka kb (by have := sq_nonneg x; have := sq_nonneg z; grind) ?_ ?_ ?_
 · grind
 · grind
 · grind
 · grind
 · grind
theorem turn2_keeps (c s : Nat) (hl : 0 < Z (tuL c s).lo) (p q r : Nat) : Keeps (afTurn2 (divS (ofS c) (tuL c s)) (divS (ofS s) (tuL c s))) (vOf p q r) := by
 obtain ⟨a, b, ha, hb, j1, j2, j3, j4, ka, kb⟩ := turn_two c s hl
 have v := in_vof p q r
 have m1 := turn2_in j1 j2
 have m2 := turn2_in j3 j4
 have d1 := in_det m1
 have d2 := in_det m2
 have s1 := (InV.vec m1.a m1.b m1.c v).sqr
 have s2 := (InV.vec m2.a m2.b m2.c v).sqr
 have s0 := v.sqr
 generalize fv p = x at *
 generalize fv q = y at *
 generalize fv r = z at *
 generalize fv c = c at *
 generalize fv s = s at *
 refine keeps_of (N := (c * c + s * s) * (a * a)) (M := (c * c + s * s) * (b * b)) (d := 0) (e := z * z) (f := x * x + y * y) ?_ ?_ ka kb (by have := sq_nonneg x; have := sq_nonneg y; grind) ?_ ?_ ?_
 · grind
 · grind
 · grind
 · grind
 · grind
end Go.Proofs.Ytnljfcebmgifdaa
set_option linter.unusedVariables false
set_option linter.unusedSimpArgs false
namespace Go.Proofs.Ytnljfcebmgifdaa
open Go.RowKit Fl
theorem le_yes {a b : Nat} (ha : Gd a) (hb : Gd b) (h : Z a ≤ Z b) : (FloatKind.f64.format.order a b == some .lt || FloatKind.f64.format.order a b == some .eq) = true := by
 rw [leb ha hb]; exact decide_eq_true h
theorem ge_yes {a b : Nat} (ha : Gd a) (hb : Gd b) (h : Z b ≤ Z a) : (FloatKind.f64.format.order a b == some .gt || FloatKind.f64.format.order a b == some .eq) = true := by
 rw [geb ha hb]; exact decide_eq_true h
theorem gdW1 : Gd 4607182418800017408 := gd_lit (by decide)
theorem Keeps.one {m : Af} {v : V3} (h : Keeps m v) : Z (afDet m).lo ≤ Z 4607182418800017408 ∧ Z 4607182418800017408 ≤ Z (afDet m).hi := InS.wi (x := 4607182418800017408) (by rw [fv_one]; exact h.det) (by decide)
theorem Keeps.sh {m : Af} {v : V3} (h : Keeps m v) : Z (vSqr v).lo ≤ Z (vSqr (afVec m v)).hi ∧ Z (vSqr (afVec m v)).lo ≤ Z (vSqr v).hi := by
 obtain ⟨x, h1, h2⟩ := h.len
 exact ⟨h1.share h2, h2.share h1⟩
theorem xformTurns_n (axis : Int) (c s p q r : Nat) (hc : c < 18446744073709551616) (hs : s < 18446744073709551616) (hp : p < 18446744073709551616) (hq : q < 18446744073709551616) (hr : r < 18446744073709551616) (hn : nmB p q r = false) (w : World) : Calls Try.prog 3 #[Value.int IntKind.i64 axis, .float .f64 c, .float .f64 s, Value.agg #[.float .f64 p, .float .f64 q, .float .f64 r]] w fun r w' => r = .returned (.bool true) ∧ Below w.heap.size w w' := by
 have C0 := Lib.hid (awake4)
 have C1 := Lib.hid (fun w => rnumbers_any p q r hp hq hr w)
 rw [hn] at C1
 go_enter Try.func3, Try.ntmps3
 go_wp2_with fail
 obtain ⟨W, hW, K0, hB, hz⟩ := bx1 w 24 #[.float .f64 p, .float .f64 q, .float .f64 r]
 rw [← hW]
 have K0 := Lib.hid K0
 have HB := Lib.hid hB
 clear hW hB hz
 have D1 := dr W
 refine (C0.out _).mono ?_
 rintro r w2 ⟨rfl, hb⟩
 have D3 := ds D1 hb
 clear D1
 clear hb
 have hq4 := (kb K0 D3).cellsL 0 [.float .f64 p, .float .f64 q, .float .f64 r] rfl
 dsimp only [CellsL, al, vl, Nat.reduceAdd] at hq4
 go_wp2_with fail
 clear hq4
 refine (C1.out _).mono ?_
 rintro r w5 ⟨rfl, hb⟩
 have D6 := ds D3 hb
 clear D3
 clear hb
 go_wp2_with fail
 go_ret
 exact ⟨rfl, below_step HB.out D6.out⟩
theorem xformTurns_2 (axis : Int) (c s p q r : Nat) (hc : c < 18446744073709551616) (hs : s < 18446744073709551616) (hp : p < 18446744073709551616) (hq : q < 18446744073709551616) (hr : r < 18446744073709551616) (hn : nmB p q r = true) (HT : ∀ w, Calls Try.prog 13 #[.int .i64 axis, .float .f64 c, .float .f64 s] w fun r w' => r = .returned (.tuple #[.agg #[.float .f64 0, .float .f64 0, .float .f64 0, .float .f64 0, .float .f64 0, .float .f64 0, .float .f64 0, .float .f64 0, .float .f64 0, .float .f64 0, .float .f64 0, .float .f64 0, .float .f64 0, .float .f64 0, .float .f64 0, .float .f64 0, .float .f64 0, .float .f64 0, .float .f64 0, .float .f64 0, .float .f64 0, .float .f64 0, .float .f64 0, .float .f64 0], .int .i64 2]) ∧ Below w.heap.size w w') (w : World) : Calls Try.prog 3 #[Value.int IntKind.i64 axis, .float .f64 c, .float .f64 s, Value.agg #[.float .f64 p, .float .f64 q, .float .f64 r]] w fun r w' => r = .returned (.bool true) ∧ Below w.heap.size w w' := by
 have C0 := Lib.hid (awake4)
 have C1 := Lib.hid (fun w => rnumbers_any p q r hp hq hr w)
 rw [hn] at C1
 have C2 := Lib.hid (HT)
 have C3 := Lib.hid (fun w => requalA_self zeroA w)
 simp only [zeroS_lo, zeroS_hi, zeroV_x, zeroV_y, zeroV_z, zeroA_a, zeroA_b, zeroA_c, zeroA_t] at C3
 go_enter Try.func3, Try.ntmps3
 go_wp2_with fail
 obtain ⟨W, hW, K0, hB, hz⟩ := bx1 w 24 #[.float .f64 p, .float .f64 q, .float .f64 r]
 rw [← hW]
 have K0 := Lib.hid K0
 have HB := Lib.hid hB
 clear hW hB hz
 have D1 := dr W
 refine (C0.out _).mono ?_
 rintro r w2 ⟨rfl, hb⟩
 have D3 := ds D1 hb
 clear D1
 clear hb
 have hq4 := (kb K0 D3).cellsL 0 [.float .f64 p, .float .f64 q, .float .f64 r] rfl
 dsimp only [CellsL, al, vl, Nat.reduceAdd] at hq4
 go_wp2_with fail
 clear hq4
 refine (C1.out _).mono ?_
 rintro r w5 ⟨rfl, hb⟩
 have D6 := ds D3 hb
 clear D3
 clear hb
 go_wp2_with fail
 refine (C2.out _).mono ?_
 rintro r w7 ⟨rfl, hb⟩
 have D8 := ds D6 hb
 clear D6
 clear hb
 obtain ⟨g9, hg11⟩ : ∃ g, w7.heap.size = g := ⟨_, rfl⟩
 have Y13 := Lib.hid (show w.heap.size < g9 by rw [← hg11]; exact (kb K0 D8).lt)
 obtain ⟨V10, hV12⟩ : ∃ V, w7.alloc (.cells #[.float .f64 0, .float .f64 0, .float .f64 0, .float .f64 0, .float .f64 0, .float .f64 0, .float .f64 0, .float .f64 0, .float .f64 0, .float .f64 0, .float .f64 0, .float .f64 0, .float .f64 0, .float .f64 0, .float .f64 0, .float .f64 0, .float .f64 0, .float .f64 0, .float .f64 0, .float .f64 0, .float .f64 0, .float .f64 0, .float .f64 0, .float .f64 0] 33) = V := ⟨_, rfl⟩
 have K14 := ka hV12 K0 D8
 have K15 := kn hV12 hg11
 have HB16 := hba hV12 HB D8
 have D17 := dr V10
 clear K0 HB D8
 have f20 := (kb K15 D17)
 obtain ⟨V18, hV19⟩ : ∃ V, World.setRow V10 (g9) #[.float .f64 0, .float .f64 0, .float .f64 0, .float .f64 0, .float .f64 0, .float .f64 0, .float .f64 0, .float .f64 0, .float .f64 0, .float .f64 0, .float .f64 0, .float .f64 0, .float .f64 0, .float .f64 0, .float .f64 0, .float .f64 0, .float .f64 0, .float .f64 0, .float .f64 0, .float .f64 0, .float .f64 0, .float .f64 0, .float .f64 0, .float .f64 0] = V := ⟨_, rfl⟩
 have K21 := kfr hV19 K14 D17 (by have := Y13.out; omega)
 have K22 := ksr hV19 K15 D17
 have HB23 := hbr hV19 HB16 D17 (by have := Y13.out; omega)
 have D24 := dr V18
 clear K14 K15 HB16 D17
 have f25 := (kb K22 D24)
 go_wp2_with (first | (refine wpList_store_row rfl 33 _ _ rfl (g9) #[.float .f64 0, .float .f64 0, .float .f64 0, .float .f64 0, .float .f64 0, .float .f64 0, .float .f64 0, .float .f64 0, .float .f64 0, .float .f64 0, .float .f64 0, .float .f64 0, .float .f64 0, .float .f64 0, .float .f64 0, .float .f64 0, .float .f64 0, .float .f64 0, .float .f64 0, .float .f64 0, .float .f64 0, .float .f64 0, .float .f64 0, .float .f64 0] rfl rfl _ _ f20 (by rw [info_Affine]; rfl) rfl (by kernel_rfl) ?_; rw [hV19]) | (refine wl_load (by kernel_rfl) rfl rfl f25 (by rw [info_Affine]; rfl) Try.underlying33 rfl ?_))
 clear hg11 hV12 hV19 f20 f25
 refine (C3.out _).mono ?_
 rintro r w26 ⟨rfl, hb⟩
 have D27 := ds D24 hb
 clear D24
 clear hb
 go_wp2_with fail
 go_ret
 exact ⟨rfl, below_step HB23.out D27.out⟩
theorem xformTurns_11 (axis : Int) (c s p q r : Nat) (hc : c < 18446744073709551616) (hs : s < 18446744073709551616) (hp : p < 18446744073709551616) (hq : q < 18446744073709551616) (hr : r < 18446744073709551616) (hn : nmB p q r = true) (HT : ∀ w, Calls Try.prog 13 #[.int .i64 axis, .float .f64 c, .float .f64 s] w fun r w' => r = .returned (.tuple #[.agg #[.float .f64 0, .float .f64 0, .float .f64 0, .float .f64 0, .float .f64 0, .float .f64 0, .float .f64 0, .float .f64 0, .float .f64 0, .float .f64 0, .float .f64 0, .float .f64 0, .float .f64 0, .float .f64 0, .float .f64 0, .float .f64 0, .float .f64 0, .float .f64 0, .float .f64 0, .float .f64 0, .float .f64 0, .float .f64 0, .float .f64 0, .float .f64 0], .int .i64 11]) ∧ Below w.heap.size w w') (w : World) : Calls Try.prog 3 #[Value.int IntKind.i64 axis, .float .f64 c, .float .f64 s, Value.agg #[.float .f64 p, .float .f64 q, .float .f64 r]] w fun r w' => r = .returned (.bool true) ∧ Below w.heap.size w w' := by
 have C0 := Lib.hid (awake4)
 have C1 := Lib.hid (fun w => rnumbers_any p q r hp hq hr w)
 rw [hn] at C1
 have C2 := Lib.hid (HT)
 have C3 := Lib.hid (fun w => requalA_self zeroA w)
 simp only [zeroS_lo, zeroS_hi, zeroV_x, zeroV_y, zeroV_z, zeroA_a, zeroA_b, zeroA_c, zeroA_t] at C3
 go_enter Try.func3, Try.ntmps3
 go_wp2_with fail
 obtain ⟨W, hW, K0, hB, hz⟩ := bx1 w 24 #[.float .f64 p, .float .f64 q, .float .f64 r]
 rw [← hW]
 have K0 := Lib.hid K0
 have HB := Lib.hid hB
 clear hW hB hz
 have D1 := dr W
 refine (C0.out _).mono ?_
 rintro r w2 ⟨rfl, hb⟩
 have D3 := ds D1 hb
 clear D1
 clear hb
 have hq4 := (kb K0 D3).cellsL 0 [.float .f64 p, .float .f64 q, .float .f64 r] rfl
 dsimp only [CellsL, al, vl, Nat.reduceAdd] at hq4
 go_wp2_with fail
 clear hq4
 refine (C1.out _).mono ?_
 rintro r w5 ⟨rfl, hb⟩
 have D6 := ds D3 hb
 clear D3
 clear hb
 go_wp2_with fail
 refine (C2.out _).mono ?_
 rintro r w7 ⟨rfl, hb⟩
 have D8 := ds D6 hb
 clear D6
 clear hb
 obtain ⟨g9, hg11⟩ : ∃ g, w7.heap.size = g := ⟨_, rfl⟩
 have Y13 := Lib.hid (show w.heap.size < g9 by rw [← hg11]; exact (kb K0 D8).lt)
 obtain ⟨V10, hV12⟩ : ∃ V, w7.alloc (.cells #[.float .f64 0, .float .f64 0, .float .f64 0, .float .f64 0, .float .f64 0, .float .f64 0, .float .f64 0, .float .f64 0, .float .f64 0, .float .f64 0, .float .f64 0, .float .f64 0, .float .f64 0, .float .f64 0, .float .f64 0, .float .f64 0, .float .f64 0, .float .f64 0, .float .f64 0, .float .f64 0, .float .f64 0, .float .f64 0, .float .f64 0, .float .f64 0] 33) = V := ⟨_, rfl⟩
 have K14 := ka hV12 K0 D8
 have K15 := kn hV12 hg11
 have HB16 := hba hV12 HB D8
 have D17 := dr V10
 clear K0 HB D8
 have f20 := (kb K15 D17)
 obtain ⟨V18, hV19⟩ : ∃ V, World.setRow V10 (g9) #[.float .f64 0, .float .f64 0, .float .f64 0, .float .f64 0, .float .f64 0, .float .f64 0, .float .f64 0, .float .f64 0, .float .f64 0, .float .f64 0, .float .f64 0, .float .f64 0, .float .f64 0, .float .f64 0, .float .f64 0, .float .f64 0, .float .f64 0, .float .f64 0, .float .f64 0, .float .f64 0, .float .f64 0, .float .f64 0, .float .f64 0, .float .f64 0] = V := ⟨_, rfl⟩
 have K21 := kfr hV19 K14 D17 (by have := Y13.out; omega)
 have K22 := ksr hV19 K15 D17
 have HB23 := hbr hV19 HB16 D17 (by have := Y13.out; omega)
 have D24 := dr V18
 clear K14 K15 HB16 D17
 have f25 := (kb K22 D24)
 go_wp2_with (first | (refine wpList_store_row rfl 33 _ _ rfl (g9) #[.float .f64 0, .float .f64 0, .float .f64 0, .float .f64 0, .float .f64 0, .float .f64 0, .float .f64 0, .float .f64 0, .float .f64 0, .float .f64 0, .float .f64 0, .float .f64 0, .float .f64 0, .float .f64 0, .float .f64 0, .float .f64 0, .float .f64 0, .float .f64 0, .float .f64 0, .float .f64 0, .float .f64 0, .float .f64 0, .float .f64 0, .float .f64 0] rfl rfl _ _ f20 (by rw [info_Affine]; rfl) rfl (by kernel_rfl) ?_; rw [hV19]) | (refine wl_load (by kernel_rfl) rfl rfl f25 (by rw [info_Affine]; rfl) Try.underlying33 rfl ?_))
 clear hg11 hV12 hV19 f20 f25
 refine (C3.out _).mono ?_
 rintro r w26 ⟨rfl, hb⟩
 have D27 := ds D24 hb
 clear D24
 clear hb
 go_wp2_with fail
 go_ret
 exact ⟨rfl, below_step HB23.out D27.out⟩
theorem xformTurns_k (axis : Int) (c s p q r : Nat) (hc : c < 18446744073709551616) (hs : s < 18446744073709551616) (hp : p < 18446744073709551616) (hq : q < 18446744073709551616) (hr : r < 18446744073709551616) (hn : nmB p q r = true) (m : Af) (HT : ∀ w, Calls Try.prog 13 #[.int .i64 axis, .float .f64 c, .float .f64 s] w fun r w' => r = .returned (.tuple #[aval m, .int .i64 0]) ∧ Below w.heap.size w w') (hk : Keeps m (vOf p q r)) (w : World) : Calls Try.prog 3 #[Value.int IntKind.i64 axis, .float .f64 c, .float .f64 s, Value.agg #[.float .f64 p, .float .f64 q, .float .f64 r]] w fun r w' => r = .returned (.bool true) ∧ Below w.heap.size w w' := by
 have C0 := Lib.hid (awake4)
 have C1 := Lib.hid (fun w => rnumbers_any p q r hp hq hr w)
 rw [hn] at C1
 have C2 := Lib.hid (HT)
 have C3 := Lib.hid (fun w => detA_any m w)
 obtain ⟨p3, hp3⟩ : ∃ z_, afDet m = z_ := ⟨_, rfl⟩
 rw [hp3] at C3
 have C4 := Lib.hid (fun w => rofV_any p q r hp hq hr w)
 obtain ⟨p4, hp4⟩ : ∃ z_, vOf p q r = z_ := ⟨_, rfl⟩
 rw [hp4] at C4
 have C5 := Lib.hid (fun w => rsqrV_any p4 w)
 obtain ⟨p5, hp5⟩ : ∃ z_, vSqr p4 = z_ := ⟨_, rfl⟩
 rw [hp5] at C5
 have C6 := Lib.hid (fun w => vecA_any m p4 w)
 obtain ⟨p6, hp6⟩ : ∃ z_, afVec m p4 = z_ := ⟨_, rfl⟩
 rw [hp6] at C6
 have C7 := Lib.hid (fun w => rsqrV_any p6 w)
 obtain ⟨p7, hp7⟩ : ∃ z_, vSqr p6 = z_ := ⟨_, rfl⟩
 rw [hp7] at C7
 have z0 : Z p3.lo ≤ Z 4607182418800017408 := by rw [← hp3]; exact hk.one.1
 have e0 := le_yes p3.vd.l gdW1 z0
 clear z0
 have z1 : Z 4607182418800017408 ≤ Z p3.hi := by rw [← hp3]; exact hk.one.2
 have e1 := ge_yes p3.vd.h gdW1 z1
 clear z1
 have z2 : Z p5.lo ≤ Z p7.hi := by rw [← hp7, ← hp6, ← hp5, ← hp4]; exact hk.sh.1
 have e2 := le_yes p5.vd.l p7.vd.h z2
 clear z2
 have z3 : Z p7.lo ≤ Z p5.hi := by rw [← hp7, ← hp6, ← hp5, ← hp4]; exact hk.sh.2
 have e3 := le_yes p7.vd.l p5.vd.h z3
 clear z3
 clear hp3 hp4 hp5 hp6 hp7
 go_enter Try.func3, Try.ntmps3
 go_wp2_with fail
 obtain ⟨W, hW, K0, hB, hz⟩ := bx1 w 24 #[.float .f64 p, .float .f64 q, .float .f64 r]
 rw [← hW]
 have K0 := Lib.hid K0
 have HB := Lib.hid hB
 clear hW hB hz
 have D1 := dr W
 refine (C0.out _).mono ?_
 rintro r w2 ⟨rfl, hb⟩
 have D3 := ds D1 hb
 clear D1
 clear hb
 have hq4 := (kb K0 D3).cellsL 0 [.float .f64 p, .float .f64 q, .float .f64 r] rfl
 dsimp only [CellsL, al, vl, Nat.reduceAdd] at hq4
 go_wp2_with fail
 clear hq4
 refine (C1.out _).mono ?_
 rintro r w5 ⟨rfl, hb⟩
 have D6 := ds D3 hb
 clear D3
 clear hb
 go_wp2_with fail
 refine (C2.out _).mono ?_
 rintro r w7 ⟨rfl, hb⟩
 have D8 := ds D6 hb
 clear D6
 clear hb
 obtain ⟨g9, hg11⟩ : ∃ g, w7.heap.size = g := ⟨_, rfl⟩
 have Y13 := Lib.hid (show w.heap.size < g9 by rw [← hg11]; exact (kb K0 D8).lt)
 obtain ⟨V10, hV12⟩ : ∃ V, w7.alloc (.cells #[.float .f64 0, .float .f64 0, .float .f64 0, .float .f64 0, .float .f64 0, .float .f64 0, .float .f64 0, .float .f64 0, .float .f64 0, .float .f64 0, .float .f64 0, .float .f64 0, .float .f64 0, .float .f64 0, .float .f64 0, .float .f64 0, .float .f64 0, .float .f64 0, .float .f64 0, .float .f64 0, .float .f64 0, .float .f64 0, .float .f64 0, .float .f64 0] 33) = V := ⟨_, rfl⟩
 have K14 := ka hV12 K0 D8
 have K15 := kn hV12 hg11
 have HB16 := hba hV12 HB D8
 have D17 := dr V10
 clear K0 HB D8
 have f20 := (kb K15 D17)
 obtain ⟨V18, hV19⟩ : ∃ V, World.setRow V10 (g9) (ac m) = V := ⟨_, rfl⟩
 have K21 := kfr hV19 K14 D17 (by have := Y13.out; omega)
 have K22 := ksr hV19 K15 D17
 have HB23 := hbr hV19 HB16 D17 (by have := Y13.out; omega)
 have D24 := dr V18
 clear K14 K15 HB16 D17
 have f25 := (kb K22 D24)
 go_wp2_with (first | (refine wpList_store_row rfl 33 _ _ rfl (g9) (ac m) rfl rfl _ _ f20 (by rw [info_Affine]; rfl) rfl (by kernel_rfl) ?_; rw [hV19]) | (refine wl_load (by kernel_rfl) rfl rfl f25 (by rw [info_Affine]; rfl) Try.underlying33 rfl ?_))
 clear hg11 hV12 hV19 f20 f25
 refine (C3.out _).mono ?_
 rintro r w26 ⟨rfl, hb⟩
 have D27 := ds D24 hb
 clear D24
 clear hb
 obtain ⟨g28, hg30⟩ : ∃ g, w26.heap.size = g := ⟨_, rfl⟩
 have Y32 := Lib.hid (show w.heap.size < g28 ∧ g9 < g28 by rw [← hg30]; exact ⟨(kb K21 D27).lt, (kb K22 D27).lt⟩)
 obtain ⟨V29, hV31⟩ : ∃ V, w26.alloc (.cells #[.float .f64 0, .float .f64 0] 28) = V := ⟨_, rfl⟩
 have K33 := ka hV31 K21 D27
 have K34 := ka hV31 K22 D27
 have K35 := kn hV31 hg30
 have HB36 := hba hV31 HB23 D27
 have D37 := dr V29
 clear K21 K22 HB23 D27
 have Y38 := Lib.hid (And.intro Y13.out Y32.out)
 clear Y13 Y32
 have f41 := (kb K35 D37).cellsL 0 [.float .f64 0, .float .f64 0] rfl
 dsimp only [CellsL, al, vl, Nat.reduceAdd] at f41
 have u42 := (kb K35 D37).unfrozen
 obtain ⟨V39, hV40⟩ : ∃ V, setCells V29 (g28) 0 [.float .f64 p3.lo, .float .f64 p3.hi] = V := ⟨_, rfl⟩
 have hv43 := hV40
 simp only [setCells, Nat.reduceAdd] at hv43
 have K44 := kf hV40 K33 D37 (by have := Y38.out; omega)
 have K45 := kf hV40 K34 D37 (by have := Y38.out; omega)
 have K46 := Lib.hid (show Blk V39 (g28) 28 #[.float .f64 p3.lo, .float .f64 p3.hi] from (ks hV40 K35 D37).out)
 have HB47 := hbs hV40 HB36 D37 (by have := Y38.out; omega)
 have D48 := dr V39
 clear K33 K34 K35 HB36 D37
 have hq49 := (kb K44 D48).cellsL 0 [.float .f64 p, .float .f64 q, .float .f64 r] rfl
 dsimp only [CellsL, al, vl, Nat.reduceAdd] at hq49
 go_wp2_with fail
 clear hg30 hV31 hV40 f41 u42 hv43 hq49
 refine (C4.out _).mono ?_
 rintro r w50 ⟨rfl, hb⟩
 have D51 := ds D48 hb
 clear D48
 clear hb
 obtain ⟨g52, hg54⟩ : ∃ g, w50.heap.size = g := ⟨_, rfl⟩
 have Y56 := Lib.hid (show w.heap.size < g52 ∧ g9 < g52 ∧ g28 < g52 by rw [← hg54]; exact ⟨(kb K44 D51).lt, (kb K45 D51).lt, (kb K46 D51).lt⟩)
 obtain ⟨V53, hV55⟩ : ∃ V, w50.alloc (.cells #[.float .f64 0, .float .f64 0, .float .f64 0, .float .f64 0, .float .f64 0, .float .f64 0] 30) = V := ⟨_, rfl⟩
 have K57 := ka hV55 K44 D51
 have K58 := ka hV55 K45 D51
 have K59 := ka hV55 K46 D51
 have K60 := kn hV55 hg54
 have HB61 := hba hV55 HB47 D51
 have D62 := dr V53
 clear K44 K45 K46 HB47 D51
 have Y63 := Lib.hid (And.intro Y38.out Y56.out)
 clear Y38 Y56
 have f66 := (kb K60 D62)
 obtain ⟨V64, hV65⟩ : ∃ V, World.setRow V53 (g52) (vc p4) = V := ⟨_, rfl⟩
 have K67 := kfr hV65 K57 D62 (by have := Y63.out; omega)
 have K68 := kfr hV65 K58 D62 (by have := Y63.out; omega)
 have K69 := kfr hV65 K59 D62 (by have := Y63.out; omega)
 have K70 := ksr hV65 K60 D62
 have HB71 := hbr hV65 HB61 D62 (by have := Y63.out; omega)
 have D72 := dr V64
 clear K57 K58 K59 K60 HB61 D62
 go_wp2_with (refine wpList_store_row rfl 30 _ _ rfl (g52) (vc p4) rfl rfl _ _ f66 (by rw [info_V3]; rfl) rfl (by kernel_rfl) ?_; rw [hV65])
 clear hg54 hV55 hV65 f66
 refine wp_region_held (S := (fun w' => True ∧ Blk w' (g9) 33 (ac m) ∧ Blk w' (g52) 30 (vc p4))) (by kernel_rfl) ?_
 change wpAnyH _ _ _ _ _ _ _ _ (World.drew _)
 obtain ⟨wd73, hwd⟩ : ∃ x, x = World.drew V64 := ⟨_, rfl⟩
 rw [← hwd]
 have D74 := Lib.hid (hwd ▸ Below.drew D72.out : Below V64.heap.size V64 wd73)
 clear D72 hwd
 have hS75 : True ∧ Blk wd73 (g9) 33 (ac m) ∧ Blk wd73 (g52) 30 (vc p4) := ⟨trivial, (kb K68 D74), (kb K70 D74)⟩
 refine tkL 0 (bm 10 1) ?aq76 rfl (by kernel_rfl) (fun _ _ _ h => h) (by kernel_rfl) rfl rfl (fun _ hS => hS.2.2) (by rw [info_V3]; rfl) Try.underlying30 rfl ?pq76 hS75 ?rq76
 case pq76 => (go_simp; try with_reducible rfl)
 refine tkL 2 (bm 10 5) ?aq77 rfl (by kernel_rfl) (fun _ _ _ h => h) (by kernel_rfl) rfl rfl (fun _ hS => hS.2.1) (by rw [info_Affine]; rfl) Try.underlying33 rfl ?pq77 hS75 ?rq77
 case pq77 => (go_simp; try with_reducible rfl)
 refine tkL 3 (bm 10 13) ?aq78 rfl (by kernel_rfl) (fun _ _ _ h => h) (by kernel_rfl) rfl rfl (fun _ hS => hS.2.2) (by rw [info_V3]; rfl) Try.underlying30 rfl ?pq78 hS75 ?rq78
 case pq78 => (go_simp; try with_reducible rfl)
 have HS79 := Lib.hid (show ∀ w', Below V64.heap.size V64 w' → (True ∧ Blk w' (g9) 33 (ac m) ∧ Blk w' (g52) 30 (vc p4)) from fun w' b => ⟨trivial, (K68.out.below b K68.out.lt), (K70.out.below b K70.out.lt)⟩)
 refine wpAnyH_sets2 (N := 10) (stop := 255) (F := 2) (m := 13) (R := [1, 4, 5, 6, 7]) (M := [13, 15, 77, 141, 31, 79, 143, 205, 63, 95, 159, 207, 127, 191, 223, 255]) (fun i => if i = 1 then 1 else if i = 4 then 14 else if i = 5 then 16 else if i = 6 then 0 else if i = 7 then 0 else 0) (fun a0 m a w9 => ∃ (v1 v4 v5 p6_ p7_ : Value) (g6_ g7_ : Nat), a = (((((a0.put (some 37) v1).put (some 40) v4).put (some 41) v5).put (some 13) p6_).put (some 14) p7_) ∧ Below V64.heap.size V64 w9 ∧ (m.testBit 1 = true → v1 = Value.agg #[.float .f64 p5.lo, .float .f64 p5.hi]) ∧ (m.testBit 4 = true → v4 = Value.agg #[.float .f64 p6.x.lo, .float .f64 p6.x.hi, .float .f64 p6.y.lo, .float .f64 p6.y.hi, .float .f64 p6.z.lo, .float .f64 p6.z.hi]) ∧ (m.testBit 5 = true → v5 = Value.agg #[.float .f64 p7.lo, .float .f64 p7.hi]) ∧ (m.testBit 6 = true → p6_ = .pointer (some ⟨g6_, 0, none⟩) ∧ Blk w9 g6_ 28 #[.float .f64 0, .float .f64 0] ∧ V64.heap.size ≤ g6_) ∧ (m.testBit 7 = true → p7_ = .pointer (some ⟨g7_, 0, none⟩) ∧ Blk w9 g7_ 28 #[.float .f64 0, .float .f64 0] ∧ V64.heap.size ≤ g7_) ∧ (m.testBit 6 = true → m.testBit 7 = true → g6_ ≠ g7_)) (by kernel_rfl) (by kernel_rfl) (by kernel_rfl) (by kernel_rfl) ?st10 ?sp10 ?re10
 case st10 =>
   exact ⟨undef, undef, undef, undef, undef, 0, 0, by go_simp, D74.out, fun h => absurd h (by decide), fun h => absurd h (by decide), fun h => absurd h (by decide), fun h => absurd h (by decide), fun h => absurd h (by decide), fun h => absurd h (by decide)⟩
 case sp10 =>
   intro m a' w9 i hi hm hd hJ
   obtain ⟨v1, v4, v5, p6_, p7_, g6_, g7_, rfl, hb0, cl1, cl4, cl5, ql6, ql7, dl6_7⟩ := hJ
   have CL1 := Lib.hid cl1
   have CL4 := Lib.hid cl4
   have CL5 := Lib.hid cl5
   have QL6 := Lib.hid ql6
   have QL7 := Lib.hid ql7
   have DL6_7 := Lib.hid dl6_7
   have HB0 := Lib.hid hb0
   clear cl1 cl4 cl5 ql6 ql7 dl6_7 hb0 hS75
   simp only [List.mem_cons, List.not_mem_nil, or_false] at hi
   rcases hi with rfl | rfl | rfl | rfl | rfl
   · refine wpOp_at rfl (by kernel_rfl) (fun K hK => ?_)
     have hd := fun j => @tb_of _ _ j hd
     go_simp
     go_at_call 17
     refine (C5.out _).mono ?_
     rintro r w10 ⟨rfl, hb⟩
     dsimp only
     have hb1 := below_step HB0.out hb
     exact hK _ _ ⟨HS79.out _ hb1, _, v4, v5, p6_, p7_, g6_, g7_, by go_simp, hb1, fun _ => rfl, fun h => CL4.out (by rwa [tb_ne (by decide)] at h), fun h => CL5.out (by rwa [tb_ne (by decide)] at h), fun h => ⟨(QL6.out (by rwa [tb_ne (by decide)] at h)).1, (QL6.out (by rwa [tb_ne (by decide)] at h)).2.1.below hb (QL6.out (by rwa [tb_ne (by decide)] at h)).2.1.lt, (QL6.out (by rwa [tb_ne (by decide)] at h)).2.2⟩, fun h => ⟨(QL7.out (by rwa [tb_ne (by decide)] at h)).1, (QL7.out (by rwa [tb_ne (by decide)] at h)).2.1.below hb (QL7.out (by rwa [tb_ne (by decide)] at h)).2.1.lt, (QL7.out (by rwa [tb_ne (by decide)] at h)).2.2⟩, fun h h' => DL6_7.out (by rwa [tb_ne (by decide)] at h) (by rwa [tb_ne (by decide)] at h')⟩
   · refine wpOp_at rfl (by kernel_rfl) (fun K hK => ?_)
     have hd := fun j => @tb_of _ _ j hd
     obtain rfl := CL1.out (hd _ (by decide))
     go_simp
     go_at_call 18
     refine (C6.out _).mono ?_
     rintro r w10 ⟨rfl, hb⟩
     dsimp only
     have hb1 := below_step HB0.out hb
     exact hK _ _ ⟨HS79.out _ hb1, _, _, v5, p6_, p7_, g6_, g7_, by go_simp, hb1, fun _ => rfl, fun _ => rfl, fun h => CL5.out (by rwa [tb_ne (by decide)] at h), fun h => ⟨(QL6.out (by rwa [tb_ne (by decide)] at h)).1, (QL6.out (by rwa [tb_ne (by decide)] at h)).2.1.below hb (QL6.out (by rwa [tb_ne (by decide)] at h)).2.1.lt, (QL6.out (by rwa [tb_ne (by decide)] at h)).2.2⟩, fun h => ⟨(QL7.out (by rwa [tb_ne (by decide)] at h)).1, (QL7.out (by rwa [tb_ne (by decide)] at h)).2.1.below hb (QL7.out (by rwa [tb_ne (by decide)] at h)).2.1.lt, (QL7.out (by rwa [tb_ne (by decide)] at h)).2.2⟩, fun h h' => DL6_7.out (by rwa [tb_ne (by decide)] at h) (by rwa [tb_ne (by decide)] at h')⟩
   · refine wpOp_at rfl (by kernel_rfl) (fun K hK => ?_)
     have hd := fun j => @tb_of _ _ j hd
     obtain rfl := CL4.out (hd _ (by decide))
     go_simp
     go_at_call 17
     refine (C7.out _).mono ?_
     rintro r w10 ⟨rfl, hb⟩
     dsimp only
     have hb1 := below_step HB0.out hb
     exact hK _ _ ⟨HS79.out _ hb1, v1, _, _, p6_, p7_, g6_, g7_, by go_simp, hb1, fun h => CL1.out (by rwa [tb_ne (by decide)] at h), fun _ => rfl, fun _ => rfl, fun h => ⟨(QL6.out (by rwa [tb_ne (by decide)] at h)).1, (QL6.out (by rwa [tb_ne (by decide)] at h)).2.1.below hb (QL6.out (by rwa [tb_ne (by decide)] at h)).2.1.lt, (QL6.out (by rwa [tb_ne (by decide)] at h)).2.2⟩, fun h => ⟨(QL7.out (by rwa [tb_ne (by decide)] at h)).1, (QL7.out (by rwa [tb_ne (by decide)] at h)).2.1.below hb (QL7.out (by rwa [tb_ne (by decide)] at h)).2.1.lt, (QL7.out (by rwa [tb_ne (by decide)] at h)).2.2⟩, fun h h' => DL6_7.out (by rwa [tb_ne (by decide)] at h) (by rwa [tb_ne (by decide)] at h')⟩
   · refine wpOp_at rfl (by kernel_rfl) (fun K hK => ?_)
     have hd := fun j => @tb_of _ _ j hd
     go_simp
     have hb1 := below_more HB0.out (.cells #[.float .f64 0, .float .f64 0] 28)
     exact hK _ _ ⟨HS79.out _ hb1, v1, v4, v5, .pointer (some ⟨w9.heap.size, 0, none⟩), p7_, w9.heap.size, g7_, by go_simp, hb1, fun h => CL1.out (by rwa [tb_ne (by decide)] at h), fun h => CL4.out (by rwa [tb_ne (by decide)] at h), fun h => CL5.out (by rwa [tb_ne (by decide)] at h), fun _ => ⟨rfl, Blk.new_at _ _ _ rfl, HB0.out.size⟩, fun h => ⟨(QL7.out (by rwa [tb_ne (by decide)] at h)).1, (QL7.out (by rwa [tb_ne (by decide)] at h)).2.1.alloc _, (QL7.out (by rwa [tb_ne (by decide)] at h)).2.2⟩, fun h h' => Nat.ne_of_gt (QL7.out (by rwa [tb_ne (by decide)] at h')).2.1.lt⟩
   · refine wpOp_at rfl (by kernel_rfl) (fun K hK => ?_)
     have hd := fun j => @tb_of _ _ j hd
     go_simp
     have hb1 := below_more HB0.out (.cells #[.float .f64 0, .float .f64 0] 28)
     exact hK _ _ ⟨HS79.out _ hb1, v1, v4, v5, p6_, .pointer (some ⟨w9.heap.size, 0, none⟩), g6_, w9.heap.size, by go_simp, hb1, fun h => CL1.out (by rwa [tb_ne (by decide)] at h), fun h => CL4.out (by rwa [tb_ne (by decide)] at h), fun h => CL5.out (by rwa [tb_ne (by decide)] at h), fun h => ⟨(QL6.out (by rwa [tb_ne (by decide)] at h)).1, (QL6.out (by rwa [tb_ne (by decide)] at h)).2.1.alloc _, (QL6.out (by rwa [tb_ne (by decide)] at h)).2.2⟩, fun _ => ⟨rfl, Blk.new_at _ _ _ rfl, HB0.out.size⟩, fun h h' => Nat.ne_of_lt (QL6.out (by rwa [tb_ne (by decide)] at h)).2.1.lt⟩
 clear hS75 D74 HS79
 intro a' W99 hJ
 obtain ⟨v1, v4, v5, p6_, p7_, g100, g101, rfl, hb0, cl1, cl4, cl5, ql6, ql7, dl6_7⟩ := hJ
 obtain rfl := cl1 (by decide)
 obtain rfl := cl4 (by decide)
 obtain rfl := cl5 (by decide)
 obtain ⟨rfl, kk6, ll6⟩ := ql6 (by decide)
 obtain ⟨rfl, kk7, ll7⟩ := ql7 (by decide)
 have ne6_7 := dl6_7 (by decide) (by decide)
 clear dl6_7
 have D82 := Lib.hid hb0
 clear hb0
 refine wpAnyH_frame (a' := ?frq81) ?feq81 ?fgq81
 case feq81 => (go_simp; try with_reducible rfl)
 have K84 := Lib.hid ((kb K67 D82) : Blk W99 (w.heap.size) 24 #[.float .f64 p, .float .f64 q, .float .f64 r])
 have K85 := Lib.hid ((kb K68 D82) : Blk W99 (g9) 33 (ac m))
 have K86 := Lib.hid ((kb K69 D82) : Blk W99 (g28) 28 #[.float .f64 p3.lo, .float .f64 p3.hi])
 have K87 := Lib.hid ((kb K70 D82) : Blk W99 (g52) 30 (vc p4))
 have K88 := Lib.hid kk6
 clear kk6
 have K91 := Lib.hid kk7
 clear kk7
 have HB94 := Lib.hid (below_step HB71.out D82.out)
 have Y90 := Lib.hid (show w.heap.size ≤ g100 ∧ w.heap.size < g100 ∧ g9 < g100 ∧ g28 < g100 ∧ g52 < g100 from ⟨Nat.le_trans HB71.out.size ll6, Nat.lt_of_lt_of_le K67.out.lt ll6, Nat.lt_of_lt_of_le K68.out.lt ll6, Nat.lt_of_lt_of_le K69.out.lt ll6, Nat.lt_of_lt_of_le K70.out.lt ll6⟩)
 have Y95 := Lib.hid (And.intro Y63.out Y90.out)
 clear Y63 Y90
 have Y93 := Lib.hid (show w.heap.size ≤ g101 ∧ w.heap.size < g101 ∧ g9 < g101 ∧ g28 < g101 ∧ g52 < g101 from ⟨Nat.le_trans HB71.out.size ll7, Nat.lt_of_lt_of_le K67.out.lt ll7, Nat.lt_of_lt_of_le K68.out.lt ll7, Nat.lt_of_lt_of_le K69.out.lt ll7, Nat.lt_of_lt_of_le K70.out.lt ll7⟩)
 have Y96 := Lib.hid (And.intro Y95.out Y93.out)
 clear Y95 Y93
 have Y97 := Lib.hid ne6_7
 clear ne6_7
 have Y98 := Lib.hid (And.intro Y96.out Y97.out)
 clear Y96 Y97
 clear K67 K68 K69 K70 ll6 ll7 HB71
 have D102 := Lib.hid (Below.refl W99.heap.size W99)
 clear D82
 have hS103 : True ∧ Blk W99 (g9) 33 (ac m) ∧ Blk W99 (g52) 30 (vc p4) := ⟨trivial, (kb K85 D102), (kb K87 D102)⟩
 refine wpAnyH_oneM (i := 8) (l' := bm 10 511) rfl (by kernel_rfl) (by kernel_rfl) (by kernel_rfl) (fun K hK => ?_)
 have f106 := (kb K88 D102).cellsL 0 [.float .f64 0, .float .f64 0] rfl
 dsimp only [CellsL, al, vl, Nat.reduceAdd] at f106
 have u107 := (kb K88 D102).unfrozen
 obtain ⟨V104, hV105⟩ : ∃ V, setCells W99 (g100) 0 [.float .f64 p5.lo, .float .f64 p5.hi] = V := ⟨_, rfl⟩
 have hv108 := hV105
 simp only [setCells, Nat.reduceAdd] at hv108
 have K109 := kf hV105 K84 D102 (by have := Y98.out; omega)
 have K110 := kf hV105 K85 D102 (by have := Y98.out; omega)
 have K111 := kf hV105 K86 D102 (by have := Y98.out; omega)
 have K112 := kf hV105 K87 D102 (by have := Y98.out; omega)
 have K113 := Lib.hid (show Blk V104 (g100) 28 #[.float .f64 p5.lo, .float .f64 p5.hi] from (ks hV105 K88 D102).out)
 have K114 := kf hV105 K91 D102 (by have := Y98.out; omega)
 have HB115 := hbs hV105 HB94 D102 (by have := Y98.out; omega)
 have D116 := dr V104
 clear K84 K85 K86 K87 K88 K91 HB94 D102
 go_simp
 clear hV105 f106 u107 hv108
 have hS117 : True ∧ Blk V104 (g9) 33 (ac m) ∧ Blk V104 (g52) 30 (vc p4) := ⟨trivial, (kb K110 D116), (kb K112 D116)⟩
 refine hK _ _ hS117 ?_
 clear hK K hS103
 refine wpAnyH_oneM (i := 9) (l' := bm 10 1023) rfl (by kernel_rfl) (by kernel_rfl) (by kernel_rfl) (fun K hK => ?_)
 have f120 := (kb K114 D116).cellsL 0 [.float .f64 0, .float .f64 0] rfl
 dsimp only [CellsL, al, vl, Nat.reduceAdd] at f120
 have u121 := (kb K114 D116).unfrozen
 obtain ⟨V118, hV119⟩ : ∃ V, setCells V104 (g101) 0 [.float .f64 p7.lo, .float .f64 p7.hi] = V := ⟨_, rfl⟩
 have hv122 := hV119
 simp only [setCells, Nat.reduceAdd] at hv122
 have K123 := kf hV119 K109 D116 (by have := Y98.out; omega)
 have K124 := kf hV119 K110 D116 (by have := Y98.out; omega)
 have K125 := kf hV119 K111 D116 (by have := Y98.out; omega)
 have K126 := kf hV119 K112 D116 (by have := Y98.out; omega)
 have K127 := kf hV119 K113 D116 (by have := Y98.out; omega)
 have K128 := Lib.hid (show Blk V118 (g101) 28 #[.float .f64 p7.lo, .float .f64 p7.hi] from (ks hV119 K114 D116).out)
 have HB129 := hbs hV119 HB115 D116 (by have := Y98.out; omega)
 have D130 := dr V118
 clear K109 K110 K111 K112 K113 K114 HB115 D116
 go_simp
 clear hV119 f120 u121 hv122
 have hS131 : True ∧ Blk V118 (g9) 33 (ac m) ∧ Blk V118 (g52) 30 (vc p4) := ⟨trivial, (kb K124 D130), (kb K126 D130)⟩
 refine hK _ _ hS131 ?_
 clear hK K hS117
 refine wpAnyH_done (by kernel_rfl) ?_ _
 clear hS131
 have hq132 := (kb K125 D130).cellsL 0 [.float .f64 p3.lo, .float .f64 p3.hi] rfl
 dsimp only [CellsL, al, vl, Nat.reduceAdd] at hq132
 have hq133 := (kb K127 D130).cellsL 0 [.float .f64 p5.lo, .float .f64 p5.hi] rfl
 dsimp only [CellsL, al, vl, Nat.reduceAdd] at hq133
 have hq134 := (kb K128 D130).cellsL 0 [.float .f64 p7.lo, .float .f64 p7.hi] rfl
 dsimp only [CellsL, al, vl, Nat.reduceAdd] at hq134
 go_wp2_with fail
 clear hq132 hq133 hq134
 go_ret
 exact ⟨rfl, below_step HB129.out D130.out⟩
theorem turn_ways (axis : Int) (c s : Nat) (hc : c < 18446744073709551616) (hs : s < 18446744073709551616) : (∀ w, Calls Try.prog 13 #[.int .i64 axis, .float .f64 c, .float .f64 s] w fun r w' => r = .returned (.tuple #[.agg #[Value.float FloatKind.f64 0, Value.float FloatKind.f64 0, Value.float FloatKind.f64 0, Value.float FloatKind.f64 0, Value.float FloatKind.f64 0, Value.float FloatKind.f64 0, Value.float FloatKind.f64 0, Value.float FloatKind.f64 0, Value.float FloatKind.f64 0, Value.float FloatKind.f64 0, Value.float FloatKind.f64 0, Value.float FloatKind.f64 0, Value.float FloatKind.f64 0, Value.float FloatKind.f64 0, Value.float FloatKind.f64 0, Value.float FloatKind.f64 0, Value.float FloatKind.f64 0, Value.float FloatKind.f64 0, Value.float FloatKind.f64 0, Value.float FloatKind.f64 0, Value.float FloatKind.f64 0, Value.float FloatKind.f64 0, Value.float FloatKind.f64 0, Value.float FloatKind.f64 0], .int .i64 2]) ∧ Below w.heap.size w w') ∨
   (∀ w, Calls Try.prog 13 #[.int .i64 axis, .float .f64 c, .float .f64 s] w fun r w' => r = .returned (.tuple #[.agg #[Value.float FloatKind.f64 0, Value.float FloatKind.f64 0, Value.float FloatKind.f64 0, Value.float FloatKind.f64 0, Value.float FloatKind.f64 0, Value.float FloatKind.f64 0, Value.float FloatKind.f64 0, Value.float FloatKind.f64 0, Value.float FloatKind.f64 0, Value.float FloatKind.f64 0, Value.float FloatKind.f64 0, Value.float FloatKind.f64 0, Value.float FloatKind.f64 0, Value.float FloatKind.f64 0, Value.float FloatKind.f64 0, Value.float FloatKind.f64 0, Value.float FloatKind.f64 0, Value.float FloatKind.f64 0, Value.float FloatKind.f64 0, Value.float FloatKind.f64 0, Value.float FloatKind.f64 0, Value.float FloatKind.f64 0, Value.float FloatKind.f64 0, Value.float FloatKind.f64 0], .int .i64 11]) ∧ Below w.heap.size w w') ∨
   ∃ m : Af, (∀ w, Calls Try.prog 13 #[.int .i64 axis, .float .f64 c, .float .f64 s] w fun r w' => r = .returned (.tuple #[aval m, .int .i64 0]) ∧ Below w.heap.size w w') ∧ ∀ p q r, Keeps m (vOf p q r) := by
 by_cases h0 : axis < 0
 · exact Or.inl fun w => turnA_lo c s axis (decide_eq_true h0) w
 · by_cases h3 : 2 < axis
   · exact Or.inl fun w => turnA_hi c s axis (decide_eq_false h0) (decide_eq_true h3) (decide_eq_true h3) w
   · by_cases h1 : 0 < Z (tuL c s).lo
     · cases h2 : (tuL c s).wide
       · have h4 : axis = 0 ∨ axis = 1 ∨ axis = 2 := by omega
         rcases h4 with rfl | rfl | rfl
         · exact Or.inr (Or.inr ⟨_, fun w => turnA_k0 c s hc hs h1 h2 w, turn0_keeps c s h1⟩)
         · exact Or.inr (Or.inr ⟨_, fun w => turnA_k1 c s hc hs h1 h2 w, turn1_keeps c s h1⟩)
         · exact Or.inr (Or.inr ⟨_, fun w => turnA_k2 c s hc hs h1 h2 w, turn2_keeps c s h1⟩)
       · exact Or.inr (Or.inl fun w => turnA_w axis c s (decide_eq_false h0) (decide_eq_false h3) (decide_eq_false h3) hc hs h1 h2 w)
     · exact Or.inr (Or.inl fun w => turnA_b axis c s (decide_eq_false h0) (decide_eq_false h3) (decide_eq_false h3) hc hs h1 w)
theorem walk_xformTurns (axis : Int) (c s p q r : Nat) (hc : c < 18446744073709551616) (hs : s < 18446744073709551616) (hp : p < 18446744073709551616) (hq : q < 18446744073709551616) (hr : r < 18446744073709551616) (w : World) : Calls Try.prog 3 #[.int .i64 axis, .float .f64 c, .float .f64 s, .agg #[.float .f64 p, .float .f64 q, .float .f64 r]] w fun r w' => r = .returned (.bool true) ∧ Below w.heap.size w w' := by
 cases hn : nmB p q r
 · exact xformTurns_n axis c s p q r hc hs hp hq hr hn w
 · rcases turn_ways axis c s hc hs with h | h | ⟨m, h, hk⟩
   · exact xformTurns_2 axis c s p q r hc hs hp hq hr hn h w
   · exact xformTurns_11 axis c s p q r hc hs hp hq hr hn h w
   · exact xformTurns_k axis c s p q r hc hs hp hq hr hn m h (hk p q r) w
end Go.Proofs.Ytnljfcebmgifdaa
