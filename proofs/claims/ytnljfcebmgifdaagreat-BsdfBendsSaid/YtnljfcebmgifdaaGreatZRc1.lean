/- Shaken: Bs1. -/
import Derived.Test.YtnljfcebmgifdaaGreatZRc
set_option maxRecDepth 100000
set_option maxHeartbeats 8000000
set_option linter.unusedVariables false
set_option linter.unusedSimpArgs false
namespace Go.Proofs.YtnljfcebmgifdaaGreat
open Go.RowKit Fl
theorem pos_lit {a : Sp} {k : Nat} (h : posS a = k) (w : World) : Calls Tryz.prog 64 #[.agg #[.float .f64 a.lo, .float .f64 a.hi]] w fun r w' => r = .returned (.int .i64 (k : Nat)) ∧ Below w.heap.size w w' := h ▸ pos_sp a w
theorem mirV_any (n d : V3) (w : World) : Calls Tryz.prog 82 #[Value.agg #[.float .f64 n.x.lo, .float .f64 n.x.hi, .float .f64 n.y.lo, .float .f64 n.y.hi, .float .f64 n.z.lo, .float .f64 n.z.hi], Value.agg #[.float .f64 d.x.lo, .float .f64 d.x.hi, .float .f64 d.y.lo, .float .f64 d.y.hi, .float .f64 d.z.lo, .float .f64 d.z.hi]] w fun r w' => r = .returned (vval (bdMir n d)) ∧ Below w.heap.size w w' := by
 have C0 := Lib.hid (fun w => of_sp 4611686018427387904 (by decide) w)
 obtain ⟨p0, hp0⟩ : ∃ z_, ofS 4611686018427387904 = z_ := ⟨_, rfl⟩
 rw [hp0] at C0
 have C1 := Lib.hid (fun w => dotV_any n d w)
 obtain ⟨p1, hp1⟩ : ∃ z_, vDot n d = z_ := ⟨_, rfl⟩
 rw [hp1] at C1
 have C2 := Lib.hid (fun w => mul_sp p0 p1 w)
 obtain ⟨p2, hp2⟩ : ∃ z_, mulS p0 p1 = z_ := ⟨_, rfl⟩
 rw [hp2] at C2
 have C3 := Lib.hid (fun w => scaleV_any n p2 w)
 obtain ⟨p3, hp3⟩ : ∃ z_, vMul n ⟨p2, p2, p2⟩ = z_ := ⟨_, rfl⟩
 rw [hp3] at C3
 have C4 := Lib.hid (fun w => vSub_any d p3 w)
 obtain ⟨p4, hp4⟩ : ∃ z_, vSub d p3 = z_ := ⟨_, rfl⟩
 rw [hp4] at C4
 have hT : bdMir n d = p4 := by
   subst hp0 hp1 hp2 hp3 hp4; rfl
 rw [hT]
 clear hT
 clear hp0 hp1 hp2 hp3 hp4
 go_enter Tryz.func82, Tryz.ntmps82
 go_wp2_with fail
 obtain ⟨W, hW, K0, K1, K2, hB, hz⟩ := bx3 w 26 26 26 (vc n) (vc d) #[.float .f64 0, .float .f64 0, .float .f64 0, .float .f64 0, .float .f64 0, .float .f64 0]
 rw [← hW]
 have K0 := Lib.hid K0
 have K1 := Lib.hid K1
 have K2 := Lib.hid K2
 have HB := Lib.hid hB
 clear hW hB hz
 have D1 := dr W
 refine wp_region_held (S := (fun w' => True ∧ Blk w' (w.heap.size) 26 (vc n) ∧ Blk w' (w.heap.size + 1) 26 (vc d))) (by kernel_rfl) ?_
 change wpAnyH _ _ _ _ _ _ _ _ (World.drew _)
 obtain ⟨wd2, hwd⟩ : ∃ x, x = World.drew W := ⟨_, rfl⟩
 rw [← hwd]
 have D3 := Lib.hid (hwd ▸ Below.drew D1.out : Below W.heap.size W wd2)
 clear D1 hwd
 have hS4 : True ∧ Blk wd2 (w.heap.size) 26 (vc n) ∧ Blk wd2 (w.heap.size + 1) 26 (vc d) := ⟨trivial, (kb K0 D3), (kb K1 D3)⟩
 refine tkL 0 (bm 10 1) ?aq5 rfl (by kernel_rfl) (fun _ _ _ h => h) (by kernel_rfl) rfl rfl (fun _ hS => hS.2.2) (by rw [info_V3]; rfl) Tryz.underlying26 rfl ?pq5 hS4 ?rq5
 case pq5 => (go_simp; try with_reducible rfl)
 refine tkL 1 (bm 10 3) ?aq6 rfl (by kernel_rfl) (fun _ _ _ h => h) (by kernel_rfl) rfl rfl (fun _ hS => hS.2.1) (by rw [info_V3]; rfl) Tryz.underlying26 rfl ?pq6 hS4 ?rq6
 case pq6 => (go_simp; try with_reducible rfl)
 refine tkL 3 (bm 10 11) ?aq7 rfl (by kernel_rfl) (fun _ _ _ h => h) (by kernel_rfl) rfl rfl (fun _ hS => hS.2.1) (by rw [info_V3]; rfl) Tryz.underlying26 rfl ?pq7 hS4 ?rq7
 case pq7 => (go_simp; try with_reducible rfl)
 refine tkL 4 (bm 10 27) ?aq8 rfl (by kernel_rfl) (fun _ _ _ h => h) (by kernel_rfl) rfl rfl (fun _ hS => hS.2.2) (by rw [info_V3]; rfl) Tryz.underlying26 rfl ?pq8 hS4 ?rq8
 case pq8 => (go_simp; try with_reducible rfl)
 refine wpAnyH_oneN (i := 2) (l' := bm 10 31) rfl (by kernel_rfl) (by kernel_rfl) (by kernel_rfl) (fun K hK => ?_)
 go_simp
 go_at_call 66
 refine (C0.out _).mono ?_
 rintro r w9 ⟨rfl, hb⟩
 dsimp only
 have D10 := ds D3 hb
 clear D3
 clear hb
 have hS11 : True ∧ Blk w9 (w.heap.size) 26 (vc n) ∧ Blk w9 (w.heap.size + 1) 26 (vc d) := ⟨trivial, (kb K0 D10), (kb K1 D10)⟩
 refine hK _ _ hS11 ?_
 clear hK K hS4
 refine wpAnyH_oneN (i := 5) (l' := bm 10 63) rfl (by kernel_rfl) (by kernel_rfl) (by kernel_rfl) (fun K hK => ?_)
 go_simp
 go_at_call 51
 refine (C1.out _).mono ?_
 rintro r w12 ⟨rfl, hb⟩
 dsimp only
 have D13 := ds D10 hb
 clear D10
 clear hb
 have hS14 : True ∧ Blk w12 (w.heap.size) 26 (vc n) ∧ Blk w12 (w.heap.size + 1) 26 (vc d) := ⟨trivial, (kb K0 D13), (kb K1 D13)⟩
 refine hK _ _ hS14 ?_
 clear hK K hS11
 refine wpAnyH_oneN (i := 6) (l' := bm 10 127) rfl (by kernel_rfl) (by kernel_rfl) (by kernel_rfl) (fun K hK => ?_)
 go_simp
 go_at_call 68
 refine (C2.out _).mono ?_
 rintro r w15 ⟨rfl, hb⟩
 dsimp only
 have D16 := ds D13 hb
 clear D13
 clear hb
 have hS17 : True ∧ Blk w15 (w.heap.size) 26 (vc n) ∧ Blk w15 (w.heap.size + 1) 26 (vc d) := ⟨trivial, (kb K0 D16), (kb K1 D16)⟩
 refine hK _ _ hS17 ?_
 clear hK K hS14
 refine wpAnyH_oneN (i := 7) (l' := bm 10 255) rfl (by kernel_rfl) (by kernel_rfl) (by kernel_rfl) (fun K hK => ?_)
 go_simp
 go_at_call 79
 refine (C3.out _).mono ?_
 rintro r w18 ⟨rfl, hb⟩
 dsimp only
 have D19 := ds D16 hb
 clear D16
 clear hb
 have hS20 : True ∧ Blk w18 (w.heap.size) 26 (vc n) ∧ Blk w18 (w.heap.size + 1) 26 (vc d) := ⟨trivial, (kb K0 D19), (kb K1 D19)⟩
 refine hK _ _ hS20 ?_
 clear hK K hS17
 refine wpAnyH_oneN (i := 8) (l' := bm 10 511) rfl (by kernel_rfl) (by kernel_rfl) (by kernel_rfl) (fun K hK => ?_)
 go_simp
 go_at_call 116
 refine (C4.out _).mono ?_
 rintro r w21 ⟨rfl, hb⟩
 dsimp only
 have D22 := ds D19 hb
 clear D19
 clear hb
 have hS23 : True ∧ Blk w21 (w.heap.size) 26 (vc n) ∧ Blk w21 (w.heap.size + 1) 26 (vc d) := ⟨trivial, (kb K0 D22), (kb K1 D22)⟩
 refine hK _ _ hS23 ?_
 clear hK K hS20
 refine wpAnyH_oneN (i := 9) (l' := bm 10 1023) rfl (by kernel_rfl) (by kernel_rfl) (by kernel_rfl) (fun K hK => ?_)
 have f26 := (kb K2 D22)
 obtain ⟨V24, hV25⟩ : ∃ V, World.setRow w21 (w.heap.size + 1 + 1) (vc p4) = V := ⟨_, rfl⟩
 have K27 := kfr hV25 K0 D22 (by omega)
 have K28 := kfr hV25 K1 D22 (by omega)
 have K29 := ksr hV25 K2 D22
 have HB30 := hbr hV25 HB D22 (by omega)
 have D31 := dr V24
 clear K0 K1 K2 HB D22
 refine wp_store_row 26 _ _ rfl (w.heap.size + 1 + 1) (vc p4) rfl rfl _ _ f26 (by rw [info_V3]; rfl) rfl (by kernel_rfl) ?_
 rw [hV25]
 go_simp
 clear hV25 f26
 have hS32 : True ∧ Blk V24 (w.heap.size) 26 (vc n) ∧ Blk V24 (w.heap.size + 1) 26 (vc d) := ⟨trivial, (kb K27 D31), (kb K28 D31)⟩
 refine hK _ _ hS32 ?_
 clear hK K hS23
 refine wpAnyH_done (by kernel_rfl) ?_ _
 clear hS32
 go_wp2_with fail
 (try simp only [Exit.inBlock, Exit.then])
 exact bodyPost_ret (res_c rfl _ _ (w.heap.size + 1 + 1) (vc p4) rfl (kb K29 D31) (by rw [info_V3]; rfl) Tryz.underlying26 rfl) rfl ⟨rfl, below_step HB30.out D31.out⟩
theorem bent_1 (n d : V3) (q : Sp) (h : posS (bdRest q (bdCos n d)) = 1) (w : World) : Calls Tryz.prog 35 #[Value.agg #[.float .f64 n.x.lo, .float .f64 n.x.hi, .float .f64 n.y.lo, .float .f64 n.y.hi, .float .f64 n.z.lo, .float .f64 n.z.hi], Value.agg #[.float .f64 d.x.lo, .float .f64 d.x.hi, .float .f64 d.y.lo, .float .f64 d.y.hi, .float .f64 d.z.lo, .float .f64 d.z.hi], Value.agg #[.float .f64 q.lo, .float .f64 q.hi]] w fun r w' => r = .returned (.tuple #[vval (bdBent n d q (sqrtS (bdRest q (bdCos n d)))), .agg #[.float .f64 (sqrtS (bdRest q (bdCos n d))).lo, .float .f64 (sqrtS (bdRest q (bdCos n d))).hi], .int .i64 1]) ∧ Below w.heap.size w w' := by
 have C0 := Lib.hid (fun w => dotV_any n d w)
 obtain ⟨p0, hp0⟩ : ∃ z_, vDot n d = z_ := ⟨_, rfl⟩
 rw [hp0] at C0
 have C1 := Lib.hid (fun w => neg_sp p0 w)
 obtain ⟨p1, hp1⟩ : ∃ z_, negS p0 = z_ := ⟨_, rfl⟩
 rw [hp1] at C1
 have C2 := Lib.hid (fun w => sqr_sp q w)
 obtain ⟨p2, hp2⟩ : ∃ z_, sqrS q = z_ := ⟨_, rfl⟩
 rw [hp2] at C2
 have C3 := Lib.hid (fun w => of_sp 4607182418800017408 (by decide) w)
 obtain ⟨p3, hp3⟩ : ∃ z_, ofS 4607182418800017408 = z_ := ⟨_, rfl⟩
 rw [hp3] at C3
 have C4 := Lib.hid (fun w => sqr_sp p1 w)
 obtain ⟨p4, hp4⟩ : ∃ z_, sqrS p1 = z_ := ⟨_, rfl⟩
 rw [hp4] at C4
 have C5 := Lib.hid (fun w => sub_sp p3 p4 w)
 obtain ⟨p5, hp5⟩ : ∃ z_, subS p3 p4 = z_ := ⟨_, rfl⟩
 rw [hp5] at C5
 have C6 := Lib.hid (fun w => max_sp p5 zeroS w)
 simp only [zeroS_lo, zeroS_hi, zeroV_x, zeroV_y, zeroV_z, zeroA_a, zeroA_b, zeroA_c, zeroA_t] at C6
 obtain ⟨p6, hp6⟩ : ∃ z_, maxS p5 zeroS = z_ := ⟨_, rfl⟩
 rw [hp6] at C6
 have C7 := Lib.hid (fun w => mul_sp p2 p6 w)
 obtain ⟨p7, hp7⟩ : ∃ z_, mulS p2 p6 = z_ := ⟨_, rfl⟩
 rw [hp7] at C7
 have C8 := Lib.hid (fun w => of_sp 4607182418800017408 (by decide) w)
 rw [hp3] at C8
 have C9 := Lib.hid (fun w => sub_sp p3 p7 w)
 obtain ⟨p9, hp9⟩ : ∃ z_, subS p3 p7 = z_ := ⟨_, rfl⟩
 rw [hp9] at C9
 have hl : posS p9 = 1 := by rw [← hp9, ← hp7, ← hp6, ← hp5, ← hp4, ← hp3, ← hp2, ← hp1, ← hp0]; exact h
 have C10 := Lib.hid (fun w => pos_lit hl w)
 have C11 := Lib.hid (fun w => sqrt_sp p9 w)
 obtain ⟨p11, hp11⟩ : ∃ z_, sqrtS p9 = z_ := ⟨_, rfl⟩
 rw [hp11] at C11
 have C12 := Lib.hid (fun w => mul_sp q p1 w)
 obtain ⟨p12, hp12⟩ : ∃ z_, mulS q p1 = z_ := ⟨_, rfl⟩
 rw [hp12] at C12
 have C13 := Lib.hid (fun w => sub_sp p12 p11 w)
 obtain ⟨p13, hp13⟩ : ∃ z_, subS p12 p11 = z_ := ⟨_, rfl⟩
 rw [hp13] at C13
 have C14 := Lib.hid (fun w => scaleV_any d q w)
 obtain ⟨p14, hp14⟩ : ∃ z_, vMul d ⟨q, q, q⟩ = z_ := ⟨_, rfl⟩
 rw [hp14] at C14
 have C15 := Lib.hid (fun w => scaleV_any n p13 w)
 obtain ⟨p15, hp15⟩ : ∃ z_, vMul n ⟨p13, p13, p13⟩ = z_ := ⟨_, rfl⟩
 rw [hp15] at C15
 have C16 := Lib.hid (fun w => vAdd_any p14 p15 w)
 obtain ⟨p16, hp16⟩ : ∃ z_, vAdd p14 p15 = z_ := ⟨_, rfl⟩
 rw [hp16] at C16
 have hT0 : bdBent n d q (sqrtS (bdRest q (bdCos n d))) = p16 := by
   subst hp0 hp1 hp2 hp3 hp4 hp5 hp6 hp7 hp9 hp11 hp12 hp13 hp14 hp15 hp16; rfl
 have hT1 : sqrtS (bdRest q (bdCos n d)) = p11 := by
   subst hp0 hp1 hp2 hp3 hp4 hp5 hp6 hp7 hp9 hp11 hp12 hp13 hp14 hp15 hp16; rfl
 rw [hT0, hT1]
 clear hT0 hT1
 clear hp0 hp1 hp2 hp3 hp4 hp5 hp6 hp7 hp9 hp11 hp12 hp13 hp14 hp15 hp16
 go_enter Tryz.func35, Tryz.ntmps35
 go_wp2_with fail
 obtain ⟨W, hW, K0, K1, K2, K3, K4, hB, hz⟩ := bx5 w 26 26 24 26 24 (vc n) (vc d) #[.float .f64 q.lo, .float .f64 q.hi] #[.float .f64 0, .float .f64 0, .float .f64 0, .float .f64 0, .float .f64 0, .float .f64 0] #[.float .f64 0, .float .f64 0]
 rw [← hW]
 have K0 := Lib.hid K0
 have K1 := Lib.hid K1
 have K2 := Lib.hid K2
 have K3 := Lib.hid K3
 have K4 := Lib.hid K4
 have HB := Lib.hid hB
 clear hW hB hz
 have D1 := dr W
 refine (C0.out _).mono ?_
 rintro r w2 ⟨rfl, hb⟩
 have D3 := ds D1 hb
 clear D1
 clear hb
 go_wp2_with fail
 refine (C1.out _).mono ?_
 rintro r w4 ⟨rfl, hb⟩
 have D5 := ds D3 hb
 clear D3
 clear hb
 obtain ⟨g6, hg8⟩ : ∃ g, w4.heap.size = g := ⟨_, rfl⟩
 have Y10 := Lib.hid (show w.heap.size < g6 ∧ w.heap.size + 1 < g6 ∧ w.heap.size + 1 + 1 < g6 ∧ w.heap.size + 1 + 1 + 1 < g6 ∧ w.heap.size + 1 + 1 + 1 + 1 < g6 by rw [← hg8]; exact ⟨(kb K0 D5).lt, (kb K1 D5).lt, (kb K2 D5).lt, (kb K3 D5).lt, (kb K4 D5).lt⟩)
 obtain ⟨V7, hV9⟩ : ∃ V, w4.alloc (.cells #[.float .f64 0, .float .f64 0] 24) = V := ⟨_, rfl⟩
 have K11 := ka hV9 K0 D5
 have K12 := ka hV9 K1 D5
 have K13 := ka hV9 K2 D5
 have K14 := ka hV9 K3 D5
 have K15 := ka hV9 K4 D5
 have K16 := kn hV9 hg8
 have HB17 := hba hV9 HB D5
 have D18 := dr V7
 clear K0 K1 K2 K3 K4 HB D5
 have f21 := (kb K16 D18).cellsL 0 [.float .f64 0, .float .f64 0] rfl
 dsimp only [CellsL, al, vl, Nat.reduceAdd] at f21
 have u22 := (kb K16 D18).unfrozen
 obtain ⟨V19, hV20⟩ : ∃ V, setCells V7 (g6) 0 [.float .f64 p1.lo, .float .f64 p1.hi] = V := ⟨_, rfl⟩
 have hv23 := hV20
 simp only [setCells, Nat.reduceAdd] at hv23
 have K24 := kf hV20 K11 D18 (by have := Y10.out; omega)
 have K25 := kf hV20 K12 D18 (by have := Y10.out; omega)
 have K26 := kf hV20 K13 D18 (by have := Y10.out; omega)
 have K27 := kf hV20 K14 D18 (by have := Y10.out; omega)
 have K28 := kf hV20 K15 D18 (by have := Y10.out; omega)
 have K29 := Lib.hid (show Blk V19 (g6) 24 #[.float .f64 p1.lo, .float .f64 p1.hi] from (ks hV20 K16 D18).out)
 have HB30 := hbs hV20 HB17 D18 (by have := Y10.out; omega)
 have D31 := dr V19
 clear K11 K12 K13 K14 K15 K16 HB17 D18
 go_wp2_with fail
 clear hg8 hV9 hV20 f21 u22 hv23
 refine wp_region_held (S := (fun w' => True ∧ CellsL w' (w.heap.size + 1 + 1) 0 [.float .f64 q.lo, .float .f64 q.hi] ∧ CellsL w' (g6) 0 [.float .f64 p1.lo, .float .f64 p1.hi])) (by kernel_rfl) ?_
 change wpAnyH _ _ _ _ _ _ _ _ (World.drew _)
 obtain ⟨wd32, hwd⟩ : ∃ x, x = World.drew V19 := ⟨_, rfl⟩
 rw [← hwd]
 have D33 := Lib.hid (hwd ▸ Below.drew D31.out : Below V19.heap.size V19 wd32)
 clear D31 hwd
 have hS34 : True ∧ CellsL wd32 (w.heap.size + 1 + 1) 0 [.float .f64 q.lo, .float .f64 q.hi] ∧ CellsL wd32 (g6) 0 [.float .f64 p1.lo, .float .f64 p1.hi] := ⟨trivial, (kb K26 D33).cellsL 0 [.float .f64 q.lo, .float .f64 q.hi] rfl, (kb K29 D33).cellsL 0 [.float .f64 p1.lo, .float .f64 p1.hi] rfl⟩
 refine tke 0 (bm 11 1) hS34 ?_
 refine tke 3 (bm 11 9) hS34 ?_
 refine tkq 6 (bm 11 73) hS34 ?_
 have HS38 := Lib.hid (show ∀ w', Below V19.heap.size V19 w' → (True ∧ CellsL w' (w.heap.size + 1 + 1) 0 [.float .f64 q.lo, .float .f64 q.hi] ∧ CellsL w' (g6) 0 [.float .f64 p1.lo, .float .f64 p1.hi]) from fun w' b => ⟨trivial, (K26.out.below b K26.out.lt).cellsL 0 [.float .f64 q.lo, .float .f64 q.hi] rfl, (K29.out.below b K29.out.lt).cellsL 0 [.float .f64 p1.lo, .float .f64 p1.hi] rfl⟩)
 refine wpAnyH_sets2 (N := 11) (stop := 1023) (F := 1) (m := 73) (R := [1, 2, 4, 5, 7, 8, 9]) (M := [73, 75, 585, 79, 587, 95, 591, 127, 607, 255, 639, 511, 767, 1023]) (fun i => if i = 1 then 1 else if i = 2 then 2 else if i = 4 then 12 else if i = 5 then 20 else if i = 7 then 96 else if i = 8 then 130 else if i = 9 then 0 else 0) (fun a0 m a w9 => ∃ (v1 v2 v4 v5 v7 v8 p9_ : Value) (g9_ : Nat), a = (((((((a0.put (some 20) v1).put (some 21) v2).put (some 23) v4).put (some 24) v5).put (some 26) v7).put (some 27) v8).put (some 10) p9_) ∧ Below V19.heap.size V19 w9 ∧ (m.testBit 1 = true → v1 = Value.agg #[.float .f64 p2.lo, .float .f64 p2.hi]) ∧ (m.testBit 2 = true → v2 = Value.agg #[.float .f64 p3.lo, .float .f64 p3.hi]) ∧ (m.testBit 4 = true → v4 = Value.agg #[.float .f64 p4.lo, .float .f64 p4.hi]) ∧ (m.testBit 5 = true → v5 = Value.agg #[.float .f64 p5.lo, .float .f64 p5.hi]) ∧ (m.testBit 7 = true → v7 = Value.agg #[.float .f64 p6.lo, .float .f64 p6.hi]) ∧ (m.testBit 8 = true → v8 = Value.agg #[.float .f64 p7.lo, .float .f64 p7.hi]) ∧ (m.testBit 9 = true → p9_ = .pointer (some ⟨g9_, 0, none⟩) ∧ Blk w9 g9_ 24 #[.float .f64 0, .float .f64 0] ∧ V19.heap.size ≤ g9_)) (by kernel_rfl) (by kernel_rfl) (by kernel_rfl) (by kernel_rfl) ?st2 ?sp2 ?re2
 case st2 =>
   exact ⟨undef, undef, undef, undef, undef, undef, undef, 0, by go_simp, D33.out, fun h => absurd h (by decide), fun h => absurd h (by decide), fun h => absurd h (by decide), fun h => absurd h (by decide), fun h => absurd h (by decide), fun h => absurd h (by decide), fun h => absurd h (by decide)⟩
 case sp2 =>
   intro m a' w9 i hi hm hd hJ
   obtain ⟨v1, v2, v4, v5, v7, v8, p9_, g9_, rfl, hb0, cl1, cl2, cl4, cl5, cl7, cl8, ql9⟩ := hJ
   have CL1 := Lib.hid cl1
   have CL2 := Lib.hid cl2
   have CL4 := Lib.hid cl4
   have CL5 := Lib.hid cl5
   have CL7 := Lib.hid cl7
   have CL8 := Lib.hid cl8
   have QL9 := Lib.hid ql9
   have HB0 := Lib.hid hb0
   clear cl1 cl2 cl4 cl5 cl7 cl8 ql9 hb0 hS34
   simp only [List.mem_cons, List.not_mem_nil, or_false] at hi
   rcases hi with rfl | rfl | rfl | rfl | rfl | rfl | rfl
   · refine wpOp_at rfl (by kernel_rfl) (fun K hK => ?_)
     have hd := fun j => @tb_of _ _ j hd
     go_simp
     go_at_call 69
     refine (C2.out _).mono ?_
     rintro r w10 ⟨rfl, hb⟩
     dsimp only
     have hb1 := below_step HB0.out hb
     exact hK _ _ ⟨HS38.out _ hb1, _, v2, v4, v5, v7, v8, p9_, g9_, by go_simp, hb1, fun _ => rfl, fun h => CL2.out (by rwa [tb_ne (by decide)] at h), fun h => CL4.out (by rwa [tb_ne (by decide)] at h), fun h => CL5.out (by rwa [tb_ne (by decide)] at h), fun h => CL7.out (by rwa [tb_ne (by decide)] at h), fun h => CL8.out (by rwa [tb_ne (by decide)] at h), fun h => ⟨(QL9.out (by rwa [tb_ne (by decide)] at h)).1, (QL9.out (by rwa [tb_ne (by decide)] at h)).2.1.below hb (QL9.out (by rwa [tb_ne (by decide)] at h)).2.1.lt, (QL9.out (by rwa [tb_ne (by decide)] at h)).2.2⟩⟩
   · refine wpOp_at rfl (by kernel_rfl) (fun K hK => ?_)
     have hd := fun j => @tb_of _ _ j hd
     obtain rfl := CL1.out (hd _ (by decide))
     go_simp
     go_at_call 66
     refine (C3.out _).mono ?_
     rintro r w10 ⟨rfl, hb⟩
     dsimp only
     have hb1 := below_step HB0.out hb
     exact hK _ _ ⟨HS38.out _ hb1, _, _, v4, v5, v7, v8, p9_, g9_, by go_simp, hb1, fun _ => rfl, fun _ => rfl, fun h => CL4.out (by rwa [tb_ne (by decide)] at h), fun h => CL5.out (by rwa [tb_ne (by decide)] at h), fun h => CL7.out (by rwa [tb_ne (by decide)] at h), fun h => CL8.out (by rwa [tb_ne (by decide)] at h), fun h => ⟨(QL9.out (by rwa [tb_ne (by decide)] at h)).1, (QL9.out (by rwa [tb_ne (by decide)] at h)).2.1.below hb (QL9.out (by rwa [tb_ne (by decide)] at h)).2.1.lt, (QL9.out (by rwa [tb_ne (by decide)] at h)).2.2⟩⟩
   · refine wpOp_at rfl (by kernel_rfl) (fun K hK => ?_)
     have hd := fun j => @tb_of _ _ j hd
     obtain rfl := CL2.out (hd _ (by decide))
     go_simp
     go_at_call 69
     refine (C4.out _).mono ?_
     rintro r w10 ⟨rfl, hb⟩
     dsimp only
     have hb1 := below_step HB0.out hb
     exact hK _ _ ⟨HS38.out _ hb1, v1, _, _, v5, v7, v8, p9_, g9_, by go_simp, hb1, fun h => CL1.out (by rwa [tb_ne (by decide)] at h), fun _ => rfl, fun _ => rfl, fun h => CL5.out (by rwa [tb_ne (by decide)] at h), fun h => CL7.out (by rwa [tb_ne (by decide)] at h), fun h => CL8.out (by rwa [tb_ne (by decide)] at h), fun h => ⟨(QL9.out (by rwa [tb_ne (by decide)] at h)).1, (QL9.out (by rwa [tb_ne (by decide)] at h)).2.1.below hb (QL9.out (by rwa [tb_ne (by decide)] at h)).2.1.lt, (QL9.out (by rwa [tb_ne (by decide)] at h)).2.2⟩⟩
   · refine wpOp_at rfl (by kernel_rfl) (fun K hK => ?_)
     have hd := fun j => @tb_of _ _ j hd
     obtain rfl := CL2.out (hd _ (by decide))
     obtain rfl := CL4.out (hd _ (by decide))
     go_simp
     go_at_call 83
     refine (C5.out _).mono ?_
     rintro r w10 ⟨rfl, hb⟩
     dsimp only
     have hb1 := below_step HB0.out hb
     exact hK _ _ ⟨HS38.out _ hb1, v1, _, _, _, v7, v8, p9_, g9_, by go_simp, hb1, fun h => CL1.out (by rwa [tb_ne (by decide)] at h), fun _ => rfl, fun _ => rfl, fun _ => rfl, fun h => CL7.out (by rwa [tb_ne (by decide)] at h), fun h => CL8.out (by rwa [tb_ne (by decide)] at h), fun h => ⟨(QL9.out (by rwa [tb_ne (by decide)] at h)).1, (QL9.out (by rwa [tb_ne (by decide)] at h)).2.1.below hb (QL9.out (by rwa [tb_ne (by decide)] at h)).2.1.lt, (QL9.out (by rwa [tb_ne (by decide)] at h)).2.2⟩⟩
   · refine wpOp_at rfl (by kernel_rfl) (fun K hK => ?_)
     have hd := fun j => @tb_of _ _ j hd
     obtain rfl := CL5.out (hd _ (by decide))
     go_simp
     go_at_call 77
     refine (C6.out _).mono ?_
     rintro r w10 ⟨rfl, hb⟩
     dsimp only
     have hb1 := below_step HB0.out hb
     exact hK _ _ ⟨HS38.out _ hb1, v1, v2, v4, _, _, v8, p9_, g9_, by go_simp, hb1, fun h => CL1.out (by rwa [tb_ne (by decide)] at h), fun h => CL2.out (by rwa [tb_ne (by decide)] at h), fun h => CL4.out (by rwa [tb_ne (by decide)] at h), fun _ => rfl, fun _ => rfl, fun h => CL8.out (by rwa [tb_ne (by decide)] at h), fun h => ⟨(QL9.out (by rwa [tb_ne (by decide)] at h)).1, (QL9.out (by rwa [tb_ne (by decide)] at h)).2.1.below hb (QL9.out (by rwa [tb_ne (by decide)] at h)).2.1.lt, (QL9.out (by rwa [tb_ne (by decide)] at h)).2.2⟩⟩
   · refine wpOp_at rfl (by kernel_rfl) (fun K hK => ?_)
     have hd := fun j => @tb_of _ _ j hd
     obtain rfl := CL1.out (hd _ (by decide))
     obtain rfl := CL7.out (hd _ (by decide))
     go_simp
     go_at_call 68
     refine (C7.out _).mono ?_
     rintro r w10 ⟨rfl, hb⟩
     dsimp only
     have hb1 := below_step HB0.out hb
     exact hK _ _ ⟨HS38.out _ hb1, _, v2, v4, v5, _, _, p9_, g9_, by go_simp, hb1, fun _ => rfl, fun h => CL2.out (by rwa [tb_ne (by decide)] at h), fun h => CL4.out (by rwa [tb_ne (by decide)] at h), fun h => CL5.out (by rwa [tb_ne (by decide)] at h), fun _ => rfl, fun _ => rfl, fun h => ⟨(QL9.out (by rwa [tb_ne (by decide)] at h)).1, (QL9.out (by rwa [tb_ne (by decide)] at h)).2.1.below hb (QL9.out (by rwa [tb_ne (by decide)] at h)).2.1.lt, (QL9.out (by rwa [tb_ne (by decide)] at h)).2.2⟩⟩
   · refine wpOp_at rfl (by kernel_rfl) (fun K hK => ?_)
     have hd := fun j => @tb_of _ _ j hd
     go_simp
     have hb1 := below_more HB0.out (.cells #[.float .f64 0, .float .f64 0] 24)
     exact hK _ _ ⟨HS38.out _ hb1, v1, v2, v4, v5, v7, v8, .pointer (some ⟨w9.heap.size, 0, none⟩), w9.heap.size, by go_simp, hb1, fun h => CL1.out (by rwa [tb_ne (by decide)] at h), fun h => CL2.out (by rwa [tb_ne (by decide)] at h), fun h => CL4.out (by rwa [tb_ne (by decide)] at h), fun h => CL5.out (by rwa [tb_ne (by decide)] at h), fun h => CL7.out (by rwa [tb_ne (by decide)] at h), fun h => CL8.out (by rwa [tb_ne (by decide)] at h), fun _ => ⟨rfl, Blk.new_at _ _ _ rfl, HB0.out.size⟩⟩
 clear hS34 D33 HS38
 intro a' W54 hJ
 obtain ⟨v1, v2, v4, v5, v7, v8, p9_, g55, rfl, hb0, cl1, cl2, cl4, cl5, cl7, cl8, ql9⟩ := hJ
 obtain rfl := cl1 (by decide)
 obtain rfl := cl2 (by decide)
 obtain rfl := cl4 (by decide)
 obtain rfl := cl5 (by decide)
 obtain rfl := cl7 (by decide)
 obtain rfl := cl8 (by decide)
 obtain ⟨rfl, kk9, ll9⟩ := ql9 (by decide)
 have D41 := Lib.hid hb0
 clear hb0
 refine wpAnyH_frame (a' := ?frq40) ?feq40 ?fgq40
 case feq40 => (go_simp; try with_reducible rfl)
 have K43 := Lib.hid ((kb K24 D41) : Blk W54 (w.heap.size) 26 (vc n))
 have K44 := Lib.hid ((kb K25 D41) : Blk W54 (w.heap.size + 1) 26 (vc d))
 have K45 := Lib.hid ((kb K26 D41) : Blk W54 (w.heap.size + 1 + 1) 24 #[.float .f64 q.lo, .float .f64 q.hi])
 have K46 := Lib.hid ((kb K27 D41) : Blk W54 (w.heap.size + 1 + 1 + 1) 26 #[.float .f64 0, .float .f64 0, .float .f64 0, .float .f64 0, .float .f64 0, .float .f64 0])
 have K47 := Lib.hid ((kb K28 D41) : Blk W54 (w.heap.size + 1 + 1 + 1 + 1) 24 #[.float .f64 0, .float .f64 0])
 have K48 := Lib.hid ((kb K29 D41) : Blk W54 (g6) 24 #[.float .f64 p1.lo, .float .f64 p1.hi])
 have K49 := Lib.hid kk9
 clear kk9
 have HB52 := Lib.hid (below_step HB30.out D41.out)
 have Y51 := Lib.hid (show w.heap.size ≤ g55 ∧ w.heap.size < g55 ∧ w.heap.size + 1 < g55 ∧ w.heap.size + 1 + 1 < g55 ∧ w.heap.size + 1 + 1 + 1 < g55 ∧ w.heap.size + 1 + 1 + 1 + 1 < g55 ∧ g6 < g55 from ⟨Nat.le_trans HB30.out.size ll9, Nat.lt_of_lt_of_le K24.out.lt ll9, Nat.lt_of_lt_of_le K25.out.lt ll9, Nat.lt_of_lt_of_le K26.out.lt ll9, Nat.lt_of_lt_of_le K27.out.lt ll9, Nat.lt_of_lt_of_le K28.out.lt ll9, Nat.lt_of_lt_of_le K29.out.lt ll9⟩)
 have Y53 := Lib.hid (And.intro Y10.out Y51.out)
 clear Y10 Y51
 clear K24 K25 K26 K27 K28 K29 ll9 HB30
 have D56 := Lib.hid (Below.refl W54.heap.size W54)
 clear D41
 have hS57 : True ∧ CellsL W54 (w.heap.size + 1 + 1) 0 [.float .f64 q.lo, .float .f64 q.hi] ∧ CellsL W54 (g6) 0 [.float .f64 p1.lo, .float .f64 p1.hi] := ⟨trivial, (kb K45 D56).cellsL 0 [.float .f64 q.lo, .float .f64 q.hi] rfl, (kb K48 D56).cellsL 0 [.float .f64 p1.lo, .float .f64 p1.hi] rfl⟩
 refine wpAnyH_oneM (i := 10) (l' := bm 11 2047) rfl (by kernel_rfl) (by kernel_rfl) (by kernel_rfl) (fun K hK => ?_)
 have f60 := (kb K49 D56).cellsL 0 [.float .f64 0, .float .f64 0] rfl
 dsimp only [CellsL, al, vl, Nat.reduceAdd] at f60
 have u61 := (kb K49 D56).unfrozen
 obtain ⟨V58, hV59⟩ : ∃ V, setCells W54 (g55) 0 [.float .f64 p7.lo, .float .f64 p7.hi] = V := ⟨_, rfl⟩
 have hv62 := hV59
 simp only [setCells, Nat.reduceAdd] at hv62
 have K63 := kf hV59 K43 D56 (by have := Y53.out; omega)
 have K64 := kf hV59 K44 D56 (by have := Y53.out; omega)
 have K65 := kf hV59 K45 D56 (by have := Y53.out; omega)
 have K66 := kf hV59 K46 D56 (by have := Y53.out; omega)
 have K67 := kf hV59 K47 D56 (by have := Y53.out; omega)
 have K68 := kf hV59 K48 D56 (by have := Y53.out; omega)
 have K69 := Lib.hid (show Blk V58 (g55) 24 #[.float .f64 p7.lo, .float .f64 p7.hi] from (ks hV59 K49 D56).out)
 have HB70 := hbs hV59 HB52 D56 (by have := Y53.out; omega)
 have D71 := dr V58
 clear K43 K44 K45 K46 K47 K48 K49 HB52 D56
 go_simp
 clear hV59 f60 u61 hv62
 have hS72 : True ∧ CellsL V58 (w.heap.size + 1 + 1) 0 [.float .f64 q.lo, .float .f64 q.hi] ∧ CellsL V58 (g6) 0 [.float .f64 p1.lo, .float .f64 p1.hi] := ⟨trivial, (kb K65 D71).cellsL 0 [.float .f64 q.lo, .float .f64 q.hi] rfl, (kb K68 D71).cellsL 0 [.float .f64 p1.lo, .float .f64 p1.hi] rfl⟩
 refine hK _ _ hS72 ?_
 clear hK K hS57
 refine wpAnyH_done (by kernel_rfl) ?_ _
 clear hS72
 go_wp2_with fail
 refine wp_region_held (S := (fun w' => True ∧ CellsL w' (g55) 0 [.float .f64 p7.lo, .float .f64 p7.hi])) (by kernel_rfl) ?_
 change wpAnyH _ _ _ _ _ _ _ _ (World.drew _)
 obtain ⟨wd73, hwd⟩ : ∃ x, x = World.drew V58 := ⟨_, rfl⟩
 rw [← hwd]
 have D74 := Lib.hid (hwd ▸ Below.drew D71.out : Below V58.heap.size V58 wd73)
 clear D71 hwd
 have hS75 : True ∧ CellsL wd73 (g55) 0 [.float .f64 p7.lo, .float .f64 p7.hi] := ⟨trivial, (kb K69 D74).cellsL 0 [.float .f64 p7.lo, .float .f64 p7.hi] rfl⟩
 refine tke 1 (bm 5 2) hS75 ?_
 have HS77 := Lib.hid (show ∀ w', Below V58.heap.size V58 w' → (True ∧ CellsL w' (g55) 0 [.float .f64 p7.lo, .float .f64 p7.hi]) from fun w' b => ⟨trivial, (K69.out.below b K69.out.lt).cellsL 0 [.float .f64 p7.lo, .float .f64 p7.hi] rfl⟩)
 refine wpAnyH_sets2 (N := 5) (stop := 15) (F := 1) (m := 2) (R := [0, 2, 3]) (M := [2, 3, 10, 7, 11, 15]) (fun i => if i = 0 then 0 else if i = 2 then 3 else if i = 3 then 0 else 0) (fun a0 m a w9 => ∃ (v0 v2 p3_ : Value) (g3_ : Nat), a = (((a0.put (some 28) v0).put (some 30) v2).put (some 11) p3_) ∧ Below V58.heap.size V58 w9 ∧ (m.testBit 0 = true → v0 = Value.agg #[.float .f64 p3.lo, .float .f64 p3.hi]) ∧ (m.testBit 2 = true → v2 = Value.agg #[.float .f64 p9.lo, .float .f64 p9.hi]) ∧ (m.testBit 3 = true → p3_ = .pointer (some ⟨g3_, 0, none⟩) ∧ Blk w9 g3_ 24 #[.float .f64 0, .float .f64 0] ∧ V58.heap.size ≤ g3_)) (by kernel_rfl) (by kernel_rfl) (by kernel_rfl) (by kernel_rfl) ?st3 ?sp3 ?re3
 case st3 =>
   exact ⟨undef, undef, undef, 0, by go_simp, D74.out, fun h => absurd h (by decide), fun h => absurd h (by decide), fun h => absurd h (by decide)⟩
 case sp3 =>
   intro m a' w9 i hi hm hd hJ
   obtain ⟨v0, v2, p3_, g3_, rfl, hb0, cl0, cl2, ql3⟩ := hJ
   have CL0 := Lib.hid cl0
   have CL2 := Lib.hid cl2
   have QL3 := Lib.hid ql3
   have HB0 := Lib.hid hb0
   clear cl0 cl2 ql3 hb0 hS75
   simp only [List.mem_cons, List.not_mem_nil, or_false] at hi
   rcases hi with rfl | rfl | rfl
   · refine wpOp_at rfl (by kernel_rfl) (fun K hK => ?_)
     have hd := fun j => @tb_of _ _ j hd
     go_simp
     go_at_call 66
     refine (C8.out _).mono ?_
     rintro r w10 ⟨rfl, hb⟩
     dsimp only
     have hb1 := below_step HB0.out hb
     exact hK _ _ ⟨HS77.out _ hb1, _, v2, p3_, g3_, by go_simp, hb1, fun _ => rfl, fun h => CL2.out (by rwa [tb_ne (by decide)] at h), fun h => ⟨(QL3.out (by rwa [tb_ne (by decide)] at h)).1, (QL3.out (by rwa [tb_ne (by decide)] at h)).2.1.below hb (QL3.out (by rwa [tb_ne (by decide)] at h)).2.1.lt, (QL3.out (by rwa [tb_ne (by decide)] at h)).2.2⟩⟩
   · refine wpOp_at rfl (by kernel_rfl) (fun K hK => ?_)
     have hd := fun j => @tb_of _ _ j hd
     obtain rfl := CL0.out (hd _ (by decide))
     go_simp
     go_at_call 83
     refine (C9.out _).mono ?_
     rintro r w10 ⟨rfl, hb⟩
     dsimp only
     have hb1 := below_step HB0.out hb
     exact hK _ _ ⟨HS77.out _ hb1, _, _, p3_, g3_, by go_simp, hb1, fun _ => rfl, fun _ => rfl, fun h => ⟨(QL3.out (by rwa [tb_ne (by decide)] at h)).1, (QL3.out (by rwa [tb_ne (by decide)] at h)).2.1.below hb (QL3.out (by rwa [tb_ne (by decide)] at h)).2.1.lt, (QL3.out (by rwa [tb_ne (by decide)] at h)).2.2⟩⟩
   · refine wpOp_at rfl (by kernel_rfl) (fun K hK => ?_)
     have hd := fun j => @tb_of _ _ j hd
     go_simp
     have hb1 := below_more HB0.out (.cells #[.float .f64 0, .float .f64 0] 24)
     exact hK _ _ ⟨HS77.out _ hb1, v0, v2, .pointer (some ⟨w9.heap.size, 0, none⟩), w9.heap.size, by go_simp, hb1, fun h => CL0.out (by rwa [tb_ne (by decide)] at h), fun h => CL2.out (by rwa [tb_ne (by decide)] at h), fun _ => ⟨rfl, Blk.new_at _ _ _ rfl, HB0.out.size⟩⟩
 clear hS75 D74 HS77
 intro a' W94 hJ
 obtain ⟨v0, v2, p3_, g95, rfl, hb0, cl0, cl2, ql3⟩ := hJ
 obtain rfl := cl0 (by decide)
 obtain rfl := cl2 (by decide)
 obtain ⟨rfl, kk3, ll3⟩ := ql3 (by decide)
 have D80 := Lib.hid hb0
 clear hb0
 refine wpAnyH_frame (a' := ?frq79) ?feq79 ?fgq79
 case feq79 => (go_simp; try with_reducible rfl)
 have K82 := Lib.hid ((kb K63 D80) : Blk W94 (w.heap.size) 26 (vc n))
 have K83 := Lib.hid ((kb K64 D80) : Blk W94 (w.heap.size + 1) 26 (vc d))
 have K84 := Lib.hid ((kb K65 D80) : Blk W94 (w.heap.size + 1 + 1) 24 #[.float .f64 q.lo, .float .f64 q.hi])
 have K85 := Lib.hid ((kb K66 D80) : Blk W94 (w.heap.size + 1 + 1 + 1) 26 #[.float .f64 0, .float .f64 0, .float .f64 0, .float .f64 0, .float .f64 0, .float .f64 0])
 have K86 := Lib.hid ((kb K67 D80) : Blk W94 (w.heap.size + 1 + 1 + 1 + 1) 24 #[.float .f64 0, .float .f64 0])
 have K87 := Lib.hid ((kb K68 D80) : Blk W94 (g6) 24 #[.float .f64 p1.lo, .float .f64 p1.hi])
 have K88 := Lib.hid ((kb K69 D80) : Blk W94 (g55) 24 #[.float .f64 p7.lo, .float .f64 p7.hi])
 have K89 := Lib.hid kk3
 clear kk3
 have HB92 := Lib.hid (below_step HB70.out D80.out)
 have Y91 := Lib.hid (show w.heap.size ≤ g95 ∧ w.heap.size < g95 ∧ w.heap.size + 1 < g95 ∧ w.heap.size + 1 + 1 < g95 ∧ w.heap.size + 1 + 1 + 1 < g95 ∧ w.heap.size + 1 + 1 + 1 + 1 < g95 ∧ g6 < g95 ∧ g55 < g95 from ⟨Nat.le_trans HB70.out.size ll3, Nat.lt_of_lt_of_le K63.out.lt ll3, Nat.lt_of_lt_of_le K64.out.lt ll3, Nat.lt_of_lt_of_le K65.out.lt ll3, Nat.lt_of_lt_of_le K66.out.lt ll3, Nat.lt_of_lt_of_le K67.out.lt ll3, Nat.lt_of_lt_of_le K68.out.lt ll3, Nat.lt_of_lt_of_le K69.out.lt ll3⟩)
 have Y93 := Lib.hid (And.intro Y53.out Y91.out)
 clear Y53 Y91
 clear K63 K64 K65 K66 K67 K68 K69 ll3 HB70
 have D96 := Lib.hid (Below.refl W94.heap.size W94)
 clear D80
 have hS97 : True ∧ CellsL W94 (g55) 0 [.float .f64 p7.lo, .float .f64 p7.hi] := ⟨trivial, (kb K88 D96).cellsL 0 [.float .f64 p7.lo, .float .f64 p7.hi] rfl⟩
 refine wpAnyH_oneM (i := 4) (l' := bm 5 31) rfl (by kernel_rfl) (by kernel_rfl) (by kernel_rfl) (fun K hK => ?_)
 have f100 := (kb K89 D96).cellsL 0 [.float .f64 0, .float .f64 0] rfl
 dsimp only [CellsL, al, vl, Nat.reduceAdd] at f100
 have u101 := (kb K89 D96).unfrozen
 obtain ⟨V98, hV99⟩ : ∃ V, setCells W94 (g95) 0 [.float .f64 p9.lo, .float .f64 p9.hi] = V := ⟨_, rfl⟩
 have hv102 := hV99
 simp only [setCells, Nat.reduceAdd] at hv102
 have K103 := kf hV99 K82 D96 (by have := Y93.out; omega)
 have K104 := kf hV99 K83 D96 (by have := Y93.out; omega)
 have K105 := kf hV99 K84 D96 (by have := Y93.out; omega)
 have K106 := kf hV99 K85 D96 (by have := Y93.out; omega)
 have K107 := kf hV99 K86 D96 (by have := Y93.out; omega)
 have K108 := kf hV99 K87 D96 (by have := Y93.out; omega)
 have K109 := kf hV99 K88 D96 (by have := Y93.out; omega)
 have K110 := Lib.hid (show Blk V98 (g95) 24 #[.float .f64 p9.lo, .float .f64 p9.hi] from (ks hV99 K89 D96).out)
 have HB111 := hbs hV99 HB92 D96 (by have := Y93.out; omega)
 have D112 := dr V98
 clear K82 K83 K84 K85 K86 K87 K88 K89 HB92 D96
 go_simp
 clear hV99 f100 u101 hv102
 have hS113 : True ∧ CellsL V98 (g55) 0 [.float .f64 p7.lo, .float .f64 p7.hi] := ⟨trivial, (kb K109 D112).cellsL 0 [.float .f64 p7.lo, .float .f64 p7.hi] rfl⟩
 refine hK _ _ hS113 ?_
 clear hK K hS97
 refine wpAnyH_done (by kernel_rfl) ?_ _
 clear hS113
 have hq114 := (kb K110 D112).cellsL 0 [.float .f64 p9.lo, .float .f64 p9.hi] rfl
 dsimp only [CellsL, al, vl, Nat.reduceAdd] at hq114
 go_wp2_with fail
 clear hq114
 refine (C10.out _).mono ?_
 rintro r w115 ⟨rfl, hb⟩
 have D116 := ds D112 hb
 clear D112
 clear hb
 have hq117 := (kb K110 D116).cellsL 0 [.float .f64 p9.lo, .float .f64 p9.hi] rfl
 dsimp only [CellsL, al, vl, Nat.reduceAdd] at hq117
 go_wp2_with fail
 clear hq117
 refine (C11.out _).mono ?_
 rintro r w118 ⟨rfl, hb⟩
 have D119 := ds D116 hb
 clear D116
 clear hb
 obtain ⟨g120, hg122⟩ : ∃ g, w118.heap.size = g := ⟨_, rfl⟩
 have Y124 := Lib.hid (show w.heap.size < g120 ∧ w.heap.size + 1 < g120 ∧ w.heap.size + 1 + 1 < g120 ∧ w.heap.size + 1 + 1 + 1 < g120 ∧ w.heap.size + 1 + 1 + 1 + 1 < g120 ∧ g6 < g120 ∧ g55 < g120 ∧ g95 < g120 by rw [← hg122]; exact ⟨(kb K103 D119).lt, (kb K104 D119).lt, (kb K105 D119).lt, (kb K106 D119).lt, (kb K107 D119).lt, (kb K108 D119).lt, (kb K109 D119).lt, (kb K110 D119).lt⟩)
 obtain ⟨V121, hV123⟩ : ∃ V, w118.alloc (.cells #[.float .f64 0, .float .f64 0] 24) = V := ⟨_, rfl⟩
 have K125 := ka hV123 K103 D119
 have K126 := ka hV123 K104 D119
 have K127 := ka hV123 K105 D119
 have K128 := ka hV123 K106 D119
 have K129 := ka hV123 K107 D119
 have K130 := ka hV123 K108 D119
 have K131 := ka hV123 K109 D119
 have K132 := ka hV123 K110 D119
 have K133 := kn hV123 hg122
 have HB134 := hba hV123 HB111 D119
 have D135 := dr V121
 clear K103 K104 K105 K106 K107 K108 K109 K110 HB111 D119
 have Y136 := Lib.hid (And.intro Y93.out Y124.out)
 clear Y93 Y124
 have f139 := (kb K133 D135).cellsL 0 [.float .f64 0, .float .f64 0] rfl
 dsimp only [CellsL, al, vl, Nat.reduceAdd] at f139
 have u140 := (kb K133 D135).unfrozen
 obtain ⟨V137, hV138⟩ : ∃ V, setCells V121 (g120) 0 [.float .f64 p11.lo, .float .f64 p11.hi] = V := ⟨_, rfl⟩
 have hv141 := hV138
 simp only [setCells, Nat.reduceAdd] at hv141
 have K142 := kf hV138 K125 D135 (by have := Y136.out; omega)
 have K143 := kf hV138 K126 D135 (by have := Y136.out; omega)
 have K144 := kf hV138 K127 D135 (by have := Y136.out; omega)
 have K145 := kf hV138 K128 D135 (by have := Y136.out; omega)
 have K146 := kf hV138 K129 D135 (by have := Y136.out; omega)
 have K147 := kf hV138 K130 D135 (by have := Y136.out; omega)
 have K148 := kf hV138 K131 D135 (by have := Y136.out; omega)
 have K149 := kf hV138 K132 D135 (by have := Y136.out; omega)
 have K150 := Lib.hid (show Blk V137 (g120) 24 #[.float .f64 p11.lo, .float .f64 p11.hi] from (ks hV138 K133 D135).out)
 have HB151 := hbs hV138 HB134 D135 (by have := Y136.out; omega)
 have D152 := dr V137
 clear K125 K126 K127 K128 K129 K130 K131 K132 K133 HB134 D135
 go_wp2_with fail
 clear hg122 hV123 hV138 f139 u140 hv141
 refine wp_region_held (S := (fun w' => True ∧ CellsL w' (w.heap.size + 1 + 1) 0 [.float .f64 q.lo, .float .f64 q.hi] ∧ CellsL w' (g6) 0 [.float .f64 p1.lo, .float .f64 p1.hi] ∧ CellsL w' (g120) 0 [.float .f64 p11.lo, .float .f64 p11.hi])) (by kernel_rfl) ?_
 change wpAnyH _ _ _ _ _ _ _ _ (World.drew _)
 obtain ⟨wd153, hwd⟩ : ∃ x, x = World.drew V137 := ⟨_, rfl⟩
 rw [← hwd]
 have D154 := Lib.hid (hwd ▸ Below.drew D152.out : Below V137.heap.size V137 wd153)
 clear D152 hwd
 have hS155 : True ∧ CellsL wd153 (w.heap.size + 1 + 1) 0 [.float .f64 q.lo, .float .f64 q.hi] ∧ CellsL wd153 (g6) 0 [.float .f64 p1.lo, .float .f64 p1.hi] ∧ CellsL wd153 (g120) 0 [.float .f64 p11.lo, .float .f64 p11.hi] := ⟨trivial, (kb K144 D154).cellsL 0 [.float .f64 q.lo, .float .f64 q.hi] rfl, (kb K147 D154).cellsL 0 [.float .f64 p1.lo, .float .f64 p1.hi] rfl, (kb K150 D154).cellsL 0 [.float .f64 p11.lo, .float .f64 p11.hi] rfl⟩
 refine tke 0 (bm 7 1) hS155 ?_
 refine tke 1 (bm 7 3) hS155 ?_
 refine tke 3 (bm 7 11) hS155 ?_
 have HS159 := Lib.hid (show ∀ w', Below V137.heap.size V137 w' → (True ∧ CellsL w' (w.heap.size + 1 + 1) 0 [.float .f64 q.lo, .float .f64 q.hi] ∧ CellsL w' (g6) 0 [.float .f64 p1.lo, .float .f64 p1.hi] ∧ CellsL w' (g120) 0 [.float .f64 p11.lo, .float .f64 p11.hi]) from fun w' b => ⟨trivial, (K144.out.below b K144.out.lt).cellsL 0 [.float .f64 q.lo, .float .f64 q.hi] rfl, (K147.out.below b K147.out.lt).cellsL 0 [.float .f64 p1.lo, .float .f64 p1.hi] rfl, (K150.out.below b K150.out.lt).cellsL 0 [.float .f64 p11.lo, .float .f64 p11.hi] rfl⟩)
 refine wpAnyH_sets2 (N := 7) (stop := 63) (F := 1) (m := 11) (R := [2, 4, 5]) (M := [11, 15, 43, 31, 47, 63]) (fun i => if i = 2 then 3 else if i = 4 then 12 else if i = 5 then 0 else 0) (fun a0 m a w9 => ∃ (v2 v4 p5_ : Value) (g5_ : Nat), a = (((a0.put (some 42) v2).put (some 44) v4).put (some 14) p5_) ∧ Below V137.heap.size V137 w9 ∧ (m.testBit 2 = true → v2 = Value.agg #[.float .f64 p12.lo, .float .f64 p12.hi]) ∧ (m.testBit 4 = true → v4 = Value.agg #[.float .f64 p13.lo, .float .f64 p13.hi]) ∧ (m.testBit 5 = true → p5_ = .pointer (some ⟨g5_, 0, none⟩) ∧ Blk w9 g5_ 24 #[.float .f64 0, .float .f64 0] ∧ V137.heap.size ≤ g5_)) (by kernel_rfl) (by kernel_rfl) (by kernel_rfl) (by kernel_rfl) ?st8 ?sp8 ?re8
 case st8 =>
   exact ⟨undef, undef, undef, 0, by go_simp, D154.out, fun h => absurd h (by decide), fun h => absurd h (by decide), fun h => absurd h (by decide)⟩
 case sp8 =>
   intro m a' w9 i hi hm hd hJ
   obtain ⟨v2, v4, p5_, g5_, rfl, hb0, cl2, cl4, ql5⟩ := hJ
   have CL2 := Lib.hid cl2
   have CL4 := Lib.hid cl4
   have QL5 := Lib.hid ql5
   have HB0 := Lib.hid hb0
   clear cl2 cl4 ql5 hb0 hS155
   simp only [List.mem_cons, List.not_mem_nil, or_false] at hi
   rcases hi with rfl | rfl | rfl
   · refine wpOp_at rfl (by kernel_rfl) (fun K hK => ?_)
     have hd := fun j => @tb_of _ _ j hd
     go_simp
     go_at_call 68
     refine (C12.out _).mono ?_
     rintro r w10 ⟨rfl, hb⟩
     dsimp only
     have hb1 := below_step HB0.out hb
     exact hK _ _ ⟨HS159.out _ hb1, _, v4, p5_, g5_, by go_simp, hb1, fun _ => rfl, fun h => CL4.out (by rwa [tb_ne (by decide)] at h), fun h => ⟨(QL5.out (by rwa [tb_ne (by decide)] at h)).1, (QL5.out (by rwa [tb_ne (by decide)] at h)).2.1.below hb (QL5.out (by rwa [tb_ne (by decide)] at h)).2.1.lt, (QL5.out (by rwa [tb_ne (by decide)] at h)).2.2⟩⟩
   · refine wpOp_at rfl (by kernel_rfl) (fun K hK => ?_)
     have hd := fun j => @tb_of _ _ j hd
     obtain rfl := CL2.out (hd _ (by decide))
     go_simp
     go_at_call 83
     refine (C13.out _).mono ?_
     rintro r w10 ⟨rfl, hb⟩
     dsimp only
     have hb1 := below_step HB0.out hb
     exact hK _ _ ⟨HS159.out _ hb1, _, _, p5_, g5_, by go_simp, hb1, fun _ => rfl, fun _ => rfl, fun h => ⟨(QL5.out (by rwa [tb_ne (by decide)] at h)).1, (QL5.out (by rwa [tb_ne (by decide)] at h)).2.1.below hb (QL5.out (by rwa [tb_ne (by decide)] at h)).2.1.lt, (QL5.out (by rwa [tb_ne (by decide)] at h)).2.2⟩⟩
   · refine wpOp_at rfl (by kernel_rfl) (fun K hK => ?_)
     have hd := fun j => @tb_of _ _ j hd
     go_simp
     have hb1 := below_more HB0.out (.cells #[.float .f64 0, .float .f64 0] 24)
     exact hK _ _ ⟨HS159.out _ hb1, v2, v4, .pointer (some ⟨w9.heap.size, 0, none⟩), w9.heap.size, by go_simp, hb1, fun h => CL2.out (by rwa [tb_ne (by decide)] at h), fun h => CL4.out (by rwa [tb_ne (by decide)] at h), fun _ => ⟨rfl, Blk.new_at _ _ _ rfl, HB0.out.size⟩⟩
 clear hS155 D154 HS159
 intro a' W178 hJ
 obtain ⟨v2, v4, p5_, g179, rfl, hb0, cl2, cl4, ql5⟩ := hJ
 obtain rfl := cl2 (by decide)
 obtain rfl := cl4 (by decide)
 obtain ⟨rfl, kk5, ll5⟩ := ql5 (by decide)
 have D162 := Lib.hid hb0
 clear hb0
 refine wpAnyH_frame (a' := ?frq161) ?feq161 ?fgq161
 case feq161 => (go_simp; try with_reducible rfl)
 have K164 := Lib.hid ((kb K142 D162) : Blk W178 (w.heap.size) 26 (vc n))
 have K165 := Lib.hid ((kb K143 D162) : Blk W178 (w.heap.size + 1) 26 (vc d))
 have K166 := Lib.hid ((kb K144 D162) : Blk W178 (w.heap.size + 1 + 1) 24 #[.float .f64 q.lo, .float .f64 q.hi])
 have K167 := Lib.hid ((kb K145 D162) : Blk W178 (w.heap.size + 1 + 1 + 1) 26 #[.float .f64 0, .float .f64 0, .float .f64 0, .float .f64 0, .float .f64 0, .float .f64 0])
 have K168 := Lib.hid ((kb K146 D162) : Blk W178 (w.heap.size + 1 + 1 + 1 + 1) 24 #[.float .f64 0, .float .f64 0])
 have K169 := Lib.hid ((kb K147 D162) : Blk W178 (g6) 24 #[.float .f64 p1.lo, .float .f64 p1.hi])
 have K170 := Lib.hid ((kb K148 D162) : Blk W178 (g55) 24 #[.float .f64 p7.lo, .float .f64 p7.hi])
 have K171 := Lib.hid ((kb K149 D162) : Blk W178 (g95) 24 #[.float .f64 p9.lo, .float .f64 p9.hi])
 have K172 := Lib.hid ((kb K150 D162) : Blk W178 (g120) 24 #[.float .f64 p11.lo, .float .f64 p11.hi])
 have K173 := Lib.hid kk5
 clear kk5
 have HB176 := Lib.hid (below_step HB151.out D162.out)
 have Y175 := Lib.hid (show w.heap.size ≤ g179 ∧ w.heap.size < g179 ∧ w.heap.size + 1 < g179 ∧ w.heap.size + 1 + 1 < g179 ∧ w.heap.size + 1 + 1 + 1 < g179 ∧ w.heap.size + 1 + 1 + 1 + 1 < g179 ∧ g6 < g179 ∧ g55 < g179 ∧ g95 < g179 ∧ g120 < g179 from ⟨Nat.le_trans HB151.out.size ll5, Nat.lt_of_lt_of_le K142.out.lt ll5, Nat.lt_of_lt_of_le K143.out.lt ll5, Nat.lt_of_lt_of_le K144.out.lt ll5, Nat.lt_of_lt_of_le K145.out.lt ll5, Nat.lt_of_lt_of_le K146.out.lt ll5, Nat.lt_of_lt_of_le K147.out.lt ll5, Nat.lt_of_lt_of_le K148.out.lt ll5, Nat.lt_of_lt_of_le K149.out.lt ll5, Nat.lt_of_lt_of_le K150.out.lt ll5⟩)
 have Y177 := Lib.hid (And.intro Y136.out Y175.out)
 clear Y136 Y175
 clear K142 K143 K144 K145 K146 K147 K148 K149 K150 ll5 HB151
 have D180 := Lib.hid (Below.refl W178.heap.size W178)
 clear D162
 have hS181 : True ∧ CellsL W178 (w.heap.size + 1 + 1) 0 [.float .f64 q.lo, .float .f64 q.hi] ∧ CellsL W178 (g6) 0 [.float .f64 p1.lo, .float .f64 p1.hi] ∧ CellsL W178 (g120) 0 [.float .f64 p11.lo, .float .f64 p11.hi] := ⟨trivial, (kb K166 D180).cellsL 0 [.float .f64 q.lo, .float .f64 q.hi] rfl, (kb K169 D180).cellsL 0 [.float .f64 p1.lo, .float .f64 p1.hi] rfl, (kb K172 D180).cellsL 0 [.float .f64 p11.lo, .float .f64 p11.hi] rfl⟩
 refine wpAnyH_oneM (i := 6) (l' := bm 7 127) rfl (by kernel_rfl) (by kernel_rfl) (by kernel_rfl) (fun K hK => ?_)
 have f184 := (kb K173 D180).cellsL 0 [.float .f64 0, .float .f64 0] rfl
 dsimp only [CellsL, al, vl, Nat.reduceAdd] at f184
 have u185 := (kb K173 D180).unfrozen
 obtain ⟨V182, hV183⟩ : ∃ V, setCells W178 (g179) 0 [.float .f64 p13.lo, .float .f64 p13.hi] = V := ⟨_, rfl⟩
 have hv186 := hV183
 simp only [setCells, Nat.reduceAdd] at hv186
 have K187 := kf hV183 K164 D180 (by have := Y177.out; omega)
 have K188 := kf hV183 K165 D180 (by have := Y177.out; omega)
 have K189 := kf hV183 K166 D180 (by have := Y177.out; omega)
 have K190 := kf hV183 K167 D180 (by have := Y177.out; omega)
 have K191 := kf hV183 K168 D180 (by have := Y177.out; omega)
 have K192 := kf hV183 K169 D180 (by have := Y177.out; omega)
 have K193 := kf hV183 K170 D180 (by have := Y177.out; omega)
 have K194 := kf hV183 K171 D180 (by have := Y177.out; omega)
 have K195 := kf hV183 K172 D180 (by have := Y177.out; omega)
 have K196 := Lib.hid (show Blk V182 (g179) 24 #[.float .f64 p13.lo, .float .f64 p13.hi] from (ks hV183 K173 D180).out)
 have HB197 := hbs hV183 HB176 D180 (by have := Y177.out; omega)
 have D198 := dr V182
 clear K164 K165 K166 K167 K168 K169 K170 K171 K172 K173 HB176 D180
 go_simp
 clear hV183 f184 u185 hv186
 have hS199 : True ∧ CellsL V182 (w.heap.size + 1 + 1) 0 [.float .f64 q.lo, .float .f64 q.hi] ∧ CellsL V182 (g6) 0 [.float .f64 p1.lo, .float .f64 p1.hi] ∧ CellsL V182 (g120) 0 [.float .f64 p11.lo, .float .f64 p11.hi] := ⟨trivial, (kb K189 D198).cellsL 0 [.float .f64 q.lo, .float .f64 q.hi] rfl, (kb K192 D198).cellsL 0 [.float .f64 p1.lo, .float .f64 p1.hi] rfl, (kb K195 D198).cellsL 0 [.float .f64 p11.lo, .float .f64 p11.hi] rfl⟩
 refine hK _ _ hS199 ?_
 clear hK K hS181
 refine wpAnyH_done (by kernel_rfl) ?_ _
 clear hS199
 go_wp2_with fail
 refine wp_region_held (S := (fun w' => True ∧ Blk w' (w.heap.size) 26 (vc n) ∧ Blk w' (w.heap.size + 1) 26 (vc d) ∧ CellsL w' (w.heap.size + 1 + 1) 0 [.float .f64 q.lo, .float .f64 q.hi] ∧ CellsL w' (g120) 0 [.float .f64 p11.lo, .float .f64 p11.hi] ∧ CellsL w' (g179) 0 [.float .f64 p13.lo, .float .f64 p13.hi])) (by kernel_rfl) ?_
 change wpAnyH _ _ _ _ _ _ _ _ (World.drew _)
 obtain ⟨wd200, hwd⟩ : ∃ x, x = World.drew V182 := ⟨_, rfl⟩
 rw [← hwd]
 have D201 := Lib.hid (hwd ▸ Below.drew D198.out : Below V182.heap.size V182 wd200)
 clear D198 hwd
 have hS202 : True ∧ Blk wd200 (w.heap.size) 26 (vc n) ∧ Blk wd200 (w.heap.size + 1) 26 (vc d) ∧ CellsL wd200 (w.heap.size + 1 + 1) 0 [.float .f64 q.lo, .float .f64 q.hi] ∧ CellsL wd200 (g120) 0 [.float .f64 p11.lo, .float .f64 p11.hi] ∧ CellsL wd200 (g179) 0 [.float .f64 p13.lo, .float .f64 p13.hi] := ⟨trivial, (kb K187 D201), (kb K188 D201), (kb K189 D201).cellsL 0 [.float .f64 q.lo, .float .f64 q.hi] rfl, (kb K195 D201).cellsL 0 [.float .f64 p11.lo, .float .f64 p11.hi] rfl, (kb K196 D201).cellsL 0 [.float .f64 p13.lo, .float .f64 p13.hi] rfl⟩
 refine tkL 0 (bm 11 1) ?aq203 rfl (by kernel_rfl) (fun _ _ _ h => h) (by kernel_rfl) rfl rfl (fun _ hS => hS.2.2.1) (by rw [info_V3]; rfl) Tryz.underlying26 rfl ?pq203 hS202 ?rq203
 case pq203 => (go_simp; try with_reducible rfl)
 refine tke 1 (bm 11 3) hS202 ?_
 refine tkL 3 (bm 11 11) ?aq205 rfl (by kernel_rfl) (fun _ _ _ h => h) (by kernel_rfl) rfl rfl (fun _ hS => hS.2.1) (by rw [info_V3]; rfl) Tryz.underlying26 rfl ?pq205 hS202 ?rq205
 case pq205 => (go_simp; try with_reducible rfl)
 refine tke 4 (bm 11 27) hS202 ?_
 refine tke 7 (bm 11 155) hS202 ?_
 refine wpAnyH_oneN (i := 2) (l' := bm 11 159) rfl (by kernel_rfl) (by kernel_rfl) (by kernel_rfl) (fun K hK => ?_)
 go_simp
 go_at_call 79
 refine (C14.out _).mono ?_
 rintro r w208 ⟨rfl, hb⟩
 dsimp only
 have D209 := ds D201 hb
 clear D201
 clear hb
 have hS210 : True ∧ Blk w208 (w.heap.size) 26 (vc n) ∧ Blk w208 (w.heap.size + 1) 26 (vc d) ∧ CellsL w208 (w.heap.size + 1 + 1) 0 [.float .f64 q.lo, .float .f64 q.hi] ∧ CellsL w208 (g120) 0 [.float .f64 p11.lo, .float .f64 p11.hi] ∧ CellsL w208 (g179) 0 [.float .f64 p13.lo, .float .f64 p13.hi] := ⟨trivial, (kb K187 D209), (kb K188 D209), (kb K189 D209).cellsL 0 [.float .f64 q.lo, .float .f64 q.hi] rfl, (kb K195 D209).cellsL 0 [.float .f64 p11.lo, .float .f64 p11.hi] rfl, (kb K196 D209).cellsL 0 [.float .f64 p13.lo, .float .f64 p13.hi] rfl⟩
 refine hK _ _ hS210 ?_
 clear hK K hS202
 refine wpAnyH_oneN (i := 5) (l' := bm 11 191) rfl (by kernel_rfl) (by kernel_rfl) (by kernel_rfl) (fun K hK => ?_)
 go_simp
 go_at_call 79
 refine (C15.out _).mono ?_
 rintro r w211 ⟨rfl, hb⟩
 dsimp only
 have D212 := ds D209 hb
 clear D209
 clear hb
 have hS213 : True ∧ Blk w211 (w.heap.size) 26 (vc n) ∧ Blk w211 (w.heap.size + 1) 26 (vc d) ∧ CellsL w211 (w.heap.size + 1 + 1) 0 [.float .f64 q.lo, .float .f64 q.hi] ∧ CellsL w211 (g120) 0 [.float .f64 p11.lo, .float .f64 p11.hi] ∧ CellsL w211 (g179) 0 [.float .f64 p13.lo, .float .f64 p13.hi] := ⟨trivial, (kb K187 D212), (kb K188 D212), (kb K189 D212).cellsL 0 [.float .f64 q.lo, .float .f64 q.hi] rfl, (kb K195 D212).cellsL 0 [.float .f64 p11.lo, .float .f64 p11.hi] rfl, (kb K196 D212).cellsL 0 [.float .f64 p13.lo, .float .f64 p13.hi] rfl⟩
 refine hK _ _ hS213 ?_
 clear hK K hS210
 refine wpAnyH_oneN (i := 6) (l' := bm 11 255) rfl (by kernel_rfl) (by kernel_rfl) (by kernel_rfl) (fun K hK => ?_)
 go_simp
 go_at_call 53
 refine (C16.out _).mono ?_
 rintro r w214 ⟨rfl, hb⟩
 dsimp only
 have D215 := ds D212 hb
 clear D212
 clear hb
 have hS216 : True ∧ Blk w214 (w.heap.size) 26 (vc n) ∧ Blk w214 (w.heap.size + 1) 26 (vc d) ∧ CellsL w214 (w.heap.size + 1 + 1) 0 [.float .f64 q.lo, .float .f64 q.hi] ∧ CellsL w214 (g120) 0 [.float .f64 p11.lo, .float .f64 p11.hi] ∧ CellsL w214 (g179) 0 [.float .f64 p13.lo, .float .f64 p13.hi] := ⟨trivial, (kb K187 D215), (kb K188 D215), (kb K189 D215).cellsL 0 [.float .f64 q.lo, .float .f64 q.hi] rfl, (kb K195 D215).cellsL 0 [.float .f64 p11.lo, .float .f64 p11.hi] rfl, (kb K196 D215).cellsL 0 [.float .f64 p13.lo, .float .f64 p13.hi] rfl⟩
 refine hK _ _ hS216 ?_
 clear hK K hS213
 refine wpAnyH_oneN (i := 8) (l' := bm 11 511) rfl (by kernel_rfl) (by kernel_rfl) (by kernel_rfl) (fun K hK => ?_)
 have f219 := (kb K190 D215)
 obtain ⟨V217, hV218⟩ : ∃ V, World.setRow w214 (w.heap.size + 1 + 1 + 1) (vc p16) = V := ⟨_, rfl⟩
 have K220 := kfr hV218 K187 D215 (by have := Y177.out; omega)
 have K221 := kfr hV218 K188 D215 (by have := Y177.out; omega)
 have K222 := kfr hV218 K189 D215 (by have := Y177.out; omega)
 have K223 := ksr hV218 K190 D215
 have K224 := kfr hV218 K191 D215 (by have := Y177.out; omega)
 have K225 := kfr hV218 K192 D215 (by have := Y177.out; omega)
 have K226 := kfr hV218 K193 D215 (by have := Y177.out; omega)
 have K227 := kfr hV218 K194 D215 (by have := Y177.out; omega)
 have K228 := kfr hV218 K195 D215 (by have := Y177.out; omega)
 have K229 := kfr hV218 K196 D215 (by have := Y177.out; omega)
 have HB230 := hbr hV218 HB197 D215 (by have := Y177.out; omega)
 have D231 := dr V217
 clear K187 K188 K189 K190 K191 K192 K193 K194 K195 K196 HB197 D215
 refine wp_store_row 26 _ _ rfl (w.heap.size + 1 + 1 + 1) (vc p16) rfl rfl _ _ f219 (by rw [info_V3]; rfl) rfl (by kernel_rfl) ?_
 rw [hV218]
 go_simp
 clear hV218 f219
 have hS232 : True ∧ Blk V217 (w.heap.size) 26 (vc n) ∧ Blk V217 (w.heap.size + 1) 26 (vc d) ∧ CellsL V217 (w.heap.size + 1 + 1) 0 [.float .f64 q.lo, .float .f64 q.hi] ∧ CellsL V217 (g120) 0 [.float .f64 p11.lo, .float .f64 p11.hi] ∧ CellsL V217 (g179) 0 [.float .f64 p13.lo, .float .f64 p13.hi] := ⟨trivial, (kb K220 D231), (kb K221 D231), (kb K222 D231).cellsL 0 [.float .f64 q.lo, .float .f64 q.hi] rfl, (kb K228 D231).cellsL 0 [.float .f64 p11.lo, .float .f64 p11.hi] rfl, (kb K229 D231).cellsL 0 [.float .f64 p13.lo, .float .f64 p13.hi] rfl⟩
 refine hK _ _ hS232 ?_
 clear hK K hS216
 refine wpAnyH_oneN (i := 9) (l' := bm 11 1023) rfl (by kernel_rfl) (by kernel_rfl) (by kernel_rfl) (fun K hK => ?_)
 have f235 := (kb K224 D231).cellsL 0 [.float .f64 0, .float .f64 0] rfl
 dsimp only [CellsL, al, vl, Nat.reduceAdd] at f235
 have u236 := (kb K224 D231).unfrozen
 obtain ⟨V233, hV234⟩ : ∃ V, setCells V217 (w.heap.size + 1 + 1 + 1 + 1) 0 [.float .f64 p11.lo, .float .f64 p11.hi] = V := ⟨_, rfl⟩
 have hv237 := hV234
 simp only [setCells, Nat.reduceAdd] at hv237
 have K238 := kf hV234 K220 D231 (by have := Y177.out; omega)
 have K239 := kf hV234 K221 D231 (by have := Y177.out; omega)
 have K240 := kf hV234 K222 D231 (by have := Y177.out; omega)
 have K241 := kf hV234 K223 D231 (by have := Y177.out; omega)
 have K242 := Lib.hid (show Blk V233 (w.heap.size + 1 + 1 + 1 + 1) 24 #[.float .f64 p11.lo, .float .f64 p11.hi] from (ks hV234 K224 D231).out)
 have K243 := kf hV234 K225 D231 (by have := Y177.out; omega)
 have K244 := kf hV234 K226 D231 (by have := Y177.out; omega)
 have K245 := kf hV234 K227 D231 (by have := Y177.out; omega)
 have K246 := kf hV234 K228 D231 (by have := Y177.out; omega)
 have K247 := kf hV234 K229 D231 (by have := Y177.out; omega)
 have HB248 := hbs hV234 HB230 D231 (by have := Y177.out; omega)
 have D249 := dr V233
 clear K220 K221 K222 K223 K224 K225 K226 K227 K228 K229 HB230 D231
 go_simp
 clear hV234 f235 u236 hv237
 have hS250 : True ∧ Blk V233 (w.heap.size) 26 (vc n) ∧ Blk V233 (w.heap.size + 1) 26 (vc d) ∧ CellsL V233 (w.heap.size + 1 + 1) 0 [.float .f64 q.lo, .float .f64 q.hi] ∧ CellsL V233 (g120) 0 [.float .f64 p11.lo, .float .f64 p11.hi] ∧ CellsL V233 (g179) 0 [.float .f64 p13.lo, .float .f64 p13.hi] := ⟨trivial, (kb K238 D249), (kb K239 D249), (kb K240 D249).cellsL 0 [.float .f64 q.lo, .float .f64 q.hi] rfl, (kb K246 D249).cellsL 0 [.float .f64 p11.lo, .float .f64 p11.hi] rfl, (kb K247 D249).cellsL 0 [.float .f64 p13.lo, .float .f64 p13.hi] rfl⟩
 refine hK _ _ hS250 ?_
 clear hK K hS232
 refine tkq 10 (bm 11 2047) hS250 ?_
 refine wpAnyH_done (by kernel_rfl) ?_ _
 clear hS250
 go_wp2_with fail
 (try simp only [Exit.inBlock, Exit.then])
 exact bodyPost_ret (res_cct rfl _ _ (w.heap.size + 1 + 1 + 1) (vc p16) (w.heap.size + 1 + 1 + 1 + 1) #[.float .f64 p11.lo, .float .f64 p11.hi] rfl (kb K241 D249) (by rw [info_V3]; rfl) Tryz.underlying26 rfl rfl (kb K242 D249) (by rw [info_Span]; rfl) Tryz.underlying24 rfl) rfl ⟨rfl, below_step HB248.out D249.out⟩
theorem bent_0 (n d : V3) (q : Sp) (h : posS (bdRest q (bdCos n d)) = 0) (w : World) : Calls Tryz.prog 35 #[Value.agg #[.float .f64 n.x.lo, .float .f64 n.x.hi, .float .f64 n.y.lo, .float .f64 n.y.hi, .float .f64 n.z.lo, .float .f64 n.z.hi], Value.agg #[.float .f64 d.x.lo, .float .f64 d.x.hi, .float .f64 d.y.lo, .float .f64 d.y.hi, .float .f64 d.z.lo, .float .f64 d.z.hi], Value.agg #[.float .f64 q.lo, .float .f64 q.hi]] w fun r w' => r = .returned (.tuple #[.agg #[.float .f64 0, .float .f64 0, .float .f64 0, .float .f64 0, .float .f64 0, .float .f64 0], .agg #[.float .f64 0, .float .f64 0], .int .i64 0]) ∧ Below w.heap.size w w' := by
 have C0 := Lib.hid (fun w => dotV_any n d w)
 obtain ⟨p0, hp0⟩ : ∃ z_, vDot n d = z_ := ⟨_, rfl⟩
 rw [hp0] at C0
 have C1 := Lib.hid (fun w => neg_sp p0 w)
 obtain ⟨p1, hp1⟩ : ∃ z_, negS p0 = z_ := ⟨_, rfl⟩
 rw [hp1] at C1
 have C2 := Lib.hid (fun w => sqr_sp q w)
 obtain ⟨p2, hp2⟩ : ∃ z_, sqrS q = z_ := ⟨_, rfl⟩
 rw [hp2] at C2
 have C3 := Lib.hid (fun w => of_sp 4607182418800017408 (by decide) w)
 obtain ⟨p3, hp3⟩ : ∃ z_, ofS 4607182418800017408 = z_ := ⟨_, rfl⟩
 rw [hp3] at C3
 have C4 := Lib.hid (fun w => sqr_sp p1 w)
 obtain ⟨p4, hp4⟩ : ∃ z_, sqrS p1 = z_ := ⟨_, rfl⟩
 rw [hp4] at C4
 have C5 := Lib.hid (fun w => sub_sp p3 p4 w)
 obtain ⟨p5, hp5⟩ : ∃ z_, subS p3 p4 = z_ := ⟨_, rfl⟩
 rw [hp5] at C5
 have C6 := Lib.hid (fun w => max_sp p5 zeroS w)
 simp only [zeroS_lo, zeroS_hi, zeroV_x, zeroV_y, zeroV_z, zeroA_a, zeroA_b, zeroA_c, zeroA_t] at C6
 obtain ⟨p6, hp6⟩ : ∃ z_, maxS p5 zeroS = z_ := ⟨_, rfl⟩
 rw [hp6] at C6
 have C7 := Lib.hid (fun w => mul_sp p2 p6 w)
 obtain ⟨p7, hp7⟩ : ∃ z_, mulS p2 p6 = z_ := ⟨_, rfl⟩
 rw [hp7] at C7
 have C8 := Lib.hid (fun w => of_sp 4607182418800017408 (by decide) w)
 rw [hp3] at C8
 have C9 := Lib.hid (fun w => sub_sp p3 p7 w)
 obtain ⟨p9, hp9⟩ : ∃ z_, subS p3 p7 = z_ := ⟨_, rfl⟩
 rw [hp9] at C9
 have hl : posS p9 = 0 := by rw [← hp9, ← hp7, ← hp6, ← hp5, ← hp4, ← hp3, ← hp2, ← hp1, ← hp0]; exact h
 have C10 := Lib.hid (fun w => pos_lit hl w)
 clear hp0 hp1 hp2 hp3 hp4 hp5 hp6 hp7 hp9
 go_enter Tryz.func35, Tryz.ntmps35
 go_wp2_with fail
 obtain ⟨W, hW, K0, K1, K2, K3, K4, hB, hz⟩ := bx5 w 26 26 24 26 24 (vc n) (vc d) #[.float .f64 q.lo, .float .f64 q.hi] #[.float .f64 0, .float .f64 0, .float .f64 0, .float .f64 0, .float .f64 0, .float .f64 0] #[.float .f64 0, .float .f64 0]
 rw [← hW]
 have K0 := Lib.hid K0
 have K1 := Lib.hid K1
 have K2 := Lib.hid K2
 have K3 := Lib.hid K3
 have K4 := Lib.hid K4
 have HB := Lib.hid hB
 clear hW hB hz
 have D1 := dr W
 refine (C0.out _).mono ?_
 rintro r w2 ⟨rfl, hb⟩
 have D3 := ds D1 hb
 clear D1
 clear hb
 go_wp2_with fail
 refine (C1.out _).mono ?_
 rintro r w4 ⟨rfl, hb⟩
 have D5 := ds D3 hb
 clear D3
 clear hb
 obtain ⟨g6, hg8⟩ : ∃ g, w4.heap.size = g := ⟨_, rfl⟩
 have Y10 := Lib.hid (show w.heap.size < g6 ∧ w.heap.size + 1 < g6 ∧ w.heap.size + 1 + 1 < g6 ∧ w.heap.size + 1 + 1 + 1 < g6 ∧ w.heap.size + 1 + 1 + 1 + 1 < g6 by rw [← hg8]; exact ⟨(kb K0 D5).lt, (kb K1 D5).lt, (kb K2 D5).lt, (kb K3 D5).lt, (kb K4 D5).lt⟩)
 obtain ⟨V7, hV9⟩ : ∃ V, w4.alloc (.cells #[.float .f64 0, .float .f64 0] 24) = V := ⟨_, rfl⟩
 have K11 := ka hV9 K0 D5
 have K12 := ka hV9 K1 D5
 have K13 := ka hV9 K2 D5
 have K14 := ka hV9 K3 D5
 have K15 := ka hV9 K4 D5
 have K16 := kn hV9 hg8
 have HB17 := hba hV9 HB D5
 have D18 := dr V7
 clear K0 K1 K2 K3 K4 HB D5
 have f21 := (kb K16 D18).cellsL 0 [.float .f64 0, .float .f64 0] rfl
 dsimp only [CellsL, al, vl, Nat.reduceAdd] at f21
 have u22 := (kb K16 D18).unfrozen
 obtain ⟨V19, hV20⟩ : ∃ V, setCells V7 (g6) 0 [.float .f64 p1.lo, .float .f64 p1.hi] = V := ⟨_, rfl⟩
 have hv23 := hV20
 simp only [setCells, Nat.reduceAdd] at hv23
 have K24 := kf hV20 K11 D18 (by have := Y10.out; omega)
 have K25 := kf hV20 K12 D18 (by have := Y10.out; omega)
 have K26 := kf hV20 K13 D18 (by have := Y10.out; omega)
 have K27 := kf hV20 K14 D18 (by have := Y10.out; omega)
 have K28 := kf hV20 K15 D18 (by have := Y10.out; omega)
 have K29 := Lib.hid (show Blk V19 (g6) 24 #[.float .f64 p1.lo, .float .f64 p1.hi] from (ks hV20 K16 D18).out)
 have HB30 := hbs hV20 HB17 D18 (by have := Y10.out; omega)
 have D31 := dr V19
 clear K11 K12 K13 K14 K15 K16 HB17 D18
 go_wp2_with fail
 clear hg8 hV9 hV20 f21 u22 hv23
 refine wp_region_held (S := (fun w' => True ∧ CellsL w' (w.heap.size + 1 + 1) 0 [.float .f64 q.lo, .float .f64 q.hi] ∧ CellsL w' (g6) 0 [.float .f64 p1.lo, .float .f64 p1.hi])) (by kernel_rfl) ?_
 change wpAnyH _ _ _ _ _ _ _ _ (World.drew _)
 obtain ⟨wd32, hwd⟩ : ∃ x, x = World.drew V19 := ⟨_, rfl⟩
 rw [← hwd]
 have D33 := Lib.hid (hwd ▸ Below.drew D31.out : Below V19.heap.size V19 wd32)
 clear D31 hwd
 have hS34 : True ∧ CellsL wd32 (w.heap.size + 1 + 1) 0 [.float .f64 q.lo, .float .f64 q.hi] ∧ CellsL wd32 (g6) 0 [.float .f64 p1.lo, .float .f64 p1.hi] := ⟨trivial, (kb K26 D33).cellsL 0 [.float .f64 q.lo, .float .f64 q.hi] rfl, (kb K29 D33).cellsL 0 [.float .f64 p1.lo, .float .f64 p1.hi] rfl⟩
 refine tke 0 (bm 11 1) hS34 ?_
 refine tke 3 (bm 11 9) hS34 ?_
 refine tkq 6 (bm 11 73) hS34 ?_
 have HS38 := Lib.hid (show ∀ w', Below V19.heap.size V19 w' → (True ∧ CellsL w' (w.heap.size + 1 + 1) 0 [.float .f64 q.lo, .float .f64 q.hi] ∧ CellsL w' (g6) 0 [.float .f64 p1.lo, .float .f64 p1.hi]) from fun w' b => ⟨trivial, (K26.out.below b K26.out.lt).cellsL 0 [.float .f64 q.lo, .float .f64 q.hi] rfl, (K29.out.below b K29.out.lt).cellsL 0 [.float .f64 p1.lo, .float .f64 p1.hi] rfl⟩)
 refine wpAnyH_sets2 (N := 11) (stop := 1023) (F := 1) (m := 73) (R := [1, 2, 4, 5, 7, 8, 9]) (M := [73, 75, 585, 79, 587, 95, 591, 127, 607, 255, 639, 511, 767, 1023]) (fun i => if i = 1 then 1 else if i = 2 then 2 else if i = 4 then 12 else if i = 5 then 20 else if i = 7 then 96 else if i = 8 then 130 else if i = 9 then 0 else 0) (fun a0 m a w9 => ∃ (v1 v2 v4 v5 v7 v8 p9_ : Value) (g9_ : Nat), a = (((((((a0.put (some 20) v1).put (some 21) v2).put (some 23) v4).put (some 24) v5).put (some 26) v7).put (some 27) v8).put (some 10) p9_) ∧ Below V19.heap.size V19 w9 ∧ (m.testBit 1 = true → v1 = Value.agg #[.float .f64 p2.lo, .float .f64 p2.hi]) ∧ (m.testBit 2 = true → v2 = Value.agg #[.float .f64 p3.lo, .float .f64 p3.hi]) ∧ (m.testBit 4 = true → v4 = Value.agg #[.float .f64 p4.lo, .float .f64 p4.hi]) ∧ (m.testBit 5 = true → v5 = Value.agg #[.float .f64 p5.lo, .float .f64 p5.hi]) ∧ (m.testBit 7 = true → v7 = Value.agg #[.float .f64 p6.lo, .float .f64 p6.hi]) ∧ (m.testBit 8 = true → v8 = Value.agg #[.float .f64 p7.lo, .float .f64 p7.hi]) ∧ (m.testBit 9 = true → p9_ = .pointer (some ⟨g9_, 0, none⟩) ∧ Blk w9 g9_ 24 #[.float .f64 0, .float .f64 0] ∧ V19.heap.size ≤ g9_)) (by kernel_rfl) (by kernel_rfl) (by kernel_rfl) (by kernel_rfl) ?st2 ?sp2 ?re2
 case st2 =>
   exact ⟨undef, undef, undef, undef, undef, undef, undef, 0, by go_simp, D33.out, fun h => absurd h (by decide), fun h => absurd h (by decide), fun h => absurd h (by decide), fun h => absurd h (by decide), fun h => absurd h (by decide), fun h => absurd h (by decide), fun h => absurd h (by decide)⟩
 case sp2 =>
   intro m a' w9 i hi hm hd hJ
   obtain ⟨v1, v2, v4, v5, v7, v8, p9_, g9_, rfl, hb0, cl1, cl2, cl4, cl5, cl7, cl8, ql9⟩ := hJ
   have CL1 := Lib.hid cl1
   have CL2 := Lib.hid cl2
   have CL4 := Lib.hid cl4
   have CL5 := Lib.hid cl5
   have CL7 := Lib.hid cl7
   have CL8 := Lib.hid cl8
   have QL9 := Lib.hid ql9
   have HB0 := Lib.hid hb0
   clear cl1 cl2 cl4 cl5 cl7 cl8 ql9 hb0 hS34
   simp only [List.mem_cons, List.not_mem_nil, or_false] at hi
   rcases hi with rfl | rfl | rfl | rfl | rfl | rfl | rfl
   · refine wpOp_at rfl (by kernel_rfl) (fun K hK => ?_)
     have hd := fun j => @tb_of _ _ j hd
     go_simp
     go_at_call 69
     refine (C2.out _).mono ?_
     rintro r w10 ⟨rfl, hb⟩
     dsimp only
     have hb1 := below_step HB0.out hb
     exact hK _ _ ⟨HS38.out _ hb1, _, v2, v4, v5, v7, v8, p9_, g9_, by go_simp, hb1, fun _ => rfl, fun h => CL2.out (by rwa [tb_ne (by decide)] at h), fun h => CL4.out (by rwa [tb_ne (by decide)] at h), fun h => CL5.out (by rwa [tb_ne (by decide)] at h), fun h => CL7.out (by rwa [tb_ne (by decide)] at h), fun h => CL8.out (by rwa [tb_ne (by decide)] at h), fun h => ⟨(QL9.out (by rwa [tb_ne (by decide)] at h)).1, (QL9.out (by rwa [tb_ne (by decide)] at h)).2.1.below hb (QL9.out (by rwa [tb_ne (by decide)] at h)).2.1.lt, (QL9.out (by rwa [tb_ne (by decide)] at h)).2.2⟩⟩
   · refine wpOp_at rfl (by kernel_rfl) (fun K hK => ?_)
     have hd := fun j => @tb_of _ _ j hd
     obtain rfl := CL1.out (hd _ (by decide))
     go_simp
     go_at_call 66
     refine (C3.out _).mono ?_
     rintro r w10 ⟨rfl, hb⟩
     dsimp only
     have hb1 := below_step HB0.out hb
     exact hK _ _ ⟨HS38.out _ hb1, _, _, v4, v5, v7, v8, p9_, g9_, by go_simp, hb1, fun _ => rfl, fun _ => rfl, fun h => CL4.out (by rwa [tb_ne (by decide)] at h), fun h => CL5.out (by rwa [tb_ne (by decide)] at h), fun h => CL7.out (by rwa [tb_ne (by decide)] at h), fun h => CL8.out (by rwa [tb_ne (by decide)] at h), fun h => ⟨(QL9.out (by rwa [tb_ne (by decide)] at h)).1, (QL9.out (by rwa [tb_ne (by decide)] at h)).2.1.below hb (QL9.out (by rwa [tb_ne (by decide)] at h)).2.1.lt, (QL9.out (by rwa [tb_ne (by decide)] at h)).2.2⟩⟩
   · refine wpOp_at rfl (by kernel_rfl) (fun K hK => ?_)
     have hd := fun j => @tb_of _ _ j hd
     obtain rfl := CL2.out (hd _ (by decide))
     go_simp
     go_at_call 69
     refine (C4.out _).mono ?_
     rintro r w10 ⟨rfl, hb⟩
     dsimp only
     have hb1 := below_step HB0.out hb
     exact hK _ _ ⟨HS38.out _ hb1, v1, _, _, v5, v7, v8, p9_, g9_, by go_simp, hb1, fun h => CL1.out (by rwa [tb_ne (by decide)] at h), fun _ => rfl, fun _ => rfl, fun h => CL5.out (by rwa [tb_ne (by decide)] at h), fun h => CL7.out (by rwa [tb_ne (by decide)] at h), fun h => CL8.out (by rwa [tb_ne (by decide)] at h), fun h => ⟨(QL9.out (by rwa [tb_ne (by decide)] at h)).1, (QL9.out (by rwa [tb_ne (by decide)] at h)).2.1.below hb (QL9.out (by rwa [tb_ne (by decide)] at h)).2.1.lt, (QL9.out (by rwa [tb_ne (by decide)] at h)).2.2⟩⟩
   · refine wpOp_at rfl (by kernel_rfl) (fun K hK => ?_)
     have hd := fun j => @tb_of _ _ j hd
     obtain rfl := CL2.out (hd _ (by decide))
     obtain rfl := CL4.out (hd _ (by decide))
     go_simp
     go_at_call 83
     refine (C5.out _).mono ?_
     rintro r w10 ⟨rfl, hb⟩
     dsimp only
     have hb1 := below_step HB0.out hb
     exact hK _ _ ⟨HS38.out _ hb1, v1, _, _, _, v7, v8, p9_, g9_, by go_simp, hb1, fun h => CL1.out (by rwa [tb_ne (by decide)] at h), fun _ => rfl, fun _ => rfl, fun _ => rfl, fun h => CL7.out (by rwa [tb_ne (by decide)] at h), fun h => CL8.out (by rwa [tb_ne (by decide)] at h), fun h => ⟨(QL9.out (by rwa [tb_ne (by decide)] at h)).1, (QL9.out (by rwa [tb_ne (by decide)] at h)).2.1.below hb (QL9.out (by rwa [tb_ne (by decide)] at h)).2.1.lt, (QL9.out (by rwa [tb_ne (by decide)] at h)).2.2⟩⟩
   · refine wpOp_at rfl (by kernel_rfl) (fun K hK => ?_)
     have hd := fun j => @tb_of _ _ j hd
     obtain rfl := CL5.out (hd _ (by decide))
     go_simp
     go_at_call 77
     refine (C6.out _).mono ?_
     rintro r w10 ⟨rfl, hb⟩
     dsimp only
     have hb1 := below_step HB0.out hb
     exact hK _ _ ⟨HS38.out _ hb1, v1, v2, v4, _, _, v8, p9_, g9_, by go_simp, hb1, fun h => CL1.out (by rwa [tb_ne (by decide)] at h), fun h => CL2.out (by rwa [tb_ne (by decide)] at h), fun h => CL4.out (by rwa [tb_ne (by decide)] at h), fun _ => rfl, fun _ => rfl, fun h => CL8.out (by rwa [tb_ne (by decide)] at h), fun h => ⟨(QL9.out (by rwa [tb_ne (by decide)] at h)).1, (QL9.out (by rwa [tb_ne (by decide)] at h)).2.1.below hb (QL9.out (by rwa [tb_ne (by decide)] at h)).2.1.lt, (QL9.out (by rwa [tb_ne (by decide)] at h)).2.2⟩⟩
   · refine wpOp_at rfl (by kernel_rfl) (fun K hK => ?_)
     have hd := fun j => @tb_of _ _ j hd
     obtain rfl := CL1.out (hd _ (by decide))
     obtain rfl := CL7.out (hd _ (by decide))
     go_simp
     go_at_call 68
     refine (C7.out _).mono ?_
     rintro r w10 ⟨rfl, hb⟩
     dsimp only
     have hb1 := below_step HB0.out hb
     exact hK _ _ ⟨HS38.out _ hb1, _, v2, v4, v5, _, _, p9_, g9_, by go_simp, hb1, fun _ => rfl, fun h => CL2.out (by rwa [tb_ne (by decide)] at h), fun h => CL4.out (by rwa [tb_ne (by decide)] at h), fun h => CL5.out (by rwa [tb_ne (by decide)] at h), fun _ => rfl, fun _ => rfl, fun h => ⟨(QL9.out (by rwa [tb_ne (by decide)] at h)).1, (QL9.out (by rwa [tb_ne (by decide)] at h)).2.1.below hb (QL9.out (by rwa [tb_ne (by decide)] at h)).2.1.lt, (QL9.out (by rwa [tb_ne (by decide)] at h)).2.2⟩⟩
   · refine wpOp_at rfl (by kernel_rfl) (fun K hK => ?_)
     have hd := fun j => @tb_of _ _ j hd
     go_simp
     have hb1 := below_more HB0.out (.cells #[.float .f64 0, .float .f64 0] 24)
     exact hK _ _ ⟨HS38.out _ hb1, v1, v2, v4, v5, v7, v8, .pointer (some ⟨w9.heap.size, 0, none⟩), w9.heap.size, by go_simp, hb1, fun h => CL1.out (by rwa [tb_ne (by decide)] at h), fun h => CL2.out (by rwa [tb_ne (by decide)] at h), fun h => CL4.out (by rwa [tb_ne (by decide)] at h), fun h => CL5.out (by rwa [tb_ne (by decide)] at h), fun h => CL7.out (by rwa [tb_ne (by decide)] at h), fun h => CL8.out (by rwa [tb_ne (by decide)] at h), fun _ => ⟨rfl, Blk.new_at _ _ _ rfl, HB0.out.size⟩⟩
 clear hS34 D33 HS38
 intro a' W54 hJ
 obtain ⟨v1, v2, v4, v5, v7, v8, p9_, g55, rfl, hb0, cl1, cl2, cl4, cl5, cl7, cl8, ql9⟩ := hJ
 obtain rfl := cl1 (by decide)
 obtain rfl := cl2 (by decide)
 obtain rfl := cl4 (by decide)
 obtain rfl := cl5 (by decide)
 obtain rfl := cl7 (by decide)
 obtain rfl := cl8 (by decide)
 obtain ⟨rfl, kk9, ll9⟩ := ql9 (by decide)
 have D41 := Lib.hid hb0
 clear hb0
 refine wpAnyH_frame (a' := ?frq40) ?feq40 ?fgq40
 case feq40 => (go_simp; try with_reducible rfl)
 have K43 := Lib.hid ((kb K24 D41) : Blk W54 (w.heap.size) 26 (vc n))
 have K44 := Lib.hid ((kb K25 D41) : Blk W54 (w.heap.size + 1) 26 (vc d))
 have K45 := Lib.hid ((kb K26 D41) : Blk W54 (w.heap.size + 1 + 1) 24 #[.float .f64 q.lo, .float .f64 q.hi])
 have K46 := Lib.hid ((kb K27 D41) : Blk W54 (w.heap.size + 1 + 1 + 1) 26 #[.float .f64 0, .float .f64 0, .float .f64 0, .float .f64 0, .float .f64 0, .float .f64 0])
 have K47 := Lib.hid ((kb K28 D41) : Blk W54 (w.heap.size + 1 + 1 + 1 + 1) 24 #[.float .f64 0, .float .f64 0])
 have K48 := Lib.hid ((kb K29 D41) : Blk W54 (g6) 24 #[.float .f64 p1.lo, .float .f64 p1.hi])
 have K49 := Lib.hid kk9
 clear kk9
 have HB52 := Lib.hid (below_step HB30.out D41.out)
 have Y51 := Lib.hid (show w.heap.size ≤ g55 ∧ w.heap.size < g55 ∧ w.heap.size + 1 < g55 ∧ w.heap.size + 1 + 1 < g55 ∧ w.heap.size + 1 + 1 + 1 < g55 ∧ w.heap.size + 1 + 1 + 1 + 1 < g55 ∧ g6 < g55 from ⟨Nat.le_trans HB30.out.size ll9, Nat.lt_of_lt_of_le K24.out.lt ll9, Nat.lt_of_lt_of_le K25.out.lt ll9, Nat.lt_of_lt_of_le K26.out.lt ll9, Nat.lt_of_lt_of_le K27.out.lt ll9, Nat.lt_of_lt_of_le K28.out.lt ll9, Nat.lt_of_lt_of_le K29.out.lt ll9⟩)
 have Y53 := Lib.hid (And.intro Y10.out Y51.out)
 clear Y10 Y51
 clear K24 K25 K26 K27 K28 K29 ll9 HB30
 have D56 := Lib.hid (Below.refl W54.heap.size W54)
 clear D41
 have hS57 : True ∧ CellsL W54 (w.heap.size + 1 + 1) 0 [.float .f64 q.lo, .float .f64 q.hi] ∧ CellsL W54 (g6) 0 [.float .f64 p1.lo, .float .f64 p1.hi] := ⟨trivial, (kb K45 D56).cellsL 0 [.float .f64 q.lo, .float .f64 q.hi] rfl, (kb K48 D56).cellsL 0 [.float .f64 p1.lo, .float .f64 p1.hi] rfl⟩
 refine wpAnyH_oneM (i := 10) (l' := bm 11 2047) rfl (by kernel_rfl) (by kernel_rfl) (by kernel_rfl) (fun K hK => ?_)
 have f60 := (kb K49 D56).cellsL 0 [.float .f64 0, .float .f64 0] rfl
 dsimp only [CellsL, al, vl, Nat.reduceAdd] at f60
 have u61 := (kb K49 D56).unfrozen
 obtain ⟨V58, hV59⟩ : ∃ V, setCells W54 (g55) 0 [.float .f64 p7.lo, .float .f64 p7.hi] = V := ⟨_, rfl⟩
 have hv62 := hV59
 simp only [setCells, Nat.reduceAdd] at hv62
 have K63 := kf hV59 K43 D56 (by have := Y53.out; omega)
 have K64 := kf hV59 K44 D56 (by have := Y53.out; omega)
 have K65 := kf hV59 K45 D56 (by have := Y53.out; omega)
 have K66 := kf hV59 K46 D56 (by have := Y53.out; omega)
 have K67 := kf hV59 K47 D56 (by have := Y53.out; omega)
 have K68 := kf hV59 K48 D56 (by have := Y53.out; omega)
 have K69 := Lib.hid (show Blk V58 (g55) 24 #[.float .f64 p7.lo, .float .f64 p7.hi] from (ks hV59 K49 D56).out)
 have HB70 := hbs hV59 HB52 D56 (by have := Y53.out; omega)
 have D71 := dr V58
 clear K43 K44 K45 K46 K47 K48 K49 HB52 D56
 go_simp
 clear hV59 f60 u61 hv62
 have hS72 : True ∧ CellsL V58 (w.heap.size + 1 + 1) 0 [.float .f64 q.lo, .float .f64 q.hi] ∧ CellsL V58 (g6) 0 [.float .f64 p1.lo, .float .f64 p1.hi] := ⟨trivial, (kb K65 D71).cellsL 0 [.float .f64 q.lo, .float .f64 q.hi] rfl, (kb K68 D71).cellsL 0 [.float .f64 p1.lo, .float .f64 p1.hi] rfl⟩
 refine hK _ _ hS72 ?_
 clear hK K hS57
 refine wpAnyH_done (by kernel_rfl) ?_ _
 clear hS72
 go_wp2_with fail
 refine wp_region_held (S := (fun w' => True ∧ CellsL w' (g55) 0 [.float .f64 p7.lo, .float .f64 p7.hi])) (by kernel_rfl) ?_
 change wpAnyH _ _ _ _ _ _ _ _ (World.drew _)
 obtain ⟨wd73, hwd⟩ : ∃ x, x = World.drew V58 := ⟨_, rfl⟩
 rw [← hwd]
 have D74 := Lib.hid (hwd ▸ Below.drew D71.out : Below V58.heap.size V58 wd73)
 clear D71 hwd
 have hS75 : True ∧ CellsL wd73 (g55) 0 [.float .f64 p7.lo, .float .f64 p7.hi] := ⟨trivial, (kb K69 D74).cellsL 0 [.float .f64 p7.lo, .float .f64 p7.hi] rfl⟩
 refine tke 1 (bm 5 2) hS75 ?_
 have HS77 := Lib.hid (show ∀ w', Below V58.heap.size V58 w' → (True ∧ CellsL w' (g55) 0 [.float .f64 p7.lo, .float .f64 p7.hi]) from fun w' b => ⟨trivial, (K69.out.below b K69.out.lt).cellsL 0 [.float .f64 p7.lo, .float .f64 p7.hi] rfl⟩)
 refine wpAnyH_sets2 (N := 5) (stop := 15) (F := 1) (m := 2) (R := [0, 2, 3]) (M := [2, 3, 10, 7, 11, 15]) (fun i => if i = 0 then 0 else if i = 2 then 3 else if i = 3 then 0 else 0) (fun a0 m a w9 => ∃ (v0 v2 p3_ : Value) (g3_ : Nat), a = (((a0.put (some 28) v0).put (some 30) v2).put (some 11) p3_) ∧ Below V58.heap.size V58 w9 ∧ (m.testBit 0 = true → v0 = Value.agg #[.float .f64 p3.lo, .float .f64 p3.hi]) ∧ (m.testBit 2 = true → v2 = Value.agg #[.float .f64 p9.lo, .float .f64 p9.hi]) ∧ (m.testBit 3 = true → p3_ = .pointer (some ⟨g3_, 0, none⟩) ∧ Blk w9 g3_ 24 #[.float .f64 0, .float .f64 0] ∧ V58.heap.size ≤ g3_)) (by kernel_rfl) (by kernel_rfl) (by kernel_rfl) (by kernel_rfl) ?st3 ?sp3 ?re3
 case st3 =>
   exact ⟨undef, undef, undef, 0, by go_simp, D74.out, fun h => absurd h (by decide), fun h => absurd h (by decide), fun h => absurd h (by decide)⟩
 case sp3 =>
   intro m a' w9 i hi hm hd hJ
   obtain ⟨v0, v2, p3_, g3_, rfl, hb0, cl0, cl2, ql3⟩ := hJ
   have CL0 := Lib.hid cl0
   have CL2 := Lib.hid cl2
   have QL3 := Lib.hid ql3
   have HB0 := Lib.hid hb0
   clear cl0 cl2 ql3 hb0 hS75
   simp only [List.mem_cons, List.not_mem_nil, or_false] at hi
   rcases hi with rfl | rfl | rfl
   · refine wpOp_at rfl (by kernel_rfl) (fun K hK => ?_)
     have hd := fun j => @tb_of _ _ j hd
     go_simp
     go_at_call 66
     refine (C8.out _).mono ?_
     rintro r w10 ⟨rfl, hb⟩
     dsimp only
     have hb1 := below_step HB0.out hb
     exact hK _ _ ⟨HS77.out _ hb1, _, v2, p3_, g3_, by go_simp, hb1, fun _ => rfl, fun h => CL2.out (by rwa [tb_ne (by decide)] at h), fun h => ⟨(QL3.out (by rwa [tb_ne (by decide)] at h)).1, (QL3.out (by rwa [tb_ne (by decide)] at h)).2.1.below hb (QL3.out (by rwa [tb_ne (by decide)] at h)).2.1.lt, (QL3.out (by rwa [tb_ne (by decide)] at h)).2.2⟩⟩
   · refine wpOp_at rfl (by kernel_rfl) (fun K hK => ?_)
     have hd := fun j => @tb_of _ _ j hd
     obtain rfl := CL0.out (hd _ (by decide))
     go_simp
     go_at_call 83
     refine (C9.out _).mono ?_
     rintro r w10 ⟨rfl, hb⟩
     dsimp only
     have hb1 := below_step HB0.out hb
     exact hK _ _ ⟨HS77.out _ hb1, _, _, p3_, g3_, by go_simp, hb1, fun _ => rfl, fun _ => rfl, fun h => ⟨(QL3.out (by rwa [tb_ne (by decide)] at h)).1, (QL3.out (by rwa [tb_ne (by decide)] at h)).2.1.below hb (QL3.out (by rwa [tb_ne (by decide)] at h)).2.1.lt, (QL3.out (by rwa [tb_ne (by decide)] at h)).2.2⟩⟩
   · refine wpOp_at rfl (by kernel_rfl) (fun K hK => ?_)
     have hd := fun j => @tb_of _ _ j hd
     go_simp
     have hb1 := below_more HB0.out (.cells #[.float .f64 0, .float .f64 0] 24)
     exact hK _ _ ⟨HS77.out _ hb1, v0, v2, .pointer (some ⟨w9.heap.size, 0, none⟩), w9.heap.size, by go_simp, hb1, fun h => CL0.out (by rwa [tb_ne (by decide)] at h), fun h => CL2.out (by rwa [tb_ne (by decide)] at h), fun _ => ⟨rfl, Blk.new_at _ _ _ rfl, HB0.out.size⟩⟩
 clear hS75 D74 HS77
 intro a' W94 hJ
 obtain ⟨v0, v2, p3_, g95, rfl, hb0, cl0, cl2, ql3⟩ := hJ
 obtain rfl := cl0 (by decide)
 obtain rfl := cl2 (by decide)
 obtain ⟨rfl, kk3, ll3⟩ := ql3 (by decide)
 have D80 := Lib.hid hb0
 clear hb0
 refine wpAnyH_frame (a' := ?frq79) ?feq79 ?fgq79
 case feq79 => (go_simp; try with_reducible rfl)
 have K82 := Lib.hid ((kb K63 D80) : Blk W94 (w.heap.size) 26 (vc n))
 have K83 := Lib.hid ((kb K64 D80) : Blk W94 (w.heap.size + 1) 26 (vc d))
 have K84 := Lib.hid ((kb K65 D80) : Blk W94 (w.heap.size + 1 + 1) 24 #[.float .f64 q.lo, .float .f64 q.hi])
 have K85 := Lib.hid ((kb K66 D80) : Blk W94 (w.heap.size + 1 + 1 + 1) 26 #[.float .f64 0, .float .f64 0, .float .f64 0, .float .f64 0, .float .f64 0, .float .f64 0])
 have K86 := Lib.hid ((kb K67 D80) : Blk W94 (w.heap.size + 1 + 1 + 1 + 1) 24 #[.float .f64 0, .float .f64 0])
 have K87 := Lib.hid ((kb K68 D80) : Blk W94 (g6) 24 #[.float .f64 p1.lo, .float .f64 p1.hi])
 have K88 := Lib.hid ((kb K69 D80) : Blk W94 (g55) 24 #[.float .f64 p7.lo, .float .f64 p7.hi])
 have K89 := Lib.hid kk3
 clear kk3
 have HB92 := Lib.hid (below_step HB70.out D80.out)
 have Y91 := Lib.hid (show w.heap.size ≤ g95 ∧ w.heap.size < g95 ∧ w.heap.size + 1 < g95 ∧ w.heap.size + 1 + 1 < g95 ∧ w.heap.size + 1 + 1 + 1 < g95 ∧ w.heap.size + 1 + 1 + 1 + 1 < g95 ∧ g6 < g95 ∧ g55 < g95 from ⟨Nat.le_trans HB70.out.size ll3, Nat.lt_of_lt_of_le K63.out.lt ll3, Nat.lt_of_lt_of_le K64.out.lt ll3, Nat.lt_of_lt_of_le K65.out.lt ll3, Nat.lt_of_lt_of_le K66.out.lt ll3, Nat.lt_of_lt_of_le K67.out.lt ll3, Nat.lt_of_lt_of_le K68.out.lt ll3, Nat.lt_of_lt_of_le K69.out.lt ll3⟩)
 have Y93 := Lib.hid (And.intro Y53.out Y91.out)
 clear Y53 Y91
 clear K63 K64 K65 K66 K67 K68 K69 ll3 HB70
 have D96 := Lib.hid (Below.refl W94.heap.size W94)
 clear D80
 have hS97 : True ∧ CellsL W94 (g55) 0 [.float .f64 p7.lo, .float .f64 p7.hi] := ⟨trivial, (kb K88 D96).cellsL 0 [.float .f64 p7.lo, .float .f64 p7.hi] rfl⟩
 refine wpAnyH_oneM (i := 4) (l' := bm 5 31) rfl (by kernel_rfl) (by kernel_rfl) (by kernel_rfl) (fun K hK => ?_)
 have f100 := (kb K89 D96).cellsL 0 [.float .f64 0, .float .f64 0] rfl
 dsimp only [CellsL, al, vl, Nat.reduceAdd] at f100
 have u101 := (kb K89 D96).unfrozen
 obtain ⟨V98, hV99⟩ : ∃ V, setCells W94 (g95) 0 [.float .f64 p9.lo, .float .f64 p9.hi] = V := ⟨_, rfl⟩
 have hv102 := hV99
 simp only [setCells, Nat.reduceAdd] at hv102
 have K103 := kf hV99 K82 D96 (by have := Y93.out; omega)
 have K104 := kf hV99 K83 D96 (by have := Y93.out; omega)
 have K105 := kf hV99 K84 D96 (by have := Y93.out; omega)
 have K106 := kf hV99 K85 D96 (by have := Y93.out; omega)
 have K107 := kf hV99 K86 D96 (by have := Y93.out; omega)
 have K108 := kf hV99 K87 D96 (by have := Y93.out; omega)
 have K109 := kf hV99 K88 D96 (by have := Y93.out; omega)
 have K110 := Lib.hid (show Blk V98 (g95) 24 #[.float .f64 p9.lo, .float .f64 p9.hi] from (ks hV99 K89 D96).out)
 have HB111 := hbs hV99 HB92 D96 (by have := Y93.out; omega)
 have D112 := dr V98
 clear K82 K83 K84 K85 K86 K87 K88 K89 HB92 D96
 go_simp
 clear hV99 f100 u101 hv102
 have hS113 : True ∧ CellsL V98 (g55) 0 [.float .f64 p7.lo, .float .f64 p7.hi] := ⟨trivial, (kb K109 D112).cellsL 0 [.float .f64 p7.lo, .float .f64 p7.hi] rfl⟩
 refine hK _ _ hS113 ?_
 clear hK K hS97
 refine wpAnyH_done (by kernel_rfl) ?_ _
 clear hS113
 have hq114 := (kb K110 D112).cellsL 0 [.float .f64 p9.lo, .float .f64 p9.hi] rfl
 dsimp only [CellsL, al, vl, Nat.reduceAdd] at hq114
 go_wp2_with fail
 clear hq114
 refine (C10.out _).mono ?_
 rintro r w115 ⟨rfl, hb⟩
 have D116 := ds D112 hb
 clear D112
 clear hb
 have f119 := (kb K106 D116)
 obtain ⟨V117, hV118⟩ : ∃ V, World.setRow w115 (w.heap.size + 1 + 1 + 1) #[.float .f64 0, .float .f64 0, .float .f64 0, .float .f64 0, .float .f64 0, .float .f64 0] = V := ⟨_, rfl⟩
 have K120 := kfr hV118 K103 D116 (by have := Y93.out; omega)
 have K121 := kfr hV118 K104 D116 (by have := Y93.out; omega)
 have K122 := kfr hV118 K105 D116 (by have := Y93.out; omega)
 have K123 := ksr hV118 K106 D116
 have K124 := kfr hV118 K107 D116 (by have := Y93.out; omega)
 have K125 := kfr hV118 K108 D116 (by have := Y93.out; omega)
 have K126 := kfr hV118 K109 D116 (by have := Y93.out; omega)
 have K127 := kfr hV118 K110 D116 (by have := Y93.out; omega)
 have HB128 := hbr hV118 HB111 D116 (by have := Y93.out; omega)
 have D129 := dr V117
 clear K103 K104 K105 K106 K107 K108 K109 K110 HB111 D116
 have f132 := (kb K124 D129).cellsL 0 [.float .f64 0, .float .f64 0] rfl
 dsimp only [CellsL, al, vl, Nat.reduceAdd] at f132
 have u133 := (kb K124 D129).unfrozen
 obtain ⟨V130, hV131⟩ : ∃ V, setCells V117 (w.heap.size + 1 + 1 + 1 + 1) 0 [.float .f64 0, .float .f64 0] = V := ⟨_, rfl⟩
 have hv134 := hV131
 simp only [setCells, Nat.reduceAdd] at hv134
 have K135 := kf hV131 K120 D129 (by have := Y93.out; omega)
 have K136 := kf hV131 K121 D129 (by have := Y93.out; omega)
 have K137 := kf hV131 K122 D129 (by have := Y93.out; omega)
 have K138 := kf hV131 K123 D129 (by have := Y93.out; omega)
 have K139 := Lib.hid (show Blk V130 (w.heap.size + 1 + 1 + 1 + 1) 24 #[.float .f64 0, .float .f64 0] from (ks hV131 K124 D129).out)
 have K140 := kf hV131 K125 D129 (by have := Y93.out; omega)
 have K141 := kf hV131 K126 D129 (by have := Y93.out; omega)
 have K142 := kf hV131 K127 D129 (by have := Y93.out; omega)
 have HB143 := hbs hV131 HB128 D129 (by have := Y93.out; omega)
 have D144 := dr V130
 clear K120 K121 K122 K123 K124 K125 K126 K127 HB128 D129
 go_wp2_with (refine wpList_store_row rfl 26 _ _ rfl (w.heap.size + 1 + 1 + 1) #[.float .f64 0, .float .f64 0, .float .f64 0, .float .f64 0, .float .f64 0, .float .f64 0] rfl rfl _ _ f119 (by rw [info_V3]; rfl) rfl (by kernel_rfl) ?_; rw [hV118])
 clear hV118 f119 hV131 f132 u133 hv134
 (try simp only [Exit.inBlock, Exit.then])
 exact bodyPost_ret (res_cct rfl _ _ (w.heap.size + 1 + 1 + 1) #[.float .f64 0, .float .f64 0, .float .f64 0, .float .f64 0, .float .f64 0, .float .f64 0] (w.heap.size + 1 + 1 + 1 + 1) #[.float .f64 0, .float .f64 0] rfl (kb K138 D144) (by rw [info_V3]; rfl) Tryz.underlying26 rfl rfl (kb K139 D144) (by rw [info_Span]; rfl) Tryz.underlying24 rfl) rfl ⟨rfl, below_step HB143.out D144.out⟩
theorem bent_2 (n d : V3) (q : Sp) (h : posS (bdRest q (bdCos n d)) = 2) (w : World) : Calls Tryz.prog 35 #[Value.agg #[.float .f64 n.x.lo, .float .f64 n.x.hi, .float .f64 n.y.lo, .float .f64 n.y.hi, .float .f64 n.z.lo, .float .f64 n.z.hi], Value.agg #[.float .f64 d.x.lo, .float .f64 d.x.hi, .float .f64 d.y.lo, .float .f64 d.y.hi, .float .f64 d.z.lo, .float .f64 d.z.hi], Value.agg #[.float .f64 q.lo, .float .f64 q.hi]] w fun r w' => r = .returned (.tuple #[.agg #[.float .f64 0, .float .f64 0, .float .f64 0, .float .f64 0, .float .f64 0, .float .f64 0], .agg #[.float .f64 0, .float .f64 0], .int .i64 2]) ∧ Below w.heap.size w w' := by
 have C0 := Lib.hid (fun w => dotV_any n d w)
 obtain ⟨p0, hp0⟩ : ∃ z_, vDot n d = z_ := ⟨_, rfl⟩
 rw [hp0] at C0
 have C1 := Lib.hid (fun w => neg_sp p0 w)
 obtain ⟨p1, hp1⟩ : ∃ z_, negS p0 = z_ := ⟨_, rfl⟩
 rw [hp1] at C1
 have C2 := Lib.hid (fun w => sqr_sp q w)
 obtain ⟨p2, hp2⟩ : ∃ z_, sqrS q = z_ := ⟨_, rfl⟩
 rw [hp2] at C2
 have C3 := Lib.hid (fun w => of_sp 4607182418800017408 (by decide) w)
 obtain ⟨p3, hp3⟩ : ∃ z_, ofS 4607182418800017408 = z_ := ⟨_, rfl⟩
 rw [hp3] at C3
 have C4 := Lib.hid (fun w => sqr_sp p1 w)
 obtain ⟨p4, hp4⟩ : ∃ z_, sqrS p1 = z_ := ⟨_, rfl⟩
 rw [hp4] at C4
 have C5 := Lib.hid (fun w => sub_sp p3 p4 w)
 obtain ⟨p5, hp5⟩ : ∃ z_, subS p3 p4 = z_ := ⟨_, rfl⟩
 rw [hp5] at C5
 have C6 := Lib.hid (fun w => max_sp p5 zeroS w)
 simp only [zeroS_lo, zeroS_hi, zeroV_x, zeroV_y, zeroV_z, zeroA_a, zeroA_b, zeroA_c, zeroA_t] at C6
 obtain ⟨p6, hp6⟩ : ∃ z_, maxS p5 zeroS = z_ := ⟨_, rfl⟩
 rw [hp6] at C6
 have C7 := Lib.hid (fun w => mul_sp p2 p6 w)
 obtain ⟨p7, hp7⟩ : ∃ z_, mulS p2 p6 = z_ := ⟨_, rfl⟩
 rw [hp7] at C7
 have C8 := Lib.hid (fun w => of_sp 4607182418800017408 (by decide) w)
 rw [hp3] at C8
 have C9 := Lib.hid (fun w => sub_sp p3 p7 w)
 obtain ⟨p9, hp9⟩ : ∃ z_, subS p3 p7 = z_ := ⟨_, rfl⟩
 rw [hp9] at C9
 have hl : posS p9 = 2 := by rw [← hp9, ← hp7, ← hp6, ← hp5, ← hp4, ← hp3, ← hp2, ← hp1, ← hp0]; exact h
 have C10 := Lib.hid (fun w => pos_lit hl w)
 clear hp0 hp1 hp2 hp3 hp4 hp5 hp6 hp7 hp9
 go_enter Tryz.func35, Tryz.ntmps35
 go_wp2_with fail
 obtain ⟨W, hW, K0, K1, K2, K3, K4, hB, hz⟩ := bx5 w 26 26 24 26 24 (vc n) (vc d) #[.float .f64 q.lo, .float .f64 q.hi] #[.float .f64 0, .float .f64 0, .float .f64 0, .float .f64 0, .float .f64 0, .float .f64 0] #[.float .f64 0, .float .f64 0]
 rw [← hW]
 have K0 := Lib.hid K0
 have K1 := Lib.hid K1
 have K2 := Lib.hid K2
 have K3 := Lib.hid K3
 have K4 := Lib.hid K4
 have HB := Lib.hid hB
 clear hW hB hz
 have D1 := dr W
 refine (C0.out _).mono ?_
 rintro r w2 ⟨rfl, hb⟩
 have D3 := ds D1 hb
 clear D1
 clear hb
 go_wp2_with fail
 refine (C1.out _).mono ?_
 rintro r w4 ⟨rfl, hb⟩
 have D5 := ds D3 hb
 clear D3
 clear hb
 obtain ⟨g6, hg8⟩ : ∃ g, w4.heap.size = g := ⟨_, rfl⟩
 have Y10 := Lib.hid (show w.heap.size < g6 ∧ w.heap.size + 1 < g6 ∧ w.heap.size + 1 + 1 < g6 ∧ w.heap.size + 1 + 1 + 1 < g6 ∧ w.heap.size + 1 + 1 + 1 + 1 < g6 by rw [← hg8]; exact ⟨(kb K0 D5).lt, (kb K1 D5).lt, (kb K2 D5).lt, (kb K3 D5).lt, (kb K4 D5).lt⟩)
 obtain ⟨V7, hV9⟩ : ∃ V, w4.alloc (.cells #[.float .f64 0, .float .f64 0] 24) = V := ⟨_, rfl⟩
 have K11 := ka hV9 K0 D5
 have K12 := ka hV9 K1 D5
 have K13 := ka hV9 K2 D5
 have K14 := ka hV9 K3 D5
 have K15 := ka hV9 K4 D5
 have K16 := kn hV9 hg8
 have HB17 := hba hV9 HB D5
 have D18 := dr V7
 clear K0 K1 K2 K3 K4 HB D5
 have f21 := (kb K16 D18).cellsL 0 [.float .f64 0, .float .f64 0] rfl
 dsimp only [CellsL, al, vl, Nat.reduceAdd] at f21
 have u22 := (kb K16 D18).unfrozen
 obtain ⟨V19, hV20⟩ : ∃ V, setCells V7 (g6) 0 [.float .f64 p1.lo, .float .f64 p1.hi] = V := ⟨_, rfl⟩
 have hv23 := hV20
 simp only [setCells, Nat.reduceAdd] at hv23
 have K24 := kf hV20 K11 D18 (by have := Y10.out; omega)
 have K25 := kf hV20 K12 D18 (by have := Y10.out; omega)
 have K26 := kf hV20 K13 D18 (by have := Y10.out; omega)
 have K27 := kf hV20 K14 D18 (by have := Y10.out; omega)
 have K28 := kf hV20 K15 D18 (by have := Y10.out; omega)
 have K29 := Lib.hid (show Blk V19 (g6) 24 #[.float .f64 p1.lo, .float .f64 p1.hi] from (ks hV20 K16 D18).out)
 have HB30 := hbs hV20 HB17 D18 (by have := Y10.out; omega)
 have D31 := dr V19
 clear K11 K12 K13 K14 K15 K16 HB17 D18
 go_wp2_with fail
 clear hg8 hV9 hV20 f21 u22 hv23
 refine wp_region_held (S := (fun w' => True ∧ CellsL w' (w.heap.size + 1 + 1) 0 [.float .f64 q.lo, .float .f64 q.hi] ∧ CellsL w' (g6) 0 [.float .f64 p1.lo, .float .f64 p1.hi])) (by kernel_rfl) ?_
 change wpAnyH _ _ _ _ _ _ _ _ (World.drew _)
 obtain ⟨wd32, hwd⟩ : ∃ x, x = World.drew V19 := ⟨_, rfl⟩
 rw [← hwd]
 have D33 := Lib.hid (hwd ▸ Below.drew D31.out : Below V19.heap.size V19 wd32)
 clear D31 hwd
 have hS34 : True ∧ CellsL wd32 (w.heap.size + 1 + 1) 0 [.float .f64 q.lo, .float .f64 q.hi] ∧ CellsL wd32 (g6) 0 [.float .f64 p1.lo, .float .f64 p1.hi] := ⟨trivial, (kb K26 D33).cellsL 0 [.float .f64 q.lo, .float .f64 q.hi] rfl, (kb K29 D33).cellsL 0 [.float .f64 p1.lo, .float .f64 p1.hi] rfl⟩
 refine tke 0 (bm 11 1) hS34 ?_
 refine tke 3 (bm 11 9) hS34 ?_
 refine tkq 6 (bm 11 73) hS34 ?_
 have HS38 := Lib.hid (show ∀ w', Below V19.heap.size V19 w' → (True ∧ CellsL w' (w.heap.size + 1 + 1) 0 [.float .f64 q.lo, .float .f64 q.hi] ∧ CellsL w' (g6) 0 [.float .f64 p1.lo, .float .f64 p1.hi]) from fun w' b => ⟨trivial, (K26.out.below b K26.out.lt).cellsL 0 [.float .f64 q.lo, .float .f64 q.hi] rfl, (K29.out.below b K29.out.lt).cellsL 0 [.float .f64 p1.lo, .float .f64 p1.hi] rfl⟩)
 refine wpAnyH_sets2 (N := 11) (stop := 1023) (F := 1) (m := 73) (R := [1, 2, 4, 5, 7, 8, 9]) (M := [73, 75, 585, 79, 587, 95, 591, 127, 607, 255, 639, 511, 767, 1023]) (fun i => if i = 1 then 1 else if i = 2 then 2 else if i = 4 then 12 else if i = 5 then 20 else if i = 7 then 96 else if i = 8 then 130 else if i = 9 then 0 else 0) (fun a0 m a w9 => ∃ (v1 v2 v4 v5 v7 v8 p9_ : Value) (g9_ : Nat), a = (((((((a0.put (some 20) v1).put (some 21) v2).put (some 23) v4).put (some 24) v5).put (some 26) v7).put (some 27) v8).put (some 10) p9_) ∧ Below V19.heap.size V19 w9 ∧ (m.testBit 1 = true → v1 = Value.agg #[.float .f64 p2.lo, .float .f64 p2.hi]) ∧ (m.testBit 2 = true → v2 = Value.agg #[.float .f64 p3.lo, .float .f64 p3.hi]) ∧ (m.testBit 4 = true → v4 = Value.agg #[.float .f64 p4.lo, .float .f64 p4.hi]) ∧ (m.testBit 5 = true → v5 = Value.agg #[.float .f64 p5.lo, .float .f64 p5.hi]) ∧ (m.testBit 7 = true → v7 = Value.agg #[.float .f64 p6.lo, .float .f64 p6.hi]) ∧ (m.testBit 8 = true → v8 = Value.agg #[.float .f64 p7.lo, .float .f64 p7.hi]) ∧ (m.testBit 9 = true → p9_ = .pointer (some ⟨g9_, 0, none⟩) ∧ Blk w9 g9_ 24 #[.float .f64 0, .float .f64 0] ∧ V19.heap.size ≤ g9_)) (by kernel_rfl) (by kernel_rfl) (by kernel_rfl) (by kernel_rfl) ?st2 ?sp2 ?re2
 case st2 =>
   exact ⟨undef, undef, undef, undef, undef, undef, undef, 0, by go_simp, D33.out, fun h => absurd h (by decide), fun h => absurd h (by decide), fun h => absurd h (by decide), fun h => absurd h (by decide), fun h => absurd h (by decide), fun h => absurd h (by decide), fun h => absurd h (by decide)⟩
 case sp2 =>
   intro m a' w9 i hi hm hd hJ
   obtain ⟨v1, v2, v4, v5, v7, v8, p9_, g9_, rfl, hb0, cl1, cl2, cl4, cl5, cl7, cl8, ql9⟩ := hJ
   have CL1 := Lib.hid cl1
   have CL2 := Lib.hid cl2
   have CL4 := Lib.hid cl4
   have CL5 := Lib.hid cl5
   have CL7 := Lib.hid cl7
   have CL8 := Lib.hid cl8
   have QL9 := Lib.hid ql9
   have HB0 := Lib.hid hb0
   clear cl1 cl2 cl4 cl5 cl7 cl8 ql9 hb0 hS34
   simp only [List.mem_cons, List.not_mem_nil, or_false] at hi
   rcases hi with rfl | rfl | rfl | rfl | rfl | rfl | rfl
   · refine wpOp_at rfl (by kernel_rfl) (fun K hK => ?_)
     have hd := fun j => @tb_of _ _ j hd
     go_simp
     go_at_call 69
     refine (C2.out _).mono ?_
     rintro r w10 ⟨rfl, hb⟩
     dsimp only
     have hb1 := below_step HB0.out hb
     exact hK _ _ ⟨HS38.out _ hb1, _, v2, v4, v5, v7, v8, p9_, g9_, by go_simp, hb1, fun _ => rfl, fun h => CL2.out (by rwa [tb_ne (by decide)] at h), fun h => CL4.out (by rwa [tb_ne (by decide)] at h), fun h => CL5.out (by rwa [tb_ne (by decide)] at h), fun h => CL7.out (by rwa [tb_ne (by decide)] at h), fun h => CL8.out (by rwa [tb_ne (by decide)] at h), fun h => ⟨(QL9.out (by rwa [tb_ne (by decide)] at h)).1, (QL9.out (by rwa [tb_ne (by decide)] at h)).2.1.below hb (QL9.out (by rwa [tb_ne (by decide)] at h)).2.1.lt, (QL9.out (by rwa [tb_ne (by decide)] at h)).2.2⟩⟩
   · refine wpOp_at rfl (by kernel_rfl) (fun K hK => ?_)
     have hd := fun j => @tb_of _ _ j hd
     obtain rfl := CL1.out (hd _ (by decide))
     go_simp
     go_at_call 66
     refine (C3.out _).mono ?_
     rintro r w10 ⟨rfl, hb⟩
     dsimp only
     have hb1 := below_step HB0.out hb
     exact hK _ _ ⟨HS38.out _ hb1, _, _, v4, v5, v7, v8, p9_, g9_, by go_simp, hb1, fun _ => rfl, fun _ => rfl, fun h => CL4.out (by rwa [tb_ne (by decide)] at h), fun h => CL5.out (by rwa [tb_ne (by decide)] at h), fun h => CL7.out (by rwa [tb_ne (by decide)] at h), fun h => CL8.out (by rwa [tb_ne (by decide)] at h), fun h => ⟨(QL9.out (by rwa [tb_ne (by decide)] at h)).1, (QL9.out (by rwa [tb_ne (by decide)] at h)).2.1.below hb (QL9.out (by rwa [tb_ne (by decide)] at h)).2.1.lt, (QL9.out (by rwa [tb_ne (by decide)] at h)).2.2⟩⟩
   · refine wpOp_at rfl (by kernel_rfl) (fun K hK => ?_)
     have hd := fun j => @tb_of _ _ j hd
     obtain rfl := CL2.out (hd _ (by decide))
     go_simp
     go_at_call 69
     refine (C4.out _).mono ?_
     rintro r w10 ⟨rfl, hb⟩
     dsimp only
     have hb1 := below_step HB0.out hb
     exact hK _ _ ⟨HS38.out _ hb1, v1, _, _, v5, v7, v8, p9_, g9_, by go_simp, hb1, fun h => CL1.out (by rwa [tb_ne (by decide)] at h), fun _ => rfl, fun _ => rfl, fun h => CL5.out (by rwa [tb_ne (by decide)] at h), fun h => CL7.out (by rwa [tb_ne (by decide)] at h), fun h => CL8.out (by rwa [tb_ne (by decide)] at h), fun h => ⟨(QL9.out (by rwa [tb_ne (by decide)] at h)).1, (QL9.out (by rwa [tb_ne (by decide)] at h)).2.1.below hb (QL9.out (by rwa [tb_ne (by decide)] at h)).2.1.lt, (QL9.out (by rwa [tb_ne (by decide)] at h)).2.2⟩⟩
   · refine wpOp_at rfl (by kernel_rfl) (fun K hK => ?_)
     have hd := fun j => @tb_of _ _ j hd
     obtain rfl := CL2.out (hd _ (by decide))
     obtain rfl := CL4.out (hd _ (by decide))
     go_simp
     go_at_call 83
     refine (C5.out _).mono ?_
     rintro r w10 ⟨rfl, hb⟩
     dsimp only
     have hb1 := below_step HB0.out hb
     exact hK _ _ ⟨HS38.out _ hb1, v1, _, _, _, v7, v8, p9_, g9_, by go_simp, hb1, fun h => CL1.out (by rwa [tb_ne (by decide)] at h), fun _ => rfl, fun _ => rfl, fun _ => rfl, fun h => CL7.out (by rwa [tb_ne (by decide)] at h), fun h => CL8.out (by rwa [tb_ne (by decide)] at h), fun h => ⟨(QL9.out (by rwa [tb_ne (by decide)] at h)).1, (QL9.out (by rwa [tb_ne (by decide)] at h)).2.1.below hb (QL9.out (by rwa [tb_ne (by decide)] at h)).2.1.lt, (QL9.out (by rwa [tb_ne (by decide)] at h)).2.2⟩⟩
   · refine wpOp_at rfl (by kernel_rfl) (fun K hK => ?_)
     have hd := fun j => @tb_of _ _ j hd
     obtain rfl := CL5.out (hd _ (by decide))
     go_simp
     go_at_call 77
     refine (C6.out _).mono ?_
     rintro r w10 ⟨rfl, hb⟩
     dsimp only
     have hb1 := below_step HB0.out hb
     exact hK _ _ ⟨HS38.out _ hb1, v1, v2, v4, _, _, v8, p9_, g9_, by go_simp, hb1, fun h => CL1.out (by rwa [tb_ne (by decide)] at h), fun h => CL2.out (by rwa [tb_ne (by decide)] at h), fun h => CL4.out (by rwa [tb_ne (by decide)] at h), fun _ => rfl, fun _ => rfl, fun h => CL8.out (by rwa [tb_ne (by decide)] at h), fun h => ⟨(QL9.out (by rwa [tb_ne (by decide)] at h)).1, (QL9.out (by rwa [tb_ne (by decide)] at h)).2.1.below hb (QL9.out (by rwa [tb_ne (by decide)] at h)).2.1.lt, (QL9.out (by rwa [tb_ne (by decide)] at h)).2.2⟩⟩
   · refine wpOp_at rfl (by kernel_rfl) (fun K hK => ?_)
     have hd := fun j => @tb_of _ _ j hd
     obtain rfl := CL1.out (hd _ (by decide))
     obtain rfl := CL7.out (hd _ (by decide))
     go_simp
     go_at_call 68
     refine (C7.out _).mono ?_
     rintro r w10 ⟨rfl, hb⟩
     dsimp only
     have hb1 := below_step HB0.out hb
     exact hK _ _ ⟨HS38.out _ hb1, _, v2, v4, v5, _, _, p9_, g9_, by go_simp, hb1, fun _ => rfl, fun h => CL2.out (by rwa [tb_ne (by decide)] at h), fun h => CL4.out (by rwa [tb_ne (by decide)] at h), fun h => CL5.out (by rwa [tb_ne (by decide)] at h), fun _ => rfl, fun _ => rfl, fun h => ⟨(QL9.out (by rwa [tb_ne (by decide)] at h)).1, (QL9.out (by rwa [tb_ne (by decide)] at h)).2.1.below hb (QL9.out (by rwa [tb_ne (by decide)] at h)).2.1.lt, (QL9.out (by rwa [tb_ne (by decide)] at h)).2.2⟩⟩
   · refine wpOp_at rfl (by kernel_rfl) (fun K hK => ?_)
     have hd := fun j => @tb_of _ _ j hd
     go_simp
     have hb1 := below_more HB0.out (.cells #[.float .f64 0, .float .f64 0] 24)
     exact hK _ _ ⟨HS38.out _ hb1, v1, v2, v4, v5, v7, v8, .pointer (some ⟨w9.heap.size, 0, none⟩), w9.heap.size, by go_simp, hb1, fun h => CL1.out (by rwa [tb_ne (by decide)] at h), fun h => CL2.out (by rwa [tb_ne (by decide)] at h), fun h => CL4.out (by rwa [tb_ne (by decide)] at h), fun h => CL5.out (by rwa [tb_ne (by decide)] at h), fun h => CL7.out (by rwa [tb_ne (by decide)] at h), fun h => CL8.out (by rwa [tb_ne (by decide)] at h), fun _ => ⟨rfl, Blk.new_at _ _ _ rfl, HB0.out.size⟩⟩
 clear hS34 D33 HS38
 intro a' W54 hJ
 obtain ⟨v1, v2, v4, v5, v7, v8, p9_, g55, rfl, hb0, cl1, cl2, cl4, cl5, cl7, cl8, ql9⟩ := hJ
 obtain rfl := cl1 (by decide)
 obtain rfl := cl2 (by decide)
 obtain rfl := cl4 (by decide)
 obtain rfl := cl5 (by decide)
 obtain rfl := cl7 (by decide)
 obtain rfl := cl8 (by decide)
 obtain ⟨rfl, kk9, ll9⟩ := ql9 (by decide)
 have D41 := Lib.hid hb0
 clear hb0
 refine wpAnyH_frame (a' := ?frq40) ?feq40 ?fgq40
 case feq40 => (go_simp; try with_reducible rfl)
 have K43 := Lib.hid ((kb K24 D41) : Blk W54 (w.heap.size) 26 (vc n))
 have K44 := Lib.hid ((kb K25 D41) : Blk W54 (w.heap.size + 1) 26 (vc d))
 have K45 := Lib.hid ((kb K26 D41) : Blk W54 (w.heap.size + 1 + 1) 24 #[.float .f64 q.lo, .float .f64 q.hi])
 have K46 := Lib.hid ((kb K27 D41) : Blk W54 (w.heap.size + 1 + 1 + 1) 26 #[.float .f64 0, .float .f64 0, .float .f64 0, .float .f64 0, .float .f64 0, .float .f64 0])
 have K47 := Lib.hid ((kb K28 D41) : Blk W54 (w.heap.size + 1 + 1 + 1 + 1) 24 #[.float .f64 0, .float .f64 0])
 have K48 := Lib.hid ((kb K29 D41) : Blk W54 (g6) 24 #[.float .f64 p1.lo, .float .f64 p1.hi])
 have K49 := Lib.hid kk9
 clear kk9
 have HB52 := Lib.hid (below_step HB30.out D41.out)
 have Y51 := Lib.hid (show w.heap.size ≤ g55 ∧ w.heap.size < g55 ∧ w.heap.size + 1 < g55 ∧ w.heap.size + 1 + 1 < g55 ∧ w.heap.size + 1 + 1 + 1 < g55 ∧ w.heap.size + 1 + 1 + 1 + 1 < g55 ∧ g6 < g55 from ⟨Nat.le_trans HB30.out.size ll9, Nat.lt_of_lt_of_le K24.out.lt ll9, Nat.lt_of_lt_of_le K25.out.lt ll9, Nat.lt_of_lt_of_le K26.out.lt ll9, Nat.lt_of_lt_of_le K27.out.lt ll9, Nat.lt_of_lt_of_le K28.out.lt ll9, Nat.lt_of_lt_of_le K29.out.lt ll9⟩)
 have Y53 := Lib.hid (And.intro Y10.out Y51.out)
 clear Y10 Y51
 clear K24 K25 K26 K27 K28 K29 ll9 HB30
 have D56 := Lib.hid (Below.refl W54.heap.size W54)
 clear D41
 have hS57 : True ∧ CellsL W54 (w.heap.size + 1 + 1) 0 [.float .f64 q.lo, .float .f64 q.hi] ∧ CellsL W54 (g6) 0 [.float .f64 p1.lo, .float .f64 p1.hi] := ⟨trivial, (kb K45 D56).cellsL 0 [.float .f64 q.lo, .float .f64 q.hi] rfl, (kb K48 D56).cellsL 0 [.float .f64 p1.lo, .float .f64 p1.hi] rfl⟩
 refine wpAnyH_oneM (i := 10) (l' := bm 11 2047) rfl (by kernel_rfl) (by kernel_rfl) (by kernel_rfl) (fun K hK => ?_)
 have f60 := (kb K49 D56).cellsL 0 [.float .f64 0, .float .f64 0] rfl
 dsimp only [CellsL, al, vl, Nat.reduceAdd] at f60
 have u61 := (kb K49 D56).unfrozen
 obtain ⟨V58, hV59⟩ : ∃ V, setCells W54 (g55) 0 [.float .f64 p7.lo, .float .f64 p7.hi] = V := ⟨_, rfl⟩
 have hv62 := hV59
 simp only [setCells, Nat.reduceAdd] at hv62
 have K63 := kf hV59 K43 D56 (by have := Y53.out; omega)
 have K64 := kf hV59 K44 D56 (by have := Y53.out; omega)
 have K65 := kf hV59 K45 D56 (by have := Y53.out; omega)
 have K66 := kf hV59 K46 D56 (by have := Y53.out; omega)
 have K67 := kf hV59 K47 D56 (by have := Y53.out; omega)
 have K68 := kf hV59 K48 D56 (by have := Y53.out; omega)
 have K69 := Lib.hid (show Blk V58 (g55) 24 #[.float .f64 p7.lo, .float .f64 p7.hi] from (ks hV59 K49 D56).out)
 have HB70 := hbs hV59 HB52 D56 (by have := Y53.out; omega)
 have D71 := dr V58
 clear K43 K44 K45 K46 K47 K48 K49 HB52 D56
 go_simp
 clear hV59 f60 u61 hv62
 have hS72 : True ∧ CellsL V58 (w.heap.size + 1 + 1) 0 [.float .f64 q.lo, .float .f64 q.hi] ∧ CellsL V58 (g6) 0 [.float .f64 p1.lo, .float .f64 p1.hi] := ⟨trivial, (kb K65 D71).cellsL 0 [.float .f64 q.lo, .float .f64 q.hi] rfl, (kb K68 D71).cellsL 0 [.float .f64 p1.lo, .float .f64 p1.hi] rfl⟩
 refine hK _ _ hS72 ?_
 clear hK K hS57
 refine wpAnyH_done (by kernel_rfl) ?_ _
 clear hS72
 go_wp2_with fail
 refine wp_region_held (S := (fun w' => True ∧ CellsL w' (g55) 0 [.float .f64 p7.lo, .float .f64 p7.hi])) (by kernel_rfl) ?_
 change wpAnyH _ _ _ _ _ _ _ _ (World.drew _)
 obtain ⟨wd73, hwd⟩ : ∃ x, x = World.drew V58 := ⟨_, rfl⟩
 rw [← hwd]
 have D74 := Lib.hid (hwd ▸ Below.drew D71.out : Below V58.heap.size V58 wd73)
 clear D71 hwd
 have hS75 : True ∧ CellsL wd73 (g55) 0 [.float .f64 p7.lo, .float .f64 p7.hi] := ⟨trivial, (kb K69 D74).cellsL 0 [.float .f64 p7.lo, .float .f64 p7.hi] rfl⟩
 refine tke 1 (bm 5 2) hS75 ?_
 have HS77 := Lib.hid (show ∀ w', Below V58.heap.size V58 w' → (True ∧ CellsL w' (g55) 0 [.float .f64 p7.lo, .float .f64 p7.hi]) from fun w' b => ⟨trivial, (K69.out.below b K69.out.lt).cellsL 0 [.float .f64 p7.lo, .float .f64 p7.hi] rfl⟩)
 refine wpAnyH_sets2 (N := 5) (stop := 15) (F := 1) (m := 2) (R := [0, 2, 3]) (M := [2, 3, 10, 7, 11, 15]) (fun i => if i = 0 then 0 else if i = 2 then 3 else if i = 3 then 0 else 0) (fun a0 m a w9 => ∃ (v0 v2 p3_ : Value) (g3_ : Nat), a = (((a0.put (some 28) v0).put (some 30) v2).put (some 11) p3_) ∧ Below V58.heap.size V58 w9 ∧ (m.testBit 0 = true → v0 = Value.agg #[.float .f64 p3.lo, .float .f64 p3.hi]) ∧ (m.testBit 2 = true → v2 = Value.agg #[.float .f64 p9.lo, .float .f64 p9.hi]) ∧ (m.testBit 3 = true → p3_ = .pointer (some ⟨g3_, 0, none⟩) ∧ Blk w9 g3_ 24 #[.float .f64 0, .float .f64 0] ∧ V58.heap.size ≤ g3_)) (by kernel_rfl) (by kernel_rfl) (by kernel_rfl) (by kernel_rfl) ?st3 ?sp3 ?re3
 case st3 =>
   exact ⟨undef, undef, undef, 0, by go_simp, D74.out, fun h => absurd h (by decide), fun h => absurd h (by decide), fun h => absurd h (by decide)⟩
 case sp3 =>
   intro m a' w9 i hi hm hd hJ
   obtain ⟨v0, v2, p3_, g3_, rfl, hb0, cl0, cl2, ql3⟩ := hJ
   have CL0 := Lib.hid cl0
   have CL2 := Lib.hid cl2
   have QL3 := Lib.hid ql3
   have HB0 := Lib.hid hb0
   clear cl0 cl2 ql3 hb0 hS75
   simp only [List.mem_cons, List.not_mem_nil, or_false] at hi
   rcases hi with rfl | rfl | rfl
   · refine wpOp_at rfl (by kernel_rfl) (fun K hK => ?_)
     have hd := fun j => @tb_of _ _ j hd
     go_simp
     go_at_call 66
     refine (C8.out _).mono ?_
     rintro r w10 ⟨rfl, hb⟩
     dsimp only
     have hb1 := below_step HB0.out hb
     exact hK _ _ ⟨HS77.out _ hb1, _, v2, p3_, g3_, by go_simp, hb1, fun _ => rfl, fun h => CL2.out (by rwa [tb_ne (by decide)] at h), fun h => ⟨(QL3.out (by rwa [tb_ne (by decide)] at h)).1, (QL3.out (by rwa [tb_ne (by decide)] at h)).2.1.below hb (QL3.out (by rwa [tb_ne (by decide)] at h)).2.1.lt, (QL3.out (by rwa [tb_ne (by decide)] at h)).2.2⟩⟩
   · refine wpOp_at rfl (by kernel_rfl) (fun K hK => ?_)
     have hd := fun j => @tb_of _ _ j hd
     obtain rfl := CL0.out (hd _ (by decide))
     go_simp
     go_at_call 83
     refine (C9.out _).mono ?_
     rintro r w10 ⟨rfl, hb⟩
     dsimp only
     have hb1 := below_step HB0.out hb
     exact hK _ _ ⟨HS77.out _ hb1, _, _, p3_, g3_, by go_simp, hb1, fun _ => rfl, fun _ => rfl, fun h => ⟨(QL3.out (by rwa [tb_ne (by decide)] at h)).1, (QL3.out (by rwa [tb_ne (by decide)] at h)).2.1.below hb (QL3.out (by rwa [tb_ne (by decide)] at h)).2.1.lt, (QL3.out (by rwa [tb_ne (by decide)] at h)).2.2⟩⟩
   · refine wpOp_at rfl (by kernel_rfl) (fun K hK => ?_)
     have hd := fun j => @tb_of _ _ j hd
     go_simp
     have hb1 := below_more HB0.out (.cells #[.float .f64 0, .float .f64 0] 24)
     exact hK _ _ ⟨HS77.out _ hb1, v0, v2, .pointer (some ⟨w9.heap.size, 0, none⟩), w9.heap.size, by go_simp, hb1, fun h => CL0.out (by rwa [tb_ne (by decide)] at h), fun h => CL2.out (by rwa [tb_ne (by decide)] at h), fun _ => ⟨rfl, Blk.new_at _ _ _ rfl, HB0.out.size⟩⟩
 clear hS75 D74 HS77
 intro a' W94 hJ
 obtain ⟨v0, v2, p3_, g95, rfl, hb0, cl0, cl2, ql3⟩ := hJ
 obtain rfl := cl0 (by decide)
 obtain rfl := cl2 (by decide)
 obtain ⟨rfl, kk3, ll3⟩ := ql3 (by decide)
 have D80 := Lib.hid hb0
 clear hb0
 refine wpAnyH_frame (a' := ?frq79) ?feq79 ?fgq79
 case feq79 => (go_simp; try with_reducible rfl)
 have K82 := Lib.hid ((kb K63 D80) : Blk W94 (w.heap.size) 26 (vc n))
 have K83 := Lib.hid ((kb K64 D80) : Blk W94 (w.heap.size + 1) 26 (vc d))
 have K84 := Lib.hid ((kb K65 D80) : Blk W94 (w.heap.size + 1 + 1) 24 #[.float .f64 q.lo, .float .f64 q.hi])
 have K85 := Lib.hid ((kb K66 D80) : Blk W94 (w.heap.size + 1 + 1 + 1) 26 #[.float .f64 0, .float .f64 0, .float .f64 0, .float .f64 0, .float .f64 0, .float .f64 0])
 have K86 := Lib.hid ((kb K67 D80) : Blk W94 (w.heap.size + 1 + 1 + 1 + 1) 24 #[.float .f64 0, .float .f64 0])
 have K87 := Lib.hid ((kb K68 D80) : Blk W94 (g6) 24 #[.float .f64 p1.lo, .float .f64 p1.hi])
 have K88 := Lib.hid ((kb K69 D80) : Blk W94 (g55) 24 #[.float .f64 p7.lo, .float .f64 p7.hi])
 have K89 := Lib.hid kk3
 clear kk3
 have HB92 := Lib.hid (below_step HB70.out D80.out)
 have Y91 := Lib.hid (show w.heap.size ≤ g95 ∧ w.heap.size < g95 ∧ w.heap.size + 1 < g95 ∧ w.heap.size + 1 + 1 < g95 ∧ w.heap.size + 1 + 1 + 1 < g95 ∧ w.heap.size + 1 + 1 + 1 + 1 < g95 ∧ g6 < g95 ∧ g55 < g95 from ⟨Nat.le_trans HB70.out.size ll3, Nat.lt_of_lt_of_le K63.out.lt ll3, Nat.lt_of_lt_of_le K64.out.lt ll3, Nat.lt_of_lt_of_le K65.out.lt ll3, Nat.lt_of_lt_of_le K66.out.lt ll3, Nat.lt_of_lt_of_le K67.out.lt ll3, Nat.lt_of_lt_of_le K68.out.lt ll3, Nat.lt_of_lt_of_le K69.out.lt ll3⟩)
 have Y93 := Lib.hid (And.intro Y53.out Y91.out)
 clear Y53 Y91
 clear K63 K64 K65 K66 K67 K68 K69 ll3 HB70
 have D96 := Lib.hid (Below.refl W94.heap.size W94)
 clear D80
 have hS97 : True ∧ CellsL W94 (g55) 0 [.float .f64 p7.lo, .float .f64 p7.hi] := ⟨trivial, (kb K88 D96).cellsL 0 [.float .f64 p7.lo, .float .f64 p7.hi] rfl⟩
 refine wpAnyH_oneM (i := 4) (l' := bm 5 31) rfl (by kernel_rfl) (by kernel_rfl) (by kernel_rfl) (fun K hK => ?_)
 have f100 := (kb K89 D96).cellsL 0 [.float .f64 0, .float .f64 0] rfl
 dsimp only [CellsL, al, vl, Nat.reduceAdd] at f100
 have u101 := (kb K89 D96).unfrozen
 obtain ⟨V98, hV99⟩ : ∃ V, setCells W94 (g95) 0 [.float .f64 p9.lo, .float .f64 p9.hi] = V := ⟨_, rfl⟩
 have hv102 := hV99
 simp only [setCells, Nat.reduceAdd] at hv102
 have K103 := kf hV99 K82 D96 (by have := Y93.out; omega)
 have K104 := kf hV99 K83 D96 (by have := Y93.out; omega)
 have K105 := kf hV99 K84 D96 (by have := Y93.out; omega)
 have K106 := kf hV99 K85 D96 (by have := Y93.out; omega)
 have K107 := kf hV99 K86 D96 (by have := Y93.out; omega)
 have K108 := kf hV99 K87 D96 (by have := Y93.out; omega)
 have K109 := kf hV99 K88 D96 (by have := Y93.out; omega)
 have K110 := Lib.hid (show Blk V98 (g95) 24 #[.float .f64 p9.lo, .float .f64 p9.hi] from (ks hV99 K89 D96).out)
 have HB111 := hbs hV99 HB92 D96 (by have := Y93.out; omega)
 have D112 := dr V98
 clear K82 K83 K84 K85 K86 K87 K88 K89 HB92 D96
 go_simp
 clear hV99 f100 u101 hv102
 have hS113 : True ∧ CellsL V98 (g55) 0 [.float .f64 p7.lo, .float .f64 p7.hi] := ⟨trivial, (kb K109 D112).cellsL 0 [.float .f64 p7.lo, .float .f64 p7.hi] rfl⟩
 refine hK _ _ hS113 ?_
 clear hK K hS97
 refine wpAnyH_done (by kernel_rfl) ?_ _
 clear hS113
 have hq114 := (kb K110 D112).cellsL 0 [.float .f64 p9.lo, .float .f64 p9.hi] rfl
 dsimp only [CellsL, al, vl, Nat.reduceAdd] at hq114
 go_wp2_with fail
 clear hq114
 refine (C10.out _).mono ?_
 rintro r w115 ⟨rfl, hb⟩
 have D116 := ds D112 hb
 clear D112
 clear hb
 have f119 := (kb K106 D116)
 obtain ⟨V117, hV118⟩ : ∃ V, World.setRow w115 (w.heap.size + 1 + 1 + 1) #[.float .f64 0, .float .f64 0, .float .f64 0, .float .f64 0, .float .f64 0, .float .f64 0] = V := ⟨_, rfl⟩
 have K120 := kfr hV118 K103 D116 (by have := Y93.out; omega)
 have K121 := kfr hV118 K104 D116 (by have := Y93.out; omega)
 have K122 := kfr hV118 K105 D116 (by have := Y93.out; omega)
 have K123 := ksr hV118 K106 D116
 have K124 := kfr hV118 K107 D116 (by have := Y93.out; omega)
 have K125 := kfr hV118 K108 D116 (by have := Y93.out; omega)
 have K126 := kfr hV118 K109 D116 (by have := Y93.out; omega)
 have K127 := kfr hV118 K110 D116 (by have := Y93.out; omega)
 have HB128 := hbr hV118 HB111 D116 (by have := Y93.out; omega)
 have D129 := dr V117
 clear K103 K104 K105 K106 K107 K108 K109 K110 HB111 D116
 have f132 := (kb K124 D129).cellsL 0 [.float .f64 0, .float .f64 0] rfl
 dsimp only [CellsL, al, vl, Nat.reduceAdd] at f132
 have u133 := (kb K124 D129).unfrozen
 obtain ⟨V130, hV131⟩ : ∃ V, setCells V117 (w.heap.size + 1 + 1 + 1 + 1) 0 [.float .f64 0, .float .f64 0] = V := ⟨_, rfl⟩
 have hv134 := hV131
 simp only [setCells, Nat.reduceAdd] at hv134
 have K135 := kf hV131 K120 D129 (by have := Y93.out; omega)
 have K136 := kf hV131 K121 D129 (by have := Y93.out; omega)
 have K137 := kf hV131 K122 D129 (by have := Y93.out; omega)
 have K138 := kf hV131 K123 D129 (by have := Y93.out; omega)
 have K139 := Lib.hid (show Blk V130 (w.heap.size + 1 + 1 + 1 + 1) 24 #[.float .f64 0, .float .f64 0] from (ks hV131 K124 D129).out)
 have K140 := kf hV131 K125 D129 (by have := Y93.out; omega)
 have K141 := kf hV131 K126 D129 (by have := Y93.out; omega)
 have K142 := kf hV131 K127 D129 (by have := Y93.out; omega)
 have HB143 := hbs hV131 HB128 D129 (by have := Y93.out; omega)
 have D144 := dr V130
 clear K120 K121 K122 K123 K124 K125 K126 K127 HB128 D129
 go_wp2_with (refine wpList_store_row rfl 26 _ _ rfl (w.heap.size + 1 + 1 + 1) #[.float .f64 0, .float .f64 0, .float .f64 0, .float .f64 0, .float .f64 0, .float .f64 0] rfl rfl _ _ f119 (by rw [info_V3]; rfl) rfl (by kernel_rfl) ?_; rw [hV118])
 clear hV118 f119 hV131 f132 u133 hv134
 (try simp only [Exit.inBlock, Exit.then])
 exact bodyPost_ret (res_cct rfl _ _ (w.heap.size + 1 + 1 + 1) #[.float .f64 0, .float .f64 0, .float .f64 0, .float .f64 0, .float .f64 0, .float .f64 0] (w.heap.size + 1 + 1 + 1 + 1) #[.float .f64 0, .float .f64 0] rfl (kb K138 D144) (by rw [info_V3]; rfl) Tryz.underlying26 rfl rfl (kb K139 D144) (by rw [info_Span]; rfl) Tryz.underlying24 rfl) rfl ⟨rfl, below_step HB143.out D144.out⟩
theorem fresnel_any (i o q : Sp) (w : World) : Calls Tryz.prog 37 #[Value.agg #[.float .f64 i.lo, .float .f64 i.hi], Value.agg #[.float .f64 o.lo, .float .f64 o.hi], Value.agg #[.float .f64 q.lo, .float .f64 q.hi]] w fun r w' => r = .returned (.agg #[.float .f64 (bdFr i o q).lo, .float .f64 (bdFr i o q).hi]) ∧ Below w.heap.size w w' := by
 have C0 := Lib.hid (fun w => mul_sp q i w)
 obtain ⟨p0, hp0⟩ : ∃ z_, mulS q i = z_ := ⟨_, rfl⟩
 rw [hp0] at C0
 have C1 := Lib.hid (fun w => sub_sp p0 o w)
 obtain ⟨p1, hp1⟩ : ∃ z_, subS p0 o = z_ := ⟨_, rfl⟩
 rw [hp1] at C1
 have C2 := Lib.hid (fun w => mul_sp q i w)
 rw [hp0] at C2
 have C3 := Lib.hid (fun w => add_sp p0 o w)
 obtain ⟨p3, hp3⟩ : ∃ z_, addS p0 o = z_ := ⟨_, rfl⟩
 rw [hp3] at C3
 have C4 := Lib.hid (fun w => div_sp p1 p3 w)
 obtain ⟨p4, hp4⟩ : ∃ z_, divS p1 p3 = z_ := ⟨_, rfl⟩
 rw [hp4] at C4
 have C5 := Lib.hid (fun w => mul_sp q o w)
 obtain ⟨p5, hp5⟩ : ∃ z_, mulS q o = z_ := ⟨_, rfl⟩
 rw [hp5] at C5
 have C6 := Lib.hid (fun w => sub_sp i p5 w)
 obtain ⟨p6, hp6⟩ : ∃ z_, subS i p5 = z_ := ⟨_, rfl⟩
 rw [hp6] at C6
 have C7 := Lib.hid (fun w => mul_sp q o w)
 rw [hp5] at C7
 have C8 := Lib.hid (fun w => add_sp i p5 w)
 obtain ⟨p8, hp8⟩ : ∃ z_, addS i p5 = z_ := ⟨_, rfl⟩
 rw [hp8] at C8
 have C9 := Lib.hid (fun w => div_sp p6 p8 w)
 obtain ⟨p9, hp9⟩ : ∃ z_, divS p6 p8 = z_ := ⟨_, rfl⟩
 rw [hp9] at C9
 have C10 := Lib.hid (fun w => sqr_sp p4 w)
 obtain ⟨p10, hp10⟩ : ∃ z_, sqrS p4 = z_ := ⟨_, rfl⟩
 rw [hp10] at C10
 have C11 := Lib.hid (fun w => sqr_sp p9 w)
 obtain ⟨p11, hp11⟩ : ∃ z_, sqrS p9 = z_ := ⟨_, rfl⟩
 rw [hp11] at C11
 have C12 := Lib.hid (fun w => add_sp p10 p11 w)
 obtain ⟨p12, hp12⟩ : ∃ z_, addS p10 p11 = z_ := ⟨_, rfl⟩
 rw [hp12] at C12
 have C13 := Lib.hid (fun w => of_sp 4602678819172646912 (by decide) w)
 obtain ⟨p13, hp13⟩ : ∃ z_, ofS 4602678819172646912 = z_ := ⟨_, rfl⟩
 rw [hp13] at C13
 have C14 := Lib.hid (fun w => mul_sp p12 p13 w)
 obtain ⟨p14, hp14⟩ : ∃ z_, mulS p12 p13 = z_ := ⟨_, rfl⟩
 rw [hp14] at C14
 have hT : bdFr i o q = p14 := by
   subst hp0 hp1 hp3 hp4 hp5 hp6 hp8 hp9 hp10 hp11 hp12 hp13 hp14; rfl
 rw [hT]
 clear hT
 clear hp0 hp1 hp3 hp4 hp5 hp6 hp8 hp9 hp10 hp11 hp12 hp13 hp14
 go_enter Tryz.func37, Tryz.ntmps37
 go_wp2_with fail
 obtain ⟨W, hW, K0, K1, K2, K3, hB, hz⟩ := bx4 w 24 24 24 24 #[.float .f64 i.lo, .float .f64 i.hi] #[.float .f64 o.lo, .float .f64 o.hi] #[.float .f64 q.lo, .float .f64 q.hi] #[.float .f64 0, .float .f64 0]
 rw [← hW]
 have K0 := Lib.hid K0
 have K1 := Lib.hid K1
 have K2 := Lib.hid K2
 have K3 := Lib.hid K3
 have HB := Lib.hid hB
 clear hW hB hz
 have D1 := dr W
 refine wp_region_held (S := (fun w' => True ∧ CellsL w' (w.heap.size) 0 [.float .f64 i.lo, .float .f64 i.hi] ∧ CellsL w' (w.heap.size + 1) 0 [.float .f64 o.lo, .float .f64 o.hi] ∧ CellsL w' (w.heap.size + 1 + 1) 0 [.float .f64 q.lo, .float .f64 q.hi])) (by kernel_rfl) ?_
 change wpAnyH _ _ _ _ _ _ _ _ (World.drew _)
 obtain ⟨wd2, hwd⟩ : ∃ x, x = World.drew W := ⟨_, rfl⟩
 rw [← hwd]
 have D3 := Lib.hid (hwd ▸ Below.drew D1.out : Below W.heap.size W wd2)
 clear D1 hwd
 have hS4 : True ∧ CellsL wd2 (w.heap.size) 0 [.float .f64 i.lo, .float .f64 i.hi] ∧ CellsL wd2 (w.heap.size + 1) 0 [.float .f64 o.lo, .float .f64 o.hi] ∧ CellsL wd2 (w.heap.size + 1 + 1) 0 [.float .f64 q.lo, .float .f64 q.hi] := ⟨trivial, (kb K0 D3).cellsL 0 [.float .f64 i.lo, .float .f64 i.hi] rfl, (kb K1 D3).cellsL 0 [.float .f64 o.lo, .float .f64 o.hi] rfl, (kb K2 D3).cellsL 0 [.float .f64 q.lo, .float .f64 q.hi] rfl⟩
 refine tke 0 (bm 13 1) hS4 ?_
 refine tke 1 (bm 13 3) hS4 ?_
 refine tke 3 (bm 13 11) hS4 ?_
 refine tke 5 (bm 13 43) hS4 ?_
 refine tke 6 (bm 13 107) hS4 ?_
 refine tke 8 (bm 13 363) hS4 ?_
 have HS11 := Lib.hid (show ∀ w', Below W.heap.size W w' → (True ∧ CellsL w' (w.heap.size) 0 [.float .f64 i.lo, .float .f64 i.hi] ∧ CellsL w' (w.heap.size + 1) 0 [.float .f64 o.lo, .float .f64 o.hi] ∧ CellsL w' (w.heap.size + 1 + 1) 0 [.float .f64 q.lo, .float .f64 q.hi]) from fun w' b => ⟨trivial, (K0.out.below b K0.out.lt).cellsL 0 [.float .f64 i.lo, .float .f64 i.hi] rfl, (K1.out.below b K1.out.lt).cellsL 0 [.float .f64 o.lo, .float .f64 o.hi] rfl, (K2.out.below b K2.out.lt).cellsL 0 [.float .f64 q.lo, .float .f64 q.hi] rfl⟩)
 refine wpAnyH_sets2 (N := 13) (stop := 4095) (F := 1) (m := 363) (R := [2, 4, 7, 9, 10, 11]) (M := [363, 367, 2411, 383, 2415, 511, 2431, 1023, 2559, 2047, 3071, 4095]) (fun i => if i = 2 then 3 else if i = 4 then 12 else if i = 7 then 112 else if i = 9 then 384 else if i = 10 then 528 else if i = 11 then 0 else 0) (fun a0 m a w9 => ∃ (v2 v4 v7 v9 v10 p11_ : Value) (g11_ : Nat), a = ((((((a0.put (some 11) v2).put (some 13) v4).put (some 16) v7).put (some 18) v9).put (some 19) v10).put (some 7) p11_) ∧ Below W.heap.size W w9 ∧ (m.testBit 2 = true → v2 = Value.agg #[.float .f64 p0.lo, .float .f64 p0.hi]) ∧ (m.testBit 4 = true → v4 = Value.agg #[.float .f64 p1.lo, .float .f64 p1.hi]) ∧ (m.testBit 7 = true → v7 = Value.agg #[.float .f64 p0.lo, .float .f64 p0.hi]) ∧ (m.testBit 9 = true → v9 = Value.agg #[.float .f64 p3.lo, .float .f64 p3.hi]) ∧ (m.testBit 10 = true → v10 = Value.agg #[.float .f64 p4.lo, .float .f64 p4.hi]) ∧ (m.testBit 11 = true → p11_ = .pointer (some ⟨g11_, 0, none⟩) ∧ Blk w9 g11_ 24 #[.float .f64 0, .float .f64 0] ∧ W.heap.size ≤ g11_)) (by kernel_rfl) (by kernel_rfl) (by kernel_rfl) (by kernel_rfl) ?st1 ?sp1 ?re1
 case st1 =>
   exact ⟨undef, undef, undef, undef, undef, undef, 0, by go_simp, D3.out, fun h => absurd h (by decide), fun h => absurd h (by decide), fun h => absurd h (by decide), fun h => absurd h (by decide), fun h => absurd h (by decide), fun h => absurd h (by decide)⟩
 case sp1 =>
   intro m a' w9 i hi hm hd hJ
   obtain ⟨v2, v4, v7, v9, v10, p11_, g11_, rfl, hb0, cl2, cl4, cl7, cl9, cl10, ql11⟩ := hJ
   have CL2 := Lib.hid cl2
   have CL4 := Lib.hid cl4
   have CL7 := Lib.hid cl7
   have CL9 := Lib.hid cl9
   have CL10 := Lib.hid cl10
   have QL11 := Lib.hid ql11
   have HB0 := Lib.hid hb0
   clear cl2 cl4 cl7 cl9 cl10 ql11 hb0 hS4
   simp only [List.mem_cons, List.not_mem_nil, or_false] at hi
   rcases hi with rfl | rfl | rfl | rfl | rfl | rfl
   · refine wpOp_at rfl (by kernel_rfl) (fun K hK => ?_)
     have hd := fun j => @tb_of _ _ j hd
     go_simp
     go_at_call 68
     refine (C0.out _).mono ?_
     rintro r w10 ⟨rfl, hb⟩
     dsimp only
     have hb1 := below_step HB0.out hb
     exact hK _ _ ⟨HS11.out _ hb1, _, v4, v7, v9, v10, p11_, g11_, by go_simp, hb1, fun _ => rfl, fun h => CL4.out (by rwa [tb_ne (by decide)] at h), fun h => CL7.out (by rwa [tb_ne (by decide)] at h), fun h => CL9.out (by rwa [tb_ne (by decide)] at h), fun h => CL10.out (by rwa [tb_ne (by decide)] at h), fun h => ⟨(QL11.out (by rwa [tb_ne (by decide)] at h)).1, (QL11.out (by rwa [tb_ne (by decide)] at h)).2.1.below hb (QL11.out (by rwa [tb_ne (by decide)] at h)).2.1.lt, (QL11.out (by rwa [tb_ne (by decide)] at h)).2.2⟩⟩
   · refine wpOp_at rfl (by kernel_rfl) (fun K hK => ?_)
     have hd := fun j => @tb_of _ _ j hd
     obtain rfl := CL2.out (hd _ (by decide))
     go_simp
     go_at_call 83
     refine (C1.out _).mono ?_
     rintro r w10 ⟨rfl, hb⟩
     dsimp only
     have hb1 := below_step HB0.out hb
     exact hK _ _ ⟨HS11.out _ hb1, _, _, v7, v9, v10, p11_, g11_, by go_simp, hb1, fun _ => rfl, fun _ => rfl, fun h => CL7.out (by rwa [tb_ne (by decide)] at h), fun h => CL9.out (by rwa [tb_ne (by decide)] at h), fun h => CL10.out (by rwa [tb_ne (by decide)] at h), fun h => ⟨(QL11.out (by rwa [tb_ne (by decide)] at h)).1, (QL11.out (by rwa [tb_ne (by decide)] at h)).2.1.below hb (QL11.out (by rwa [tb_ne (by decide)] at h)).2.1.lt, (QL11.out (by rwa [tb_ne (by decide)] at h)).2.2⟩⟩
   · refine wpOp_at rfl (by kernel_rfl) (fun K hK => ?_)
     have hd := fun j => @tb_of _ _ j hd
     obtain rfl := CL4.out (hd _ (by decide))
     go_simp
     go_at_call 68
     refine (C2.out _).mono ?_
     rintro r w10 ⟨rfl, hb⟩
     dsimp only
     have hb1 := below_step HB0.out hb
     exact hK _ _ ⟨HS11.out _ hb1, v2, _, _, v9, v10, p11_, g11_, by go_simp, hb1, fun h => CL2.out (by rwa [tb_ne (by decide)] at h), fun _ => rfl, fun _ => rfl, fun h => CL9.out (by rwa [tb_ne (by decide)] at h), fun h => CL10.out (by rwa [tb_ne (by decide)] at h), fun h => ⟨(QL11.out (by rwa [tb_ne (by decide)] at h)).1, (QL11.out (by rwa [tb_ne (by decide)] at h)).2.1.below hb (QL11.out (by rwa [tb_ne (by decide)] at h)).2.1.lt, (QL11.out (by rwa [tb_ne (by decide)] at h)).2.2⟩⟩
   · refine wpOp_at rfl (by kernel_rfl) (fun K hK => ?_)
     have hd := fun j => @tb_of _ _ j hd
     obtain rfl := CL7.out (hd _ (by decide))
     go_simp
     go_at_call 67
     refine (C3.out _).mono ?_
     rintro r w10 ⟨rfl, hb⟩
     dsimp only
     have hb1 := below_step HB0.out hb
     exact hK _ _ ⟨HS11.out _ hb1, v2, v4, _, _, v10, p11_, g11_, by go_simp, hb1, fun h => CL2.out (by rwa [tb_ne (by decide)] at h), fun h => CL4.out (by rwa [tb_ne (by decide)] at h), fun _ => rfl, fun _ => rfl, fun h => CL10.out (by rwa [tb_ne (by decide)] at h), fun h => ⟨(QL11.out (by rwa [tb_ne (by decide)] at h)).1, (QL11.out (by rwa [tb_ne (by decide)] at h)).2.1.below hb (QL11.out (by rwa [tb_ne (by decide)] at h)).2.1.lt, (QL11.out (by rwa [tb_ne (by decide)] at h)).2.2⟩⟩
   · refine wpOp_at rfl (by kernel_rfl) (fun K hK => ?_)
     have hd := fun j => @tb_of _ _ j hd
     obtain rfl := CL4.out (hd _ (by decide))
     obtain rfl := CL9.out (hd _ (by decide))
     go_simp
     go_at_call 45
     refine (C4.out _).mono ?_
     rintro r w10 ⟨rfl, hb⟩
     dsimp only
     have hb1 := below_step HB0.out hb
     exact hK _ _ ⟨HS11.out _ hb1, v2, _, v7, _, _, p11_, g11_, by go_simp, hb1, fun h => CL2.out (by rwa [tb_ne (by decide)] at h), fun _ => rfl, fun h => CL7.out (by rwa [tb_ne (by decide)] at h), fun _ => rfl, fun _ => rfl, fun h => ⟨(QL11.out (by rwa [tb_ne (by decide)] at h)).1, (QL11.out (by rwa [tb_ne (by decide)] at h)).2.1.below hb (QL11.out (by rwa [tb_ne (by decide)] at h)).2.1.lt, (QL11.out (by rwa [tb_ne (by decide)] at h)).2.2⟩⟩
   · refine wpOp_at rfl (by kernel_rfl) (fun K hK => ?_)
     have hd := fun j => @tb_of _ _ j hd
     go_simp
     have hb1 := below_more HB0.out (.cells #[.float .f64 0, .float .f64 0] 24)
     exact hK _ _ ⟨HS11.out _ hb1, v2, v4, v7, v9, v10, .pointer (some ⟨w9.heap.size, 0, none⟩), w9.heap.size, by go_simp, hb1, fun h => CL2.out (by rwa [tb_ne (by decide)] at h), fun h => CL4.out (by rwa [tb_ne (by decide)] at h), fun h => CL7.out (by rwa [tb_ne (by decide)] at h), fun h => CL9.out (by rwa [tb_ne (by decide)] at h), fun h => CL10.out (by rwa [tb_ne (by decide)] at h), fun _ => ⟨rfl, Blk.new_at _ _ _ rfl, HB0.out.size⟩⟩
 clear hS4 D3 HS11
 intro a' W24 hJ
 obtain ⟨v2, v4, v7, v9, v10, p11_, g25, rfl, hb0, cl2, cl4, cl7, cl9, cl10, ql11⟩ := hJ
 obtain rfl := cl2 (by decide)
 obtain rfl := cl4 (by decide)
 obtain rfl := cl7 (by decide)
 obtain rfl := cl9 (by decide)
 obtain rfl := cl10 (by decide)
 obtain ⟨rfl, kk11, ll11⟩ := ql11 (by decide)
 have D14 := Lib.hid hb0
 clear hb0
 refine wpAnyH_frame (a' := ?frq13) ?feq13 ?fgq13
 case feq13 => (go_simp; try with_reducible rfl)
 have K16 := Lib.hid ((kb K0 D14) : Blk W24 (w.heap.size) 24 #[.float .f64 i.lo, .float .f64 i.hi])
 have K17 := Lib.hid ((kb K1 D14) : Blk W24 (w.heap.size + 1) 24 #[.float .f64 o.lo, .float .f64 o.hi])
 have K18 := Lib.hid ((kb K2 D14) : Blk W24 (w.heap.size + 1 + 1) 24 #[.float .f64 q.lo, .float .f64 q.hi])
 have K19 := Lib.hid ((kb K3 D14) : Blk W24 (w.heap.size + 1 + 1 + 1) 24 #[.float .f64 0, .float .f64 0])
 have K20 := Lib.hid kk11
 clear kk11
 have HB23 := Lib.hid (below_step HB.out D14.out)
 have Y22 := Lib.hid (show w.heap.size ≤ g25 ∧ w.heap.size < g25 ∧ w.heap.size + 1 < g25 ∧ w.heap.size + 1 + 1 < g25 ∧ w.heap.size + 1 + 1 + 1 < g25 from ⟨Nat.le_trans HB.out.size ll11, Nat.lt_of_lt_of_le K0.out.lt ll11, Nat.lt_of_lt_of_le K1.out.lt ll11, Nat.lt_of_lt_of_le K2.out.lt ll11, Nat.lt_of_lt_of_le K3.out.lt ll11⟩)
 clear K0 K1 K2 K3 ll11 HB
 have D26 := Lib.hid (Below.refl W24.heap.size W24)
 clear D14
 have hS27 : True ∧ CellsL W24 (w.heap.size) 0 [.float .f64 i.lo, .float .f64 i.hi] ∧ CellsL W24 (w.heap.size + 1) 0 [.float .f64 o.lo, .float .f64 o.hi] ∧ CellsL W24 (w.heap.size + 1 + 1) 0 [.float .f64 q.lo, .float .f64 q.hi] := ⟨trivial, (kb K16 D26).cellsL 0 [.float .f64 i.lo, .float .f64 i.hi] rfl, (kb K17 D26).cellsL 0 [.float .f64 o.lo, .float .f64 o.hi] rfl, (kb K18 D26).cellsL 0 [.float .f64 q.lo, .float .f64 q.hi] rfl⟩
 refine wpAnyH_oneM (i := 12) (l' := bm 13 8191) rfl (by kernel_rfl) (by kernel_rfl) (by kernel_rfl) (fun K hK => ?_)
 have f30 := (kb K20 D26).cellsL 0 [.float .f64 0, .float .f64 0] rfl
 dsimp only [CellsL, al, vl, Nat.reduceAdd] at f30
 have u31 := (kb K20 D26).unfrozen
 obtain ⟨V28, hV29⟩ : ∃ V, setCells W24 (g25) 0 [.float .f64 p4.lo, .float .f64 p4.hi] = V := ⟨_, rfl⟩
 have hv32 := hV29
 simp only [setCells, Nat.reduceAdd] at hv32
 have K33 := kf hV29 K16 D26 (by have := Y22.out; omega)
 have K34 := kf hV29 K17 D26 (by have := Y22.out; omega)
 have K35 := kf hV29 K18 D26 (by have := Y22.out; omega)
 have K36 := kf hV29 K19 D26 (by have := Y22.out; omega)
 have K37 := Lib.hid (show Blk V28 (g25) 24 #[.float .f64 p4.lo, .float .f64 p4.hi] from (ks hV29 K20 D26).out)
 have HB38 := hbs hV29 HB23 D26 (by have := Y22.out; omega)
 have D39 := dr V28
 clear K16 K17 K18 K19 K20 HB23 D26
 go_simp
 clear hV29 f30 u31 hv32
 have hS40 : True ∧ CellsL V28 (w.heap.size) 0 [.float .f64 i.lo, .float .f64 i.hi] ∧ CellsL V28 (w.heap.size + 1) 0 [.float .f64 o.lo, .float .f64 o.hi] ∧ CellsL V28 (w.heap.size + 1 + 1) 0 [.float .f64 q.lo, .float .f64 q.hi] := ⟨trivial, (kb K33 D39).cellsL 0 [.float .f64 i.lo, .float .f64 i.hi] rfl, (kb K34 D39).cellsL 0 [.float .f64 o.lo, .float .f64 o.hi] rfl, (kb K35 D39).cellsL 0 [.float .f64 q.lo, .float .f64 q.hi] rfl⟩
 refine hK _ _ hS40 ?_
 clear hK K hS27
 refine wpAnyH_done (by kernel_rfl) ?_ _
 clear hS40
 go_wp2_with fail
 refine wp_region_held (S := (fun w' => True ∧ CellsL w' (w.heap.size) 0 [.float .f64 i.lo, .float .f64 i.hi] ∧ CellsL w' (w.heap.size + 1) 0 [.float .f64 o.lo, .float .f64 o.hi] ∧ CellsL w' (w.heap.size + 1 + 1) 0 [.float .f64 q.lo, .float .f64 q.hi])) (by kernel_rfl) ?_
 change wpAnyH _ _ _ _ _ _ _ _ (World.drew _)
 obtain ⟨wd41, hwd⟩ : ∃ x, x = World.drew V28 := ⟨_, rfl⟩
 rw [← hwd]
 have D42 := Lib.hid (hwd ▸ Below.drew D39.out : Below V28.heap.size V28 wd41)
 clear D39 hwd
 have hS43 : True ∧ CellsL wd41 (w.heap.size) 0 [.float .f64 i.lo, .float .f64 i.hi] ∧ CellsL wd41 (w.heap.size + 1) 0 [.float .f64 o.lo, .float .f64 o.hi] ∧ CellsL wd41 (w.heap.size + 1 + 1) 0 [.float .f64 q.lo, .float .f64 q.hi] := ⟨trivial, (kb K33 D42).cellsL 0 [.float .f64 i.lo, .float .f64 i.hi] rfl, (kb K34 D42).cellsL 0 [.float .f64 o.lo, .float .f64 o.hi] rfl, (kb K35 D42).cellsL 0 [.float .f64 q.lo, .float .f64 q.hi] rfl⟩
 refine tke 0 (bm 13 1) hS43 ?_
 refine tke 1 (bm 13 3) hS43 ?_
 refine tke 2 (bm 13 7) hS43 ?_
 refine tke 5 (bm 13 39) hS43 ?_
 refine tke 6 (bm 13 103) hS43 ?_
 refine tke 7 (bm 13 231) hS43 ?_
 have HS50 := Lib.hid (show ∀ w', Below V28.heap.size V28 w' → (True ∧ CellsL w' (w.heap.size) 0 [.float .f64 i.lo, .float .f64 i.hi] ∧ CellsL w' (w.heap.size + 1) 0 [.float .f64 o.lo, .float .f64 o.hi] ∧ CellsL w' (w.heap.size + 1 + 1) 0 [.float .f64 q.lo, .float .f64 q.hi]) from fun w' b => ⟨trivial, (K33.out.below b K33.out.lt).cellsL 0 [.float .f64 i.lo, .float .f64 i.hi] rfl, (K34.out.below b K34.out.lt).cellsL 0 [.float .f64 o.lo, .float .f64 o.hi] rfl, (K35.out.below b K35.out.lt).cellsL 0 [.float .f64 q.lo, .float .f64 q.hi] rfl⟩)
 refine wpAnyH_sets2 (N := 13) (stop := 4095) (F := 1) (m := 231) (R := [3, 4, 8, 9, 10, 11]) (M := [231, 239, 2279, 255, 2287, 511, 2303, 1023, 2559, 2047, 3071, 4095]) (fun i => if i = 3 then 6 else if i = 4 then 9 else if i = 8 then 208 else if i = 9 then 288 else if i = 10 then 528 else if i = 11 then 0 else 0) (fun a0 m a w9 => ∃ (v3 v4 v8 v9 v10 p11_ : Value) (g11_ : Nat), a = ((((((a0.put (some 23) v3).put (some 24) v4).put (some 28) v8).put (some 29) v9).put (some 30) v10).put (some 8) p11_) ∧ Below V28.heap.size V28 w9 ∧ (m.testBit 3 = true → v3 = Value.agg #[.float .f64 p5.lo, .float .f64 p5.hi]) ∧ (m.testBit 4 = true → v4 = Value.agg #[.float .f64 p6.lo, .float .f64 p6.hi]) ∧ (m.testBit 8 = true → v8 = Value.agg #[.float .f64 p5.lo, .float .f64 p5.hi]) ∧ (m.testBit 9 = true → v9 = Value.agg #[.float .f64 p8.lo, .float .f64 p8.hi]) ∧ (m.testBit 10 = true → v10 = Value.agg #[.float .f64 p9.lo, .float .f64 p9.hi]) ∧ (m.testBit 11 = true → p11_ = .pointer (some ⟨g11_, 0, none⟩) ∧ Blk w9 g11_ 24 #[.float .f64 0, .float .f64 0] ∧ V28.heap.size ≤ g11_)) (by kernel_rfl) (by kernel_rfl) (by kernel_rfl) (by kernel_rfl) ?st2 ?sp2 ?re2
 case st2 =>
   exact ⟨undef, undef, undef, undef, undef, undef, 0, by go_simp, D42.out, fun h => absurd h (by decide), fun h => absurd h (by decide), fun h => absurd h (by decide), fun h => absurd h (by decide), fun h => absurd h (by decide), fun h => absurd h (by decide)⟩
 case sp2 =>
   intro m a' w9 i hi hm hd hJ
   obtain ⟨v3, v4, v8, v9, v10, p11_, g11_, rfl, hb0, cl3, cl4, cl8, cl9, cl10, ql11⟩ := hJ
   have CL3 := Lib.hid cl3
   have CL4 := Lib.hid cl4
   have CL8 := Lib.hid cl8
   have CL9 := Lib.hid cl9
   have CL10 := Lib.hid cl10
   have QL11 := Lib.hid ql11
   have HB0 := Lib.hid hb0
   clear cl3 cl4 cl8 cl9 cl10 ql11 hb0 hS43
   simp only [List.mem_cons, List.not_mem_nil, or_false] at hi
   rcases hi with rfl | rfl | rfl | rfl | rfl | rfl
   · refine wpOp_at rfl (by kernel_rfl) (fun K hK => ?_)
     have hd := fun j => @tb_of _ _ j hd
     go_simp
     go_at_call 68
     refine (C5.out _).mono ?_
     rintro r w10 ⟨rfl, hb⟩
     dsimp only
     have hb1 := below_step HB0.out hb
     exact hK _ _ ⟨HS50.out _ hb1, _, v4, v8, v9, v10, p11_, g11_, by go_simp, hb1, fun _ => rfl, fun h => CL4.out (by rwa [tb_ne (by decide)] at h), fun h => CL8.out (by rwa [tb_ne (by decide)] at h), fun h => CL9.out (by rwa [tb_ne (by decide)] at h), fun h => CL10.out (by rwa [tb_ne (by decide)] at h), fun h => ⟨(QL11.out (by rwa [tb_ne (by decide)] at h)).1, (QL11.out (by rwa [tb_ne (by decide)] at h)).2.1.below hb (QL11.out (by rwa [tb_ne (by decide)] at h)).2.1.lt, (QL11.out (by rwa [tb_ne (by decide)] at h)).2.2⟩⟩
   · refine wpOp_at rfl (by kernel_rfl) (fun K hK => ?_)
     have hd := fun j => @tb_of _ _ j hd
     obtain rfl := CL3.out (hd _ (by decide))
     go_simp
     go_at_call 83
     refine (C6.out _).mono ?_
     rintro r w10 ⟨rfl, hb⟩
     dsimp only
     have hb1 := below_step HB0.out hb
     exact hK _ _ ⟨HS50.out _ hb1, _, _, v8, v9, v10, p11_, g11_, by go_simp, hb1, fun _ => rfl, fun _ => rfl, fun h => CL8.out (by rwa [tb_ne (by decide)] at h), fun h => CL9.out (by rwa [tb_ne (by decide)] at h), fun h => CL10.out (by rwa [tb_ne (by decide)] at h), fun h => ⟨(QL11.out (by rwa [tb_ne (by decide)] at h)).1, (QL11.out (by rwa [tb_ne (by decide)] at h)).2.1.below hb (QL11.out (by rwa [tb_ne (by decide)] at h)).2.1.lt, (QL11.out (by rwa [tb_ne (by decide)] at h)).2.2⟩⟩
   · refine wpOp_at rfl (by kernel_rfl) (fun K hK => ?_)
     have hd := fun j => @tb_of _ _ j hd
     obtain rfl := CL4.out (hd _ (by decide))
     go_simp
     go_at_call 68
     refine (C7.out _).mono ?_
     rintro r w10 ⟨rfl, hb⟩
     dsimp only
     have hb1 := below_step HB0.out hb
     exact hK _ _ ⟨HS50.out _ hb1, v3, _, _, v9, v10, p11_, g11_, by go_simp, hb1, fun h => CL3.out (by rwa [tb_ne (by decide)] at h), fun _ => rfl, fun _ => rfl, fun h => CL9.out (by rwa [tb_ne (by decide)] at h), fun h => CL10.out (by rwa [tb_ne (by decide)] at h), fun h => ⟨(QL11.out (by rwa [tb_ne (by decide)] at h)).1, (QL11.out (by rwa [tb_ne (by decide)] at h)).2.1.below hb (QL11.out (by rwa [tb_ne (by decide)] at h)).2.1.lt, (QL11.out (by rwa [tb_ne (by decide)] at h)).2.2⟩⟩
   · refine wpOp_at rfl (by kernel_rfl) (fun K hK => ?_)
     have hd := fun j => @tb_of _ _ j hd
     obtain rfl := CL8.out (hd _ (by decide))
     go_simp
     go_at_call 67
     refine (C8.out _).mono ?_
     rintro r w10 ⟨rfl, hb⟩
     dsimp only
     have hb1 := below_step HB0.out hb
     exact hK _ _ ⟨HS50.out _ hb1, v3, v4, _, _, v10, p11_, g11_, by go_simp, hb1, fun h => CL3.out (by rwa [tb_ne (by decide)] at h), fun h => CL4.out (by rwa [tb_ne (by decide)] at h), fun _ => rfl, fun _ => rfl, fun h => CL10.out (by rwa [tb_ne (by decide)] at h), fun h => ⟨(QL11.out (by rwa [tb_ne (by decide)] at h)).1, (QL11.out (by rwa [tb_ne (by decide)] at h)).2.1.below hb (QL11.out (by rwa [tb_ne (by decide)] at h)).2.1.lt, (QL11.out (by rwa [tb_ne (by decide)] at h)).2.2⟩⟩
   · refine wpOp_at rfl (by kernel_rfl) (fun K hK => ?_)
     have hd := fun j => @tb_of _ _ j hd
     obtain rfl := CL4.out (hd _ (by decide))
     obtain rfl := CL9.out (hd _ (by decide))
     go_simp
     go_at_call 45
     refine (C9.out _).mono ?_
     rintro r w10 ⟨rfl, hb⟩
     dsimp only
     have hb1 := below_step HB0.out hb
     exact hK _ _ ⟨HS50.out _ hb1, v3, _, v8, _, _, p11_, g11_, by go_simp, hb1, fun h => CL3.out (by rwa [tb_ne (by decide)] at h), fun _ => rfl, fun h => CL8.out (by rwa [tb_ne (by decide)] at h), fun _ => rfl, fun _ => rfl, fun h => ⟨(QL11.out (by rwa [tb_ne (by decide)] at h)).1, (QL11.out (by rwa [tb_ne (by decide)] at h)).2.1.below hb (QL11.out (by rwa [tb_ne (by decide)] at h)).2.1.lt, (QL11.out (by rwa [tb_ne (by decide)] at h)).2.2⟩⟩
   · refine wpOp_at rfl (by kernel_rfl) (fun K hK => ?_)
     have hd := fun j => @tb_of _ _ j hd
     go_simp
     have hb1 := below_more HB0.out (.cells #[.float .f64 0, .float .f64 0] 24)
     exact hK _ _ ⟨HS50.out _ hb1, v3, v4, v8, v9, v10, .pointer (some ⟨w9.heap.size, 0, none⟩), w9.heap.size, by go_simp, hb1, fun h => CL3.out (by rwa [tb_ne (by decide)] at h), fun h => CL4.out (by rwa [tb_ne (by decide)] at h), fun h => CL8.out (by rwa [tb_ne (by decide)] at h), fun h => CL9.out (by rwa [tb_ne (by decide)] at h), fun h => CL10.out (by rwa [tb_ne (by decide)] at h), fun _ => ⟨rfl, Blk.new_at _ _ _ rfl, HB0.out.size⟩⟩
 clear hS43 D42 HS50
 intro a' W65 hJ
 obtain ⟨v3, v4, v8, v9, v10, p11_, g66, rfl, hb0, cl3, cl4, cl8, cl9, cl10, ql11⟩ := hJ
 obtain rfl := cl3 (by decide)
 obtain rfl := cl4 (by decide)
 obtain rfl := cl8 (by decide)
 obtain rfl := cl9 (by decide)
 obtain rfl := cl10 (by decide)
 obtain ⟨rfl, kk11, ll11⟩ := ql11 (by decide)
 have D53 := Lib.hid hb0
 clear hb0
 refine wpAnyH_frame (a' := ?frq52) ?feq52 ?fgq52
 case feq52 => (go_simp; try with_reducible rfl)
 have K55 := Lib.hid ((kb K33 D53) : Blk W65 (w.heap.size) 24 #[.float .f64 i.lo, .float .f64 i.hi])
 have K56 := Lib.hid ((kb K34 D53) : Blk W65 (w.heap.size + 1) 24 #[.float .f64 o.lo, .float .f64 o.hi])
 have K57 := Lib.hid ((kb K35 D53) : Blk W65 (w.heap.size + 1 + 1) 24 #[.float .f64 q.lo, .float .f64 q.hi])
 have K58 := Lib.hid ((kb K36 D53) : Blk W65 (w.heap.size + 1 + 1 + 1) 24 #[.float .f64 0, .float .f64 0])
 have K59 := Lib.hid ((kb K37 D53) : Blk W65 (g25) 24 #[.float .f64 p4.lo, .float .f64 p4.hi])
 have K60 := Lib.hid kk11
 clear kk11
 have HB63 := Lib.hid (below_step HB38.out D53.out)
 have Y62 := Lib.hid (show w.heap.size ≤ g66 ∧ w.heap.size < g66 ∧ w.heap.size + 1 < g66 ∧ w.heap.size + 1 + 1 < g66 ∧ w.heap.size + 1 + 1 + 1 < g66 ∧ g25 < g66 from ⟨Nat.le_trans HB38.out.size ll11, Nat.lt_of_lt_of_le K33.out.lt ll11, Nat.lt_of_lt_of_le K34.out.lt ll11, Nat.lt_of_lt_of_le K35.out.lt ll11, Nat.lt_of_lt_of_le K36.out.lt ll11, Nat.lt_of_lt_of_le K37.out.lt ll11⟩)
 have Y64 := Lib.hid (And.intro Y22.out Y62.out)
 clear Y22 Y62
 clear K33 K34 K35 K36 K37 ll11 HB38
 have D67 := Lib.hid (Below.refl W65.heap.size W65)
 clear D53
 have hS68 : True ∧ CellsL W65 (w.heap.size) 0 [.float .f64 i.lo, .float .f64 i.hi] ∧ CellsL W65 (w.heap.size + 1) 0 [.float .f64 o.lo, .float .f64 o.hi] ∧ CellsL W65 (w.heap.size + 1 + 1) 0 [.float .f64 q.lo, .float .f64 q.hi] := ⟨trivial, (kb K55 D67).cellsL 0 [.float .f64 i.lo, .float .f64 i.hi] rfl, (kb K56 D67).cellsL 0 [.float .f64 o.lo, .float .f64 o.hi] rfl, (kb K57 D67).cellsL 0 [.float .f64 q.lo, .float .f64 q.hi] rfl⟩
 refine wpAnyH_oneM (i := 12) (l' := bm 13 8191) rfl (by kernel_rfl) (by kernel_rfl) (by kernel_rfl) (fun K hK => ?_)
 have f71 := (kb K60 D67).cellsL 0 [.float .f64 0, .float .f64 0] rfl
 dsimp only [CellsL, al, vl, Nat.reduceAdd] at f71
 have u72 := (kb K60 D67).unfrozen
 obtain ⟨V69, hV70⟩ : ∃ V, setCells W65 (g66) 0 [.float .f64 p9.lo, .float .f64 p9.hi] = V := ⟨_, rfl⟩
 have hv73 := hV70
 simp only [setCells, Nat.reduceAdd] at hv73
 have K74 := kf hV70 K55 D67 (by have := Y64.out; omega)
 have K75 := kf hV70 K56 D67 (by have := Y64.out; omega)
 have K76 := kf hV70 K57 D67 (by have := Y64.out; omega)
 have K77 := kf hV70 K58 D67 (by have := Y64.out; omega)
 have K78 := kf hV70 K59 D67 (by have := Y64.out; omega)
 have K79 := Lib.hid (show Blk V69 (g66) 24 #[.float .f64 p9.lo, .float .f64 p9.hi] from (ks hV70 K60 D67).out)
 have HB80 := hbs hV70 HB63 D67 (by have := Y64.out; omega)
 have D81 := dr V69
 clear K55 K56 K57 K58 K59 K60 HB63 D67
 go_simp
 clear hV70 f71 u72 hv73
 have hS82 : True ∧ CellsL V69 (w.heap.size) 0 [.float .f64 i.lo, .float .f64 i.hi] ∧ CellsL V69 (w.heap.size + 1) 0 [.float .f64 o.lo, .float .f64 o.hi] ∧ CellsL V69 (w.heap.size + 1 + 1) 0 [.float .f64 q.lo, .float .f64 q.hi] := ⟨trivial, (kb K74 D81).cellsL 0 [.float .f64 i.lo, .float .f64 i.hi] rfl, (kb K75 D81).cellsL 0 [.float .f64 o.lo, .float .f64 o.hi] rfl, (kb K76 D81).cellsL 0 [.float .f64 q.lo, .float .f64 q.hi] rfl⟩
 refine hK _ _ hS82 ?_
 clear hK K hS68
 refine wpAnyH_done (by kernel_rfl) ?_ _
 clear hS82
 go_wp2_with fail
 refine wp_region_held (S := (fun w' => True ∧ CellsL w' (g25) 0 [.float .f64 p4.lo, .float .f64 p4.hi] ∧ CellsL w' (g66) 0 [.float .f64 p9.lo, .float .f64 p9.hi])) (by kernel_rfl) ?_
 change wpAnyH _ _ _ _ _ _ _ _ (World.drew _)
 obtain ⟨wd83, hwd⟩ : ∃ x, x = World.drew V69 := ⟨_, rfl⟩
 rw [← hwd]
 have D84 := Lib.hid (hwd ▸ Below.drew D81.out : Below V69.heap.size V69 wd83)
 clear D81 hwd
 have hS85 : True ∧ CellsL wd83 (g25) 0 [.float .f64 p4.lo, .float .f64 p4.hi] ∧ CellsL wd83 (g66) 0 [.float .f64 p9.lo, .float .f64 p9.hi] := ⟨trivial, (kb K78 D84).cellsL 0 [.float .f64 p4.lo, .float .f64 p4.hi] rfl, (kb K79 D84).cellsL 0 [.float .f64 p9.lo, .float .f64 p9.hi] rfl⟩
 refine tke 0 (bm 8 1) hS85 ?_
 refine tke 2 (bm 8 5) hS85 ?_
 refine wpAnyH_oneN (i := 1) (l' := bm 8 7) rfl (by kernel_rfl) (by kernel_rfl) (by kernel_rfl) (fun K hK => ?_)
 go_simp
 go_at_call 69
 refine (C10.out _).mono ?_
 rintro r w88 ⟨rfl, hb⟩
 dsimp only
 have D89 := ds D84 hb
 clear D84
 clear hb
 have hS90 : True ∧ CellsL w88 (g25) 0 [.float .f64 p4.lo, .float .f64 p4.hi] ∧ CellsL w88 (g66) 0 [.float .f64 p9.lo, .float .f64 p9.hi] := ⟨trivial, (kb K78 D89).cellsL 0 [.float .f64 p4.lo, .float .f64 p4.hi] rfl, (kb K79 D89).cellsL 0 [.float .f64 p9.lo, .float .f64 p9.hi] rfl⟩
 refine hK _ _ hS90 ?_
 clear hK K hS85
 refine wpAnyH_oneN (i := 3) (l' := bm 8 15) rfl (by kernel_rfl) (by kernel_rfl) (by kernel_rfl) (fun K hK => ?_)
 go_simp
 go_at_call 69
 refine (C11.out _).mono ?_
 rintro r w91 ⟨rfl, hb⟩
 dsimp only
 have D92 := ds D89 hb
 clear D89
 clear hb
 have hS93 : True ∧ CellsL w91 (g25) 0 [.float .f64 p4.lo, .float .f64 p4.hi] ∧ CellsL w91 (g66) 0 [.float .f64 p9.lo, .float .f64 p9.hi] := ⟨trivial, (kb K78 D92).cellsL 0 [.float .f64 p4.lo, .float .f64 p4.hi] rfl, (kb K79 D92).cellsL 0 [.float .f64 p9.lo, .float .f64 p9.hi] rfl⟩
 refine hK _ _ hS93 ?_
 clear hK K hS90
 refine wpAnyH_oneN (i := 4) (l' := bm 8 31) rfl (by kernel_rfl) (by kernel_rfl) (by kernel_rfl) (fun K hK => ?_)
 go_simp
 go_at_call 67
 refine (C12.out _).mono ?_
 rintro r w94 ⟨rfl, hb⟩
 dsimp only
 have D95 := ds D92 hb
 clear D92
 clear hb
 have hS96 : True ∧ CellsL w94 (g25) 0 [.float .f64 p4.lo, .float .f64 p4.hi] ∧ CellsL w94 (g66) 0 [.float .f64 p9.lo, .float .f64 p9.hi] := ⟨trivial, (kb K78 D95).cellsL 0 [.float .f64 p4.lo, .float .f64 p4.hi] rfl, (kb K79 D95).cellsL 0 [.float .f64 p9.lo, .float .f64 p9.hi] rfl⟩
 refine hK _ _ hS96 ?_
 clear hK K hS93
 refine wpAnyH_oneN (i := 5) (l' := bm 8 63) rfl (by kernel_rfl) (by kernel_rfl) (by kernel_rfl) (fun K hK => ?_)
 go_simp
 go_at_call 66
 refine (C13.out _).mono ?_
 rintro r w97 ⟨rfl, hb⟩
 dsimp only
 have D98 := ds D95 hb
 clear D95
 clear hb
 have hS99 : True ∧ CellsL w97 (g25) 0 [.float .f64 p4.lo, .float .f64 p4.hi] ∧ CellsL w97 (g66) 0 [.float .f64 p9.lo, .float .f64 p9.hi] := ⟨trivial, (kb K78 D98).cellsL 0 [.float .f64 p4.lo, .float .f64 p4.hi] rfl, (kb K79 D98).cellsL 0 [.float .f64 p9.lo, .float .f64 p9.hi] rfl⟩
 refine hK _ _ hS99 ?_
 clear hK K hS96
 refine wpAnyH_oneN (i := 6) (l' := bm 8 127) rfl (by kernel_rfl) (by kernel_rfl) (by kernel_rfl) (fun K hK => ?_)
 go_simp
 go_at_call 68
 refine (C14.out _).mono ?_
 rintro r w100 ⟨rfl, hb⟩
 dsimp only
 have D101 := ds D98 hb
 clear D98
 clear hb
 have hS102 : True ∧ CellsL w100 (g25) 0 [.float .f64 p4.lo, .float .f64 p4.hi] ∧ CellsL w100 (g66) 0 [.float .f64 p9.lo, .float .f64 p9.hi] := ⟨trivial, (kb K78 D101).cellsL 0 [.float .f64 p4.lo, .float .f64 p4.hi] rfl, (kb K79 D101).cellsL 0 [.float .f64 p9.lo, .float .f64 p9.hi] rfl⟩
 refine hK _ _ hS102 ?_
 clear hK K hS99
 refine wpAnyH_oneN (i := 7) (l' := bm 8 255) rfl (by kernel_rfl) (by kernel_rfl) (by kernel_rfl) (fun K hK => ?_)
 have f105 := (kb K77 D101).cellsL 0 [.float .f64 0, .float .f64 0] rfl
 dsimp only [CellsL, al, vl, Nat.reduceAdd] at f105
 have u106 := (kb K77 D101).unfrozen
 obtain ⟨V103, hV104⟩ : ∃ V, setCells w100 (w.heap.size + 1 + 1 + 1) 0 [.float .f64 p14.lo, .float .f64 p14.hi] = V := ⟨_, rfl⟩
 have hv107 := hV104
 simp only [setCells, Nat.reduceAdd] at hv107
 have K108 := kf hV104 K74 D101 (by have := Y64.out; omega)
 have K109 := kf hV104 K75 D101 (by have := Y64.out; omega)
 have K110 := kf hV104 K76 D101 (by have := Y64.out; omega)
 have K111 := Lib.hid (show Blk V103 (w.heap.size + 1 + 1 + 1) 24 #[.float .f64 p14.lo, .float .f64 p14.hi] from (ks hV104 K77 D101).out)
 have K112 := kf hV104 K78 D101 (by have := Y64.out; omega)
 have K113 := kf hV104 K79 D101 (by have := Y64.out; omega)
 have HB114 := hbs hV104 HB80 D101 (by have := Y64.out; omega)
 have D115 := dr V103
 clear K74 K75 K76 K77 K78 K79 HB80 D101
 go_simp
 clear hV104 f105 u106 hv107
 have hS116 : True ∧ CellsL V103 (g25) 0 [.float .f64 p4.lo, .float .f64 p4.hi] ∧ CellsL V103 (g66) 0 [.float .f64 p9.lo, .float .f64 p9.hi] := ⟨trivial, (kb K112 D115).cellsL 0 [.float .f64 p4.lo, .float .f64 p4.hi] rfl, (kb K113 D115).cellsL 0 [.float .f64 p9.lo, .float .f64 p9.hi] rfl⟩
 refine hK _ _ hS116 ?_
 clear hK K hS102
 refine wpAnyH_done (by kernel_rfl) ?_ _
 clear hS116
 go_wp2_with fail
 (try simp only [Exit.inBlock, Exit.then])
 exact bodyPost_ret (res_c rfl _ _ (w.heap.size + 1 + 1 + 1) #[.float .f64 p14.lo, .float .f64 p14.hi] rfl (kb K111 D115) (by rw [info_Span]; rfl) Tryz.underlying24 rfl) rfl ⟨rfl, below_step HB114.out D115.out⟩
end Go.Proofs.YtnljfcebmgifdaaGreat
