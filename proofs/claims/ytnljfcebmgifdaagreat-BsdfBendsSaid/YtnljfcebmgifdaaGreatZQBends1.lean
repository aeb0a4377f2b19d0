/- Shaken: Bs2z. -/
import Derived.Test.YtnljfcebmgifdaaGreatZQBends0
import Derived.Handy
import Derived.BigQuiet
import Derived.Deep.RegionHeld3
import Derived.Deep.QuietTactic
import Derived.OrdersHeld
import Derived.Laws.StructEq
import Derived.LoopN
import Derived.Laws.FloatArith
set_option maxRecDepth 100000
set_option maxHeartbeats 8000000
set_option linter.unusedVariables false
set_option linter.unusedSimpArgs false
namespace Go.Proofs.YtnljfcebmgifdaaGreat
open Go.RowKit Fl
theorem rpos_lit {a : Sp} {k : Nat} (h : posS a = k) (w : World) : Calls Tryz.prog 71 #[.agg #[.float .f64 a.lo, .float .f64 a.hi]] w fun r w' => r = .returned (.int .i64 (k : Nat)) ∧ Below w.heap.size w w' := h ▸ rpos_sp a w
theorem rrest_any (s : Sp) (w : World) : Calls Tryz.prog 84 #[Value.agg #[.float .f64 s.lo, .float .f64 s.hi]] w fun r w' => r = .returned (.agg #[.float .f64 (maxS (subS (ofS 4607182418800017408) s) zeroS).lo, .float .f64 (maxS (subS (ofS 4607182418800017408) s) zeroS).hi]) ∧ Below w.heap.size w w' := by
 have C0 := Lib.hid (fun w => rof_sp 4607182418800017408 (by decide) w)
 obtain ⟨p0, hp0⟩ : ∃ z_, ofS 4607182418800017408 = z_ := ⟨_, rfl⟩
 rw [hp0] at C0
 have C1 := Lib.hid (fun w => rsub_sp p0 s w)
 obtain ⟨p1, hp1⟩ : ∃ z_, subS p0 s = z_ := ⟨_, rfl⟩
 rw [hp1] at C1
 have C2 := Lib.hid (fun w => rmax_sp p1 zeroS w)
 simp only [zeroS_lo, zeroS_hi, zeroV_x, zeroV_y, zeroV_z, zeroA_a, zeroA_b, zeroA_c, zeroA_t] at C2
 obtain ⟨p2, hp2⟩ : ∃ z_, maxS p1 zeroS = z_ := ⟨_, rfl⟩
 rw [hp2] at C2
 have hT : maxS (subS (ofS 4607182418800017408) s) zeroS = p2 := by
   subst hp0 hp1 hp2; rfl
 rw [hT]
 clear hT
 clear hp0 hp1 hp2
 go_enter Tryz.func84, Tryz.ntmps84
 go_wp2_with fail
 obtain ⟨W, hW, K0, K1, hB, hz⟩ := bx2 w 24 24 #[.float .f64 s.lo, .float .f64 s.hi] #[.float .f64 0, .float .f64 0]
 rw [← hW]
 have K0 := Lib.hid K0
 have K1 := Lib.hid K1
 have HB := Lib.hid hB
 clear hW hB hz
 have D1 := dr W
 refine wp_region_held (S := (fun w' => True ∧ CellsL w' (w.heap.size) 0 [.float .f64 s.lo, .float .f64 s.hi])) (by kernel_rfl) ?_
 change wpAnyH _ _ _ _ _ _ _ _ (World.drew _)
 obtain ⟨wd2, hwd⟩ : ∃ x, x = World.drew W := ⟨_, rfl⟩
 rw [← hwd]
 have D3 := Lib.hid (hwd ▸ Below.drew D1.out : Below W.heap.size W wd2)
 clear D1 hwd
 have HS5 := Lib.hid (show ∀ w', Below W.heap.size W w' → (True ∧ CellsL w' (w.heap.size) 0 [.float .f64 s.lo, .float .f64 s.hi]) from fun w' b => ⟨trivial, (K0.out.below b K0.out.lt).cellsL 0 [.float .f64 s.lo, .float .f64 s.hi] rfl⟩)
 have hS4 := HS5.out _ D3.out
 refine tke 1 (bm 6 2) hS4 ?_
 refine tkq 3 (bm 6 10) hS4 ?_
 refine wpAnyH_oneN (i := 0) (l' := bm 6 11) rfl (by kernel_rfl) (by kernel_rfl) (by kernel_rfl) (fun K hK => ?_)
 go_simp
 go_at_call 70
 refine (C0.out _).mono ?_
 rintro r w8 ⟨rfl, hb⟩
 dsimp only
 have D9 := ds D3 hb
 clear D3
 clear hb
 have hS10 := HS5.out _ D9.out
 refine hK _ _ hS10 ?_
 clear hK K hS4
 refine wpAnyH_oneN (i := 2) (l' := bm 6 15) rfl (by kernel_rfl) (by kernel_rfl) (by kernel_rfl) (fun K hK => ?_)
 go_simp
 go_at_call 85
 refine (C1.out _).mono ?_
 rintro r w11 ⟨rfl, hb⟩
 dsimp only
 have D12 := ds D9 hb
 clear D9
 clear hb
 have hS13 := HS5.out _ D12.out
 refine hK _ _ hS13 ?_
 clear hK K hS10
 refine wpAnyH_oneN (i := 4) (l' := bm 6 31) rfl (by kernel_rfl) (by kernel_rfl) (by kernel_rfl) (fun K hK => ?_)
 go_simp
 go_at_call 78
 refine (C2.out _).mono ?_
 rintro r w14 ⟨rfl, hb⟩
 dsimp only
 have D15 := ds D12 hb
 clear D12
 clear hb
 have hS16 := HS5.out _ D15.out
 refine hK _ _ hS16 ?_
 clear hK K hS13
 refine wpAnyH_oneN (i := 5) (l' := bm 6 63) rfl (by kernel_rfl) (by kernel_rfl) (by kernel_rfl) (fun K hK => ?_)
 have f19 := (kb K1 D15).cellsL 0 [.float .f64 0, .float .f64 0] rfl
 dsimp only [CellsL, al, vl, Nat.reduceAdd] at f19
 have u20 := (kb K1 D15).unfrozen
 obtain ⟨V17, hV18⟩ : ∃ V, setCells w14 (w.heap.size + 1) 0 [.float .f64 p2.lo, .float .f64 p2.hi] = V := ⟨_, rfl⟩
 have hv21 := hV18
 simp only [setCells, Nat.reduceAdd] at hv21
 have K22 := kf hV18 K0 D15 (by omega)
 have K23 := Lib.hid (show Blk V17 (w.heap.size + 1) 24 #[.float .f64 p2.lo, .float .f64 p2.hi] from (ks hV18 K1 D15).out)
 have HB24 := hbs hV18 HB D15 (by omega)
 have D25 := dr V17
 clear K0 K1 HB D15
 go_simp
 clear hV18 f19 u20 hv21
 have hS26 : True ∧ CellsL V17 (w.heap.size) 0 [.float .f64 s.lo, .float .f64 s.hi] := ⟨trivial, (kb K22 D25).cellsL 0 [.float .f64 s.lo, .float .f64 s.hi] rfl⟩
 refine hK _ _ hS26 ?_
 clear hK K hS16
 refine wpAnyH_done (by kernel_rfl) ?_ _
 clear hS26
 go_wp2_with fail
 (try simp only [Exit.inBlock, Exit.then])
 exact bodyPost_ret (res_c rfl _ _ (w.heap.size + 1) #[.float .f64 p2.lo, .float .f64 p2.hi] rfl (kb K23 D25) (by rw [info_Span]; rfl) Tryz.underlying24 rfl) rfl ⟨rfl, below_step HB24.out D25.out⟩
theorem rshareB_any (x y : Sp) (w : World) : Calls Tryz.prog 86 #[Value.agg #[.float .f64 x.lo, .float .f64 x.hi], Value.agg #[.float .f64 y.lo, .float .f64 y.hi]] w fun r w' => r = .returned (.agg #[.float .f64 (sqrS (divS (subS x y) (addS x y))).lo, .float .f64 (sqrS (divS (subS x y) (addS x y))).hi]) ∧ Below w.heap.size w w' := by
 have C0 := Lib.hid (fun w => rsub_sp x y w)
 obtain ⟨p0, hp0⟩ : ∃ z_, subS x y = z_ := ⟨_, rfl⟩
 rw [hp0] at C0
 have C1 := Lib.hid (fun w => radd_sp x y w)
 obtain ⟨p1, hp1⟩ : ∃ z_, addS x y = z_ := ⟨_, rfl⟩
 rw [hp1] at C1
 have C2 := Lib.hid (fun w => rdiv_sp p0 p1 w)
 obtain ⟨p2, hp2⟩ : ∃ z_, divS p0 p1 = z_ := ⟨_, rfl⟩
 rw [hp2] at C2
 have C3 := Lib.hid (fun w => rsqr_sp p2 w)
 obtain ⟨p3, hp3⟩ : ∃ z_, sqrS p2 = z_ := ⟨_, rfl⟩
 rw [hp3] at C3
 have hT : sqrS (divS (subS x y) (addS x y)) = p3 := by
   subst hp0 hp1 hp2 hp3; rfl
 rw [hT]
 clear hT
 clear hp0 hp1 hp2 hp3
 go_enter Tryz.func86, Tryz.ntmps86
 go_wp2_with fail
 obtain ⟨W, hW, K0, K1, K2, hB, hz⟩ := bx3 w 24 24 24 #[.float .f64 x.lo, .float .f64 x.hi] #[.float .f64 y.lo, .float .f64 y.hi] #[.float .f64 0, .float .f64 0]
 rw [← hW]
 have K0 := Lib.hid K0
 have K1 := Lib.hid K1
 have K2 := Lib.hid K2
 have HB := Lib.hid hB
 clear hW hB hz
 have D1 := dr W
 refine wp_region_held (S := (fun w' => True ∧ CellsL w' (w.heap.size) 0 [.float .f64 x.lo, .float .f64 x.hi] ∧ CellsL w' (w.heap.size + 1) 0 [.float .f64 y.lo, .float .f64 y.hi])) (by kernel_rfl) ?_
 change wpAnyH _ _ _ _ _ _ _ _ (World.drew _)
 obtain ⟨wd2, hwd⟩ : ∃ x, x = World.drew W := ⟨_, rfl⟩
 rw [← hwd]
 have D3 := Lib.hid (hwd ▸ Below.drew D1.out : Below W.heap.size W wd2)
 clear D1 hwd
 have HS5 := Lib.hid (show ∀ w', Below W.heap.size W w' → (True ∧ CellsL w' (w.heap.size) 0 [.float .f64 x.lo, .float .f64 x.hi] ∧ CellsL w' (w.heap.size + 1) 0 [.float .f64 y.lo, .float .f64 y.hi]) from fun w' b => ⟨trivial, (K0.out.below b K0.out.lt).cellsL 0 [.float .f64 x.lo, .float .f64 x.hi] rfl, (K1.out.below b K1.out.lt).cellsL 0 [.float .f64 y.lo, .float .f64 y.hi] rfl⟩)
 have hS4 := HS5.out _ D3.out
 refine tke 0 (bm 9 1) hS4 ?_
 refine tke 1 (bm 9 3) hS4 ?_
 refine tke 3 (bm 9 11) hS4 ?_
 refine tke 4 (bm 9 27) hS4 ?_
 refine wpAnyH_oneN (i := 2) (l' := bm 9 31) rfl (by kernel_rfl) (by kernel_rfl) (by kernel_rfl) (fun K hK => ?_)
 go_simp
 go_at_call 85
 refine (C0.out _).mono ?_
 rintro r w10 ⟨rfl, hb⟩
 dsimp only
 have D11 := ds D3 hb
 clear D3
 clear hb
 have hS12 := HS5.out _ D11.out
 refine hK _ _ hS12 ?_
 clear hK K hS4
 refine wpAnyH_oneN (i := 5) (l' := bm 9 63) rfl (by kernel_rfl) (by kernel_rfl) (by kernel_rfl) (fun K hK => ?_)
 go_simp
 go_at_call 74
 refine (C1.out _).mono ?_
 rintro r w13 ⟨rfl, hb⟩
 dsimp only
 have D14 := ds D11 hb
 clear D11
 clear hb
 have hS15 := HS5.out _ D14.out
 refine hK _ _ hS15 ?_
 clear hK K hS12
 refine wpAnyH_oneN (i := 6) (l' := bm 9 127) rfl (by kernel_rfl) (by kernel_rfl) (by kernel_rfl) (fun K hK => ?_)
 go_simp
 go_at_call 73
 refine (C2.out _).mono ?_
 rintro r w16 ⟨rfl, hb⟩
 dsimp only
 have D17 := ds D14 hb
 clear D14
 clear hb
 have hS18 := HS5.out _ D17.out
 refine hK _ _ hS18 ?_
 clear hK K hS15
 refine wpAnyH_oneN (i := 7) (l' := bm 9 255) rfl (by kernel_rfl) (by kernel_rfl) (by kernel_rfl) (fun K hK => ?_)
 go_simp
 go_at_call 76
 refine (C3.out _).mono ?_
 rintro r w19 ⟨rfl, hb⟩
 dsimp only
 have D20 := ds D17 hb
 clear D17
 clear hb
 have hS21 := HS5.out _ D20.out
 refine hK _ _ hS21 ?_
 clear hK K hS18
 refine wpAnyH_oneN (i := 8) (l' := bm 9 511) rfl (by kernel_rfl) (by kernel_rfl) (by kernel_rfl) (fun K hK => ?_)
 have f24 := (kb K2 D20).cellsL 0 [.float .f64 0, .float .f64 0] rfl
 dsimp only [CellsL, al, vl, Nat.reduceAdd] at f24
 have u25 := (kb K2 D20).unfrozen
 obtain ⟨V22, hV23⟩ : ∃ V, setCells w19 (w.heap.size + 1 + 1) 0 [.float .f64 p3.lo, .float .f64 p3.hi] = V := ⟨_, rfl⟩
 have hv26 := hV23
 simp only [setCells, Nat.reduceAdd] at hv26
 have K27 := kf hV23 K0 D20 (by omega)
 have K28 := kf hV23 K1 D20 (by omega)
 have K29 := Lib.hid (show Blk V22 (w.heap.size + 1 + 1) 24 #[.float .f64 p3.lo, .float .f64 p3.hi] from (ks hV23 K2 D20).out)
 have HB30 := hbs hV23 HB D20 (by omega)
 have D31 := dr V22
 clear K0 K1 K2 HB D20
 go_simp
 clear hV23 f24 u25 hv26
 have hS32 : True ∧ CellsL V22 (w.heap.size) 0 [.float .f64 x.lo, .float .f64 x.hi] ∧ CellsL V22 (w.heap.size + 1) 0 [.float .f64 y.lo, .float .f64 y.hi] := ⟨trivial, (kb K27 D31).cellsL 0 [.float .f64 x.lo, .float .f64 x.hi] rfl, (kb K28 D31).cellsL 0 [.float .f64 y.lo, .float .f64 y.hi] rfl⟩
 refine hK _ _ hS32 ?_
 clear hK K hS21
 refine wpAnyH_done (by kernel_rfl) ?_ _
 clear hS32
 go_wp2_with fail
 (try simp only [Exit.inBlock, Exit.then])
 exact bodyPost_ret (res_c rfl _ _ (w.heap.size + 1 + 1) #[.float .f64 p3.lo, .float .f64 p3.hi] rfl (kb K29 D31) (by rw [info_Span]; rfl) Tryz.underlying24 rfl) rfl ⟨rfl, below_step HB30.out D31.out⟩
theorem rbent_1 (n d : V3) (q : Sp) (h : posS (bdRest q (bdCos n d)) = 1) (w : World) : Calls Tryz.prog 36 #[Value.agg #[.float .f64 n.x.lo, .float .f64 n.x.hi, .float .f64 n.y.lo, .float .f64 n.y.hi, .float .f64 n.z.lo, .float .f64 n.z.hi], Value.agg #[.float .f64 d.x.lo, .float .f64 d.x.hi, .float .f64 d.y.lo, .float .f64 d.y.hi, .float .f64 d.z.lo, .float .f64 d.z.hi], Value.agg #[.float .f64 q.lo, .float .f64 q.hi]] w fun r w' => r = .returned (.tuple #[vval (bdBent n d q (sqrtS (bdRest q (bdCos n d)))), .agg #[.float .f64 (sqrtS (bdRest q (bdCos n d))).lo, .float .f64 (sqrtS (bdRest q (bdCos n d))).hi], .int .i64 1]) ∧ Below w.heap.size w w' := by
 have C0 := Lib.hid (fun w => rdotV_any n d w)
 obtain ⟨p0, hp0⟩ : ∃ z_, vDot n d = z_ := ⟨_, rfl⟩
 rw [hp0] at C0
 have C1 := Lib.hid (fun w => rneg_sp p0 w)
 obtain ⟨p1, hp1⟩ : ∃ z_, negS p0 = z_ := ⟨_, rfl⟩
 rw [hp1] at C1
 have C2 := Lib.hid (fun w => rsqr_sp q w)
 obtain ⟨p2, hp2⟩ : ∃ z_, sqrS q = z_ := ⟨_, rfl⟩
 rw [hp2] at C2
 have C3 := Lib.hid (fun w => rsqr_sp p1 w)
 obtain ⟨p3, hp3⟩ : ∃ z_, sqrS p1 = z_ := ⟨_, rfl⟩
 rw [hp3] at C3
 have C4 := Lib.hid (fun w => rrest_any p3 w)
 obtain ⟨p4, hp4⟩ : ∃ z_, maxS (subS (ofS 4607182418800017408) p3) zeroS = z_ := ⟨_, rfl⟩
 rw [hp4] at C4
 have C5 := Lib.hid (fun w => rmul_sp p2 p4 w)
 obtain ⟨p5, hp5⟩ : ∃ z_, mulS p2 p4 = z_ := ⟨_, rfl⟩
 rw [hp5] at C5
 have C6 := Lib.hid (fun w => rof_sp 4607182418800017408 (by decide) w)
 obtain ⟨p6, hp6⟩ : ∃ z_, ofS 4607182418800017408 = z_ := ⟨_, rfl⟩
 rw [hp6] at C6
 have C7 := Lib.hid (fun w => rsub_sp p6 p5 w)
 obtain ⟨p7, hp7⟩ : ∃ z_, subS p6 p5 = z_ := ⟨_, rfl⟩
 rw [hp7] at C7
 have hl : posS p7 = 1 := by rw [← hp7, ← hp6, ← hp5, ← hp4, ← hp3, ← hp2, ← hp1, ← hp0]; exact h
 have C8 := Lib.hid (fun w => rpos_lit hl w)
 have C9 := Lib.hid (fun w => rsqrt_sp p7 w)
 obtain ⟨p9, hp9⟩ : ∃ z_, sqrtS p7 = z_ := ⟨_, rfl⟩
 rw [hp9] at C9
 have C10 := Lib.hid (fun w => rmul_sp q p1 w)
 obtain ⟨p10, hp10⟩ : ∃ z_, mulS q p1 = z_ := ⟨_, rfl⟩
 rw [hp10] at C10
 have C11 := Lib.hid (fun w => rsub_sp p10 p9 w)
 obtain ⟨p11, hp11⟩ : ∃ z_, subS p10 p9 = z_ := ⟨_, rfl⟩
 rw [hp11] at C11
 have C12 := Lib.hid (fun w => rscaleV_any d q w)
 obtain ⟨p12, hp12⟩ : ∃ z_, vMul d ⟨q, q, q⟩ = z_ := ⟨_, rfl⟩
 rw [hp12] at C12
 have C13 := Lib.hid (fun w => rscaleV_any n p11 w)
 obtain ⟨p13, hp13⟩ : ∃ z_, vMul n ⟨p11, p11, p11⟩ = z_ := ⟨_, rfl⟩
 rw [hp13] at C13
 have C14 := Lib.hid (fun w => raddV_any p12 p13 w)
 obtain ⟨p14, hp14⟩ : ∃ z_, vAdd p12 p13 = z_ := ⟨_, rfl⟩
 rw [hp14] at C14
 have hT0 : bdBent n d q (sqrtS (bdRest q (bdCos n d))) = p14 := by
   subst hp0 hp1 hp2 hp3 hp4 hp5 hp6 hp7 hp9 hp10 hp11 hp12 hp13 hp14; rfl
 have hT1 : sqrtS (bdRest q (bdCos n d)) = p9 := by
   subst hp0 hp1 hp2 hp3 hp4 hp5 hp6 hp7 hp9 hp10 hp11 hp12 hp13 hp14; rfl
 rw [hT0, hT1]
 clear hT0 hT1
 clear hp0 hp1 hp2 hp3 hp4 hp5 hp6 hp7 hp9 hp10 hp11 hp12 hp13 hp14
 go_enter Tryz.func36, Tryz.ntmps36
 go_wp2_with fail
 obtain ⟨W, hW, K0, K1, K2, K3, K4, hB, hz⟩ := bx5 w 26 26 24 26 24 (vc n) (vc d) #[.float .f64 q.lo, .float .f64 q.hi] #[.float .f64 0, .float .f64 0, .float .f64 0, .float .f64 0, .float .f64 0, .float .f64 0] #[.float .f64 0, .float .f64 0]
 rw [← hW]
 have K0 := Lib.hid K0
 have K1 := Lib.hid K1
 have K2 := Lib.hid K2
 have K3 := Lib.hid K3
 have K4 := Lib.hid K4
 have HB := Lib.hid hB
 clear hW hB hz
 have D1 := dr W
 refine (C0.out _).mono ?_
 rintro r w2 ⟨rfl, hb⟩
 have D3 := ds D1 hb
 clear D1
 clear hb
 go_wp2_with fail
 refine (C1.out _).mono ?_
 rintro r w4 ⟨rfl, hb⟩
 have D5 := ds D3 hb
 clear D3
 clear hb
 obtain ⟨g6, hg8⟩ : ∃ g, w4.heap.size = g := ⟨_, rfl⟩
 have Y10 := Lib.hid (show w.heap.size < g6 ∧ w.heap.size + 1 < g6 ∧ w.heap.size + 1 + 1 < g6 ∧ w.heap.size + 1 + 1 + 1 < g6 ∧ w.heap.size + 1 + 1 + 1 + 1 < g6 by rw [← hg8]; exact ⟨(kb K0 D5).lt, (kb K1 D5).lt, (kb K2 D5).lt, (kb K3 D5).lt, (kb K4 D5).lt⟩)
 obtain ⟨V7, hV9⟩ : ∃ V, w4.alloc (.cells #[.float .f64 0, .float .f64 0] 24) = V := ⟨_, rfl⟩
 have K11 := ka hV9 K0 D5
 have K12 := ka hV9 K1 D5
 have K13 := ka hV9 K2 D5
 have K14 := ka hV9 K3 D5
 have K15 := ka hV9 K4 D5
 have K16 := kn hV9 hg8
 have HB17 := hba hV9 HB D5
 have D18 := dr V7
 clear K0 K1 K2 K3 K4 HB D5
 have f21 := (kb K16 D18).cellsL 0 [.float .f64 0, .float .f64 0] rfl
 dsimp only [CellsL, al, vl, Nat.reduceAdd] at f21
 have u22 := (kb K16 D18).unfrozen
 obtain ⟨V19, hV20⟩ : ∃ V, setCells V7 (g6) 0 [.float .f64 p1.lo, .float .f64 p1.hi] = V := ⟨_, rfl⟩
 have hv23 := hV20
 simp only [setCells, Nat.reduceAdd] at hv23
 have K24 := kf hV20 K11 D18 (by have := Y10.out; omega)
 have K25 := kf hV20 K12 D18 (by have := Y10.out; omega)
 have K26 := kf hV20 K13 D18 (by have := Y10.out; omega)
 have K27 := kf hV20 K14 D18 (by have := Y10.out; omega)
 have K28 := kf hV20 K15 D18 (by have := Y10.out; omega)
 have K29 := Lib.hid (show Blk V19 (g6) 24 #[.float .f64 p1.lo, .float .f64 p1.hi] from (ks hV20 K16 D18).out)
 have HB30 := hbs hV20 HB17 D18 (by have := Y10.out; omega)
 have D31 := dr V19
 clear K11 K12 K13 K14 K15 K16 HB17 D18
 go_wp2_with fail
 clear hg8 hV9 hV20 f21 u22 hv23
 refine wp_region_held (S := (fun w' => True ∧ CellsL w' (w.heap.size + 1 + 1) 0 [.float .f64 q.lo, .float .f64 q.hi] ∧ CellsL w' (g6) 0 [.float .f64 p1.lo, .float .f64 p1.hi])) (by kernel_rfl) ?_
 change wpAnyH _ _ _ _ _ _ _ _ (World.drew _)
 obtain ⟨wd32, hwd⟩ : ∃ x, x = World.drew V19 := ⟨_, rfl⟩
 rw [← hwd]
 have D33 := Lib.hid (hwd ▸ Below.drew D31.out : Below V19.heap.size V19 wd32)
 clear D31 hwd
 have hS34 : True ∧ CellsL wd32 (w.heap.size + 1 + 1) 0 [.float .f64 q.lo, .float .f64 q.hi] ∧ CellsL wd32 (g6) 0 [.float .f64 p1.lo, .float .f64 p1.hi] := ⟨trivial, (kb K26 D33).cellsL 0 [.float .f64 q.lo, .float .f64 q.hi] rfl, (kb K29 D33).cellsL 0 [.float .f64 p1.lo, .float .f64 p1.hi] rfl⟩
 refine tke 0 (bm 8 1) hS34 ?_
 refine tke 2 (bm 8 5) hS34 ?_
 have HS37 := Lib.hid (show ∀ w', Below V19.heap.size V19 w' → (True ∧ CellsL w' (w.heap.size + 1 + 1) 0 [.float .f64 q.lo, .float .f64 q.hi] ∧ CellsL w' (g6) 0 [.float .f64 p1.lo, .float .f64 p1.hi]) from fun w' b => ⟨trivial, (K26.out.below b K26.out.lt).cellsL 0 [.float .f64 q.lo, .float .f64 q.hi] rfl, (K29.out.below b K29.out.lt).cellsL 0 [.float .f64 p1.lo, .float .f64 p1.hi] rfl⟩)
 refine wpAnyH_sets2 (N := 8) (stop := 127) (F := 1) (m := 5) (R := [1, 3, 4, 5, 6]) (M := [5, 7, 69, 15, 71, 31, 79, 63, 95, 127]) (fun i => if i = 1 then 1 else if i = 3 then 6 else if i = 4 then 8 else if i = 5 then 18 else if i = 6 then 0 else 0) (fun a0 m a w9 => ∃ (v1 v3 v4 v5 p6_ : Value) (g6_ : Nat), a = (((((a0.put (some 20) v1).put (some 22) v3).put (some 23) v4).put (some 24) v5).put (some 10) p6_) ∧ Below V19.heap.size V19 w9 ∧ (m.testBit 1 = true → v1 = Value.agg #[.float .f64 p2.lo, .float .f64 p2.hi]) ∧ (m.testBit 3 = true → v3 = Value.agg #[.float .f64 p3.lo, .float .f64 p3.hi]) ∧ (m.testBit 4 = true → v4 = Value.agg #[.float .f64 p4.lo, .float .f64 p4.hi]) ∧ (m.testBit 5 = true → v5 = Value.agg #[.float .f64 p5.lo, .float .f64 p5.hi]) ∧ (m.testBit 6 = true → p6_ = .pointer (some ⟨g6_, 0, none⟩) ∧ Blk w9 g6_ 24 #[.float .f64 0, .float .f64 0] ∧ V19.heap.size ≤ g6_)) (by kernel_rfl) (by kernel_rfl) (by kernel_rfl) (by kernel_rfl) ?st2 ?sp2 ?re2
 case st2 =>
   exact ⟨undef, undef, undef, undef, undef, 0, by go_simp, D33.out, fun h => absurd h (by decide), fun h => absurd h (by decide), fun h => absurd h (by decide), fun h => absurd h (by decide), fun h => absurd h (by decide)⟩
 case sp2 =>
   intro m a' w9 i hi hm hd hJ
   obtain ⟨v1, v3, v4, v5, p6_, g6_, rfl, hb0, cl1, cl3, cl4, cl5, ql6⟩ := hJ
   have CL1 := Lib.hid cl1
   have CL3 := Lib.hid cl3
   have CL4 := Lib.hid cl4
   have CL5 := Lib.hid cl5
   have QL6 := Lib.hid ql6
   have HB0 := Lib.hid hb0
   clear cl1 cl3 cl4 cl5 ql6 hb0 hS34
   simp only [List.mem_cons, List.not_mem_nil, or_false] at hi
   rcases hi with rfl | rfl | rfl | rfl | rfl
   · refine wpOp_at rfl (by kernel_rfl) (fun K hK => ?_)
     have hd := fun j => @tb_of _ _ j hd
     go_simp
     go_at_call 76
     refine (C2.out _).mono ?_
     rintro r w10 ⟨rfl, hb⟩
     dsimp only
     have hb1 := below_step HB0.out hb
     exact hK _ _ ⟨HS37.out _ hb1, _, v3, v4, v5, p6_, g6_, by go_simp, hb1, fun _ => rfl, fun h => CL3.out (tn h), fun h => CL4.out (tn h), fun h => CL5.out (tn h), fun h => ⟨(QL6.out (tn h)).1, (QL6.out (tn h)).2.1.below hb (QL6.out (tn h)).2.1.lt, (QL6.out (tn h)).2.2⟩⟩
   · refine wpOp_at rfl (by kernel_rfl) (fun K hK => ?_)
     have hd := fun j => @tb_of _ _ j hd
     obtain rfl := CL1.out (hd _ (by decide))
     go_simp
     go_at_call 76
     refine (C3.out _).mono ?_
     rintro r w10 ⟨rfl, hb⟩
     dsimp only
     have hb1 := below_step HB0.out hb
     exact hK _ _ ⟨HS37.out _ hb1, _, _, v4, v5, p6_, g6_, by go_simp, hb1, fun _ => rfl, fun _ => rfl, fun h => CL4.out (tn h), fun h => CL5.out (tn h), fun h => ⟨(QL6.out (tn h)).1, (QL6.out (tn h)).2.1.below hb (QL6.out (tn h)).2.1.lt, (QL6.out (tn h)).2.2⟩⟩
   · refine wpOp_at rfl (by kernel_rfl) (fun K hK => ?_)
     have hd := fun j => @tb_of _ _ j hd
     obtain rfl := CL3.out (hd _ (by decide))
     go_simp
     go_at_call 84
     refine (C4.out _).mono ?_
     rintro r w10 ⟨rfl, hb⟩
     dsimp only
     have hb1 := below_step HB0.out hb
     exact hK _ _ ⟨HS37.out _ hb1, v1, _, _, v5, p6_, g6_, by go_simp, hb1, fun h => CL1.out (tn h), fun _ => rfl, fun _ => rfl, fun h => CL5.out (tn h), fun h => ⟨(QL6.out (tn h)).1, (QL6.out (tn h)).2.1.below hb (QL6.out (tn h)).2.1.lt, (QL6.out (tn h)).2.2⟩⟩
   · refine wpOp_at rfl (by kernel_rfl) (fun K hK => ?_)
     have hd := fun j => @tb_of _ _ j hd
     obtain rfl := CL1.out (hd _ (by decide))
     obtain rfl := CL4.out (hd _ (by decide))
     go_simp
     go_at_call 75
     refine (C5.out _).mono ?_
     rintro r w10 ⟨rfl, hb⟩
     dsimp only
     have hb1 := below_step HB0.out hb
     exact hK _ _ ⟨HS37.out _ hb1, _, v3, _, _, p6_, g6_, by go_simp, hb1, fun _ => rfl, fun h => CL3.out (tn h), fun _ => rfl, fun _ => rfl, fun h => ⟨(QL6.out (tn h)).1, (QL6.out (tn h)).2.1.below hb (QL6.out (tn h)).2.1.lt, (QL6.out (tn h)).2.2⟩⟩
   · refine wpOp_at rfl (by kernel_rfl) (fun K hK => ?_)
     have hd := fun j => @tb_of _ _ j hd
     go_simp
     have hb1 := below_more HB0.out (.cells #[.float .f64 0, .float .f64 0] 24)
     exact hK _ _ ⟨HS37.out _ hb1, v1, v3, v4, v5, .pointer (some ⟨w9.heap.size, 0, none⟩), w9.heap.size, by go_simp, hb1, fun h => CL1.out (tn h), fun h => CL3.out (tn h), fun h => CL4.out (tn h), fun h => CL5.out (tn h), fun _ => ⟨rfl, Blk.new_at _ _ _ rfl, HB0.out.size⟩⟩
 clear hS34 D33 HS37
 intro a' W53 hJ
 obtain ⟨v1, v3, v4, v5, p6_, g54, rfl, hb0, cl1, cl3, cl4, cl5, ql6⟩ := hJ
 obtain rfl := cl1 (by decide)
 obtain rfl := cl3 (by decide)
 obtain rfl := cl4 (by decide)
 obtain rfl := cl5 (by decide)
 obtain ⟨rfl, kk6, ll6⟩ := ql6 (by decide)
 have D40 := Lib.hid hb0
 clear hb0
 refine wpAnyH_frame (a' := ?frq39) ?feq39 ?fgq39
 case feq39 => (go_simp; try with_reducible rfl)
 have K42 := Lib.hid ((kb K24 D40) : Blk W53 (w.heap.size) 26 (vc n))
 have K43 := Lib.hid ((kb K25 D40) : Blk W53 (w.heap.size + 1) 26 (vc d))
 have K44 := Lib.hid ((kb K26 D40) : Blk W53 (w.heap.size + 1 + 1) 24 #[.float .f64 q.lo, .float .f64 q.hi])
 have K45 := Lib.hid ((kb K27 D40) : Blk W53 (w.heap.size + 1 + 1 + 1) 26 #[.float .f64 0, .float .f64 0, .float .f64 0, .float .f64 0, .float .f64 0, .float .f64 0])
 have K46 := Lib.hid ((kb K28 D40) : Blk W53 (w.heap.size + 1 + 1 + 1 + 1) 24 #[.float .f64 0, .float .f64 0])
 have K47 := Lib.hid ((kb K29 D40) : Blk W53 (g6) 24 #[.float .f64 p1.lo, .float .f64 p1.hi])
 have K48 := Lib.hid kk6
 clear kk6
 have HB51 := Lib.hid (below_step HB30.out D40.out)
 have Y50 := Lib.hid (show w.heap.size ≤ g54 ∧ w.heap.size < g54 ∧ w.heap.size + 1 < g54 ∧ w.heap.size + 1 + 1 < g54 ∧ w.heap.size + 1 + 1 + 1 < g54 ∧ w.heap.size + 1 + 1 + 1 + 1 < g54 ∧ g6 < g54 from ⟨Nat.le_trans HB30.out.size ll6, Nat.lt_of_lt_of_le K24.out.lt ll6, Nat.lt_of_lt_of_le K25.out.lt ll6, Nat.lt_of_lt_of_le K26.out.lt ll6, Nat.lt_of_lt_of_le K27.out.lt ll6, Nat.lt_of_lt_of_le K28.out.lt ll6, Nat.lt_of_lt_of_le K29.out.lt ll6⟩)
 have Y52 := Lib.hid (And.intro Y10.out Y50.out)
 clear Y10 Y50
 clear K24 K25 K26 K27 K28 K29 ll6 HB30
 have D55 := Lib.hid (Below.refl W53.heap.size W53)
 clear D40
 have hS56 : True ∧ CellsL W53 (w.heap.size + 1 + 1) 0 [.float .f64 q.lo, .float .f64 q.hi] ∧ CellsL W53 (g6) 0 [.float .f64 p1.lo, .float .f64 p1.hi] := ⟨trivial, (kb K44 D55).cellsL 0 [.float .f64 q.lo, .float .f64 q.hi] rfl, (kb K47 D55).cellsL 0 [.float .f64 p1.lo, .float .f64 p1.hi] rfl⟩
 refine wpAnyH_oneM (i := 7) (l' := bm 8 255) rfl (by kernel_rfl) (by kernel_rfl) (by kernel_rfl) (fun K hK => ?_)
 have f59 := (kb K48 D55).cellsL 0 [.float .f64 0, .float .f64 0] rfl
 dsimp only [CellsL, al, vl, Nat.reduceAdd] at f59
 have u60 := (kb K48 D55).unfrozen
 obtain ⟨V57, hV58⟩ : ∃ V, setCells W53 (g54) 0 [.float .f64 p5.lo, .float .f64 p5.hi] = V := ⟨_, rfl⟩
 have hv61 := hV58
 simp only [setCells, Nat.reduceAdd] at hv61
 have K62 := kf hV58 K42 D55 (by have := Y52.out; omega)
 have K63 := kf hV58 K43 D55 (by have := Y52.out; omega)
 have K64 := kf hV58 K44 D55 (by have := Y52.out; omega)
 have K65 := kf hV58 K45 D55 (by have := Y52.out; omega)
 have K66 := kf hV58 K46 D55 (by have := Y52.out; omega)
 have K67 := kf hV58 K47 D55 (by have := Y52.out; omega)
 have K68 := Lib.hid (show Blk V57 (g54) 24 #[.float .f64 p5.lo, .float .f64 p5.hi] from (ks hV58 K48 D55).out)
 have HB69 := hbs hV58 HB51 D55 (by have := Y52.out; omega)
 have D70 := dr V57
 clear K42 K43 K44 K45 K46 K47 K48 HB51 D55
 go_simp
 clear hV58 f59 u60 hv61
 have hS71 : True ∧ CellsL V57 (w.heap.size + 1 + 1) 0 [.float .f64 q.lo, .float .f64 q.hi] ∧ CellsL V57 (g6) 0 [.float .f64 p1.lo, .float .f64 p1.hi] := ⟨trivial, (kb K64 D70).cellsL 0 [.float .f64 q.lo, .float .f64 q.hi] rfl, (kb K67 D70).cellsL 0 [.float .f64 p1.lo, .float .f64 p1.hi] rfl⟩
 refine hK _ _ hS71 ?_
 clear hK K hS56
 refine wpAnyH_done (by kernel_rfl) ?_ _
 clear hS71
 go_wp2_with fail
 refine wp_region_held (S := (fun w' => True ∧ CellsL w' (g54) 0 [.float .f64 p5.lo, .float .f64 p5.hi])) (by kernel_rfl) ?_
 change wpAnyH _ _ _ _ _ _ _ _ (World.drew _)
 obtain ⟨wd72, hwd⟩ : ∃ x, x = World.drew V57 := ⟨_, rfl⟩
 rw [← hwd]
 have D73 := Lib.hid (hwd ▸ Below.drew D70.out : Below V57.heap.size V57 wd72)
 clear D70 hwd
 have hS74 : True ∧ CellsL wd72 (g54) 0 [.float .f64 p5.lo, .float .f64 p5.hi] := ⟨trivial, (kb K68 D73).cellsL 0 [.float .f64 p5.lo, .float .f64 p5.hi] rfl⟩
 refine tke 1 (bm 5 2) hS74 ?_
 have HS76 := Lib.hid (show ∀ w', Below V57.heap.size V57 w' → (True ∧ CellsL w' (g54) 0 [.float .f64 p5.lo, .float .f64 p5.hi]) from fun w' b => ⟨trivial, (K68.out.below b K68.out.lt).cellsL 0 [.float .f64 p5.lo, .float .f64 p5.hi] rfl⟩)
 refine wpAnyH_sets2 (N := 5) (stop := 15) (F := 1) (m := 2) (R := [0, 2, 3]) (M := [2, 3, 10, 7, 11, 15]) (fun i => if i = 0 then 0 else if i = 2 then 3 else if i = 3 then 0 else 0) (fun a0 m a w9 => ∃ (v0 v2 p3_ : Value) (g3_ : Nat), a = (((a0.put (some 25) v0).put (some 27) v2).put (some 11) p3_) ∧ Below V57.heap.size V57 w9 ∧ (m.testBit 0 = true → v0 = Value.agg #[.float .f64 p6.lo, .float .f64 p6.hi]) ∧ (m.testBit 2 = true → v2 = Value.agg #[.float .f64 p7.lo, .float .f64 p7.hi]) ∧ (m.testBit 3 = true → p3_ = .pointer (some ⟨g3_, 0, none⟩) ∧ Blk w9 g3_ 24 #[.float .f64 0, .float .f64 0] ∧ V57.heap.size ≤ g3_)) (by kernel_rfl) (by kernel_rfl) (by kernel_rfl) (by kernel_rfl) ?st3 ?sp3 ?re3
 case st3 =>
   exact ⟨undef, undef, undef, 0, by go_simp, D73.out, fun h => absurd h (by decide), fun h => absurd h (by decide), fun h => absurd h (by decide)⟩
 case sp3 =>
   intro m a' w9 i hi hm hd hJ
   obtain ⟨v0, v2, p3_, g3_, rfl, hb0, cl0, cl2, ql3⟩ := hJ
   have CL0 := Lib.hid cl0
   have CL2 := Lib.hid cl2
   have QL3 := Lib.hid ql3
   have HB0 := Lib.hid hb0
   clear cl0 cl2 ql3 hb0 hS74
   simp only [List.mem_cons, List.not_mem_nil, or_false] at hi
   rcases hi with rfl | rfl | rfl
   · refine wpOp_at rfl (by kernel_rfl) (fun K hK => ?_)
     have hd := fun j => @tb_of _ _ j hd
     go_simp
     go_at_call 70
     refine (C6.out _).mono ?_
     rintro r w10 ⟨rfl, hb⟩
     dsimp only
     have hb1 := below_step HB0.out hb
     exact hK _ _ ⟨HS76.out _ hb1, _, v2, p3_, g3_, by go_simp, hb1, fun _ => rfl, fun h => CL2.out (tn h), fun h => ⟨(QL3.out (tn h)).1, (QL3.out (tn h)).2.1.below hb (QL3.out (tn h)).2.1.lt, (QL3.out (tn h)).2.2⟩⟩
   · refine wpOp_at rfl (by kernel_rfl) (fun K hK => ?_)
     have hd := fun j => @tb_of _ _ j hd
     obtain rfl := CL0.out (hd _ (by decide))
     go_simp
     go_at_call 85
     refine (C7.out _).mono ?_
     rintro r w10 ⟨rfl, hb⟩
     dsimp only
     have hb1 := below_step HB0.out hb
     exact hK _ _ ⟨HS76.out _ hb1, _, _, p3_, g3_, by go_simp, hb1, fun _ => rfl, fun _ => rfl, fun h => ⟨(QL3.out (tn h)).1, (QL3.out (tn h)).2.1.below hb (QL3.out (tn h)).2.1.lt, (QL3.out (tn h)).2.2⟩⟩
   · refine wpOp_at rfl (by kernel_rfl) (fun K hK => ?_)
     have hd := fun j => @tb_of _ _ j hd
     go_simp
     have hb1 := below_more HB0.out (.cells #[.float .f64 0, .float .f64 0] 24)
     exact hK _ _ ⟨HS76.out _ hb1, v0, v2, .pointer (some ⟨w9.heap.size, 0, none⟩), w9.heap.size, by go_simp, hb1, fun h => CL0.out (tn h), fun h => CL2.out (tn h), fun _ => ⟨rfl, Blk.new_at _ _ _ rfl, HB0.out.size⟩⟩
 clear hS74 D73 HS76
 intro a' W93 hJ
 obtain ⟨v0, v2, p3_, g94, rfl, hb0, cl0, cl2, ql3⟩ := hJ
 obtain rfl := cl0 (by decide)
 obtain rfl := cl2 (by decide)
 obtain ⟨rfl, kk3, ll3⟩ := ql3 (by decide)
 have D79 := Lib.hid hb0
 clear hb0
 refine wpAnyH_frame (a' := ?frq78) ?feq78 ?fgq78
 case feq78 => (go_simp; try with_reducible rfl)
 have K81 := Lib.hid ((kb K62 D79) : Blk W93 (w.heap.size) 26 (vc n))
 have K82 := Lib.hid ((kb K63 D79) : Blk W93 (w.heap.size + 1) 26 (vc d))
 have K83 := Lib.hid ((kb K64 D79) : Blk W93 (w.heap.size + 1 + 1) 24 #[.float .f64 q.lo, .float .f64 q.hi])
 have K84 := Lib.hid ((kb K65 D79) : Blk W93 (w.heap.size + 1 + 1 + 1) 26 #[.float .f64 0, .float .f64 0, .float .f64 0, .float .f64 0, .float .f64 0, .float .f64 0])
 have K85 := Lib.hid ((kb K66 D79) : Blk W93 (w.heap.size + 1 + 1 + 1 + 1) 24 #[.float .f64 0, .float .f64 0])
 have K86 := Lib.hid ((kb K67 D79) : Blk W93 (g6) 24 #[.float .f64 p1.lo, .float .f64 p1.hi])
 have K87 := Lib.hid ((kb K68 D79) : Blk W93 (g54) 24 #[.float .f64 p5.lo, .float .f64 p5.hi])
 have K88 := Lib.hid kk3
 clear kk3
 have HB91 := Lib.hid (below_step HB69.out D79.out)
 have Y90 := Lib.hid (show w.heap.size ≤ g94 ∧ w.heap.size < g94 ∧ w.heap.size + 1 < g94 ∧ w.heap.size + 1 + 1 < g94 ∧ w.heap.size + 1 + 1 + 1 < g94 ∧ w.heap.size + 1 + 1 + 1 + 1 < g94 ∧ g6 < g94 ∧ g54 < g94 from ⟨Nat.le_trans HB69.out.size ll3, Nat.lt_of_lt_of_le K62.out.lt ll3, Nat.lt_of_lt_of_le K63.out.lt ll3, Nat.lt_of_lt_of_le K64.out.lt ll3, Nat.lt_of_lt_of_le K65.out.lt ll3, Nat.lt_of_lt_of_le K66.out.lt ll3, Nat.lt_of_lt_of_le K67.out.lt ll3, Nat.lt_of_lt_of_le K68.out.lt ll3⟩)
 have Y92 := Lib.hid (And.intro Y52.out Y90.out)
 clear Y52 Y90
 clear K62 K63 K64 K65 K66 K67 K68 ll3 HB69
 have D95 := Lib.hid (Below.refl W93.heap.size W93)
 clear D79
 have hS96 : True ∧ CellsL W93 (g54) 0 [.float .f64 p5.lo, .float .f64 p5.hi] := ⟨trivial, (kb K87 D95).cellsL 0 [.float .f64 p5.lo, .float .f64 p5.hi] rfl⟩
 refine wpAnyH_oneM (i := 4) (l' := bm 5 31) rfl (by kernel_rfl) (by kernel_rfl) (by kernel_rfl) (fun K hK => ?_)
 have f99 := (kb K88 D95).cellsL 0 [.float .f64 0, .float .f64 0] rfl
 dsimp only [CellsL, al, vl, Nat.reduceAdd] at f99
 have u100 := (kb K88 D95).unfrozen
 obtain ⟨V97, hV98⟩ : ∃ V, setCells W93 (g94) 0 [.float .f64 p7.lo, .float .f64 p7.hi] = V := ⟨_, rfl⟩
 have hv101 := hV98
 simp only [setCells, Nat.reduceAdd] at hv101
 have K102 := kf hV98 K81 D95 (by have := Y92.out; omega)
 have K103 := kf hV98 K82 D95 (by have := Y92.out; omega)
 have K104 := kf hV98 K83 D95 (by have := Y92.out; omega)
 have K105 := kf hV98 K84 D95 (by have := Y92.out; omega)
 have K106 := kf hV98 K85 D95 (by have := Y92.out; omega)
 have K107 := kf hV98 K86 D95 (by have := Y92.out; omega)
 have K108 := kf hV98 K87 D95 (by have := Y92.out; omega)
 have K109 := Lib.hid (show Blk V97 (g94) 24 #[.float .f64 p7.lo, .float .f64 p7.hi] from (ks hV98 K88 D95).out)
 have HB110 := hbs hV98 HB91 D95 (by have := Y92.out; omega)
 have D111 := dr V97
 clear K81 K82 K83 K84 K85 K86 K87 K88 HB91 D95
 go_simp
 clear hV98 f99 u100 hv101
 have hS112 : True ∧ CellsL V97 (g54) 0 [.float .f64 p5.lo, .float .f64 p5.hi] := ⟨trivial, (kb K108 D111).cellsL 0 [.float .f64 p5.lo, .float .f64 p5.hi] rfl⟩
 refine hK _ _ hS112 ?_
 clear hK K hS96
 refine wpAnyH_done (by kernel_rfl) ?_ _
 clear hS112
 have hq113 := (kb K109 D111).cellsL 0 [.float .f64 p7.lo, .float .f64 p7.hi] rfl
 dsimp only [CellsL, al, vl, Nat.reduceAdd] at hq113
 go_wp2_with fail
 clear hq113
 refine (C8.out _).mono ?_
 rintro r w114 ⟨rfl, hb⟩
 have D115 := ds D111 hb
 clear D111
 clear hb
 have hq116 := (kb K109 D115).cellsL 0 [.float .f64 p7.lo, .float .f64 p7.hi] rfl
 dsimp only [CellsL, al, vl, Nat.reduceAdd] at hq116
 go_wp2_with fail
 clear hq116
 refine (C9.out _).mono ?_
 rintro r w117 ⟨rfl, hb⟩
 have D118 := ds D115 hb
 clear D115
 clear hb
 obtain ⟨g119, hg121⟩ : ∃ g, w117.heap.size = g := ⟨_, rfl⟩
 have Y123 := Lib.hid (show w.heap.size < g119 ∧ w.heap.size + 1 < g119 ∧ w.heap.size + 1 + 1 < g119 ∧ w.heap.size + 1 + 1 + 1 < g119 ∧ w.heap.size + 1 + 1 + 1 + 1 < g119 ∧ g6 < g119 ∧ g54 < g119 ∧ g94 < g119 by rw [← hg121]; exact ⟨(kb K102 D118).lt, (kb K103 D118).lt, (kb K104 D118).lt, (kb K105 D118).lt, (kb K106 D118).lt, (kb K107 D118).lt, (kb K108 D118).lt, (kb K109 D118).lt⟩)
 obtain ⟨V120, hV122⟩ : ∃ V, w117.alloc (.cells #[.float .f64 0, .float .f64 0] 24) = V := ⟨_, rfl⟩
 have K124 := ka hV122 K102 D118
 have K125 := ka hV122 K103 D118
 have K126 := ka hV122 K104 D118
 have K127 := ka hV122 K105 D118
 have K128 := ka hV122 K106 D118
 have K129 := ka hV122 K107 D118
 have K130 := kn hV122 hg121
 have HB131 := hba hV122 HB110 D118
 have D132 := dr V120
 clear K102 K103 K104 K105 K106 K107 K108 K109 HB110 D118
 have Y133 := Lib.hid (And.intro Y92.out Y123.out)
 clear Y92 Y123
 have f136 := (kb K130 D132).cellsL 0 [.float .f64 0, .float .f64 0] rfl
 dsimp only [CellsL, al, vl, Nat.reduceAdd] at f136
 have u137 := (kb K130 D132).unfrozen
 obtain ⟨V134, hV135⟩ : ∃ V, setCells V120 (g119) 0 [.float .f64 p9.lo, .float .f64 p9.hi] = V := ⟨_, rfl⟩
 have hv138 := hV135
 simp only [setCells, Nat.reduceAdd] at hv138
 have K139 := kf hV135 K124 D132 (by have := Y133.out; omega)
 have K140 := kf hV135 K125 D132 (by have := Y133.out; omega)
 have K141 := kf hV135 K126 D132 (by have := Y133.out; omega)
 have K142 := kf hV135 K127 D132 (by have := Y133.out; omega)
 have K143 := kf hV135 K128 D132 (by have := Y133.out; omega)
 have K144 := kf hV135 K129 D132 (by have := Y133.out; omega)
 have K145 := Lib.hid (show Blk V134 (g119) 24 #[.float .f64 p9.lo, .float .f64 p9.hi] from (ks hV135 K130 D132).out)
 have HB146 := hbs hV135 HB131 D132 (by have := Y133.out; omega)
 have D147 := dr V134
 clear K124 K125 K126 K127 K128 K129 K130 HB131 D132
 go_wp2_with fail
 clear hg121 hV122 hV135 f136 u137 hv138
 refine wp_region_held (S := (fun w' => True ∧ CellsL w' (w.heap.size + 1 + 1) 0 [.float .f64 q.lo, .float .f64 q.hi] ∧ CellsL w' (g6) 0 [.float .f64 p1.lo, .float .f64 p1.hi] ∧ CellsL w' (g119) 0 [.float .f64 p9.lo, .float .f64 p9.hi])) (by kernel_rfl) ?_
 change wpAnyH _ _ _ _ _ _ _ _ (World.drew _)
 obtain ⟨wd148, hwd⟩ : ∃ x, x = World.drew V134 := ⟨_, rfl⟩
 rw [← hwd]
 have D149 := Lib.hid (hwd ▸ Below.drew D147.out : Below V134.heap.size V134 wd148)
 clear D147 hwd
 have hS150 : True ∧ CellsL wd148 (w.heap.size + 1 + 1) 0 [.float .f64 q.lo, .float .f64 q.hi] ∧ CellsL wd148 (g6) 0 [.float .f64 p1.lo, .float .f64 p1.hi] ∧ CellsL wd148 (g119) 0 [.float .f64 p9.lo, .float .f64 p9.hi] := ⟨trivial, (kb K141 D149).cellsL 0 [.float .f64 q.lo, .float .f64 q.hi] rfl, (kb K144 D149).cellsL 0 [.float .f64 p1.lo, .float .f64 p1.hi] rfl, (kb K145 D149).cellsL 0 [.float .f64 p9.lo, .float .f64 p9.hi] rfl⟩
 refine tke 0 (bm 7 1) hS150 ?_
 refine tke 1 (bm 7 3) hS150 ?_
 refine tke 3 (bm 7 11) hS150 ?_
 have HS154 := Lib.hid (show ∀ w', Below V134.heap.size V134 w' → (True ∧ CellsL w' (w.heap.size + 1 + 1) 0 [.float .f64 q.lo, .float .f64 q.hi] ∧ CellsL w' (g6) 0 [.float .f64 p1.lo, .float .f64 p1.hi] ∧ CellsL w' (g119) 0 [.float .f64 p9.lo, .float .f64 p9.hi]) from fun w' b => ⟨trivial, (K141.out.below b K141.out.lt).cellsL 0 [.float .f64 q.lo, .float .f64 q.hi] rfl, (K144.out.below b K144.out.lt).cellsL 0 [.float .f64 p1.lo, .float .f64 p1.hi] rfl, (K145.out.below b K145.out.lt).cellsL 0 [.float .f64 p9.lo, .float .f64 p9.hi] rfl⟩)
 refine wpAnyH_sets2 (N := 7) (stop := 63) (F := 1) (m := 11) (R := [2, 4, 5]) (M := [11, 15, 43, 31, 47, 63]) (fun i => if i = 2 then 3 else if i = 4 then 12 else if i = 5 then 0 else 0) (fun a0 m a w9 => ∃ (v2 v4 p5_ : Value) (g5_ : Nat), a = (((a0.put (some 39) v2).put (some 41) v4).put (some 14) p5_) ∧ Below V134.heap.size V134 w9 ∧ (m.testBit 2 = true → v2 = Value.agg #[.float .f64 p10.lo, .float .f64 p10.hi]) ∧ (m.testBit 4 = true → v4 = Value.agg #[.float .f64 p11.lo, .float .f64 p11.hi]) ∧ (m.testBit 5 = true → p5_ = .pointer (some ⟨g5_, 0, none⟩) ∧ Blk w9 g5_ 24 #[.float .f64 0, .float .f64 0] ∧ V134.heap.size ≤ g5_)) (by kernel_rfl) (by kernel_rfl) (by kernel_rfl) (by kernel_rfl) ?st8 ?sp8 ?re8
 case st8 =>
   exact ⟨undef, undef, undef, 0, by go_simp, D149.out, fun h => absurd h (by decide), fun h => absurd h (by decide), fun h => absurd h (by decide)⟩
 case sp8 =>
   intro m a' w9 i hi hm hd hJ
   obtain ⟨v2, v4, p5_, g5_, rfl, hb0, cl2, cl4, ql5⟩ := hJ
   have CL2 := Lib.hid cl2
   have CL4 := Lib.hid cl4
   have QL5 := Lib.hid ql5
   have HB0 := Lib.hid hb0
   clear cl2 cl4 ql5 hb0 hS150
   simp only [List.mem_cons, List.not_mem_nil, or_false] at hi
   rcases hi with rfl | rfl | rfl
   · refine wpOp_at rfl (by kernel_rfl) (fun K hK => ?_)
     have hd := fun j => @tb_of _ _ j hd
     go_simp
     go_at_call 75
     refine (C10.out _).mono ?_
     rintro r w10 ⟨rfl, hb⟩
     dsimp only
     have hb1 := below_step HB0.out hb
     exact hK _ _ ⟨HS154.out _ hb1, _, v4, p5_, g5_, by go_simp, hb1, fun _ => rfl, fun h => CL4.out (tn h), fun h => ⟨(QL5.out (tn h)).1, (QL5.out (tn h)).2.1.below hb (QL5.out (tn h)).2.1.lt, (QL5.out (tn h)).2.2⟩⟩
   · refine wpOp_at rfl (by kernel_rfl) (fun K hK => ?_)
     have hd := fun j => @tb_of _ _ j hd
     obtain rfl := CL2.out (hd _ (by decide))
     go_simp
     go_at_call 85
     refine (C11.out _).mono ?_
     rintro r w10 ⟨rfl, hb⟩
     dsimp only
     have hb1 := below_step HB0.out hb
     exact hK _ _ ⟨HS154.out _ hb1, _, _, p5_, g5_, by go_simp, hb1, fun _ => rfl, fun _ => rfl, fun h => ⟨(QL5.out (tn h)).1, (QL5.out (tn h)).2.1.below hb (QL5.out (tn h)).2.1.lt, (QL5.out (tn h)).2.2⟩⟩
   · refine wpOp_at rfl (by kernel_rfl) (fun K hK => ?_)
     have hd := fun j => @tb_of _ _ j hd
     go_simp
     have hb1 := below_more HB0.out (.cells #[.float .f64 0, .float .f64 0] 24)
     exact hK _ _ ⟨HS154.out _ hb1, v2, v4, .pointer (some ⟨w9.heap.size, 0, none⟩), w9.heap.size, by go_simp, hb1, fun h => CL2.out (tn h), fun h => CL4.out (tn h), fun _ => ⟨rfl, Blk.new_at _ _ _ rfl, HB0.out.size⟩⟩
 clear hS150 D149 HS154
 intro a' W171 hJ
 obtain ⟨v2, v4, p5_, g172, rfl, hb0, cl2, cl4, ql5⟩ := hJ
 obtain rfl := cl2 (by decide)
 obtain rfl := cl4 (by decide)
 obtain ⟨rfl, kk5, ll5⟩ := ql5 (by decide)
 have D157 := Lib.hid hb0
 clear hb0
 refine wpAnyH_frame (a' := ?frq156) ?feq156 ?fgq156
 case feq156 => (go_simp; try with_reducible rfl)
 have K159 := Lib.hid ((kb K139 D157) : Blk W171 (w.heap.size) 26 (vc n))
 have K160 := Lib.hid ((kb K140 D157) : Blk W171 (w.heap.size + 1) 26 (vc d))
 have K161 := Lib.hid ((kb K141 D157) : Blk W171 (w.heap.size + 1 + 1) 24 #[.float .f64 q.lo, .float .f64 q.hi])
 have K162 := Lib.hid ((kb K142 D157) : Blk W171 (w.heap.size + 1 + 1 + 1) 26 #[.float .f64 0, .float .f64 0, .float .f64 0, .float .f64 0, .float .f64 0, .float .f64 0])
 have K163 := Lib.hid ((kb K143 D157) : Blk W171 (w.heap.size + 1 + 1 + 1 + 1) 24 #[.float .f64 0, .float .f64 0])
 have K164 := Lib.hid ((kb K144 D157) : Blk W171 (g6) 24 #[.float .f64 p1.lo, .float .f64 p1.hi])
 have K165 := Lib.hid ((kb K145 D157) : Blk W171 (g119) 24 #[.float .f64 p9.lo, .float .f64 p9.hi])
 have K166 := Lib.hid kk5
 clear kk5
 have HB169 := Lib.hid (below_step HB146.out D157.out)
 have Y168 := Lib.hid (show w.heap.size ≤ g172 ∧ w.heap.size < g172 ∧ w.heap.size + 1 < g172 ∧ w.heap.size + 1 + 1 < g172 ∧ w.heap.size + 1 + 1 + 1 < g172 ∧ w.heap.size + 1 + 1 + 1 + 1 < g172 ∧ g6 < g172 ∧ g119 < g172 from ⟨Nat.le_trans HB146.out.size ll5, Nat.lt_of_lt_of_le K139.out.lt ll5, Nat.lt_of_lt_of_le K140.out.lt ll5, Nat.lt_of_lt_of_le K141.out.lt ll5, Nat.lt_of_lt_of_le K142.out.lt ll5, Nat.lt_of_lt_of_le K143.out.lt ll5, Nat.lt_of_lt_of_le K144.out.lt ll5, Nat.lt_of_lt_of_le K145.out.lt ll5⟩)
 have Y170 := Lib.hid (And.intro Y133.out Y168.out)
 clear Y133 Y168
 clear K139 K140 K141 K142 K143 K144 K145 ll5 HB146
 have D173 := Lib.hid (Below.refl W171.heap.size W171)
 clear D157
 have hS174 : True ∧ CellsL W171 (w.heap.size + 1 + 1) 0 [.float .f64 q.lo, .float .f64 q.hi] ∧ CellsL W171 (g6) 0 [.float .f64 p1.lo, .float .f64 p1.hi] ∧ CellsL W171 (g119) 0 [.float .f64 p9.lo, .float .f64 p9.hi] := ⟨trivial, (kb K161 D173).cellsL 0 [.float .f64 q.lo, .float .f64 q.hi] rfl, (kb K164 D173).cellsL 0 [.float .f64 p1.lo, .float .f64 p1.hi] rfl, (kb K165 D173).cellsL 0 [.float .f64 p9.lo, .float .f64 p9.hi] rfl⟩
 refine wpAnyH_oneM (i := 6) (l' := bm 7 127) rfl (by kernel_rfl) (by kernel_rfl) (by kernel_rfl) (fun K hK => ?_)
 have f177 := (kb K166 D173).cellsL 0 [.float .f64 0, .float .f64 0] rfl
 dsimp only [CellsL, al, vl, Nat.reduceAdd] at f177
 have u178 := (kb K166 D173).unfrozen
 obtain ⟨V175, hV176⟩ : ∃ V, setCells W171 (g172) 0 [.float .f64 p11.lo, .float .f64 p11.hi] = V := ⟨_, rfl⟩
 have hv179 := hV176
 simp only [setCells, Nat.reduceAdd] at hv179
 have K180 := kf hV176 K159 D173 (by have := Y170.out; omega)
 have K181 := kf hV176 K160 D173 (by have := Y170.out; omega)
 have K182 := kf hV176 K161 D173 (by have := Y170.out; omega)
 have K183 := kf hV176 K162 D173 (by have := Y170.out; omega)
 have K184 := kf hV176 K163 D173 (by have := Y170.out; omega)
 have K185 := kf hV176 K164 D173 (by have := Y170.out; omega)
 have K186 := kf hV176 K165 D173 (by have := Y170.out; omega)
 have K187 := Lib.hid (show Blk V175 (g172) 24 #[.float .f64 p11.lo, .float .f64 p11.hi] from (ks hV176 K166 D173).out)
 have HB188 := hbs hV176 HB169 D173 (by have := Y170.out; omega)
 have D189 := dr V175
 clear K159 K160 K161 K162 K163 K164 K165 K166 HB169 D173
 go_simp
 clear hV176 f177 u178 hv179
 have hS190 : True ∧ CellsL V175 (w.heap.size + 1 + 1) 0 [.float .f64 q.lo, .float .f64 q.hi] ∧ CellsL V175 (g6) 0 [.float .f64 p1.lo, .float .f64 p1.hi] ∧ CellsL V175 (g119) 0 [.float .f64 p9.lo, .float .f64 p9.hi] := ⟨trivial, (kb K182 D189).cellsL 0 [.float .f64 q.lo, .float .f64 q.hi] rfl, (kb K185 D189).cellsL 0 [.float .f64 p1.lo, .float .f64 p1.hi] rfl, (kb K186 D189).cellsL 0 [.float .f64 p9.lo, .float .f64 p9.hi] rfl⟩
 refine hK _ _ hS190 ?_
 clear hK K hS174
 refine wpAnyH_done (by kernel_rfl) ?_ _
 clear hS190
 go_wp2_with fail
 refine wp_region_held (S := (fun w' => True ∧ Blk w' (w.heap.size) 26 (vc n) ∧ Blk w' (w.heap.size + 1) 26 (vc d) ∧ CellsL w' (w.heap.size + 1 + 1) 0 [.float .f64 q.lo, .float .f64 q.hi] ∧ CellsL w' (g119) 0 [.float .f64 p9.lo, .float .f64 p9.hi] ∧ CellsL w' (g172) 0 [.float .f64 p11.lo, .float .f64 p11.hi])) (by kernel_rfl) ?_
 change wpAnyH _ _ _ _ _ _ _ _ (World.drew _)
 obtain ⟨wd191, hwd⟩ : ∃ x, x = World.drew V175 := ⟨_, rfl⟩
 rw [← hwd]
 have D192 := Lib.hid (hwd ▸ Below.drew D189.out : Below V175.heap.size V175 wd191)
 clear D189 hwd
 have HS194 := Lib.hid (show ∀ w', Below V175.heap.size V175 w' → (True ∧ Blk w' (w.heap.size) 26 (vc n) ∧ Blk w' (w.heap.size + 1) 26 (vc d) ∧ CellsL w' (w.heap.size + 1 + 1) 0 [.float .f64 q.lo, .float .f64 q.hi] ∧ CellsL w' (g119) 0 [.float .f64 p9.lo, .float .f64 p9.hi] ∧ CellsL w' (g172) 0 [.float .f64 p11.lo, .float .f64 p11.hi]) from fun w' b => ⟨trivial, (K180.out.below b K180.out.lt), (K181.out.below b K181.out.lt), (K182.out.below b K182.out.lt).cellsL 0 [.float .f64 q.lo, .float .f64 q.hi] rfl, (K186.out.below b K186.out.lt).cellsL 0 [.float .f64 p9.lo, .float .f64 p9.hi] rfl, (K187.out.below b K187.out.lt).cellsL 0 [.float .f64 p11.lo, .float .f64 p11.hi] rfl⟩)
 have hS193 := HS194.out _ D192.out
 refine tkL 0 (bm 12 1) ?aq195 rfl (by kernel_rfl) (fun _ _ _ h => h) (by kernel_rfl) rfl rfl (fun _ hS => hS.2.2.1) (by rw [info_V3]; rfl) Tryz.underlying26 rfl ?pq195 hS193 ?rq195
 case pq195 => (go_simp; try with_reducible rfl)
 refine tke 1 (bm 12 3) hS193 ?_
 refine tkL 3 (bm 12 11) ?aq197 rfl (by kernel_rfl) (fun _ _ _ h => h) (by kernel_rfl) rfl rfl (fun _ hS => hS.2.1) (by rw [info_V3]; rfl) Tryz.underlying26 rfl ?pq197 hS193 ?rq197
 case pq197 => (go_simp; try with_reducible rfl)
 refine tke 4 (bm 12 27) hS193 ?_
 refine tke 7 (bm 12 155) hS193 ?_
 refine tkq 8 (bm 12 411) hS193 ?_
 refine wpAnyH_oneN (i := 2) (l' := bm 12 415) rfl (by kernel_rfl) (by kernel_rfl) (by kernel_rfl) (fun K hK => ?_)
 go_simp
 go_at_call 80
 refine (C12.out _).mono ?_
 rintro r w201 ⟨rfl, hb⟩
 dsimp only
 have D202 := ds D192 hb
 clear D192
 clear hb
 have hS203 := HS194.out _ D202.out
 refine hK _ _ hS203 ?_
 clear hK K hS193
 refine wpAnyH_oneN (i := 5) (l' := bm 12 447) rfl (by kernel_rfl) (by kernel_rfl) (by kernel_rfl) (fun K hK => ?_)
 go_simp
 go_at_call 80
 refine (C13.out _).mono ?_
 rintro r w204 ⟨rfl, hb⟩
 dsimp only
 have D205 := ds D202 hb
 clear D202
 clear hb
 have hS206 := HS194.out _ D205.out
 refine hK _ _ hS206 ?_
 clear hK K hS203
 refine wpAnyH_oneN (i := 6) (l' := bm 12 511) rfl (by kernel_rfl) (by kernel_rfl) (by kernel_rfl) (fun K hK => ?_)
 go_simp
 go_at_call 54
 refine (C14.out _).mono ?_
 rintro r w207 ⟨rfl, hb⟩
 dsimp only
 have D208 := ds D205 hb
 clear D205
 clear hb
 have hS209 := HS194.out _ D208.out
 refine hK _ _ hS209 ?_
 clear hK K hS206
 refine wpAnyH_oneN (i := 9) (l' := bm 12 1023) rfl (by kernel_rfl) (by kernel_rfl) (by kernel_rfl) (fun K hK => ?_)
 have f212 := (kb K183 D208)
 obtain ⟨V210, hV211⟩ : ∃ V, World.setRow w207 (w.heap.size + 1 + 1 + 1) (vc p14) = V := ⟨_, rfl⟩
 have K213 := kfr hV211 K180 D208 (by have := Y170.out; omega)
 have K214 := kfr hV211 K181 D208 (by have := Y170.out; omega)
 have K215 := kfr hV211 K182 D208 (by have := Y170.out; omega)
 have K216 := ksr hV211 K183 D208
 have K217 := kfr hV211 K184 D208 (by have := Y170.out; omega)
 have K218 := kfr hV211 K186 D208 (by have := Y170.out; omega)
 have K219 := kfr hV211 K187 D208 (by have := Y170.out; omega)
 have HB220 := hbr hV211 HB188 D208 (by have := Y170.out; omega)
 have D221 := dr V210
 clear K180 K181 K182 K183 K184 K185 K186 K187 HB188 D208
 refine wp_store_row 26 _ _ rfl (w.heap.size + 1 + 1 + 1) (vc p14) rfl rfl _ _ f212 (by rw [info_V3]; rfl) rfl (by kernel_rfl) ?_
 rw [hV211]
 go_simp
 clear hV211 f212
 have hS222 : True ∧ Blk V210 (w.heap.size) 26 (vc n) ∧ Blk V210 (w.heap.size + 1) 26 (vc d) ∧ CellsL V210 (w.heap.size + 1 + 1) 0 [.float .f64 q.lo, .float .f64 q.hi] ∧ CellsL V210 (g119) 0 [.float .f64 p9.lo, .float .f64 p9.hi] ∧ CellsL V210 (g172) 0 [.float .f64 p11.lo, .float .f64 p11.hi] := ⟨trivial, (kb K213 D221), (kb K214 D221), (kb K215 D221).cellsL 0 [.float .f64 q.lo, .float .f64 q.hi] rfl, (kb K218 D221).cellsL 0 [.float .f64 p9.lo, .float .f64 p9.hi] rfl, (kb K219 D221).cellsL 0 [.float .f64 p11.lo, .float .f64 p11.hi] rfl⟩
 refine hK _ _ hS222 ?_
 clear hK K hS209
 refine wpAnyH_oneN (i := 10) (l' := bm 12 2047) rfl (by kernel_rfl) (by kernel_rfl) (by kernel_rfl) (fun K hK => ?_)
 have f225 := (kb K217 D221).cellsL 0 [.float .f64 0, .float .f64 0] rfl
 dsimp only [CellsL, al, vl, Nat.reduceAdd] at f225
 have u226 := (kb K217 D221).unfrozen
 obtain ⟨V223, hV224⟩ : ∃ V, setCells V210 (w.heap.size + 1 + 1 + 1 + 1) 0 [.float .f64 p9.lo, .float .f64 p9.hi] = V := ⟨_, rfl⟩
 have hv227 := hV224
 simp only [setCells, Nat.reduceAdd] at hv227
 have K228 := kf hV224 K213 D221 (by have := Y170.out; omega)
 have K229 := kf hV224 K214 D221 (by have := Y170.out; omega)
 have K230 := kf hV224 K215 D221 (by have := Y170.out; omega)
 have K231 := kf hV224 K216 D221 (by have := Y170.out; omega)
 have K232 := Lib.hid (show Blk V223 (w.heap.size + 1 + 1 + 1 + 1) 24 #[.float .f64 p9.lo, .float .f64 p9.hi] from (ks hV224 K217 D221).out)
 have K233 := kf hV224 K218 D221 (by have := Y170.out; omega)
 have K234 := kf hV224 K219 D221 (by have := Y170.out; omega)
 have HB235 := hbs hV224 HB220 D221 (by have := Y170.out; omega)
 have D236 := dr V223
 clear K213 K214 K215 K216 K217 K218 K219 HB220 D221
 go_simp
 clear hV224 f225 u226 hv227
 have hS237 : True ∧ Blk V223 (w.heap.size) 26 (vc n) ∧ Blk V223 (w.heap.size + 1) 26 (vc d) ∧ CellsL V223 (w.heap.size + 1 + 1) 0 [.float .f64 q.lo, .float .f64 q.hi] ∧ CellsL V223 (g119) 0 [.float .f64 p9.lo, .float .f64 p9.hi] ∧ CellsL V223 (g172) 0 [.float .f64 p11.lo, .float .f64 p11.hi] := ⟨trivial, (kb K228 D236), (kb K229 D236), (kb K230 D236).cellsL 0 [.float .f64 q.lo, .float .f64 q.hi] rfl, (kb K233 D236).cellsL 0 [.float .f64 p9.lo, .float .f64 p9.hi] rfl, (kb K234 D236).cellsL 0 [.float .f64 p11.lo, .float .f64 p11.hi] rfl⟩
 refine hK _ _ hS237 ?_
 clear hK K hS222
 refine tkq 11 (bm 12 4095) hS237 ?_
 refine wpAnyH_done (by kernel_rfl) ?_ _
 clear hS237
 go_wp2_with fail
 (try simp only [Exit.inBlock, Exit.then])
 exact bodyPost_ret (res_cct rfl _ _ (w.heap.size + 1 + 1 + 1) (vc p14) (w.heap.size + 1 + 1 + 1 + 1) #[.float .f64 p9.lo, .float .f64 p9.hi] rfl (kb K231 D236) (by rw [info_V3]; rfl) Tryz.underlying26 rfl rfl (kb K232 D236) (by rw [info_Span]; rfl) Tryz.underlying24 rfl) rfl ⟨rfl, below_step HB235.out D236.out⟩
theorem rbent_0 (n d : V3) (q : Sp) (h : posS (bdRest q (bdCos n d)) = 0) (w : World) : Calls Tryz.prog 36 #[Value.agg #[.float .f64 n.x.lo, .float .f64 n.x.hi, .float .f64 n.y.lo, .float .f64 n.y.hi, .float .f64 n.z.lo, .float .f64 n.z.hi], Value.agg #[.float .f64 d.x.lo, .float .f64 d.x.hi, .float .f64 d.y.lo, .float .f64 d.y.hi, .float .f64 d.z.lo, .float .f64 d.z.hi], Value.agg #[.float .f64 q.lo, .float .f64 q.hi]] w fun r w' => r = .returned (.tuple #[.agg #[.float .f64 0, .float .f64 0, .float .f64 0, .float .f64 0, .float .f64 0, .float .f64 0], .agg #[.float .f64 0, .float .f64 0], .int .i64 0]) ∧ Below w.heap.size w w' := by
 have C0 := Lib.hid (fun w => rdotV_any n d w)
 obtain ⟨p0, hp0⟩ : ∃ z_, vDot n d = z_ := ⟨_, rfl⟩
 rw [hp0] at C0
 have C1 := Lib.hid (fun w => rneg_sp p0 w)
 obtain ⟨p1, hp1⟩ : ∃ z_, negS p0 = z_ := ⟨_, rfl⟩
 rw [hp1] at C1
 have C2 := Lib.hid (fun w => rsqr_sp q w)
 obtain ⟨p2, hp2⟩ : ∃ z_, sqrS q = z_ := ⟨_, rfl⟩
 rw [hp2] at C2
 have C3 := Lib.hid (fun w => rsqr_sp p1 w)
 obtain ⟨p3, hp3⟩ : ∃ z_, sqrS p1 = z_ := ⟨_, rfl⟩
 rw [hp3] at C3
 have C4 := Lib.hid (fun w => rrest_any p3 w)
 obtain ⟨p4, hp4⟩ : ∃ z_, maxS (subS (ofS 4607182418800017408) p3) zeroS = z_ := ⟨_, rfl⟩
 rw [hp4] at C4
 have C5 := Lib.hid (fun w => rmul_sp p2 p4 w)
 obtain ⟨p5, hp5⟩ : ∃ z_, mulS p2 p4 = z_ := ⟨_, rfl⟩
 rw [hp5] at C5
 have C6 := Lib.hid (fun w => rof_sp 4607182418800017408 (by decide) w)
 obtain ⟨p6, hp6⟩ : ∃ z_, ofS 4607182418800017408 = z_ := ⟨_, rfl⟩
 rw [hp6] at C6
 have C7 := Lib.hid (fun w => rsub_sp p6 p5 w)
 obtain ⟨p7, hp7⟩ : ∃ z_, subS p6 p5 = z_ := ⟨_, rfl⟩
 rw [hp7] at C7
 have hl : posS p7 = 0 := by rw [← hp7, ← hp6, ← hp5, ← hp4, ← hp3, ← hp2, ← hp1, ← hp0]; exact h
 have C8 := Lib.hid (fun w => rpos_lit hl w)
 clear hp0 hp1 hp2 hp3 hp4 hp5 hp6 hp7
 go_enter Tryz.func36, Tryz.ntmps36
 go_wp2_with fail
 obtain ⟨W, hW, K0, K1, K2, K3, K4, hB, hz⟩ := bx5 w 26 26 24 26 24 (vc n) (vc d) #[.float .f64 q.lo, .float .f64 q.hi] #[.float .f64 0, .float .f64 0, .float .f64 0, .float .f64 0, .float .f64 0, .float .f64 0] #[.float .f64 0, .float .f64 0]
 rw [← hW]
 have K0 := Lib.hid K0
 have K1 := Lib.hid K1
 have K2 := Lib.hid K2
 have K3 := Lib.hid K3
 have K4 := Lib.hid K4
 have HB := Lib.hid hB
 clear hW hB hz
 have D1 := dr W
 refine (C0.out _).mono ?_
 rintro r w2 ⟨rfl, hb⟩
 have D3 := ds D1 hb
 clear D1
 clear hb
 go_wp2_with fail
 refine (C1.out _).mono ?_
 rintro r w4 ⟨rfl, hb⟩
 have D5 := ds D3 hb
 clear D3
 clear hb
 obtain ⟨g6, hg8⟩ : ∃ g, w4.heap.size = g := ⟨_, rfl⟩
 have Y10 := Lib.hid (show w.heap.size < g6 ∧ w.heap.size + 1 < g6 ∧ w.heap.size + 1 + 1 < g6 ∧ w.heap.size + 1 + 1 + 1 < g6 ∧ w.heap.size + 1 + 1 + 1 + 1 < g6 by rw [← hg8]; exact ⟨(kb K0 D5).lt, (kb K1 D5).lt, (kb K2 D5).lt, (kb K3 D5).lt, (kb K4 D5).lt⟩)
 obtain ⟨V7, hV9⟩ : ∃ V, w4.alloc (.cells #[.float .f64 0, .float .f64 0] 24) = V := ⟨_, rfl⟩
 have K11 := ka hV9 K2 D5
 have K12 := ka hV9 K3 D5
 have K13 := ka hV9 K4 D5
 have K14 := kn hV9 hg8
 have HB15 := hba hV9 HB D5
 have D16 := dr V7
 clear K0 K1 K2 K3 K4 HB D5
 have f19 := (kb K14 D16).cellsL 0 [.float .f64 0, .float .f64 0] rfl
 dsimp only [CellsL, al, vl, Nat.reduceAdd] at f19
 have u20 := (kb K14 D16).unfrozen
 obtain ⟨V17, hV18⟩ : ∃ V, setCells V7 (g6) 0 [.float .f64 p1.lo, .float .f64 p1.hi] = V := ⟨_, rfl⟩
 have hv21 := hV18
 simp only [setCells, Nat.reduceAdd] at hv21
 have K22 := kf hV18 K11 D16 (by have := Y10.out; omega)
 have K23 := kf hV18 K12 D16 (by have := Y10.out; omega)
 have K24 := kf hV18 K13 D16 (by have := Y10.out; omega)
 have K25 := Lib.hid (show Blk V17 (g6) 24 #[.float .f64 p1.lo, .float .f64 p1.hi] from (ks hV18 K14 D16).out)
 have HB26 := hbs hV18 HB15 D16 (by have := Y10.out; omega)
 have D27 := dr V17
 clear K11 K12 K13 K14 HB15 D16
 go_wp2_with fail
 clear hg8 hV9 hV18 f19 u20 hv21
 refine wp_region_held (S := (fun w' => True ∧ CellsL w' (w.heap.size + 1 + 1) 0 [.float .f64 q.lo, .float .f64 q.hi] ∧ CellsL w' (g6) 0 [.float .f64 p1.lo, .float .f64 p1.hi])) (by kernel_rfl) ?_
 change wpAnyH _ _ _ _ _ _ _ _ (World.drew _)
 obtain ⟨wd28, hwd⟩ : ∃ x, x = World.drew V17 := ⟨_, rfl⟩
 rw [← hwd]
 have D29 := Lib.hid (hwd ▸ Below.drew D27.out : Below V17.heap.size V17 wd28)
 clear D27 hwd
 have hS30 : True ∧ CellsL wd28 (w.heap.size + 1 + 1) 0 [.float .f64 q.lo, .float .f64 q.hi] ∧ CellsL wd28 (g6) 0 [.float .f64 p1.lo, .float .f64 p1.hi] := ⟨trivial, (kb K22 D29).cellsL 0 [.float .f64 q.lo, .float .f64 q.hi] rfl, (kb K25 D29).cellsL 0 [.float .f64 p1.lo, .float .f64 p1.hi] rfl⟩
 refine tke 0 (bm 8 1) hS30 ?_
 refine tke 2 (bm 8 5) hS30 ?_
 have HS33 := Lib.hid (show ∀ w', Below V17.heap.size V17 w' → (True ∧ CellsL w' (w.heap.size + 1 + 1) 0 [.float .f64 q.lo, .float .f64 q.hi] ∧ CellsL w' (g6) 0 [.float .f64 p1.lo, .float .f64 p1.hi]) from fun w' b => ⟨trivial, (K22.out.below b K22.out.lt).cellsL 0 [.float .f64 q.lo, .float .f64 q.hi] rfl, (K25.out.below b K25.out.lt).cellsL 0 [.float .f64 p1.lo, .float .f64 p1.hi] rfl⟩)
 refine wpAnyH_sets2 (N := 8) (stop := 127) (F := 1) (m := 5) (R := [1, 3, 4, 5, 6]) (M := [5, 7, 69, 15, 71, 31, 79, 63, 95, 127]) (fun i => if i = 1 then 1 else if i = 3 then 6 else if i = 4 then 8 else if i = 5 then 18 else if i = 6 then 0 else 0) (fun a0 m a w9 => ∃ (v1 v3 v4 v5 p6_ : Value) (g6_ : Nat), a = (((((a0.put (some 20) v1).put (some 22) v3).put (some 23) v4).put (some 24) v5).put (some 10) p6_) ∧ Below V17.heap.size V17 w9 ∧ (m.testBit 1 = true → v1 = Value.agg #[.float .f64 p2.lo, .float .f64 p2.hi]) ∧ (m.testBit 3 = true → v3 = Value.agg #[.float .f64 p3.lo, .float .f64 p3.hi]) ∧ (m.testBit 4 = true → v4 = Value.agg #[.float .f64 p4.lo, .float .f64 p4.hi]) ∧ (m.testBit 5 = true → v5 = Value.agg #[.float .f64 p5.lo, .float .f64 p5.hi]) ∧ (m.testBit 6 = true → p6_ = .pointer (some ⟨g6_, 0, none⟩) ∧ Blk w9 g6_ 24 #[.float .f64 0, .float .f64 0] ∧ V17.heap.size ≤ g6_)) (by kernel_rfl) (by kernel_rfl) (by kernel_rfl) (by kernel_rfl) ?st2 ?sp2 ?re2
 case st2 =>
   exact ⟨undef, undef, undef, undef, undef, 0, by go_simp, D29.out, fun h => absurd h (by decide), fun h => absurd h (by decide), fun h => absurd h (by decide), fun h => absurd h (by decide), fun h => absurd h (by decide)⟩
 case sp2 =>
   intro m a' w9 i hi hm hd hJ
   obtain ⟨v1, v3, v4, v5, p6_, g6_, rfl, hb0, cl1, cl3, cl4, cl5, ql6⟩ := hJ
   have CL1 := Lib.hid cl1
   have CL3 := Lib.hid cl3
   have CL4 := Lib.hid cl4
   have CL5 := Lib.hid cl5
   have QL6 := Lib.hid ql6
   have HB0 := Lib.hid hb0
   clear cl1 cl3 cl4 cl5 ql6 hb0 hS30
   simp only [List.mem_cons, List.not_mem_nil, or_false] at hi
   rcases hi with rfl | rfl | rfl | rfl | rfl
   · refine wpOp_at rfl (by kernel_rfl) (fun K hK => ?_)
     have hd := fun j => @tb_of _ _ j hd
     go_simp
     go_at_call 76
     refine (C2.out _).mono ?_
     rintro r w10 ⟨rfl, hb⟩
     dsimp only
     have hb1 := below_step HB0.out hb
     exact hK _ _ ⟨HS33.out _ hb1, _, v3, v4, v5, p6_, g6_, by go_simp, hb1, fun _ => rfl, fun h => CL3.out (tn h), fun h => CL4.out (tn h), fun h => CL5.out (tn h), fun h => ⟨(QL6.out (tn h)).1, (QL6.out (tn h)).2.1.below hb (QL6.out (tn h)).2.1.lt, (QL6.out (tn h)).2.2⟩⟩
   · refine wpOp_at rfl (by kernel_rfl) (fun K hK => ?_)
     have hd := fun j => @tb_of _ _ j hd
     obtain rfl := CL1.out (hd _ (by decide))
     go_simp
     go_at_call 76
     refine (C3.out _).mono ?_
     rintro r w10 ⟨rfl, hb⟩
     dsimp only
     have hb1 := below_step HB0.out hb
     exact hK _ _ ⟨HS33.out _ hb1, _, _, v4, v5, p6_, g6_, by go_simp, hb1, fun _ => rfl, fun _ => rfl, fun h => CL4.out (tn h), fun h => CL5.out (tn h), fun h => ⟨(QL6.out (tn h)).1, (QL6.out (tn h)).2.1.below hb (QL6.out (tn h)).2.1.lt, (QL6.out (tn h)).2.2⟩⟩
   · refine wpOp_at rfl (by kernel_rfl) (fun K hK => ?_)
     have hd := fun j => @tb_of _ _ j hd
     obtain rfl := CL3.out (hd _ (by decide))
     go_simp
     go_at_call 84
     refine (C4.out _).mono ?_
     rintro r w10 ⟨rfl, hb⟩
     dsimp only
     have hb1 := below_step HB0.out hb
     exact hK _ _ ⟨HS33.out _ hb1, v1, _, _, v5, p6_, g6_, by go_simp, hb1, fun h => CL1.out (tn h), fun _ => rfl, fun _ => rfl, fun h => CL5.out (tn h), fun h => ⟨(QL6.out (tn h)).1, (QL6.out (tn h)).2.1.below hb (QL6.out (tn h)).2.1.lt, (QL6.out (tn h)).2.2⟩⟩
   · refine wpOp_at rfl (by kernel_rfl) (fun K hK => ?_)
     have hd := fun j => @tb_of _ _ j hd
     obtain rfl := CL1.out (hd _ (by decide))
     obtain rfl := CL4.out (hd _ (by decide))
     go_simp
     go_at_call 75
     refine (C5.out _).mono ?_
     rintro r w10 ⟨rfl, hb⟩
     dsimp only
     have hb1 := below_step HB0.out hb
     exact hK _ _ ⟨HS33.out _ hb1, _, v3, _, _, p6_, g6_, by go_simp, hb1, fun _ => rfl, fun h => CL3.out (tn h), fun _ => rfl, fun _ => rfl, fun h => ⟨(QL6.out (tn h)).1, (QL6.out (tn h)).2.1.below hb (QL6.out (tn h)).2.1.lt, (QL6.out (tn h)).2.2⟩⟩
   · refine wpOp_at rfl (by kernel_rfl) (fun K hK => ?_)
     have hd := fun j => @tb_of _ _ j hd
     go_simp
     have hb1 := below_more HB0.out (.cells #[.float .f64 0, .float .f64 0] 24)
     exact hK _ _ ⟨HS33.out _ hb1, v1, v3, v4, v5, .pointer (some ⟨w9.heap.size, 0, none⟩), w9.heap.size, by go_simp, hb1, fun h => CL1.out (tn h), fun h => CL3.out (tn h), fun h => CL4.out (tn h), fun h => CL5.out (tn h), fun _ => ⟨rfl, Blk.new_at _ _ _ rfl, HB0.out.size⟩⟩
 clear hS30 D29 HS33
 intro a' W47 hJ
 obtain ⟨v1, v3, v4, v5, p6_, g48, rfl, hb0, cl1, cl3, cl4, cl5, ql6⟩ := hJ
 obtain rfl := cl1 (by decide)
 obtain rfl := cl3 (by decide)
 obtain rfl := cl4 (by decide)
 obtain rfl := cl5 (by decide)
 obtain ⟨rfl, kk6, ll6⟩ := ql6 (by decide)
 have D36 := Lib.hid hb0
 clear hb0
 refine wpAnyH_frame (a' := ?frq35) ?feq35 ?fgq35
 case feq35 => (go_simp; try with_reducible rfl)
 have K38 := Lib.hid ((kb K22 D36) : Blk W47 (w.heap.size + 1 + 1) 24 #[.float .f64 q.lo, .float .f64 q.hi])
 have K39 := Lib.hid ((kb K23 D36) : Blk W47 (w.heap.size + 1 + 1 + 1) 26 #[.float .f64 0, .float .f64 0, .float .f64 0, .float .f64 0, .float .f64 0, .float .f64 0])
 have K40 := Lib.hid ((kb K24 D36) : Blk W47 (w.heap.size + 1 + 1 + 1 + 1) 24 #[.float .f64 0, .float .f64 0])
 have K41 := Lib.hid ((kb K25 D36) : Blk W47 (g6) 24 #[.float .f64 p1.lo, .float .f64 p1.hi])
 have K42 := Lib.hid kk6
 clear kk6
 have HB45 := Lib.hid (below_step HB26.out D36.out)
 have Y44 := Lib.hid (show w.heap.size ≤ g48 ∧ w.heap.size + 1 + 1 < g48 ∧ w.heap.size + 1 + 1 + 1 < g48 ∧ w.heap.size + 1 + 1 + 1 + 1 < g48 ∧ g6 < g48 from ⟨Nat.le_trans HB26.out.size ll6, Nat.lt_of_lt_of_le K22.out.lt ll6, Nat.lt_of_lt_of_le K23.out.lt ll6, Nat.lt_of_lt_of_le K24.out.lt ll6, Nat.lt_of_lt_of_le K25.out.lt ll6⟩)
 have Y46 := Lib.hid (And.intro Y10.out Y44.out)
 clear Y10 Y44
 clear K22 K23 K24 K25 ll6 HB26
 have D49 := Lib.hid (Below.refl W47.heap.size W47)
 clear D36
 have hS50 : True ∧ CellsL W47 (w.heap.size + 1 + 1) 0 [.float .f64 q.lo, .float .f64 q.hi] ∧ CellsL W47 (g6) 0 [.float .f64 p1.lo, .float .f64 p1.hi] := ⟨trivial, (kb K38 D49).cellsL 0 [.float .f64 q.lo, .float .f64 q.hi] rfl, (kb K41 D49).cellsL 0 [.float .f64 p1.lo, .float .f64 p1.hi] rfl⟩
 refine wpAnyH_oneM (i := 7) (l' := bm 8 255) rfl (by kernel_rfl) (by kernel_rfl) (by kernel_rfl) (fun K hK => ?_)
 have f53 := (kb K42 D49).cellsL 0 [.float .f64 0, .float .f64 0] rfl
 dsimp only [CellsL, al, vl, Nat.reduceAdd] at f53
 have u54 := (kb K42 D49).unfrozen
 obtain ⟨V51, hV52⟩ : ∃ V, setCells W47 (g48) 0 [.float .f64 p5.lo, .float .f64 p5.hi] = V := ⟨_, rfl⟩
 have hv55 := hV52
 simp only [setCells, Nat.reduceAdd] at hv55
 have K56 := kf hV52 K38 D49 (by have := Y46.out; omega)
 have K57 := kf hV52 K39 D49 (by have := Y46.out; omega)
 have K58 := kf hV52 K40 D49 (by have := Y46.out; omega)
 have K59 := kf hV52 K41 D49 (by have := Y46.out; omega)
 have K60 := Lib.hid (show Blk V51 (g48) 24 #[.float .f64 p5.lo, .float .f64 p5.hi] from (ks hV52 K42 D49).out)
 have HB61 := hbs hV52 HB45 D49 (by have := Y46.out; omega)
 have D62 := dr V51
 clear K38 K39 K40 K41 K42 HB45 D49
 go_simp
 clear hV52 f53 u54 hv55
 have hS63 : True ∧ CellsL V51 (w.heap.size + 1 + 1) 0 [.float .f64 q.lo, .float .f64 q.hi] ∧ CellsL V51 (g6) 0 [.float .f64 p1.lo, .float .f64 p1.hi] := ⟨trivial, (kb K56 D62).cellsL 0 [.float .f64 q.lo, .float .f64 q.hi] rfl, (kb K59 D62).cellsL 0 [.float .f64 p1.lo, .float .f64 p1.hi] rfl⟩
 refine hK _ _ hS63 ?_
 clear hK K hS50
 refine wpAnyH_done (by kernel_rfl) ?_ _
 clear hS63
 go_wp2_with fail
 refine wp_region_held (S := (fun w' => True ∧ CellsL w' (g48) 0 [.float .f64 p5.lo, .float .f64 p5.hi])) (by kernel_rfl) ?_
 change wpAnyH _ _ _ _ _ _ _ _ (World.drew _)
 obtain ⟨wd64, hwd⟩ : ∃ x, x = World.drew V51 := ⟨_, rfl⟩
 rw [← hwd]
 have D65 := Lib.hid (hwd ▸ Below.drew D62.out : Below V51.heap.size V51 wd64)
 clear D62 hwd
 have hS66 : True ∧ CellsL wd64 (g48) 0 [.float .f64 p5.lo, .float .f64 p5.hi] := ⟨trivial, (kb K60 D65).cellsL 0 [.float .f64 p5.lo, .float .f64 p5.hi] rfl⟩
 refine tke 1 (bm 5 2) hS66 ?_
 have HS68 := Lib.hid (show ∀ w', Below V51.heap.size V51 w' → (True ∧ CellsL w' (g48) 0 [.float .f64 p5.lo, .float .f64 p5.hi]) from fun w' b => ⟨trivial, (K60.out.below b K60.out.lt).cellsL 0 [.float .f64 p5.lo, .float .f64 p5.hi] rfl⟩)
 refine wpAnyH_sets2 (N := 5) (stop := 15) (F := 1) (m := 2) (R := [0, 2, 3]) (M := [2, 3, 10, 7, 11, 15]) (fun i => if i = 0 then 0 else if i = 2 then 3 else if i = 3 then 0 else 0) (fun a0 m a w9 => ∃ (v0 v2 p3_ : Value) (g3_ : Nat), a = (((a0.put (some 25) v0).put (some 27) v2).put (some 11) p3_) ∧ Below V51.heap.size V51 w9 ∧ (m.testBit 0 = true → v0 = Value.agg #[.float .f64 p6.lo, .float .f64 p6.hi]) ∧ (m.testBit 2 = true → v2 = Value.agg #[.float .f64 p7.lo, .float .f64 p7.hi]) ∧ (m.testBit 3 = true → p3_ = .pointer (some ⟨g3_, 0, none⟩) ∧ Blk w9 g3_ 24 #[.float .f64 0, .float .f64 0] ∧ V51.heap.size ≤ g3_)) (by kernel_rfl) (by kernel_rfl) (by kernel_rfl) (by kernel_rfl) ?st3 ?sp3 ?re3
 case st3 =>
   exact ⟨undef, undef, undef, 0, by go_simp, D65.out, fun h => absurd h (by decide), fun h => absurd h (by decide), fun h => absurd h (by decide)⟩
 case sp3 =>
   intro m a' w9 i hi hm hd hJ
   obtain ⟨v0, v2, p3_, g3_, rfl, hb0, cl0, cl2, ql3⟩ := hJ
   have CL0 := Lib.hid cl0
   have CL2 := Lib.hid cl2
   have QL3 := Lib.hid ql3
   have HB0 := Lib.hid hb0
   clear cl0 cl2 ql3 hb0 hS66
   simp only [List.mem_cons, List.not_mem_nil, or_false] at hi
   rcases hi with rfl | rfl | rfl
   · refine wpOp_at rfl (by kernel_rfl) (fun K hK => ?_)
     have hd := fun j => @tb_of _ _ j hd
     go_simp
     go_at_call 70
     refine (C6.out _).mono ?_
     rintro r w10 ⟨rfl, hb⟩
     dsimp only
     have hb1 := below_step HB0.out hb
     exact hK _ _ ⟨HS68.out _ hb1, _, v2, p3_, g3_, by go_simp, hb1, fun _ => rfl, fun h => CL2.out (tn h), fun h => ⟨(QL3.out (tn h)).1, (QL3.out (tn h)).2.1.below hb (QL3.out (tn h)).2.1.lt, (QL3.out (tn h)).2.2⟩⟩
   · refine wpOp_at rfl (by kernel_rfl) (fun K hK => ?_)
     have hd := fun j => @tb_of _ _ j hd
     obtain rfl := CL0.out (hd _ (by decide))
     go_simp
     go_at_call 85
     refine (C7.out _).mono ?_
     rintro r w10 ⟨rfl, hb⟩
     dsimp only
     have hb1 := below_step HB0.out hb
     exact hK _ _ ⟨HS68.out _ hb1, _, _, p3_, g3_, by go_simp, hb1, fun _ => rfl, fun _ => rfl, fun h => ⟨(QL3.out (tn h)).1, (QL3.out (tn h)).2.1.below hb (QL3.out (tn h)).2.1.lt, (QL3.out (tn h)).2.2⟩⟩
   · refine wpOp_at rfl (by kernel_rfl) (fun K hK => ?_)
     have hd := fun j => @tb_of _ _ j hd
     go_simp
     have hb1 := below_more HB0.out (.cells #[.float .f64 0, .float .f64 0] 24)
     exact hK _ _ ⟨HS68.out _ hb1, v0, v2, .pointer (some ⟨w9.heap.size, 0, none⟩), w9.heap.size, by go_simp, hb1, fun h => CL0.out (tn h), fun h => CL2.out (tn h), fun _ => ⟨rfl, Blk.new_at _ _ _ rfl, HB0.out.size⟩⟩
 clear hS66 D65 HS68
 intro a' W81 hJ
 obtain ⟨v0, v2, p3_, g82, rfl, hb0, cl0, cl2, ql3⟩ := hJ
 obtain rfl := cl0 (by decide)
 obtain rfl := cl2 (by decide)
 obtain ⟨rfl, kk3, ll3⟩ := ql3 (by decide)
 have D71 := Lib.hid hb0
 clear hb0
 refine wpAnyH_frame (a' := ?frq70) ?feq70 ?fgq70
 case feq70 => (go_simp; try with_reducible rfl)
 have K73 := Lib.hid ((kb K57 D71) : Blk W81 (w.heap.size + 1 + 1 + 1) 26 #[.float .f64 0, .float .f64 0, .float .f64 0, .float .f64 0, .float .f64 0, .float .f64 0])
 have K74 := Lib.hid ((kb K58 D71) : Blk W81 (w.heap.size + 1 + 1 + 1 + 1) 24 #[.float .f64 0, .float .f64 0])
 have K75 := Lib.hid ((kb K60 D71) : Blk W81 (g48) 24 #[.float .f64 p5.lo, .float .f64 p5.hi])
 have K76 := Lib.hid kk3
 clear kk3
 have HB79 := Lib.hid (below_step HB61.out D71.out)
 have Y78 := Lib.hid (show w.heap.size ≤ g82 ∧ w.heap.size + 1 + 1 < g82 ∧ w.heap.size + 1 + 1 + 1 < g82 ∧ w.heap.size + 1 + 1 + 1 + 1 < g82 ∧ g6 < g82 ∧ g48 < g82 from ⟨Nat.le_trans HB61.out.size ll3, Nat.lt_of_lt_of_le K56.out.lt ll3, Nat.lt_of_lt_of_le K57.out.lt ll3, Nat.lt_of_lt_of_le K58.out.lt ll3, Nat.lt_of_lt_of_le K59.out.lt ll3, Nat.lt_of_lt_of_le K60.out.lt ll3⟩)
 have Y80 := Lib.hid (And.intro Y46.out Y78.out)
 clear Y46 Y78
 clear K56 K57 K58 K59 K60 ll3 HB61
 have D83 := Lib.hid (Below.refl W81.heap.size W81)
 clear D71
 have hS84 : True ∧ CellsL W81 (g48) 0 [.float .f64 p5.lo, .float .f64 p5.hi] := ⟨trivial, (kb K75 D83).cellsL 0 [.float .f64 p5.lo, .float .f64 p5.hi] rfl⟩
 refine wpAnyH_oneM (i := 4) (l' := bm 5 31) rfl (by kernel_rfl) (by kernel_rfl) (by kernel_rfl) (fun K hK => ?_)
 have f87 := (kb K76 D83).cellsL 0 [.float .f64 0, .float .f64 0] rfl
 dsimp only [CellsL, al, vl, Nat.reduceAdd] at f87
 have u88 := (kb K76 D83).unfrozen
 obtain ⟨V85, hV86⟩ : ∃ V, setCells W81 (g82) 0 [.float .f64 p7.lo, .float .f64 p7.hi] = V := ⟨_, rfl⟩
 have hv89 := hV86
 simp only [setCells, Nat.reduceAdd] at hv89
 have K90 := kf hV86 K73 D83 (by have := Y80.out; omega)
 have K91 := kf hV86 K74 D83 (by have := Y80.out; omega)
 have K92 := kf hV86 K75 D83 (by have := Y80.out; omega)
 have K93 := Lib.hid (show Blk V85 (g82) 24 #[.float .f64 p7.lo, .float .f64 p7.hi] from (ks hV86 K76 D83).out)
 have HB94 := hbs hV86 HB79 D83 (by have := Y80.out; omega)
 have D95 := dr V85
 clear K73 K74 K75 K76 HB79 D83
 go_simp
 clear hV86 f87 u88 hv89
 have hS96 : True ∧ CellsL V85 (g48) 0 [.float .f64 p5.lo, .float .f64 p5.hi] := ⟨trivial, (kb K92 D95).cellsL 0 [.float .f64 p5.lo, .float .f64 p5.hi] rfl⟩
 refine hK _ _ hS96 ?_
 clear hK K hS84
 refine wpAnyH_done (by kernel_rfl) ?_ _
 clear hS96
 have hq97 := (kb K93 D95).cellsL 0 [.float .f64 p7.lo, .float .f64 p7.hi] rfl
 dsimp only [CellsL, al, vl, Nat.reduceAdd] at hq97
 go_wp2_with fail
 clear hq97
 refine (C8.out _).mono ?_
 rintro r w98 ⟨rfl, hb⟩
 have D99 := ds D95 hb
 clear D95
 clear hb
 have f102 := (kb K90 D99)
 obtain ⟨V100, hV101⟩ : ∃ V, World.setRow w98 (w.heap.size + 1 + 1 + 1) #[.float .f64 0, .float .f64 0, .float .f64 0, .float .f64 0, .float .f64 0, .float .f64 0] = V := ⟨_, rfl⟩
 have K103 := ksr hV101 K90 D99
 have K104 := kfr hV101 K91 D99 (by have := Y80.out; omega)
 have HB105 := hbr hV101 HB94 D99 (by have := Y80.out; omega)
 have D106 := dr V100
 clear K90 K91 K92 K93 HB94 D99
 have f109 := (kb K104 D106).cellsL 0 [.float .f64 0, .float .f64 0] rfl
 dsimp only [CellsL, al, vl, Nat.reduceAdd] at f109
 have u110 := (kb K104 D106).unfrozen
 obtain ⟨V107, hV108⟩ : ∃ V, setCells V100 (w.heap.size + 1 + 1 + 1 + 1) 0 [.float .f64 0, .float .f64 0] = V := ⟨_, rfl⟩
 have hv111 := hV108
 simp only [setCells, Nat.reduceAdd] at hv111
 have K112 := kf hV108 K103 D106 (by have := Y80.out; omega)
 have K113 := Lib.hid (show Blk V107 (w.heap.size + 1 + 1 + 1 + 1) 24 #[.float .f64 0, .float .f64 0] from (ks hV108 K104 D106).out)
 have HB114 := hbs hV108 HB105 D106 (by have := Y80.out; omega)
 have D115 := dr V107
 clear K103 K104 HB105 D106
 go_wp2_with (refine wpList_store_row rfl 26 _ _ rfl (w.heap.size + 1 + 1 + 1) #[.float .f64 0, .float .f64 0, .float .f64 0, .float .f64 0, .float .f64 0, .float .f64 0] rfl rfl _ _ f102 (by rw [info_V3]; rfl) rfl (by kernel_rfl) ?_; rw [hV101])
 clear hV101 f102 hV108 f109 u110 hv111
 (try simp only [Exit.inBlock, Exit.then])
 exact bodyPost_ret (res_cct rfl _ _ (w.heap.size + 1 + 1 + 1) #[.float .f64 0, .float .f64 0, .float .f64 0, .float .f64 0, .float .f64 0, .float .f64 0] (w.heap.size + 1 + 1 + 1 + 1) #[.float .f64 0, .float .f64 0] rfl (kb K112 D115) (by rw [info_V3]; rfl) Tryz.underlying26 rfl rfl (kb K113 D115) (by rw [info_Span]; rfl) Tryz.underlying24 rfl) rfl ⟨rfl, below_step HB114.out D115.out⟩
theorem rbent_2 (n d : V3) (q : Sp) (h : posS (bdRest q (bdCos n d)) = 2) (w : World) : Calls Tryz.prog 36 #[Value.agg #[.float .f64 n.x.lo, .float .f64 n.x.hi, .float .f64 n.y.lo, .float .f64 n.y.hi, .float .f64 n.z.lo, .float .f64 n.z.hi], Value.agg #[.float .f64 d.x.lo, .float .f64 d.x.hi, .float .f64 d.y.lo, .float .f64 d.y.hi, .float .f64 d.z.lo, .float .f64 d.z.hi], Value.agg #[.float .f64 q.lo, .float .f64 q.hi]] w fun r w' => r = .returned (.tuple #[.agg #[.float .f64 0, .float .f64 0, .float .f64 0, .float .f64 0, .float .f64 0, .float .f64 0], .agg #[.float .f64 0, .float .f64 0], .int .i64 2]) ∧ Below w.heap.size w w' := by
 have C0 := Lib.hid (fun w => rdotV_any n d w)
 obtain ⟨p0, hp0⟩ : ∃ z_, vDot n d = z_ := ⟨_, rfl⟩
 rw [hp0] at C0
 have C1 := Lib.hid (fun w => rneg_sp p0 w)
 obtain ⟨p1, hp1⟩ : ∃ z_, negS p0 = z_ := ⟨_, rfl⟩
 rw [hp1] at C1
 have C2 := Lib.hid (fun w => rsqr_sp q w)
 obtain ⟨p2, hp2⟩ : ∃ z_, sqrS q = z_ := ⟨_, rfl⟩
 rw [hp2] at C2
 have C3 := Lib.hid (fun w => rsqr_sp p1 w)
 obtain ⟨p3, hp3⟩ : ∃ z_, sqrS p1 = z_ := ⟨_, rfl⟩
 rw [hp3] at C3
 have C4 := Lib.hid (fun w => rrest_any p3 w)
 obtain ⟨p4, hp4⟩ : ∃ z_, maxS (subS (ofS 4607182418800017408) p3) zeroS = z_ := ⟨_, rfl⟩
 rw [hp4] at C4
 have C5 := Lib.hid (fun w => rmul_sp p2 p4 w)
 obtain ⟨p5, hp5⟩ : ∃ z_, mulS p2 p4 = z_ := ⟨_, rfl⟩
 rw [hp5] at C5
 have C6 := Lib.hid (fun w => rof_sp 4607182418800017408 (by decide) w)
 obtain ⟨p6, hp6⟩ : ∃ z_, ofS 4607182418800017408 = z_ := ⟨_, rfl⟩
 rw [hp6] at C6
 have C7 := Lib.hid (fun w => rsub_sp p6 p5 w)
 obtain ⟨p7, hp7⟩ : ∃ z_, subS p6 p5 = z_ := ⟨_, rfl⟩
 rw [hp7] at C7
 have hl : posS p7 = 2 := by rw [← hp7, ← hp6, ← hp5, ← hp4, ← hp3, ← hp2, ← hp1, ← hp0]; exact h
 have C8 := Lib.hid (fun w => rpos_lit hl w)
 clear hp0 hp1 hp2 hp3 hp4 hp5 hp6 hp7
 go_enter Tryz.func36, Tryz.ntmps36
 go_wp2_with fail
 obtain ⟨W, hW, K0, K1, K2, K3, K4, hB, hz⟩ := bx5 w 26 26 24 26 24 (vc n) (vc d) #[.float .f64 q.lo, .float .f64 q.hi] #[.float .f64 0, .float .f64 0, .float .f64 0, .float .f64 0, .float .f64 0, .float .f64 0] #[.float .f64 0, .float .f64 0]
 rw [← hW]
 have K0 := Lib.hid K0
 have K1 := Lib.hid K1
 have K2 := Lib.hid K2
 have K3 := Lib.hid K3
 have K4 := Lib.hid K4
 have HB := Lib.hid hB
 clear hW hB hz
 have D1 := dr W
 refine (C0.out _).mono ?_
 rintro r w2 ⟨rfl, hb⟩
 have D3 := ds D1 hb
 clear D1
 clear hb
 go_wp2_with fail
 refine (C1.out _).mono ?_
 rintro r w4 ⟨rfl, hb⟩
 have D5 := ds D3 hb
 clear D3
 clear hb
 obtain ⟨g6, hg8⟩ : ∃ g, w4.heap.size = g := ⟨_, rfl⟩
 have Y10 := Lib.hid (show w.heap.size < g6 ∧ w.heap.size + 1 < g6 ∧ w.heap.size + 1 + 1 < g6 ∧ w.heap.size + 1 + 1 + 1 < g6 ∧ w.heap.size + 1 + 1 + 1 + 1 < g6 by rw [← hg8]; exact ⟨(kb K0 D5).lt, (kb K1 D5).lt, (kb K2 D5).lt, (kb K3 D5).lt, (kb K4 D5).lt⟩)
 obtain ⟨V7, hV9⟩ : ∃ V, w4.alloc (.cells #[.float .f64 0, .float .f64 0] 24) = V := ⟨_, rfl⟩
 have K11 := ka hV9 K2 D5
 have K12 := ka hV9 K3 D5
 have K13 := ka hV9 K4 D5
 have K14 := kn hV9 hg8
 have HB15 := hba hV9 HB D5
 have D16 := dr V7
 clear K0 K1 K2 K3 K4 HB D5
 have f19 := (kb K14 D16).cellsL 0 [.float .f64 0, .float .f64 0] rfl
 dsimp only [CellsL, al, vl, Nat.reduceAdd] at f19
 have u20 := (kb K14 D16).unfrozen
 obtain ⟨V17, hV18⟩ : ∃ V, setCells V7 (g6) 0 [.float .f64 p1.lo, .float .f64 p1.hi] = V := ⟨_, rfl⟩
 have hv21 := hV18
 simp only [setCells, Nat.reduceAdd] at hv21
 have K22 := kf hV18 K11 D16 (by have := Y10.out; omega)
 have K23 := kf hV18 K12 D16 (by have := Y10.out; omega)
 have K24 := kf hV18 K13 D16 (by have := Y10.out; omega)
 have K25 := Lib.hid (show Blk V17 (g6) 24 #[.float .f64 p1.lo, .float .f64 p1.hi] from (ks hV18 K14 D16).out)
 have HB26 := hbs hV18 HB15 D16 (by have := Y10.out; omega)
 have D27 := dr V17
 clear K11 K12 K13 K14 HB15 D16
 go_wp2_with fail
 clear hg8 hV9 hV18 f19 u20 hv21
 refine wp_region_held (S := (fun w' => True ∧ CellsL w' (w.heap.size + 1 + 1) 0 [.float .f64 q.lo, .float .f64 q.hi] ∧ CellsL w' (g6) 0 [.float .f64 p1.lo, .float .f64 p1.hi])) (by kernel_rfl) ?_
 change wpAnyH _ _ _ _ _ _ _ _ (World.drew _)
 obtain ⟨wd28, hwd⟩ : ∃ x, x = World.drew V17 := ⟨_, rfl⟩
 rw [← hwd]
 have D29 := Lib.hid (hwd ▸ Below.drew D27.out : Below V17.heap.size V17 wd28)
 clear D27 hwd
 have hS30 : True ∧ CellsL wd28 (w.heap.size + 1 + 1) 0 [.float .f64 q.lo, .float .f64 q.hi] ∧ CellsL wd28 (g6) 0 [.float .f64 p1.lo, .float .f64 p1.hi] := ⟨trivial, (kb K22 D29).cellsL 0 [.float .f64 q.lo, .float .f64 q.hi] rfl, (kb K25 D29).cellsL 0 [.float .f64 p1.lo, .float .f64 p1.hi] rfl⟩
 refine tke 0 (bm 8 1) hS30 ?_
 refine tke 2 (bm 8 5) hS30 ?_
 have HS33 := Lib.hid (show ∀ w', Below V17.heap.size V17 w' → (True ∧ CellsL w' (w.heap.size + 1 + 1) 0 [.float .f64 q.lo, .float .f64 q.hi] ∧ CellsL w' (g6) 0 [.float .f64 p1.lo, .float .f64 p1.hi]) from fun w' b => ⟨trivial, (K22.out.below b K22.out.lt).cellsL 0 [.float .f64 q.lo, .float .f64 q.hi] rfl, (K25.out.below b K25.out.lt).cellsL 0 [.float .f64 p1.lo, .float .f64 p1.hi] rfl⟩)
 refine wpAnyH_sets2 (N := 8) (stop := 127) (F := 1) (m := 5) (R := [1, 3, 4, 5, 6]) (M := [5, 7, 69, 15, 71, 31, 79, 63, 95, 127]) (fun i => if i = 1 then 1 else if i = 3 then 6 else if i = 4 then 8 else if i = 5 then 18 else if i = 6 then 0 else 0) (fun a0 m a w9 => ∃ (v1 v3 v4 v5 p6_ : Value) (g6_ : Nat), a = (((((a0.put (some 20) v1).put (some 22) v3).put (some 23) v4).put (some 24) v5).put (some 10) p6_) ∧ Below V17.heap.size V17 w9 ∧ (m.testBit 1 = true → v1 = Value.agg #[.float .f64 p2.lo, .float .f64 p2.hi]) ∧ (m.testBit 3 = true → v3 = Value.agg #[.float .f64 p3.lo, .float .f64 p3.hi]) ∧ (m.testBit 4 = true → v4 = Value.agg #[.float .f64 p4.lo, .float .f64 p4.hi]) ∧ (m.testBit 5 = true → v5 = Value.agg #[.float .f64 p5.lo, .float .f64 p5.hi]) ∧ (m.testBit 6 = true → p6_ = .pointer (some ⟨g6_, 0, none⟩) ∧ Blk w9 g6_ 24 #[.float .f64 0, .float .f64 0] ∧ V17.heap.size ≤ g6_)) (by kernel_rfl) (by kernel_rfl) (by kernel_rfl) (by kernel_rfl) ?st2 ?sp2 ?re2
 case st2 =>
   exact ⟨undef, undef, undef, undef, undef, 0, by go_simp, D29.out, fun h => absurd h (by decide), fun h => absurd h (by decide), fun h => absurd h (by decide), fun h => absurd h (by decide), fun h => absurd h (by decide)⟩
 case sp2 =>
   intro m a' w9 i hi hm hd hJ
   obtain ⟨v1, v3, v4, v5, p6_, g6_, rfl, hb0, cl1, cl3, cl4, cl5, ql6⟩ := hJ
   have CL1 := Lib.hid cl1
   have CL3 := Lib.hid cl3
   have CL4 := Lib.hid cl4
   have CL5 := Lib.hid cl5
   have QL6 := Lib.hid ql6
   have HB0 := Lib.hid hb0
   clear cl1 cl3 cl4 cl5 ql6 hb0 hS30
   simp only [List.mem_cons, List.not_mem_nil, or_false] at hi
   rcases hi with rfl | rfl | rfl | rfl | rfl
   · refine wpOp_at rfl (by kernel_rfl) (fun K hK => ?_)
     have hd := fun j => @tb_of _ _ j hd
     go_simp
     go_at_call 76
     refine (C2.out _).mono ?_
     rintro r w10 ⟨rfl, hb⟩
     dsimp only
     have hb1 := below_step HB0.out hb
     exact hK _ _ ⟨HS33.out _ hb1, _, v3, v4, v5, p6_, g6_, by go_simp, hb1, fun _ => rfl, fun h => CL3.out (tn h), fun h => CL4.out (tn h), fun h => CL5.out (tn h), fun h => ⟨(QL6.out (tn h)).1, (QL6.out (tn h)).2.1.below hb (QL6.out (tn h)).2.1.lt, (QL6.out (tn h)).2.2⟩⟩
   · refine wpOp_at rfl (by kernel_rfl) (fun K hK => ?_)
     have hd := fun j => @tb_of _ _ j hd
     obtain rfl := CL1.out (hd _ (by decide))
     go_simp
     go_at_call 76
     refine (C3.out _).mono ?_
     rintro r w10 ⟨rfl, hb⟩
     dsimp only
     have hb1 := below_step HB0.out hb
     exact hK _ _ ⟨HS33.out _ hb1, _, _, v4, v5, p6_, g6_, by go_simp, hb1, fun _ => rfl, fun _ => rfl, fun h => CL4.out (tn h), fun h => CL5.out (tn h), fun h => ⟨(QL6.out (tn h)).1, (QL6.out (tn h)).2.1.below hb (QL6.out (tn h)).2.1.lt, (QL6.out (tn h)).2.2⟩⟩
   · refine wpOp_at rfl (by kernel_rfl) (fun K hK => ?_)
     have hd := fun j => @tb_of _ _ j hd
     obtain rfl := CL3.out (hd _ (by decide))
     go_simp
     go_at_call 84
     refine (C4.out _).mono ?_
     rintro r w10 ⟨rfl, hb⟩
     dsimp only
     have hb1 := below_step HB0.out hb
     exact hK _ _ ⟨HS33.out _ hb1, v1, _, _, v5, p6_, g6_, by go_simp, hb1, fun h => CL1.out (tn h), fun _ => rfl, fun _ => rfl, fun h => CL5.out (tn h), fun h => ⟨(QL6.out (tn h)).1, (QL6.out (tn h)).2.1.below hb (QL6.out (tn h)).2.1.lt, (QL6.out (tn h)).2.2⟩⟩
   · refine wpOp_at rfl (by kernel_rfl) (fun K hK => ?_)
     have hd := fun j => @tb_of _ _ j hd
     obtain rfl := CL1.out (hd _ (by decide))
     obtain rfl := CL4.out (hd _ (by decide))
     go_simp
     go_at_call 75
     refine (C5.out _).mono ?_
     rintro r w10 ⟨rfl, hb⟩
     dsimp only
     have hb1 := below_step HB0.out hb
     exact hK _ _ ⟨HS33.out _ hb1, _, v3, _, _, p6_, g6_, by go_simp, hb1, fun _ => rfl, fun h => CL3.out (tn h), fun _ => rfl, fun _ => rfl, fun h => ⟨(QL6.out (tn h)).1, (QL6.out (tn h)).2.1.below hb (QL6.out (tn h)).2.1.lt, (QL6.out (tn h)).2.2⟩⟩
   · refine wpOp_at rfl (by kernel_rfl) (fun K hK => ?_)
     have hd := fun j => @tb_of _ _ j hd
     go_simp
     have hb1 := below_more HB0.out (.cells #[.float .f64 0, .float .f64 0] 24)
     exact hK _ _ ⟨HS33.out _ hb1, v1, v3, v4, v5, .pointer (some ⟨w9.heap.size, 0, none⟩), w9.heap.size, by go_simp, hb1, fun h => CL1.out (tn h), fun h => CL3.out (tn h), fun h => CL4.out (tn h), fun h => CL5.out (tn h), fun _ => ⟨rfl, Blk.new_at _ _ _ rfl, HB0.out.size⟩⟩
 clear hS30 D29 HS33
 intro a' W47 hJ
 obtain ⟨v1, v3, v4, v5, p6_, g48, rfl, hb0, cl1, cl3, cl4, cl5, ql6⟩ := hJ
 obtain rfl := cl1 (by decide)
 obtain rfl := cl3 (by decide)
 obtain rfl := cl4 (by decide)
 obtain rfl := cl5 (by decide)
 obtain ⟨rfl, kk6, ll6⟩ := ql6 (by decide)
 have D36 := Lib.hid hb0
 clear hb0
 refine wpAnyH_frame (a' := ?frq35) ?feq35 ?fgq35
 case feq35 => (go_simp; try with_reducible rfl)
 have K38 := Lib.hid ((kb K22 D36) : Blk W47 (w.heap.size + 1 + 1) 24 #[.float .f64 q.lo, .float .f64 q.hi])
 have K39 := Lib.hid ((kb K23 D36) : Blk W47 (w.heap.size + 1 + 1 + 1) 26 #[.float .f64 0, .float .f64 0, .float .f64 0, .float .f64 0, .float .f64 0, .float .f64 0])
 have K40 := Lib.hid ((kb K24 D36) : Blk W47 (w.heap.size + 1 + 1 + 1 + 1) 24 #[.float .f64 0, .float .f64 0])
 have K41 := Lib.hid ((kb K25 D36) : Blk W47 (g6) 24 #[.float .f64 p1.lo, .float .f64 p1.hi])
 have K42 := Lib.hid kk6
 clear kk6
 have HB45 := Lib.hid (below_step HB26.out D36.out)
 have Y44 := Lib.hid (show w.heap.size ≤ g48 ∧ w.heap.size + 1 + 1 < g48 ∧ w.heap.size + 1 + 1 + 1 < g48 ∧ w.heap.size + 1 + 1 + 1 + 1 < g48 ∧ g6 < g48 from ⟨Nat.le_trans HB26.out.size ll6, Nat.lt_of_lt_of_le K22.out.lt ll6, Nat.lt_of_lt_of_le K23.out.lt ll6, Nat.lt_of_lt_of_le K24.out.lt ll6, Nat.lt_of_lt_of_le K25.out.lt ll6⟩)
 have Y46 := Lib.hid (And.intro Y10.out Y44.out)
 clear Y10 Y44
 clear K22 K23 K24 K25 ll6 HB26
 have D49 := Lib.hid (Below.refl W47.heap.size W47)
 clear D36
 have hS50 : True ∧ CellsL W47 (w.heap.size + 1 + 1) 0 [.float .f64 q.lo, .float .f64 q.hi] ∧ CellsL W47 (g6) 0 [.float .f64 p1.lo, .float .f64 p1.hi] := ⟨trivial, (kb K38 D49).cellsL 0 [.float .f64 q.lo, .float .f64 q.hi] rfl, (kb K41 D49).cellsL 0 [.float .f64 p1.lo, .float .f64 p1.hi] rfl⟩
 refine wpAnyH_oneM (i := 7) (l' := bm 8 255) rfl (by kernel_rfl) (by kernel_rfl) (by kernel_rfl) (fun K hK => ?_)
 have f53 := (kb K42 D49).cellsL 0 [.float .f64 0, .float .f64 0] rfl
 dsimp only [CellsL, al, vl, Nat.reduceAdd] at f53
 have u54 := (kb K42 D49).unfrozen
 obtain ⟨V51, hV52⟩ : ∃ V, setCells W47 (g48) 0 [.float .f64 p5.lo, .float .f64 p5.hi] = V := ⟨_, rfl⟩
 have hv55 := hV52
 simp only [setCells, Nat.reduceAdd] at hv55
 have K56 := kf hV52 K38 D49 (by have := Y46.out; omega)
 have K57 := kf hV52 K39 D49 (by have := Y46.out; omega)
 have K58 := kf hV52 K40 D49 (by have := Y46.out; omega)
 have K59 := kf hV52 K41 D49 (by have := Y46.out; omega)
 have K60 := Lib.hid (show Blk V51 (g48) 24 #[.float .f64 p5.lo, .float .f64 p5.hi] from (ks hV52 K42 D49).out)
 have HB61 := hbs hV52 HB45 D49 (by have := Y46.out; omega)
 have D62 := dr V51
 clear K38 K39 K40 K41 K42 HB45 D49
 go_simp
 clear hV52 f53 u54 hv55
 have hS63 : True ∧ CellsL V51 (w.heap.size + 1 + 1) 0 [.float .f64 q.lo, .float .f64 q.hi] ∧ CellsL V51 (g6) 0 [.float .f64 p1.lo, .float .f64 p1.hi] := ⟨trivial, (kb K56 D62).cellsL 0 [.float .f64 q.lo, .float .f64 q.hi] rfl, (kb K59 D62).cellsL 0 [.float .f64 p1.lo, .float .f64 p1.hi] rfl⟩
 refine hK _ _ hS63 ?_
 clear hK K hS50
 refine wpAnyH_done (by kernel_rfl) ?_ _
 clear hS63
 go_wp2_with fail
 refine wp_region_held (S := (fun w' => True ∧ CellsL w' (g48) 0 [.float .f64 p5.lo, .float .f64 p5.hi])) (by kernel_rfl) ?_
 change wpAnyH _ _ _ _ _ _ _ _ (World.drew _)
 obtain ⟨wd64, hwd⟩ : ∃ x, x = World.drew V51 := ⟨_, rfl⟩
 rw [← hwd]
 have D65 := Lib.hid (hwd ▸ Below.drew D62.out : Below V51.heap.size V51 wd64)
 clear D62 hwd
 have hS66 : True ∧ CellsL wd64 (g48) 0 [.float .f64 p5.lo, .float .f64 p5.hi] := ⟨trivial, (kb K60 D65).cellsL 0 [.float .f64 p5.lo, .float .f64 p5.hi] rfl⟩
 refine tke 1 (bm 5 2) hS66 ?_
 have HS68 := Lib.hid (show ∀ w', Below V51.heap.size V51 w' → (True ∧ CellsL w' (g48) 0 [.float .f64 p5.lo, .float .f64 p5.hi]) from fun w' b => ⟨trivial, (K60.out.below b K60.out.lt).cellsL 0 [.float .f64 p5.lo, .float .f64 p5.hi] rfl⟩)
 refine wpAnyH_sets2 (N := 5) (stop := 15) (F := 1) (m := 2) (R := [0, 2, 3]) (M := [2, 3, 10, 7, 11, 15]) (fun i => if i = 0 then 0 else if i = 2 then 3 else if i = 3 then 0 else 0) (fun a0 m a w9 => ∃ (v0 v2 p3_ : Value) (g3_ : Nat), a = (((a0.put (some 25) v0).put (some 27) v2).put (some 11) p3_) ∧ Below V51.heap.size V51 w9 ∧ (m.testBit 0 = true → v0 = Value.agg #[.float .f64 p6.lo, .float .f64 p6.hi]) ∧ (m.testBit 2 = true → v2 = Value.agg #[.float .f64 p7.lo, .float .f64 p7.hi]) ∧ (m.testBit 3 = true → p3_ = .pointer (some ⟨g3_, 0, none⟩) ∧ Blk w9 g3_ 24 #[.float .f64 0, .float .f64 0] ∧ V51.heap.size ≤ g3_)) (by kernel_rfl) (by kernel_rfl) (by kernel_rfl) (by kernel_rfl) ?st3 ?sp3 ?re3
 case st3 =>
   exact ⟨undef, undef, undef, 0, by go_simp, D65.out, fun h => absurd h (by decide), fun h => absurd h (by decide), fun h => absurd h (by decide)⟩
 case sp3 =>
   intro m a' w9 i hi hm hd hJ
   obtain ⟨v0, v2, p3_, g3_, rfl, hb0, cl0, cl2, ql3⟩ := hJ
   have CL0 := Lib.hid cl0
   have CL2 := Lib.hid cl2
   have QL3 := Lib.hid ql3
   have HB0 := Lib.hid hb0
   clear cl0 cl2 ql3 hb0 hS66
   simp only [List.mem_cons, List.not_mem_nil, or_false] at hi
   rcases hi with rfl | rfl | rfl
   · refine wpOp_at rfl (by kernel_rfl) (fun K hK => ?_)
     have hd := fun j => @tb_of _ _ j hd
     go_simp
     go_at_call 70
     refine (C6.out _).mono ?_
     rintro r w10 ⟨rfl, hb⟩
     dsimp only
     have hb1 := below_step HB0.out hb
     exact hK _ _ ⟨HS68.out _ hb1, _, v2, p3_, g3_, by go_simp, hb1, fun _ => rfl, fun h => CL2.out (tn h), fun h => ⟨(QL3.out (tn h)).1, (QL3.out (tn h)).2.1.below hb (QL3.out (tn h)).2.1.lt, (QL3.out (tn h)).2.2⟩⟩
   · refine wpOp_at rfl (by kernel_rfl) (fun K hK => ?_)
     have hd := fun j => @tb_of _ _ j hd
     obtain rfl := CL0.out (hd _ (by decide))
     go_simp
     go_at_call 85
     refine (C7.out _).mono ?_
     rintro r w10 ⟨rfl, hb⟩
     dsimp only
     have hb1 := below_step HB0.out hb
     exact hK _ _ ⟨HS68.out _ hb1, _, _, p3_, g3_, by go_simp, hb1, fun _ => rfl, fun _ => rfl, fun h => ⟨(QL3.out (tn h)).1, (QL3.out (tn h)).2.1.below hb (QL3.out (tn h)).2.1.lt, (QL3.out (tn h)).2.2⟩⟩
   · refine wpOp_at rfl (by kernel_rfl) (fun K hK => ?_)
     have hd := fun j => @tb_of _ _ j hd
     go_simp
     have hb1 := below_more HB0.out (.cells #[.float .f64 0, .float .f64 0] 24)
     exact hK _ _ ⟨HS68.out _ hb1, v0, v2, .pointer (some ⟨w9.heap.size, 0, none⟩), w9.heap.size, by go_simp, hb1, fun h => CL0.out (tn h), fun h => CL2.out (tn h), fun _ => ⟨rfl, Blk.new_at _ _ _ rfl, HB0.out.size⟩⟩
 clear hS66 D65 HS68
 intro a' W81 hJ
 obtain ⟨v0, v2, p3_, g82, rfl, hb0, cl0, cl2, ql3⟩ := hJ
 obtain rfl := cl0 (by decide)
 obtain rfl := cl2 (by decide)
 obtain ⟨rfl, kk3, ll3⟩ := ql3 (by decide)
 have D71 := Lib.hid hb0
 clear hb0
 refine wpAnyH_frame (a' := ?frq70) ?feq70 ?fgq70
 case feq70 => (go_simp; try with_reducible rfl)
 have K73 := Lib.hid ((kb K57 D71) : Blk W81 (w.heap.size + 1 + 1 + 1) 26 #[.float .f64 0, .float .f64 0, .float .f64 0, .float .f64 0, .float .f64 0, .float .f64 0])
 have K74 := Lib.hid ((kb K58 D71) : Blk W81 (w.heap.size + 1 + 1 + 1 + 1) 24 #[.float .f64 0, .float .f64 0])
 have K75 := Lib.hid ((kb K60 D71) : Blk W81 (g48) 24 #[.float .f64 p5.lo, .float .f64 p5.hi])
 have K76 := Lib.hid kk3
 clear kk3
 have HB79 := Lib.hid (below_step HB61.out D71.out)
 have Y78 := Lib.hid (show w.heap.size ≤ g82 ∧ w.heap.size + 1 + 1 < g82 ∧ w.heap.size + 1 + 1 + 1 < g82 ∧ w.heap.size + 1 + 1 + 1 + 1 < g82 ∧ g6 < g82 ∧ g48 < g82 from ⟨Nat.le_trans HB61.out.size ll3, Nat.lt_of_lt_of_le K56.out.lt ll3, Nat.lt_of_lt_of_le K57.out.lt ll3, Nat.lt_of_lt_of_le K58.out.lt ll3, Nat.lt_of_lt_of_le K59.out.lt ll3, Nat.lt_of_lt_of_le K60.out.lt ll3⟩)
 have Y80 := Lib.hid (And.intro Y46.out Y78.out)
 clear Y46 Y78
 clear K56 K57 K58 K59 K60 ll3 HB61
 have D83 := Lib.hid (Below.refl W81.heap.size W81)
 clear D71
 have hS84 : True ∧ CellsL W81 (g48) 0 [.float .f64 p5.lo, .float .f64 p5.hi] := ⟨trivial, (kb K75 D83).cellsL 0 [.float .f64 p5.lo, .float .f64 p5.hi] rfl⟩
 refine wpAnyH_oneM (i := 4) (l' := bm 5 31) rfl (by kernel_rfl) (by kernel_rfl) (by kernel_rfl) (fun K hK => ?_)
 have f87 := (kb K76 D83).cellsL 0 [.float .f64 0, .float .f64 0] rfl
 dsimp only [CellsL, al, vl, Nat.reduceAdd] at f87
 have u88 := (kb K76 D83).unfrozen
 obtain ⟨V85, hV86⟩ : ∃ V, setCells W81 (g82) 0 [.float .f64 p7.lo, .float .f64 p7.hi] = V := ⟨_, rfl⟩
 have hv89 := hV86
 simp only [setCells, Nat.reduceAdd] at hv89
 have K90 := kf hV86 K73 D83 (by have := Y80.out; omega)
 have K91 := kf hV86 K74 D83 (by have := Y80.out; omega)
 have K92 := kf hV86 K75 D83 (by have := Y80.out; omega)
 have K93 := Lib.hid (show Blk V85 (g82) 24 #[.float .f64 p7.lo, .float .f64 p7.hi] from (ks hV86 K76 D83).out)
 have HB94 := hbs hV86 HB79 D83 (by have := Y80.out; omega)
 have D95 := dr V85
 clear K73 K74 K75 K76 HB79 D83
 go_simp
 clear hV86 f87 u88 hv89
 have hS96 : True ∧ CellsL V85 (g48) 0 [.float .f64 p5.lo, .float .f64 p5.hi] := ⟨trivial, (kb K92 D95).cellsL 0 [.float .f64 p5.lo, .float .f64 p5.hi] rfl⟩
 refine hK _ _ hS96 ?_
 clear hK K hS84
 refine wpAnyH_done (by kernel_rfl) ?_ _
 clear hS96
 have hq97 := (kb K93 D95).cellsL 0 [.float .f64 p7.lo, .float .f64 p7.hi] rfl
 dsimp only [CellsL, al, vl, Nat.reduceAdd] at hq97
 go_wp2_with fail
 clear hq97
 refine (C8.out _).mono ?_
 rintro r w98 ⟨rfl, hb⟩
 have D99 := ds D95 hb
 clear D95
 clear hb
 have f102 := (kb K90 D99)
 obtain ⟨V100, hV101⟩ : ∃ V, World.setRow w98 (w.heap.size + 1 + 1 + 1) #[.float .f64 0, .float .f64 0, .float .f64 0, .float .f64 0, .float .f64 0, .float .f64 0] = V := ⟨_, rfl⟩
 have K103 := ksr hV101 K90 D99
 have K104 := kfr hV101 K91 D99 (by have := Y80.out; omega)
 have HB105 := hbr hV101 HB94 D99 (by have := Y80.out; omega)
 have D106 := dr V100
 clear K90 K91 K92 K93 HB94 D99
 have f109 := (kb K104 D106).cellsL 0 [.float .f64 0, .float .f64 0] rfl
 dsimp only [CellsL, al, vl, Nat.reduceAdd] at f109
 have u110 := (kb K104 D106).unfrozen
 obtain ⟨V107, hV108⟩ : ∃ V, setCells V100 (w.heap.size + 1 + 1 + 1 + 1) 0 [.float .f64 0, .float .f64 0] = V := ⟨_, rfl⟩
 have hv111 := hV108
 simp only [setCells, Nat.reduceAdd] at hv111
 have K112 := kf hV108 K103 D106 (by have := Y80.out; omega)
 have K113 := Lib.hid (show Blk V107 (w.heap.size + 1 + 1 + 1 + 1) 24 #[.float .f64 0, .float .f64 0] from (ks hV108 K104 D106).out)
 have HB114 := hbs hV108 HB105 D106 (by have := Y80.out; omega)
 have D115 := dr V107
 clear K103 K104 HB105 D106
 go_wp2_with (refine wpList_store_row rfl 26 _ _ rfl (w.heap.size + 1 + 1 + 1) #[.float .f64 0, .float .f64 0, .float .f64 0, .float .f64 0, .float .f64 0, .float .f64 0] rfl rfl _ _ f102 (by rw [info_V3]; rfl) rfl (by kernel_rfl) ?_; rw [hV101])
 clear hV101 f102 hV108 f109 u110 hv111
 (try simp only [Exit.inBlock, Exit.then])
 exact bodyPost_ret (res_cct rfl _ _ (w.heap.size + 1 + 1 + 1) #[.float .f64 0, .float .f64 0, .float .f64 0, .float .f64 0, .float .f64 0, .float .f64 0] (w.heap.size + 1 + 1 + 1 + 1) #[.float .f64 0, .float .f64 0] rfl (kb K112 D115) (by rw [info_V3]; rfl) Tryz.underlying26 rfl rfl (kb K113 D115) (by rw [info_Span]; rfl) Tryz.underlying24 rfl) rfl ⟨rfl, below_step HB114.out D115.out⟩
theorem rfresnel_any (i o q : Sp) (w : World) : Calls Tryz.prog 38 #[Value.agg #[.float .f64 i.lo, .float .f64 i.hi], Value.agg #[.float .f64 o.lo, .float .f64 o.hi], Value.agg #[.float .f64 q.lo, .float .f64 q.hi]] w fun r w' => r = .returned (.agg #[.float .f64 (bdFr i o q).lo, .float .f64 (bdFr i o q).hi]) ∧ Below w.heap.size w w' := by
 have C0 := Lib.hid (fun w => rmul_sp q i w)
 obtain ⟨p0, hp0⟩ : ∃ z_, mulS q i = z_ := ⟨_, rfl⟩
 rw [hp0] at C0
 have C1 := Lib.hid (fun w => rshareB_any p0 o w)
 obtain ⟨p1, hp1⟩ : ∃ z_, sqrS (divS (subS p0 o) (addS p0 o)) = z_ := ⟨_, rfl⟩
 rw [hp1] at C1
 have C2 := Lib.hid (fun w => rmul_sp q o w)
 obtain ⟨p2, hp2⟩ : ∃ z_, mulS q o = z_ := ⟨_, rfl⟩
 rw [hp2] at C2
 have C3 := Lib.hid (fun w => rshareB_any i p2 w)
 obtain ⟨p3, hp3⟩ : ∃ z_, sqrS (divS (subS i p2) (addS i p2)) = z_ := ⟨_, rfl⟩
 rw [hp3] at C3
 have C4 := Lib.hid (fun w => radd_sp p1 p3 w)
 obtain ⟨p4, hp4⟩ : ∃ z_, addS p1 p3 = z_ := ⟨_, rfl⟩
 rw [hp4] at C4
 have C5 := Lib.hid (fun w => rof_sp 4602678819172646912 (by decide) w)
 obtain ⟨p5, hp5⟩ : ∃ z_, ofS 4602678819172646912 = z_ := ⟨_, rfl⟩
 rw [hp5] at C5
 have C6 := Lib.hid (fun w => rmul_sp p4 p5 w)
 obtain ⟨p6, hp6⟩ : ∃ z_, mulS p4 p5 = z_ := ⟨_, rfl⟩
 rw [hp6] at C6
 have hT : bdFr i o q = p6 := by
   subst hp0 hp1 hp2 hp3 hp4 hp5 hp6; rfl
 rw [hT]
 clear hT
 clear hp0 hp1 hp2 hp3 hp4 hp5 hp6
 go_enter Tryz.func38, Tryz.ntmps38
 go_wp2_with fail
 obtain ⟨W, hW, K0, K1, K2, K3, hB, hz⟩ := bx4 w 24 24 24 24 #[.float .f64 i.lo, .float .f64 i.hi] #[.float .f64 o.lo, .float .f64 o.hi] #[.float .f64 q.lo, .float .f64 q.hi] #[.float .f64 0, .float .f64 0]
 rw [← hW]
 have K0 := Lib.hid K0
 have K1 := Lib.hid K1
 have K2 := Lib.hid K2
 have K3 := Lib.hid K3
 have HB := Lib.hid hB
 clear hW hB hz
 have D1 := dr W
 refine wp_region_held (S := (fun w' => True ∧ CellsL w' (w.heap.size) 0 [.float .f64 i.lo, .float .f64 i.hi] ∧ CellsL w' (w.heap.size + 1) 0 [.float .f64 o.lo, .float .f64 o.hi] ∧ CellsL w' (w.heap.size + 1 + 1) 0 [.float .f64 q.lo, .float .f64 q.hi])) (by kernel_rfl) ?_
 change wpAnyH _ _ _ _ _ _ _ _ (World.drew _)
 obtain ⟨wd2, hwd⟩ : ∃ x, x = World.drew W := ⟨_, rfl⟩
 rw [← hwd]
 have D3 := Lib.hid (hwd ▸ Below.drew D1.out : Below W.heap.size W wd2)
 clear D1 hwd
 have hS4 : True ∧ CellsL wd2 (w.heap.size) 0 [.float .f64 i.lo, .float .f64 i.hi] ∧ CellsL wd2 (w.heap.size + 1) 0 [.float .f64 o.lo, .float .f64 o.hi] ∧ CellsL wd2 (w.heap.size + 1 + 1) 0 [.float .f64 q.lo, .float .f64 q.hi] := ⟨trivial, (kb K0 D3).cellsL 0 [.float .f64 i.lo, .float .f64 i.hi] rfl, (kb K1 D3).cellsL 0 [.float .f64 o.lo, .float .f64 o.hi] rfl, (kb K2 D3).cellsL 0 [.float .f64 q.lo, .float .f64 q.hi] rfl⟩
 refine tke 0 (bm 7 1) hS4 ?_
 refine tke 1 (bm 7 3) hS4 ?_
 refine tke 3 (bm 7 11) hS4 ?_
 have HS8 := Lib.hid (show ∀ w', Below W.heap.size W w' → (True ∧ CellsL w' (w.heap.size) 0 [.float .f64 i.lo, .float .f64 i.hi] ∧ CellsL w' (w.heap.size + 1) 0 [.float .f64 o.lo, .float .f64 o.hi] ∧ CellsL w' (w.heap.size + 1 + 1) 0 [.float .f64 q.lo, .float .f64 q.hi]) from fun w' b => ⟨trivial, (K0.out.below b K0.out.lt).cellsL 0 [.float .f64 i.lo, .float .f64 i.hi] rfl, (K1.out.below b K1.out.lt).cellsL 0 [.float .f64 o.lo, .float .f64 o.hi] rfl, (K2.out.below b K2.out.lt).cellsL 0 [.float .f64 q.lo, .float .f64 q.hi] rfl⟩)
 refine wpAnyH_sets2 (N := 7) (stop := 63) (F := 1) (m := 11) (R := [2, 4, 5]) (M := [11, 15, 43, 31, 47, 63]) (fun i => if i = 2 then 3 else if i = 4 then 12 else if i = 5 then 0 else 0) (fun a0 m a w9 => ∃ (v2 v4 p5_ : Value) (g5_ : Nat), a = (((a0.put (some 11) v2).put (some 13) v4).put (some 7) p5_) ∧ Below W.heap.size W w9 ∧ (m.testBit 2 = true → v2 = Value.agg #[.float .f64 p0.lo, .float .f64 p0.hi]) ∧ (m.testBit 4 = true → v4 = Value.agg #[.float .f64 p1.lo, .float .f64 p1.hi]) ∧ (m.testBit 5 = true → p5_ = .pointer (some ⟨g5_, 0, none⟩) ∧ Blk w9 g5_ 24 #[.float .f64 0, .float .f64 0] ∧ W.heap.size ≤ g5_)) (by kernel_rfl) (by kernel_rfl) (by kernel_rfl) (by kernel_rfl) ?st1 ?sp1 ?re1
 case st1 =>
   exact ⟨undef, undef, undef, 0, by go_simp, D3.out, fun h => absurd h (by decide), fun h => absurd h (by decide), fun h => absurd h (by decide)⟩
 case sp1 =>
   intro m a' w9 i hi hm hd hJ
   obtain ⟨v2, v4, p5_, g5_, rfl, hb0, cl2, cl4, ql5⟩ := hJ
   have CL2 := Lib.hid cl2
   have CL4 := Lib.hid cl4
   have QL5 := Lib.hid ql5
   have HB0 := Lib.hid hb0
   clear cl2 cl4 ql5 hb0 hS4
   simp only [List.mem_cons, List.not_mem_nil, or_false] at hi
   rcases hi with rfl | rfl | rfl
   · refine wpOp_at rfl (by kernel_rfl) (fun K hK => ?_)
     have hd := fun j => @tb_of _ _ j hd
     go_simp
     go_at_call 75
     refine (C0.out _).mono ?_
     rintro r w10 ⟨rfl, hb⟩
     dsimp only
     have hb1 := below_step HB0.out hb
     exact hK _ _ ⟨HS8.out _ hb1, _, v4, p5_, g5_, by go_simp, hb1, fun _ => rfl, fun h => CL4.out (tn h), fun h => ⟨(QL5.out (tn h)).1, (QL5.out (tn h)).2.1.below hb (QL5.out (tn h)).2.1.lt, (QL5.out (tn h)).2.2⟩⟩
   · refine wpOp_at rfl (by kernel_rfl) (fun K hK => ?_)
     have hd := fun j => @tb_of _ _ j hd
     obtain rfl := CL2.out (hd _ (by decide))
     go_simp
     go_at_call 86
     refine (C1.out _).mono ?_
     rintro r w10 ⟨rfl, hb⟩
     dsimp only
     have hb1 := below_step HB0.out hb
     exact hK _ _ ⟨HS8.out _ hb1, _, _, p5_, g5_, by go_simp, hb1, fun _ => rfl, fun _ => rfl, fun h => ⟨(QL5.out (tn h)).1, (QL5.out (tn h)).2.1.below hb (QL5.out (tn h)).2.1.lt, (QL5.out (tn h)).2.2⟩⟩
   · refine wpOp_at rfl (by kernel_rfl) (fun K hK => ?_)
     have hd := fun j => @tb_of _ _ j hd
     go_simp
     have hb1 := below_more HB0.out (.cells #[.float .f64 0, .float .f64 0] 24)
     exact hK _ _ ⟨HS8.out _ hb1, v2, v4, .pointer (some ⟨w9.heap.size, 0, none⟩), w9.heap.size, by go_simp, hb1, fun h => CL2.out (tn h), fun h => CL4.out (tn h), fun _ => ⟨rfl, Blk.new_at _ _ _ rfl, HB0.out.size⟩⟩
 clear hS4 D3 HS8
 intro a' W21 hJ
 obtain ⟨v2, v4, p5_, g22, rfl, hb0, cl2, cl4, ql5⟩ := hJ
 obtain rfl := cl2 (by decide)
 obtain rfl := cl4 (by decide)
 obtain ⟨rfl, kk5, ll5⟩ := ql5 (by decide)
 have D11 := Lib.hid hb0
 clear hb0
 refine wpAnyH_frame (a' := ?frq10) ?feq10 ?fgq10
 case feq10 => (go_simp; try with_reducible rfl)
 have K13 := Lib.hid ((kb K0 D11) : Blk W21 (w.heap.size) 24 #[.float .f64 i.lo, .float .f64 i.hi])
 have K14 := Lib.hid ((kb K1 D11) : Blk W21 (w.heap.size + 1) 24 #[.float .f64 o.lo, .float .f64 o.hi])
 have K15 := Lib.hid ((kb K2 D11) : Blk W21 (w.heap.size + 1 + 1) 24 #[.float .f64 q.lo, .float .f64 q.hi])
 have K16 := Lib.hid ((kb K3 D11) : Blk W21 (w.heap.size + 1 + 1 + 1) 24 #[.float .f64 0, .float .f64 0])
 have K17 := Lib.hid kk5
 clear kk5
 have HB20 := Lib.hid (below_step HB.out D11.out)
 have Y19 := Lib.hid (show w.heap.size ≤ g22 ∧ w.heap.size < g22 ∧ w.heap.size + 1 < g22 ∧ w.heap.size + 1 + 1 < g22 ∧ w.heap.size + 1 + 1 + 1 < g22 from ⟨Nat.le_trans HB.out.size ll5, Nat.lt_of_lt_of_le K0.out.lt ll5, Nat.lt_of_lt_of_le K1.out.lt ll5, Nat.lt_of_lt_of_le K2.out.lt ll5, Nat.lt_of_lt_of_le K3.out.lt ll5⟩)
 clear K0 K1 K2 K3 ll5 HB
 have D23 := Lib.hid (Below.refl W21.heap.size W21)
 clear D11
 have hS24 : True ∧ CellsL W21 (w.heap.size) 0 [.float .f64 i.lo, .float .f64 i.hi] ∧ CellsL W21 (w.heap.size + 1) 0 [.float .f64 o.lo, .float .f64 o.hi] ∧ CellsL W21 (w.heap.size + 1 + 1) 0 [.float .f64 q.lo, .float .f64 q.hi] := ⟨trivial, (kb K13 D23).cellsL 0 [.float .f64 i.lo, .float .f64 i.hi] rfl, (kb K14 D23).cellsL 0 [.float .f64 o.lo, .float .f64 o.hi] rfl, (kb K15 D23).cellsL 0 [.float .f64 q.lo, .float .f64 q.hi] rfl⟩
 refine wpAnyH_oneM (i := 6) (l' := bm 7 127) rfl (by kernel_rfl) (by kernel_rfl) (by kernel_rfl) (fun K hK => ?_)
 have f27 := (kb K17 D23).cellsL 0 [.float .f64 0, .float .f64 0] rfl
 dsimp only [CellsL, al, vl, Nat.reduceAdd] at f27
 have u28 := (kb K17 D23).unfrozen
 obtain ⟨V25, hV26⟩ : ∃ V, setCells W21 (g22) 0 [.float .f64 p1.lo, .float .f64 p1.hi] = V := ⟨_, rfl⟩
 have hv29 := hV26
 simp only [setCells, Nat.reduceAdd] at hv29
 have K30 := kf hV26 K13 D23 (by have := Y19.out; omega)
 have K31 := kf hV26 K14 D23 (by have := Y19.out; omega)
 have K32 := kf hV26 K15 D23 (by have := Y19.out; omega)
 have K33 := kf hV26 K16 D23 (by have := Y19.out; omega)
 have K34 := Lib.hid (show Blk V25 (g22) 24 #[.float .f64 p1.lo, .float .f64 p1.hi] from (ks hV26 K17 D23).out)
 have HB35 := hbs hV26 HB20 D23 (by have := Y19.out; omega)
 have D36 := dr V25
 clear K13 K14 K15 K16 K17 HB20 D23
 go_simp
 clear hV26 f27 u28 hv29
 have hS37 : True ∧ CellsL V25 (w.heap.size) 0 [.float .f64 i.lo, .float .f64 i.hi] ∧ CellsL V25 (w.heap.size + 1) 0 [.float .f64 o.lo, .float .f64 o.hi] ∧ CellsL V25 (w.heap.size + 1 + 1) 0 [.float .f64 q.lo, .float .f64 q.hi] := ⟨trivial, (kb K30 D36).cellsL 0 [.float .f64 i.lo, .float .f64 i.hi] rfl, (kb K31 D36).cellsL 0 [.float .f64 o.lo, .float .f64 o.hi] rfl, (kb K32 D36).cellsL 0 [.float .f64 q.lo, .float .f64 q.hi] rfl⟩
 refine hK _ _ hS37 ?_
 clear hK K hS24
 refine wpAnyH_done (by kernel_rfl) ?_ _
 clear hS37
 go_wp2_with fail
 refine wp_region_held (S := (fun w' => True ∧ CellsL w' (w.heap.size) 0 [.float .f64 i.lo, .float .f64 i.hi] ∧ CellsL w' (w.heap.size + 1) 0 [.float .f64 o.lo, .float .f64 o.hi] ∧ CellsL w' (w.heap.size + 1 + 1) 0 [.float .f64 q.lo, .float .f64 q.hi])) (by kernel_rfl) ?_
 change wpAnyH _ _ _ _ _ _ _ _ (World.drew _)
 obtain ⟨wd38, hwd⟩ : ∃ x, x = World.drew V25 := ⟨_, rfl⟩
 rw [← hwd]
 have D39 := Lib.hid (hwd ▸ Below.drew D36.out : Below V25.heap.size V25 wd38)
 clear D36 hwd
 have hS40 : True ∧ CellsL wd38 (w.heap.size) 0 [.float .f64 i.lo, .float .f64 i.hi] ∧ CellsL wd38 (w.heap.size + 1) 0 [.float .f64 o.lo, .float .f64 o.hi] ∧ CellsL wd38 (w.heap.size + 1 + 1) 0 [.float .f64 q.lo, .float .f64 q.hi] := ⟨trivial, (kb K30 D39).cellsL 0 [.float .f64 i.lo, .float .f64 i.hi] rfl, (kb K31 D39).cellsL 0 [.float .f64 o.lo, .float .f64 o.hi] rfl, (kb K32 D39).cellsL 0 [.float .f64 q.lo, .float .f64 q.hi] rfl⟩
 refine tke 0 (bm 7 1) hS40 ?_
 refine tke 1 (bm 7 3) hS40 ?_
 refine tke 2 (bm 7 7) hS40 ?_
 have HS44 := Lib.hid (show ∀ w', Below V25.heap.size V25 w' → (True ∧ CellsL w' (w.heap.size) 0 [.float .f64 i.lo, .float .f64 i.hi] ∧ CellsL w' (w.heap.size + 1) 0 [.float .f64 o.lo, .float .f64 o.hi] ∧ CellsL w' (w.heap.size + 1 + 1) 0 [.float .f64 q.lo, .float .f64 q.hi]) from fun w' b => ⟨trivial, (K30.out.below b K30.out.lt).cellsL 0 [.float .f64 i.lo, .float .f64 i.hi] rfl, (K31.out.below b K31.out.lt).cellsL 0 [.float .f64 o.lo, .float .f64 o.hi] rfl, (K32.out.below b K32.out.lt).cellsL 0 [.float .f64 q.lo, .float .f64 q.hi] rfl⟩)
 refine wpAnyH_sets2 (N := 7) (stop := 63) (F := 1) (m := 7) (R := [3, 4, 5]) (M := [7, 15, 39, 31, 47, 63]) (fun i => if i = 3 then 6 else if i = 4 then 9 else if i = 5 then 0 else 0) (fun a0 m a w9 => ∃ (v3 v4 p5_ : Value) (g5_ : Nat), a = (((a0.put (some 17) v3).put (some 18) v4).put (some 8) p5_) ∧ Below V25.heap.size V25 w9 ∧ (m.testBit 3 = true → v3 = Value.agg #[.float .f64 p2.lo, .float .f64 p2.hi]) ∧ (m.testBit 4 = true → v4 = Value.agg #[.float .f64 p3.lo, .float .f64 p3.hi]) ∧ (m.testBit 5 = true → p5_ = .pointer (some ⟨g5_, 0, none⟩) ∧ Blk w9 g5_ 24 #[.float .f64 0, .float .f64 0] ∧ V25.heap.size ≤ g5_)) (by kernel_rfl) (by kernel_rfl) (by kernel_rfl) (by kernel_rfl) ?st2 ?sp2 ?re2
 case st2 =>
   exact ⟨undef, undef, undef, 0, by go_simp, D39.out, fun h => absurd h (by decide), fun h => absurd h (by decide), fun h => absurd h (by decide)⟩
 case sp2 =>
   intro m a' w9 i hi hm hd hJ
   obtain ⟨v3, v4, p5_, g5_, rfl, hb0, cl3, cl4, ql5⟩ := hJ
   have CL3 := Lib.hid cl3
   have CL4 := Lib.hid cl4
   have QL5 := Lib.hid ql5
   have HB0 := Lib.hid hb0
   clear cl3 cl4 ql5 hb0 hS40
   simp only [List.mem_cons, List.not_mem_nil, or_false] at hi
   rcases hi with rfl | rfl | rfl
   · refine wpOp_at rfl (by kernel_rfl) (fun K hK => ?_)
     have hd := fun j => @tb_of _ _ j hd
     go_simp
     go_at_call 75
     refine (C2.out _).mono ?_
     rintro r w10 ⟨rfl, hb⟩
     dsimp only
     have hb1 := below_step HB0.out hb
     exact hK _ _ ⟨HS44.out _ hb1, _, v4, p5_, g5_, by go_simp, hb1, fun _ => rfl, fun h => CL4.out (tn h), fun h => ⟨(QL5.out (tn h)).1, (QL5.out (tn h)).2.1.below hb (QL5.out (tn h)).2.1.lt, (QL5.out (tn h)).2.2⟩⟩
   · refine wpOp_at rfl (by kernel_rfl) (fun K hK => ?_)
     have hd := fun j => @tb_of _ _ j hd
     obtain rfl := CL3.out (hd _ (by decide))
     go_simp
     go_at_call 86
     refine (C3.out _).mono ?_
     rintro r w10 ⟨rfl, hb⟩
     dsimp only
     have hb1 := below_step HB0.out hb
     exact hK _ _ ⟨HS44.out _ hb1, _, _, p5_, g5_, by go_simp, hb1, fun _ => rfl, fun _ => rfl, fun h => ⟨(QL5.out (tn h)).1, (QL5.out (tn h)).2.1.below hb (QL5.out (tn h)).2.1.lt, (QL5.out (tn h)).2.2⟩⟩
   · refine wpOp_at rfl (by kernel_rfl) (fun K hK => ?_)
     have hd := fun j => @tb_of _ _ j hd
     go_simp
     have hb1 := below_more HB0.out (.cells #[.float .f64 0, .float .f64 0] 24)
     exact hK _ _ ⟨HS44.out _ hb1, v3, v4, .pointer (some ⟨w9.heap.size, 0, none⟩), w9.heap.size, by go_simp, hb1, fun h => CL3.out (tn h), fun h => CL4.out (tn h), fun _ => ⟨rfl, Blk.new_at _ _ _ rfl, HB0.out.size⟩⟩
 clear hS40 D39 HS44
 intro a' W59 hJ
 obtain ⟨v3, v4, p5_, g60, rfl, hb0, cl3, cl4, ql5⟩ := hJ
 obtain rfl := cl3 (by decide)
 obtain rfl := cl4 (by decide)
 obtain ⟨rfl, kk5, ll5⟩ := ql5 (by decide)
 have D47 := Lib.hid hb0
 clear hb0
 refine wpAnyH_frame (a' := ?frq46) ?feq46 ?fgq46
 case feq46 => (go_simp; try with_reducible rfl)
 have K49 := Lib.hid ((kb K30 D47) : Blk W59 (w.heap.size) 24 #[.float .f64 i.lo, .float .f64 i.hi])
 have K50 := Lib.hid ((kb K31 D47) : Blk W59 (w.heap.size + 1) 24 #[.float .f64 o.lo, .float .f64 o.hi])
 have K51 := Lib.hid ((kb K32 D47) : Blk W59 (w.heap.size + 1 + 1) 24 #[.float .f64 q.lo, .float .f64 q.hi])
 have K52 := Lib.hid ((kb K33 D47) : Blk W59 (w.heap.size + 1 + 1 + 1) 24 #[.float .f64 0, .float .f64 0])
 have K53 := Lib.hid ((kb K34 D47) : Blk W59 (g22) 24 #[.float .f64 p1.lo, .float .f64 p1.hi])
 have K54 := Lib.hid kk5
 clear kk5
 have HB57 := Lib.hid (below_step HB35.out D47.out)
 have Y56 := Lib.hid (show w.heap.size ≤ g60 ∧ w.heap.size < g60 ∧ w.heap.size + 1 < g60 ∧ w.heap.size + 1 + 1 < g60 ∧ w.heap.size + 1 + 1 + 1 < g60 ∧ g22 < g60 from ⟨Nat.le_trans HB35.out.size ll5, Nat.lt_of_lt_of_le K30.out.lt ll5, Nat.lt_of_lt_of_le K31.out.lt ll5, Nat.lt_of_lt_of_le K32.out.lt ll5, Nat.lt_of_lt_of_le K33.out.lt ll5, Nat.lt_of_lt_of_le K34.out.lt ll5⟩)
 have Y58 := Lib.hid (And.intro Y19.out Y56.out)
 clear Y19 Y56
 clear K30 K31 K32 K33 K34 ll5 HB35
 have D61 := Lib.hid (Below.refl W59.heap.size W59)
 clear D47
 have hS62 : True ∧ CellsL W59 (w.heap.size) 0 [.float .f64 i.lo, .float .f64 i.hi] ∧ CellsL W59 (w.heap.size + 1) 0 [.float .f64 o.lo, .float .f64 o.hi] ∧ CellsL W59 (w.heap.size + 1 + 1) 0 [.float .f64 q.lo, .float .f64 q.hi] := ⟨trivial, (kb K49 D61).cellsL 0 [.float .f64 i.lo, .float .f64 i.hi] rfl, (kb K50 D61).cellsL 0 [.float .f64 o.lo, .float .f64 o.hi] rfl, (kb K51 D61).cellsL 0 [.float .f64 q.lo, .float .f64 q.hi] rfl⟩
 refine wpAnyH_oneM (i := 6) (l' := bm 7 127) rfl (by kernel_rfl) (by kernel_rfl) (by kernel_rfl) (fun K hK => ?_)
 have f65 := (kb K54 D61).cellsL 0 [.float .f64 0, .float .f64 0] rfl
 dsimp only [CellsL, al, vl, Nat.reduceAdd] at f65
 have u66 := (kb K54 D61).unfrozen
 obtain ⟨V63, hV64⟩ : ∃ V, setCells W59 (g60) 0 [.float .f64 p3.lo, .float .f64 p3.hi] = V := ⟨_, rfl⟩
 have hv67 := hV64
 simp only [setCells, Nat.reduceAdd] at hv67
 have K68 := kf hV64 K49 D61 (by have := Y58.out; omega)
 have K69 := kf hV64 K50 D61 (by have := Y58.out; omega)
 have K70 := kf hV64 K51 D61 (by have := Y58.out; omega)
 have K71 := kf hV64 K52 D61 (by have := Y58.out; omega)
 have K72 := kf hV64 K53 D61 (by have := Y58.out; omega)
 have K73 := Lib.hid (show Blk V63 (g60) 24 #[.float .f64 p3.lo, .float .f64 p3.hi] from (ks hV64 K54 D61).out)
 have HB74 := hbs hV64 HB57 D61 (by have := Y58.out; omega)
 have D75 := dr V63
 clear K49 K50 K51 K52 K53 K54 HB57 D61
 go_simp
 clear hV64 f65 u66 hv67
 have hS76 : True ∧ CellsL V63 (w.heap.size) 0 [.float .f64 i.lo, .float .f64 i.hi] ∧ CellsL V63 (w.heap.size + 1) 0 [.float .f64 o.lo, .float .f64 o.hi] ∧ CellsL V63 (w.heap.size + 1 + 1) 0 [.float .f64 q.lo, .float .f64 q.hi] := ⟨trivial, (kb K68 D75).cellsL 0 [.float .f64 i.lo, .float .f64 i.hi] rfl, (kb K69 D75).cellsL 0 [.float .f64 o.lo, .float .f64 o.hi] rfl, (kb K70 D75).cellsL 0 [.float .f64 q.lo, .float .f64 q.hi] rfl⟩
 refine hK _ _ hS76 ?_
 clear hK K hS62
 refine wpAnyH_done (by kernel_rfl) ?_ _
 clear hS76
 have hq77 := (kb K72 D75).cellsL 0 [.float .f64 p1.lo, .float .f64 p1.hi] rfl
 dsimp only [CellsL, al, vl, Nat.reduceAdd] at hq77
 have hq78 := (kb K73 D75).cellsL 0 [.float .f64 p3.lo, .float .f64 p3.hi] rfl
 dsimp only [CellsL, al, vl, Nat.reduceAdd] at hq78
 go_wp2_with fail
 clear hq77 hq78
 refine (C4.out _).mono ?_
 rintro r w79 ⟨rfl, hb⟩
 have D80 := ds D75 hb
 clear D75
 clear hb
 go_wp2_with fail
 refine (C5.out _).mono ?_
 rintro r w81 ⟨rfl, hb⟩
 have D82 := ds D80 hb
 clear D80
 clear hb
 go_wp2_with fail
 refine (C6.out _).mono ?_
 rintro r w83 ⟨rfl, hb⟩
 have D84 := ds D82 hb
 clear D82
 clear hb
 have f87 := (kb K71 D84).cellsL 0 [.float .f64 0, .float .f64 0] rfl
 dsimp only [CellsL, al, vl, Nat.reduceAdd] at f87
 have u88 := (kb K71 D84).unfrozen
 obtain ⟨V85, hV86⟩ : ∃ V, setCells w83 (w.heap.size + 1 + 1 + 1) 0 [.float .f64 p6.lo, .float .f64 p6.hi] = V := ⟨_, rfl⟩
 have hv89 := hV86
 simp only [setCells, Nat.reduceAdd] at hv89
 have K90 := Lib.hid (show Blk V85 (w.heap.size + 1 + 1 + 1) 24 #[.float .f64 p6.lo, .float .f64 p6.hi] from (ks hV86 K71 D84).out)
 have HB91 := hbs hV86 HB74 D84 (by have := Y58.out; omega)
 have D92 := dr V85
 clear K68 K69 K70 K71 K72 K73 HB74 D84
 go_wp2_with fail
 clear hV86 f87 u88 hv89
 (try simp only [Exit.inBlock, Exit.then])
 exact bodyPost_ret (res_c rfl _ _ (w.heap.size + 1 + 1 + 1) #[.float .f64 p6.lo, .float .f64 p6.hi] rfl (kb K90 D92) (by rw [info_Span]; rfl) Tryz.underlying24 rfl) rfl ⟨rfl, below_step HB91.out D92.out⟩
end Go.Proofs.YtnljfcebmgifdaaGreat
