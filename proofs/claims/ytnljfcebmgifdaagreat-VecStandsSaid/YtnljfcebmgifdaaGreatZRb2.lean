/- Shaken: Zb. -/
import Derived.Test.YtnljfcebmgifdaaGreatZRb1
set_option linter.unusedVariables false
set_option linter.unusedSimpArgs false
namespace Go.Proofs.YtnljfcebmgifdaaGreat
open Go.RowKit Fl
set_option maxRecDepth 100000 in
set_option maxHeartbeats 8000000 in
theorem frame_m (n : V3) (fq : Int) (sw : Nat) (hsw : sw < 18446744073709551616) (hk : (posS (negS n.z) = 1 ∧ fq = 1 ∧ sw = 13830554455654793216) ∨ (posS (negS n.z) = 0 ∧ fq = 1 ∧ sw = 4607182418800017408) ∨ (posS (negS n.z) = 2 ∧ fq = 2 ∧ sw = 4607182418800017408)) (w : World) : Calls Tryz.prog 26 #[Value.agg #[.float .f64 n.x.lo, .float .f64 n.x.hi, .float .f64 n.y.lo, .float .f64 n.y.hi, .float .f64 n.z.lo, .float .f64 n.z.hi]] w fun r w' => r = .returned (.tuple #[vval (frT (ofS sw) n), vval (frU (ofS sw) n), .int .i64 fq]) ∧ Below w.heap.size w w' := by
 have C0 := Lib.hid (fun w => neg_sp n.z w)
 obtain ⟨p0, hp0⟩ : ∃ z_, negS n.z = z_ := ⟨_, rfl⟩
 rw [hp0] at C0
 rw [hp0] at hk
 have C1 := Lib.hid (fun w => pos_sp p0 w)
 have C2 := Lib.hid (fun w => of_sp sw hsw w)
 obtain ⟨p2, hp2⟩ : ∃ z_, ofS sw = z_ := ⟨_, rfl⟩
 rw [hp2] at C2
 have C3 := Lib.hid (fun w => of_sp 4607182418800017408 (by decide) w)
 obtain ⟨p3, hp3⟩ : ∃ z_, ofS 4607182418800017408 = z_ := ⟨_, rfl⟩
 rw [hp3] at C3
 have C4 := Lib.hid (fun w => add_sp p2 n.z w)
 obtain ⟨p4, hp4⟩ : ∃ z_, addS p2 n.z = z_ := ⟨_, rfl⟩
 rw [hp4] at C4
 have C5 := Lib.hid (fun w => div_sp p3 p4 w)
 obtain ⟨p5, hp5⟩ : ∃ z_, divS p3 p4 = z_ := ⟨_, rfl⟩
 rw [hp5] at C5
 have C6 := Lib.hid (fun w => neg_sp p5 w)
 obtain ⟨p6, hp6⟩ : ∃ z_, negS p5 = z_ := ⟨_, rfl⟩
 rw [hp6] at C6
 have C7 := Lib.hid (fun w => mul_sp n.x n.y w)
 obtain ⟨p7, hp7⟩ : ∃ z_, mulS n.x n.y = z_ := ⟨_, rfl⟩
 rw [hp7] at C7
 have C8 := Lib.hid (fun w => mul_sp p7 p6 w)
 obtain ⟨p8, hp8⟩ : ∃ z_, mulS p7 p6 = z_ := ⟨_, rfl⟩
 rw [hp8] at C8
 have C9 := Lib.hid (fun w => of_sp 4607182418800017408 (by decide) w)
 rw [hp3] at C9
 have C10 := Lib.hid (fun w => sqr_sp n.x w)
 obtain ⟨p10, hp10⟩ : ∃ z_, sqrS n.x = z_ := ⟨_, rfl⟩
 rw [hp10] at C10
 have C11 := Lib.hid (fun w => mul_sp p2 p10 w)
 obtain ⟨p11, hp11⟩ : ∃ z_, mulS p2 p10 = z_ := ⟨_, rfl⟩
 rw [hp11] at C11
 have C12 := Lib.hid (fun w => mul_sp p11 p6 w)
 obtain ⟨p12, hp12⟩ : ∃ z_, mulS p11 p6 = z_ := ⟨_, rfl⟩
 rw [hp12] at C12
 have C13 := Lib.hid (fun w => add_sp p3 p12 w)
 obtain ⟨p13, hp13⟩ : ∃ z_, addS p3 p12 = z_ := ⟨_, rfl⟩
 rw [hp13] at C13
 have C14 := Lib.hid (fun w => mul_sp p2 p8 w)
 obtain ⟨p14, hp14⟩ : ∃ z_, mulS p2 p8 = z_ := ⟨_, rfl⟩
 rw [hp14] at C14
 have C15 := Lib.hid (fun w => mul_sp p2 n.x w)
 obtain ⟨p15, hp15⟩ : ∃ z_, mulS p2 n.x = z_ := ⟨_, rfl⟩
 rw [hp15] at C15
 have C16 := Lib.hid (fun w => neg_sp p15 w)
 obtain ⟨p16, hp16⟩ : ∃ z_, negS p15 = z_ := ⟨_, rfl⟩
 rw [hp16] at C16
 have C17 := Lib.hid (fun w => sqr_sp n.y w)
 obtain ⟨p17, hp17⟩ : ∃ z_, sqrS n.y = z_ := ⟨_, rfl⟩
 rw [hp17] at C17
 have C18 := Lib.hid (fun w => mul_sp p17 p6 w)
 obtain ⟨p18, hp18⟩ : ∃ z_, mulS p17 p6 = z_ := ⟨_, rfl⟩
 rw [hp18] at C18
 have C19 := Lib.hid (fun w => add_sp p2 p18 w)
 obtain ⟨p19, hp19⟩ : ∃ z_, addS p2 p18 = z_ := ⟨_, rfl⟩
 rw [hp19] at C19
 have C20 := Lib.hid (fun w => neg_sp n.y w)
 obtain ⟨p20, hp20⟩ : ∃ z_, negS n.y = z_ := ⟨_, rfl⟩
 rw [hp20] at C20
 have hT0 : frT (ofS sw) n = (⟨p13, p14, p16⟩ : V3) := by
   subst hp0 hp2 hp3 hp4 hp5 hp6 hp7 hp8 hp10 hp11 hp12 hp13 hp14 hp15 hp16 hp17 hp18 hp19 hp20; rfl
 have hT1 : frU (ofS sw) n = (⟨p8, p19, p20⟩ : V3) := by
   subst hp0 hp2 hp3 hp4 hp5 hp6 hp7 hp8 hp10 hp11 hp12 hp13 hp14 hp15 hp16 hp17 hp18 hp19 hp20; rfl
 rw [hT0, hT1]
 clear hT0 hT1
 clear hp0 hp2 hp3 hp4 hp5 hp6 hp7 hp8 hp10 hp11 hp12 hp13 hp14 hp15 hp16 hp17 hp18 hp19 hp20
 go_enter Tryz.func26, Tryz.ntmps26
 go_wp2_with fail
 obtain ⟨W, hW, K0, K1, K2, hB, hz⟩ := bx3 w 26 26 26 (vc n) #[.float .f64 0, .float .f64 0, .float .f64 0, .float .f64 0, .float .f64 0, .float .f64 0] #[.float .f64 0, .float .f64 0, .float .f64 0, .float .f64 0, .float .f64 0, .float .f64 0]
 rw [← hW]
 have K0 := Lib.hid K0
 have K1 := Lib.hid K1
 have K2 := Lib.hid K2
 have HB := Lib.hid hB
 clear hW hB hz
 have D1 := dr W
 refine (C0.out _).mono ?_
 rintro r w2 ⟨rfl, hb⟩
 have D3 := ds D1 hb
 clear D1
 clear hb
 go_wp2_with fail
 refine (C1.out _).mono ?_
 rintro r w4 ⟨rfl, hb⟩
 have D5 := ds D3 hb
 clear D3
 clear hb
 go_upto_block 0 with fail
 go_cut [5, 6, 15] (fun q s t wx => q = .int .i64 fq ∧ s = .float .f64 sw ∧ wx = w4)
 case first =>
   rcases hk with ⟨h, rfl, rfl⟩ | ⟨h, rfl, rfl⟩ | ⟨h, rfl, rfl⟩
   · rw [h]; go_wp2_with fail; go_meet; exact ⟨rfl, rfl, rfl⟩
   · rw [h]; go_wp2_with fail; go_meet; exact ⟨rfl, rfl, rfl⟩
   · rw [h]; go_wp2_with fail; go_meet; exact ⟨rfl, rfl, rfl⟩
 obtain ⟨rfl, rfl, rfl⟩ := hcut
 go_wp2_with fail
 refine (C2.out _).mono ?_
 rintro r w6 ⟨rfl, hb⟩
 have D7 := ds D5 hb
 clear D5
 clear hb
 obtain ⟨g8, hg10⟩ : ∃ g, w6.heap.size = g := ⟨_, rfl⟩
 have Y12 := Lib.hid (show w.heap.size < g8 ∧ w.heap.size + 1 < g8 ∧ w.heap.size + 1 + 1 < g8 by rw [← hg10]; exact ⟨(kb K0 D7).lt, (kb K1 D7).lt, (kb K2 D7).lt⟩)
 obtain ⟨V9, hV11⟩ : ∃ V, w6.alloc (.cells #[.float .f64 0, .float .f64 0] 24) = V := ⟨_, rfl⟩
 have K13 := ka hV11 K0 D7
 have K14 := ka hV11 K1 D7
 have K15 := ka hV11 K2 D7
 have K16 := kn hV11 hg10
 have HB17 := hba hV11 HB D7
 have D18 := dr V9
 clear K0 K1 K2 HB D7
 have f21 := (kb K16 D18).cellsL 0 [.float .f64 0, .float .f64 0] rfl
 dsimp only [CellsL, al, vl, Nat.reduceAdd] at f21
 have u22 := (kb K16 D18).unfrozen
 obtain ⟨V19, hV20⟩ : ∃ V, setCells V9 (g8) 0 [.float .f64 p2.lo, .float .f64 p2.hi] = V := ⟨_, rfl⟩
 have hv23 := hV20
 simp only [setCells, Nat.reduceAdd] at hv23
 have K24 := kf hV20 K13 D18 (by have := Y12.out; omega)
 have K25 := kf hV20 K14 D18 (by have := Y12.out; omega)
 have K26 := kf hV20 K15 D18 (by have := Y12.out; omega)
 have K27 := Lib.hid (show Blk V19 (g8) 24 #[.float .f64 p2.lo, .float .f64 p2.hi] from (ks hV20 K16 D18).out)
 have HB28 := hbs hV20 HB17 D18 (by have := Y12.out; omega)
 have D29 := dr V19
 clear K13 K14 K15 K16 HB17 D18
 go_wp2_with fail
 clear hg10 hV11 hV20 f21 u22 hv23
 refine wp_region_held (S := (fun w' => True ∧ CellsL w' (w.heap.size) 4 [.float .f64 n.z.lo, .float .f64 n.z.hi] ∧ CellsL w' (g8) 0 [.float .f64 p2.lo, .float .f64 p2.hi])) (by kernel_rfl) ?_
 change wpAnyH _ _ _ _ _ _ _ _ (World.drew _)
 obtain ⟨wd30, hwd⟩ : ∃ x, x = World.drew V19 := ⟨_, rfl⟩
 rw [← hwd]
 have D31 := Lib.hid (hwd ▸ Below.drew D29.out : Below V19.heap.size V19 wd30)
 clear D29 hwd
 have hS32 : True ∧ CellsL wd30 (w.heap.size) 4 [.float .f64 n.z.lo, .float .f64 n.z.hi] ∧ CellsL wd30 (g8) 0 [.float .f64 p2.lo, .float .f64 p2.hi] := ⟨trivial, (kb K24 D31).cellsL 4 [.float .f64 n.z.lo, .float .f64 n.z.hi] rfl, (kb K27 D31).cellsL 0 [.float .f64 p2.lo, .float .f64 p2.hi] rfl⟩
 refine tke 1 (bm 9 2) hS32 ?_
 refine tkq 2 (bm 9 6) hS32 ?_
 refine tke 3 (bm 9 14) hS32 ?_
 have HS37 := Lib.hid (show ∀ w', Below V19.heap.size V19 w' → (True ∧ CellsL w' (w.heap.size) 4 [.float .f64 n.z.lo, .float .f64 n.z.hi] ∧ CellsL w' (g8) 0 [.float .f64 p2.lo, .float .f64 p2.hi]) from fun w' b => ⟨trivial, (K24.out.below b K24.out.lt).cellsL 4 [.float .f64 n.z.lo, .float .f64 n.z.hi] rfl, (K27.out.below b K27.out.lt).cellsL 0 [.float .f64 p2.lo, .float .f64 p2.hi] rfl⟩)
 refine wpAnyH_sets2 (N := 9) (stop := 255) (F := 1) (m := 14) (R := [0, 4, 5, 6, 7]) (M := [14, 15, 142, 31, 143, 63, 159, 127, 191, 255]) (fun i => if i = 0 then 0 else if i = 4 then 11 else if i = 5 then 17 else if i = 6 then 32 else if i = 7 then 0 else 0) (fun a0 m a w9 => ∃ (v0 v4 v5 v6 p7_ : Value) (g7_ : Nat), a = (((((a0.put (some 22) v0).put (some 26) v4).put (some 27) v5).put (some 28) v6).put (some 8) p7_) ∧ Below V19.heap.size V19 w9 ∧ (m.testBit 0 = true → v0 = Value.agg #[.float .f64 p3.lo, .float .f64 p3.hi]) ∧ (m.testBit 4 = true → v4 = Value.agg #[.float .f64 p4.lo, .float .f64 p4.hi]) ∧ (m.testBit 5 = true → v5 = Value.agg #[.float .f64 p5.lo, .float .f64 p5.hi]) ∧ (m.testBit 6 = true → v6 = Value.agg #[.float .f64 p6.lo, .float .f64 p6.hi]) ∧ (m.testBit 7 = true → p7_ = .pointer (some ⟨g7_, 0, none⟩) ∧ Blk w9 g7_ 24 #[.float .f64 0, .float .f64 0] ∧ V19.heap.size ≤ g7_)) (by kernel_rfl) (by kernel_rfl) (by kernel_rfl) (by kernel_rfl) ?st9_36 ?sp9_36 ?re9_36
 case st9_36 =>
   exact ⟨u22, u26, u27, u28, undef, 0, by go_simp, D31.out, fun h => absurd h (by decide), fun h => absurd h (by decide), fun h => absurd h (by decide), fun h => absurd h (by decide), fun h => absurd h (by decide)⟩
 case sp9_36 =>
   intro m a' w9 i hi hm hd hJ
   obtain ⟨v0, v4, v5, v6, p7_, g7_, rfl, hb0, cl0, cl4, cl5, cl6, ql7⟩ := hJ
   have CL0 := Lib.hid cl0
   have CL4 := Lib.hid cl4
   have CL5 := Lib.hid cl5
   have CL6 := Lib.hid cl6
   have QL7 := Lib.hid ql7
   have HB0 := Lib.hid hb0
   clear cl0 cl4 cl5 cl6 ql7 hb0 hS32
   simp only [List.mem_cons, List.not_mem_nil, or_false] at hi
   rcases hi with rfl | rfl | rfl | rfl | rfl
   · refine wpOp_at rfl (by kernel_rfl) (fun K hK => ?_)
     have hd := fun j => @tb_of _ _ j hd
     go_simp
     go_at_call 66
     refine (C3.out _).mono ?_
     rintro r w10 ⟨rfl, hb⟩
     dsimp only
     have hb1 := below_step HB0.out hb
     exact hK _ _ ⟨HS37.out _ hb1, _, v4, v5, v6, p7_, g7_, by go_simp, hb1, fun _ => rfl, fun h => CL4.out (tn h), fun h => CL5.out (tn h), fun h => CL6.out (tn h), fun h => ⟨(QL7.out (tn h)).1, (QL7.out (tn h)).2.1.below hb (QL7.out (tn h)).2.1.lt, (QL7.out (tn h)).2.2⟩⟩
   · refine wpOp_at rfl (by kernel_rfl) (fun K hK => ?_)
     have hd := fun j => @tb_of _ _ j hd
     obtain rfl := CL0.out (hd _ (by decide))
     go_simp
     go_at_call 67
     refine (C4.out _).mono ?_
     rintro r w10 ⟨rfl, hb⟩
     dsimp only
     have hb1 := below_step HB0.out hb
     exact hK _ _ ⟨HS37.out _ hb1, _, _, v5, v6, p7_, g7_, by go_simp, hb1, fun _ => rfl, fun _ => rfl, fun h => CL5.out (tn h), fun h => CL6.out (tn h), fun h => ⟨(QL7.out (tn h)).1, (QL7.out (tn h)).2.1.below hb (QL7.out (tn h)).2.1.lt, (QL7.out (tn h)).2.2⟩⟩
   · refine wpOp_at rfl (by kernel_rfl) (fun K hK => ?_)
     have hd := fun j => @tb_of _ _ j hd
     obtain rfl := CL0.out (hd _ (by decide))
     obtain rfl := CL4.out (hd _ (by decide))
     go_simp
     go_at_call 45
     refine (C5.out _).mono ?_
     rintro r w10 ⟨rfl, hb⟩
     dsimp only
     have hb1 := below_step HB0.out hb
     exact hK _ _ ⟨HS37.out _ hb1, _, _, _, v6, p7_, g7_, by go_simp, hb1, fun _ => rfl, fun _ => rfl, fun _ => rfl, fun h => CL6.out (tn h), fun h => ⟨(QL7.out (tn h)).1, (QL7.out (tn h)).2.1.below hb (QL7.out (tn h)).2.1.lt, (QL7.out (tn h)).2.2⟩⟩
   · refine wpOp_at rfl (by kernel_rfl) (fun K hK => ?_)
     have hd := fun j => @tb_of _ _ j hd
     obtain rfl := CL5.out (hd _ (by decide))
     go_simp
     go_at_call 65
     refine (C6.out _).mono ?_
     rintro r w10 ⟨rfl, hb⟩
     dsimp only
     have hb1 := below_step HB0.out hb
     exact hK _ _ ⟨HS37.out _ hb1, v0, v4, _, _, p7_, g7_, by go_simp, hb1, fun h => CL0.out (tn h), fun h => CL4.out (tn h), fun _ => rfl, fun _ => rfl, fun h => ⟨(QL7.out (tn h)).1, (QL7.out (tn h)).2.1.below hb (QL7.out (tn h)).2.1.lt, (QL7.out (tn h)).2.2⟩⟩
   · refine wpOp_at rfl (by kernel_rfl) (fun K hK => ?_)
     have hd := fun j => @tb_of _ _ j hd
     go_simp
     have hb1 := below_more HB0.out (.cells #[.float .f64 0, .float .f64 0] 24)
     exact hK _ _ ⟨HS37.out _ hb1, v0, v4, v5, v6, .pointer (some ⟨w9.heap.size, 0, none⟩), w9.heap.size, by go_simp, hb1, fun h => CL0.out (tn h), fun h => CL4.out (tn h), fun h => CL5.out (tn h), fun h => CL6.out (tn h), fun _ => ⟨rfl, Blk.new_at _ _ _ rfl, HB0.out.size⟩⟩
 clear hS32 D31 HS37
 intro a' W51 hJ
 obtain ⟨v0, v4, v5, v6, p7_, g52, rfl, hb0, cl0, cl4, cl5, cl6, ql7⟩ := hJ
 obtain rfl := cl0 (by decide)
 obtain rfl := cl4 (by decide)
 obtain rfl := cl5 (by decide)
 obtain rfl := cl6 (by decide)
 obtain ⟨rfl, kk7, ll7⟩ := ql7 (by decide)
 have D40 := Lib.hid hb0
 clear hb0
 refine wpAnyH_frame (a' := ?frq39) ?feq39 ?fgq39
 case feq39 => (go_simp; try with_reducible rfl)
 have K42 := Lib.hid ((kb K24 D40) : Blk W51 (w.heap.size) 26 (vc n))
 have K43 := Lib.hid ((kb K25 D40) : Blk W51 (w.heap.size + 1) 26 #[.float .f64 0, .float .f64 0, .float .f64 0, .float .f64 0, .float .f64 0, .float .f64 0])
 have K44 := Lib.hid ((kb K26 D40) : Blk W51 (w.heap.size + 1 + 1) 26 #[.float .f64 0, .float .f64 0, .float .f64 0, .float .f64 0, .float .f64 0, .float .f64 0])
 have K45 := Lib.hid ((kb K27 D40) : Blk W51 (g8) 24 #[.float .f64 p2.lo, .float .f64 p2.hi])
 have K46 := Lib.hid kk7
 clear kk7
 have HB49 := Lib.hid (below_step HB28.out D40.out)
 have Y48 := Lib.hid (show w.heap.size ≤ g52 ∧ w.heap.size < g52 ∧ w.heap.size + 1 < g52 ∧ w.heap.size + 1 + 1 < g52 ∧ g8 < g52 from ⟨Nat.le_trans HB28.out.size ll7, Nat.lt_of_lt_of_le K24.out.lt ll7, Nat.lt_of_lt_of_le K25.out.lt ll7, Nat.lt_of_lt_of_le K26.out.lt ll7, Nat.lt_of_lt_of_le K27.out.lt ll7⟩)
 have Y50 := Lib.hid (And.intro Y12.out Y48.out)
 clear Y12 Y48
 clear K24 K25 K26 K27 ll7 HB28
 have D53 := Lib.hid (Below.refl W51.heap.size W51)
 clear D40
 have hS54 : True ∧ CellsL W51 (w.heap.size) 4 [.float .f64 n.z.lo, .float .f64 n.z.hi] ∧ CellsL W51 (g8) 0 [.float .f64 p2.lo, .float .f64 p2.hi] := ⟨trivial, (kb K42 D53).cellsL 4 [.float .f64 n.z.lo, .float .f64 n.z.hi] rfl, (kb K45 D53).cellsL 0 [.float .f64 p2.lo, .float .f64 p2.hi] rfl⟩
 refine wpAnyH_oneM (i := 8) (l' := bm 9 511) rfl (by kernel_rfl) (by kernel_rfl) (by kernel_rfl) (fun K hK => ?_)
 have f57 := (kb K46 D53).cellsL 0 [.float .f64 0, .float .f64 0] rfl
 dsimp only [CellsL, al, vl, Nat.reduceAdd] at f57
 have u58 := (kb K46 D53).unfrozen
 obtain ⟨V55, hV56⟩ : ∃ V, setCells W51 (g52) 0 [.float .f64 p6.lo, .float .f64 p6.hi] = V := ⟨_, rfl⟩
 have hv59 := hV56
 simp only [setCells, Nat.reduceAdd] at hv59
 have K60 := kf hV56 K42 D53 (by have := Y50.out; omega)
 have K61 := kf hV56 K43 D53 (by have := Y50.out; omega)
 have K62 := kf hV56 K44 D53 (by have := Y50.out; omega)
 have K63 := kf hV56 K45 D53 (by have := Y50.out; omega)
 have K64 := Lib.hid (show Blk V55 (g52) 24 #[.float .f64 p6.lo, .float .f64 p6.hi] from (ks hV56 K46 D53).out)
 have HB65 := hbs hV56 HB49 D53 (by have := Y50.out; omega)
 have D66 := dr V55
 clear K42 K43 K44 K45 K46 HB49 D53
 go_simp
 clear hV56 f57 u58 hv59
 have hS67 : True ∧ CellsL V55 (w.heap.size) 4 [.float .f64 n.z.lo, .float .f64 n.z.hi] ∧ CellsL V55 (g8) 0 [.float .f64 p2.lo, .float .f64 p2.hi] := ⟨trivial, (kb K60 D66).cellsL 4 [.float .f64 n.z.lo, .float .f64 n.z.hi] rfl, (kb K63 D66).cellsL 0 [.float .f64 p2.lo, .float .f64 p2.hi] rfl⟩
 refine hK _ _ hS67 ?_
 clear hK K hS54
 refine wpAnyH_done (by kernel_rfl) ?_ _
 clear hS67
 go_wp2_with fail
 refine wp_region_held (S := (fun w' => True ∧ CellsL w' (w.heap.size) 0 [.float .f64 n.x.lo, .float .f64 n.x.hi, .float .f64 n.y.lo, .float .f64 n.y.hi] ∧ CellsL w' (g52) 0 [.float .f64 p6.lo, .float .f64 p6.hi])) (by kernel_rfl) ?_
 change wpAnyH _ _ _ _ _ _ _ _ (World.drew _)
 obtain ⟨wd68, hwd⟩ : ∃ x, x = World.drew V55 := ⟨_, rfl⟩
 rw [← hwd]
 have D69 := Lib.hid (hwd ▸ Below.drew D66.out : Below V55.heap.size V55 wd68)
 clear D66 hwd
 have hS70 : True ∧ CellsL wd68 (w.heap.size) 0 [.float .f64 n.x.lo, .float .f64 n.x.hi, .float .f64 n.y.lo, .float .f64 n.y.hi] ∧ CellsL wd68 (g52) 0 [.float .f64 p6.lo, .float .f64 p6.hi] := ⟨trivial, (kb K60 D69).cellsL 0 [.float .f64 n.x.lo, .float .f64 n.x.hi, .float .f64 n.y.lo, .float .f64 n.y.hi] rfl, (kb K64 D69).cellsL 0 [.float .f64 p6.lo, .float .f64 p6.hi] rfl⟩
 refine tkq 0 (bm 9 1) hS70 ?_
 refine tke 1 (bm 9 3) hS70 ?_
 refine tkq 2 (bm 9 7) hS70 ?_
 refine tke 3 (bm 9 15) hS70 ?_
 refine tke 5 (bm 9 47) hS70 ?_
 have HS77 := Lib.hid (show ∀ w', Below V55.heap.size V55 w' → (True ∧ CellsL w' (w.heap.size) 0 [.float .f64 n.x.lo, .float .f64 n.x.hi, .float .f64 n.y.lo, .float .f64 n.y.hi] ∧ CellsL w' (g52) 0 [.float .f64 p6.lo, .float .f64 p6.hi]) from fun w' b => ⟨trivial, (K60.out.below b K60.out.lt).cellsL 0 [.float .f64 n.x.lo, .float .f64 n.x.hi, .float .f64 n.y.lo, .float .f64 n.y.hi] rfl, (K64.out.below b K64.out.lt).cellsL 0 [.float .f64 p6.lo, .float .f64 p6.hi] rfl⟩)
 refine wpAnyH_sets2 (N := 9) (stop := 255) (F := 1) (m := 47) (R := [4, 6, 7]) (M := [47, 63, 175, 127, 191, 255]) (fun i => if i = 4 then 10 else if i = 6 then 48 else if i = 7 then 0 else 0) (fun a0 m a w9 => ∃ (v4 v6 p7_ : Value) (g7_ : Nat), a = (((a0.put (some 33) v4).put (some 35) v6).put (some 9) p7_) ∧ Below V55.heap.size V55 w9 ∧ (m.testBit 4 = true → v4 = Value.agg #[.float .f64 p7.lo, .float .f64 p7.hi]) ∧ (m.testBit 6 = true → v6 = Value.agg #[.float .f64 p8.lo, .float .f64 p8.hi]) ∧ (m.testBit 7 = true → p7_ = .pointer (some ⟨g7_, 0, none⟩) ∧ Blk w9 g7_ 24 #[.float .f64 0, .float .f64 0] ∧ V55.heap.size ≤ g7_)) (by kernel_rfl) (by kernel_rfl) (by kernel_rfl) (by kernel_rfl) ?st10_76 ?sp10_76 ?re10_76
 case st10_76 =>
   exact ⟨u33, u35, undef, 0, by go_simp, D69.out, fun h => absurd h (by decide), fun h => absurd h (by decide), fun h => absurd h (by decide)⟩
 case sp10_76 =>
   intro m a' w9 i hi hm hd hJ
   obtain ⟨v4, v6, p7_, g7_, rfl, hb0, cl4, cl6, ql7⟩ := hJ
   have CL4 := Lib.hid cl4
   have CL6 := Lib.hid cl6
   have QL7 := Lib.hid ql7
   have HB0 := Lib.hid hb0
   clear cl4 cl6 ql7 hb0 hS70
   simp only [List.mem_cons, List.not_mem_nil, or_false] at hi
   rcases hi with rfl | rfl | rfl
   · refine wpOp_at rfl (by kernel_rfl) (fun K hK => ?_)
     have hd := fun j => @tb_of _ _ j hd
     go_simp
     go_at_call 68
     refine (C7.out _).mono ?_
     rintro r w10 ⟨rfl, hb⟩
     dsimp only
     have hb1 := below_step HB0.out hb
     exact hK _ _ ⟨HS77.out _ hb1, _, v6, p7_, g7_, by go_simp, hb1, fun _ => rfl, fun h => CL6.out (tn h), fun h => ⟨(QL7.out (tn h)).1, (QL7.out (tn h)).2.1.below hb (QL7.out (tn h)).2.1.lt, (QL7.out (tn h)).2.2⟩⟩
   · refine wpOp_at rfl (by kernel_rfl) (fun K hK => ?_)
     have hd := fun j => @tb_of _ _ j hd
     obtain rfl := CL4.out (hd _ (by decide))
     go_simp
     go_at_call 68
     refine (C8.out _).mono ?_
     rintro r w10 ⟨rfl, hb⟩
     dsimp only
     have hb1 := below_step HB0.out hb
     exact hK _ _ ⟨HS77.out _ hb1, _, _, p7_, g7_, by go_simp, hb1, fun _ => rfl, fun _ => rfl, fun h => ⟨(QL7.out (tn h)).1, (QL7.out (tn h)).2.1.below hb (QL7.out (tn h)).2.1.lt, (QL7.out (tn h)).2.2⟩⟩
   · refine wpOp_at rfl (by kernel_rfl) (fun K hK => ?_)
     have hd := fun j => @tb_of _ _ j hd
     go_simp
     have hb1 := below_more HB0.out (.cells #[.float .f64 0, .float .f64 0] 24)
     exact hK _ _ ⟨HS77.out _ hb1, v4, v6, .pointer (some ⟨w9.heap.size, 0, none⟩), w9.heap.size, by go_simp, hb1, fun h => CL4.out (tn h), fun h => CL6.out (tn h), fun _ => ⟨rfl, Blk.new_at _ _ _ rfl, HB0.out.size⟩⟩
 clear hS70 D69 HS77
 intro a' W92 hJ
 obtain ⟨v4, v6, p7_, g93, rfl, hb0, cl4, cl6, ql7⟩ := hJ
 obtain rfl := cl4 (by decide)
 obtain rfl := cl6 (by decide)
 obtain ⟨rfl, kk7, ll7⟩ := ql7 (by decide)
 have D80 := Lib.hid hb0
 clear hb0
 refine wpAnyH_frame (a' := ?frq79) ?feq79 ?fgq79
 case feq79 => (go_simp; try with_reducible rfl)
 have K82 := Lib.hid ((kb K60 D80) : Blk W92 (w.heap.size) 26 (vc n))
 have K83 := Lib.hid ((kb K61 D80) : Blk W92 (w.heap.size + 1) 26 #[.float .f64 0, .float .f64 0, .float .f64 0, .float .f64 0, .float .f64 0, .float .f64 0])
 have K84 := Lib.hid ((kb K62 D80) : Blk W92 (w.heap.size + 1 + 1) 26 #[.float .f64 0, .float .f64 0, .float .f64 0, .float .f64 0, .float .f64 0, .float .f64 0])
 have K85 := Lib.hid ((kb K63 D80) : Blk W92 (g8) 24 #[.float .f64 p2.lo, .float .f64 p2.hi])
 have K86 := Lib.hid ((kb K64 D80) : Blk W92 (g52) 24 #[.float .f64 p6.lo, .float .f64 p6.hi])
 have K87 := Lib.hid kk7
 clear kk7
 have HB90 := Lib.hid (below_step HB65.out D80.out)
 have Y89 := Lib.hid (show w.heap.size ≤ g93 ∧ w.heap.size < g93 ∧ w.heap.size + 1 < g93 ∧ w.heap.size + 1 + 1 < g93 ∧ g8 < g93 ∧ g52 < g93 from ⟨Nat.le_trans HB65.out.size ll7, Nat.lt_of_lt_of_le K60.out.lt ll7, Nat.lt_of_lt_of_le K61.out.lt ll7, Nat.lt_of_lt_of_le K62.out.lt ll7, Nat.lt_of_lt_of_le K63.out.lt ll7, Nat.lt_of_lt_of_le K64.out.lt ll7⟩)
 have Y91 := Lib.hid (And.intro Y50.out Y89.out)
 clear Y50 Y89
 clear K60 K61 K62 K63 K64 ll7 HB65
 have D94 := Lib.hid (Below.refl W92.heap.size W92)
 clear D80
 have hS95 : True ∧ CellsL W92 (w.heap.size) 0 [.float .f64 n.x.lo, .float .f64 n.x.hi, .float .f64 n.y.lo, .float .f64 n.y.hi] ∧ CellsL W92 (g52) 0 [.float .f64 p6.lo, .float .f64 p6.hi] := ⟨trivial, (kb K82 D94).cellsL 0 [.float .f64 n.x.lo, .float .f64 n.x.hi, .float .f64 n.y.lo, .float .f64 n.y.hi] rfl, (kb K86 D94).cellsL 0 [.float .f64 p6.lo, .float .f64 p6.hi] rfl⟩
 refine wpAnyH_oneM (i := 8) (l' := bm 9 511) rfl (by kernel_rfl) (by kernel_rfl) (by kernel_rfl) (fun K hK => ?_)
 have f98 := (kb K87 D94).cellsL 0 [.float .f64 0, .float .f64 0] rfl
 dsimp only [CellsL, al, vl, Nat.reduceAdd] at f98
 have u99 := (kb K87 D94).unfrozen
 obtain ⟨V96, hV97⟩ : ∃ V, setCells W92 (g93) 0 [.float .f64 p8.lo, .float .f64 p8.hi] = V := ⟨_, rfl⟩
 have hv100 := hV97
 simp only [setCells, Nat.reduceAdd] at hv100
 have K101 := kf hV97 K82 D94 (by have := Y91.out; omega)
 have K102 := kf hV97 K83 D94 (by have := Y91.out; omega)
 have K103 := kf hV97 K84 D94 (by have := Y91.out; omega)
 have K104 := kf hV97 K85 D94 (by have := Y91.out; omega)
 have K105 := kf hV97 K86 D94 (by have := Y91.out; omega)
 have K106 := Lib.hid (show Blk V96 (g93) 24 #[.float .f64 p8.lo, .float .f64 p8.hi] from (ks hV97 K87 D94).out)
 have HB107 := hbs hV97 HB90 D94 (by have := Y91.out; omega)
 have D108 := dr V96
 clear K82 K83 K84 K85 K86 K87 HB90 D94
 go_simp
 clear hV97 f98 u99 hv100
 have hS109 : True ∧ CellsL V96 (w.heap.size) 0 [.float .f64 n.x.lo, .float .f64 n.x.hi, .float .f64 n.y.lo, .float .f64 n.y.hi] ∧ CellsL V96 (g52) 0 [.float .f64 p6.lo, .float .f64 p6.hi] := ⟨trivial, (kb K101 D108).cellsL 0 [.float .f64 n.x.lo, .float .f64 n.x.hi, .float .f64 n.y.lo, .float .f64 n.y.hi] rfl, (kb K105 D108).cellsL 0 [.float .f64 p6.lo, .float .f64 p6.hi] rfl⟩
 refine hK _ _ hS109 ?_
 clear hK K hS95
 refine wpAnyH_done (by kernel_rfl) ?_ _
 clear hS109
 go_wp2_with fail
 refine wp_region_held (S := (fun w' => True ∧ CellsL w' (w.heap.size) 0 [.float .f64 n.x.lo, .float .f64 n.x.hi] ∧ CellsL w' (g8) 0 [.float .f64 p2.lo, .float .f64 p2.hi] ∧ CellsL w' (g52) 0 [.float .f64 p6.lo, .float .f64 p6.hi] ∧ CellsL w' (g93) 0 [.float .f64 p8.lo, .float .f64 p8.hi])) (by kernel_rfl) ?_
 change wpAnyH _ _ _ _ _ _ _ _ (World.drew _)
 obtain ⟨wd110, hwd⟩ : ∃ x, x = World.drew V96 := ⟨_, rfl⟩
 rw [← hwd]
 have D111 := Lib.hid (hwd ▸ Below.drew D108.out : Below V96.heap.size V96 wd110)
 clear D108 hwd
 have hS112 : True ∧ CellsL wd110 (w.heap.size) 0 [.float .f64 n.x.lo, .float .f64 n.x.hi] ∧ CellsL wd110 (g8) 0 [.float .f64 p2.lo, .float .f64 p2.hi] ∧ CellsL wd110 (g52) 0 [.float .f64 p6.lo, .float .f64 p6.hi] ∧ CellsL wd110 (g93) 0 [.float .f64 p8.lo, .float .f64 p8.hi] := ⟨trivial, (kb K101 D111).cellsL 0 [.float .f64 n.x.lo, .float .f64 n.x.hi] rfl, (kb K104 D111).cellsL 0 [.float .f64 p2.lo, .float .f64 p2.hi] rfl, (kb K105 D111).cellsL 0 [.float .f64 p6.lo, .float .f64 p6.hi] rfl, (kb K106 D111).cellsL 0 [.float .f64 p8.lo, .float .f64 p8.hi] rfl⟩
 refine tke 1 (bm 20 2) hS112 ?_
 refine tkq 2 (bm 20 6) hS112 ?_
 refine tke 3 (bm 20 14) hS112 ?_
 refine tke 6 (bm 20 78) hS112 ?_
 refine tke 9 (bm 20 590) hS112 ?_
 refine tke 10 (bm 20 1614) hS112 ?_
 refine tke 12 (bm 20 5710) hS112 ?_
 refine tkq 13 (bm 20 13902) hS112 ?_
 refine tke 14 (bm 20 30286) hS112 ?_
 have HS123 := Lib.hid (show ∀ w', Below V96.heap.size V96 w' → (True ∧ CellsL w' (w.heap.size) 0 [.float .f64 n.x.lo, .float .f64 n.x.hi] ∧ CellsL w' (g8) 0 [.float .f64 p2.lo, .float .f64 p2.hi] ∧ CellsL w' (g52) 0 [.float .f64 p6.lo, .float .f64 p6.hi] ∧ CellsL w' (g93) 0 [.float .f64 p8.lo, .float .f64 p8.hi]) from fun w' b => ⟨trivial, (K101.out.below b K101.out.lt).cellsL 0 [.float .f64 n.x.lo, .float .f64 n.x.hi] rfl, (K104.out.below b K104.out.lt).cellsL 0 [.float .f64 p2.lo, .float .f64 p2.hi] rfl, (K105.out.below b K105.out.lt).cellsL 0 [.float .f64 p6.lo, .float .f64 p6.hi] rfl, (K106.out.below b K106.out.lt).cellsL 0 [.float .f64 p8.lo, .float .f64 p8.hi] rfl⟩)
 refine wpAnyH_sets2 (N := 20) (stop := 524287) (F := 1) (m := 30286) (R := [0, 4, 5, 7, 8, 11, 15, 16, 17, 18]) (M := [30286, 30287, 292430, 30303, 292431, 30335, 292447, 30463, 292479, 30719, 292607, 32767, 292863, 65535, 294911, 131071, 327679, 262143, 393215, 524287]) (fun i => if i = 0 then 0 else if i = 4 then 9 else if i = 5 then 18 else if i = 7 then 96 else if i = 8 then 129 else if i = 11 then 1792 else if i = 15 then 22528 else if i = 16 then 32768 else if i = 17 then 67840 else if i = 18 then 0 else 0) (fun a0 m a w9 => ∃ (v0 v4 v5 v7 v8 v11 v15 v16 v17 p18_ : Value) (g18_ : Nat), a = ((((((((((a0.put (some 36) v0).put (some 40) v4).put (some 41) v5).put (some 43) v7).put (some 44) v8).put (some 47) v11).put (some 51) v15).put (some 52) v16).put (some 53) v17).put (some 10) p18_) ∧ Below V96.heap.size V96 w9 ∧ (m.testBit 0 = true → v0 = Value.agg #[.float .f64 p3.lo, .float .f64 p3.hi]) ∧ (m.testBit 4 = true → v4 = Value.agg #[.float .f64 p10.lo, .float .f64 p10.hi]) ∧ (m.testBit 5 = true → v5 = Value.agg #[.float .f64 p11.lo, .float .f64 p11.hi]) ∧ (m.testBit 7 = true → v7 = Value.agg #[.float .f64 p12.lo, .float .f64 p12.hi]) ∧ (m.testBit 8 = true → v8 = Value.agg #[.float .f64 p13.lo, .float .f64 p13.hi]) ∧ (m.testBit 11 = true → v11 = Value.agg #[.float .f64 p14.lo, .float .f64 p14.hi]) ∧ (m.testBit 15 = true → v15 = Value.agg #[.float .f64 p15.lo, .float .f64 p15.hi]) ∧ (m.testBit 16 = true → v16 = Value.agg #[.float .f64 p16.lo, .float .f64 p16.hi]) ∧ (m.testBit 17 = true → v17 = Value.agg #[.float .f64 p13.lo, .float .f64 p13.hi, .float .f64 p14.lo, .float .f64 p14.hi, .float .f64 p16.lo, .float .f64 p16.hi]) ∧ (m.testBit 18 = true → p18_ = .pointer (some ⟨g18_, 0, none⟩) ∧ Blk w9 g18_ 26 #[.float .f64 0, .float .f64 0, .float .f64 0, .float .f64 0, .float .f64 0, .float .f64 0] ∧ V96.heap.size ≤ g18_)) (by kernel_rfl) (by kernel_rfl) (by kernel_rfl) (by kernel_rfl) ?st11_122 ?sp11_122 ?re11_122
 case st11_122 =>
   exact ⟨u36, u40, u41, u43, u44, u47, u51, u52, u53, undef, 0, by go_simp, D111.out, fun h => absurd h (by decide), fun h => absurd h (by decide), fun h => absurd h (by decide), fun h => absurd h (by decide), fun h => absurd h (by decide), fun h => absurd h (by decide), fun h => absurd h (by decide), fun h => absurd h (by decide), fun h => absurd h (by decide), fun h => absurd h (by decide)⟩
 case sp11_122 =>
   intro m a' w9 i hi hm hd hJ
   obtain ⟨v0, v4, v5, v7, v8, v11, v15, v16, v17, p18_, g18_, rfl, hb0, cl0, cl4, cl5, cl7, cl8, cl11, cl15, cl16, cl17, ql18⟩ := hJ
   have CL0 := Lib.hid cl0
   have CL4 := Lib.hid cl4
   have CL5 := Lib.hid cl5
   have CL7 := Lib.hid cl7
   have CL8 := Lib.hid cl8
   have CL11 := Lib.hid cl11
   have CL15 := Lib.hid cl15
   have CL16 := Lib.hid cl16
   have CL17 := Lib.hid cl17
   have QL18 := Lib.hid ql18
   have HB0 := Lib.hid hb0
   clear cl0 cl4 cl5 cl7 cl8 cl11 cl15 cl16 cl17 ql18 hb0 hS112
   simp only [List.mem_cons, List.not_mem_nil, or_false] at hi
   rcases hi with rfl | rfl | rfl | rfl | rfl | rfl | rfl | rfl | rfl | rfl
   · refine wpOp_at rfl (by kernel_rfl) (fun K hK => ?_)
     have hd := fun j => @tb_of _ _ j hd
     go_simp
     go_at_call 66
     refine (C9.out _).mono ?_
     rintro r w10 ⟨rfl, hb⟩
     dsimp only
     have hb1 := below_step HB0.out hb
     exact hK _ _ ⟨HS123.out _ hb1, _, v4, v5, v7, v8, v11, v15, v16, v17, p18_, g18_, by go_simp, hb1, fun _ => rfl, fun h => CL4.out (tn h), fun h => CL5.out (tn h), fun h => CL7.out (tn h), fun h => CL8.out (tn h), fun h => CL11.out (tn h), fun h => CL15.out (tn h), fun h => CL16.out (tn h), fun h => CL17.out (tn h), fun h => ⟨(QL18.out (tn h)).1, (QL18.out (tn h)).2.1.below hb (QL18.out (tn h)).2.1.lt, (QL18.out (tn h)).2.2⟩⟩
   · refine wpOp_at rfl (by kernel_rfl) (fun K hK => ?_)
     have hd := fun j => @tb_of _ _ j hd
     obtain rfl := CL0.out (hd _ (by decide))
     go_simp
     go_at_call 69
     refine (C10.out _).mono ?_
     rintro r w10 ⟨rfl, hb⟩
     dsimp only
     have hb1 := below_step HB0.out hb
     exact hK _ _ ⟨HS123.out _ hb1, _, _, v5, v7, v8, v11, v15, v16, v17, p18_, g18_, by go_simp, hb1, fun _ => rfl, fun _ => rfl, fun h => CL5.out (tn h), fun h => CL7.out (tn h), fun h => CL8.out (tn h), fun h => CL11.out (tn h), fun h => CL15.out (tn h), fun h => CL16.out (tn h), fun h => CL17.out (tn h), fun h => ⟨(QL18.out (tn h)).1, (QL18.out (tn h)).2.1.below hb (QL18.out (tn h)).2.1.lt, (QL18.out (tn h)).2.2⟩⟩
   · refine wpOp_at rfl (by kernel_rfl) (fun K hK => ?_)
     have hd := fun j => @tb_of _ _ j hd
     obtain rfl := CL4.out (hd _ (by decide))
     go_simp
     go_at_call 68
     refine (C11.out _).mono ?_
     rintro r w10 ⟨rfl, hb⟩
     dsimp only
     have hb1 := below_step HB0.out hb
     exact hK _ _ ⟨HS123.out _ hb1, v0, _, _, v7, v8, v11, v15, v16, v17, p18_, g18_, by go_simp, hb1, fun h => CL0.out (tn h), fun _ => rfl, fun _ => rfl, fun h => CL7.out (tn h), fun h => CL8.out (tn h), fun h => CL11.out (tn h), fun h => CL15.out (tn h), fun h => CL16.out (tn h), fun h => CL17.out (tn h), fun h => ⟨(QL18.out (tn h)).1, (QL18.out (tn h)).2.1.below hb (QL18.out (tn h)).2.1.lt, (QL18.out (tn h)).2.2⟩⟩
   · refine wpOp_at rfl (by kernel_rfl) (fun K hK => ?_)
     have hd := fun j => @tb_of _ _ j hd
     obtain rfl := CL5.out (hd _ (by decide))
     go_simp
     go_at_call 68
     refine (C12.out _).mono ?_
     rintro r w10 ⟨rfl, hb⟩
     dsimp only
     have hb1 := below_step HB0.out hb
     exact hK _ _ ⟨HS123.out _ hb1, v0, v4, _, _, v8, v11, v15, v16, v17, p18_, g18_, by go_simp, hb1, fun h => CL0.out (tn h), fun h => CL4.out (tn h), fun _ => rfl, fun _ => rfl, fun h => CL8.out (tn h), fun h => CL11.out (tn h), fun h => CL15.out (tn h), fun h => CL16.out (tn h), fun h => CL17.out (tn h), fun h => ⟨(QL18.out (tn h)).1, (QL18.out (tn h)).2.1.below hb (QL18.out (tn h)).2.1.lt, (QL18.out (tn h)).2.2⟩⟩
   · refine wpOp_at rfl (by kernel_rfl) (fun K hK => ?_)
     have hd := fun j => @tb_of _ _ j hd
     obtain rfl := CL0.out (hd _ (by decide))
     obtain rfl := CL7.out (hd _ (by decide))
     go_simp
     go_at_call 67
     refine (C13.out _).mono ?_
     rintro r w10 ⟨rfl, hb⟩
     dsimp only
     have hb1 := below_step HB0.out hb
     exact hK _ _ ⟨HS123.out _ hb1, _, v4, v5, _, _, v11, v15, v16, v17, p18_, g18_, by go_simp, hb1, fun _ => rfl, fun h => CL4.out (tn h), fun h => CL5.out (tn h), fun _ => rfl, fun _ => rfl, fun h => CL11.out (tn h), fun h => CL15.out (tn h), fun h => CL16.out (tn h), fun h => CL17.out (tn h), fun h => ⟨(QL18.out (tn h)).1, (QL18.out (tn h)).2.1.below hb (QL18.out (tn h)).2.1.lt, (QL18.out (tn h)).2.2⟩⟩
   · refine wpOp_at rfl (by kernel_rfl) (fun K hK => ?_)
     have hd := fun j => @tb_of _ _ j hd
     obtain rfl := CL8.out (hd _ (by decide))
     go_simp
     go_at_call 68
     refine (C14.out _).mono ?_
     rintro r w10 ⟨rfl, hb⟩
     dsimp only
     have hb1 := below_step HB0.out hb
     exact hK _ _ ⟨HS123.out _ hb1, v0, v4, v5, v7, _, _, v15, v16, v17, p18_, g18_, by go_simp, hb1, fun h => CL0.out (tn h), fun h => CL4.out (tn h), fun h => CL5.out (tn h), fun h => CL7.out (tn h), fun _ => rfl, fun _ => rfl, fun h => CL15.out (tn h), fun h => CL16.out (tn h), fun h => CL17.out (tn h), fun h => ⟨(QL18.out (tn h)).1, (QL18.out (tn h)).2.1.below hb (QL18.out (tn h)).2.1.lt, (QL18.out (tn h)).2.2⟩⟩
   · refine wpOp_at rfl (by kernel_rfl) (fun K hK => ?_)
     have hd := fun j => @tb_of _ _ j hd
     obtain rfl := CL11.out (hd _ (by decide))
     go_simp
     go_at_call 68
     refine (C15.out _).mono ?_
     rintro r w10 ⟨rfl, hb⟩
     dsimp only
     have hb1 := below_step HB0.out hb
     exact hK _ _ ⟨HS123.out _ hb1, v0, v4, v5, v7, v8, _, _, v16, v17, p18_, g18_, by go_simp, hb1, fun h => CL0.out (tn h), fun h => CL4.out (tn h), fun h => CL5.out (tn h), fun h => CL7.out (tn h), fun h => CL8.out (tn h), fun _ => rfl, fun _ => rfl, fun h => CL16.out (tn h), fun h => CL17.out (tn h), fun h => ⟨(QL18.out (tn h)).1, (QL18.out (tn h)).2.1.below hb (QL18.out (tn h)).2.1.lt, (QL18.out (tn h)).2.2⟩⟩
   · refine wpOp_at rfl (by kernel_rfl) (fun K hK => ?_)
     have hd := fun j => @tb_of _ _ j hd
     obtain rfl := CL15.out (hd _ (by decide))
     go_simp
     go_at_call 65
     refine (C16.out _).mono ?_
     rintro r w10 ⟨rfl, hb⟩
     dsimp only
     have hb1 := below_step HB0.out hb
     exact hK _ _ ⟨HS123.out _ hb1, v0, v4, v5, v7, v8, v11, _, _, v17, p18_, g18_, by go_simp, hb1, fun h => CL0.out (tn h), fun h => CL4.out (tn h), fun h => CL5.out (tn h), fun h => CL7.out (tn h), fun h => CL8.out (tn h), fun h => CL11.out (tn h), fun _ => rfl, fun _ => rfl, fun h => CL17.out (tn h), fun h => ⟨(QL18.out (tn h)).1, (QL18.out (tn h)).2.1.below hb (QL18.out (tn h)).2.1.lt, (QL18.out (tn h)).2.2⟩⟩
   · refine wpOp_at rfl (by kernel_rfl) (fun K hK => ?_)
     have hd := fun j => @tb_of _ _ j hd
     obtain rfl := CL8.out (hd _ (by decide))
     obtain rfl := CL11.out (hd _ (by decide))
     obtain rfl := CL16.out (hd _ (by decide))
     have hb1 := HB0.out
     go_simp
     exact hK _ _ ⟨HS123.out _ hb1, v0, v4, v5, v7, _, _, v15, _, _, p18_, g18_, by go_simp, hb1, fun h => CL0.out (tn h), fun h => CL4.out (tn h), fun h => CL5.out (tn h), fun h => CL7.out (tn h), fun _ => rfl, fun _ => rfl, fun h => CL15.out (tn h), fun _ => rfl, fun _ => rfl, fun h => ⟨(QL18.out (tn h)).1, (QL18.out (tn h)).2.1, (QL18.out (tn h)).2.2⟩⟩
   · refine wpOp_at rfl (by kernel_rfl) (fun K hK => ?_)
     have hd := fun j => @tb_of _ _ j hd
     go_simp
     have hb1 := below_more HB0.out (.cells #[.float .f64 0, .float .f64 0, .float .f64 0, .float .f64 0, .float .f64 0, .float .f64 0] 26)
     exact hK _ _ ⟨HS123.out _ hb1, v0, v4, v5, v7, v8, v11, v15, v16, v17, .pointer (some ⟨w9.heap.size, 0, none⟩), w9.heap.size, by go_simp, hb1, fun h => CL0.out (tn h), fun h => CL4.out (tn h), fun h => CL5.out (tn h), fun h => CL7.out (tn h), fun h => CL8.out (tn h), fun h => CL11.out (tn h), fun h => CL15.out (tn h), fun h => CL16.out (tn h), fun h => CL17.out (tn h), fun _ => ⟨rfl, Blk.new_at _ _ _ rfl, HB0.out.size⟩⟩
 clear hS112 D111 HS123
 intro a' W139 hJ
 obtain ⟨v0, v4, v5, v7, v8, v11, v15, v16, v17, p18_, g140, rfl, hb0, cl0, cl4, cl5, cl7, cl8, cl11, cl15, cl16, cl17, ql18⟩ := hJ
 obtain rfl := cl0 (by decide)
 obtain rfl := cl4 (by decide)
 obtain rfl := cl5 (by decide)
 obtain rfl := cl7 (by decide)
 obtain rfl := cl8 (by decide)
 obtain rfl := cl11 (by decide)
 obtain rfl := cl15 (by decide)
 obtain rfl := cl16 (by decide)
 obtain rfl := cl17 (by decide)
 obtain ⟨rfl, kk18, ll18⟩ := ql18 (by decide)
 have D126 := Lib.hid hb0
 clear hb0
 refine wpAnyH_frame (a' := ?frq125) ?feq125 ?fgq125
 case feq125 => (go_simp; try with_reducible rfl)
 have K128 := Lib.hid ((kb K101 D126) : Blk W139 (w.heap.size) 26 (vc n))
 have K129 := Lib.hid ((kb K102 D126) : Blk W139 (w.heap.size + 1) 26 #[.float .f64 0, .float .f64 0, .float .f64 0, .float .f64 0, .float .f64 0, .float .f64 0])
 have K130 := Lib.hid ((kb K103 D126) : Blk W139 (w.heap.size + 1 + 1) 26 #[.float .f64 0, .float .f64 0, .float .f64 0, .float .f64 0, .float .f64 0, .float .f64 0])
 have K131 := Lib.hid ((kb K104 D126) : Blk W139 (g8) 24 #[.float .f64 p2.lo, .float .f64 p2.hi])
 have K132 := Lib.hid ((kb K105 D126) : Blk W139 (g52) 24 #[.float .f64 p6.lo, .float .f64 p6.hi])
 have K133 := Lib.hid ((kb K106 D126) : Blk W139 (g93) 24 #[.float .f64 p8.lo, .float .f64 p8.hi])
 have K134 := Lib.hid kk18
 clear kk18
 have HB137 := Lib.hid (below_step HB107.out D126.out)
 have Y136 := Lib.hid (show w.heap.size ≤ g140 ∧ w.heap.size < g140 ∧ w.heap.size + 1 < g140 ∧ w.heap.size + 1 + 1 < g140 ∧ g8 < g140 ∧ g52 < g140 ∧ g93 < g140 from ⟨Nat.le_trans HB107.out.size ll18, Nat.lt_of_lt_of_le K101.out.lt ll18, Nat.lt_of_lt_of_le K102.out.lt ll18, Nat.lt_of_lt_of_le K103.out.lt ll18, Nat.lt_of_lt_of_le K104.out.lt ll18, Nat.lt_of_lt_of_le K105.out.lt ll18, Nat.lt_of_lt_of_le K106.out.lt ll18⟩)
 have Y138 := Lib.hid (And.intro Y91.out Y136.out)
 clear Y91 Y136
 clear K101 K102 K103 K104 K105 K106 ll18 HB107
 have D141 := Lib.hid (Below.refl W139.heap.size W139)
 clear D126
 have hS142 : True ∧ CellsL W139 (w.heap.size) 0 [.float .f64 n.x.lo, .float .f64 n.x.hi] ∧ CellsL W139 (g8) 0 [.float .f64 p2.lo, .float .f64 p2.hi] ∧ CellsL W139 (g52) 0 [.float .f64 p6.lo, .float .f64 p6.hi] ∧ CellsL W139 (g93) 0 [.float .f64 p8.lo, .float .f64 p8.hi] := ⟨trivial, (kb K128 D141).cellsL 0 [.float .f64 n.x.lo, .float .f64 n.x.hi] rfl, (kb K131 D141).cellsL 0 [.float .f64 p2.lo, .float .f64 p2.hi] rfl, (kb K132 D141).cellsL 0 [.float .f64 p6.lo, .float .f64 p6.hi] rfl, (kb K133 D141).cellsL 0 [.float .f64 p8.lo, .float .f64 p8.hi] rfl⟩
 refine wpAnyH_oneM (i := 19) (l' := bm 20 1048575) rfl (by kernel_rfl) (by kernel_rfl) (by kernel_rfl) (fun K hK => ?_)
 have f145 := (kb K134 D141)
 obtain ⟨V143, hV144⟩ : ∃ V, World.setRow W139 (g140) #[.float .f64 p13.lo, .float .f64 p13.hi, .float .f64 p14.lo, .float .f64 p14.hi, .float .f64 p16.lo, .float .f64 p16.hi] = V := ⟨_, rfl⟩
 have K146 := kfr hV144 K128 D141 (by have := Y138.out; omega)
 have K147 := kfr hV144 K129 D141 (by have := Y138.out; omega)
 have K148 := kfr hV144 K130 D141 (by have := Y138.out; omega)
 have K149 := kfr hV144 K131 D141 (by have := Y138.out; omega)
 have K150 := kfr hV144 K132 D141 (by have := Y138.out; omega)
 have K151 := kfr hV144 K133 D141 (by have := Y138.out; omega)
 have K152 := ksr hV144 K134 D141
 have HB153 := hbr hV144 HB137 D141 (by have := Y138.out; omega)
 have D154 := dr V143
 clear K128 K129 K130 K131 K132 K133 K134 HB137 D141
 refine wp_store_row 26 _ _ rfl (g140) #[.float .f64 p13.lo, .float .f64 p13.hi, .float .f64 p14.lo, .float .f64 p14.hi, .float .f64 p16.lo, .float .f64 p16.hi] rfl rfl _ _ f145 (by rw [info_V3]; rfl) rfl (by kernel_rfl) ?_
 rw [hV144]
 go_simp
 clear hV144 f145
 have hS155 : True ∧ CellsL V143 (w.heap.size) 0 [.float .f64 n.x.lo, .float .f64 n.x.hi] ∧ CellsL V143 (g8) 0 [.float .f64 p2.lo, .float .f64 p2.hi] ∧ CellsL V143 (g52) 0 [.float .f64 p6.lo, .float .f64 p6.hi] ∧ CellsL V143 (g93) 0 [.float .f64 p8.lo, .float .f64 p8.hi] := ⟨trivial, (kb K146 D154).cellsL 0 [.float .f64 n.x.lo, .float .f64 n.x.hi] rfl, (kb K149 D154).cellsL 0 [.float .f64 p2.lo, .float .f64 p2.hi] rfl, (kb K150 D154).cellsL 0 [.float .f64 p6.lo, .float .f64 p6.hi] rfl, (kb K151 D154).cellsL 0 [.float .f64 p8.lo, .float .f64 p8.hi] rfl⟩
 refine hK _ _ hS155 ?_
 clear hK K hS142
 refine wpAnyH_done (by kernel_rfl) ?_ _
 clear hS155
 go_wp2_with fail
 refine wp_region_held (S := (fun w' => True ∧ CellsL w' (w.heap.size) 2 [.float .f64 n.y.lo, .float .f64 n.y.hi] ∧ CellsL w' (g8) 0 [.float .f64 p2.lo, .float .f64 p2.hi] ∧ CellsL w' (g52) 0 [.float .f64 p6.lo, .float .f64 p6.hi] ∧ CellsL w' (g93) 0 [.float .f64 p8.lo, .float .f64 p8.hi])) (by kernel_rfl) ?_
 change wpAnyH _ _ _ _ _ _ _ _ (World.drew _)
 obtain ⟨wd156, hwd⟩ : ∃ x, x = World.drew V143 := ⟨_, rfl⟩
 rw [← hwd]
 have D157 := Lib.hid (hwd ▸ Below.drew D154.out : Below V143.heap.size V143 wd156)
 clear D154 hwd
 have hS158 : True ∧ CellsL wd156 (w.heap.size) 2 [.float .f64 n.y.lo, .float .f64 n.y.hi] ∧ CellsL wd156 (g8) 0 [.float .f64 p2.lo, .float .f64 p2.hi] ∧ CellsL wd156 (g52) 0 [.float .f64 p6.lo, .float .f64 p6.hi] ∧ CellsL wd156 (g93) 0 [.float .f64 p8.lo, .float .f64 p8.hi] := ⟨trivial, (kb K146 D157).cellsL 2 [.float .f64 n.y.lo, .float .f64 n.y.hi] rfl, (kb K149 D157).cellsL 0 [.float .f64 p2.lo, .float .f64 p2.hi] rfl, (kb K150 D157).cellsL 0 [.float .f64 p6.lo, .float .f64 p6.hi] rfl, (kb K151 D157).cellsL 0 [.float .f64 p8.lo, .float .f64 p8.hi] rfl⟩
 refine tke 0 (bm 14 1) hS158 ?_
 refine tke 1 (bm 14 3) hS158 ?_
 refine tkq 2 (bm 14 7) hS158 ?_
 refine tke 3 (bm 14 15) hS158 ?_
 refine tke 5 (bm 14 47) hS158 ?_
 refine tkq 8 (bm 14 303) hS158 ?_
 refine tke 9 (bm 14 815) hS158 ?_
 have HS167 := Lib.hid (show ∀ w', Below V143.heap.size V143 w' → (True ∧ CellsL w' (w.heap.size) 2 [.float .f64 n.y.lo, .float .f64 n.y.hi] ∧ CellsL w' (g8) 0 [.float .f64 p2.lo, .float .f64 p2.hi] ∧ CellsL w' (g52) 0 [.float .f64 p6.lo, .float .f64 p6.hi] ∧ CellsL w' (g93) 0 [.float .f64 p8.lo, .float .f64 p8.hi]) from fun w' b => ⟨trivial, (K146.out.below b K146.out.lt).cellsL 2 [.float .f64 n.y.lo, .float .f64 n.y.hi] rfl, (K149.out.below b K149.out.lt).cellsL 0 [.float .f64 p2.lo, .float .f64 p2.hi] rfl, (K150.out.below b K150.out.lt).cellsL 0 [.float .f64 p6.lo, .float .f64 p6.hi] rfl, (K151.out.below b K151.out.lt).cellsL 0 [.float .f64 p8.lo, .float .f64 p8.hi] rfl⟩)
 refine wpAnyH_sets2 (N := 14) (stop := 8191) (F := 1) (m := 815) (R := [4, 6, 7, 10, 11, 12]) (M := [815, 831, 4911, 895, 4927, 1023, 4991, 2047, 5119, 4095, 6143, 8191]) (fun i => if i = 4 then 8 else if i = 6 then 48 else if i = 7 then 66 else if i = 10 then 640 else if i = 11 then 1153 else if i = 12 then 0 else 0) (fun a0 m a w9 => ∃ (v4 v6 v7 v10 v11 p12_ : Value) (g12_ : Nat), a = ((((((a0.put (some 58) v4).put (some 60) v6).put (some 61) v7).put (some 64) v10).put (some 65) v11).put (some 11) p12_) ∧ Below V143.heap.size V143 w9 ∧ (m.testBit 4 = true → v4 = Value.agg #[.float .f64 p17.lo, .float .f64 p17.hi]) ∧ (m.testBit 6 = true → v6 = Value.agg #[.float .f64 p18.lo, .float .f64 p18.hi]) ∧ (m.testBit 7 = true → v7 = Value.agg #[.float .f64 p19.lo, .float .f64 p19.hi]) ∧ (m.testBit 10 = true → v10 = Value.agg #[.float .f64 p20.lo, .float .f64 p20.hi]) ∧ (m.testBit 11 = true → v11 = Value.agg #[.float .f64 p8.lo, .float .f64 p8.hi, .float .f64 p19.lo, .float .f64 p19.hi, .float .f64 p20.lo, .float .f64 p20.hi]) ∧ (m.testBit 12 = true → p12_ = .pointer (some ⟨g12_, 0, none⟩) ∧ Blk w9 g12_ 26 #[.float .f64 0, .float .f64 0, .float .f64 0, .float .f64 0, .float .f64 0, .float .f64 0] ∧ V143.heap.size ≤ g12_)) (by kernel_rfl) (by kernel_rfl) (by kernel_rfl) (by kernel_rfl) ?st12_166 ?sp12_166 ?re12_166
 case st12_166 =>
   exact ⟨u58, u60, u61, u64, u65, undef, 0, by go_simp, D157.out, fun h => absurd h (by decide), fun h => absurd h (by decide), fun h => absurd h (by decide), fun h => absurd h (by decide), fun h => absurd h (by decide), fun h => absurd h (by decide)⟩
 case sp12_166 =>
   intro m a' w9 i hi hm hd hJ
   obtain ⟨v4, v6, v7, v10, v11, p12_, g12_, rfl, hb0, cl4, cl6, cl7, cl10, cl11, ql12⟩ := hJ
   have CL4 := Lib.hid cl4
   have CL6 := Lib.hid cl6
   have CL7 := Lib.hid cl7
   have CL10 := Lib.hid cl10
   have CL11 := Lib.hid cl11
   have QL12 := Lib.hid ql12
   have HB0 := Lib.hid hb0
   clear cl4 cl6 cl7 cl10 cl11 ql12 hb0 hS158
   simp only [List.mem_cons, List.not_mem_nil, or_false] at hi
   rcases hi with rfl | rfl | rfl | rfl | rfl | rfl
   · refine wpOp_at rfl (by kernel_rfl) (fun K hK => ?_)
     have hd := fun j => @tb_of _ _ j hd
     go_simp
     go_at_call 69
     refine (C17.out _).mono ?_
     rintro r w10 ⟨rfl, hb⟩
     dsimp only
     have hb1 := below_step HB0.out hb
     exact hK _ _ ⟨HS167.out _ hb1, _, v6, v7, v10, v11, p12_, g12_, by go_simp, hb1, fun _ => rfl, fun h => CL6.out (tn h), fun h => CL7.out (tn h), fun h => CL10.out (tn h), fun h => CL11.out (tn h), fun h => ⟨(QL12.out (tn h)).1, (QL12.out (tn h)).2.1.below hb (QL12.out (tn h)).2.1.lt, (QL12.out (tn h)).2.2⟩⟩
   · refine wpOp_at rfl (by kernel_rfl) (fun K hK => ?_)
     have hd := fun j => @tb_of _ _ j hd
     obtain rfl := CL4.out (hd _ (by decide))
     go_simp
     go_at_call 68
     refine (C18.out _).mono ?_
     rintro r w10 ⟨rfl, hb⟩
     dsimp only
     have hb1 := below_step HB0.out hb
     exact hK _ _ ⟨HS167.out _ hb1, _, _, v7, v10, v11, p12_, g12_, by go_simp, hb1, fun _ => rfl, fun _ => rfl, fun h => CL7.out (tn h), fun h => CL10.out (tn h), fun h => CL11.out (tn h), fun h => ⟨(QL12.out (tn h)).1, (QL12.out (tn h)).2.1.below hb (QL12.out (tn h)).2.1.lt, (QL12.out (tn h)).2.2⟩⟩
   · refine wpOp_at rfl (by kernel_rfl) (fun K hK => ?_)
     have hd := fun j => @tb_of _ _ j hd
     obtain rfl := CL6.out (hd _ (by decide))
     go_simp
     go_at_call 67
     refine (C19.out _).mono ?_
     rintro r w10 ⟨rfl, hb⟩
     dsimp only
     have hb1 := below_step HB0.out hb
     exact hK _ _ ⟨HS167.out _ hb1, v4, _, _, v10, v11, p12_, g12_, by go_simp, hb1, fun h => CL4.out (tn h), fun _ => rfl, fun _ => rfl, fun h => CL10.out (tn h), fun h => CL11.out (tn h), fun h => ⟨(QL12.out (tn h)).1, (QL12.out (tn h)).2.1.below hb (QL12.out (tn h)).2.1.lt, (QL12.out (tn h)).2.2⟩⟩
   · refine wpOp_at rfl (by kernel_rfl) (fun K hK => ?_)
     have hd := fun j => @tb_of _ _ j hd
     obtain rfl := CL7.out (hd _ (by decide))
     go_simp
     go_at_call 65
     refine (C20.out _).mono ?_
     rintro r w10 ⟨rfl, hb⟩
     dsimp only
     have hb1 := below_step HB0.out hb
     exact hK _ _ ⟨HS167.out _ hb1, v4, v6, _, _, v11, p12_, g12_, by go_simp, hb1, fun h => CL4.out (tn h), fun h => CL6.out (tn h), fun _ => rfl, fun _ => rfl, fun h => CL11.out (tn h), fun h => ⟨(QL12.out (tn h)).1, (QL12.out (tn h)).2.1.below hb (QL12.out (tn h)).2.1.lt, (QL12.out (tn h)).2.2⟩⟩
   · refine wpOp_at rfl (by kernel_rfl) (fun K hK => ?_)
     have hd := fun j => @tb_of _ _ j hd
     obtain rfl := CL7.out (hd _ (by decide))
     obtain rfl := CL10.out (hd _ (by decide))
     have hb1 := HB0.out
     go_simp
     exact hK _ _ ⟨HS167.out _ hb1, v4, v6, _, _, _, p12_, g12_, by go_simp, hb1, fun h => CL4.out (tn h), fun h => CL6.out (tn h), fun _ => rfl, fun _ => rfl, fun _ => rfl, fun h => ⟨(QL12.out (tn h)).1, (QL12.out (tn h)).2.1, (QL12.out (tn h)).2.2⟩⟩
   · refine wpOp_at rfl (by kernel_rfl) (fun K hK => ?_)
     have hd := fun j => @tb_of _ _ j hd
     go_simp
     have hb1 := below_more HB0.out (.cells #[.float .f64 0, .float .f64 0, .float .f64 0, .float .f64 0, .float .f64 0, .float .f64 0] 26)
     exact hK _ _ ⟨HS167.out _ hb1, v4, v6, v7, v10, v11, .pointer (some ⟨w9.heap.size, 0, none⟩), w9.heap.size, by go_simp, hb1, fun h => CL4.out (tn h), fun h => CL6.out (tn h), fun h => CL7.out (tn h), fun h => CL10.out (tn h), fun h => CL11.out (tn h), fun _ => ⟨rfl, Blk.new_at _ _ _ rfl, HB0.out.size⟩⟩
 clear hS158 D157 HS167
 intro a' W184 hJ
 obtain ⟨v4, v6, v7, v10, v11, p12_, g185, rfl, hb0, cl4, cl6, cl7, cl10, cl11, ql12⟩ := hJ
 obtain rfl := cl4 (by decide)
 obtain rfl := cl6 (by decide)
 obtain rfl := cl7 (by decide)
 obtain rfl := cl10 (by decide)
 obtain rfl := cl11 (by decide)
 obtain ⟨rfl, kk12, ll12⟩ := ql12 (by decide)
 have D170 := Lib.hid hb0
 clear hb0
 refine wpAnyH_frame (a' := ?frq169) ?feq169 ?fgq169
 case feq169 => (go_simp; try with_reducible rfl)
 have K172 := Lib.hid ((kb K146 D170) : Blk W184 (w.heap.size) 26 (vc n))
 have K173 := Lib.hid ((kb K147 D170) : Blk W184 (w.heap.size + 1) 26 #[.float .f64 0, .float .f64 0, .float .f64 0, .float .f64 0, .float .f64 0, .float .f64 0])
 have K174 := Lib.hid ((kb K148 D170) : Blk W184 (w.heap.size + 1 + 1) 26 #[.float .f64 0, .float .f64 0, .float .f64 0, .float .f64 0, .float .f64 0, .float .f64 0])
 have K175 := Lib.hid ((kb K149 D170) : Blk W184 (g8) 24 #[.float .f64 p2.lo, .float .f64 p2.hi])
 have K176 := Lib.hid ((kb K150 D170) : Blk W184 (g52) 24 #[.float .f64 p6.lo, .float .f64 p6.hi])
 have K177 := Lib.hid ((kb K151 D170) : Blk W184 (g93) 24 #[.float .f64 p8.lo, .float .f64 p8.hi])
 have K178 := Lib.hid ((kb K152 D170) : Blk W184 (g140) 26 #[.float .f64 p13.lo, .float .f64 p13.hi, .float .f64 p14.lo, .float .f64 p14.hi, .float .f64 p16.lo, .float .f64 p16.hi])
 have K179 := Lib.hid kk12
 clear kk12
 have HB182 := Lib.hid (below_step HB153.out D170.out)
 have Y181 := Lib.hid (show w.heap.size ≤ g185 ∧ w.heap.size < g185 ∧ w.heap.size + 1 < g185 ∧ w.heap.size + 1 + 1 < g185 ∧ g8 < g185 ∧ g52 < g185 ∧ g93 < g185 ∧ g140 < g185 from ⟨Nat.le_trans HB153.out.size ll12, Nat.lt_of_lt_of_le K146.out.lt ll12, Nat.lt_of_lt_of_le K147.out.lt ll12, Nat.lt_of_lt_of_le K148.out.lt ll12, Nat.lt_of_lt_of_le K149.out.lt ll12, Nat.lt_of_lt_of_le K150.out.lt ll12, Nat.lt_of_lt_of_le K151.out.lt ll12, Nat.lt_of_lt_of_le K152.out.lt ll12⟩)
 have Y183 := Lib.hid (And.intro Y138.out Y181.out)
 clear Y138 Y181
 clear K146 K147 K148 K149 K150 K151 K152 ll12 HB153
 have D186 := Lib.hid (Below.refl W184.heap.size W184)
 clear D170
 have hS187 : True ∧ CellsL W184 (w.heap.size) 2 [.float .f64 n.y.lo, .float .f64 n.y.hi] ∧ CellsL W184 (g8) 0 [.float .f64 p2.lo, .float .f64 p2.hi] ∧ CellsL W184 (g52) 0 [.float .f64 p6.lo, .float .f64 p6.hi] ∧ CellsL W184 (g93) 0 [.float .f64 p8.lo, .float .f64 p8.hi] := ⟨trivial, (kb K172 D186).cellsL 2 [.float .f64 n.y.lo, .float .f64 n.y.hi] rfl, (kb K175 D186).cellsL 0 [.float .f64 p2.lo, .float .f64 p2.hi] rfl, (kb K176 D186).cellsL 0 [.float .f64 p6.lo, .float .f64 p6.hi] rfl, (kb K177 D186).cellsL 0 [.float .f64 p8.lo, .float .f64 p8.hi] rfl⟩
 refine wpAnyH_oneM (i := 13) (l' := bm 14 16383) rfl (by kernel_rfl) (by kernel_rfl) (by kernel_rfl) (fun K hK => ?_)
 have f190 := (kb K179 D186)
 obtain ⟨V188, hV189⟩ : ∃ V, World.setRow W184 (g185) #[.float .f64 p8.lo, .float .f64 p8.hi, .float .f64 p19.lo, .float .f64 p19.hi, .float .f64 p20.lo, .float .f64 p20.hi] = V := ⟨_, rfl⟩
 have K191 := kfr hV189 K172 D186 (by have := Y183.out; omega)
 have K192 := kfr hV189 K173 D186 (by have := Y183.out; omega)
 have K193 := kfr hV189 K174 D186 (by have := Y183.out; omega)
 have K194 := kfr hV189 K175 D186 (by have := Y183.out; omega)
 have K195 := kfr hV189 K176 D186 (by have := Y183.out; omega)
 have K196 := kfr hV189 K177 D186 (by have := Y183.out; omega)
 have K197 := kfr hV189 K178 D186 (by have := Y183.out; omega)
 have K198 := ksr hV189 K179 D186
 have HB199 := hbr hV189 HB182 D186 (by have := Y183.out; omega)
 have D200 := dr V188
 clear K172 K173 K174 K175 K176 K177 K178 K179 HB182 D186
 refine wp_store_row 26 _ _ rfl (g185) #[.float .f64 p8.lo, .float .f64 p8.hi, .float .f64 p19.lo, .float .f64 p19.hi, .float .f64 p20.lo, .float .f64 p20.hi] rfl rfl _ _ f190 (by rw [info_V3]; rfl) rfl (by kernel_rfl) ?_
 rw [hV189]
 go_simp
 clear hV189 f190
 have hS201 : True ∧ CellsL V188 (w.heap.size) 2 [.float .f64 n.y.lo, .float .f64 n.y.hi] ∧ CellsL V188 (g8) 0 [.float .f64 p2.lo, .float .f64 p2.hi] ∧ CellsL V188 (g52) 0 [.float .f64 p6.lo, .float .f64 p6.hi] ∧ CellsL V188 (g93) 0 [.float .f64 p8.lo, .float .f64 p8.hi] := ⟨trivial, (kb K191 D200).cellsL 2 [.float .f64 n.y.lo, .float .f64 n.y.hi] rfl, (kb K194 D200).cellsL 0 [.float .f64 p2.lo, .float .f64 p2.hi] rfl, (kb K195 D200).cellsL 0 [.float .f64 p6.lo, .float .f64 p6.hi] rfl, (kb K196 D200).cellsL 0 [.float .f64 p8.lo, .float .f64 p8.hi] rfl⟩
 refine hK _ _ hS201 ?_
 clear hK K hS187
 refine wpAnyH_done (by kernel_rfl) ?_ _
 clear hS201
 go_wp2_with fail
 refine wp_region_held (S := (fun w' => True ∧ Blk w' (g140) 26 #[.float .f64 p13.lo, .float .f64 p13.hi, .float .f64 p14.lo, .float .f64 p14.hi, .float .f64 p16.lo, .float .f64 p16.hi] ∧ Blk w' (g185) 26 #[.float .f64 p8.lo, .float .f64 p8.hi, .float .f64 p19.lo, .float .f64 p19.hi, .float .f64 p20.lo, .float .f64 p20.hi])) (by kernel_rfl) ?_
 change wpAnyH _ _ _ _ _ _ _ _ (World.drew _)
 obtain ⟨wd202, hwd⟩ : ∃ x, x = World.drew V188 := ⟨_, rfl⟩
 rw [← hwd]
 have D203 := Lib.hid (hwd ▸ Below.drew D200.out : Below V188.heap.size V188 wd202)
 clear D200 hwd
 have hS204 : True ∧ Blk wd202 (g140) 26 #[.float .f64 p13.lo, .float .f64 p13.hi, .float .f64 p14.lo, .float .f64 p14.hi, .float .f64 p16.lo, .float .f64 p16.hi] ∧ Blk wd202 (g185) 26 #[.float .f64 p8.lo, .float .f64 p8.hi, .float .f64 p19.lo, .float .f64 p19.hi, .float .f64 p20.lo, .float .f64 p20.hi] := ⟨trivial, (kb K197 D203), (kb K198 D203)⟩
 refine tkL 0 (bm 6 1) ?aq205 rfl (by kernel_rfl) (fun _ _ _ h => h) (by kernel_rfl) rfl rfl (fun _ hS => hS.2.1) (by rw [info_V3]; rfl) Tryz.underlying26 rfl ?pq205 hS204 ?rq205
 case pq205 => (go_simp; try with_reducible rfl)
 refine tkL 1 (bm 6 3) ?aq206 rfl (by kernel_rfl) (fun _ _ _ h => h) (by kernel_rfl) rfl rfl (fun _ hS => hS.2.2) (by rw [info_V3]; rfl) Tryz.underlying26 rfl ?pq206 hS204 ?rq206
 case pq206 => (go_simp; try with_reducible rfl)
 refine tkq 2 (bm 6 7) hS204 ?_
 refine wpAnyH_oneN (i := 3) (l' := bm 6 15) rfl (by kernel_rfl) (by kernel_rfl) (by kernel_rfl) (fun K hK => ?_)
 have f210 := (kb K192 D203)
 obtain ⟨V208, hV209⟩ : ∃ V, World.setRow wd202 (w.heap.size + 1) #[.float .f64 p13.lo, .float .f64 p13.hi, .float .f64 p14.lo, .float .f64 p14.hi, .float .f64 p16.lo, .float .f64 p16.hi] = V := ⟨_, rfl⟩
 have K211 := ksr hV209 K192 D203
 have K212 := kfr hV209 K193 D203 (by have := Y183.out; omega)
 have K213 := kfr hV209 K197 D203 (by have := Y183.out; omega)
 have K214 := kfr hV209 K198 D203 (by have := Y183.out; omega)
 have HB215 := hbr hV209 HB199 D203 (by have := Y183.out; omega)
 have D216 := dr V208
 clear K191 K192 K193 K194 K195 K196 K197 K198 HB199 D203
 refine wp_store_row 26 _ _ rfl (w.heap.size + 1) #[.float .f64 p13.lo, .float .f64 p13.hi, .float .f64 p14.lo, .float .f64 p14.hi, .float .f64 p16.lo, .float .f64 p16.hi] rfl rfl _ _ f210 (by rw [info_V3]; rfl) rfl (by kernel_rfl) ?_
 rw [hV209]
 go_simp
 clear hV209 f210
 have hS217 : True ∧ Blk V208 (g140) 26 #[.float .f64 p13.lo, .float .f64 p13.hi, .float .f64 p14.lo, .float .f64 p14.hi, .float .f64 p16.lo, .float .f64 p16.hi] ∧ Blk V208 (g185) 26 #[.float .f64 p8.lo, .float .f64 p8.hi, .float .f64 p19.lo, .float .f64 p19.hi, .float .f64 p20.lo, .float .f64 p20.hi] := ⟨trivial, (kb K213 D216), (kb K214 D216)⟩
 refine hK _ _ hS217 ?_
 clear hK K hS204
 refine wpAnyH_oneN (i := 4) (l' := bm 6 31) rfl (by kernel_rfl) (by kernel_rfl) (by kernel_rfl) (fun K hK => ?_)
 have f220 := (kb K212 D216)
 obtain ⟨V218, hV219⟩ : ∃ V, World.setRow V208 (w.heap.size + 1 + 1) #[.float .f64 p8.lo, .float .f64 p8.hi, .float .f64 p19.lo, .float .f64 p19.hi, .float .f64 p20.lo, .float .f64 p20.hi] = V := ⟨_, rfl⟩
 have K221 := kfr hV219 K211 D216 (by have := Y183.out; omega)
 have K222 := ksr hV219 K212 D216
 have K223 := kfr hV219 K213 D216 (by have := Y183.out; omega)
 have K224 := kfr hV219 K214 D216 (by have := Y183.out; omega)
 have HB225 := hbr hV219 HB215 D216 (by have := Y183.out; omega)
 have D226 := dr V218
 clear K211 K212 K213 K214 HB215 D216
 refine wp_store_row 26 _ _ rfl (w.heap.size + 1 + 1) #[.float .f64 p8.lo, .float .f64 p8.hi, .float .f64 p19.lo, .float .f64 p19.hi, .float .f64 p20.lo, .float .f64 p20.hi] rfl rfl _ _ f220 (by rw [info_V3]; rfl) rfl (by kernel_rfl) ?_
 rw [hV219]
 go_simp
 clear hV219 f220
 have hS227 : True ∧ Blk V218 (g140) 26 #[.float .f64 p13.lo, .float .f64 p13.hi, .float .f64 p14.lo, .float .f64 p14.hi, .float .f64 p16.lo, .float .f64 p16.hi] ∧ Blk V218 (g185) 26 #[.float .f64 p8.lo, .float .f64 p8.hi, .float .f64 p19.lo, .float .f64 p19.hi, .float .f64 p20.lo, .float .f64 p20.hi] := ⟨trivial, (kb K223 D226), (kb K224 D226)⟩
 refine hK _ _ hS227 ?_
 clear hK K hS217
 refine tkq 5 (bm 6 63) hS227 ?_
 refine wpAnyH_done (by kernel_rfl) ?_ _
 clear hS227
 go_wp2_with fail
 (try simp only [Exit.inBlock, Exit.then])
 exact bodyPost_ret (res_cct rfl _ _ (w.heap.size + 1) #[.float .f64 p13.lo, .float .f64 p13.hi, .float .f64 p14.lo, .float .f64 p14.hi, .float .f64 p16.lo, .float .f64 p16.hi] (w.heap.size + 1 + 1) #[.float .f64 p8.lo, .float .f64 p8.hi, .float .f64 p19.lo, .float .f64 p19.hi, .float .f64 p20.lo, .float .f64 p20.hi] rfl (kb K221 D226) (by rw [info_V3]; rfl) Tryz.underlying26 rfl rfl (kb K222 D226) (by rw [info_V3]; rfl) Tryz.underlying26 rfl) rfl ⟨rfl, below_step HB225.out D226.out⟩
theorem frame_any (n : V3) (w : World) : Calls Tryz.prog 26 #[vval n] w fun r w' => r = .returned (.tuple #[vval (frT (frS n) n), vval (frU (frS n) n), .int .i64 (frQ n : Nat)]) ∧ Below w.heap.size w w' := by
 have h3 : posS (negS n.z) = 1 ∨ posS (negS n.z) = 0 ∨ posS (negS n.z) = 2 := by unfold posS; split <;> (try split) <;> simp
 rcases h3 with h | h | h
 · rw [show frS n = ofS 13830554455654793216 by unfold frS; rw [h]; rfl, show frQ n = 1 by unfold frQ; rw [h]; rfl]; exact frame_m n 1 _ (by decide) (Or.inl ⟨h, rfl, rfl⟩) w
 · rw [show frS n = ofS 4607182418800017408 by unfold frS; rw [h]; rfl, show frQ n = 1 by unfold frQ; rw [h]; rfl]; exact frame_m n 1 _ (by decide) (Or.inr (Or.inl ⟨h, rfl, rfl⟩)) w
 · rw [show frS n = ofS 4607182418800017408 by unfold frS; rw [h]; rfl, show frQ n = 2 by unfold frQ; rw [h]; rfl]; exact frame_m n 2 _ (by decide) (Or.inr (Or.inr ⟨h, rfl, rfl⟩)) w
end Go.Proofs.YtnljfcebmgifdaaGreat
