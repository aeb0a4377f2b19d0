/- Shaken: Zc. -/
import Derived.Test.YtnljfcebmgifdaaGreatZRb1
set_option maxRecDepth 100000
set_option maxHeartbeats 8000000
set_option linter.unusedVariables false
set_option linter.unusedSimpArgs false
namespace Go.Proofs.YtnljfcebmgifdaaGreat
open Go.RowKit Fl
theorem rpos_lit {a : Sp} {k : Nat} (h : posS a = k) (w : World) : Calls Tryz.prog 71 #[.agg #[.float .f64 a.lo, .float .f64 a.hi]] w fun r w' => r = .returned (.int .i64 (k : Nat)) ∧ Below w.heap.size w w' := h ▸ rpos_sp a w
theorem rframe_1 (n : V3) (h : posS (negS n.z) = 1) (w : World) : Calls Tryz.prog 27 #[Value.agg #[.float .f64 n.x.lo, .float .f64 n.x.hi, .float .f64 n.y.lo, .float .f64 n.y.hi, .float .f64 n.z.lo, .float .f64 n.z.hi]] w fun r w' => r = .returned (.tuple #[vval (frT (ofS 13830554455654793216) n), vval (frU (ofS 13830554455654793216) n), .int .i64 1]) ∧ Below w.heap.size w w' := by
 have C0 := Lib.hid (fun w => rof_sp 4607182418800017408 (by decide) w)
 obtain ⟨p0, hp0⟩ : ∃ z_, ofS 4607182418800017408 = z_ := ⟨_, rfl⟩
 rw [hp0] at C0
 have C1 := Lib.hid (fun w => rneg_sp n.z w)
 obtain ⟨p1, hp1⟩ : ∃ z_, negS n.z = z_ := ⟨_, rfl⟩
 rw [hp1] at C1
 have hl : posS p1 = 1 := by rw [← hp1]; exact h
 clear h
 have C2 := Lib.hid (fun w => rpos_lit hl w)
 have C3 := Lib.hid (fun w => rof_sp 13830554455654793216 (by decide) w)
 obtain ⟨p3, hp3⟩ : ∃ z_, ofS 13830554455654793216 = z_ := ⟨_, rfl⟩
 rw [hp3] at C3
 have C4 := Lib.hid (fun w => radd_sp p3 n.z w)
 obtain ⟨p4, hp4⟩ : ∃ z_, addS p3 n.z = z_ := ⟨_, rfl⟩
 rw [hp4] at C4
 have C5 := Lib.hid (fun w => rdiv_sp p0 p4 w)
 obtain ⟨p5, hp5⟩ : ∃ z_, divS p0 p4 = z_ := ⟨_, rfl⟩
 rw [hp5] at C5
 have C6 := Lib.hid (fun w => rneg_sp p5 w)
 obtain ⟨p6, hp6⟩ : ∃ z_, negS p5 = z_ := ⟨_, rfl⟩
 rw [hp6] at C6
 have C7 := Lib.hid (fun w => rmul_sp n.x n.y w)
 obtain ⟨p7, hp7⟩ : ∃ z_, mulS n.x n.y = z_ := ⟨_, rfl⟩
 rw [hp7] at C7
 have C8 := Lib.hid (fun w => rmul_sp p7 p6 w)
 obtain ⟨p8, hp8⟩ : ∃ z_, mulS p7 p6 = z_ := ⟨_, rfl⟩
 rw [hp8] at C8
 have C9 := Lib.hid (fun w => rsqr_sp n.x w)
 obtain ⟨p9, hp9⟩ : ∃ z_, sqrS n.x = z_ := ⟨_, rfl⟩
 rw [hp9] at C9
 have C10 := Lib.hid (fun w => rmul_sp p3 p9 w)
 obtain ⟨p10, hp10⟩ : ∃ z_, mulS p3 p9 = z_ := ⟨_, rfl⟩
 rw [hp10] at C10
 have C11 := Lib.hid (fun w => rmul_sp p10 p6 w)
 obtain ⟨p11, hp11⟩ : ∃ z_, mulS p10 p6 = z_ := ⟨_, rfl⟩
 rw [hp11] at C11
 have C12 := Lib.hid (fun w => radd_sp p0 p11 w)
 obtain ⟨p12, hp12⟩ : ∃ z_, addS p0 p11 = z_ := ⟨_, rfl⟩
 rw [hp12] at C12
 have C13 := Lib.hid (fun w => rmul_sp p3 p8 w)
 obtain ⟨p13, hp13⟩ : ∃ z_, mulS p3 p8 = z_ := ⟨_, rfl⟩
 rw [hp13] at C13
 have C14 := Lib.hid (fun w => rmul_sp p3 n.x w)
 obtain ⟨p14, hp14⟩ : ∃ z_, mulS p3 n.x = z_ := ⟨_, rfl⟩
 rw [hp14] at C14
 have C15 := Lib.hid (fun w => rneg_sp p14 w)
 obtain ⟨p15, hp15⟩ : ∃ z_, negS p14 = z_ := ⟨_, rfl⟩
 rw [hp15] at C15
 have C16 := Lib.hid (fun w => rsqr_sp n.y w)
 obtain ⟨p16, hp16⟩ : ∃ z_, sqrS n.y = z_ := ⟨_, rfl⟩
 rw [hp16] at C16
 have C17 := Lib.hid (fun w => rmul_sp p16 p6 w)
 obtain ⟨p17, hp17⟩ : ∃ z_, mulS p16 p6 = z_ := ⟨_, rfl⟩
 rw [hp17] at C17
 have C18 := Lib.hid (fun w => radd_sp p3 p17 w)
 obtain ⟨p18, hp18⟩ : ∃ z_, addS p3 p17 = z_ := ⟨_, rfl⟩
 rw [hp18] at C18
 have C19 := Lib.hid (fun w => rneg_sp n.y w)
 obtain ⟨p19, hp19⟩ : ∃ z_, negS n.y = z_ := ⟨_, rfl⟩
 rw [hp19] at C19
 have hT0 : frT (ofS 13830554455654793216) n = (⟨p12, p13, p15⟩ : V3) := by
   subst hp0 hp1 hp3 hp4 hp5 hp6 hp7 hp8 hp9 hp10 hp11 hp12 hp13 hp14 hp15 hp16 hp17 hp18 hp19; rfl
 have hT1 : frU (ofS 13830554455654793216) n = (⟨p8, p18, p19⟩ : V3) := by
   subst hp0 hp1 hp3 hp4 hp5 hp6 hp7 hp8 hp9 hp10 hp11 hp12 hp13 hp14 hp15 hp16 hp17 hp18 hp19; rfl
 rw [hT0, hT1]
 clear hT0 hT1
 clear hp0 hp1 hp3 hp4 hp5 hp6 hp7 hp8 hp9 hp10 hp11 hp12 hp13 hp14 hp15 hp16 hp17 hp18 hp19
 go_enter Tryz.func27, Tryz.ntmps27
 go_wp2_with fail
 obtain ⟨W, hW, K0, K1, K2, hB, hz⟩ := bx3 w 26 26 26 (vc n) #[.float .f64 0, .float .f64 0, .float .f64 0, .float .f64 0, .float .f64 0, .float .f64 0] #[.float .f64 0, .float .f64 0, .float .f64 0, .float .f64 0, .float .f64 0, .float .f64 0]
 rw [← hW]
 have K0 := Lib.hid K0
 have K1 := Lib.hid K1
 have K2 := Lib.hid K2
 have HB := Lib.hid hB
 clear hW hB hz
 have D1 := dr W
 refine (C0.out _).mono ?_
 rintro r w2 ⟨rfl, hb⟩
 have D3 := ds D1 hb
 clear D1
 clear hb
 obtain ⟨g4, hg6⟩ : ∃ g, w2.heap.size = g := ⟨_, rfl⟩
 have Y8 := Lib.hid (show w.heap.size < g4 ∧ w.heap.size + 1 < g4 ∧ w.heap.size + 1 + 1 < g4 by rw [← hg6]; exact ⟨(kb K0 D3).lt, (kb K1 D3).lt, (kb K2 D3).lt⟩)
 obtain ⟨V5, hV7⟩ : ∃ V, w2.alloc (.cells #[.float .f64 0, .float .f64 0] 24) = V := ⟨_, rfl⟩
 have K9 := ka hV7 K0 D3
 have K10 := ka hV7 K1 D3
 have K11 := ka hV7 K2 D3
 have K12 := kn hV7 hg6
 have HB13 := hba hV7 HB D3
 have D14 := dr V5
 clear K0 K1 K2 HB D3
 have f17 := (kb K12 D14).cellsL 0 [.float .f64 0, .float .f64 0] rfl
 dsimp only [CellsL, al, vl, Nat.reduceAdd] at f17
 have u18 := (kb K12 D14).unfrozen
 obtain ⟨V15, hV16⟩ : ∃ V, setCells V5 (g4) 0 [.float .f64 p0.lo, .float .f64 p0.hi] = V := ⟨_, rfl⟩
 have hv19 := hV16
 simp only [setCells, Nat.reduceAdd] at hv19
 have K20 := kf hV16 K9 D14 (by have := Y8.out; omega)
 have K21 := kf hV16 K10 D14 (by have := Y8.out; omega)
 have K22 := kf hV16 K11 D14 (by have := Y8.out; omega)
 have K23 := Lib.hid (show Blk V15 (g4) 24 #[.float .f64 p0.lo, .float .f64 p0.hi] from (ks hV16 K12 D14).out)
 have HB24 := hbs hV16 HB13 D14 (by have := Y8.out; omega)
 have D25 := dr V15
 clear K9 K10 K11 K12 HB13 D14
 have hq26 := (kb K23 D25).cellsL 0 [.float .f64 p0.lo, .float .f64 p0.hi] rfl
 dsimp only [CellsL, al, vl, Nat.reduceAdd] at hq26
 obtain ⟨g27, hg29⟩ : ∃ g, V15.heap.size = g := ⟨_, rfl⟩
 have Y31 := Lib.hid (show w.heap.size < g27 ∧ w.heap.size + 1 < g27 ∧ w.heap.size + 1 + 1 < g27 ∧ g4 < g27 by rw [← hg29]; exact ⟨(kb K20 D25).lt, (kb K21 D25).lt, (kb K22 D25).lt, (kb K23 D25).lt⟩)
 obtain ⟨V28, hV30⟩ : ∃ V, V15.alloc (.cells #[.float .f64 0, .float .f64 0] 24) = V := ⟨_, rfl⟩
 have K32 := ka hV30 K20 D25
 have K33 := ka hV30 K21 D25
 have K34 := ka hV30 K22 D25
 have K35 := ka hV30 K23 D25
 have K36 := kn hV30 hg29
 have HB37 := hba hV30 HB24 D25
 have D38 := dr V28
 clear K20 K21 K22 K23 HB24 D25
 have Y39 := Lib.hid (And.intro Y8.out Y31.out)
 clear Y8 Y31
 have f42 := (kb K36 D38).cellsL 0 [.float .f64 0, .float .f64 0] rfl
 dsimp only [CellsL, al, vl, Nat.reduceAdd] at f42
 have u43 := (kb K36 D38).unfrozen
 obtain ⟨V40, hV41⟩ : ∃ V, setCells V28 (g27) 0 [.float .f64 p0.lo, .float .f64 p0.hi] = V := ⟨_, rfl⟩
 have hv44 := hV41
 simp only [setCells, Nat.reduceAdd] at hv44
 have K45 := kf hV41 K32 D38 (by have := Y39.out; omega)
 have K46 := kf hV41 K33 D38 (by have := Y39.out; omega)
 have K47 := kf hV41 K34 D38 (by have := Y39.out; omega)
 have K48 := kf hV41 K35 D38 (by have := Y39.out; omega)
 have K49 := Lib.hid (show Blk V40 (g27) 24 #[.float .f64 p0.lo, .float .f64 p0.hi] from (ks hV41 K36 D38).out)
 have HB50 := hbs hV41 HB37 D38 (by have := Y39.out; omega)
 have D51 := dr V40
 clear K32 K33 K34 K35 K36 HB37 D38
 have hq52 := (kb K45 D51).cellsL 4 [.float .f64 n.z.lo, .float .f64 n.z.hi] rfl
 dsimp only [CellsL, al, vl, Nat.reduceAdd] at hq52
 go_wp2_with fail
 clear hg6 hV7 hV16 f17 u18 hv19 hq26 hg29 hV30 hV41 f42 u43 hv44 hq52
 refine (C1.out _).mono ?_
 rintro r w53 ⟨rfl, hb⟩
 have D54 := ds D51 hb
 clear D51
 clear hb
 go_wp2_with fail
 refine (C2.out _).mono ?_
 rintro r w55 ⟨rfl, hb⟩
 have D56 := ds D54 hb
 clear D54
 clear hb
 go_wp2_with fail
 refine (C3.out _).mono ?_
 rintro r w57 ⟨rfl, hb⟩
 have D58 := ds D56 hb
 clear D56
 clear hb
 have f61 := (kb K49 D58).cellsL 0 [.float .f64 p0.lo, .float .f64 p0.hi] rfl
 dsimp only [CellsL, al, vl, Nat.reduceAdd] at f61
 have u62 := (kb K49 D58).unfrozen
 obtain ⟨V59, hV60⟩ : ∃ V, setCells w57 (g27) 0 [.float .f64 p3.lo, .float .f64 p3.hi] = V := ⟨_, rfl⟩
 have hv63 := hV60
 simp only [setCells, Nat.reduceAdd] at hv63
 have K64 := kf hV60 K45 D58 (by have := Y39.out; omega)
 have K65 := kf hV60 K46 D58 (by have := Y39.out; omega)
 have K66 := kf hV60 K47 D58 (by have := Y39.out; omega)
 have K67 := kf hV60 K48 D58 (by have := Y39.out; omega)
 have K68 := Lib.hid (show Blk V59 (g27) 24 #[.float .f64 p3.lo, .float .f64 p3.hi] from (ks hV60 K49 D58).out)
 have HB69 := hbs hV60 HB50 D58 (by have := Y39.out; omega)
 have D70 := dr V59
 clear K45 K46 K47 K48 K49 HB50 D58
 go_wp2_with fail
 clear hV60 f61 u62 hv63
 refine wp_region_held (S := (fun w' => True ∧ CellsL w' (w.heap.size) 4 [.float .f64 n.z.lo, .float .f64 n.z.hi] ∧ CellsL w' (g4) 0 [.float .f64 p0.lo, .float .f64 p0.hi] ∧ CellsL w' (g27) 0 [.float .f64 p3.lo, .float .f64 p3.hi])) (by kernel_rfl) ?_
 change wpAnyH _ _ _ _ _ _ _ _ (World.drew _)
 obtain ⟨wd71, hwd⟩ : ∃ x, x = World.drew V59 := ⟨_, rfl⟩
 rw [← hwd]
 have D72 := Lib.hid (hwd ▸ Below.drew D70.out : Below V59.heap.size V59 wd71)
 clear D70 hwd
 have hS73 : True ∧ CellsL wd71 (w.heap.size) 4 [.float .f64 n.z.lo, .float .f64 n.z.hi] ∧ CellsL wd71 (g4) 0 [.float .f64 p0.lo, .float .f64 p0.hi] ∧ CellsL wd71 (g27) 0 [.float .f64 p3.lo, .float .f64 p3.hi] := ⟨trivial, (kb K64 D72).cellsL 4 [.float .f64 n.z.lo, .float .f64 n.z.hi] rfl, (kb K67 D72).cellsL 0 [.float .f64 p0.lo, .float .f64 p0.hi] rfl, (kb K68 D72).cellsL 0 [.float .f64 p3.lo, .float .f64 p3.hi] rfl⟩
 refine tke 0 (bm 9 1) hS73 ?_
 refine tke 1 (bm 9 3) hS73 ?_
 refine tkq 2 (bm 9 7) hS73 ?_
 refine tke 3 (bm 9 15) hS73 ?_
 have HS78 := Lib.hid (show ∀ w', Below V59.heap.size V59 w' → (True ∧ CellsL w' (w.heap.size) 4 [.float .f64 n.z.lo, .float .f64 n.z.hi] ∧ CellsL w' (g4) 0 [.float .f64 p0.lo, .float .f64 p0.hi] ∧ CellsL w' (g27) 0 [.float .f64 p3.lo, .float .f64 p3.hi]) from fun w' b => ⟨trivial, (K64.out.below b K64.out.lt).cellsL 4 [.float .f64 n.z.lo, .float .f64 n.z.hi] rfl, (K67.out.below b K67.out.lt).cellsL 0 [.float .f64 p0.lo, .float .f64 p0.hi] rfl, (K68.out.below b K68.out.lt).cellsL 0 [.float .f64 p3.lo, .float .f64 p3.hi] rfl⟩)
 refine wpAnyH_sets2 (N := 9) (stop := 255) (F := 1) (m := 15) (R := [4, 5, 6, 7]) (M := [15, 31, 143, 63, 159, 127, 191, 255]) (fun i => if i = 4 then 10 else if i = 5 then 17 else if i = 6 then 32 else if i = 7 then 0 else 0) (fun a0 m a w9 => ∃ (v4 v5 v6 p7_ : Value) (g7_ : Nat), a = ((((a0.put (some 28) v4).put (some 29) v5).put (some 30) v6).put (some 9) p7_) ∧ Below V59.heap.size V59 w9 ∧ (m.testBit 4 = true → v4 = Value.agg #[.float .f64 p4.lo, .float .f64 p4.hi]) ∧ (m.testBit 5 = true → v5 = Value.agg #[.float .f64 p5.lo, .float .f64 p5.hi]) ∧ (m.testBit 6 = true → v6 = Value.agg #[.float .f64 p6.lo, .float .f64 p6.hi]) ∧ (m.testBit 7 = true → p7_ = .pointer (some ⟨g7_, 0, none⟩) ∧ Blk w9 g7_ 24 #[.float .f64 0, .float .f64 0] ∧ V59.heap.size ≤ g7_)) (by kernel_rfl) (by kernel_rfl) (by kernel_rfl) (by kernel_rfl) ?st9 ?sp9 ?re9
 case st9 =>
   exact ⟨undef, undef, undef, undef, 0, by go_simp, D72.out, fun h => absurd h (by decide), fun h => absurd h (by decide), fun h => absurd h (by decide), fun h => absurd h (by decide)⟩
 case sp9 =>
   intro m a' w9 i hi hm hd hJ
   obtain ⟨v4, v5, v6, p7_, g7_, rfl, hb0, cl4, cl5, cl6, ql7⟩ := hJ
   have CL4 := Lib.hid cl4
   have CL5 := Lib.hid cl5
   have CL6 := Lib.hid cl6
   have QL7 := Lib.hid ql7
   have HB0 := Lib.hid hb0
   clear cl4 cl5 cl6 ql7 hb0 hS73
   simp only [List.mem_cons, List.not_mem_nil, or_false] at hi
   rcases hi with rfl | rfl | rfl | rfl
   · refine wpOp_at rfl (by kernel_rfl) (fun K hK => ?_)
     have hd := fun j => @tb_of _ _ j hd
     go_simp
     go_at_call 74
     refine (C4.out _).mono ?_
     rintro r w10 ⟨rfl, hb⟩
     dsimp only
     have hb1 := below_step HB0.out hb
     exact hK _ _ ⟨HS78.out _ hb1, _, v5, v6, p7_, g7_, by go_simp, hb1, fun _ => rfl, fun h => CL5.out (tn h), fun h => CL6.out (tn h), fun h => ⟨(QL7.out (tn h)).1, (QL7.out (tn h)).2.1.below hb (QL7.out (tn h)).2.1.lt, (QL7.out (tn h)).2.2⟩⟩
   · refine wpOp_at rfl (by kernel_rfl) (fun K hK => ?_)
     have hd := fun j => @tb_of _ _ j hd
     obtain rfl := CL4.out (hd _ (by decide))
     go_simp
     go_at_call 73
     refine (C5.out _).mono ?_
     rintro r w10 ⟨rfl, hb⟩
     dsimp only
     have hb1 := below_step HB0.out hb
     exact hK _ _ ⟨HS78.out _ hb1, _, _, v6, p7_, g7_, by go_simp, hb1, fun _ => rfl, fun _ => rfl, fun h => CL6.out (tn h), fun h => ⟨(QL7.out (tn h)).1, (QL7.out (tn h)).2.1.below hb (QL7.out (tn h)).2.1.lt, (QL7.out (tn h)).2.2⟩⟩
   · refine wpOp_at rfl (by kernel_rfl) (fun K hK => ?_)
     have hd := fun j => @tb_of _ _ j hd
     obtain rfl := CL5.out (hd _ (by decide))
     go_simp
     go_at_call 72
     refine (C6.out _).mono ?_
     rintro r w10 ⟨rfl, hb⟩
     dsimp only
     have hb1 := below_step HB0.out hb
     exact hK _ _ ⟨HS78.out _ hb1, v4, _, _, p7_, g7_, by go_simp, hb1, fun h => CL4.out (tn h), fun _ => rfl, fun _ => rfl, fun h => ⟨(QL7.out (tn h)).1, (QL7.out (tn h)).2.1.below hb (QL7.out (tn h)).2.1.lt, (QL7.out (tn h)).2.2⟩⟩
   · refine wpOp_at rfl (by kernel_rfl) (fun K hK => ?_)
     have hd := fun j => @tb_of _ _ j hd
     go_simp
     have hb1 := below_more HB0.out (.cells #[.float .f64 0, .float .f64 0] 24)
     exact hK _ _ ⟨HS78.out _ hb1, v4, v5, v6, .pointer (some ⟨w9.heap.size, 0, none⟩), w9.heap.size, by go_simp, hb1, fun h => CL4.out (tn h), fun h => CL5.out (tn h), fun h => CL6.out (tn h), fun _ => ⟨rfl, Blk.new_at _ _ _ rfl, HB0.out.size⟩⟩
 clear hS73 D72 HS78
 intro a' W93 hJ
 obtain ⟨v4, v5, v6, p7_, g94, rfl, hb0, cl4, cl5, cl6, ql7⟩ := hJ
 obtain rfl := cl4 (by decide)
 obtain rfl := cl5 (by decide)
 obtain rfl := cl6 (by decide)
 obtain ⟨rfl, kk7, ll7⟩ := ql7 (by decide)
 have D81 := Lib.hid hb0
 clear hb0
 refine wpAnyH_frame (a' := ?frq80) ?feq80 ?fgq80
 case feq80 => (go_simp; try with_reducible rfl)
 have K83 := Lib.hid ((kb K64 D81) : Blk W93 (w.heap.size) 26 (vc n))
 have K84 := Lib.hid ((kb K65 D81) : Blk W93 (w.heap.size + 1) 26 #[.float .f64 0, .float .f64 0, .float .f64 0, .float .f64 0, .float .f64 0, .float .f64 0])
 have K85 := Lib.hid ((kb K66 D81) : Blk W93 (w.heap.size + 1 + 1) 26 #[.float .f64 0, .float .f64 0, .float .f64 0, .float .f64 0, .float .f64 0, .float .f64 0])
 have K86 := Lib.hid ((kb K67 D81) : Blk W93 (g4) 24 #[.float .f64 p0.lo, .float .f64 p0.hi])
 have K87 := Lib.hid ((kb K68 D81) : Blk W93 (g27) 24 #[.float .f64 p3.lo, .float .f64 p3.hi])
 have K88 := Lib.hid kk7
 clear kk7
 have HB91 := Lib.hid (below_step HB69.out D81.out)
 have Y90 := Lib.hid (show w.heap.size ≤ g94 ∧ w.heap.size < g94 ∧ w.heap.size + 1 < g94 ∧ w.heap.size + 1 + 1 < g94 ∧ g4 < g94 ∧ g27 < g94 from ⟨Nat.le_trans HB69.out.size ll7, Nat.lt_of_lt_of_le K64.out.lt ll7, Nat.lt_of_lt_of_le K65.out.lt ll7, Nat.lt_of_lt_of_le K66.out.lt ll7, Nat.lt_of_lt_of_le K67.out.lt ll7, Nat.lt_of_lt_of_le K68.out.lt ll7⟩)
 have Y92 := Lib.hid (And.intro Y39.out Y90.out)
 clear Y39 Y90
 clear K64 K65 K66 K67 K68 ll7 HB69
 have D95 := Lib.hid (Below.refl W93.heap.size W93)
 clear D81
 have hS96 : True ∧ CellsL W93 (w.heap.size) 4 [.float .f64 n.z.lo, .float .f64 n.z.hi] ∧ CellsL W93 (g4) 0 [.float .f64 p0.lo, .float .f64 p0.hi] ∧ CellsL W93 (g27) 0 [.float .f64 p3.lo, .float .f64 p3.hi] := ⟨trivial, (kb K83 D95).cellsL 4 [.float .f64 n.z.lo, .float .f64 n.z.hi] rfl, (kb K86 D95).cellsL 0 [.float .f64 p0.lo, .float .f64 p0.hi] rfl, (kb K87 D95).cellsL 0 [.float .f64 p3.lo, .float .f64 p3.hi] rfl⟩
 refine wpAnyH_oneM (i := 8) (l' := bm 9 511) rfl (by kernel_rfl) (by kernel_rfl) (by kernel_rfl) (fun K hK => ?_)
 have f99 := (kb K88 D95).cellsL 0 [.float .f64 0, .float .f64 0] rfl
 dsimp only [CellsL, al, vl, Nat.reduceAdd] at f99
 have u100 := (kb K88 D95).unfrozen
 obtain ⟨V97, hV98⟩ : ∃ V, setCells W93 (g94) 0 [.float .f64 p6.lo, .float .f64 p6.hi] = V := ⟨_, rfl⟩
 have hv101 := hV98
 simp only [setCells, Nat.reduceAdd] at hv101
 have K102 := kf hV98 K83 D95 (by have := Y92.out; omega)
 have K103 := kf hV98 K84 D95 (by have := Y92.out; omega)
 have K104 := kf hV98 K85 D95 (by have := Y92.out; omega)
 have K105 := kf hV98 K86 D95 (by have := Y92.out; omega)
 have K106 := kf hV98 K87 D95 (by have := Y92.out; omega)
 have K107 := Lib.hid (show Blk V97 (g94) 24 #[.float .f64 p6.lo, .float .f64 p6.hi] from (ks hV98 K88 D95).out)
 have HB108 := hbs hV98 HB91 D95 (by have := Y92.out; omega)
 have D109 := dr V97
 clear K83 K84 K85 K86 K87 K88 HB91 D95
 go_simp
 clear hV98 f99 u100 hv101
 have hS110 : True ∧ CellsL V97 (w.heap.size) 4 [.float .f64 n.z.lo, .float .f64 n.z.hi] ∧ CellsL V97 (g4) 0 [.float .f64 p0.lo, .float .f64 p0.hi] ∧ CellsL V97 (g27) 0 [.float .f64 p3.lo, .float .f64 p3.hi] := ⟨trivial, (kb K102 D109).cellsL 4 [.float .f64 n.z.lo, .float .f64 n.z.hi] rfl, (kb K105 D109).cellsL 0 [.float .f64 p0.lo, .float .f64 p0.hi] rfl, (kb K106 D109).cellsL 0 [.float .f64 p3.lo, .float .f64 p3.hi] rfl⟩
 refine hK _ _ hS110 ?_
 clear hK K hS96
 refine wpAnyH_done (by kernel_rfl) ?_ _
 clear hS110
 go_wp2_with fail
 refine wp_region_held (S := (fun w' => True ∧ CellsL w' (w.heap.size) 0 [.float .f64 n.x.lo, .float .f64 n.x.hi, .float .f64 n.y.lo, .float .f64 n.y.hi] ∧ CellsL w' (g94) 0 [.float .f64 p6.lo, .float .f64 p6.hi])) (by kernel_rfl) ?_
 change wpAnyH _ _ _ _ _ _ _ _ (World.drew _)
 obtain ⟨wd111, hwd⟩ : ∃ x, x = World.drew V97 := ⟨_, rfl⟩
 rw [← hwd]
 have D112 := Lib.hid (hwd ▸ Below.drew D109.out : Below V97.heap.size V97 wd111)
 clear D109 hwd
 have hS113 : True ∧ CellsL wd111 (w.heap.size) 0 [.float .f64 n.x.lo, .float .f64 n.x.hi, .float .f64 n.y.lo, .float .f64 n.y.hi] ∧ CellsL wd111 (g94) 0 [.float .f64 p6.lo, .float .f64 p6.hi] := ⟨trivial, (kb K102 D112).cellsL 0 [.float .f64 n.x.lo, .float .f64 n.x.hi, .float .f64 n.y.lo, .float .f64 n.y.hi] rfl, (kb K107 D112).cellsL 0 [.float .f64 p6.lo, .float .f64 p6.hi] rfl⟩
 refine tkq 0 (bm 9 1) hS113 ?_
 refine tke 1 (bm 9 3) hS113 ?_
 refine tkq 2 (bm 9 7) hS113 ?_
 refine tke 3 (bm 9 15) hS113 ?_
 refine tke 5 (bm 9 47) hS113 ?_
 have HS119 := Lib.hid (show ∀ w', Below V97.heap.size V97 w' → (True ∧ CellsL w' (w.heap.size) 0 [.float .f64 n.x.lo, .float .f64 n.x.hi, .float .f64 n.y.lo, .float .f64 n.y.hi] ∧ CellsL w' (g94) 0 [.float .f64 p6.lo, .float .f64 p6.hi]) from fun w' b => ⟨trivial, (K102.out.below b K102.out.lt).cellsL 0 [.float .f64 n.x.lo, .float .f64 n.x.hi, .float .f64 n.y.lo, .float .f64 n.y.hi] rfl, (K107.out.below b K107.out.lt).cellsL 0 [.float .f64 p6.lo, .float .f64 p6.hi] rfl⟩)
 refine wpAnyH_sets2 (N := 9) (stop := 255) (F := 1) (m := 47) (R := [4, 6, 7]) (M := [47, 63, 175, 127, 191, 255]) (fun i => if i = 4 then 10 else if i = 6 then 48 else if i = 7 then 0 else 0) (fun a0 m a w9 => ∃ (v4 v6 p7_ : Value) (g7_ : Nat), a = (((a0.put (some 35) v4).put (some 37) v6).put (some 10) p7_) ∧ Below V97.heap.size V97 w9 ∧ (m.testBit 4 = true → v4 = Value.agg #[.float .f64 p7.lo, .float .f64 p7.hi]) ∧ (m.testBit 6 = true → v6 = Value.agg #[.float .f64 p8.lo, .float .f64 p8.hi]) ∧ (m.testBit 7 = true → p7_ = .pointer (some ⟨g7_, 0, none⟩) ∧ Blk w9 g7_ 24 #[.float .f64 0, .float .f64 0] ∧ V97.heap.size ≤ g7_)) (by kernel_rfl) (by kernel_rfl) (by kernel_rfl) (by kernel_rfl) ?st10 ?sp10 ?re10
 case st10 =>
   exact ⟨undef, undef, undef, 0, by go_simp, D112.out, fun h => absurd h (by decide), fun h => absurd h (by decide), fun h => absurd h (by decide)⟩
 case sp10 =>
   intro m a' w9 i hi hm hd hJ
   obtain ⟨v4, v6, p7_, g7_, rfl, hb0, cl4, cl6, ql7⟩ := hJ
   have CL4 := Lib.hid cl4
   have CL6 := Lib.hid cl6
   have QL7 := Lib.hid ql7
   have HB0 := Lib.hid hb0
   clear cl4 cl6 ql7 hb0 hS113
   simp only [List.mem_cons, List.not_mem_nil, or_false] at hi
   rcases hi with rfl | rfl | rfl
   · refine wpOp_at rfl (by kernel_rfl) (fun K hK => ?_)
     have hd := fun j => @tb_of _ _ j hd
     go_simp
     go_at_call 75
     refine (C7.out _).mono ?_
     rintro r w10 ⟨rfl, hb⟩
     dsimp only
     have hb1 := below_step HB0.out hb
     exact hK _ _ ⟨HS119.out _ hb1, _, v6, p7_, g7_, by go_simp, hb1, fun _ => rfl, fun h => CL6.out (tn h), fun h => ⟨(QL7.out (tn h)).1, (QL7.out (tn h)).2.1.below hb (QL7.out (tn h)).2.1.lt, (QL7.out (tn h)).2.2⟩⟩
   · refine wpOp_at rfl (by kernel_rfl) (fun K hK => ?_)
     have hd := fun j => @tb_of _ _ j hd
     obtain rfl := CL4.out (hd _ (by decide))
     go_simp
     go_at_call 75
     refine (C8.out _).mono ?_
     rintro r w10 ⟨rfl, hb⟩
     dsimp only
     have hb1 := below_step HB0.out hb
     exact hK _ _ ⟨HS119.out _ hb1, _, _, p7_, g7_, by go_simp, hb1, fun _ => rfl, fun _ => rfl, fun h => ⟨(QL7.out (tn h)).1, (QL7.out (tn h)).2.1.below hb (QL7.out (tn h)).2.1.lt, (QL7.out (tn h)).2.2⟩⟩
   · refine wpOp_at rfl (by kernel_rfl) (fun K hK => ?_)
     have hd := fun j => @tb_of _ _ j hd
     go_simp
     have hb1 := below_more HB0.out (.cells #[.float .f64 0, .float .f64 0] 24)
     exact hK _ _ ⟨HS119.out _ hb1, v4, v6, .pointer (some ⟨w9.heap.size, 0, none⟩), w9.heap.size, by go_simp, hb1, fun h => CL4.out (tn h), fun h => CL6.out (tn h), fun _ => ⟨rfl, Blk.new_at _ _ _ rfl, HB0.out.size⟩⟩
 clear hS113 D112 HS119
 intro a' W135 hJ
 obtain ⟨v4, v6, p7_, g136, rfl, hb0, cl4, cl6, ql7⟩ := hJ
 obtain rfl := cl4 (by decide)
 obtain rfl := cl6 (by decide)
 obtain ⟨rfl, kk7, ll7⟩ := ql7 (by decide)
 have D122 := Lib.hid hb0
 clear hb0
 refine wpAnyH_frame (a' := ?frq121) ?feq121 ?fgq121
 case feq121 => (go_simp; try with_reducible rfl)
 have K124 := Lib.hid ((kb K102 D122) : Blk W135 (w.heap.size) 26 (vc n))
 have K125 := Lib.hid ((kb K103 D122) : Blk W135 (w.heap.size + 1) 26 #[.float .f64 0, .float .f64 0, .float .f64 0, .float .f64 0, .float .f64 0, .float .f64 0])
 have K126 := Lib.hid ((kb K104 D122) : Blk W135 (w.heap.size + 1 + 1) 26 #[.float .f64 0, .float .f64 0, .float .f64 0, .float .f64 0, .float .f64 0, .float .f64 0])
 have K127 := Lib.hid ((kb K105 D122) : Blk W135 (g4) 24 #[.float .f64 p0.lo, .float .f64 p0.hi])
 have K128 := Lib.hid ((kb K106 D122) : Blk W135 (g27) 24 #[.float .f64 p3.lo, .float .f64 p3.hi])
 have K129 := Lib.hid ((kb K107 D122) : Blk W135 (g94) 24 #[.float .f64 p6.lo, .float .f64 p6.hi])
 have K130 := Lib.hid kk7
 clear kk7
 have HB133 := Lib.hid (below_step HB108.out D122.out)
 have Y132 := Lib.hid (show w.heap.size ≤ g136 ∧ w.heap.size < g136 ∧ w.heap.size + 1 < g136 ∧ w.heap.size + 1 + 1 < g136 ∧ g4 < g136 ∧ g27 < g136 ∧ g94 < g136 from ⟨Nat.le_trans HB108.out.size ll7, Nat.lt_of_lt_of_le K102.out.lt ll7, Nat.lt_of_lt_of_le K103.out.lt ll7, Nat.lt_of_lt_of_le K104.out.lt ll7, Nat.lt_of_lt_of_le K105.out.lt ll7, Nat.lt_of_lt_of_le K106.out.lt ll7, Nat.lt_of_lt_of_le K107.out.lt ll7⟩)
 have Y134 := Lib.hid (And.intro Y92.out Y132.out)
 clear Y92 Y132
 clear K102 K103 K104 K105 K106 K107 ll7 HB108
 have D137 := Lib.hid (Below.refl W135.heap.size W135)
 clear D122
 have hS138 : True ∧ CellsL W135 (w.heap.size) 0 [.float .f64 n.x.lo, .float .f64 n.x.hi, .float .f64 n.y.lo, .float .f64 n.y.hi] ∧ CellsL W135 (g94) 0 [.float .f64 p6.lo, .float .f64 p6.hi] := ⟨trivial, (kb K124 D137).cellsL 0 [.float .f64 n.x.lo, .float .f64 n.x.hi, .float .f64 n.y.lo, .float .f64 n.y.hi] rfl, (kb K129 D137).cellsL 0 [.float .f64 p6.lo, .float .f64 p6.hi] rfl⟩
 refine wpAnyH_oneM (i := 8) (l' := bm 9 511) rfl (by kernel_rfl) (by kernel_rfl) (by kernel_rfl) (fun K hK => ?_)
 have f141 := (kb K130 D137).cellsL 0 [.float .f64 0, .float .f64 0] rfl
 dsimp only [CellsL, al, vl, Nat.reduceAdd] at f141
 have u142 := (kb K130 D137).unfrozen
 obtain ⟨V139, hV140⟩ : ∃ V, setCells W135 (g136) 0 [.float .f64 p8.lo, .float .f64 p8.hi] = V := ⟨_, rfl⟩
 have hv143 := hV140
 simp only [setCells, Nat.reduceAdd] at hv143
 have K144 := kf hV140 K124 D137 (by have := Y134.out; omega)
 have K145 := kf hV140 K125 D137 (by have := Y134.out; omega)
 have K146 := kf hV140 K126 D137 (by have := Y134.out; omega)
 have K147 := kf hV140 K127 D137 (by have := Y134.out; omega)
 have K148 := kf hV140 K128 D137 (by have := Y134.out; omega)
 have K149 := kf hV140 K129 D137 (by have := Y134.out; omega)
 have K150 := Lib.hid (show Blk V139 (g136) 24 #[.float .f64 p8.lo, .float .f64 p8.hi] from (ks hV140 K130 D137).out)
 have HB151 := hbs hV140 HB133 D137 (by have := Y134.out; omega)
 have D152 := dr V139
 clear K124 K125 K126 K127 K128 K129 K130 HB133 D137
 go_simp
 clear hV140 f141 u142 hv143
 have hS153 : True ∧ CellsL V139 (w.heap.size) 0 [.float .f64 n.x.lo, .float .f64 n.x.hi, .float .f64 n.y.lo, .float .f64 n.y.hi] ∧ CellsL V139 (g94) 0 [.float .f64 p6.lo, .float .f64 p6.hi] := ⟨trivial, (kb K144 D152).cellsL 0 [.float .f64 n.x.lo, .float .f64 n.x.hi, .float .f64 n.y.lo, .float .f64 n.y.hi] rfl, (kb K149 D152).cellsL 0 [.float .f64 p6.lo, .float .f64 p6.hi] rfl⟩
 refine hK _ _ hS153 ?_
 clear hK K hS138
 refine wpAnyH_done (by kernel_rfl) ?_ _
 clear hS153
 go_wp2_with fail
 refine wp_region_held (S := (fun w' => True ∧ CellsL w' (w.heap.size) 0 [.float .f64 n.x.lo, .float .f64 n.x.hi] ∧ CellsL w' (g4) 0 [.float .f64 p0.lo, .float .f64 p0.hi] ∧ CellsL w' (g27) 0 [.float .f64 p3.lo, .float .f64 p3.hi] ∧ CellsL w' (g94) 0 [.float .f64 p6.lo, .float .f64 p6.hi] ∧ CellsL w' (g136) 0 [.float .f64 p8.lo, .float .f64 p8.hi])) (by kernel_rfl) ?_
 change wpAnyH _ _ _ _ _ _ _ _ (World.drew _)
 obtain ⟨wd154, hwd⟩ : ∃ x, x = World.drew V139 := ⟨_, rfl⟩
 rw [← hwd]
 have D155 := Lib.hid (hwd ▸ Below.drew D152.out : Below V139.heap.size V139 wd154)
 clear D152 hwd
 have hS156 : True ∧ CellsL wd154 (w.heap.size) 0 [.float .f64 n.x.lo, .float .f64 n.x.hi] ∧ CellsL wd154 (g4) 0 [.float .f64 p0.lo, .float .f64 p0.hi] ∧ CellsL wd154 (g27) 0 [.float .f64 p3.lo, .float .f64 p3.hi] ∧ CellsL wd154 (g94) 0 [.float .f64 p6.lo, .float .f64 p6.hi] ∧ CellsL wd154 (g136) 0 [.float .f64 p8.lo, .float .f64 p8.hi] := ⟨trivial, (kb K144 D155).cellsL 0 [.float .f64 n.x.lo, .float .f64 n.x.hi] rfl, (kb K147 D155).cellsL 0 [.float .f64 p0.lo, .float .f64 p0.hi] rfl, (kb K148 D155).cellsL 0 [.float .f64 p3.lo, .float .f64 p3.hi] rfl, (kb K149 D155).cellsL 0 [.float .f64 p6.lo, .float .f64 p6.hi] rfl, (kb K150 D155).cellsL 0 [.float .f64 p8.lo, .float .f64 p8.hi] rfl⟩
 refine tke 0 (bm 20 1) hS156 ?_
 refine tke 1 (bm 20 3) hS156 ?_
 refine tkq 2 (bm 20 7) hS156 ?_
 refine tke 3 (bm 20 15) hS156 ?_
 refine tke 6 (bm 20 79) hS156 ?_
 refine tke 9 (bm 20 591) hS156 ?_
 refine tke 10 (bm 20 1615) hS156 ?_
 refine tke 12 (bm 20 5711) hS156 ?_
 refine tkq 13 (bm 20 13903) hS156 ?_
 refine tke 14 (bm 20 30287) hS156 ?_
 have HS167 := Lib.hid (show ∀ w', Below V139.heap.size V139 w' → (True ∧ CellsL w' (w.heap.size) 0 [.float .f64 n.x.lo, .float .f64 n.x.hi] ∧ CellsL w' (g4) 0 [.float .f64 p0.lo, .float .f64 p0.hi] ∧ CellsL w' (g27) 0 [.float .f64 p3.lo, .float .f64 p3.hi] ∧ CellsL w' (g94) 0 [.float .f64 p6.lo, .float .f64 p6.hi] ∧ CellsL w' (g136) 0 [.float .f64 p8.lo, .float .f64 p8.hi]) from fun w' b => ⟨trivial, (K144.out.below b K144.out.lt).cellsL 0 [.float .f64 n.x.lo, .float .f64 n.x.hi] rfl, (K147.out.below b K147.out.lt).cellsL 0 [.float .f64 p0.lo, .float .f64 p0.hi] rfl, (K148.out.below b K148.out.lt).cellsL 0 [.float .f64 p3.lo, .float .f64 p3.hi] rfl, (K149.out.below b K149.out.lt).cellsL 0 [.float .f64 p6.lo, .float .f64 p6.hi] rfl, (K150.out.below b K150.out.lt).cellsL 0 [.float .f64 p8.lo, .float .f64 p8.hi] rfl⟩)
 refine wpAnyH_sets2 (N := 20) (stop := 524287) (F := 1) (m := 30287) (R := [4, 5, 7, 8, 11, 15, 16, 17, 18]) (M := [30287, 30303, 292431, 30335, 292447, 30463, 292479, 30719, 292607, 32767, 292863, 65535, 294911, 131071, 327679, 262143, 393215, 524287]) (fun i => if i = 4 then 8 else if i = 5 then 18 else if i = 7 then 96 else if i = 8 then 129 else if i = 11 then 1792 else if i = 15 then 22528 else if i = 16 then 32768 else if i = 17 then 67840 else if i = 18 then 0 else 0) (fun a0 m a w9 => ∃ (v4 v5 v7 v8 v11 v15 v16 v17 p18_ : Value) (g18_ : Nat), a = (((((((((a0.put (some 42) v4).put (some 43) v5).put (some 45) v7).put (some 46) v8).put (some 49) v11).put (some 53) v15).put (some 54) v16).put (some 55) v17).put (some 11) p18_) ∧ Below V139.heap.size V139 w9 ∧ (m.testBit 4 = true → v4 = Value.agg #[.float .f64 p9.lo, .float .f64 p9.hi]) ∧ (m.testBit 5 = true → v5 = Value.agg #[.float .f64 p10.lo, .float .f64 p10.hi]) ∧ (m.testBit 7 = true → v7 = Value.agg #[.float .f64 p11.lo, .float .f64 p11.hi]) ∧ (m.testBit 8 = true → v8 = Value.agg #[.float .f64 p12.lo, .float .f64 p12.hi]) ∧ (m.testBit 11 = true → v11 = Value.agg #[.float .f64 p13.lo, .float .f64 p13.hi]) ∧ (m.testBit 15 = true → v15 = Value.agg #[.float .f64 p14.lo, .float .f64 p14.hi]) ∧ (m.testBit 16 = true → v16 = Value.agg #[.float .f64 p15.lo, .float .f64 p15.hi]) ∧ (m.testBit 17 = true → v17 = Value.agg #[.float .f64 p12.lo, .float .f64 p12.hi, .float .f64 p13.lo, .float .f64 p13.hi, .float .f64 p15.lo, .float .f64 p15.hi]) ∧ (m.testBit 18 = true → p18_ = .pointer (some ⟨g18_, 0, none⟩) ∧ Blk w9 g18_ 26 #[.float .f64 0, .float .f64 0, .float .f64 0, .float .f64 0, .float .f64 0, .float .f64 0] ∧ V139.heap.size ≤ g18_)) (by kernel_rfl) (by kernel_rfl) (by kernel_rfl) (by kernel_rfl) ?st11 ?sp11 ?re11
 case st11 =>
   exact ⟨undef, undef, undef, undef, undef, undef, undef, undef, undef, 0, by go_simp, D155.out, fun h => absurd h (by decide), fun h => absurd h (by decide), fun h => absurd h (by decide), fun h => absurd h (by decide), fun h => absurd h (by decide), fun h => absurd h (by decide), fun h => absurd h (by decide), fun h => absurd h (by decide), fun h => absurd h (by decide)⟩
 case sp11 =>
   intro m a' w9 i hi hm hd hJ
   obtain ⟨v4, v5, v7, v8, v11, v15, v16, v17, p18_, g18_, rfl, hb0, cl4, cl5, cl7, cl8, cl11, cl15, cl16, cl17, ql18⟩ := hJ
   have CL4 := Lib.hid cl4
   have CL5 := Lib.hid cl5
   have CL7 := Lib.hid cl7
   have CL8 := Lib.hid cl8
   have CL11 := Lib.hid cl11
   have CL15 := Lib.hid cl15
   have CL16 := Lib.hid cl16
   have CL17 := Lib.hid cl17
   have QL18 := Lib.hid ql18
   have HB0 := Lib.hid hb0
   clear cl4 cl5 cl7 cl8 cl11 cl15 cl16 cl17 ql18 hb0 hS156
   simp only [List.mem_cons, List.not_mem_nil, or_false] at hi
   rcases hi with rfl | rfl | rfl | rfl | rfl | rfl | rfl | rfl | rfl
   · refine wpOp_at rfl (by kernel_rfl) (fun K hK => ?_)
     have hd := fun j => @tb_of _ _ j hd
     go_simp
     go_at_call 76
     refine (C9.out _).mono ?_
     rintro r w10 ⟨rfl, hb⟩
     dsimp only
     have hb1 := below_step HB0.out hb
     exact hK _ _ ⟨HS167.out _ hb1, _, v5, v7, v8, v11, v15, v16, v17, p18_, g18_, by go_simp, hb1, fun _ => rfl, fun h => CL5.out (tn h), fun h => CL7.out (tn h), fun h => CL8.out (tn h), fun h => CL11.out (tn h), fun h => CL15.out (tn h), fun h => CL16.out (tn h), fun h => CL17.out (tn h), fun h => ⟨(QL18.out (tn h)).1, (QL18.out (tn h)).2.1.below hb (QL18.out (tn h)).2.1.lt, (QL18.out (tn h)).2.2⟩⟩
   · refine wpOp_at rfl (by kernel_rfl) (fun K hK => ?_)
     have hd := fun j => @tb_of _ _ j hd
     obtain rfl := CL4.out (hd _ (by decide))
     go_simp
     go_at_call 75
     refine (C10.out _).mono ?_
     rintro r w10 ⟨rfl, hb⟩
     dsimp only
     have hb1 := below_step HB0.out hb
     exact hK _ _ ⟨HS167.out _ hb1, _, _, v7, v8, v11, v15, v16, v17, p18_, g18_, by go_simp, hb1, fun _ => rfl, fun _ => rfl, fun h => CL7.out (tn h), fun h => CL8.out (tn h), fun h => CL11.out (tn h), fun h => CL15.out (tn h), fun h => CL16.out (tn h), fun h => CL17.out (tn h), fun h => ⟨(QL18.out (tn h)).1, (QL18.out (tn h)).2.1.below hb (QL18.out (tn h)).2.1.lt, (QL18.out (tn h)).2.2⟩⟩
   · refine wpOp_at rfl (by kernel_rfl) (fun K hK => ?_)
     have hd := fun j => @tb_of _ _ j hd
     obtain rfl := CL5.out (hd _ (by decide))
     go_simp
     go_at_call 75
     refine (C11.out _).mono ?_
     rintro r w10 ⟨rfl, hb⟩
     dsimp only
     have hb1 := below_step HB0.out hb
     exact hK _ _ ⟨HS167.out _ hb1, v4, _, _, v8, v11, v15, v16, v17, p18_, g18_, by go_simp, hb1, fun h => CL4.out (tn h), fun _ => rfl, fun _ => rfl, fun h => CL8.out (tn h), fun h => CL11.out (tn h), fun h => CL15.out (tn h), fun h => CL16.out (tn h), fun h => CL17.out (tn h), fun h => ⟨(QL18.out (tn h)).1, (QL18.out (tn h)).2.1.below hb (QL18.out (tn h)).2.1.lt, (QL18.out (tn h)).2.2⟩⟩
   · refine wpOp_at rfl (by kernel_rfl) (fun K hK => ?_)
     have hd := fun j => @tb_of _ _ j hd
     obtain rfl := CL7.out (hd _ (by decide))
     go_simp
     go_at_call 74
     refine (C12.out _).mono ?_
     rintro r w10 ⟨rfl, hb⟩
     dsimp only
     have hb1 := below_step HB0.out hb
     exact hK _ _ ⟨HS167.out _ hb1, v4, v5, _, _, v11, v15, v16, v17, p18_, g18_, by go_simp, hb1, fun h => CL4.out (tn h), fun h => CL5.out (tn h), fun _ => rfl, fun _ => rfl, fun h => CL11.out (tn h), fun h => CL15.out (tn h), fun h => CL16.out (tn h), fun h => CL17.out (tn h), fun h => ⟨(QL18.out (tn h)).1, (QL18.out (tn h)).2.1.below hb (QL18.out (tn h)).2.1.lt, (QL18.out (tn h)).2.2⟩⟩
   · refine wpOp_at rfl (by kernel_rfl) (fun K hK => ?_)
     have hd := fun j => @tb_of _ _ j hd
     obtain rfl := CL8.out (hd _ (by decide))
     go_simp
     go_at_call 75
     refine (C13.out _).mono ?_
     rintro r w10 ⟨rfl, hb⟩
     dsimp only
     have hb1 := below_step HB0.out hb
     exact hK _ _ ⟨HS167.out _ hb1, v4, v5, v7, _, _, v15, v16, v17, p18_, g18_, by go_simp, hb1, fun h => CL4.out (tn h), fun h => CL5.out (tn h), fun h => CL7.out (tn h), fun _ => rfl, fun _ => rfl, fun h => CL15.out (tn h), fun h => CL16.out (tn h), fun h => CL17.out (tn h), fun h => ⟨(QL18.out (tn h)).1, (QL18.out (tn h)).2.1.below hb (QL18.out (tn h)).2.1.lt, (QL18.out (tn h)).2.2⟩⟩
   · refine wpOp_at rfl (by kernel_rfl) (fun K hK => ?_)
     have hd := fun j => @tb_of _ _ j hd
     obtain rfl := CL11.out (hd _ (by decide))
     go_simp
     go_at_call 75
     refine (C14.out _).mono ?_
     rintro r w10 ⟨rfl, hb⟩
     dsimp only
     have hb1 := below_step HB0.out hb
     exact hK _ _ ⟨HS167.out _ hb1, v4, v5, v7, v8, _, _, v16, v17, p18_, g18_, by go_simp, hb1, fun h => CL4.out (tn h), fun h => CL5.out (tn h), fun h => CL7.out (tn h), fun h => CL8.out (tn h), fun _ => rfl, fun _ => rfl, fun h => CL16.out (tn h), fun h => CL17.out (tn h), fun h => ⟨(QL18.out (tn h)).1, (QL18.out (tn h)).2.1.below hb (QL18.out (tn h)).2.1.lt, (QL18.out (tn h)).2.2⟩⟩
   · refine wpOp_at rfl (by kernel_rfl) (fun K hK => ?_)
     have hd := fun j => @tb_of _ _ j hd
     obtain rfl := CL15.out (hd _ (by decide))
     go_simp
     go_at_call 72
     refine (C15.out _).mono ?_
     rintro r w10 ⟨rfl, hb⟩
     dsimp only
     have hb1 := below_step HB0.out hb
     exact hK _ _ ⟨HS167.out _ hb1, v4, v5, v7, v8, v11, _, _, v17, p18_, g18_, by go_simp, hb1, fun h => CL4.out (tn h), fun h => CL5.out (tn h), fun h => CL7.out (tn h), fun h => CL8.out (tn h), fun h => CL11.out (tn h), fun _ => rfl, fun _ => rfl, fun h => CL17.out (tn h), fun h => ⟨(QL18.out (tn h)).1, (QL18.out (tn h)).2.1.below hb (QL18.out (tn h)).2.1.lt, (QL18.out (tn h)).2.2⟩⟩
   · refine wpOp_at rfl (by kernel_rfl) (fun K hK => ?_)
     have hd := fun j => @tb_of _ _ j hd
     obtain rfl := CL8.out (hd _ (by decide))
     obtain rfl := CL11.out (hd _ (by decide))
     obtain rfl := CL16.out (hd _ (by decide))
     have hb1 := HB0.out
     go_simp
     exact hK _ _ ⟨HS167.out _ hb1, v4, v5, v7, _, _, v15, _, _, p18_, g18_, by go_simp, hb1, fun h => CL4.out (tn h), fun h => CL5.out (tn h), fun h => CL7.out (tn h), fun _ => rfl, fun _ => rfl, fun h => CL15.out (tn h), fun _ => rfl, fun _ => rfl, fun h => ⟨(QL18.out (tn h)).1, (QL18.out (tn h)).2.1, (QL18.out (tn h)).2.2⟩⟩
   · refine wpOp_at rfl (by kernel_rfl) (fun K hK => ?_)
     have hd := fun j => @tb_of _ _ j hd
     go_simp
     have hb1 := below_more HB0.out (.cells #[.float .f64 0, .float .f64 0, .float .f64 0, .float .f64 0, .float .f64 0, .float .f64 0] 26)
     exact hK _ _ ⟨HS167.out _ hb1, v4, v5, v7, v8, v11, v15, v16, v17, .pointer (some ⟨w9.heap.size, 0, none⟩), w9.heap.size, by go_simp, hb1, fun h => CL4.out (tn h), fun h => CL5.out (tn h), fun h => CL7.out (tn h), fun h => CL8.out (tn h), fun h => CL11.out (tn h), fun h => CL15.out (tn h), fun h => CL16.out (tn h), fun h => CL17.out (tn h), fun _ => ⟨rfl, Blk.new_at _ _ _ rfl, HB0.out.size⟩⟩
 clear hS156 D155 HS167
 intro a' W184 hJ
 obtain ⟨v4, v5, v7, v8, v11, v15, v16, v17, p18_, g185, rfl, hb0, cl4, cl5, cl7, cl8, cl11, cl15, cl16, cl17, ql18⟩ := hJ
 obtain rfl := cl4 (by decide)
 obtain rfl := cl5 (by decide)
 obtain rfl := cl7 (by decide)
 obtain rfl := cl8 (by decide)
 obtain rfl := cl11 (by decide)
 obtain rfl := cl15 (by decide)
 obtain rfl := cl16 (by decide)
 obtain rfl := cl17 (by decide)
 obtain ⟨rfl, kk18, ll18⟩ := ql18 (by decide)
 have D170 := Lib.hid hb0
 clear hb0
 refine wpAnyH_frame (a' := ?frq169) ?feq169 ?fgq169
 case feq169 => (go_simp; try with_reducible rfl)
 have K172 := Lib.hid ((kb K144 D170) : Blk W184 (w.heap.size) 26 (vc n))
 have K173 := Lib.hid ((kb K145 D170) : Blk W184 (w.heap.size + 1) 26 #[.float .f64 0, .float .f64 0, .float .f64 0, .float .f64 0, .float .f64 0, .float .f64 0])
 have K174 := Lib.hid ((kb K146 D170) : Blk W184 (w.heap.size + 1 + 1) 26 #[.float .f64 0, .float .f64 0, .float .f64 0, .float .f64 0, .float .f64 0, .float .f64 0])
 have K175 := Lib.hid ((kb K147 D170) : Blk W184 (g4) 24 #[.float .f64 p0.lo, .float .f64 p0.hi])
 have K176 := Lib.hid ((kb K148 D170) : Blk W184 (g27) 24 #[.float .f64 p3.lo, .float .f64 p3.hi])
 have K177 := Lib.hid ((kb K149 D170) : Blk W184 (g94) 24 #[.float .f64 p6.lo, .float .f64 p6.hi])
 have K178 := Lib.hid ((kb K150 D170) : Blk W184 (g136) 24 #[.float .f64 p8.lo, .float .f64 p8.hi])
 have K179 := Lib.hid kk18
 clear kk18
 have HB182 := Lib.hid (below_step HB151.out D170.out)
 have Y181 := Lib.hid (show w.heap.size ≤ g185 ∧ w.heap.size < g185 ∧ w.heap.size + 1 < g185 ∧ w.heap.size + 1 + 1 < g185 ∧ g4 < g185 ∧ g27 < g185 ∧ g94 < g185 ∧ g136 < g185 from ⟨Nat.le_trans HB151.out.size ll18, Nat.lt_of_lt_of_le K144.out.lt ll18, Nat.lt_of_lt_of_le K145.out.lt ll18, Nat.lt_of_lt_of_le K146.out.lt ll18, Nat.lt_of_lt_of_le K147.out.lt ll18, Nat.lt_of_lt_of_le K148.out.lt ll18, Nat.lt_of_lt_of_le K149.out.lt ll18, Nat.lt_of_lt_of_le K150.out.lt ll18⟩)
 have Y183 := Lib.hid (And.intro Y134.out Y181.out)
 clear Y134 Y181
 clear K144 K145 K146 K147 K148 K149 K150 ll18 HB151
 have D186 := Lib.hid (Below.refl W184.heap.size W184)
 clear D170
 have hS187 : True ∧ CellsL W184 (w.heap.size) 0 [.float .f64 n.x.lo, .float .f64 n.x.hi] ∧ CellsL W184 (g4) 0 [.float .f64 p0.lo, .float .f64 p0.hi] ∧ CellsL W184 (g27) 0 [.float .f64 p3.lo, .float .f64 p3.hi] ∧ CellsL W184 (g94) 0 [.float .f64 p6.lo, .float .f64 p6.hi] ∧ CellsL W184 (g136) 0 [.float .f64 p8.lo, .float .f64 p8.hi] := ⟨trivial, (kb K172 D186).cellsL 0 [.float .f64 n.x.lo, .float .f64 n.x.hi] rfl, (kb K175 D186).cellsL 0 [.float .f64 p0.lo, .float .f64 p0.hi] rfl, (kb K176 D186).cellsL 0 [.float .f64 p3.lo, .float .f64 p3.hi] rfl, (kb K177 D186).cellsL 0 [.float .f64 p6.lo, .float .f64 p6.hi] rfl, (kb K178 D186).cellsL 0 [.float .f64 p8.lo, .float .f64 p8.hi] rfl⟩
 refine wpAnyH_oneM (i := 19) (l' := bm 20 1048575) rfl (by kernel_rfl) (by kernel_rfl) (by kernel_rfl) (fun K hK => ?_)
 have f190 := (kb K179 D186)
 obtain ⟨V188, hV189⟩ : ∃ V, World.setRow W184 (g185) #[.float .f64 p12.lo, .float .f64 p12.hi, .float .f64 p13.lo, .float .f64 p13.hi, .float .f64 p15.lo, .float .f64 p15.hi] = V := ⟨_, rfl⟩
 have K191 := kfr hV189 K172 D186 (by have := Y183.out; omega)
 have K192 := kfr hV189 K173 D186 (by have := Y183.out; omega)
 have K193 := kfr hV189 K174 D186 (by have := Y183.out; omega)
 have K194 := kfr hV189 K175 D186 (by have := Y183.out; omega)
 have K195 := kfr hV189 K176 D186 (by have := Y183.out; omega)
 have K196 := kfr hV189 K177 D186 (by have := Y183.out; omega)
 have K197 := kfr hV189 K178 D186 (by have := Y183.out; omega)
 have K198 := ksr hV189 K179 D186
 have HB199 := hbr hV189 HB182 D186 (by have := Y183.out; omega)
 have D200 := dr V188
 clear K172 K173 K174 K175 K176 K177 K178 K179 HB182 D186
 refine wp_store_row 26 _ _ rfl (g185) #[.float .f64 p12.lo, .float .f64 p12.hi, .float .f64 p13.lo, .float .f64 p13.hi, .float .f64 p15.lo, .float .f64 p15.hi] rfl rfl _ _ f190 (by rw [info_V3]; rfl) rfl (by kernel_rfl) ?_
 rw [hV189]
 go_simp
 clear hV189 f190
 have hS201 : True ∧ CellsL V188 (w.heap.size) 0 [.float .f64 n.x.lo, .float .f64 n.x.hi] ∧ CellsL V188 (g4) 0 [.float .f64 p0.lo, .float .f64 p0.hi] ∧ CellsL V188 (g27) 0 [.float .f64 p3.lo, .float .f64 p3.hi] ∧ CellsL V188 (g94) 0 [.float .f64 p6.lo, .float .f64 p6.hi] ∧ CellsL V188 (g136) 0 [.float .f64 p8.lo, .float .f64 p8.hi] := ⟨trivial, (kb K191 D200).cellsL 0 [.float .f64 n.x.lo, .float .f64 n.x.hi] rfl, (kb K194 D200).cellsL 0 [.float .f64 p0.lo, .float .f64 p0.hi] rfl, (kb K195 D200).cellsL 0 [.float .f64 p3.lo, .float .f64 p3.hi] rfl, (kb K196 D200).cellsL 0 [.float .f64 p6.lo, .float .f64 p6.hi] rfl, (kb K197 D200).cellsL 0 [.float .f64 p8.lo, .float .f64 p8.hi] rfl⟩
 refine hK _ _ hS201 ?_
 clear hK K hS187
 refine wpAnyH_done (by kernel_rfl) ?_ _
 clear hS201
 go_wp2_with fail
 refine wp_region_held (S := (fun w' => True ∧ CellsL w' (w.heap.size) 2 [.float .f64 n.y.lo, .float .f64 n.y.hi] ∧ CellsL w' (g27) 0 [.float .f64 p3.lo, .float .f64 p3.hi] ∧ CellsL w' (g94) 0 [.float .f64 p6.lo, .float .f64 p6.hi] ∧ CellsL w' (g136) 0 [.float .f64 p8.lo, .float .f64 p8.hi])) (by kernel_rfl) ?_
 change wpAnyH _ _ _ _ _ _ _ _ (World.drew _)
 obtain ⟨wd202, hwd⟩ : ∃ x, x = World.drew V188 := ⟨_, rfl⟩
 rw [← hwd]
 have D203 := Lib.hid (hwd ▸ Below.drew D200.out : Below V188.heap.size V188 wd202)
 clear D200 hwd
 have hS204 : True ∧ CellsL wd202 (w.heap.size) 2 [.float .f64 n.y.lo, .float .f64 n.y.hi] ∧ CellsL wd202 (g27) 0 [.float .f64 p3.lo, .float .f64 p3.hi] ∧ CellsL wd202 (g94) 0 [.float .f64 p6.lo, .float .f64 p6.hi] ∧ CellsL wd202 (g136) 0 [.float .f64 p8.lo, .float .f64 p8.hi] := ⟨trivial, (kb K191 D203).cellsL 2 [.float .f64 n.y.lo, .float .f64 n.y.hi] rfl, (kb K195 D203).cellsL 0 [.float .f64 p3.lo, .float .f64 p3.hi] rfl, (kb K196 D203).cellsL 0 [.float .f64 p6.lo, .float .f64 p6.hi] rfl, (kb K197 D203).cellsL 0 [.float .f64 p8.lo, .float .f64 p8.hi] rfl⟩
 refine tke 0 (bm 14 1) hS204 ?_
 refine tke 1 (bm 14 3) hS204 ?_
 refine tkq 2 (bm 14 7) hS204 ?_
 refine tke 3 (bm 14 15) hS204 ?_
 refine tke 5 (bm 14 47) hS204 ?_
 refine tkq 8 (bm 14 303) hS204 ?_
 refine tke 9 (bm 14 815) hS204 ?_
 have HS212 := Lib.hid (show ∀ w', Below V188.heap.size V188 w' → (True ∧ CellsL w' (w.heap.size) 2 [.float .f64 n.y.lo, .float .f64 n.y.hi] ∧ CellsL w' (g27) 0 [.float .f64 p3.lo, .float .f64 p3.hi] ∧ CellsL w' (g94) 0 [.float .f64 p6.lo, .float .f64 p6.hi] ∧ CellsL w' (g136) 0 [.float .f64 p8.lo, .float .f64 p8.hi]) from fun w' b => ⟨trivial, (K191.out.below b K191.out.lt).cellsL 2 [.float .f64 n.y.lo, .float .f64 n.y.hi] rfl, (K195.out.below b K195.out.lt).cellsL 0 [.float .f64 p3.lo, .float .f64 p3.hi] rfl, (K196.out.below b K196.out.lt).cellsL 0 [.float .f64 p6.lo, .float .f64 p6.hi] rfl, (K197.out.below b K197.out.lt).cellsL 0 [.float .f64 p8.lo, .float .f64 p8.hi] rfl⟩)
 refine wpAnyH_sets2 (N := 14) (stop := 8191) (F := 1) (m := 815) (R := [4, 6, 7, 10, 11, 12]) (M := [815, 831, 4911, 895, 4927, 1023, 4991, 2047, 5119, 4095, 6143, 8191]) (fun i => if i = 4 then 8 else if i = 6 then 48 else if i = 7 then 66 else if i = 10 then 640 else if i = 11 then 1153 else if i = 12 then 0 else 0) (fun a0 m a w9 => ∃ (v4 v6 v7 v10 v11 p12_ : Value) (g12_ : Nat), a = ((((((a0.put (some 60) v4).put (some 62) v6).put (some 63) v7).put (some 66) v10).put (some 67) v11).put (some 12) p12_) ∧ Below V188.heap.size V188 w9 ∧ (m.testBit 4 = true → v4 = Value.agg #[.float .f64 p16.lo, .float .f64 p16.hi]) ∧ (m.testBit 6 = true → v6 = Value.agg #[.float .f64 p17.lo, .float .f64 p17.hi]) ∧ (m.testBit 7 = true → v7 = Value.agg #[.float .f64 p18.lo, .float .f64 p18.hi]) ∧ (m.testBit 10 = true → v10 = Value.agg #[.float .f64 p19.lo, .float .f64 p19.hi]) ∧ (m.testBit 11 = true → v11 = Value.agg #[.float .f64 p8.lo, .float .f64 p8.hi, .float .f64 p18.lo, .float .f64 p18.hi, .float .f64 p19.lo, .float .f64 p19.hi]) ∧ (m.testBit 12 = true → p12_ = .pointer (some ⟨g12_, 0, none⟩) ∧ Blk w9 g12_ 26 #[.float .f64 0, .float .f64 0, .float .f64 0, .float .f64 0, .float .f64 0, .float .f64 0] ∧ V188.heap.size ≤ g12_)) (by kernel_rfl) (by kernel_rfl) (by kernel_rfl) (by kernel_rfl) ?st12 ?sp12 ?re12
 case st12 =>
   exact ⟨undef, undef, undef, undef, undef, undef, 0, by go_simp, D203.out, fun h => absurd h (by decide), fun h => absurd h (by decide), fun h => absurd h (by decide), fun h => absurd h (by decide), fun h => absurd h (by decide), fun h => absurd h (by decide)⟩
 case sp12 =>
   intro m a' w9 i hi hm hd hJ
   obtain ⟨v4, v6, v7, v10, v11, p12_, g12_, rfl, hb0, cl4, cl6, cl7, cl10, cl11, ql12⟩ := hJ
   have CL4 := Lib.hid cl4
   have CL6 := Lib.hid cl6
   have CL7 := Lib.hid cl7
   have CL10 := Lib.hid cl10
   have CL11 := Lib.hid cl11
   have QL12 := Lib.hid ql12
   have HB0 := Lib.hid hb0
   clear cl4 cl6 cl7 cl10 cl11 ql12 hb0 hS204
   simp only [List.mem_cons, List.not_mem_nil, or_false] at hi
   rcases hi with rfl | rfl | rfl | rfl | rfl | rfl
   · refine wpOp_at rfl (by kernel_rfl) (fun K hK => ?_)
     have hd := fun j => @tb_of _ _ j hd
     go_simp
     go_at_call 76
     refine (C16.out _).mono ?_
     rintro r w10 ⟨rfl, hb⟩
     dsimp only
     have hb1 := below_step HB0.out hb
     exact hK _ _ ⟨HS212.out _ hb1, _, v6, v7, v10, v11, p12_, g12_, by go_simp, hb1, fun _ => rfl, fun h => CL6.out (tn h), fun h => CL7.out (tn h), fun h => CL10.out (tn h), fun h => CL11.out (tn h), fun h => ⟨(QL12.out (tn h)).1, (QL12.out (tn h)).2.1.below hb (QL12.out (tn h)).2.1.lt, (QL12.out (tn h)).2.2⟩⟩
   · refine wpOp_at rfl (by kernel_rfl) (fun K hK => ?_)
     have hd := fun j => @tb_of _ _ j hd
     obtain rfl := CL4.out (hd _ (by decide))
     go_simp
     go_at_call 75
     refine (C17.out _).mono ?_
     rintro r w10 ⟨rfl, hb⟩
     dsimp only
     have hb1 := below_step HB0.out hb
     exact hK _ _ ⟨HS212.out _ hb1, _, _, v7, v10, v11, p12_, g12_, by go_simp, hb1, fun _ => rfl, fun _ => rfl, fun h => CL7.out (tn h), fun h => CL10.out (tn h), fun h => CL11.out (tn h), fun h => ⟨(QL12.out (tn h)).1, (QL12.out (tn h)).2.1.below hb (QL12.out (tn h)).2.1.lt, (QL12.out (tn h)).2.2⟩⟩
   · refine wpOp_at rfl (by kernel_rfl) (fun K hK => ?_)
     have hd := fun j => @tb_of _ _ j hd
     obtain rfl := CL6.out (hd _ (by decide))
     go_simp
     go_at_call 74
     refine (C18.out _).mono ?_
     rintro r w10 ⟨rfl, hb⟩
     dsimp only
     have hb1 := below_step HB0.out hb
     exact hK _ _ ⟨HS212.out _ hb1, v4, _, _, v10, v11, p12_, g12_, by go_simp, hb1, fun h => CL4.out (tn h), fun _ => rfl, fun _ => rfl, fun h => CL10.out (tn h), fun h => CL11.out (tn h), fun h => ⟨(QL12.out (tn h)).1, (QL12.out (tn h)).2.1.below hb (QL12.out (tn h)).2.1.lt, (QL12.out (tn h)).2.2⟩⟩
   · refine wpOp_at rfl (by kernel_rfl) (fun K hK => ?_)
     have hd := fun j => @tb_of _ _ j hd
     obtain rfl := CL7.out (hd _ (by decide))
     go_simp
     go_at_call 72
     refine (C19.out _).mono ?_
     rintro r w10 ⟨rfl, hb⟩
     dsimp only
     have hb1 := below_step HB0.out hb
     exact hK _ _ ⟨HS212.out _ hb1, v4, v6, _, _, v11, p12_, g12_, by go_simp, hb1, fun h => CL4.out (tn h), fun h => CL6.out (tn h), fun _ => rfl, fun _ => rfl, fun h => CL11.out (tn h), fun h => ⟨(QL12.out (tn h)).1, (QL12.out (tn h)).2.1.below hb (QL12.out (tn h)).2.1.lt, (QL12.out (tn h)).2.2⟩⟩
   · refine wpOp_at rfl (by kernel_rfl) (fun K hK => ?_)
     have hd := fun j => @tb_of _ _ j hd
     obtain rfl := CL7.out (hd _ (by decide))
     obtain rfl := CL10.out (hd _ (by decide))
     have hb1 := HB0.out
     go_simp
     exact hK _ _ ⟨HS212.out _ hb1, v4, v6, _, _, _, p12_, g12_, by go_simp, hb1, fun h => CL4.out (tn h), fun h => CL6.out (tn h), fun _ => rfl, fun _ => rfl, fun _ => rfl, fun h => ⟨(QL12.out (tn h)).1, (QL12.out (tn h)).2.1, (QL12.out (tn h)).2.2⟩⟩
   · refine wpOp_at rfl (by kernel_rfl) (fun K hK => ?_)
     have hd := fun j => @tb_of _ _ j hd
     go_simp
     have hb1 := below_more HB0.out (.cells #[.float .f64 0, .float .f64 0, .float .f64 0, .float .f64 0, .float .f64 0, .float .f64 0] 26)
     exact hK _ _ ⟨HS212.out _ hb1, v4, v6, v7, v10, v11, .pointer (some ⟨w9.heap.size, 0, none⟩), w9.heap.size, by go_simp, hb1, fun h => CL4.out (tn h), fun h => CL6.out (tn h), fun h => CL7.out (tn h), fun h => CL10.out (tn h), fun h => CL11.out (tn h), fun _ => ⟨rfl, Blk.new_at _ _ _ rfl, HB0.out.size⟩⟩
 clear hS204 D203 HS212
 intro a' W230 hJ
 obtain ⟨v4, v6, v7, v10, v11, p12_, g231, rfl, hb0, cl4, cl6, cl7, cl10, cl11, ql12⟩ := hJ
 obtain rfl := cl4 (by decide)
 obtain rfl := cl6 (by decide)
 obtain rfl := cl7 (by decide)
 obtain rfl := cl10 (by decide)
 obtain rfl := cl11 (by decide)
 obtain ⟨rfl, kk12, ll12⟩ := ql12 (by decide)
 have D215 := Lib.hid hb0
 clear hb0
 refine wpAnyH_frame (a' := ?frq214) ?feq214 ?fgq214
 case feq214 => (go_simp; try with_reducible rfl)
 have K217 := Lib.hid ((kb K191 D215) : Blk W230 (w.heap.size) 26 (vc n))
 have K218 := Lib.hid ((kb K192 D215) : Blk W230 (w.heap.size + 1) 26 #[.float .f64 0, .float .f64 0, .float .f64 0, .float .f64 0, .float .f64 0, .float .f64 0])
 have K219 := Lib.hid ((kb K193 D215) : Blk W230 (w.heap.size + 1 + 1) 26 #[.float .f64 0, .float .f64 0, .float .f64 0, .float .f64 0, .float .f64 0, .float .f64 0])
 have K220 := Lib.hid ((kb K194 D215) : Blk W230 (g4) 24 #[.float .f64 p0.lo, .float .f64 p0.hi])
 have K221 := Lib.hid ((kb K195 D215) : Blk W230 (g27) 24 #[.float .f64 p3.lo, .float .f64 p3.hi])
 have K222 := Lib.hid ((kb K196 D215) : Blk W230 (g94) 24 #[.float .f64 p6.lo, .float .f64 p6.hi])
 have K223 := Lib.hid ((kb K197 D215) : Blk W230 (g136) 24 #[.float .f64 p8.lo, .float .f64 p8.hi])
 have K224 := Lib.hid ((kb K198 D215) : Blk W230 (g185) 26 #[.float .f64 p12.lo, .float .f64 p12.hi, .float .f64 p13.lo, .float .f64 p13.hi, .float .f64 p15.lo, .float .f64 p15.hi])
 have K225 := Lib.hid kk12
 clear kk12
 have HB228 := Lib.hid (below_step HB199.out D215.out)
 have Y227 := Lib.hid (show w.heap.size ≤ g231 ∧ w.heap.size < g231 ∧ w.heap.size + 1 < g231 ∧ w.heap.size + 1 + 1 < g231 ∧ g4 < g231 ∧ g27 < g231 ∧ g94 < g231 ∧ g136 < g231 ∧ g185 < g231 from ⟨Nat.le_trans HB199.out.size ll12, Nat.lt_of_lt_of_le K191.out.lt ll12, Nat.lt_of_lt_of_le K192.out.lt ll12, Nat.lt_of_lt_of_le K193.out.lt ll12, Nat.lt_of_lt_of_le K194.out.lt ll12, Nat.lt_of_lt_of_le K195.out.lt ll12, Nat.lt_of_lt_of_le K196.out.lt ll12, Nat.lt_of_lt_of_le K197.out.lt ll12, Nat.lt_of_lt_of_le K198.out.lt ll12⟩)
 have Y229 := Lib.hid (And.intro Y183.out Y227.out)
 clear Y183 Y227
 clear K191 K192 K193 K194 K195 K196 K197 K198 ll12 HB199
 have D232 := Lib.hid (Below.refl W230.heap.size W230)
 clear D215
 have hS233 : True ∧ CellsL W230 (w.heap.size) 2 [.float .f64 n.y.lo, .float .f64 n.y.hi] ∧ CellsL W230 (g27) 0 [.float .f64 p3.lo, .float .f64 p3.hi] ∧ CellsL W230 (g94) 0 [.float .f64 p6.lo, .float .f64 p6.hi] ∧ CellsL W230 (g136) 0 [.float .f64 p8.lo, .float .f64 p8.hi] := ⟨trivial, (kb K217 D232).cellsL 2 [.float .f64 n.y.lo, .float .f64 n.y.hi] rfl, (kb K221 D232).cellsL 0 [.float .f64 p3.lo, .float .f64 p3.hi] rfl, (kb K222 D232).cellsL 0 [.float .f64 p6.lo, .float .f64 p6.hi] rfl, (kb K223 D232).cellsL 0 [.float .f64 p8.lo, .float .f64 p8.hi] rfl⟩
 refine wpAnyH_oneM (i := 13) (l' := bm 14 16383) rfl (by kernel_rfl) (by kernel_rfl) (by kernel_rfl) (fun K hK => ?_)
 have f236 := (kb K225 D232)
 obtain ⟨V234, hV235⟩ : ∃ V, World.setRow W230 (g231) #[.float .f64 p8.lo, .float .f64 p8.hi, .float .f64 p18.lo, .float .f64 p18.hi, .float .f64 p19.lo, .float .f64 p19.hi] = V := ⟨_, rfl⟩
 have K237 := kfr hV235 K217 D232 (by have := Y229.out; omega)
 have K238 := kfr hV235 K218 D232 (by have := Y229.out; omega)
 have K239 := kfr hV235 K219 D232 (by have := Y229.out; omega)
 have K240 := kfr hV235 K220 D232 (by have := Y229.out; omega)
 have K241 := kfr hV235 K221 D232 (by have := Y229.out; omega)
 have K242 := kfr hV235 K222 D232 (by have := Y229.out; omega)
 have K243 := kfr hV235 K223 D232 (by have := Y229.out; omega)
 have K244 := kfr hV235 K224 D232 (by have := Y229.out; omega)
 have K245 := ksr hV235 K225 D232
 have HB246 := hbr hV235 HB228 D232 (by have := Y229.out; omega)
 have D247 := dr V234
 clear K217 K218 K219 K220 K221 K222 K223 K224 K225 HB228 D232
 refine wp_store_row 26 _ _ rfl (g231) #[.float .f64 p8.lo, .float .f64 p8.hi, .float .f64 p18.lo, .float .f64 p18.hi, .float .f64 p19.lo, .float .f64 p19.hi] rfl rfl _ _ f236 (by rw [info_V3]; rfl) rfl (by kernel_rfl) ?_
 rw [hV235]
 go_simp
 clear hV235 f236
 have hS248 : True ∧ CellsL V234 (w.heap.size) 2 [.float .f64 n.y.lo, .float .f64 n.y.hi] ∧ CellsL V234 (g27) 0 [.float .f64 p3.lo, .float .f64 p3.hi] ∧ CellsL V234 (g94) 0 [.float .f64 p6.lo, .float .f64 p6.hi] ∧ CellsL V234 (g136) 0 [.float .f64 p8.lo, .float .f64 p8.hi] := ⟨trivial, (kb K237 D247).cellsL 2 [.float .f64 n.y.lo, .float .f64 n.y.hi] rfl, (kb K241 D247).cellsL 0 [.float .f64 p3.lo, .float .f64 p3.hi] rfl, (kb K242 D247).cellsL 0 [.float .f64 p6.lo, .float .f64 p6.hi] rfl, (kb K243 D247).cellsL 0 [.float .f64 p8.lo, .float .f64 p8.hi] rfl⟩
 refine hK _ _ hS248 ?_
 clear hK K hS233
 refine wpAnyH_done (by kernel_rfl) ?_ _
 clear hS248
 go_wp2_with fail
 refine wp_region_held (S := (fun w' => True ∧ Blk w' (g185) 26 #[.float .f64 p12.lo, .float .f64 p12.hi, .float .f64 p13.lo, .float .f64 p13.hi, .float .f64 p15.lo, .float .f64 p15.hi] ∧ Blk w' (g231) 26 #[.float .f64 p8.lo, .float .f64 p8.hi, .float .f64 p18.lo, .float .f64 p18.hi, .float .f64 p19.lo, .float .f64 p19.hi])) (by kernel_rfl) ?_
 change wpAnyH _ _ _ _ _ _ _ _ (World.drew _)
 obtain ⟨wd249, hwd⟩ : ∃ x, x = World.drew V234 := ⟨_, rfl⟩
 rw [← hwd]
 have D250 := Lib.hid (hwd ▸ Below.drew D247.out : Below V234.heap.size V234 wd249)
 clear D247 hwd
 have hS251 : True ∧ Blk wd249 (g185) 26 #[.float .f64 p12.lo, .float .f64 p12.hi, .float .f64 p13.lo, .float .f64 p13.hi, .float .f64 p15.lo, .float .f64 p15.hi] ∧ Blk wd249 (g231) 26 #[.float .f64 p8.lo, .float .f64 p8.hi, .float .f64 p18.lo, .float .f64 p18.hi, .float .f64 p19.lo, .float .f64 p19.hi] := ⟨trivial, (kb K244 D250), (kb K245 D250)⟩
 refine tkL 0 (bm 6 1) ?aq252 rfl (by kernel_rfl) (fun _ _ _ h => h) (by kernel_rfl) rfl rfl (fun _ hS => hS.2.1) (by rw [info_V3]; rfl) Tryz.underlying26 rfl ?pq252 hS251 ?rq252
 case pq252 => (go_simp; try with_reducible rfl)
 refine tkL 1 (bm 6 3) ?aq253 rfl (by kernel_rfl) (fun _ _ _ h => h) (by kernel_rfl) rfl rfl (fun _ hS => hS.2.2) (by rw [info_V3]; rfl) Tryz.underlying26 rfl ?pq253 hS251 ?rq253
 case pq253 => (go_simp; try with_reducible rfl)
 refine tkq 2 (bm 6 7) hS251 ?_
 refine wpAnyH_oneN (i := 3) (l' := bm 6 15) rfl (by kernel_rfl) (by kernel_rfl) (by kernel_rfl) (fun K hK => ?_)
 have f257 := (kb K238 D250)
 obtain ⟨V255, hV256⟩ : ∃ V, World.setRow wd249 (w.heap.size + 1) #[.float .f64 p12.lo, .float .f64 p12.hi, .float .f64 p13.lo, .float .f64 p13.hi, .float .f64 p15.lo, .float .f64 p15.hi] = V := ⟨_, rfl⟩
 have K258 := kfr hV256 K237 D250 (by have := Y229.out; omega)
 have K259 := ksr hV256 K238 D250
 have K260 := kfr hV256 K239 D250 (by have := Y229.out; omega)
 have K261 := kfr hV256 K240 D250 (by have := Y229.out; omega)
 have K262 := kfr hV256 K241 D250 (by have := Y229.out; omega)
 have K263 := kfr hV256 K242 D250 (by have := Y229.out; omega)
 have K264 := kfr hV256 K243 D250 (by have := Y229.out; omega)
 have K265 := kfr hV256 K244 D250 (by have := Y229.out; omega)
 have K266 := kfr hV256 K245 D250 (by have := Y229.out; omega)
 have HB267 := hbr hV256 HB246 D250 (by have := Y229.out; omega)
 have D268 := dr V255
 clear K237 K238 K239 K240 K241 K242 K243 K244 K245 HB246 D250
 refine wp_store_row 26 _ _ rfl (w.heap.size + 1) #[.float .f64 p12.lo, .float .f64 p12.hi, .float .f64 p13.lo, .float .f64 p13.hi, .float .f64 p15.lo, .float .f64 p15.hi] rfl rfl _ _ f257 (by rw [info_V3]; rfl) rfl (by kernel_rfl) ?_
 rw [hV256]
 go_simp
 clear hV256 f257
 have hS269 : True ∧ Blk V255 (g185) 26 #[.float .f64 p12.lo, .float .f64 p12.hi, .float .f64 p13.lo, .float .f64 p13.hi, .float .f64 p15.lo, .float .f64 p15.hi] ∧ Blk V255 (g231) 26 #[.float .f64 p8.lo, .float .f64 p8.hi, .float .f64 p18.lo, .float .f64 p18.hi, .float .f64 p19.lo, .float .f64 p19.hi] := ⟨trivial, (kb K265 D268), (kb K266 D268)⟩
 refine hK _ _ hS269 ?_
 clear hK K hS251
 refine wpAnyH_oneN (i := 4) (l' := bm 6 31) rfl (by kernel_rfl) (by kernel_rfl) (by kernel_rfl) (fun K hK => ?_)
 have f272 := (kb K260 D268)
 obtain ⟨V270, hV271⟩ : ∃ V, World.setRow V255 (w.heap.size + 1 + 1) #[.float .f64 p8.lo, .float .f64 p8.hi, .float .f64 p18.lo, .float .f64 p18.hi, .float .f64 p19.lo, .float .f64 p19.hi] = V := ⟨_, rfl⟩
 have K273 := kfr hV271 K258 D268 (by have := Y229.out; omega)
 have K274 := kfr hV271 K259 D268 (by have := Y229.out; omega)
 have K275 := ksr hV271 K260 D268
 have K276 := kfr hV271 K261 D268 (by have := Y229.out; omega)
 have K277 := kfr hV271 K262 D268 (by have := Y229.out; omega)
 have K278 := kfr hV271 K263 D268 (by have := Y229.out; omega)
 have K279 := kfr hV271 K264 D268 (by have := Y229.out; omega)
 have K280 := kfr hV271 K265 D268 (by have := Y229.out; omega)
 have K281 := kfr hV271 K266 D268 (by have := Y229.out; omega)
 have HB282 := hbr hV271 HB267 D268 (by have := Y229.out; omega)
 have D283 := dr V270
 clear K258 K259 K260 K261 K262 K263 K264 K265 K266 HB267 D268
 refine wp_store_row 26 _ _ rfl (w.heap.size + 1 + 1) #[.float .f64 p8.lo, .float .f64 p8.hi, .float .f64 p18.lo, .float .f64 p18.hi, .float .f64 p19.lo, .float .f64 p19.hi] rfl rfl _ _ f272 (by rw [info_V3]; rfl) rfl (by kernel_rfl) ?_
 rw [hV271]
 go_simp
 clear hV271 f272
 have hS284 : True ∧ Blk V270 (g185) 26 #[.float .f64 p12.lo, .float .f64 p12.hi, .float .f64 p13.lo, .float .f64 p13.hi, .float .f64 p15.lo, .float .f64 p15.hi] ∧ Blk V270 (g231) 26 #[.float .f64 p8.lo, .float .f64 p8.hi, .float .f64 p18.lo, .float .f64 p18.hi, .float .f64 p19.lo, .float .f64 p19.hi] := ⟨trivial, (kb K280 D283), (kb K281 D283)⟩
 refine hK _ _ hS284 ?_
 clear hK K hS269
 refine tkq 5 (bm 6 63) hS284 ?_
 refine wpAnyH_done (by kernel_rfl) ?_ _
 clear hS284
 go_wp2_with fail
 (try simp only [Exit.inBlock, Exit.then])
 exact bodyPost_ret (res_cct rfl _ _ (w.heap.size + 1) #[.float .f64 p12.lo, .float .f64 p12.hi, .float .f64 p13.lo, .float .f64 p13.hi, .float .f64 p15.lo, .float .f64 p15.hi] (w.heap.size + 1 + 1) #[.float .f64 p8.lo, .float .f64 p8.hi, .float .f64 p18.lo, .float .f64 p18.hi, .float .f64 p19.lo, .float .f64 p19.hi] rfl (kb K274 D283) (by rw [info_V3]; rfl) Tryz.underlying26 rfl rfl (kb K275 D283) (by rw [info_V3]; rfl) Tryz.underlying26 rfl) rfl ⟨rfl, below_step HB282.out D283.out⟩
theorem rframe_0 (n : V3) (h : posS (negS n.z) = 0) (w : World) : Calls Tryz.prog 27 #[Value.agg #[.float .f64 n.x.lo, .float .f64 n.x.hi, .float .f64 n.y.lo, .float .f64 n.y.hi, .float .f64 n.z.lo, .float .f64 n.z.hi]] w fun r w' => r = .returned (.tuple #[vval (frT (ofS 4607182418800017408) n), vval (frU (ofS 4607182418800017408) n), .int .i64 1]) ∧ Below w.heap.size w w' := by
 have C0 := Lib.hid (fun w => rof_sp 4607182418800017408 (by decide) w)
 obtain ⟨p0, hp0⟩ : ∃ z_, ofS 4607182418800017408 = z_ := ⟨_, rfl⟩
 rw [hp0] at C0
 have C1 := Lib.hid (fun w => rneg_sp n.z w)
 obtain ⟨p1, hp1⟩ : ∃ z_, negS n.z = z_ := ⟨_, rfl⟩
 rw [hp1] at C1
 have hl : posS p1 = 0 := by rw [← hp1]; exact h
 clear h
 have C2 := Lib.hid (fun w => rpos_lit hl w)
 have C3 := Lib.hid (fun w => radd_sp p0 n.z w)
 obtain ⟨p3, hp3⟩ : ∃ z_, addS p0 n.z = z_ := ⟨_, rfl⟩
 rw [hp3] at C3
 have C4 := Lib.hid (fun w => rdiv_sp p0 p3 w)
 obtain ⟨p4, hp4⟩ : ∃ z_, divS p0 p3 = z_ := ⟨_, rfl⟩
 rw [hp4] at C4
 have C5 := Lib.hid (fun w => rneg_sp p4 w)
 obtain ⟨p5, hp5⟩ : ∃ z_, negS p4 = z_ := ⟨_, rfl⟩
 rw [hp5] at C5
 have C6 := Lib.hid (fun w => rmul_sp n.x n.y w)
 obtain ⟨p6, hp6⟩ : ∃ z_, mulS n.x n.y = z_ := ⟨_, rfl⟩
 rw [hp6] at C6
 have C7 := Lib.hid (fun w => rmul_sp p6 p5 w)
 obtain ⟨p7, hp7⟩ : ∃ z_, mulS p6 p5 = z_ := ⟨_, rfl⟩
 rw [hp7] at C7
 have C8 := Lib.hid (fun w => rsqr_sp n.x w)
 obtain ⟨p8, hp8⟩ : ∃ z_, sqrS n.x = z_ := ⟨_, rfl⟩
 rw [hp8] at C8
 have C9 := Lib.hid (fun w => rmul_sp p0 p8 w)
 obtain ⟨p9, hp9⟩ : ∃ z_, mulS p0 p8 = z_ := ⟨_, rfl⟩
 rw [hp9] at C9
 have C10 := Lib.hid (fun w => rmul_sp p9 p5 w)
 obtain ⟨p10, hp10⟩ : ∃ z_, mulS p9 p5 = z_ := ⟨_, rfl⟩
 rw [hp10] at C10
 have C11 := Lib.hid (fun w => radd_sp p0 p10 w)
 obtain ⟨p11, hp11⟩ : ∃ z_, addS p0 p10 = z_ := ⟨_, rfl⟩
 rw [hp11] at C11
 have C12 := Lib.hid (fun w => rmul_sp p0 p7 w)
 obtain ⟨p12, hp12⟩ : ∃ z_, mulS p0 p7 = z_ := ⟨_, rfl⟩
 rw [hp12] at C12
 have C13 := Lib.hid (fun w => rmul_sp p0 n.x w)
 obtain ⟨p13, hp13⟩ : ∃ z_, mulS p0 n.x = z_ := ⟨_, rfl⟩
 rw [hp13] at C13
 have C14 := Lib.hid (fun w => rneg_sp p13 w)
 obtain ⟨p14, hp14⟩ : ∃ z_, negS p13 = z_ := ⟨_, rfl⟩
 rw [hp14] at C14
 have C15 := Lib.hid (fun w => rsqr_sp n.y w)
 obtain ⟨p15, hp15⟩ : ∃ z_, sqrS n.y = z_ := ⟨_, rfl⟩
 rw [hp15] at C15
 have C16 := Lib.hid (fun w => rmul_sp p15 p5 w)
 obtain ⟨p16, hp16⟩ : ∃ z_, mulS p15 p5 = z_ := ⟨_, rfl⟩
 rw [hp16] at C16
 have C17 := Lib.hid (fun w => radd_sp p0 p16 w)
 obtain ⟨p17, hp17⟩ : ∃ z_, addS p0 p16 = z_ := ⟨_, rfl⟩
 rw [hp17] at C17
 have C18 := Lib.hid (fun w => rneg_sp n.y w)
 obtain ⟨p18, hp18⟩ : ∃ z_, negS n.y = z_ := ⟨_, rfl⟩
 rw [hp18] at C18
 have hT0 : frT (ofS 4607182418800017408) n = (⟨p11, p12, p14⟩ : V3) := by
   subst hp0 hp1 hp3 hp4 hp5 hp6 hp7 hp8 hp9 hp10 hp11 hp12 hp13 hp14 hp15 hp16 hp17 hp18; rfl
 have hT1 : frU (ofS 4607182418800017408) n = (⟨p7, p17, p18⟩ : V3) := by
   subst hp0 hp1 hp3 hp4 hp5 hp6 hp7 hp8 hp9 hp10 hp11 hp12 hp13 hp14 hp15 hp16 hp17 hp18; rfl
 rw [hT0, hT1]
 clear hT0 hT1
 clear hp0 hp1 hp3 hp4 hp5 hp6 hp7 hp8 hp9 hp10 hp11 hp12 hp13 hp14 hp15 hp16 hp17 hp18
 go_enter Tryz.func27, Tryz.ntmps27
 go_wp2_with fail
 obtain ⟨W, hW, K0, K1, K2, hB, hz⟩ := bx3 w 26 26 26 (vc n) #[.float .f64 0, .float .f64 0, .float .f64 0, .float .f64 0, .float .f64 0, .float .f64 0] #[.float .f64 0, .float .f64 0, .float .f64 0, .float .f64 0, .float .f64 0, .float .f64 0]
 rw [← hW]
 have K0 := Lib.hid K0
 have K1 := Lib.hid K1
 have K2 := Lib.hid K2
 have HB := Lib.hid hB
 clear hW hB hz
 have D1 := dr W
 refine (C0.out _).mono ?_
 rintro r w2 ⟨rfl, hb⟩
 have D3 := ds D1 hb
 clear D1
 clear hb
 obtain ⟨g4, hg6⟩ : ∃ g, w2.heap.size = g := ⟨_, rfl⟩
 have Y8 := Lib.hid (show w.heap.size < g4 ∧ w.heap.size + 1 < g4 ∧ w.heap.size + 1 + 1 < g4 by rw [← hg6]; exact ⟨(kb K0 D3).lt, (kb K1 D3).lt, (kb K2 D3).lt⟩)
 obtain ⟨V5, hV7⟩ : ∃ V, w2.alloc (.cells #[.float .f64 0, .float .f64 0] 24) = V := ⟨_, rfl⟩
 have K9 := ka hV7 K0 D3
 have K10 := ka hV7 K1 D3
 have K11 := ka hV7 K2 D3
 have K12 := kn hV7 hg6
 have HB13 := hba hV7 HB D3
 have D14 := dr V5
 clear K0 K1 K2 HB D3
 have f17 := (kb K12 D14).cellsL 0 [.float .f64 0, .float .f64 0] rfl
 dsimp only [CellsL, al, vl, Nat.reduceAdd] at f17
 have u18 := (kb K12 D14).unfrozen
 obtain ⟨V15, hV16⟩ : ∃ V, setCells V5 (g4) 0 [.float .f64 p0.lo, .float .f64 p0.hi] = V := ⟨_, rfl⟩
 have hv19 := hV16
 simp only [setCells, Nat.reduceAdd] at hv19
 have K20 := kf hV16 K9 D14 (by have := Y8.out; omega)
 have K21 := kf hV16 K10 D14 (by have := Y8.out; omega)
 have K22 := kf hV16 K11 D14 (by have := Y8.out; omega)
 have K23 := Lib.hid (show Blk V15 (g4) 24 #[.float .f64 p0.lo, .float .f64 p0.hi] from (ks hV16 K12 D14).out)
 have HB24 := hbs hV16 HB13 D14 (by have := Y8.out; omega)
 have D25 := dr V15
 clear K9 K10 K11 K12 HB13 D14
 have hq26 := (kb K23 D25).cellsL 0 [.float .f64 p0.lo, .float .f64 p0.hi] rfl
 dsimp only [CellsL, al, vl, Nat.reduceAdd] at hq26
 obtain ⟨g27, hg29⟩ : ∃ g, V15.heap.size = g := ⟨_, rfl⟩
 have Y31 := Lib.hid (show w.heap.size < g27 ∧ w.heap.size + 1 < g27 ∧ w.heap.size + 1 + 1 < g27 ∧ g4 < g27 by rw [← hg29]; exact ⟨(kb K20 D25).lt, (kb K21 D25).lt, (kb K22 D25).lt, (kb K23 D25).lt⟩)
 obtain ⟨V28, hV30⟩ : ∃ V, V15.alloc (.cells #[.float .f64 0, .float .f64 0] 24) = V := ⟨_, rfl⟩
 have K32 := ka hV30 K20 D25
 have K33 := ka hV30 K21 D25
 have K34 := ka hV30 K22 D25
 have K35 := ka hV30 K23 D25
 have K36 := kn hV30 hg29
 have HB37 := hba hV30 HB24 D25
 have D38 := dr V28
 clear K20 K21 K22 K23 HB24 D25
 have Y39 := Lib.hid (And.intro Y8.out Y31.out)
 clear Y8 Y31
 have f42 := (kb K36 D38).cellsL 0 [.float .f64 0, .float .f64 0] rfl
 dsimp only [CellsL, al, vl, Nat.reduceAdd] at f42
 have u43 := (kb K36 D38).unfrozen
 obtain ⟨V40, hV41⟩ : ∃ V, setCells V28 (g27) 0 [.float .f64 p0.lo, .float .f64 p0.hi] = V := ⟨_, rfl⟩
 have hv44 := hV41
 simp only [setCells, Nat.reduceAdd] at hv44
 have K45 := kf hV41 K32 D38 (by have := Y39.out; omega)
 have K46 := kf hV41 K33 D38 (by have := Y39.out; omega)
 have K47 := kf hV41 K34 D38 (by have := Y39.out; omega)
 have K48 := kf hV41 K35 D38 (by have := Y39.out; omega)
 have K49 := Lib.hid (show Blk V40 (g27) 24 #[.float .f64 p0.lo, .float .f64 p0.hi] from (ks hV41 K36 D38).out)
 have HB50 := hbs hV41 HB37 D38 (by have := Y39.out; omega)
 have D51 := dr V40
 clear K32 K33 K34 K35 K36 HB37 D38
 have hq52 := (kb K45 D51).cellsL 4 [.float .f64 n.z.lo, .float .f64 n.z.hi] rfl
 dsimp only [CellsL, al, vl, Nat.reduceAdd] at hq52
 go_wp2_with fail
 clear hg6 hV7 hV16 f17 u18 hv19 hq26 hg29 hV30 hV41 f42 u43 hv44 hq52
 refine (C1.out _).mono ?_
 rintro r w53 ⟨rfl, hb⟩
 have D54 := ds D51 hb
 clear D51
 clear hb
 go_wp2_with fail
 refine (C2.out _).mono ?_
 rintro r w55 ⟨rfl, hb⟩
 have D56 := ds D54 hb
 clear D54
 clear hb
 go_wp2_with fail
 refine wp_region_held (S := (fun w' => True ∧ CellsL w' (w.heap.size) 4 [.float .f64 n.z.lo, .float .f64 n.z.hi] ∧ CellsL w' (g4) 0 [.float .f64 p0.lo, .float .f64 p0.hi] ∧ CellsL w' (g27) 0 [.float .f64 p0.lo, .float .f64 p0.hi])) (by kernel_rfl) ?_
 change wpAnyH _ _ _ _ _ _ _ _ (World.drew _)
 obtain ⟨wd57, hwd⟩ : ∃ x, x = World.drew w55 := ⟨_, rfl⟩
 rw [← hwd]
 have D58 := Lib.hid (hwd ▸ Below.drew D56.out : Below V40.heap.size V40 wd57)
 clear D56 hwd
 have hS59 : True ∧ CellsL wd57 (w.heap.size) 4 [.float .f64 n.z.lo, .float .f64 n.z.hi] ∧ CellsL wd57 (g4) 0 [.float .f64 p0.lo, .float .f64 p0.hi] ∧ CellsL wd57 (g27) 0 [.float .f64 p0.lo, .float .f64 p0.hi] := ⟨trivial, (kb K45 D58).cellsL 4 [.float .f64 n.z.lo, .float .f64 n.z.hi] rfl, (kb K48 D58).cellsL 0 [.float .f64 p0.lo, .float .f64 p0.hi] rfl, (kb K49 D58).cellsL 0 [.float .f64 p0.lo, .float .f64 p0.hi] rfl⟩
 refine tke 0 (bm 9 1) hS59 ?_
 refine tke 1 (bm 9 3) hS59 ?_
 refine tkq 2 (bm 9 7) hS59 ?_
 refine tke 3 (bm 9 15) hS59 ?_
 have HS64 := Lib.hid (show ∀ w', Below V40.heap.size V40 w' → (True ∧ CellsL w' (w.heap.size) 4 [.float .f64 n.z.lo, .float .f64 n.z.hi] ∧ CellsL w' (g4) 0 [.float .f64 p0.lo, .float .f64 p0.hi] ∧ CellsL w' (g27) 0 [.float .f64 p0.lo, .float .f64 p0.hi]) from fun w' b => ⟨trivial, (K45.out.below b K45.out.lt).cellsL 4 [.float .f64 n.z.lo, .float .f64 n.z.hi] rfl, (K48.out.below b K48.out.lt).cellsL 0 [.float .f64 p0.lo, .float .f64 p0.hi] rfl, (K49.out.below b K49.out.lt).cellsL 0 [.float .f64 p0.lo, .float .f64 p0.hi] rfl⟩)
 refine wpAnyH_sets2 (N := 9) (stop := 255) (F := 1) (m := 15) (R := [4, 5, 6, 7]) (M := [15, 31, 143, 63, 159, 127, 191, 255]) (fun i => if i = 4 then 10 else if i = 5 then 17 else if i = 6 then 32 else if i = 7 then 0 else 0) (fun a0 m a w9 => ∃ (v4 v5 v6 p7_ : Value) (g7_ : Nat), a = ((((a0.put (some 28) v4).put (some 29) v5).put (some 30) v6).put (some 9) p7_) ∧ Below V40.heap.size V40 w9 ∧ (m.testBit 4 = true → v4 = Value.agg #[.float .f64 p3.lo, .float .f64 p3.hi]) ∧ (m.testBit 5 = true → v5 = Value.agg #[.float .f64 p4.lo, .float .f64 p4.hi]) ∧ (m.testBit 6 = true → v6 = Value.agg #[.float .f64 p5.lo, .float .f64 p5.hi]) ∧ (m.testBit 7 = true → p7_ = .pointer (some ⟨g7_, 0, none⟩) ∧ Blk w9 g7_ 24 #[.float .f64 0, .float .f64 0] ∧ V40.heap.size ≤ g7_)) (by kernel_rfl) (by kernel_rfl) (by kernel_rfl) (by kernel_rfl) ?st9 ?sp9 ?re9
 case st9 =>
   exact ⟨undef, undef, undef, undef, 0, by go_simp, D58.out, fun h => absurd h (by decide), fun h => absurd h (by decide), fun h => absurd h (by decide), fun h => absurd h (by decide)⟩
 case sp9 =>
   intro m a' w9 i hi hm hd hJ
   obtain ⟨v4, v5, v6, p7_, g7_, rfl, hb0, cl4, cl5, cl6, ql7⟩ := hJ
   have CL4 := Lib.hid cl4
   have CL5 := Lib.hid cl5
   have CL6 := Lib.hid cl6
   have QL7 := Lib.hid ql7
   have HB0 := Lib.hid hb0
   clear cl4 cl5 cl6 ql7 hb0 hS59
   simp only [List.mem_cons, List.not_mem_nil, or_false] at hi
   rcases hi with rfl | rfl | rfl | rfl
   · refine wpOp_at rfl (by kernel_rfl) (fun K hK => ?_)
     have hd := fun j => @tb_of _ _ j hd
     go_simp
     go_at_call 74
     refine (C3.out _).mono ?_
     rintro r w10 ⟨rfl, hb⟩
     dsimp only
     have hb1 := below_step HB0.out hb
     exact hK _ _ ⟨HS64.out _ hb1, _, v5, v6, p7_, g7_, by go_simp, hb1, fun _ => rfl, fun h => CL5.out (tn h), fun h => CL6.out (tn h), fun h => ⟨(QL7.out (tn h)).1, (QL7.out (tn h)).2.1.below hb (QL7.out (tn h)).2.1.lt, (QL7.out (tn h)).2.2⟩⟩
   · refine wpOp_at rfl (by kernel_rfl) (fun K hK => ?_)
     have hd := fun j => @tb_of _ _ j hd
     obtain rfl := CL4.out (hd _ (by decide))
     go_simp
     go_at_call 73
     refine (C4.out _).mono ?_
     rintro r w10 ⟨rfl, hb⟩
     dsimp only
     have hb1 := below_step HB0.out hb
     exact hK _ _ ⟨HS64.out _ hb1, _, _, v6, p7_, g7_, by go_simp, hb1, fun _ => rfl, fun _ => rfl, fun h => CL6.out (tn h), fun h => ⟨(QL7.out (tn h)).1, (QL7.out (tn h)).2.1.below hb (QL7.out (tn h)).2.1.lt, (QL7.out (tn h)).2.2⟩⟩
   · refine wpOp_at rfl (by kernel_rfl) (fun K hK => ?_)
     have hd := fun j => @tb_of _ _ j hd
     obtain rfl := CL5.out (hd _ (by decide))
     go_simp
     go_at_call 72
     refine (C5.out _).mono ?_
     rintro r w10 ⟨rfl, hb⟩
     dsimp only
     have hb1 := below_step HB0.out hb
     exact hK _ _ ⟨HS64.out _ hb1, v4, _, _, p7_, g7_, by go_simp, hb1, fun h => CL4.out (tn h), fun _ => rfl, fun _ => rfl, fun h => ⟨(QL7.out (tn h)).1, (QL7.out (tn h)).2.1.below hb (QL7.out (tn h)).2.1.lt, (QL7.out (tn h)).2.2⟩⟩
   · refine wpOp_at rfl (by kernel_rfl) (fun K hK => ?_)
     have hd := fun j => @tb_of _ _ j hd
     go_simp
     have hb1 := below_more HB0.out (.cells #[.float .f64 0, .float .f64 0] 24)
     exact hK _ _ ⟨HS64.out _ hb1, v4, v5, v6, .pointer (some ⟨w9.heap.size, 0, none⟩), w9.heap.size, by go_simp, hb1, fun h => CL4.out (tn h), fun h => CL5.out (tn h), fun h => CL6.out (tn h), fun _ => ⟨rfl, Blk.new_at _ _ _ rfl, HB0.out.size⟩⟩
 clear hS59 D58 HS64
 intro a' W79 hJ
 obtain ⟨v4, v5, v6, p7_, g80, rfl, hb0, cl4, cl5, cl6, ql7⟩ := hJ
 obtain rfl := cl4 (by decide)
 obtain rfl := cl5 (by decide)
 obtain rfl := cl6 (by decide)
 obtain ⟨rfl, kk7, ll7⟩ := ql7 (by decide)
 have D67 := Lib.hid hb0
 clear hb0
 refine wpAnyH_frame (a' := ?frq66) ?feq66 ?fgq66
 case feq66 => (go_simp; try with_reducible rfl)
 have K69 := Lib.hid ((kb K45 D67) : Blk W79 (w.heap.size) 26 (vc n))
 have K70 := Lib.hid ((kb K46 D67) : Blk W79 (w.heap.size + 1) 26 #[.float .f64 0, .float .f64 0, .float .f64 0, .float .f64 0, .float .f64 0, .float .f64 0])
 have K71 := Lib.hid ((kb K47 D67) : Blk W79 (w.heap.size + 1 + 1) 26 #[.float .f64 0, .float .f64 0, .float .f64 0, .float .f64 0, .float .f64 0, .float .f64 0])
 have K72 := Lib.hid ((kb K48 D67) : Blk W79 (g4) 24 #[.float .f64 p0.lo, .float .f64 p0.hi])
 have K73 := Lib.hid ((kb K49 D67) : Blk W79 (g27) 24 #[.float .f64 p0.lo, .float .f64 p0.hi])
 have K74 := Lib.hid kk7
 clear kk7
 have HB77 := Lib.hid (below_step HB50.out D67.out)
 have Y76 := Lib.hid (show w.heap.size ≤ g80 ∧ w.heap.size < g80 ∧ w.heap.size + 1 < g80 ∧ w.heap.size + 1 + 1 < g80 ∧ g4 < g80 ∧ g27 < g80 from ⟨Nat.le_trans HB50.out.size ll7, Nat.lt_of_lt_of_le K45.out.lt ll7, Nat.lt_of_lt_of_le K46.out.lt ll7, Nat.lt_of_lt_of_le K47.out.lt ll7, Nat.lt_of_lt_of_le K48.out.lt ll7, Nat.lt_of_lt_of_le K49.out.lt ll7⟩)
 have Y78 := Lib.hid (And.intro Y39.out Y76.out)
 clear Y39 Y76
 clear K45 K46 K47 K48 K49 ll7 HB50
 have D81 := Lib.hid (Below.refl W79.heap.size W79)
 clear D67
 have hS82 : True ∧ CellsL W79 (w.heap.size) 4 [.float .f64 n.z.lo, .float .f64 n.z.hi] ∧ CellsL W79 (g4) 0 [.float .f64 p0.lo, .float .f64 p0.hi] ∧ CellsL W79 (g27) 0 [.float .f64 p0.lo, .float .f64 p0.hi] := ⟨trivial, (kb K69 D81).cellsL 4 [.float .f64 n.z.lo, .float .f64 n.z.hi] rfl, (kb K72 D81).cellsL 0 [.float .f64 p0.lo, .float .f64 p0.hi] rfl, (kb K73 D81).cellsL 0 [.float .f64 p0.lo, .float .f64 p0.hi] rfl⟩
 refine wpAnyH_oneM (i := 8) (l' := bm 9 511) rfl (by kernel_rfl) (by kernel_rfl) (by kernel_rfl) (fun K hK => ?_)
 have f85 := (kb K74 D81).cellsL 0 [.float .f64 0, .float .f64 0] rfl
 dsimp only [CellsL, al, vl, Nat.reduceAdd] at f85
 have u86 := (kb K74 D81).unfrozen
 obtain ⟨V83, hV84⟩ : ∃ V, setCells W79 (g80) 0 [.float .f64 p5.lo, .float .f64 p5.hi] = V := ⟨_, rfl⟩
 have hv87 := hV84
 simp only [setCells, Nat.reduceAdd] at hv87
 have K88 := kf hV84 K69 D81 (by have := Y78.out; omega)
 have K89 := kf hV84 K70 D81 (by have := Y78.out; omega)
 have K90 := kf hV84 K71 D81 (by have := Y78.out; omega)
 have K91 := kf hV84 K72 D81 (by have := Y78.out; omega)
 have K92 := kf hV84 K73 D81 (by have := Y78.out; omega)
 have K93 := Lib.hid (show Blk V83 (g80) 24 #[.float .f64 p5.lo, .float .f64 p5.hi] from (ks hV84 K74 D81).out)
 have HB94 := hbs hV84 HB77 D81 (by have := Y78.out; omega)
 have D95 := dr V83
 clear K69 K70 K71 K72 K73 K74 HB77 D81
 go_simp
 clear hV84 f85 u86 hv87
 have hS96 : True ∧ CellsL V83 (w.heap.size) 4 [.float .f64 n.z.lo, .float .f64 n.z.hi] ∧ CellsL V83 (g4) 0 [.float .f64 p0.lo, .float .f64 p0.hi] ∧ CellsL V83 (g27) 0 [.float .f64 p0.lo, .float .f64 p0.hi] := ⟨trivial, (kb K88 D95).cellsL 4 [.float .f64 n.z.lo, .float .f64 n.z.hi] rfl, (kb K91 D95).cellsL 0 [.float .f64 p0.lo, .float .f64 p0.hi] rfl, (kb K92 D95).cellsL 0 [.float .f64 p0.lo, .float .f64 p0.hi] rfl⟩
 refine hK _ _ hS96 ?_
 clear hK K hS82
 refine wpAnyH_done (by kernel_rfl) ?_ _
 clear hS96
 go_wp2_with fail
 refine wp_region_held (S := (fun w' => True ∧ CellsL w' (w.heap.size) 0 [.float .f64 n.x.lo, .float .f64 n.x.hi, .float .f64 n.y.lo, .float .f64 n.y.hi] ∧ CellsL w' (g80) 0 [.float .f64 p5.lo, .float .f64 p5.hi])) (by kernel_rfl) ?_
 change wpAnyH _ _ _ _ _ _ _ _ (World.drew _)
 obtain ⟨wd97, hwd⟩ : ∃ x, x = World.drew V83 := ⟨_, rfl⟩
 rw [← hwd]
 have D98 := Lib.hid (hwd ▸ Below.drew D95.out : Below V83.heap.size V83 wd97)
 clear D95 hwd
 have hS99 : True ∧ CellsL wd97 (w.heap.size) 0 [.float .f64 n.x.lo, .float .f64 n.x.hi, .float .f64 n.y.lo, .float .f64 n.y.hi] ∧ CellsL wd97 (g80) 0 [.float .f64 p5.lo, .float .f64 p5.hi] := ⟨trivial, (kb K88 D98).cellsL 0 [.float .f64 n.x.lo, .float .f64 n.x.hi, .float .f64 n.y.lo, .float .f64 n.y.hi] rfl, (kb K93 D98).cellsL 0 [.float .f64 p5.lo, .float .f64 p5.hi] rfl⟩
 refine tkq 0 (bm 9 1) hS99 ?_
 refine tke 1 (bm 9 3) hS99 ?_
 refine tkq 2 (bm 9 7) hS99 ?_
 refine tke 3 (bm 9 15) hS99 ?_
 refine tke 5 (bm 9 47) hS99 ?_
 have HS105 := Lib.hid (show ∀ w', Below V83.heap.size V83 w' → (True ∧ CellsL w' (w.heap.size) 0 [.float .f64 n.x.lo, .float .f64 n.x.hi, .float .f64 n.y.lo, .float .f64 n.y.hi] ∧ CellsL w' (g80) 0 [.float .f64 p5.lo, .float .f64 p5.hi]) from fun w' b => ⟨trivial, (K88.out.below b K88.out.lt).cellsL 0 [.float .f64 n.x.lo, .float .f64 n.x.hi, .float .f64 n.y.lo, .float .f64 n.y.hi] rfl, (K93.out.below b K93.out.lt).cellsL 0 [.float .f64 p5.lo, .float .f64 p5.hi] rfl⟩)
 refine wpAnyH_sets2 (N := 9) (stop := 255) (F := 1) (m := 47) (R := [4, 6, 7]) (M := [47, 63, 175, 127, 191, 255]) (fun i => if i = 4 then 10 else if i = 6 then 48 else if i = 7 then 0 else 0) (fun a0 m a w9 => ∃ (v4 v6 p7_ : Value) (g7_ : Nat), a = (((a0.put (some 35) v4).put (some 37) v6).put (some 10) p7_) ∧ Below V83.heap.size V83 w9 ∧ (m.testBit 4 = true → v4 = Value.agg #[.float .f64 p6.lo, .float .f64 p6.hi]) ∧ (m.testBit 6 = true → v6 = Value.agg #[.float .f64 p7.lo, .float .f64 p7.hi]) ∧ (m.testBit 7 = true → p7_ = .pointer (some ⟨g7_, 0, none⟩) ∧ Blk w9 g7_ 24 #[.float .f64 0, .float .f64 0] ∧ V83.heap.size ≤ g7_)) (by kernel_rfl) (by kernel_rfl) (by kernel_rfl) (by kernel_rfl) ?st10 ?sp10 ?re10
 case st10 =>
   exact ⟨undef, undef, undef, 0, by go_simp, D98.out, fun h => absurd h (by decide), fun h => absurd h (by decide), fun h => absurd h (by decide)⟩
 case sp10 =>
   intro m a' w9 i hi hm hd hJ
   obtain ⟨v4, v6, p7_, g7_, rfl, hb0, cl4, cl6, ql7⟩ := hJ
   have CL4 := Lib.hid cl4
   have CL6 := Lib.hid cl6
   have QL7 := Lib.hid ql7
   have HB0 := Lib.hid hb0
   clear cl4 cl6 ql7 hb0 hS99
   simp only [List.mem_cons, List.not_mem_nil, or_false] at hi
   rcases hi with rfl | rfl | rfl
   · refine wpOp_at rfl (by kernel_rfl) (fun K hK => ?_)
     have hd := fun j => @tb_of _ _ j hd
     go_simp
     go_at_call 75
     refine (C6.out _).mono ?_
     rintro r w10 ⟨rfl, hb⟩
     dsimp only
     have hb1 := below_step HB0.out hb
     exact hK _ _ ⟨HS105.out _ hb1, _, v6, p7_, g7_, by go_simp, hb1, fun _ => rfl, fun h => CL6.out (tn h), fun h => ⟨(QL7.out (tn h)).1, (QL7.out (tn h)).2.1.below hb (QL7.out (tn h)).2.1.lt, (QL7.out (tn h)).2.2⟩⟩
   · refine wpOp_at rfl (by kernel_rfl) (fun K hK => ?_)
     have hd := fun j => @tb_of _ _ j hd
     obtain rfl := CL4.out (hd _ (by decide))
     go_simp
     go_at_call 75
     refine (C7.out _).mono ?_
     rintro r w10 ⟨rfl, hb⟩
     dsimp only
     have hb1 := below_step HB0.out hb
     exact hK _ _ ⟨HS105.out _ hb1, _, _, p7_, g7_, by go_simp, hb1, fun _ => rfl, fun _ => rfl, fun h => ⟨(QL7.out (tn h)).1, (QL7.out (tn h)).2.1.below hb (QL7.out (tn h)).2.1.lt, (QL7.out (tn h)).2.2⟩⟩
   · refine wpOp_at rfl (by kernel_rfl) (fun K hK => ?_)
     have hd := fun j => @tb_of _ _ j hd
     go_simp
     have hb1 := below_more HB0.out (.cells #[.float .f64 0, .float .f64 0] 24)
     exact hK _ _ ⟨HS105.out _ hb1, v4, v6, .pointer (some ⟨w9.heap.size, 0, none⟩), w9.heap.size, by go_simp, hb1, fun h => CL4.out (tn h), fun h => CL6.out (tn h), fun _ => ⟨rfl, Blk.new_at _ _ _ rfl, HB0.out.size⟩⟩
 clear hS99 D98 HS105
 intro a' W121 hJ
 obtain ⟨v4, v6, p7_, g122, rfl, hb0, cl4, cl6, ql7⟩ := hJ
 obtain rfl := cl4 (by decide)
 obtain rfl := cl6 (by decide)
 obtain ⟨rfl, kk7, ll7⟩ := ql7 (by decide)
 have D108 := Lib.hid hb0
 clear hb0
 refine wpAnyH_frame (a' := ?frq107) ?feq107 ?fgq107
 case feq107 => (go_simp; try with_reducible rfl)
 have K110 := Lib.hid ((kb K88 D108) : Blk W121 (w.heap.size) 26 (vc n))
 have K111 := Lib.hid ((kb K89 D108) : Blk W121 (w.heap.size + 1) 26 #[.float .f64 0, .float .f64 0, .float .f64 0, .float .f64 0, .float .f64 0, .float .f64 0])
 have K112 := Lib.hid ((kb K90 D108) : Blk W121 (w.heap.size + 1 + 1) 26 #[.float .f64 0, .float .f64 0, .float .f64 0, .float .f64 0, .float .f64 0, .float .f64 0])
 have K113 := Lib.hid ((kb K91 D108) : Blk W121 (g4) 24 #[.float .f64 p0.lo, .float .f64 p0.hi])
 have K114 := Lib.hid ((kb K92 D108) : Blk W121 (g27) 24 #[.float .f64 p0.lo, .float .f64 p0.hi])
 have K115 := Lib.hid ((kb K93 D108) : Blk W121 (g80) 24 #[.float .f64 p5.lo, .float .f64 p5.hi])
 have K116 := Lib.hid kk7
 clear kk7
 have HB119 := Lib.hid (below_step HB94.out D108.out)
 have Y118 := Lib.hid (show w.heap.size ≤ g122 ∧ w.heap.size < g122 ∧ w.heap.size + 1 < g122 ∧ w.heap.size + 1 + 1 < g122 ∧ g4 < g122 ∧ g27 < g122 ∧ g80 < g122 from ⟨Nat.le_trans HB94.out.size ll7, Nat.lt_of_lt_of_le K88.out.lt ll7, Nat.lt_of_lt_of_le K89.out.lt ll7, Nat.lt_of_lt_of_le K90.out.lt ll7, Nat.lt_of_lt_of_le K91.out.lt ll7, Nat.lt_of_lt_of_le K92.out.lt ll7, Nat.lt_of_lt_of_le K93.out.lt ll7⟩)
 have Y120 := Lib.hid (And.intro Y78.out Y118.out)
 clear Y78 Y118
 clear K88 K89 K90 K91 K92 K93 ll7 HB94
 have D123 := Lib.hid (Below.refl W121.heap.size W121)
 clear D108
 have hS124 : True ∧ CellsL W121 (w.heap.size) 0 [.float .f64 n.x.lo, .float .f64 n.x.hi, .float .f64 n.y.lo, .float .f64 n.y.hi] ∧ CellsL W121 (g80) 0 [.float .f64 p5.lo, .float .f64 p5.hi] := ⟨trivial, (kb K110 D123).cellsL 0 [.float .f64 n.x.lo, .float .f64 n.x.hi, .float .f64 n.y.lo, .float .f64 n.y.hi] rfl, (kb K115 D123).cellsL 0 [.float .f64 p5.lo, .float .f64 p5.hi] rfl⟩
 refine wpAnyH_oneM (i := 8) (l' := bm 9 511) rfl (by kernel_rfl) (by kernel_rfl) (by kernel_rfl) (fun K hK => ?_)
 have f127 := (kb K116 D123).cellsL 0 [.float .f64 0, .float .f64 0] rfl
 dsimp only [CellsL, al, vl, Nat.reduceAdd] at f127
 have u128 := (kb K116 D123).unfrozen
 obtain ⟨V125, hV126⟩ : ∃ V, setCells W121 (g122) 0 [.float .f64 p7.lo, .float .f64 p7.hi] = V := ⟨_, rfl⟩
 have hv129 := hV126
 simp only [setCells, Nat.reduceAdd] at hv129
 have K130 := kf hV126 K110 D123 (by have := Y120.out; omega)
 have K131 := kf hV126 K111 D123 (by have := Y120.out; omega)
 have K132 := kf hV126 K112 D123 (by have := Y120.out; omega)
 have K133 := kf hV126 K113 D123 (by have := Y120.out; omega)
 have K134 := kf hV126 K114 D123 (by have := Y120.out; omega)
 have K135 := kf hV126 K115 D123 (by have := Y120.out; omega)
 have K136 := Lib.hid (show Blk V125 (g122) 24 #[.float .f64 p7.lo, .float .f64 p7.hi] from (ks hV126 K116 D123).out)
 have HB137 := hbs hV126 HB119 D123 (by have := Y120.out; omega)
 have D138 := dr V125
 clear K110 K111 K112 K113 K114 K115 K116 HB119 D123
 go_simp
 clear hV126 f127 u128 hv129
 have hS139 : True ∧ CellsL V125 (w.heap.size) 0 [.float .f64 n.x.lo, .float .f64 n.x.hi, .float .f64 n.y.lo, .float .f64 n.y.hi] ∧ CellsL V125 (g80) 0 [.float .f64 p5.lo, .float .f64 p5.hi] := ⟨trivial, (kb K130 D138).cellsL 0 [.float .f64 n.x.lo, .float .f64 n.x.hi, .float .f64 n.y.lo, .float .f64 n.y.hi] rfl, (kb K135 D138).cellsL 0 [.float .f64 p5.lo, .float .f64 p5.hi] rfl⟩
 refine hK _ _ hS139 ?_
 clear hK K hS124
 refine wpAnyH_done (by kernel_rfl) ?_ _
 clear hS139
 go_wp2_with fail
 refine wp_region_held (S := (fun w' => True ∧ CellsL w' (w.heap.size) 0 [.float .f64 n.x.lo, .float .f64 n.x.hi] ∧ CellsL w' (g4) 0 [.float .f64 p0.lo, .float .f64 p0.hi] ∧ CellsL w' (g27) 0 [.float .f64 p0.lo, .float .f64 p0.hi] ∧ CellsL w' (g80) 0 [.float .f64 p5.lo, .float .f64 p5.hi] ∧ CellsL w' (g122) 0 [.float .f64 p7.lo, .float .f64 p7.hi])) (by kernel_rfl) ?_
 change wpAnyH _ _ _ _ _ _ _ _ (World.drew _)
 obtain ⟨wd140, hwd⟩ : ∃ x, x = World.drew V125 := ⟨_, rfl⟩
 rw [← hwd]
 have D141 := Lib.hid (hwd ▸ Below.drew D138.out : Below V125.heap.size V125 wd140)
 clear D138 hwd
 have hS142 : True ∧ CellsL wd140 (w.heap.size) 0 [.float .f64 n.x.lo, .float .f64 n.x.hi] ∧ CellsL wd140 (g4) 0 [.float .f64 p0.lo, .float .f64 p0.hi] ∧ CellsL wd140 (g27) 0 [.float .f64 p0.lo, .float .f64 p0.hi] ∧ CellsL wd140 (g80) 0 [.float .f64 p5.lo, .float .f64 p5.hi] ∧ CellsL wd140 (g122) 0 [.float .f64 p7.lo, .float .f64 p7.hi] := ⟨trivial, (kb K130 D141).cellsL 0 [.float .f64 n.x.lo, .float .f64 n.x.hi] rfl, (kb K133 D141).cellsL 0 [.float .f64 p0.lo, .float .f64 p0.hi] rfl, (kb K134 D141).cellsL 0 [.float .f64 p0.lo, .float .f64 p0.hi] rfl, (kb K135 D141).cellsL 0 [.float .f64 p5.lo, .float .f64 p5.hi] rfl, (kb K136 D141).cellsL 0 [.float .f64 p7.lo, .float .f64 p7.hi] rfl⟩
 refine tke 0 (bm 20 1) hS142 ?_
 refine tke 1 (bm 20 3) hS142 ?_
 refine tkq 2 (bm 20 7) hS142 ?_
 refine tke 3 (bm 20 15) hS142 ?_
 refine tke 6 (bm 20 79) hS142 ?_
 refine tke 9 (bm 20 591) hS142 ?_
 refine tke 10 (bm 20 1615) hS142 ?_
 refine tke 12 (bm 20 5711) hS142 ?_
 refine tkq 13 (bm 20 13903) hS142 ?_
 refine tke 14 (bm 20 30287) hS142 ?_
 have HS153 := Lib.hid (show ∀ w', Below V125.heap.size V125 w' → (True ∧ CellsL w' (w.heap.size) 0 [.float .f64 n.x.lo, .float .f64 n.x.hi] ∧ CellsL w' (g4) 0 [.float .f64 p0.lo, .float .f64 p0.hi] ∧ CellsL w' (g27) 0 [.float .f64 p0.lo, .float .f64 p0.hi] ∧ CellsL w' (g80) 0 [.float .f64 p5.lo, .float .f64 p5.hi] ∧ CellsL w' (g122) 0 [.float .f64 p7.lo, .float .f64 p7.hi]) from fun w' b => ⟨trivial, (K130.out.below b K130.out.lt).cellsL 0 [.float .f64 n.x.lo, .float .f64 n.x.hi] rfl, (K133.out.below b K133.out.lt).cellsL 0 [.float .f64 p0.lo, .float .f64 p0.hi] rfl, (K134.out.below b K134.out.lt).cellsL 0 [.float .f64 p0.lo, .float .f64 p0.hi] rfl, (K135.out.below b K135.out.lt).cellsL 0 [.float .f64 p5.lo, .float .f64 p5.hi] rfl, (K136.out.below b K136.out.lt).cellsL 0 [.float .f64 p7.lo, .float .f64 p7.hi] rfl⟩)
 refine wpAnyH_sets2 (N := 20) (stop := 524287) (F := 1) (m := 30287) (R := [4, 5, 7, 8, 11, 15, 16, 17, 18]) (M := [30287, 30303, 292431, 30335, 292447, 30463, 292479, 30719, 292607, 32767, 292863, 65535, 294911, 131071, 327679, 262143, 393215, 524287]) (fun i => if i = 4 then 8 else if i = 5 then 18 else if i = 7 then 96 else if i = 8 then 129 else if i = 11 then 1792 else if i = 15 then 22528 else if i = 16 then 32768 else if i = 17 then 67840 else if i = 18 then 0 else 0) (fun a0 m a w9 => ∃ (v4 v5 v7 v8 v11 v15 v16 v17 p18_ : Value) (g18_ : Nat), a = (((((((((a0.put (some 42) v4).put (some 43) v5).put (some 45) v7).put (some 46) v8).put (some 49) v11).put (some 53) v15).put (some 54) v16).put (some 55) v17).put (some 11) p18_) ∧ Below V125.heap.size V125 w9 ∧ (m.testBit 4 = true → v4 = Value.agg #[.float .f64 p8.lo, .float .f64 p8.hi]) ∧ (m.testBit 5 = true → v5 = Value.agg #[.float .f64 p9.lo, .float .f64 p9.hi]) ∧ (m.testBit 7 = true → v7 = Value.agg #[.float .f64 p10.lo, .float .f64 p10.hi]) ∧ (m.testBit 8 = true → v8 = Value.agg #[.float .f64 p11.lo, .float .f64 p11.hi]) ∧ (m.testBit 11 = true → v11 = Value.agg #[.float .f64 p12.lo, .float .f64 p12.hi]) ∧ (m.testBit 15 = true → v15 = Value.agg #[.float .f64 p13.lo, .float .f64 p13.hi]) ∧ (m.testBit 16 = true → v16 = Value.agg #[.float .f64 p14.lo, .float .f64 p14.hi]) ∧ (m.testBit 17 = true → v17 = Value.agg #[.float .f64 p11.lo, .float .f64 p11.hi, .float .f64 p12.lo, .float .f64 p12.hi, .float .f64 p14.lo, .float .f64 p14.hi]) ∧ (m.testBit 18 = true → p18_ = .pointer (some ⟨g18_, 0, none⟩) ∧ Blk w9 g18_ 26 #[.float .f64 0, .float .f64 0, .float .f64 0, .float .f64 0, .float .f64 0, .float .f64 0] ∧ V125.heap.size ≤ g18_)) (by kernel_rfl) (by kernel_rfl) (by kernel_rfl) (by kernel_rfl) ?st11 ?sp11 ?re11
 case st11 =>
   exact ⟨undef, undef, undef, undef, undef, undef, undef, undef, undef, 0, by go_simp, D141.out, fun h => absurd h (by decide), fun h => absurd h (by decide), fun h => absurd h (by decide), fun h => absurd h (by decide), fun h => absurd h (by decide), fun h => absurd h (by decide), fun h => absurd h (by decide), fun h => absurd h (by decide), fun h => absurd h (by decide)⟩
 case sp11 =>
   intro m a' w9 i hi hm hd hJ
   obtain ⟨v4, v5, v7, v8, v11, v15, v16, v17, p18_, g18_, rfl, hb0, cl4, cl5, cl7, cl8, cl11, cl15, cl16, cl17, ql18⟩ := hJ
   have CL4 := Lib.hid cl4
   have CL5 := Lib.hid cl5
   have CL7 := Lib.hid cl7
   have CL8 := Lib.hid cl8
   have CL11 := Lib.hid cl11
   have CL15 := Lib.hid cl15
   have CL16 := Lib.hid cl16
   have CL17 := Lib.hid cl17
   have QL18 := Lib.hid ql18
   have HB0 := Lib.hid hb0
   clear cl4 cl5 cl7 cl8 cl11 cl15 cl16 cl17 ql18 hb0 hS142
   simp only [List.mem_cons, List.not_mem_nil, or_false] at hi
   rcases hi with rfl | rfl | rfl | rfl | rfl | rfl | rfl | rfl | rfl
   · refine wpOp_at rfl (by kernel_rfl) (fun K hK => ?_)
     have hd := fun j => @tb_of _ _ j hd
     go_simp
     go_at_call 76
     refine (C8.out _).mono ?_
     rintro r w10 ⟨rfl, hb⟩
     dsimp only
     have hb1 := below_step HB0.out hb
     exact hK _ _ ⟨HS153.out _ hb1, _, v5, v7, v8, v11, v15, v16, v17, p18_, g18_, by go_simp, hb1, fun _ => rfl, fun h => CL5.out (tn h), fun h => CL7.out (tn h), fun h => CL8.out (tn h), fun h => CL11.out (tn h), fun h => CL15.out (tn h), fun h => CL16.out (tn h), fun h => CL17.out (tn h), fun h => ⟨(QL18.out (tn h)).1, (QL18.out (tn h)).2.1.below hb (QL18.out (tn h)).2.1.lt, (QL18.out (tn h)).2.2⟩⟩
   · refine wpOp_at rfl (by kernel_rfl) (fun K hK => ?_)
     have hd := fun j => @tb_of _ _ j hd
     obtain rfl := CL4.out (hd _ (by decide))
     go_simp
     go_at_call 75
     refine (C9.out _).mono ?_
     rintro r w10 ⟨rfl, hb⟩
     dsimp only
     have hb1 := below_step HB0.out hb
     exact hK _ _ ⟨HS153.out _ hb1, _, _, v7, v8, v11, v15, v16, v17, p18_, g18_, by go_simp, hb1, fun _ => rfl, fun _ => rfl, fun h => CL7.out (tn h), fun h => CL8.out (tn h), fun h => CL11.out (tn h), fun h => CL15.out (tn h), fun h => CL16.out (tn h), fun h => CL17.out (tn h), fun h => ⟨(QL18.out (tn h)).1, (QL18.out (tn h)).2.1.below hb (QL18.out (tn h)).2.1.lt, (QL18.out (tn h)).2.2⟩⟩
   · refine wpOp_at rfl (by kernel_rfl) (fun K hK => ?_)
     have hd := fun j => @tb_of _ _ j hd
     obtain rfl := CL5.out (hd _ (by decide))
     go_simp
     go_at_call 75
     refine (C10.out _).mono ?_
     rintro r w10 ⟨rfl, hb⟩
     dsimp only
     have hb1 := below_step HB0.out hb
     exact hK _ _ ⟨HS153.out _ hb1, v4, _, _, v8, v11, v15, v16, v17, p18_, g18_, by go_simp, hb1, fun h => CL4.out (tn h), fun _ => rfl, fun _ => rfl, fun h => CL8.out (tn h), fun h => CL11.out (tn h), fun h => CL15.out (tn h), fun h => CL16.out (tn h), fun h => CL17.out (tn h), fun h => ⟨(QL18.out (tn h)).1, (QL18.out (tn h)).2.1.below hb (QL18.out (tn h)).2.1.lt, (QL18.out (tn h)).2.2⟩⟩
   · refine wpOp_at rfl (by kernel_rfl) (fun K hK => ?_)
     have hd := fun j => @tb_of _ _ j hd
     obtain rfl := CL7.out (hd _ (by decide))
     go_simp
     go_at_call 74
     refine (C11.out _).mono ?_
     rintro r w10 ⟨rfl, hb⟩
     dsimp only
     have hb1 := below_step HB0.out hb
     exact hK _ _ ⟨HS153.out _ hb1, v4, v5, _, _, v11, v15, v16, v17, p18_, g18_, by go_simp, hb1, fun h => CL4.out (tn h), fun h => CL5.out (tn h), fun _ => rfl, fun _ => rfl, fun h => CL11.out (tn h), fun h => CL15.out (tn h), fun h => CL16.out (tn h), fun h => CL17.out (tn h), fun h => ⟨(QL18.out (tn h)).1, (QL18.out (tn h)).2.1.below hb (QL18.out (tn h)).2.1.lt, (QL18.out (tn h)).2.2⟩⟩
   · refine wpOp_at rfl (by kernel_rfl) (fun K hK => ?_)
     have hd := fun j => @tb_of _ _ j hd
     obtain rfl := CL8.out (hd _ (by decide))
     go_simp
     go_at_call 75
     refine (C12.out _).mono ?_
     rintro r w10 ⟨rfl, hb⟩
     dsimp only
     have hb1 := below_step HB0.out hb
     exact hK _ _ ⟨HS153.out _ hb1, v4, v5, v7, _, _, v15, v16, v17, p18_, g18_, by go_simp, hb1, fun h => CL4.out (tn h), fun h => CL5.out (tn h), fun h => CL7.out (tn h), fun _ => rfl, fun _ => rfl, fun h => CL15.out (tn h), fun h => CL16.out (tn h), fun h => CL17.out (tn h), fun h => ⟨(QL18.out (tn h)).1, (QL18.out (tn h)).2.1.below hb (QL18.out (tn h)).2.1.lt, (QL18.out (tn h)).2.2⟩⟩
   · refine wpOp_at rfl (by kernel_rfl) (fun K hK => ?_)
     have hd := fun j => @tb_of _ _ j hd
     obtain rfl := CL11.out (hd _ (by decide))
     go_simp
     go_at_call 75
     refine (C13.out _).mono ?_
     rintro r w10 ⟨rfl, hb⟩
     dsimp only
     have hb1 := below_step HB0.out hb
     exact hK _ _ ⟨HS153.out _ hb1, v4, v5, v7, v8, _, _, v16, v17, p18_, g18_, by go_simp, hb1, fun h => CL4.out (tn h), fun h => CL5.out (tn h), fun h => CL7.out (tn h), fun h => CL8.out (tn h), fun _ => rfl, fun _ => rfl, fun h => CL16.out (tn h), fun h => CL17.out (tn h), fun h => ⟨(QL18.out (tn h)).1, (QL18.out (tn h)).2.1.below hb (QL18.out (tn h)).2.1.lt, (QL18.out (tn h)).2.2⟩⟩
   · refine wpOp_at rfl (by kernel_rfl) (fun K hK => ?_)
     have hd := fun j => @tb_of _ _ j hd
     obtain rfl := CL15.out (hd _ (by decide))
     go_simp
     go_at_call 72
     refine (C14.out _).mono ?_
     rintro r w10 ⟨rfl, hb⟩
     dsimp only
     have hb1 := below_step HB0.out hb
     exact hK _ _ ⟨HS153.out _ hb1, v4, v5, v7, v8, v11, _, _, v17, p18_, g18_, by go_simp, hb1, fun h => CL4.out (tn h), fun h => CL5.out (tn h), fun h => CL7.out (tn h), fun h => CL8.out (tn h), fun h => CL11.out (tn h), fun _ => rfl, fun _ => rfl, fun h => CL17.out (tn h), fun h => ⟨(QL18.out (tn h)).1, (QL18.out (tn h)).2.1.below hb (QL18.out (tn h)).2.1.lt, (QL18.out (tn h)).2.2⟩⟩
   · refine wpOp_at rfl (by kernel_rfl) (fun K hK => ?_)
     have hd := fun j => @tb_of _ _ j hd
     obtain rfl := CL8.out (hd _ (by decide))
     obtain rfl := CL11.out (hd _ (by decide))
     obtain rfl := CL16.out (hd _ (by decide))
     have hb1 := HB0.out
     go_simp
     exact hK _ _ ⟨HS153.out _ hb1, v4, v5, v7, _, _, v15, _, _, p18_, g18_, by go_simp, hb1, fun h => CL4.out (tn h), fun h => CL5.out (tn h), fun h => CL7.out (tn h), fun _ => rfl, fun _ => rfl, fun h => CL15.out (tn h), fun _ => rfl, fun _ => rfl, fun h => ⟨(QL18.out (tn h)).1, (QL18.out (tn h)).2.1, (QL18.out (tn h)).2.2⟩⟩
   · refine wpOp_at rfl (by kernel_rfl) (fun K hK => ?_)
     have hd := fun j => @tb_of _ _ j hd
     go_simp
     have hb1 := below_more HB0.out (.cells #[.float .f64 0, .float .f64 0, .float .f64 0, .float .f64 0, .float .f64 0, .float .f64 0] 26)
     exact hK _ _ ⟨HS153.out _ hb1, v4, v5, v7, v8, v11, v15, v16, v17, .pointer (some ⟨w9.heap.size, 0, none⟩), w9.heap.size, by go_simp, hb1, fun h => CL4.out (tn h), fun h => CL5.out (tn h), fun h => CL7.out (tn h), fun h => CL8.out (tn h), fun h => CL11.out (tn h), fun h => CL15.out (tn h), fun h => CL16.out (tn h), fun h => CL17.out (tn h), fun _ => ⟨rfl, Blk.new_at _ _ _ rfl, HB0.out.size⟩⟩
 clear hS142 D141 HS153
 intro a' W170 hJ
 obtain ⟨v4, v5, v7, v8, v11, v15, v16, v17, p18_, g171, rfl, hb0, cl4, cl5, cl7, cl8, cl11, cl15, cl16, cl17, ql18⟩ := hJ
 obtain rfl := cl4 (by decide)
 obtain rfl := cl5 (by decide)
 obtain rfl := cl7 (by decide)
 obtain rfl := cl8 (by decide)
 obtain rfl := cl11 (by decide)
 obtain rfl := cl15 (by decide)
 obtain rfl := cl16 (by decide)
 obtain rfl := cl17 (by decide)
 obtain ⟨rfl, kk18, ll18⟩ := ql18 (by decide)
 have D156 := Lib.hid hb0
 clear hb0
 refine wpAnyH_frame (a' := ?frq155) ?feq155 ?fgq155
 case feq155 => (go_simp; try with_reducible rfl)
 have K158 := Lib.hid ((kb K130 D156) : Blk W170 (w.heap.size) 26 (vc n))
 have K159 := Lib.hid ((kb K131 D156) : Blk W170 (w.heap.size + 1) 26 #[.float .f64 0, .float .f64 0, .float .f64 0, .float .f64 0, .float .f64 0, .float .f64 0])
 have K160 := Lib.hid ((kb K132 D156) : Blk W170 (w.heap.size + 1 + 1) 26 #[.float .f64 0, .float .f64 0, .float .f64 0, .float .f64 0, .float .f64 0, .float .f64 0])
 have K161 := Lib.hid ((kb K133 D156) : Blk W170 (g4) 24 #[.float .f64 p0.lo, .float .f64 p0.hi])
 have K162 := Lib.hid ((kb K134 D156) : Blk W170 (g27) 24 #[.float .f64 p0.lo, .float .f64 p0.hi])
 have K163 := Lib.hid ((kb K135 D156) : Blk W170 (g80) 24 #[.float .f64 p5.lo, .float .f64 p5.hi])
 have K164 := Lib.hid ((kb K136 D156) : Blk W170 (g122) 24 #[.float .f64 p7.lo, .float .f64 p7.hi])
 have K165 := Lib.hid kk18
 clear kk18
 have HB168 := Lib.hid (below_step HB137.out D156.out)
 have Y167 := Lib.hid (show w.heap.size ≤ g171 ∧ w.heap.size < g171 ∧ w.heap.size + 1 < g171 ∧ w.heap.size + 1 + 1 < g171 ∧ g4 < g171 ∧ g27 < g171 ∧ g80 < g171 ∧ g122 < g171 from ⟨Nat.le_trans HB137.out.size ll18, Nat.lt_of_lt_of_le K130.out.lt ll18, Nat.lt_of_lt_of_le K131.out.lt ll18, Nat.lt_of_lt_of_le K132.out.lt ll18, Nat.lt_of_lt_of_le K133.out.lt ll18, Nat.lt_of_lt_of_le K134.out.lt ll18, Nat.lt_of_lt_of_le K135.out.lt ll18, Nat.lt_of_lt_of_le K136.out.lt ll18⟩)
 have Y169 := Lib.hid (And.intro Y120.out Y167.out)
 clear Y120 Y167
 clear K130 K131 K132 K133 K134 K135 K136 ll18 HB137
 have D172 := Lib.hid (Below.refl W170.heap.size W170)
 clear D156
 have hS173 : True ∧ CellsL W170 (w.heap.size) 0 [.float .f64 n.x.lo, .float .f64 n.x.hi] ∧ CellsL W170 (g4) 0 [.float .f64 p0.lo, .float .f64 p0.hi] ∧ CellsL W170 (g27) 0 [.float .f64 p0.lo, .float .f64 p0.hi] ∧ CellsL W170 (g80) 0 [.float .f64 p5.lo, .float .f64 p5.hi] ∧ CellsL W170 (g122) 0 [.float .f64 p7.lo, .float .f64 p7.hi] := ⟨trivial, (kb K158 D172).cellsL 0 [.float .f64 n.x.lo, .float .f64 n.x.hi] rfl, (kb K161 D172).cellsL 0 [.float .f64 p0.lo, .float .f64 p0.hi] rfl, (kb K162 D172).cellsL 0 [.float .f64 p0.lo, .float .f64 p0.hi] rfl, (kb K163 D172).cellsL 0 [.float .f64 p5.lo, .float .f64 p5.hi] rfl, (kb K164 D172).cellsL 0 [.float .f64 p7.lo, .float .f64 p7.hi] rfl⟩
 refine wpAnyH_oneM (i := 19) (l' := bm 20 1048575) rfl (by kernel_rfl) (by kernel_rfl) (by kernel_rfl) (fun K hK => ?_)
 have f176 := (kb K165 D172)
 obtain ⟨V174, hV175⟩ : ∃ V, World.setRow W170 (g171) #[.float .f64 p11.lo, .float .f64 p11.hi, .float .f64 p12.lo, .float .f64 p12.hi, .float .f64 p14.lo, .float .f64 p14.hi] = V := ⟨_, rfl⟩
 have K177 := kfr hV175 K158 D172 (by have := Y169.out; omega)
 have K178 := kfr hV175 K159 D172 (by have := Y169.out; omega)
 have K179 := kfr hV175 K160 D172 (by have := Y169.out; omega)
 have K180 := kfr hV175 K161 D172 (by have := Y169.out; omega)
 have K181 := kfr hV175 K162 D172 (by have := Y169.out; omega)
 have K182 := kfr hV175 K163 D172 (by have := Y169.out; omega)
 have K183 := kfr hV175 K164 D172 (by have := Y169.out; omega)
 have K184 := ksr hV175 K165 D172
 have HB185 := hbr hV175 HB168 D172 (by have := Y169.out; omega)
 have D186 := dr V174
 clear K158 K159 K160 K161 K162 K163 K164 K165 HB168 D172
 refine wp_store_row 26 _ _ rfl (g171) #[.float .f64 p11.lo, .float .f64 p11.hi, .float .f64 p12.lo, .float .f64 p12.hi, .float .f64 p14.lo, .float .f64 p14.hi] rfl rfl _ _ f176 (by rw [info_V3]; rfl) rfl (by kernel_rfl) ?_
 rw [hV175]
 go_simp
 clear hV175 f176
 have hS187 : True ∧ CellsL V174 (w.heap.size) 0 [.float .f64 n.x.lo, .float .f64 n.x.hi] ∧ CellsL V174 (g4) 0 [.float .f64 p0.lo, .float .f64 p0.hi] ∧ CellsL V174 (g27) 0 [.float .f64 p0.lo, .float .f64 p0.hi] ∧ CellsL V174 (g80) 0 [.float .f64 p5.lo, .float .f64 p5.hi] ∧ CellsL V174 (g122) 0 [.float .f64 p7.lo, .float .f64 p7.hi] := ⟨trivial, (kb K177 D186).cellsL 0 [.float .f64 n.x.lo, .float .f64 n.x.hi] rfl, (kb K180 D186).cellsL 0 [.float .f64 p0.lo, .float .f64 p0.hi] rfl, (kb K181 D186).cellsL 0 [.float .f64 p0.lo, .float .f64 p0.hi] rfl, (kb K182 D186).cellsL 0 [.float .f64 p5.lo, .float .f64 p5.hi] rfl, (kb K183 D186).cellsL 0 [.float .f64 p7.lo, .float .f64 p7.hi] rfl⟩
 refine hK _ _ hS187 ?_
 clear hK K hS173
 refine wpAnyH_done (by kernel_rfl) ?_ _
 clear hS187
 go_wp2_with fail
 refine wp_region_held (S := (fun w' => True ∧ CellsL w' (w.heap.size) 2 [.float .f64 n.y.lo, .float .f64 n.y.hi] ∧ CellsL w' (g27) 0 [.float .f64 p0.lo, .float .f64 p0.hi] ∧ CellsL w' (g80) 0 [.float .f64 p5.lo, .float .f64 p5.hi] ∧ CellsL w' (g122) 0 [.float .f64 p7.lo, .float .f64 p7.hi])) (by kernel_rfl) ?_
 change wpAnyH _ _ _ _ _ _ _ _ (World.drew _)
 obtain ⟨wd188, hwd⟩ : ∃ x, x = World.drew V174 := ⟨_, rfl⟩
 rw [← hwd]
 have D189 := Lib.hid (hwd ▸ Below.drew D186.out : Below V174.heap.size V174 wd188)
 clear D186 hwd
 have hS190 : True ∧ CellsL wd188 (w.heap.size) 2 [.float .f64 n.y.lo, .float .f64 n.y.hi] ∧ CellsL wd188 (g27) 0 [.float .f64 p0.lo, .float .f64 p0.hi] ∧ CellsL wd188 (g80) 0 [.float .f64 p5.lo, .float .f64 p5.hi] ∧ CellsL wd188 (g122) 0 [.float .f64 p7.lo, .float .f64 p7.hi] := ⟨trivial, (kb K177 D189).cellsL 2 [.float .f64 n.y.lo, .float .f64 n.y.hi] rfl, (kb K181 D189).cellsL 0 [.float .f64 p0.lo, .float .f64 p0.hi] rfl, (kb K182 D189).cellsL 0 [.float .f64 p5.lo, .float .f64 p5.hi] rfl, (kb K183 D189).cellsL 0 [.float .f64 p7.lo, .float .f64 p7.hi] rfl⟩
 refine tke 0 (bm 14 1) hS190 ?_
 refine tke 1 (bm 14 3) hS190 ?_
 refine tkq 2 (bm 14 7) hS190 ?_
 refine tke 3 (bm 14 15) hS190 ?_
 refine tke 5 (bm 14 47) hS190 ?_
 refine tkq 8 (bm 14 303) hS190 ?_
 refine tke 9 (bm 14 815) hS190 ?_
 have HS198 := Lib.hid (show ∀ w', Below V174.heap.size V174 w' → (True ∧ CellsL w' (w.heap.size) 2 [.float .f64 n.y.lo, .float .f64 n.y.hi] ∧ CellsL w' (g27) 0 [.float .f64 p0.lo, .float .f64 p0.hi] ∧ CellsL w' (g80) 0 [.float .f64 p5.lo, .float .f64 p5.hi] ∧ CellsL w' (g122) 0 [.float .f64 p7.lo, .float .f64 p7.hi]) from fun w' b => ⟨trivial, (K177.out.below b K177.out.lt).cellsL 2 [.float .f64 n.y.lo, .float .f64 n.y.hi] rfl, (K181.out.below b K181.out.lt).cellsL 0 [.float .f64 p0.lo, .float .f64 p0.hi] rfl, (K182.out.below b K182.out.lt).cellsL 0 [.float .f64 p5.lo, .float .f64 p5.hi] rfl, (K183.out.below b K183.out.lt).cellsL 0 [.float .f64 p7.lo, .float .f64 p7.hi] rfl⟩)
 refine wpAnyH_sets2 (N := 14) (stop := 8191) (F := 1) (m := 815) (R := [4, 6, 7, 10, 11, 12]) (M := [815, 831, 4911, 895, 4927, 1023, 4991, 2047, 5119, 4095, 6143, 8191]) (fun i => if i = 4 then 8 else if i = 6 then 48 else if i = 7 then 66 else if i = 10 then 640 else if i = 11 then 1153 else if i = 12 then 0 else 0) (fun a0 m a w9 => ∃ (v4 v6 v7 v10 v11 p12_ : Value) (g12_ : Nat), a = ((((((a0.put (some 60) v4).put (some 62) v6).put (some 63) v7).put (some 66) v10).put (some 67) v11).put (some 12) p12_) ∧ Below V174.heap.size V174 w9 ∧ (m.testBit 4 = true → v4 = Value.agg #[.float .f64 p15.lo, .float .f64 p15.hi]) ∧ (m.testBit 6 = true → v6 = Value.agg #[.float .f64 p16.lo, .float .f64 p16.hi]) ∧ (m.testBit 7 = true → v7 = Value.agg #[.float .f64 p17.lo, .float .f64 p17.hi]) ∧ (m.testBit 10 = true → v10 = Value.agg #[.float .f64 p18.lo, .float .f64 p18.hi]) ∧ (m.testBit 11 = true → v11 = Value.agg #[.float .f64 p7.lo, .float .f64 p7.hi, .float .f64 p17.lo, .float .f64 p17.hi, .float .f64 p18.lo, .float .f64 p18.hi]) ∧ (m.testBit 12 = true → p12_ = .pointer (some ⟨g12_, 0, none⟩) ∧ Blk w9 g12_ 26 #[.float .f64 0, .float .f64 0, .float .f64 0, .float .f64 0, .float .f64 0, .float .f64 0] ∧ V174.heap.size ≤ g12_)) (by kernel_rfl) (by kernel_rfl) (by kernel_rfl) (by kernel_rfl) ?st12 ?sp12 ?re12
 case st12 =>
   exact ⟨undef, undef, undef, undef, undef, undef, 0, by go_simp, D189.out, fun h => absurd h (by decide), fun h => absurd h (by decide), fun h => absurd h (by decide), fun h => absurd h (by decide), fun h => absurd h (by decide), fun h => absurd h (by decide)⟩
 case sp12 =>
   intro m a' w9 i hi hm hd hJ
   obtain ⟨v4, v6, v7, v10, v11, p12_, g12_, rfl, hb0, cl4, cl6, cl7, cl10, cl11, ql12⟩ := hJ
   have CL4 := Lib.hid cl4
   have CL6 := Lib.hid cl6
   have CL7 := Lib.hid cl7
   have CL10 := Lib.hid cl10
   have CL11 := Lib.hid cl11
   have QL12 := Lib.hid ql12
   have HB0 := Lib.hid hb0
   clear cl4 cl6 cl7 cl10 cl11 ql12 hb0 hS190
   simp only [List.mem_cons, List.not_mem_nil, or_false] at hi
   rcases hi with rfl | rfl | rfl | rfl | rfl | rfl
   · refine wpOp_at rfl (by kernel_rfl) (fun K hK => ?_)
     have hd := fun j => @tb_of _ _ j hd
     go_simp
     go_at_call 76
     refine (C15.out _).mono ?_
     rintro r w10 ⟨rfl, hb⟩
     dsimp only
     have hb1 := below_step HB0.out hb
     exact hK _ _ ⟨HS198.out _ hb1, _, v6, v7, v10, v11, p12_, g12_, by go_simp, hb1, fun _ => rfl, fun h => CL6.out (tn h), fun h => CL7.out (tn h), fun h => CL10.out (tn h), fun h => CL11.out (tn h), fun h => ⟨(QL12.out (tn h)).1, (QL12.out (tn h)).2.1.below hb (QL12.out (tn h)).2.1.lt, (QL12.out (tn h)).2.2⟩⟩
   · refine wpOp_at rfl (by kernel_rfl) (fun K hK => ?_)
     have hd := fun j => @tb_of _ _ j hd
     obtain rfl := CL4.out (hd _ (by decide))
     go_simp
     go_at_call 75
     refine (C16.out _).mono ?_
     rintro r w10 ⟨rfl, hb⟩
     dsimp only
     have hb1 := below_step HB0.out hb
     exact hK _ _ ⟨HS198.out _ hb1, _, _, v7, v10, v11, p12_, g12_, by go_simp, hb1, fun _ => rfl, fun _ => rfl, fun h => CL7.out (tn h), fun h => CL10.out (tn h), fun h => CL11.out (tn h), fun h => ⟨(QL12.out (tn h)).1, (QL12.out (tn h)).2.1.below hb (QL12.out (tn h)).2.1.lt, (QL12.out (tn h)).2.2⟩⟩
   · refine wpOp_at rfl (by kernel_rfl) (fun K hK => ?_)
     have hd := fun j => @tb_of _ _ j hd
     obtain rfl := CL6.out (hd _ (by decide))
     go_simp
     go_at_call 74
     refine (C17.out _).mono ?_
     rintro r w10 ⟨rfl, hb⟩
     dsimp only
     have hb1 := below_step HB0.out hb
     exact hK _ _ ⟨HS198.out _ hb1, v4, _, _, v10, v11, p12_, g12_, by go_simp, hb1, fun h => CL4.out (tn h), fun _ => rfl, fun _ => rfl, fun h => CL10.out (tn h), fun h => CL11.out (tn h), fun h => ⟨(QL12.out (tn h)).1, (QL12.out (tn h)).2.1.below hb (QL12.out (tn h)).2.1.lt, (QL12.out (tn h)).2.2⟩⟩
   · refine wpOp_at rfl (by kernel_rfl) (fun K hK => ?_)
     have hd := fun j => @tb_of _ _ j hd
     obtain rfl := CL7.out (hd _ (by decide))
     go_simp
     go_at_call 72
     refine (C18.out _).mono ?_
     rintro r w10 ⟨rfl, hb⟩
     dsimp only
     have hb1 := below_step HB0.out hb
     exact hK _ _ ⟨HS198.out _ hb1, v4, v6, _, _, v11, p12_, g12_, by go_simp, hb1, fun h => CL4.out (tn h), fun h => CL6.out (tn h), fun _ => rfl, fun _ => rfl, fun h => CL11.out (tn h), fun h => ⟨(QL12.out (tn h)).1, (QL12.out (tn h)).2.1.below hb (QL12.out (tn h)).2.1.lt, (QL12.out (tn h)).2.2⟩⟩
   · refine wpOp_at rfl (by kernel_rfl) (fun K hK => ?_)
     have hd := fun j => @tb_of _ _ j hd
     obtain rfl := CL7.out (hd _ (by decide))
     obtain rfl := CL10.out (hd _ (by decide))
     have hb1 := HB0.out
     go_simp
     exact hK _ _ ⟨HS198.out _ hb1, v4, v6, _, _, _, p12_, g12_, by go_simp, hb1, fun h => CL4.out (tn h), fun h => CL6.out (tn h), fun _ => rfl, fun _ => rfl, fun _ => rfl, fun h => ⟨(QL12.out (tn h)).1, (QL12.out (tn h)).2.1, (QL12.out (tn h)).2.2⟩⟩
   · refine wpOp_at rfl (by kernel_rfl) (fun K hK => ?_)
     have hd := fun j => @tb_of _ _ j hd
     go_simp
     have hb1 := below_more HB0.out (.cells #[.float .f64 0, .float .f64 0, .float .f64 0, .float .f64 0, .float .f64 0, .float .f64 0] 26)
     exact hK _ _ ⟨HS198.out _ hb1, v4, v6, v7, v10, v11, .pointer (some ⟨w9.heap.size, 0, none⟩), w9.heap.size, by go_simp, hb1, fun h => CL4.out (tn h), fun h => CL6.out (tn h), fun h => CL7.out (tn h), fun h => CL10.out (tn h), fun h => CL11.out (tn h), fun _ => ⟨rfl, Blk.new_at _ _ _ rfl, HB0.out.size⟩⟩
 clear hS190 D189 HS198
 intro a' W216 hJ
 obtain ⟨v4, v6, v7, v10, v11, p12_, g217, rfl, hb0, cl4, cl6, cl7, cl10, cl11, ql12⟩ := hJ
 obtain rfl := cl4 (by decide)
 obtain rfl := cl6 (by decide)
 obtain rfl := cl7 (by decide)
 obtain rfl := cl10 (by decide)
 obtain rfl := cl11 (by decide)
 obtain ⟨rfl, kk12, ll12⟩ := ql12 (by decide)
 have D201 := Lib.hid hb0
 clear hb0
 refine wpAnyH_frame (a' := ?frq200) ?feq200 ?fgq200
 case feq200 => (go_simp; try with_reducible rfl)
 have K203 := Lib.hid ((kb K177 D201) : Blk W216 (w.heap.size) 26 (vc n))
 have K204 := Lib.hid ((kb K178 D201) : Blk W216 (w.heap.size + 1) 26 #[.float .f64 0, .float .f64 0, .float .f64 0, .float .f64 0, .float .f64 0, .float .f64 0])
 have K205 := Lib.hid ((kb K179 D201) : Blk W216 (w.heap.size + 1 + 1) 26 #[.float .f64 0, .float .f64 0, .float .f64 0, .float .f64 0, .float .f64 0, .float .f64 0])
 have K206 := Lib.hid ((kb K180 D201) : Blk W216 (g4) 24 #[.float .f64 p0.lo, .float .f64 p0.hi])
 have K207 := Lib.hid ((kb K181 D201) : Blk W216 (g27) 24 #[.float .f64 p0.lo, .float .f64 p0.hi])
 have K208 := Lib.hid ((kb K182 D201) : Blk W216 (g80) 24 #[.float .f64 p5.lo, .float .f64 p5.hi])
 have K209 := Lib.hid ((kb K183 D201) : Blk W216 (g122) 24 #[.float .f64 p7.lo, .float .f64 p7.hi])
 have K210 := Lib.hid ((kb K184 D201) : Blk W216 (g171) 26 #[.float .f64 p11.lo, .float .f64 p11.hi, .float .f64 p12.lo, .float .f64 p12.hi, .float .f64 p14.lo, .float .f64 p14.hi])
 have K211 := Lib.hid kk12
 clear kk12
 have HB214 := Lib.hid (below_step HB185.out D201.out)
 have Y213 := Lib.hid (show w.heap.size ≤ g217 ∧ w.heap.size < g217 ∧ w.heap.size + 1 < g217 ∧ w.heap.size + 1 + 1 < g217 ∧ g4 < g217 ∧ g27 < g217 ∧ g80 < g217 ∧ g122 < g217 ∧ g171 < g217 from ⟨Nat.le_trans HB185.out.size ll12, Nat.lt_of_lt_of_le K177.out.lt ll12, Nat.lt_of_lt_of_le K178.out.lt ll12, Nat.lt_of_lt_of_le K179.out.lt ll12, Nat.lt_of_lt_of_le K180.out.lt ll12, Nat.lt_of_lt_of_le K181.out.lt ll12, Nat.lt_of_lt_of_le K182.out.lt ll12, Nat.lt_of_lt_of_le K183.out.lt ll12, Nat.lt_of_lt_of_le K184.out.lt ll12⟩)
 have Y215 := Lib.hid (And.intro Y169.out Y213.out)
 clear Y169 Y213
 clear K177 K178 K179 K180 K181 K182 K183 K184 ll12 HB185
 have D218 := Lib.hid (Below.refl W216.heap.size W216)
 clear D201
 have hS219 : True ∧ CellsL W216 (w.heap.size) 2 [.float .f64 n.y.lo, .float .f64 n.y.hi] ∧ CellsL W216 (g27) 0 [.float .f64 p0.lo, .float .f64 p0.hi] ∧ CellsL W216 (g80) 0 [.float .f64 p5.lo, .float .f64 p5.hi] ∧ CellsL W216 (g122) 0 [.float .f64 p7.lo, .float .f64 p7.hi] := ⟨trivial, (kb K203 D218).cellsL 2 [.float .f64 n.y.lo, .float .f64 n.y.hi] rfl, (kb K207 D218).cellsL 0 [.float .f64 p0.lo, .float .f64 p0.hi] rfl, (kb K208 D218).cellsL 0 [.float .f64 p5.lo, .float .f64 p5.hi] rfl, (kb K209 D218).cellsL 0 [.float .f64 p7.lo, .float .f64 p7.hi] rfl⟩
 refine wpAnyH_oneM (i := 13) (l' := bm 14 16383) rfl (by kernel_rfl) (by kernel_rfl) (by kernel_rfl) (fun K hK => ?_)
 have f222 := (kb K211 D218)
 obtain ⟨V220, hV221⟩ : ∃ V, World.setRow W216 (g217) #[.float .f64 p7.lo, .float .f64 p7.hi, .float .f64 p17.lo, .float .f64 p17.hi, .float .f64 p18.lo, .float .f64 p18.hi] = V := ⟨_, rfl⟩
 have K223 := kfr hV221 K203 D218 (by have := Y215.out; omega)
 have K224 := kfr hV221 K204 D218 (by have := Y215.out; omega)
 have K225 := kfr hV221 K205 D218 (by have := Y215.out; omega)
 have K226 := kfr hV221 K206 D218 (by have := Y215.out; omega)
 have K227 := kfr hV221 K207 D218 (by have := Y215.out; omega)
 have K228 := kfr hV221 K208 D218 (by have := Y215.out; omega)
 have K229 := kfr hV221 K209 D218 (by have := Y215.out; omega)
 have K230 := kfr hV221 K210 D218 (by have := Y215.out; omega)
 have K231 := ksr hV221 K211 D218
 have HB232 := hbr hV221 HB214 D218 (by have := Y215.out; omega)
 have D233 := dr V220
 clear K203 K204 K205 K206 K207 K208 K209 K210 K211 HB214 D218
 refine wp_store_row 26 _ _ rfl (g217) #[.float .f64 p7.lo, .float .f64 p7.hi, .float .f64 p17.lo, .float .f64 p17.hi, .float .f64 p18.lo, .float .f64 p18.hi] rfl rfl _ _ f222 (by rw [info_V3]; rfl) rfl (by kernel_rfl) ?_
 rw [hV221]
 go_simp
 clear hV221 f222
 have hS234 : True ∧ CellsL V220 (w.heap.size) 2 [.float .f64 n.y.lo, .float .f64 n.y.hi] ∧ CellsL V220 (g27) 0 [.float .f64 p0.lo, .float .f64 p0.hi] ∧ CellsL V220 (g80) 0 [.float .f64 p5.lo, .float .f64 p5.hi] ∧ CellsL V220 (g122) 0 [.float .f64 p7.lo, .float .f64 p7.hi] := ⟨trivial, (kb K223 D233).cellsL 2 [.float .f64 n.y.lo, .float .f64 n.y.hi] rfl, (kb K227 D233).cellsL 0 [.float .f64 p0.lo, .float .f64 p0.hi] rfl, (kb K228 D233).cellsL 0 [.float .f64 p5.lo, .float .f64 p5.hi] rfl, (kb K229 D233).cellsL 0 [.float .f64 p7.lo, .float .f64 p7.hi] rfl⟩
 refine hK _ _ hS234 ?_
 clear hK K hS219
 refine wpAnyH_done (by kernel_rfl) ?_ _
 clear hS234
 go_wp2_with fail
 refine wp_region_held (S := (fun w' => True ∧ Blk w' (g171) 26 #[.float .f64 p11.lo, .float .f64 p11.hi, .float .f64 p12.lo, .float .f64 p12.hi, .float .f64 p14.lo, .float .f64 p14.hi] ∧ Blk w' (g217) 26 #[.float .f64 p7.lo, .float .f64 p7.hi, .float .f64 p17.lo, .float .f64 p17.hi, .float .f64 p18.lo, .float .f64 p18.hi])) (by kernel_rfl) ?_
 change wpAnyH _ _ _ _ _ _ _ _ (World.drew _)
 obtain ⟨wd235, hwd⟩ : ∃ x, x = World.drew V220 := ⟨_, rfl⟩
 rw [← hwd]
 have D236 := Lib.hid (hwd ▸ Below.drew D233.out : Below V220.heap.size V220 wd235)
 clear D233 hwd
 have hS237 : True ∧ Blk wd235 (g171) 26 #[.float .f64 p11.lo, .float .f64 p11.hi, .float .f64 p12.lo, .float .f64 p12.hi, .float .f64 p14.lo, .float .f64 p14.hi] ∧ Blk wd235 (g217) 26 #[.float .f64 p7.lo, .float .f64 p7.hi, .float .f64 p17.lo, .float .f64 p17.hi, .float .f64 p18.lo, .float .f64 p18.hi] := ⟨trivial, (kb K230 D236), (kb K231 D236)⟩
 refine tkL 0 (bm 6 1) ?aq238 rfl (by kernel_rfl) (fun _ _ _ h => h) (by kernel_rfl) rfl rfl (fun _ hS => hS.2.1) (by rw [info_V3]; rfl) Tryz.underlying26 rfl ?pq238 hS237 ?rq238
 case pq238 => (go_simp; try with_reducible rfl)
 refine tkL 1 (bm 6 3) ?aq239 rfl (by kernel_rfl) (fun _ _ _ h => h) (by kernel_rfl) rfl rfl (fun _ hS => hS.2.2) (by rw [info_V3]; rfl) Tryz.underlying26 rfl ?pq239 hS237 ?rq239
 case pq239 => (go_simp; try with_reducible rfl)
 refine tkq 2 (bm 6 7) hS237 ?_
 refine wpAnyH_oneN (i := 3) (l' := bm 6 15) rfl (by kernel_rfl) (by kernel_rfl) (by kernel_rfl) (fun K hK => ?_)
 have f243 := (kb K224 D236)
 obtain ⟨V241, hV242⟩ : ∃ V, World.setRow wd235 (w.heap.size + 1) #[.float .f64 p11.lo, .float .f64 p11.hi, .float .f64 p12.lo, .float .f64 p12.hi, .float .f64 p14.lo, .float .f64 p14.hi] = V := ⟨_, rfl⟩
 have K244 := kfr hV242 K223 D236 (by have := Y215.out; omega)
 have K245 := ksr hV242 K224 D236
 have K246 := kfr hV242 K225 D236 (by have := Y215.out; omega)
 have K247 := kfr hV242 K226 D236 (by have := Y215.out; omega)
 have K248 := kfr hV242 K227 D236 (by have := Y215.out; omega)
 have K249 := kfr hV242 K228 D236 (by have := Y215.out; omega)
 have K250 := kfr hV242 K229 D236 (by have := Y215.out; omega)
 have K251 := kfr hV242 K230 D236 (by have := Y215.out; omega)
 have K252 := kfr hV242 K231 D236 (by have := Y215.out; omega)
 have HB253 := hbr hV242 HB232 D236 (by have := Y215.out; omega)
 have D254 := dr V241
 clear K223 K224 K225 K226 K227 K228 K229 K230 K231 HB232 D236
 refine wp_store_row 26 _ _ rfl (w.heap.size + 1) #[.float .f64 p11.lo, .float .f64 p11.hi, .float .f64 p12.lo, .float .f64 p12.hi, .float .f64 p14.lo, .float .f64 p14.hi] rfl rfl _ _ f243 (by rw [info_V3]; rfl) rfl (by kernel_rfl) ?_
 rw [hV242]
 go_simp
 clear hV242 f243
 have hS255 : True ∧ Blk V241 (g171) 26 #[.float .f64 p11.lo, .float .f64 p11.hi, .float .f64 p12.lo, .float .f64 p12.hi, .float .f64 p14.lo, .float .f64 p14.hi] ∧ Blk V241 (g217) 26 #[.float .f64 p7.lo, .float .f64 p7.hi, .float .f64 p17.lo, .float .f64 p17.hi, .float .f64 p18.lo, .float .f64 p18.hi] := ⟨trivial, (kb K251 D254), (kb K252 D254)⟩
 refine hK _ _ hS255 ?_
 clear hK K hS237
 refine wpAnyH_oneN (i := 4) (l' := bm 6 31) rfl (by kernel_rfl) (by kernel_rfl) (by kernel_rfl) (fun K hK => ?_)
 have f258 := (kb K246 D254)
 obtain ⟨V256, hV257⟩ : ∃ V, World.setRow V241 (w.heap.size + 1 + 1) #[.float .f64 p7.lo, .float .f64 p7.hi, .float .f64 p17.lo, .float .f64 p17.hi, .float .f64 p18.lo, .float .f64 p18.hi] = V := ⟨_, rfl⟩
 have K259 := kfr hV257 K244 D254 (by have := Y215.out; omega)
 have K260 := kfr hV257 K245 D254 (by have := Y215.out; omega)
 have K261 := ksr hV257 K246 D254
 have K262 := kfr hV257 K247 D254 (by have := Y215.out; omega)
 have K263 := kfr hV257 K248 D254 (by have := Y215.out; omega)
 have K264 := kfr hV257 K249 D254 (by have := Y215.out; omega)
 have K265 := kfr hV257 K250 D254 (by have := Y215.out; omega)
 have K266 := kfr hV257 K251 D254 (by have := Y215.out; omega)
 have K267 := kfr hV257 K252 D254 (by have := Y215.out; omega)
 have HB268 := hbr hV257 HB253 D254 (by have := Y215.out; omega)
 have D269 := dr V256
 clear K244 K245 K246 K247 K248 K249 K250 K251 K252 HB253 D254
 refine wp_store_row 26 _ _ rfl (w.heap.size + 1 + 1) #[.float .f64 p7.lo, .float .f64 p7.hi, .float .f64 p17.lo, .float .f64 p17.hi, .float .f64 p18.lo, .float .f64 p18.hi] rfl rfl _ _ f258 (by rw [info_V3]; rfl) rfl (by kernel_rfl) ?_
 rw [hV257]
 go_simp
 clear hV257 f258
 have hS270 : True ∧ Blk V256 (g171) 26 #[.float .f64 p11.lo, .float .f64 p11.hi, .float .f64 p12.lo, .float .f64 p12.hi, .float .f64 p14.lo, .float .f64 p14.hi] ∧ Blk V256 (g217) 26 #[.float .f64 p7.lo, .float .f64 p7.hi, .float .f64 p17.lo, .float .f64 p17.hi, .float .f64 p18.lo, .float .f64 p18.hi] := ⟨trivial, (kb K266 D269), (kb K267 D269)⟩
 refine hK _ _ hS270 ?_
 clear hK K hS255
 refine tkq 5 (bm 6 63) hS270 ?_
 refine wpAnyH_done (by kernel_rfl) ?_ _
 clear hS270
 go_wp2_with fail
 (try simp only [Exit.inBlock, Exit.then])
 exact bodyPost_ret (res_cct rfl _ _ (w.heap.size + 1) #[.float .f64 p11.lo, .float .f64 p11.hi, .float .f64 p12.lo, .float .f64 p12.hi, .float .f64 p14.lo, .float .f64 p14.hi] (w.heap.size + 1 + 1) #[.float .f64 p7.lo, .float .f64 p7.hi, .float .f64 p17.lo, .float .f64 p17.hi, .float .f64 p18.lo, .float .f64 p18.hi] rfl (kb K260 D269) (by rw [info_V3]; rfl) Tryz.underlying26 rfl rfl (kb K261 D269) (by rw [info_V3]; rfl) Tryz.underlying26 rfl) rfl ⟨rfl, below_step HB268.out D269.out⟩
theorem rframe_2 (n : V3) (h : posS (negS n.z) = 2) (w : World) : Calls Tryz.prog 27 #[Value.agg #[.float .f64 n.x.lo, .float .f64 n.x.hi, .float .f64 n.y.lo, .float .f64 n.y.hi, .float .f64 n.z.lo, .float .f64 n.z.hi]] w fun r w' => r = .returned (.tuple #[vval (frT (ofS 4607182418800017408) n), vval (frU (ofS 4607182418800017408) n), .int .i64 2]) ∧ Below w.heap.size w w' := by
 have C0 := Lib.hid (fun w => rof_sp 4607182418800017408 (by decide) w)
 obtain ⟨p0, hp0⟩ : ∃ z_, ofS 4607182418800017408 = z_ := ⟨_, rfl⟩
 rw [hp0] at C0
 have C1 := Lib.hid (fun w => rneg_sp n.z w)
 obtain ⟨p1, hp1⟩ : ∃ z_, negS n.z = z_ := ⟨_, rfl⟩
 rw [hp1] at C1
 have hl : posS p1 = 2 := by rw [← hp1]; exact h
 clear h
 have C2 := Lib.hid (fun w => rpos_lit hl w)
 have C3 := Lib.hid (fun w => radd_sp p0 n.z w)
 obtain ⟨p3, hp3⟩ : ∃ z_, addS p0 n.z = z_ := ⟨_, rfl⟩
 rw [hp3] at C3
 have C4 := Lib.hid (fun w => rdiv_sp p0 p3 w)
 obtain ⟨p4, hp4⟩ : ∃ z_, divS p0 p3 = z_ := ⟨_, rfl⟩
 rw [hp4] at C4
 have C5 := Lib.hid (fun w => rneg_sp p4 w)
 obtain ⟨p5, hp5⟩ : ∃ z_, negS p4 = z_ := ⟨_, rfl⟩
 rw [hp5] at C5
 have C6 := Lib.hid (fun w => rmul_sp n.x n.y w)
 obtain ⟨p6, hp6⟩ : ∃ z_, mulS n.x n.y = z_ := ⟨_, rfl⟩
 rw [hp6] at C6
 have C7 := Lib.hid (fun w => rmul_sp p6 p5 w)
 obtain ⟨p7, hp7⟩ : ∃ z_, mulS p6 p5 = z_ := ⟨_, rfl⟩
 rw [hp7] at C7
 have C8 := Lib.hid (fun w => rsqr_sp n.x w)
 obtain ⟨p8, hp8⟩ : ∃ z_, sqrS n.x = z_ := ⟨_, rfl⟩
 rw [hp8] at C8
 have C9 := Lib.hid (fun w => rmul_sp p0 p8 w)
 obtain ⟨p9, hp9⟩ : ∃ z_, mulS p0 p8 = z_ := ⟨_, rfl⟩
 rw [hp9] at C9
 have C10 := Lib.hid (fun w => rmul_sp p9 p5 w)
 obtain ⟨p10, hp10⟩ : ∃ z_, mulS p9 p5 = z_ := ⟨_, rfl⟩
 rw [hp10] at C10
 have C11 := Lib.hid (fun w => radd_sp p0 p10 w)
 obtain ⟨p11, hp11⟩ : ∃ z_, addS p0 p10 = z_ := ⟨_, rfl⟩
 rw [hp11] at C11
 have C12 := Lib.hid (fun w => rmul_sp p0 p7 w)
 obtain ⟨p12, hp12⟩ : ∃ z_, mulS p0 p7 = z_ := ⟨_, rfl⟩
 rw [hp12] at C12
 have C13 := Lib.hid (fun w => rmul_sp p0 n.x w)
 obtain ⟨p13, hp13⟩ : ∃ z_, mulS p0 n.x = z_ := ⟨_, rfl⟩
 rw [hp13] at C13
 have C14 := Lib.hid (fun w => rneg_sp p13 w)
 obtain ⟨p14, hp14⟩ : ∃ z_, negS p13 = z_ := ⟨_, rfl⟩
 rw [hp14] at C14
 have C15 := Lib.hid (fun w => rsqr_sp n.y w)
 obtain ⟨p15, hp15⟩ : ∃ z_, sqrS n.y = z_ := ⟨_, rfl⟩
 rw [hp15] at C15
 have C16 := Lib.hid (fun w => rmul_sp p15 p5 w)
 obtain ⟨p16, hp16⟩ : ∃ z_, mulS p15 p5 = z_ := ⟨_, rfl⟩
 rw [hp16] at C16
 have C17 := Lib.hid (fun w => radd_sp p0 p16 w)
 obtain ⟨p17, hp17⟩ : ∃ z_, addS p0 p16 = z_ := ⟨_, rfl⟩
 rw [hp17] at C17
 have C18 := Lib.hid (fun w => rneg_sp n.y w)
 obtain ⟨p18, hp18⟩ : ∃ z_, negS n.y = z_ := ⟨_, rfl⟩
 rw [hp18] at C18
 have hT0 : frT (ofS 4607182418800017408) n = (⟨p11, p12, p14⟩ : V3) := by
   subst hp0 hp1 hp3 hp4 hp5 hp6 hp7 hp8 hp9 hp10 hp11 hp12 hp13 hp14 hp15 hp16 hp17 hp18; rfl
 have hT1 : frU (ofS 4607182418800017408) n = (⟨p7, p17, p18⟩ : V3) := by
   subst hp0 hp1 hp3 hp4 hp5 hp6 hp7 hp8 hp9 hp10 hp11 hp12 hp13 hp14 hp15 hp16 hp17 hp18; rfl
 rw [hT0, hT1]
 clear hT0 hT1
 clear hp0 hp1 hp3 hp4 hp5 hp6 hp7 hp8 hp9 hp10 hp11 hp12 hp13 hp14 hp15 hp16 hp17 hp18
 go_enter Tryz.func27, Tryz.ntmps27
 go_wp2_with fail
 obtain ⟨W, hW, K0, K1, K2, hB, hz⟩ := bx3 w 26 26 26 (vc n) #[.float .f64 0, .float .f64 0, .float .f64 0, .float .f64 0, .float .f64 0, .float .f64 0] #[.float .f64 0, .float .f64 0, .float .f64 0, .float .f64 0, .float .f64 0, .float .f64 0]
 rw [← hW]
 have K0 := Lib.hid K0
 have K1 := Lib.hid K1
 have K2 := Lib.hid K2
 have HB := Lib.hid hB
 clear hW hB hz
 have D1 := dr W
 refine (C0.out _).mono ?_
 rintro r w2 ⟨rfl, hb⟩
 have D3 := ds D1 hb
 clear D1
 clear hb
 obtain ⟨g4, hg6⟩ : ∃ g, w2.heap.size = g := ⟨_, rfl⟩
 have Y8 := Lib.hid (show w.heap.size < g4 ∧ w.heap.size + 1 < g4 ∧ w.heap.size + 1 + 1 < g4 by rw [← hg6]; exact ⟨(kb K0 D3).lt, (kb K1 D3).lt, (kb K2 D3).lt⟩)
 obtain ⟨V5, hV7⟩ : ∃ V, w2.alloc (.cells #[.float .f64 0, .float .f64 0] 24) = V := ⟨_, rfl⟩
 have K9 := ka hV7 K0 D3
 have K10 := ka hV7 K1 D3
 have K11 := ka hV7 K2 D3
 have K12 := kn hV7 hg6
 have HB13 := hba hV7 HB D3
 have D14 := dr V5
 clear K0 K1 K2 HB D3
 have f17 := (kb K12 D14).cellsL 0 [.float .f64 0, .float .f64 0] rfl
 dsimp only [CellsL, al, vl, Nat.reduceAdd] at f17
 have u18 := (kb K12 D14).unfrozen
 obtain ⟨V15, hV16⟩ : ∃ V, setCells V5 (g4) 0 [.float .f64 p0.lo, .float .f64 p0.hi] = V := ⟨_, rfl⟩
 have hv19 := hV16
 simp only [setCells, Nat.reduceAdd] at hv19
 have K20 := kf hV16 K9 D14 (by have := Y8.out; omega)
 have K21 := kf hV16 K10 D14 (by have := Y8.out; omega)
 have K22 := kf hV16 K11 D14 (by have := Y8.out; omega)
 have K23 := Lib.hid (show Blk V15 (g4) 24 #[.float .f64 p0.lo, .float .f64 p0.hi] from (ks hV16 K12 D14).out)
 have HB24 := hbs hV16 HB13 D14 (by have := Y8.out; omega)
 have D25 := dr V15
 clear K9 K10 K11 K12 HB13 D14
 have hq26 := (kb K23 D25).cellsL 0 [.float .f64 p0.lo, .float .f64 p0.hi] rfl
 dsimp only [CellsL, al, vl, Nat.reduceAdd] at hq26
 obtain ⟨g27, hg29⟩ : ∃ g, V15.heap.size = g := ⟨_, rfl⟩
 have Y31 := Lib.hid (show w.heap.size < g27 ∧ w.heap.size + 1 < g27 ∧ w.heap.size + 1 + 1 < g27 ∧ g4 < g27 by rw [← hg29]; exact ⟨(kb K20 D25).lt, (kb K21 D25).lt, (kb K22 D25).lt, (kb K23 D25).lt⟩)
 obtain ⟨V28, hV30⟩ : ∃ V, V15.alloc (.cells #[.float .f64 0, .float .f64 0] 24) = V := ⟨_, rfl⟩
 have K32 := ka hV30 K20 D25
 have K33 := ka hV30 K21 D25
 have K34 := ka hV30 K22 D25
 have K35 := ka hV30 K23 D25
 have K36 := kn hV30 hg29
 have HB37 := hba hV30 HB24 D25
 have D38 := dr V28
 clear K20 K21 K22 K23 HB24 D25
 have Y39 := Lib.hid (And.intro Y8.out Y31.out)
 clear Y8 Y31
 have f42 := (kb K36 D38).cellsL 0 [.float .f64 0, .float .f64 0] rfl
 dsimp only [CellsL, al, vl, Nat.reduceAdd] at f42
 have u43 := (kb K36 D38).unfrozen
 obtain ⟨V40, hV41⟩ : ∃ V, setCells V28 (g27) 0 [.float .f64 p0.lo, .float .f64 p0.hi] = V := ⟨_, rfl⟩
 have hv44 := hV41
 simp only [setCells, Nat.reduceAdd] at hv44
 have K45 := kf hV41 K32 D38 (by have := Y39.out; omega)
 have K46 := kf hV41 K33 D38 (by have := Y39.out; omega)
 have K47 := kf hV41 K34 D38 (by have := Y39.out; omega)
 have K48 := kf hV41 K35 D38 (by have := Y39.out; omega)
 have K49 := Lib.hid (show Blk V40 (g27) 24 #[.float .f64 p0.lo, .float .f64 p0.hi] from (ks hV41 K36 D38).out)
 have HB50 := hbs hV41 HB37 D38 (by have := Y39.out; omega)
 have D51 := dr V40
 clear K32 K33 K34 K35 K36 HB37 D38
 have hq52 := (kb K45 D51).cellsL 4 [.float .f64 n.z.lo, .float .f64 n.z.hi] rfl
 dsimp only [CellsL, al, vl, Nat.reduceAdd] at hq52
 go_wp2_with fail
 clear hg6 hV7 hV16 f17 u18 hv19 hq26 hg29 hV30 hV41 f42 u43 hv44 hq52
 refine (C1.out _).mono ?_
 rintro r w53 ⟨rfl, hb⟩
 have D54 := ds D51 hb
 clear D51
 clear hb
 go_wp2_with fail
 refine (C2.out _).mono ?_
 rintro r w55 ⟨rfl, hb⟩
 have D56 := ds D54 hb
 clear D54
 clear hb
 go_wp2_with fail
 refine wp_region_held (S := (fun w' => True ∧ CellsL w' (w.heap.size) 4 [.float .f64 n.z.lo, .float .f64 n.z.hi] ∧ CellsL w' (g4) 0 [.float .f64 p0.lo, .float .f64 p0.hi] ∧ CellsL w' (g27) 0 [.float .f64 p0.lo, .float .f64 p0.hi])) (by kernel_rfl) ?_
 change wpAnyH _ _ _ _ _ _ _ _ (World.drew _)
 obtain ⟨wd57, hwd⟩ : ∃ x, x = World.drew w55 := ⟨_, rfl⟩
 rw [← hwd]
 have D58 := Lib.hid (hwd ▸ Below.drew D56.out : Below V40.heap.size V40 wd57)
 clear D56 hwd
 have hS59 : True ∧ CellsL wd57 (w.heap.size) 4 [.float .f64 n.z.lo, .float .f64 n.z.hi] ∧ CellsL wd57 (g4) 0 [.float .f64 p0.lo, .float .f64 p0.hi] ∧ CellsL wd57 (g27) 0 [.float .f64 p0.lo, .float .f64 p0.hi] := ⟨trivial, (kb K45 D58).cellsL 4 [.float .f64 n.z.lo, .float .f64 n.z.hi] rfl, (kb K48 D58).cellsL 0 [.float .f64 p0.lo, .float .f64 p0.hi] rfl, (kb K49 D58).cellsL 0 [.float .f64 p0.lo, .float .f64 p0.hi] rfl⟩
 refine tke 0 (bm 9 1) hS59 ?_
 refine tke 1 (bm 9 3) hS59 ?_
 refine tkq 2 (bm 9 7) hS59 ?_
 refine tke 3 (bm 9 15) hS59 ?_
 have HS64 := Lib.hid (show ∀ w', Below V40.heap.size V40 w' → (True ∧ CellsL w' (w.heap.size) 4 [.float .f64 n.z.lo, .float .f64 n.z.hi] ∧ CellsL w' (g4) 0 [.float .f64 p0.lo, .float .f64 p0.hi] ∧ CellsL w' (g27) 0 [.float .f64 p0.lo, .float .f64 p0.hi]) from fun w' b => ⟨trivial, (K45.out.below b K45.out.lt).cellsL 4 [.float .f64 n.z.lo, .float .f64 n.z.hi] rfl, (K48.out.below b K48.out.lt).cellsL 0 [.float .f64 p0.lo, .float .f64 p0.hi] rfl, (K49.out.below b K49.out.lt).cellsL 0 [.float .f64 p0.lo, .float .f64 p0.hi] rfl⟩)
 refine wpAnyH_sets2 (N := 9) (stop := 255) (F := 1) (m := 15) (R := [4, 5, 6, 7]) (M := [15, 31, 143, 63, 159, 127, 191, 255]) (fun i => if i = 4 then 10 else if i = 5 then 17 else if i = 6 then 32 else if i = 7 then 0 else 0) (fun a0 m a w9 => ∃ (v4 v5 v6 p7_ : Value) (g7_ : Nat), a = ((((a0.put (some 28) v4).put (some 29) v5).put (some 30) v6).put (some 9) p7_) ∧ Below V40.heap.size V40 w9 ∧ (m.testBit 4 = true → v4 = Value.agg #[.float .f64 p3.lo, .float .f64 p3.hi]) ∧ (m.testBit 5 = true → v5 = Value.agg #[.float .f64 p4.lo, .float .f64 p4.hi]) ∧ (m.testBit 6 = true → v6 = Value.agg #[.float .f64 p5.lo, .float .f64 p5.hi]) ∧ (m.testBit 7 = true → p7_ = .pointer (some ⟨g7_, 0, none⟩) ∧ Blk w9 g7_ 24 #[.float .f64 0, .float .f64 0] ∧ V40.heap.size ≤ g7_)) (by kernel_rfl) (by kernel_rfl) (by kernel_rfl) (by kernel_rfl) ?st9 ?sp9 ?re9
 case st9 =>
   exact ⟨undef, undef, undef, undef, 0, by go_simp, D58.out, fun h => absurd h (by decide), fun h => absurd h (by decide), fun h => absurd h (by decide), fun h => absurd h (by decide)⟩
 case sp9 =>
   intro m a' w9 i hi hm hd hJ
   obtain ⟨v4, v5, v6, p7_, g7_, rfl, hb0, cl4, cl5, cl6, ql7⟩ := hJ
   have CL4 := Lib.hid cl4
   have CL5 := Lib.hid cl5
   have CL6 := Lib.hid cl6
   have QL7 := Lib.hid ql7
   have HB0 := Lib.hid hb0
   clear cl4 cl5 cl6 ql7 hb0 hS59
   simp only [List.mem_cons, List.not_mem_nil, or_false] at hi
   rcases hi with rfl | rfl | rfl | rfl
   · refine wpOp_at rfl (by kernel_rfl) (fun K hK => ?_)
     have hd := fun j => @tb_of _ _ j hd
     go_simp
     go_at_call 74
     refine (C3.out _).mono ?_
     rintro r w10 ⟨rfl, hb⟩
     dsimp only
     have hb1 := below_step HB0.out hb
     exact hK _ _ ⟨HS64.out _ hb1, _, v5, v6, p7_, g7_, by go_simp, hb1, fun _ => rfl, fun h => CL5.out (tn h), fun h => CL6.out (tn h), fun h => ⟨(QL7.out (tn h)).1, (QL7.out (tn h)).2.1.below hb (QL7.out (tn h)).2.1.lt, (QL7.out (tn h)).2.2⟩⟩
   · refine wpOp_at rfl (by kernel_rfl) (fun K hK => ?_)
     have hd := fun j => @tb_of _ _ j hd
     obtain rfl := CL4.out (hd _ (by decide))
     go_simp
     go_at_call 73
     refine (C4.out _).mono ?_
     rintro r w10 ⟨rfl, hb⟩
     dsimp only
     have hb1 := below_step HB0.out hb
     exact hK _ _ ⟨HS64.out _ hb1, _, _, v6, p7_, g7_, by go_simp, hb1, fun _ => rfl, fun _ => rfl, fun h => CL6.out (tn h), fun h => ⟨(QL7.out (tn h)).1, (QL7.out (tn h)).2.1.below hb (QL7.out (tn h)).2.1.lt, (QL7.out (tn h)).2.2⟩⟩
   · refine wpOp_at rfl (by kernel_rfl) (fun K hK => ?_)
     have hd := fun j => @tb_of _ _ j hd
     obtain rfl := CL5.out (hd _ (by decide))
     go_simp
     go_at_call 72
     refine (C5.out _).mono ?_
     rintro r w10 ⟨rfl, hb⟩
     dsimp only
     have hb1 := below_step HB0.out hb
     exact hK _ _ ⟨HS64.out _ hb1, v4, _, _, p7_, g7_, by go_simp, hb1, fun h => CL4.out (tn h), fun _ => rfl, fun _ => rfl, fun h => ⟨(QL7.out (tn h)).1, (QL7.out (tn h)).2.1.below hb (QL7.out (tn h)).2.1.lt, (QL7.out (tn h)).2.2⟩⟩
   · refine wpOp_at rfl (by kernel_rfl) (fun K hK => ?_)
     have hd := fun j => @tb_of _ _ j hd
     go_simp
     have hb1 := below_more HB0.out (.cells #[.float .f64 0, .float .f64 0] 24)
     exact hK _ _ ⟨HS64.out _ hb1, v4, v5, v6, .pointer (some ⟨w9.heap.size, 0, none⟩), w9.heap.size, by go_simp, hb1, fun h => CL4.out (tn h), fun h => CL5.out (tn h), fun h => CL6.out (tn h), fun _ => ⟨rfl, Blk.new_at _ _ _ rfl, HB0.out.size⟩⟩
 clear hS59 D58 HS64
 intro a' W79 hJ
 obtain ⟨v4, v5, v6, p7_, g80, rfl, hb0, cl4, cl5, cl6, ql7⟩ := hJ
 obtain rfl := cl4 (by decide)
 obtain rfl := cl5 (by decide)
 obtain rfl := cl6 (by decide)
 obtain ⟨rfl, kk7, ll7⟩ := ql7 (by decide)
 have D67 := Lib.hid hb0
 clear hb0
 refine wpAnyH_frame (a' := ?frq66) ?feq66 ?fgq66
 case feq66 => (go_simp; try with_reducible rfl)
 have K69 := Lib.hid ((kb K45 D67) : Blk W79 (w.heap.size) 26 (vc n))
 have K70 := Lib.hid ((kb K46 D67) : Blk W79 (w.heap.size + 1) 26 #[.float .f64 0, .float .f64 0, .float .f64 0, .float .f64 0, .float .f64 0, .float .f64 0])
 have K71 := Lib.hid ((kb K47 D67) : Blk W79 (w.heap.size + 1 + 1) 26 #[.float .f64 0, .float .f64 0, .float .f64 0, .float .f64 0, .float .f64 0, .float .f64 0])
 have K72 := Lib.hid ((kb K48 D67) : Blk W79 (g4) 24 #[.float .f64 p0.lo, .float .f64 p0.hi])
 have K73 := Lib.hid ((kb K49 D67) : Blk W79 (g27) 24 #[.float .f64 p0.lo, .float .f64 p0.hi])
 have K74 := Lib.hid kk7
 clear kk7
 have HB77 := Lib.hid (below_step HB50.out D67.out)
 have Y76 := Lib.hid (show w.heap.size ≤ g80 ∧ w.heap.size < g80 ∧ w.heap.size + 1 < g80 ∧ w.heap.size + 1 + 1 < g80 ∧ g4 < g80 ∧ g27 < g80 from ⟨Nat.le_trans HB50.out.size ll7, Nat.lt_of_lt_of_le K45.out.lt ll7, Nat.lt_of_lt_of_le K46.out.lt ll7, Nat.lt_of_lt_of_le K47.out.lt ll7, Nat.lt_of_lt_of_le K48.out.lt ll7, Nat.lt_of_lt_of_le K49.out.lt ll7⟩)
 have Y78 := Lib.hid (And.intro Y39.out Y76.out)
 clear Y39 Y76
 clear K45 K46 K47 K48 K49 ll7 HB50
 have D81 := Lib.hid (Below.refl W79.heap.size W79)
 clear D67
 have hS82 : True ∧ CellsL W79 (w.heap.size) 4 [.float .f64 n.z.lo, .float .f64 n.z.hi] ∧ CellsL W79 (g4) 0 [.float .f64 p0.lo, .float .f64 p0.hi] ∧ CellsL W79 (g27) 0 [.float .f64 p0.lo, .float .f64 p0.hi] := ⟨trivial, (kb K69 D81).cellsL 4 [.float .f64 n.z.lo, .float .f64 n.z.hi] rfl, (kb K72 D81).cellsL 0 [.float .f64 p0.lo, .float .f64 p0.hi] rfl, (kb K73 D81).cellsL 0 [.float .f64 p0.lo, .float .f64 p0.hi] rfl⟩
 refine wpAnyH_oneM (i := 8) (l' := bm 9 511) rfl (by kernel_rfl) (by kernel_rfl) (by kernel_rfl) (fun K hK => ?_)
 have f85 := (kb K74 D81).cellsL 0 [.float .f64 0, .float .f64 0] rfl
 dsimp only [CellsL, al, vl, Nat.reduceAdd] at f85
 have u86 := (kb K74 D81).unfrozen
 obtain ⟨V83, hV84⟩ : ∃ V, setCells W79 (g80) 0 [.float .f64 p5.lo, .float .f64 p5.hi] = V := ⟨_, rfl⟩
 have hv87 := hV84
 simp only [setCells, Nat.reduceAdd] at hv87
 have K88 := kf hV84 K69 D81 (by have := Y78.out; omega)
 have K89 := kf hV84 K70 D81 (by have := Y78.out; omega)
 have K90 := kf hV84 K71 D81 (by have := Y78.out; omega)
 have K91 := kf hV84 K72 D81 (by have := Y78.out; omega)
 have K92 := kf hV84 K73 D81 (by have := Y78.out; omega)
 have K93 := Lib.hid (show Blk V83 (g80) 24 #[.float .f64 p5.lo, .float .f64 p5.hi] from (ks hV84 K74 D81).out)
 have HB94 := hbs hV84 HB77 D81 (by have := Y78.out; omega)
 have D95 := dr V83
 clear K69 K70 K71 K72 K73 K74 HB77 D81
 go_simp
 clear hV84 f85 u86 hv87
 have hS96 : True ∧ CellsL V83 (w.heap.size) 4 [.float .f64 n.z.lo, .float .f64 n.z.hi] ∧ CellsL V83 (g4) 0 [.float .f64 p0.lo, .float .f64 p0.hi] ∧ CellsL V83 (g27) 0 [.float .f64 p0.lo, .float .f64 p0.hi] := ⟨trivial, (kb K88 D95).cellsL 4 [.float .f64 n.z.lo, .float .f64 n.z.hi] rfl, (kb K91 D95).cellsL 0 [.float .f64 p0.lo, .float .f64 p0.hi] rfl, (kb K92 D95).cellsL 0 [.float .f64 p0.lo, .float .f64 p0.hi] rfl⟩
 refine hK _ _ hS96 ?_
 clear hK K hS82
 refine wpAnyH_done (by kernel_rfl) ?_ _
 clear hS96
 go_wp2_with fail
 refine wp_region_held (S := (fun w' => True ∧ CellsL w' (w.heap.size) 0 [.float .f64 n.x.lo, .float .f64 n.x.hi, .float .f64 n.y.lo, .float .f64 n.y.hi] ∧ CellsL w' (g80) 0 [.float .f64 p5.lo, .float .f64 p5.hi])) (by kernel_rfl) ?_
 change wpAnyH _ _ _ _ _ _ _ _ (World.drew _)
 obtain ⟨wd97, hwd⟩ : ∃ x, x = World.drew V83 := ⟨_, rfl⟩
 rw [← hwd]
 have D98 := Lib.hid (hwd ▸ Below.drew D95.out : Below V83.heap.size V83 wd97)
 clear D95 hwd
 have hS99 : True ∧ CellsL wd97 (w.heap.size) 0 [.float .f64 n.x.lo, .float .f64 n.x.hi, .float .f64 n.y.lo, .float .f64 n.y.hi] ∧ CellsL wd97 (g80) 0 [.float .f64 p5.lo, .float .f64 p5.hi] := ⟨trivial, (kb K88 D98).cellsL 0 [.float .f64 n.x.lo, .float .f64 n.x.hi, .float .f64 n.y.lo, .float .f64 n.y.hi] rfl, (kb K93 D98).cellsL 0 [.float .f64 p5.lo, .float .f64 p5.hi] rfl⟩
 refine tkq 0 (bm 9 1) hS99 ?_
 refine tke 1 (bm 9 3) hS99 ?_
 refine tkq 2 (bm 9 7) hS99 ?_
 refine tke 3 (bm 9 15) hS99 ?_
 refine tke 5 (bm 9 47) hS99 ?_
 have HS105 := Lib.hid (show ∀ w', Below V83.heap.size V83 w' → (True ∧ CellsL w' (w.heap.size) 0 [.float .f64 n.x.lo, .float .f64 n.x.hi, .float .f64 n.y.lo, .float .f64 n.y.hi] ∧ CellsL w' (g80) 0 [.float .f64 p5.lo, .float .f64 p5.hi]) from fun w' b => ⟨trivial, (K88.out.below b K88.out.lt).cellsL 0 [.float .f64 n.x.lo, .float .f64 n.x.hi, .float .f64 n.y.lo, .float .f64 n.y.hi] rfl, (K93.out.below b K93.out.lt).cellsL 0 [.float .f64 p5.lo, .float .f64 p5.hi] rfl⟩)
 refine wpAnyH_sets2 (N := 9) (stop := 255) (F := 1) (m := 47) (R := [4, 6, 7]) (M := [47, 63, 175, 127, 191, 255]) (fun i => if i = 4 then 10 else if i = 6 then 48 else if i = 7 then 0 else 0) (fun a0 m a w9 => ∃ (v4 v6 p7_ : Value) (g7_ : Nat), a = (((a0.put (some 35) v4).put (some 37) v6).put (some 10) p7_) ∧ Below V83.heap.size V83 w9 ∧ (m.testBit 4 = true → v4 = Value.agg #[.float .f64 p6.lo, .float .f64 p6.hi]) ∧ (m.testBit 6 = true → v6 = Value.agg #[.float .f64 p7.lo, .float .f64 p7.hi]) ∧ (m.testBit 7 = true → p7_ = .pointer (some ⟨g7_, 0, none⟩) ∧ Blk w9 g7_ 24 #[.float .f64 0, .float .f64 0] ∧ V83.heap.size ≤ g7_)) (by kernel_rfl) (by kernel_rfl) (by kernel_rfl) (by kernel_rfl) ?st10 ?sp10 ?re10
 case st10 =>
   exact ⟨undef, undef, undef, 0, by go_simp, D98.out, fun h => absurd h (by decide), fun h => absurd h (by decide), fun h => absurd h (by decide)⟩
 case sp10 =>
   intro m a' w9 i hi hm hd hJ
   obtain ⟨v4, v6, p7_, g7_, rfl, hb0, cl4, cl6, ql7⟩ := hJ
   have CL4 := Lib.hid cl4
   have CL6 := Lib.hid cl6
   have QL7 := Lib.hid ql7
   have HB0 := Lib.hid hb0
   clear cl4 cl6 ql7 hb0 hS99
   simp only [List.mem_cons, List.not_mem_nil, or_false] at hi
   rcases hi with rfl | rfl | rfl
   · refine wpOp_at rfl (by kernel_rfl) (fun K hK => ?_)
     have hd := fun j => @tb_of _ _ j hd
     go_simp
     go_at_call 75
     refine (C6.out _).mono ?_
     rintro r w10 ⟨rfl, hb⟩
     dsimp only
     have hb1 := below_step HB0.out hb
     exact hK _ _ ⟨HS105.out _ hb1, _, v6, p7_, g7_, by go_simp, hb1, fun _ => rfl, fun h => CL6.out (tn h), fun h => ⟨(QL7.out (tn h)).1, (QL7.out (tn h)).2.1.below hb (QL7.out (tn h)).2.1.lt, (QL7.out (tn h)).2.2⟩⟩
   · refine wpOp_at rfl (by kernel_rfl) (fun K hK => ?_)
     have hd := fun j => @tb_of _ _ j hd
     obtain rfl := CL4.out (hd _ (by decide))
     go_simp
     go_at_call 75
     refine (C7.out _).mono ?_
     rintro r w10 ⟨rfl, hb⟩
     dsimp only
     have hb1 := below_step HB0.out hb
     exact hK _ _ ⟨HS105.out _ hb1, _, _, p7_, g7_, by go_simp, hb1, fun _ => rfl, fun _ => rfl, fun h => ⟨(QL7.out (tn h)).1, (QL7.out (tn h)).2.1.below hb (QL7.out (tn h)).2.1.lt, (QL7.out (tn h)).2.2⟩⟩
   · refine wpOp_at rfl (by kernel_rfl) (fun K hK => ?_)
     have hd := fun j => @tb_of _ _ j hd
     go_simp
     have hb1 := below_more HB0.out (.cells #[.float .f64 0, .float .f64 0] 24)
     exact hK _ _ ⟨HS105.out _ hb1, v4, v6, .pointer (some ⟨w9.heap.size, 0, none⟩), w9.heap.size, by go_simp, hb1, fun h => CL4.out (tn h), fun h => CL6.out (tn h), fun _ => ⟨rfl, Blk.new_at _ _ _ rfl, HB0.out.size⟩⟩
 clear hS99 D98 HS105
 intro a' W121 hJ
 obtain ⟨v4, v6, p7_, g122, rfl, hb0, cl4, cl6, ql7⟩ := hJ
 obtain rfl := cl4 (by decide)
 obtain rfl := cl6 (by decide)
 obtain ⟨rfl, kk7, ll7⟩ := ql7 (by decide)
 have D108 := Lib.hid hb0
 clear hb0
 refine wpAnyH_frame (a' := ?frq107) ?feq107 ?fgq107
 case feq107 => (go_simp; try with_reducible rfl)
 have K110 := Lib.hid ((kb K88 D108) : Blk W121 (w.heap.size) 26 (vc n))
 have K111 := Lib.hid ((kb K89 D108) : Blk W121 (w.heap.size + 1) 26 #[.float .f64 0, .float .f64 0, .float .f64 0, .float .f64 0, .float .f64 0, .float .f64 0])
 have K112 := Lib.hid ((kb K90 D108) : Blk W121 (w.heap.size + 1 + 1) 26 #[.float .f64 0, .float .f64 0, .float .f64 0, .float .f64 0, .float .f64 0, .float .f64 0])
 have K113 := Lib.hid ((kb K91 D108) : Blk W121 (g4) 24 #[.float .f64 p0.lo, .float .f64 p0.hi])
 have K114 := Lib.hid ((kb K92 D108) : Blk W121 (g27) 24 #[.float .f64 p0.lo, .float .f64 p0.hi])
 have K115 := Lib.hid ((kb K93 D108) : Blk W121 (g80) 24 #[.float .f64 p5.lo, .float .f64 p5.hi])
 have K116 := Lib.hid kk7
 clear kk7
 have HB119 := Lib.hid (below_step HB94.out D108.out)
 have Y118 := Lib.hid (show w.heap.size ≤ g122 ∧ w.heap.size < g122 ∧ w.heap.size + 1 < g122 ∧ w.heap.size + 1 + 1 < g122 ∧ g4 < g122 ∧ g27 < g122 ∧ g80 < g122 from ⟨Nat.le_trans HB94.out.size ll7, Nat.lt_of_lt_of_le K88.out.lt ll7, Nat.lt_of_lt_of_le K89.out.lt ll7, Nat.lt_of_lt_of_le K90.out.lt ll7, Nat.lt_of_lt_of_le K91.out.lt ll7, Nat.lt_of_lt_of_le K92.out.lt ll7, Nat.lt_of_lt_of_le K93.out.lt ll7⟩)
 have Y120 := Lib.hid (And.intro Y78.out Y118.out)
 clear Y78 Y118
 clear K88 K89 K90 K91 K92 K93 ll7 HB94
 have D123 := Lib.hid (Below.refl W121.heap.size W121)
 clear D108
 have hS124 : True ∧ CellsL W121 (w.heap.size) 0 [.float .f64 n.x.lo, .float .f64 n.x.hi, .float .f64 n.y.lo, .float .f64 n.y.hi] ∧ CellsL W121 (g80) 0 [.float .f64 p5.lo, .float .f64 p5.hi] := ⟨trivial, (kb K110 D123).cellsL 0 [.float .f64 n.x.lo, .float .f64 n.x.hi, .float .f64 n.y.lo, .float .f64 n.y.hi] rfl, (kb K115 D123).cellsL 0 [.float .f64 p5.lo, .float .f64 p5.hi] rfl⟩
 refine wpAnyH_oneM (i := 8) (l' := bm 9 511) rfl (by kernel_rfl) (by kernel_rfl) (by kernel_rfl) (fun K hK => ?_)
 have f127 := (kb K116 D123).cellsL 0 [.float .f64 0, .float .f64 0] rfl
 dsimp only [CellsL, al, vl, Nat.reduceAdd] at f127
 have u128 := (kb K116 D123).unfrozen
 obtain ⟨V125, hV126⟩ : ∃ V, setCells W121 (g122) 0 [.float .f64 p7.lo, .float .f64 p7.hi] = V := ⟨_, rfl⟩
 have hv129 := hV126
 simp only [setCells, Nat.reduceAdd] at hv129
 have K130 := kf hV126 K110 D123 (by have := Y120.out; omega)
 have K131 := kf hV126 K111 D123 (by have := Y120.out; omega)
 have K132 := kf hV126 K112 D123 (by have := Y120.out; omega)
 have K133 := kf hV126 K113 D123 (by have := Y120.out; omega)
 have K134 := kf hV126 K114 D123 (by have := Y120.out; omega)
 have K135 := kf hV126 K115 D123 (by have := Y120.out; omega)
 have K136 := Lib.hid (show Blk V125 (g122) 24 #[.float .f64 p7.lo, .float .f64 p7.hi] from (ks hV126 K116 D123).out)
 have HB137 := hbs hV126 HB119 D123 (by have := Y120.out; omega)
 have D138 := dr V125
 clear K110 K111 K112 K113 K114 K115 K116 HB119 D123
 go_simp
 clear hV126 f127 u128 hv129
 have hS139 : True ∧ CellsL V125 (w.heap.size) 0 [.float .f64 n.x.lo, .float .f64 n.x.hi, .float .f64 n.y.lo, .float .f64 n.y.hi] ∧ CellsL V125 (g80) 0 [.float .f64 p5.lo, .float .f64 p5.hi] := ⟨trivial, (kb K130 D138).cellsL 0 [.float .f64 n.x.lo, .float .f64 n.x.hi, .float .f64 n.y.lo, .float .f64 n.y.hi] rfl, (kb K135 D138).cellsL 0 [.float .f64 p5.lo, .float .f64 p5.hi] rfl⟩
 refine hK _ _ hS139 ?_
 clear hK K hS124
 refine wpAnyH_done (by kernel_rfl) ?_ _
 clear hS139
 go_wp2_with fail
 refine wp_region_held (S := (fun w' => True ∧ CellsL w' (w.heap.size) 0 [.float .f64 n.x.lo, .float .f64 n.x.hi] ∧ CellsL w' (g4) 0 [.float .f64 p0.lo, .float .f64 p0.hi] ∧ CellsL w' (g27) 0 [.float .f64 p0.lo, .float .f64 p0.hi] ∧ CellsL w' (g80) 0 [.float .f64 p5.lo, .float .f64 p5.hi] ∧ CellsL w' (g122) 0 [.float .f64 p7.lo, .float .f64 p7.hi])) (by kernel_rfl) ?_
 change wpAnyH _ _ _ _ _ _ _ _ (World.drew _)
 obtain ⟨wd140, hwd⟩ : ∃ x, x = World.drew V125 := ⟨_, rfl⟩
 rw [← hwd]
 have D141 := Lib.hid (hwd ▸ Below.drew D138.out : Below V125.heap.size V125 wd140)
 clear D138 hwd
 have hS142 : True ∧ CellsL wd140 (w.heap.size) 0 [.float .f64 n.x.lo, .float .f64 n.x.hi] ∧ CellsL wd140 (g4) 0 [.float .f64 p0.lo, .float .f64 p0.hi] ∧ CellsL wd140 (g27) 0 [.float .f64 p0.lo, .float .f64 p0.hi] ∧ CellsL wd140 (g80) 0 [.float .f64 p5.lo, .float .f64 p5.hi] ∧ CellsL wd140 (g122) 0 [.float .f64 p7.lo, .float .f64 p7.hi] := ⟨trivial, (kb K130 D141).cellsL 0 [.float .f64 n.x.lo, .float .f64 n.x.hi] rfl, (kb K133 D141).cellsL 0 [.float .f64 p0.lo, .float .f64 p0.hi] rfl, (kb K134 D141).cellsL 0 [.float .f64 p0.lo, .float .f64 p0.hi] rfl, (kb K135 D141).cellsL 0 [.float .f64 p5.lo, .float .f64 p5.hi] rfl, (kb K136 D141).cellsL 0 [.float .f64 p7.lo, .float .f64 p7.hi] rfl⟩
 refine tke 0 (bm 20 1) hS142 ?_
 refine tke 1 (bm 20 3) hS142 ?_
 refine tkq 2 (bm 20 7) hS142 ?_
 refine tke 3 (bm 20 15) hS142 ?_
 refine tke 6 (bm 20 79) hS142 ?_
 refine tke 9 (bm 20 591) hS142 ?_
 refine tke 10 (bm 20 1615) hS142 ?_
 refine tke 12 (bm 20 5711) hS142 ?_
 refine tkq 13 (bm 20 13903) hS142 ?_
 refine tke 14 (bm 20 30287) hS142 ?_
 have HS153 := Lib.hid (show ∀ w', Below V125.heap.size V125 w' → (True ∧ CellsL w' (w.heap.size) 0 [.float .f64 n.x.lo, .float .f64 n.x.hi] ∧ CellsL w' (g4) 0 [.float .f64 p0.lo, .float .f64 p0.hi] ∧ CellsL w' (g27) 0 [.float .f64 p0.lo, .float .f64 p0.hi] ∧ CellsL w' (g80) 0 [.float .f64 p5.lo, .float .f64 p5.hi] ∧ CellsL w' (g122) 0 [.float .f64 p7.lo, .float .f64 p7.hi]) from fun w' b => ⟨trivial, (K130.out.below b K130.out.lt).cellsL 0 [.float .f64 n.x.lo, .float .f64 n.x.hi] rfl, (K133.out.below b K133.out.lt).cellsL 0 [.float .f64 p0.lo, .float .f64 p0.hi] rfl, (K134.out.below b K134.out.lt).cellsL 0 [.float .f64 p0.lo, .float .f64 p0.hi] rfl, (K135.out.below b K135.out.lt).cellsL 0 [.float .f64 p5.lo, .float .f64 p5.hi] rfl, (K136.out.below b K136.out.lt).cellsL 0 [.float .f64 p7.lo, .float .f64 p7.hi] rfl⟩)
 refine wpAnyH_sets2 (N := 20) (stop := 524287) (F := 1) (m := 30287) (R := [4, 5, 7, 8, 11, 15, 16, 17, 18]) (M := [30287, 30303, 292431, 30335, 292447, 30463, 292479, 30719, 292607, 32767, 292863, 65535, 294911, 131071, 327679, 262143, 393215, 524287]) (fun i => if i = 4 then 8 else if i = 5 then 18 else if i = 7 then 96 else if i = 8 then 129 else if i = 11 then 1792 else if i = 15 then 22528 else if i = 16 then 32768 else if i = 17 then 67840 else if i = 18 then 0 else 0) (fun a0 m a w9 => ∃ (v4 v5 v7 v8 v11 v15 v16 v17 p18_ : Value) (g18_ : Nat), a = (((((((((a0.put (some 42) v4).put (some 43) v5).put (some 45) v7).put (some 46) v8).put (some 49) v11).put (some 53) v15).put (some 54) v16).put (some 55) v17).put (some 11) p18_) ∧ Below V125.heap.size V125 w9 ∧ (m.testBit 4 = true → v4 = Value.agg #[.float .f64 p8.lo, .float .f64 p8.hi]) ∧ (m.testBit 5 = true → v5 = Value.agg #[.float .f64 p9.lo, .float .f64 p9.hi]) ∧ (m.testBit 7 = true → v7 = Value.agg #[.float .f64 p10.lo, .float .f64 p10.hi]) ∧ (m.testBit 8 = true → v8 = Value.agg #[.float .f64 p11.lo, .float .f64 p11.hi]) ∧ (m.testBit 11 = true → v11 = Value.agg #[.float .f64 p12.lo, .float .f64 p12.hi]) ∧ (m.testBit 15 = true → v15 = Value.agg #[.float .f64 p13.lo, .float .f64 p13.hi]) ∧ (m.testBit 16 = true → v16 = Value.agg #[.float .f64 p14.lo, .float .f64 p14.hi]) ∧ (m.testBit 17 = true → v17 = Value.agg #[.float .f64 p11.lo, .float .f64 p11.hi, .float .f64 p12.lo, .float .f64 p12.hi, .float .f64 p14.lo, .float .f64 p14.hi]) ∧ (m.testBit 18 = true → p18_ = .pointer (some ⟨g18_, 0, none⟩) ∧ Blk w9 g18_ 26 #[.float .f64 0, .float .f64 0, .float .f64 0, .float .f64 0, .float .f64 0, .float .f64 0] ∧ V125.heap.size ≤ g18_)) (by kernel_rfl) (by kernel_rfl) (by kernel_rfl) (by kernel_rfl) ?st11 ?sp11 ?re11
 case st11 =>
   exact ⟨undef, undef, undef, undef, undef, undef, undef, undef, undef, 0, by go_simp, D141.out, fun h => absurd h (by decide), fun h => absurd h (by decide), fun h => absurd h (by decide), fun h => absurd h (by decide), fun h => absurd h (by decide), fun h => absurd h (by decide), fun h => absurd h (by decide), fun h => absurd h (by decide), fun h => absurd h (by decide)⟩
 case sp11 =>
   intro m a' w9 i hi hm hd hJ
   obtain ⟨v4, v5, v7, v8, v11, v15, v16, v17, p18_, g18_, rfl, hb0, cl4, cl5, cl7, cl8, cl11, cl15, cl16, cl17, ql18⟩ := hJ
   have CL4 := Lib.hid cl4
   have CL5 := Lib.hid cl5
   have CL7 := Lib.hid cl7
   have CL8 := Lib.hid cl8
   have CL11 := Lib.hid cl11
   have CL15 := Lib.hid cl15
   have CL16 := Lib.hid cl16
   have CL17 := Lib.hid cl17
   have QL18 := Lib.hid ql18
   have HB0 := Lib.hid hb0
   clear cl4 cl5 cl7 cl8 cl11 cl15 cl16 cl17 ql18 hb0 hS142
   simp only [List.mem_cons, List.not_mem_nil, or_false] at hi
   rcases hi with rfl | rfl | rfl | rfl | rfl | rfl | rfl | rfl | rfl
   · refine wpOp_at rfl (by kernel_rfl) (fun K hK => ?_)
     have hd := fun j => @tb_of _ _ j hd
     go_simp
     go_at_call 76
     refine (C8.out _).mono ?_
     rintro r w10 ⟨rfl, hb⟩
     dsimp only
     have hb1 := below_step HB0.out hb
     exact hK _ _ ⟨HS153.out _ hb1, _, v5, v7, v8, v11, v15, v16, v17, p18_, g18_, by go_simp, hb1, fun _ => rfl, fun h => CL5.out (tn h), fun h => CL7.out (tn h), fun h => CL8.out (tn h), fun h => CL11.out (tn h), fun h => CL15.out (tn h), fun h => CL16.out (tn h), fun h => CL17.out (tn h), fun h => ⟨(QL18.out (tn h)).1, (QL18.out (tn h)).2.1.below hb (QL18.out (tn h)).2.1.lt, (QL18.out (tn h)).2.2⟩⟩
   · refine wpOp_at rfl (by kernel_rfl) (fun K hK => ?_)
     have hd := fun j => @tb_of _ _ j hd
     obtain rfl := CL4.out (hd _ (by decide))
     go_simp
     go_at_call 75
     refine (C9.out _).mono ?_
     rintro r w10 ⟨rfl, hb⟩
     dsimp only
     have hb1 := below_step HB0.out hb
     exact hK _ _ ⟨HS153.out _ hb1, _, _, v7, v8, v11, v15, v16, v17, p18_, g18_, by go_simp, hb1, fun _ => rfl, fun _ => rfl, fun h => CL7.out (tn h), fun h => CL8.out (tn h), fun h => CL11.out (tn h), fun h => CL15.out (tn h), fun h => CL16.out (tn h), fun h => CL17.out (tn h), fun h => ⟨(QL18.out (tn h)).1, (QL18.out (tn h)).2.1.below hb (QL18.out (tn h)).2.1.lt, (QL18.out (tn h)).2.2⟩⟩
   · refine wpOp_at rfl (by kernel_rfl) (fun K hK => ?_)
     have hd := fun j => @tb_of _ _ j hd
     obtain rfl := CL5.out (hd _ (by decide))
     go_simp
     go_at_call 75
     refine (C10.out _).mono ?_
     rintro r w10 ⟨rfl, hb⟩
     dsimp only
     have hb1 := below_step HB0.out hb
     exact hK _ _ ⟨HS153.out _ hb1, v4, _, _, v8, v11, v15, v16, v17, p18_, g18_, by go_simp, hb1, fun h => CL4.out (tn h), fun _ => rfl, fun _ => rfl, fun h => CL8.out (tn h), fun h => CL11.out (tn h), fun h => CL15.out (tn h), fun h => CL16.out (tn h), fun h => CL17.out (tn h), fun h => ⟨(QL18.out (tn h)).1, (QL18.out (tn h)).2.1.below hb (QL18.out (tn h)).2.1.lt, (QL18.out (tn h)).2.2⟩⟩
   · refine wpOp_at rfl (by kernel_rfl) (fun K hK => ?_)
     have hd := fun j => @tb_of _ _ j hd
     obtain rfl := CL7.out (hd _ (by decide))
     go_simp
     go_at_call 74
     refine (C11.out _).mono ?_
     rintro r w10 ⟨rfl, hb⟩
     dsimp only
     have hb1 := below_step HB0.out hb
     exact hK _ _ ⟨HS153.out _ hb1, v4, v5, _, _, v11, v15, v16, v17, p18_, g18_, by go_simp, hb1, fun h => CL4.out (tn h), fun h => CL5.out (tn h), fun _ => rfl, fun _ => rfl, fun h => CL11.out (tn h), fun h => CL15.out (tn h), fun h => CL16.out (tn h), fun h => CL17.out (tn h), fun h => ⟨(QL18.out (tn h)).1, (QL18.out (tn h)).2.1.below hb (QL18.out (tn h)).2.1.lt, (QL18.out (tn h)).2.2⟩⟩
   · refine wpOp_at rfl (by kernel_rfl) (fun K hK => ?_)
     have hd := fun j => @tb_of _ _ j hd
     obtain rfl := CL8.out (hd _ (by decide))
     go_simp
     go_at_call 75
     refine (C12.out _).mono ?_
     rintro r w10 ⟨rfl, hb⟩
     dsimp only
     have hb1 := below_step HB0.out hb
     exact hK _ _ ⟨HS153.out _ hb1, v4, v5, v7, _, _, v15, v16, v17, p18_, g18_, by go_simp, hb1, fun h => CL4.out (tn h), fun h => CL5.out (tn h), fun h => CL7.out (tn h), fun _ => rfl, fun _ => rfl, fun h => CL15.out (tn h), fun h => CL16.out (tn h), fun h => CL17.out (tn h), fun h => ⟨(QL18.out (tn h)).1, (QL18.out (tn h)).2.1.below hb (QL18.out (tn h)).2.1.lt, (QL18.out (tn h)).2.2⟩⟩
   · refine wpOp_at rfl (by kernel_rfl) (fun K hK => ?_)
     have hd := fun j => @tb_of _ _ j hd
     obtain rfl := CL11.out (hd _ (by decide))
     go_simp
     go_at_call 75
     refine (C13.out _).mono ?_
     rintro r w10 ⟨rfl, hb⟩
     dsimp only
     have hb1 := below_step HB0.out hb
     exact hK _ _ ⟨HS153.out _ hb1, v4, v5, v7, v8, _, _, v16, v17, p18_, g18_, by go_simp, hb1, fun h => CL4.out (tn h), fun h => CL5.out (tn h), fun h => CL7.out (tn h), fun h => CL8.out (tn h), fun _ => rfl, fun _ => rfl, fun h => CL16.out (tn h), fun h => CL17.out (tn h), fun h => ⟨(QL18.out (tn h)).1, (QL18.out (tn h)).2.1.below hb (QL18.out (tn h)).2.1.lt, (QL18.out (tn h)).2.2⟩⟩
   · refine wpOp_at rfl (by kernel_rfl) (fun K hK => ?_)
     have hd := fun j => @tb_of _ _ j hd
     obtain rfl := CL15.out (hd _ (by decide))
     go_simp
     go_at_call 72
     refine (C14.out _).mono ?_
     rintro r w10 ⟨rfl, hb⟩
     dsimp only
     have hb1 := below_step HB0.out hb
     exact hK _ _ ⟨HS153.out _ hb1, v4, v5, v7, v8, v11, _, _, v17, p18_, g18_, by go_simp, hb1, fun h => CL4.out (tn h), fun h => CL5.out (tn h), fun h => CL7.out (tn h), fun h => CL8.out (tn h), fun h => CL11.out (tn h), fun _ => rfl, fun _ => rfl, fun h => CL17.out (tn h), fun h => ⟨(QL18.out (tn h)).1, (QL18.out (tn h)).2.1.below hb (QL18.out (tn h)).2.1.lt, (QL18.out (tn h)).2.2⟩⟩
   · refine wpOp_at rfl (by kernel_rfl) (fun K hK => ?_)
     have hd := fun j => @tb_of _ _ j hd
     obtain rfl := CL8.out (hd _ (by decide))
     obtain rfl := CL11.out (hd _ (by decide))
     obtain rfl := CL16.out (hd _ (by decide))
     have hb1 := HB0.out
     go_simp
     exact hK _ _ ⟨HS153.out _ hb1, v4, v5, v7, _, _, v15, _, _, p18_, g18_, by go_simp, hb1, fun h => CL4.out (tn h), fun h => CL5.out (tn h), fun h => CL7.out (tn h), fun _ => rfl, fun _ => rfl, fun h => CL15.out (tn h), fun _ => rfl, fun _ => rfl, fun h => ⟨(QL18.out (tn h)).1, (QL18.out (tn h)).2.1, (QL18.out (tn h)).2.2⟩⟩
   · refine wpOp_at rfl (by kernel_rfl) (fun K hK => ?_)
     have hd := fun j => @tb_of _ _ j hd
     go_simp
     have hb1 := below_more HB0.out (.cells #[.float .f64 0, .float .f64 0, .float .f64 0, .float .f64 0, .float .f64 0, .float .f64 0] 26)
     exact hK _ _ ⟨HS153.out _ hb1, v4, v5, v7, v8, v11, v15, v16, v17, .pointer (some ⟨w9.heap.size, 0, none⟩), w9.heap.size, by go_simp, hb1, fun h => CL4.out (tn h), fun h => CL5.out (tn h), fun h => CL7.out (tn h), fun h => CL8.out (tn h), fun h => CL11.out (tn h), fun h => CL15.out (tn h), fun h => CL16.out (tn h), fun h => CL17.out (tn h), fun _ => ⟨rfl, Blk.new_at _ _ _ rfl, HB0.out.size⟩⟩
 clear hS142 D141 HS153
 intro a' W170 hJ
 obtain ⟨v4, v5, v7, v8, v11, v15, v16, v17, p18_, g171, rfl, hb0, cl4, cl5, cl7, cl8, cl11, cl15, cl16, cl17, ql18⟩ := hJ
 obtain rfl := cl4 (by decide)
 obtain rfl := cl5 (by decide)
 obtain rfl := cl7 (by decide)
 obtain rfl := cl8 (by decide)
 obtain rfl := cl11 (by decide)
 obtain rfl := cl15 (by decide)
 obtain rfl := cl16 (by decide)
 obtain rfl := cl17 (by decide)
 obtain ⟨rfl, kk18, ll18⟩ := ql18 (by decide)
 have D156 := Lib.hid hb0
 clear hb0
 refine wpAnyH_frame (a' := ?frq155) ?feq155 ?fgq155
 case feq155 => (go_simp; try with_reducible rfl)
 have K158 := Lib.hid ((kb K130 D156) : Blk W170 (w.heap.size) 26 (vc n))
 have K159 := Lib.hid ((kb K131 D156) : Blk W170 (w.heap.size + 1) 26 #[.float .f64 0, .float .f64 0, .float .f64 0, .float .f64 0, .float .f64 0, .float .f64 0])
 have K160 := Lib.hid ((kb K132 D156) : Blk W170 (w.heap.size + 1 + 1) 26 #[.float .f64 0, .float .f64 0, .float .f64 0, .float .f64 0, .float .f64 0, .float .f64 0])
 have K161 := Lib.hid ((kb K133 D156) : Blk W170 (g4) 24 #[.float .f64 p0.lo, .float .f64 p0.hi])
 have K162 := Lib.hid ((kb K134 D156) : Blk W170 (g27) 24 #[.float .f64 p0.lo, .float .f64 p0.hi])
 have K163 := Lib.hid ((kb K135 D156) : Blk W170 (g80) 24 #[.float .f64 p5.lo, .float .f64 p5.hi])
 have K164 := Lib.hid ((kb K136 D156) : Blk W170 (g122) 24 #[.float .f64 p7.lo, .float .f64 p7.hi])
 have K165 := Lib.hid kk18
 clear kk18
 have HB168 := Lib.hid (below_step HB137.out D156.out)
 have Y167 := Lib.hid (show w.heap.size ≤ g171 ∧ w.heap.size < g171 ∧ w.heap.size + 1 < g171 ∧ w.heap.size + 1 + 1 < g171 ∧ g4 < g171 ∧ g27 < g171 ∧ g80 < g171 ∧ g122 < g171 from ⟨Nat.le_trans HB137.out.size ll18, Nat.lt_of_lt_of_le K130.out.lt ll18, Nat.lt_of_lt_of_le K131.out.lt ll18, Nat.lt_of_lt_of_le K132.out.lt ll18, Nat.lt_of_lt_of_le K133.out.lt ll18, Nat.lt_of_lt_of_le K134.out.lt ll18, Nat.lt_of_lt_of_le K135.out.lt ll18, Nat.lt_of_lt_of_le K136.out.lt ll18⟩)
 have Y169 := Lib.hid (And.intro Y120.out Y167.out)
 clear Y120 Y167
 clear K130 K131 K132 K133 K134 K135 K136 ll18 HB137
 have D172 := Lib.hid (Below.refl W170.heap.size W170)
 clear D156
 have hS173 : True ∧ CellsL W170 (w.heap.size) 0 [.float .f64 n.x.lo, .float .f64 n.x.hi] ∧ CellsL W170 (g4) 0 [.float .f64 p0.lo, .float .f64 p0.hi] ∧ CellsL W170 (g27) 0 [.float .f64 p0.lo, .float .f64 p0.hi] ∧ CellsL W170 (g80) 0 [.float .f64 p5.lo, .float .f64 p5.hi] ∧ CellsL W170 (g122) 0 [.float .f64 p7.lo, .float .f64 p7.hi] := ⟨trivial, (kb K158 D172).cellsL 0 [.float .f64 n.x.lo, .float .f64 n.x.hi] rfl, (kb K161 D172).cellsL 0 [.float .f64 p0.lo, .float .f64 p0.hi] rfl, (kb K162 D172).cellsL 0 [.float .f64 p0.lo, .float .f64 p0.hi] rfl, (kb K163 D172).cellsL 0 [.float .f64 p5.lo, .float .f64 p5.hi] rfl, (kb K164 D172).cellsL 0 [.float .f64 p7.lo, .float .f64 p7.hi] rfl⟩
 refine wpAnyH_oneM (i := 19) (l' := bm 20 1048575) rfl (by kernel_rfl) (by kernel_rfl) (by kernel_rfl) (fun K hK => ?_)
 have f176 := (kb K165 D172)
 obtain ⟨V174, hV175⟩ : ∃ V, World.setRow W170 (g171) #[.float .f64 p11.lo, .float .f64 p11.hi, .float .f64 p12.lo, .float .f64 p12.hi, .float .f64 p14.lo, .float .f64 p14.hi] = V := ⟨_, rfl⟩
 have K177 := kfr hV175 K158 D172 (by have := Y169.out; omega)
 have K178 := kfr hV175 K159 D172 (by have := Y169.out; omega)
 have K179 := kfr hV175 K160 D172 (by have := Y169.out; omega)
 have K180 := kfr hV175 K161 D172 (by have := Y169.out; omega)
 have K181 := kfr hV175 K162 D172 (by have := Y169.out; omega)
 have K182 := kfr hV175 K163 D172 (by have := Y169.out; omega)
 have K183 := kfr hV175 K164 D172 (by have := Y169.out; omega)
 have K184 := ksr hV175 K165 D172
 have HB185 := hbr hV175 HB168 D172 (by have := Y169.out; omega)
 have D186 := dr V174
 clear K158 K159 K160 K161 K162 K163 K164 K165 HB168 D172
 refine wp_store_row 26 _ _ rfl (g171) #[.float .f64 p11.lo, .float .f64 p11.hi, .float .f64 p12.lo, .float .f64 p12.hi, .float .f64 p14.lo, .float .f64 p14.hi] rfl rfl _ _ f176 (by rw [info_V3]; rfl) rfl (by kernel_rfl) ?_
 rw [hV175]
 go_simp
 clear hV175 f176
 have hS187 : True ∧ CellsL V174 (w.heap.size) 0 [.float .f64 n.x.lo, .float .f64 n.x.hi] ∧ CellsL V174 (g4) 0 [.float .f64 p0.lo, .float .f64 p0.hi] ∧ CellsL V174 (g27) 0 [.float .f64 p0.lo, .float .f64 p0.hi] ∧ CellsL V174 (g80) 0 [.float .f64 p5.lo, .float .f64 p5.hi] ∧ CellsL V174 (g122) 0 [.float .f64 p7.lo, .float .f64 p7.hi] := ⟨trivial, (kb K177 D186).cellsL 0 [.float .f64 n.x.lo, .float .f64 n.x.hi] rfl, (kb K180 D186).cellsL 0 [.float .f64 p0.lo, .float .f64 p0.hi] rfl, (kb K181 D186).cellsL 0 [.float .f64 p0.lo, .float .f64 p0.hi] rfl, (kb K182 D186).cellsL 0 [.float .f64 p5.lo, .float .f64 p5.hi] rfl, (kb K183 D186).cellsL 0 [.float .f64 p7.lo, .float .f64 p7.hi] rfl⟩
 refine hK _ _ hS187 ?_
 clear hK K hS173
 refine wpAnyH_done (by kernel_rfl) ?_ _
 clear hS187
 go_wp2_with fail
 refine wp_region_held (S := (fun w' => True ∧ CellsL w' (w.heap.size) 2 [.float .f64 n.y.lo, .float .f64 n.y.hi] ∧ CellsL w' (g27) 0 [.float .f64 p0.lo, .float .f64 p0.hi] ∧ CellsL w' (g80) 0 [.float .f64 p5.lo, .float .f64 p5.hi] ∧ CellsL w' (g122) 0 [.float .f64 p7.lo, .float .f64 p7.hi])) (by kernel_rfl) ?_
 change wpAnyH _ _ _ _ _ _ _ _ (World.drew _)
 obtain ⟨wd188, hwd⟩ : ∃ x, x = World.drew V174 := ⟨_, rfl⟩
 rw [← hwd]
 have D189 := Lib.hid (hwd ▸ Below.drew D186.out : Below V174.heap.size V174 wd188)
 clear D186 hwd
 have hS190 : True ∧ CellsL wd188 (w.heap.size) 2 [.float .f64 n.y.lo, .float .f64 n.y.hi] ∧ CellsL wd188 (g27) 0 [.float .f64 p0.lo, .float .f64 p0.hi] ∧ CellsL wd188 (g80) 0 [.float .f64 p5.lo, .float .f64 p5.hi] ∧ CellsL wd188 (g122) 0 [.float .f64 p7.lo, .float .f64 p7.hi] := ⟨trivial, (kb K177 D189).cellsL 2 [.float .f64 n.y.lo, .float .f64 n.y.hi] rfl, (kb K181 D189).cellsL 0 [.float .f64 p0.lo, .float .f64 p0.hi] rfl, (kb K182 D189).cellsL 0 [.float .f64 p5.lo, .float .f64 p5.hi] rfl, (kb K183 D189).cellsL 0 [.float .f64 p7.lo, .float .f64 p7.hi] rfl⟩
 refine tke 0 (bm 14 1) hS190 ?_
 refine tke 1 (bm 14 3) hS190 ?_
 refine tkq 2 (bm 14 7) hS190 ?_
 refine tke 3 (bm 14 15) hS190 ?_
 refine tke 5 (bm 14 47) hS190 ?_
 refine tkq 8 (bm 14 303) hS190 ?_
 refine tke 9 (bm 14 815) hS190 ?_
 have HS198 := Lib.hid (show ∀ w', Below V174.heap.size V174 w' → (True ∧ CellsL w' (w.heap.size) 2 [.float .f64 n.y.lo, .float .f64 n.y.hi] ∧ CellsL w' (g27) 0 [.float .f64 p0.lo, .float .f64 p0.hi] ∧ CellsL w' (g80) 0 [.float .f64 p5.lo, .float .f64 p5.hi] ∧ CellsL w' (g122) 0 [.float .f64 p7.lo, .float .f64 p7.hi]) from fun w' b => ⟨trivial, (K177.out.below b K177.out.lt).cellsL 2 [.float .f64 n.y.lo, .float .f64 n.y.hi] rfl, (K181.out.below b K181.out.lt).cellsL 0 [.float .f64 p0.lo, .float .f64 p0.hi] rfl, (K182.out.below b K182.out.lt).cellsL 0 [.float .f64 p5.lo, .float .f64 p5.hi] rfl, (K183.out.below b K183.out.lt).cellsL 0 [.float .f64 p7.lo, .float .f64 p7.hi] rfl⟩)
 refine wpAnyH_sets2 (N := 14) (stop := 8191) (F := 1) (m := 815) (R := [4, 6, 7, 10, 11, 12]) (M := [815, 831, 4911, 895, 4927, 1023, 4991, 2047, 5119, 4095, 6143, 8191]) (fun i => if i = 4 then 8 else if i = 6 then 48 else if i = 7 then 66 else if i = 10 then 640 else if i = 11 then 1153 else if i = 12 then 0 else 0) (fun a0 m a w9 => ∃ (v4 v6 v7 v10 v11 p12_ : Value) (g12_ : Nat), a = ((((((a0.put (some 60) v4).put (some 62) v6).put (some 63) v7).put (some 66) v10).put (some 67) v11).put (some 12) p12_) ∧ Below V174.heap.size V174 w9 ∧ (m.testBit 4 = true → v4 = Value.agg #[.float .f64 p15.lo, .float .f64 p15.hi]) ∧ (m.testBit 6 = true → v6 = Value.agg #[.float .f64 p16.lo, .float .f64 p16.hi]) ∧ (m.testBit 7 = true → v7 = Value.agg #[.float .f64 p17.lo, .float .f64 p17.hi]) ∧ (m.testBit 10 = true → v10 = Value.agg #[.float .f64 p18.lo, .float .f64 p18.hi]) ∧ (m.testBit 11 = true → v11 = Value.agg #[.float .f64 p7.lo, .float .f64 p7.hi, .float .f64 p17.lo, .float .f64 p17.hi, .float .f64 p18.lo, .float .f64 p18.hi]) ∧ (m.testBit 12 = true → p12_ = .pointer (some ⟨g12_, 0, none⟩) ∧ Blk w9 g12_ 26 #[.float .f64 0, .float .f64 0, .float .f64 0, .float .f64 0, .float .f64 0, .float .f64 0] ∧ V174.heap.size ≤ g12_)) (by kernel_rfl) (by kernel_rfl) (by kernel_rfl) (by kernel_rfl) ?st12 ?sp12 ?re12
 case st12 =>
   exact ⟨undef, undef, undef, undef, undef, undef, 0, by go_simp, D189.out, fun h => absurd h (by decide), fun h => absurd h (by decide), fun h => absurd h (by decide), fun h => absurd h (by decide), fun h => absurd h (by decide), fun h => absurd h (by decide)⟩
 case sp12 =>
   intro m a' w9 i hi hm hd hJ
   obtain ⟨v4, v6, v7, v10, v11, p12_, g12_, rfl, hb0, cl4, cl6, cl7, cl10, cl11, ql12⟩ := hJ
   have CL4 := Lib.hid cl4
   have CL6 := Lib.hid cl6
   have CL7 := Lib.hid cl7
   have CL10 := Lib.hid cl10
   have CL11 := Lib.hid cl11
   have QL12 := Lib.hid ql12
   have HB0 := Lib.hid hb0
   clear cl4 cl6 cl7 cl10 cl11 ql12 hb0 hS190
   simp only [List.mem_cons, List.not_mem_nil, or_false] at hi
   rcases hi with rfl | rfl | rfl | rfl | rfl | rfl
   · refine wpOp_at rfl (by kernel_rfl) (fun K hK => ?_)
     have hd := fun j => @tb_of _ _ j hd
     go_simp
     go_at_call 76
     refine (C15.out _).mono ?_
     rintro r w10 ⟨rfl, hb⟩
     dsimp only
     have hb1 := below_step HB0.out hb
     exact hK _ _ ⟨HS198.out _ hb1, _, v6, v7, v10, v11, p12_, g12_, by go_simp, hb1, fun _ => rfl, fun h => CL6.out (tn h), fun h => CL7.out (tn h), fun h => CL10.out (tn h), fun h => CL11.out (tn h), fun h => ⟨(QL12.out (tn h)).1, (QL12.out (tn h)).2.1.below hb (QL12.out (tn h)).2.1.lt, (QL12.out (tn h)).2.2⟩⟩
   · refine wpOp_at rfl (by kernel_rfl) (fun K hK => ?_)
     have hd := fun j => @tb_of _ _ j hd
     obtain rfl := CL4.out (hd _ (by decide))
     go_simp
     go_at_call 75
     refine (C16.out _).mono ?_
     rintro r w10 ⟨rfl, hb⟩
     dsimp only
     have hb1 := below_step HB0.out hb
     exact hK _ _ ⟨HS198.out _ hb1, _, _, v7, v10, v11, p12_, g12_, by go_simp, hb1, fun _ => rfl, fun _ => rfl, fun h => CL7.out (tn h), fun h => CL10.out (tn h), fun h => CL11.out (tn h), fun h => ⟨(QL12.out (tn h)).1, (QL12.out (tn h)).2.1.below hb (QL12.out (tn h)).2.1.lt, (QL12.out (tn h)).2.2⟩⟩
   · refine wpOp_at rfl (by kernel_rfl) (fun K hK => ?_)
     have hd := fun j => @tb_of _ _ j hd
     obtain rfl := CL6.out (hd _ (by decide))
     go_simp
     go_at_call 74
     refine (C17.out _).mono ?_
     rintro r w10 ⟨rfl, hb⟩
     dsimp only
     have hb1 := below_step HB0.out hb
     exact hK _ _ ⟨HS198.out _ hb1, v4, _, _, v10, v11, p12_, g12_, by go_simp, hb1, fun h => CL4.out (tn h), fun _ => rfl, fun _ => rfl, fun h => CL10.out (tn h), fun h => CL11.out (tn h), fun h => ⟨(QL12.out (tn h)).1, (QL12.out (tn h)).2.1.below hb (QL12.out (tn h)).2.1.lt, (QL12.out (tn h)).2.2⟩⟩
   · refine wpOp_at rfl (by kernel_rfl) (fun K hK => ?_)
     have hd := fun j => @tb_of _ _ j hd
     obtain rfl := CL7.out (hd _ (by decide))
     go_simp
     go_at_call 72
     refine (C18.out _).mono ?_
     rintro r w10 ⟨rfl, hb⟩
     dsimp only
     have hb1 := below_step HB0.out hb
     exact hK _ _ ⟨HS198.out _ hb1, v4, v6, _, _, v11, p12_, g12_, by go_simp, hb1, fun h => CL4.out (tn h), fun h => CL6.out (tn h), fun _ => rfl, fun _ => rfl, fun h => CL11.out (tn h), fun h => ⟨(QL12.out (tn h)).1, (QL12.out (tn h)).2.1.below hb (QL12.out (tn h)).2.1.lt, (QL12.out (tn h)).2.2⟩⟩
   · refine wpOp_at rfl (by kernel_rfl) (fun K hK => ?_)
     have hd := fun j => @tb_of _ _ j hd
     obtain rfl := CL7.out (hd _ (by decide))
     obtain rfl := CL10.out (hd _ (by decide))
     have hb1 := HB0.out
     go_simp
     exact hK _ _ ⟨HS198.out _ hb1, v4, v6, _, _, _, p12_, g12_, by go_simp, hb1, fun h => CL4.out (tn h), fun h => CL6.out (tn h), fun _ => rfl, fun _ => rfl, fun _ => rfl, fun h => ⟨(QL12.out (tn h)).1, (QL12.out (tn h)).2.1, (QL12.out (tn h)).2.2⟩⟩
   · refine wpOp_at rfl (by kernel_rfl) (fun K hK => ?_)
     have hd := fun j => @tb_of _ _ j hd
     go_simp
     have hb1 := below_more HB0.out (.cells #[.float .f64 0, .float .f64 0, .float .f64 0, .float .f64 0, .float .f64 0, .float .f64 0] 26)
     exact hK _ _ ⟨HS198.out _ hb1, v4, v6, v7, v10, v11, .pointer (some ⟨w9.heap.size, 0, none⟩), w9.heap.size, by go_simp, hb1, fun h => CL4.out (tn h), fun h => CL6.out (tn h), fun h => CL7.out (tn h), fun h => CL10.out (tn h), fun h => CL11.out (tn h), fun _ => ⟨rfl, Blk.new_at _ _ _ rfl, HB0.out.size⟩⟩
 clear hS190 D189 HS198
 intro a' W216 hJ
 obtain ⟨v4, v6, v7, v10, v11, p12_, g217, rfl, hb0, cl4, cl6, cl7, cl10, cl11, ql12⟩ := hJ
 obtain rfl := cl4 (by decide)
 obtain rfl := cl6 (by decide)
 obtain rfl := cl7 (by decide)
 obtain rfl := cl10 (by decide)
 obtain rfl := cl11 (by decide)
 obtain ⟨rfl, kk12, ll12⟩ := ql12 (by decide)
 have D201 := Lib.hid hb0
 clear hb0
 refine wpAnyH_frame (a' := ?frq200) ?feq200 ?fgq200
 case feq200 => (go_simp; try with_reducible rfl)
 have K203 := Lib.hid ((kb K177 D201) : Blk W216 (w.heap.size) 26 (vc n))
 have K204 := Lib.hid ((kb K178 D201) : Blk W216 (w.heap.size + 1) 26 #[.float .f64 0, .float .f64 0, .float .f64 0, .float .f64 0, .float .f64 0, .float .f64 0])
 have K205 := Lib.hid ((kb K179 D201) : Blk W216 (w.heap.size + 1 + 1) 26 #[.float .f64 0, .float .f64 0, .float .f64 0, .float .f64 0, .float .f64 0, .float .f64 0])
 have K206 := Lib.hid ((kb K180 D201) : Blk W216 (g4) 24 #[.float .f64 p0.lo, .float .f64 p0.hi])
 have K207 := Lib.hid ((kb K181 D201) : Blk W216 (g27) 24 #[.float .f64 p0.lo, .float .f64 p0.hi])
 have K208 := Lib.hid ((kb K182 D201) : Blk W216 (g80) 24 #[.float .f64 p5.lo, .float .f64 p5.hi])
 have K209 := Lib.hid ((kb K183 D201) : Blk W216 (g122) 24 #[.float .f64 p7.lo, .float .f64 p7.hi])
 have K210 := Lib.hid ((kb K184 D201) : Blk W216 (g171) 26 #[.float .f64 p11.lo, .float .f64 p11.hi, .float .f64 p12.lo, .float .f64 p12.hi, .float .f64 p14.lo, .float .f64 p14.hi])
 have K211 := Lib.hid kk12
 clear kk12
 have HB214 := Lib.hid (below_step HB185.out D201.out)
 have Y213 := Lib.hid (show w.heap.size ≤ g217 ∧ w.heap.size < g217 ∧ w.heap.size + 1 < g217 ∧ w.heap.size + 1 + 1 < g217 ∧ g4 < g217 ∧ g27 < g217 ∧ g80 < g217 ∧ g122 < g217 ∧ g171 < g217 from ⟨Nat.le_trans HB185.out.size ll12, Nat.lt_of_lt_of_le K177.out.lt ll12, Nat.lt_of_lt_of_le K178.out.lt ll12, Nat.lt_of_lt_of_le K179.out.lt ll12, Nat.lt_of_lt_of_le K180.out.lt ll12, Nat.lt_of_lt_of_le K181.out.lt ll12, Nat.lt_of_lt_of_le K182.out.lt ll12, Nat.lt_of_lt_of_le K183.out.lt ll12, Nat.lt_of_lt_of_le K184.out.lt ll12⟩)
 have Y215 := Lib.hid (And.intro Y169.out Y213.out)
 clear Y169 Y213
 clear K177 K178 K179 K180 K181 K182 K183 K184 ll12 HB185
 have D218 := Lib.hid (Below.refl W216.heap.size W216)
 clear D201
 have hS219 : True ∧ CellsL W216 (w.heap.size) 2 [.float .f64 n.y.lo, .float .f64 n.y.hi] ∧ CellsL W216 (g27) 0 [.float .f64 p0.lo, .float .f64 p0.hi] ∧ CellsL W216 (g80) 0 [.float .f64 p5.lo, .float .f64 p5.hi] ∧ CellsL W216 (g122) 0 [.float .f64 p7.lo, .float .f64 p7.hi] := ⟨trivial, (kb K203 D218).cellsL 2 [.float .f64 n.y.lo, .float .f64 n.y.hi] rfl, (kb K207 D218).cellsL 0 [.float .f64 p0.lo, .float .f64 p0.hi] rfl, (kb K208 D218).cellsL 0 [.float .f64 p5.lo, .float .f64 p5.hi] rfl, (kb K209 D218).cellsL 0 [.float .f64 p7.lo, .float .f64 p7.hi] rfl⟩
 refine wpAnyH_oneM (i := 13) (l' := bm 14 16383) rfl (by kernel_rfl) (by kernel_rfl) (by kernel_rfl) (fun K hK => ?_)
 have f222 := (kb K211 D218)
 obtain ⟨V220, hV221⟩ : ∃ V, World.setRow W216 (g217) #[.float .f64 p7.lo, .float .f64 p7.hi, .float .f64 p17.lo, .float .f64 p17.hi, .float .f64 p18.lo, .float .f64 p18.hi] = V := ⟨_, rfl⟩
 have K223 := kfr hV221 K203 D218 (by have := Y215.out; omega)
 have K224 := kfr hV221 K204 D218 (by have := Y215.out; omega)
 have K225 := kfr hV221 K205 D218 (by have := Y215.out; omega)
 have K226 := kfr hV221 K206 D218 (by have := Y215.out; omega)
 have K227 := kfr hV221 K207 D218 (by have := Y215.out; omega)
 have K228 := kfr hV221 K208 D218 (by have := Y215.out; omega)
 have K229 := kfr hV221 K209 D218 (by have := Y215.out; omega)
 have K230 := kfr hV221 K210 D218 (by have := Y215.out; omega)
 have K231 := ksr hV221 K211 D218
 have HB232 := hbr hV221 HB214 D218 (by have := Y215.out; omega)
 have D233 := dr V220
 clear K203 K204 K205 K206 K207 K208 K209 K210 K211 HB214 D218
 refine wp_store_row 26 _ _ rfl (g217) #[.float .f64 p7.lo, .float .f64 p7.hi, .float .f64 p17.lo, .float .f64 p17.hi, .float .f64 p18.lo, .float .f64 p18.hi] rfl rfl _ _ f222 (by rw [info_V3]; rfl) rfl (by kernel_rfl) ?_
 rw [hV221]
 go_simp
 clear hV221 f222
 have hS234 : True ∧ CellsL V220 (w.heap.size) 2 [.float .f64 n.y.lo, .float .f64 n.y.hi] ∧ CellsL V220 (g27) 0 [.float .f64 p0.lo, .float .f64 p0.hi] ∧ CellsL V220 (g80) 0 [.float .f64 p5.lo, .float .f64 p5.hi] ∧ CellsL V220 (g122) 0 [.float .f64 p7.lo, .float .f64 p7.hi] := ⟨trivial, (kb K223 D233).cellsL 2 [.float .f64 n.y.lo, .float .f64 n.y.hi] rfl, (kb K227 D233).cellsL 0 [.float .f64 p0.lo, .float .f64 p0.hi] rfl, (kb K228 D233).cellsL 0 [.float .f64 p5.lo, .float .f64 p5.hi] rfl, (kb K229 D233).cellsL 0 [.float .f64 p7.lo, .float .f64 p7.hi] rfl⟩
 refine hK _ _ hS234 ?_
 clear hK K hS219
 refine wpAnyH_done (by kernel_rfl) ?_ _
 clear hS234
 go_wp2_with fail
 refine wp_region_held (S := (fun w' => True ∧ Blk w' (g171) 26 #[.float .f64 p11.lo, .float .f64 p11.hi, .float .f64 p12.lo, .float .f64 p12.hi, .float .f64 p14.lo, .float .f64 p14.hi] ∧ Blk w' (g217) 26 #[.float .f64 p7.lo, .float .f64 p7.hi, .float .f64 p17.lo, .float .f64 p17.hi, .float .f64 p18.lo, .float .f64 p18.hi])) (by kernel_rfl) ?_
 change wpAnyH _ _ _ _ _ _ _ _ (World.drew _)
 obtain ⟨wd235, hwd⟩ : ∃ x, x = World.drew V220 := ⟨_, rfl⟩
 rw [← hwd]
 have D236 := Lib.hid (hwd ▸ Below.drew D233.out : Below V220.heap.size V220 wd235)
 clear D233 hwd
 have hS237 : True ∧ Blk wd235 (g171) 26 #[.float .f64 p11.lo, .float .f64 p11.hi, .float .f64 p12.lo, .float .f64 p12.hi, .float .f64 p14.lo, .float .f64 p14.hi] ∧ Blk wd235 (g217) 26 #[.float .f64 p7.lo, .float .f64 p7.hi, .float .f64 p17.lo, .float .f64 p17.hi, .float .f64 p18.lo, .float .f64 p18.hi] := ⟨trivial, (kb K230 D236), (kb K231 D236)⟩
 refine tkL 0 (bm 6 1) ?aq238 rfl (by kernel_rfl) (fun _ _ _ h => h) (by kernel_rfl) rfl rfl (fun _ hS => hS.2.1) (by rw [info_V3]; rfl) Tryz.underlying26 rfl ?pq238 hS237 ?rq238
 case pq238 => (go_simp; try with_reducible rfl)
 refine tkL 1 (bm 6 3) ?aq239 rfl (by kernel_rfl) (fun _ _ _ h => h) (by kernel_rfl) rfl rfl (fun _ hS => hS.2.2) (by rw [info_V3]; rfl) Tryz.underlying26 rfl ?pq239 hS237 ?rq239
 case pq239 => (go_simp; try with_reducible rfl)
 refine tkq 2 (bm 6 7) hS237 ?_
 refine wpAnyH_oneN (i := 3) (l' := bm 6 15) rfl (by kernel_rfl) (by kernel_rfl) (by kernel_rfl) (fun K hK => ?_)
 have f243 := (kb K224 D236)
 obtain ⟨V241, hV242⟩ : ∃ V, World.setRow wd235 (w.heap.size + 1) #[.float .f64 p11.lo, .float .f64 p11.hi, .float .f64 p12.lo, .float .f64 p12.hi, .float .f64 p14.lo, .float .f64 p14.hi] = V := ⟨_, rfl⟩
 have K244 := kfr hV242 K223 D236 (by have := Y215.out; omega)
 have K245 := ksr hV242 K224 D236
 have K246 := kfr hV242 K225 D236 (by have := Y215.out; omega)
 have K247 := kfr hV242 K226 D236 (by have := Y215.out; omega)
 have K248 := kfr hV242 K227 D236 (by have := Y215.out; omega)
 have K249 := kfr hV242 K228 D236 (by have := Y215.out; omega)
 have K250 := kfr hV242 K229 D236 (by have := Y215.out; omega)
 have K251 := kfr hV242 K230 D236 (by have := Y215.out; omega)
 have K252 := kfr hV242 K231 D236 (by have := Y215.out; omega)
 have HB253 := hbr hV242 HB232 D236 (by have := Y215.out; omega)
 have D254 := dr V241
 clear K223 K224 K225 K226 K227 K228 K229 K230 K231 HB232 D236
 refine wp_store_row 26 _ _ rfl (w.heap.size + 1) #[.float .f64 p11.lo, .float .f64 p11.hi, .float .f64 p12.lo, .float .f64 p12.hi, .float .f64 p14.lo, .float .f64 p14.hi] rfl rfl _ _ f243 (by rw [info_V3]; rfl) rfl (by kernel_rfl) ?_
 rw [hV242]
 go_simp
 clear hV242 f243
 have hS255 : True ∧ Blk V241 (g171) 26 #[.float .f64 p11.lo, .float .f64 p11.hi, .float .f64 p12.lo, .float .f64 p12.hi, .float .f64 p14.lo, .float .f64 p14.hi] ∧ Blk V241 (g217) 26 #[.float .f64 p7.lo, .float .f64 p7.hi, .float .f64 p17.lo, .float .f64 p17.hi, .float .f64 p18.lo, .float .f64 p18.hi] := ⟨trivial, (kb K251 D254), (kb K252 D254)⟩
 refine hK _ _ hS255 ?_
 clear hK K hS237
 refine wpAnyH_oneN (i := 4) (l' := bm 6 31) rfl (by kernel_rfl) (by kernel_rfl) (by kernel_rfl) (fun K hK => ?_)
 have f258 := (kb K246 D254)
 obtain ⟨V256, hV257⟩ : ∃ V, World.setRow V241 (w.heap.size + 1 + 1) #[.float .f64 p7.lo, .float .f64 p7.hi, .float .f64 p17.lo, .float .f64 p17.hi, .float .f64 p18.lo, .float .f64 p18.hi] = V := ⟨_, rfl⟩
 have K259 := kfr hV257 K244 D254 (by have := Y215.out; omega)
 have K260 := kfr hV257 K245 D254 (by have := Y215.out; omega)
 have K261 := ksr hV257 K246 D254
 have K262 := kfr hV257 K247 D254 (by have := Y215.out; omega)
 have K263 := kfr hV257 K248 D254 (by have := Y215.out; omega)
 have K264 := kfr hV257 K249 D254 (by have := Y215.out; omega)
 have K265 := kfr hV257 K250 D254 (by have := Y215.out; omega)
 have K266 := kfr hV257 K251 D254 (by have := Y215.out; omega)
 have K267 := kfr hV257 K252 D254 (by have := Y215.out; omega)
 have HB268 := hbr hV257 HB253 D254 (by have := Y215.out; omega)
 have D269 := dr V256
 clear K244 K245 K246 K247 K248 K249 K250 K251 K252 HB253 D254
 refine wp_store_row 26 _ _ rfl (w.heap.size + 1 + 1) #[.float .f64 p7.lo, .float .f64 p7.hi, .float .f64 p17.lo, .float .f64 p17.hi, .float .f64 p18.lo, .float .f64 p18.hi] rfl rfl _ _ f258 (by rw [info_V3]; rfl) rfl (by kernel_rfl) ?_
 rw [hV257]
 go_simp
 clear hV257 f258
 have hS270 : True ∧ Blk V256 (g171) 26 #[.float .f64 p11.lo, .float .f64 p11.hi, .float .f64 p12.lo, .float .f64 p12.hi, .float .f64 p14.lo, .float .f64 p14.hi] ∧ Blk V256 (g217) 26 #[.float .f64 p7.lo, .float .f64 p7.hi, .float .f64 p17.lo, .float .f64 p17.hi, .float .f64 p18.lo, .float .f64 p18.hi] := ⟨trivial, (kb K266 D269), (kb K267 D269)⟩
 refine hK _ _ hS270 ?_
 clear hK K hS255
 refine tkq 5 (bm 6 63) hS270 ?_
 refine wpAnyH_done (by kernel_rfl) ?_ _
 clear hS270
 go_wp2_with fail
 (try simp only [Exit.inBlock, Exit.then])
 exact bodyPost_ret (res_cct rfl _ _ (w.heap.size + 1) #[.float .f64 p11.lo, .float .f64 p11.hi, .float .f64 p12.lo, .float .f64 p12.hi, .float .f64 p14.lo, .float .f64 p14.hi] (w.heap.size + 1 + 1) #[.float .f64 p7.lo, .float .f64 p7.hi, .float .f64 p17.lo, .float .f64 p17.hi, .float .f64 p18.lo, .float .f64 p18.hi] rfl (kb K260 D269) (by rw [info_V3]; rfl) Tryz.underlying26 rfl rfl (kb K261 D269) (by rw [info_V3]; rfl) Tryz.underlying26 rfl) rfl ⟨rfl, below_step HB268.out D269.out⟩
theorem rframe_any (n : V3) (w : World) : Calls Tryz.prog 27 #[vval n] w fun r w' => r = .returned (.tuple #[vval (frT (frS n) n), vval (frU (frS n) n), .int .i64 (frQ n : Nat)]) ∧ Below w.heap.size w w' := by
 have h3 : posS (negS n.z) = 1 ∨ posS (negS n.z) = 0 ∨ posS (negS n.z) = 2 := by unfold posS; split <;> (try split) <;> simp
 rcases h3 with h | h | h
 · rw [show frS n = ofS 13830554455654793216 by unfold frS; rw [h]; rfl, show frQ n = 1 by unfold frQ; rw [h]; rfl]; exact rframe_1 n h w
 · rw [show frS n = ofS 4607182418800017408 by unfold frS; rw [h]; rfl, show frQ n = 1 by unfold frQ; rw [h]; rfl]; exact rframe_0 n h w
 · rw [show frS n = ofS 4607182418800017408 by unfold frS; rw [h]; rfl, show frQ n = 2 by unfold frQ; rw [h]; rfl]; exact rframe_2 n h w
end Go.Proofs.YtnljfcebmgifdaaGreat
