/- Shaken: Ue. -/
import Derived.Test.YtnljfcebmgifdaaZRab1
set_option maxRecDepth 100000
set_option maxHeartbeats 8000000
set_option linter.unusedVariables false
set_option linter.unusedSimpArgs false
namespace Go.Proofs.Ytnljfcebmgifdaa
open Go.RowKit Fl
theorem turnA_k0 (c s : Nat) (hc : c < 18446744073709551616) (hs : s < 18446744073709551616) (h1 : 0 < Z (tuL c s).lo) (h2 : (tuL c s).wide = false) (w : World) : Calls Try.prog 13 #[Value.int IntKind.i64 0, .float .f64 c, .float .f64 s] w fun r w' => r = .returned (.tuple #[aval (afTurn0 (divS (ofS c) (tuL c s)) (divS (ofS s) (tuL c s))), .int .i64 0]) ∧ Below w.heap.size w w' := by
 have C0 := Lib.hid (fun w => of_sp c hc w)
 obtain ⟨p0, hp0⟩ : ∃ z_, ofS c = z_ := ⟨_, rfl⟩
 rw [hp0] at C0
 have C1 := Lib.hid (fun w => sqr_sp p0 w)
 obtain ⟨p1, hp1⟩ : ∃ z_, sqrS p0 = z_ := ⟨_, rfl⟩
 rw [hp1] at C1
 have C2 := Lib.hid (fun w => of_sp s hs w)
 obtain ⟨p2, hp2⟩ : ∃ z_, ofS s = z_ := ⟨_, rfl⟩
 rw [hp2] at C2
 have C3 := Lib.hid (fun w => sqr_sp p2 w)
 obtain ⟨p3, hp3⟩ : ∃ z_, sqrS p2 = z_ := ⟨_, rfl⟩
 rw [hp3] at C3
 have C4 := Lib.hid (fun w => add_sp p1 p3 w)
 obtain ⟨p4, hp4⟩ : ∃ z_, addS p1 p3 = z_ := ⟨_, rfl⟩
 rw [hp4] at C4
 have C5 := Lib.hid (fun w => sqrt_sp p4 w)
 obtain ⟨p5, hp5⟩ : ∃ z_, sqrtS p4 = z_ := ⟨_, rfl⟩
 rw [hp5] at C5
 have hl : tuL c s = p5 := by rw [← hp5, ← hp4, ← hp3, ← hp2, ← hp1, ← hp0]; rfl
 rw [hl] at h1 h2
 clear hl
 have e1 : (FloatKind.f64.format.order p5.lo 0 == some .lt || FloatKind.f64.format.order p5.lo 0 == some .eq) = false := by rw [le0_gd p5.vd.l]; exact decide_eq_false (by omega)
 have C6 := Lib.hid (fun w => wide_sp p5 w)
 rw [h2] at C6
 have C7 := Lib.hid (fun w => sameA_any w)
 obtain ⟨p7, hp7⟩ : ∃ z_, afSame = z_ := ⟨_, rfl⟩
 rw [hp7] at C7
 have C8 := Lib.hid (fun w => of_sp c hc w)
 rw [hp0] at C8
 have C9 := Lib.hid (fun w => div_sp p0 p5 w)
 obtain ⟨p9, hp9⟩ : ∃ z_, divS p0 p5 = z_ := ⟨_, rfl⟩
 rw [hp9] at C9
 have C10 := Lib.hid (fun w => of_sp s hs w)
 rw [hp2] at C10
 have C11 := Lib.hid (fun w => div_sp p2 p5 w)
 obtain ⟨p11, hp11⟩ : ∃ z_, divS p2 p5 = z_ := ⟨_, rfl⟩
 rw [hp11] at C11
 have C12 := Lib.hid (fun w => neg_sp p11 w)
 obtain ⟨p12, hp12⟩ : ∃ z_, negS p11 = z_ := ⟨_, rfl⟩
 rw [hp12] at C12
 have hT : (afTurn0 (divS (ofS c) (tuL c s)) (divS (ofS s) (tuL c s))) = (⟨p7.a, (⟨p7.b.x, p9, p12⟩ : V3), (⟨p7.c.x, p11, p9⟩ : V3), p7.t⟩ : Af) := by
   subst hp0 hp1 hp2 hp3 hp4 hp5 hp7 hp9 hp11 hp12; rfl
 rw [hT]
 clear hT
 clear hp0 hp1 hp2 hp3 hp4 hp5 hp7 hp9 hp11 hp12
 go_enter Try.func13, Try.ntmps13
 go_wp2_with fail
 obtain ⟨W, hW, K0, hB, hz⟩ := bx1 w 33 #[.float .f64 0, .float .f64 0, .float .f64 0, .float .f64 0, .float .f64 0, .float .f64 0, .float .f64 0, .float .f64 0, .float .f64 0, .float .f64 0, .float .f64 0, .float .f64 0, .float .f64 0, .float .f64 0, .float .f64 0, .float .f64 0, .float .f64 0, .float .f64 0, .float .f64 0, .float .f64 0, .float .f64 0, .float .f64 0, .float .f64 0, .float .f64 0]
 rw [← hW]
 have K0 := Lib.hid K0
 have HB := Lib.hid hB
 clear hW hB hz
 have D1 := dr W
 refine (C0.out _).mono ?_
 rintro r w2 ⟨rfl, hb⟩
 have D3 := ds D1 hb
 clear D1
 clear hb
 go_wp2_with fail
 refine (C1.out _).mono ?_
 rintro r w4 ⟨rfl, hb⟩
 have D5 := ds D3 hb
 clear D3
 clear hb
 go_wp2_with fail
 refine (C2.out _).mono ?_
 rintro r w6 ⟨rfl, hb⟩
 have D7 := ds D5 hb
 clear D5
 clear hb
 go_wp2_with fail
 refine (C3.out _).mono ?_
 rintro r w8 ⟨rfl, hb⟩
 have D9 := ds D7 hb
 clear D7
 clear hb
 go_wp2_with fail
 refine (C4.out _).mono ?_
 rintro r w10 ⟨rfl, hb⟩
 have D11 := ds D9 hb
 clear D9
 clear hb
 go_wp2_with fail
 refine (C5.out _).mono ?_
 rintro r w12 ⟨rfl, hb⟩
 have D13 := ds D11 hb
 clear D11
 clear hb
 obtain ⟨g14, hg16⟩ : ∃ g, w12.heap.size = g := ⟨_, rfl⟩
 have Y18 := Lib.hid (show w.heap.size < g14 by rw [← hg16]; exact (kb K0 D13).lt)
 obtain ⟨V15, hV17⟩ : ∃ V, w12.alloc (.cells #[.float .f64 0, .float .f64 0] 28) = V := ⟨_, rfl⟩
 have K19 := ka hV17 K0 D13
 have K20 := kn hV17 hg16
 have HB21 := hba hV17 HB D13
 have D22 := dr V15
 clear K0 HB D13
 have f25 := (kb K20 D22).cellsL 0 [.float .f64 0, .float .f64 0] rfl
 dsimp only [CellsL, al, vl, Nat.reduceAdd] at f25
 have u26 := (kb K20 D22).unfrozen
 obtain ⟨V23, hV24⟩ : ∃ V, setCells V15 (g14) 0 [.float .f64 p5.lo, .float .f64 p5.hi] = V := ⟨_, rfl⟩
 have hv27 := hV24
 simp only [setCells, Nat.reduceAdd] at hv27
 have K28 := kf hV24 K19 D22 (by have := Y18.out; omega)
 have K29 := Lib.hid (show Blk V23 (g14) 28 #[.float .f64 p5.lo, .float .f64 p5.hi] from (ks hV24 K20 D22).out)
 have HB30 := hbs hV24 HB21 D22 (by have := Y18.out; omega)
 have D31 := dr V23
 clear K19 K20 HB21 D22
 have hq32 := (kb K29 D31).cellsL 0 [.float .f64 p5.lo, .float .f64 p5.hi] rfl
 dsimp only [CellsL, al, vl, Nat.reduceAdd] at hq32
 go_wp2_with fail
 clear hg16 hV17 hV24 f25 u26 hv27 hq32
 refine (C6.out _).mono ?_
 rintro r w33 ⟨rfl, hb⟩
 have D34 := ds D31 hb
 clear D31
 clear hb
 go_wp2_with fail
 refine (C7.out _).mono ?_
 rintro r w35 ⟨rfl, hb⟩
 have D36 := ds D34 hb
 clear D34
 clear hb
 obtain ⟨g37, hg39⟩ : ∃ g, w35.heap.size = g := ⟨_, rfl⟩
 have Y41 := Lib.hid (show w.heap.size < g37 ∧ g14 < g37 by rw [← hg39]; exact ⟨(kb K28 D36).lt, (kb K29 D36).lt⟩)
 obtain ⟨V38, hV40⟩ : ∃ V, w35.alloc (.cells #[.float .f64 0, .float .f64 0, .float .f64 0, .float .f64 0, .float .f64 0, .float .f64 0, .float .f64 0, .float .f64 0, .float .f64 0, .float .f64 0, .float .f64 0, .float .f64 0, .float .f64 0, .float .f64 0, .float .f64 0, .float .f64 0, .float .f64 0, .float .f64 0, .float .f64 0, .float .f64 0, .float .f64 0, .float .f64 0, .float .f64 0, .float .f64 0] 33) = V := ⟨_, rfl⟩
 have K42 := ka hV40 K28 D36
 have K43 := ka hV40 K29 D36
 have K44 := kn hV40 hg39
 have HB45 := hba hV40 HB30 D36
 have D46 := dr V38
 clear K28 K29 HB30 D36
 have Y47 := Lib.hid (And.intro Y18.out Y41.out)
 clear Y18 Y41
 have f50 := (kb K44 D46)
 obtain ⟨V48, hV49⟩ : ∃ V, World.setRow V38 (g37) (ac p7) = V := ⟨_, rfl⟩
 have K51 := kfr hV49 K42 D46 (by have := Y47.out; omega)
 have K52 := kfr hV49 K43 D46 (by have := Y47.out; omega)
 have K53 := ksr hV49 K44 D46
 have HB54 := hbr hV49 HB45 D46 (by have := Y47.out; omega)
 have D55 := dr V48
 clear K42 K43 K44 HB45 D46
 go_wp2_with (refine wpList_store_row rfl 33 _ _ rfl (g37) (ac p7) rfl rfl _ _ f50 (by rw [info_Affine]; rfl) rfl (by kernel_rfl) ?_; rw [hV49])
 clear hg39 hV40 hV49 f50
 refine wp_region_held (S := (fun w' => True ∧ CellsL w' (g14) 0 [.float .f64 p5.lo, .float .f64 p5.hi])) (by kernel_rfl) ?_
 change wpAnyH _ _ _ _ _ _ _ _ (World.drew _)
 obtain ⟨wd56, hwd⟩ : ∃ x, x = World.drew V48 := ⟨_, rfl⟩
 rw [← hwd]
 have D57 := Lib.hid (hwd ▸ Below.drew D55.out : Below V48.heap.size V48 wd56)
 clear D55 hwd
 have hS58 : True ∧ CellsL wd56 (g14) 0 [.float .f64 p5.lo, .float .f64 p5.hi] := ⟨trivial, (kb K52 D57).cellsL 0 [.float .f64 p5.lo, .float .f64 p5.hi] rfl⟩
 refine tkq 0 (bm 12 1) hS58 ?_
 refine tke 2 (bm 12 5) hS58 ?_
 refine tkq 4 (bm 12 21) hS58 ?_
 refine tke 6 (bm 12 85) hS58 ?_
 have HS63 := Lib.hid (show ∀ w', Below V48.heap.size V48 w' → (True ∧ CellsL w' (g14) 0 [.float .f64 p5.lo, .float .f64 p5.hi]) from fun w' b => ⟨trivial, (K52.out.below b K52.out.lt).cellsL 0 [.float .f64 p5.lo, .float .f64 p5.hi] rfl⟩)
 refine wpAnyH_sets2 (N := 12) (stop := 1023) (F := 2) (m := 85) (R := [1, 3, 5, 7, 8, 9]) (M := [85, 87, 341, 597, 95, 343, 599, 853, 127, 351, 607, 855, 255, 383, 639, 863, 511, 767, 895, 1023]) (fun i => if i = 1 then 1 else if i = 3 then 6 else if i = 5 then 24 else if i = 7 then 96 else if i = 8 then 0 else if i = 9 then 0 else 0) (fun a0 m a w9 => ∃ (v1 v3 v5 v7 p8_ p9_ : Value) (g8_ g9_ : Nat), a = ((((((a0.put (some 45) v1).put (some 47) v3).put (some 49) v5).put (some 51) v7).put (some 12) p8_).put (some 13) p9_) ∧ Below V48.heap.size V48 w9 ∧ (m.testBit 1 = true → v1 = Value.agg #[.float .f64 p0.lo, .float .f64 p0.hi]) ∧ (m.testBit 3 = true → v3 = Value.agg #[.float .f64 p9.lo, .float .f64 p9.hi]) ∧ (m.testBit 5 = true → v5 = Value.agg #[.float .f64 p2.lo, .float .f64 p2.hi]) ∧ (m.testBit 7 = true → v7 = Value.agg #[.float .f64 p11.lo, .float .f64 p11.hi]) ∧ (m.testBit 8 = true → p8_ = .pointer (some ⟨g8_, 0, none⟩) ∧ Blk w9 g8_ 28 #[.float .f64 0, .float .f64 0] ∧ V48.heap.size ≤ g8_) ∧ (m.testBit 9 = true → p9_ = .pointer (some ⟨g9_, 0, none⟩) ∧ Blk w9 g9_ 28 #[.float .f64 0, .float .f64 0] ∧ V48.heap.size ≤ g9_) ∧ (m.testBit 8 = true → m.testBit 9 = true → g8_ ≠ g9_)) (by kernel_rfl) (by kernel_rfl) (by kernel_rfl) (by kernel_rfl) ?st8 ?sp8 ?re8
 case st8 =>
   exact ⟨undef, undef, undef, undef, undef, undef, 0, 0, by go_simp, D57.out, fun h => absurd h (by decide), fun h => absurd h (by decide), fun h => absurd h (by decide), fun h => absurd h (by decide), fun h => absurd h (by decide), fun h => absurd h (by decide), fun h => absurd h (by decide)⟩
 case sp8 =>
   intro m a' w9 i hi hm hd hJ
   obtain ⟨v1, v3, v5, v7, p8_, p9_, g8_, g9_, rfl, hb0, cl1, cl3, cl5, cl7, ql8, ql9, dl8_9⟩ := hJ
   have CL1 := Lib.hid cl1
   have CL3 := Lib.hid cl3
   have CL5 := Lib.hid cl5
   have CL7 := Lib.hid cl7
   have QL8 := Lib.hid ql8
   have QL9 := Lib.hid ql9
   have DL8_9 := Lib.hid dl8_9
   have HB0 := Lib.hid hb0
   clear cl1 cl3 cl5 cl7 ql8 ql9 dl8_9 hb0 hS58
   simp only [List.mem_cons, List.not_mem_nil, or_false] at hi
   rcases hi with rfl | rfl | rfl | rfl | rfl | rfl
   · refine wpOp_at rfl (by kernel_rfl) (fun K hK => ?_)
     have hd := fun j => @tb_of _ _ j hd
     go_simp
     go_at_call 64
     refine (C8.out _).mono ?_
     rintro r w10 ⟨rfl, hb⟩
     dsimp only
     have hb1 := below_step HB0.out hb
     exact hK _ _ ⟨HS63.out _ hb1, _, v3, v5, v7, p8_, p9_, g8_, g9_, by go_simp, hb1, fun _ => rfl, fun h => CL3.out (by rwa [tb_ne (by decide)] at h), fun h => CL5.out (by rwa [tb_ne (by decide)] at h), fun h => CL7.out (by rwa [tb_ne (by decide)] at h), fun h => ⟨(QL8.out (by rwa [tb_ne (by decide)] at h)).1, (QL8.out (by rwa [tb_ne (by decide)] at h)).2.1.below hb (QL8.out (by rwa [tb_ne (by decide)] at h)).2.1.lt, (QL8.out (by rwa [tb_ne (by decide)] at h)).2.2⟩, fun h => ⟨(QL9.out (by rwa [tb_ne (by decide)] at h)).1, (QL9.out (by rwa [tb_ne (by decide)] at h)).2.1.below hb (QL9.out (by rwa [tb_ne (by decide)] at h)).2.1.lt, (QL9.out (by rwa [tb_ne (by decide)] at h)).2.2⟩, fun h h' => DL8_9.out (by rwa [tb_ne (by decide)] at h) (by rwa [tb_ne (by decide)] at h')⟩
   · refine wpOp_at rfl (by kernel_rfl) (fun K hK => ?_)
     have hd := fun j => @tb_of _ _ j hd
     obtain rfl := CL1.out (hd _ (by decide))
     go_simp
     go_at_call 66
     refine (C9.out _).mono ?_
     rintro r w10 ⟨rfl, hb⟩
     dsimp only
     have hb1 := below_step HB0.out hb
     exact hK _ _ ⟨HS63.out _ hb1, _, _, v5, v7, p8_, p9_, g8_, g9_, by go_simp, hb1, fun _ => rfl, fun _ => rfl, fun h => CL5.out (by rwa [tb_ne (by decide)] at h), fun h => CL7.out (by rwa [tb_ne (by decide)] at h), fun h => ⟨(QL8.out (by rwa [tb_ne (by decide)] at h)).1, (QL8.out (by rwa [tb_ne (by decide)] at h)).2.1.below hb (QL8.out (by rwa [tb_ne (by decide)] at h)).2.1.lt, (QL8.out (by rwa [tb_ne (by decide)] at h)).2.2⟩, fun h => ⟨(QL9.out (by rwa [tb_ne (by decide)] at h)).1, (QL9.out (by rwa [tb_ne (by decide)] at h)).2.1.below hb (QL9.out (by rwa [tb_ne (by decide)] at h)).2.1.lt, (QL9.out (by rwa [tb_ne (by decide)] at h)).2.2⟩, fun h h' => DL8_9.out (by rwa [tb_ne (by decide)] at h) (by rwa [tb_ne (by decide)] at h')⟩
   · refine wpOp_at rfl (by kernel_rfl) (fun K hK => ?_)
     have hd := fun j => @tb_of _ _ j hd
     obtain rfl := CL3.out (hd _ (by decide))
     go_simp
     go_at_call 64
     refine (C10.out _).mono ?_
     rintro r w10 ⟨rfl, hb⟩
     dsimp only
     have hb1 := below_step HB0.out hb
     exact hK _ _ ⟨HS63.out _ hb1, v1, _, _, v7, p8_, p9_, g8_, g9_, by go_simp, hb1, fun h => CL1.out (by rwa [tb_ne (by decide)] at h), fun _ => rfl, fun _ => rfl, fun h => CL7.out (by rwa [tb_ne (by decide)] at h), fun h => ⟨(QL8.out (by rwa [tb_ne (by decide)] at h)).1, (QL8.out (by rwa [tb_ne (by decide)] at h)).2.1.below hb (QL8.out (by rwa [tb_ne (by decide)] at h)).2.1.lt, (QL8.out (by rwa [tb_ne (by decide)] at h)).2.2⟩, fun h => ⟨(QL9.out (by rwa [tb_ne (by decide)] at h)).1, (QL9.out (by rwa [tb_ne (by decide)] at h)).2.1.below hb (QL9.out (by rwa [tb_ne (by decide)] at h)).2.1.lt, (QL9.out (by rwa [tb_ne (by decide)] at h)).2.2⟩, fun h h' => DL8_9.out (by rwa [tb_ne (by decide)] at h) (by rwa [tb_ne (by decide)] at h')⟩
   · refine wpOp_at rfl (by kernel_rfl) (fun K hK => ?_)
     have hd := fun j => @tb_of _ _ j hd
     obtain rfl := CL5.out (hd _ (by decide))
     go_simp
     go_at_call 66
     refine (C11.out _).mono ?_
     rintro r w10 ⟨rfl, hb⟩
     dsimp only
     have hb1 := below_step HB0.out hb
     exact hK _ _ ⟨HS63.out _ hb1, v1, v3, _, _, p8_, p9_, g8_, g9_, by go_simp, hb1, fun h => CL1.out (by rwa [tb_ne (by decide)] at h), fun h => CL3.out (by rwa [tb_ne (by decide)] at h), fun _ => rfl, fun _ => rfl, fun h => ⟨(QL8.out (by rwa [tb_ne (by decide)] at h)).1, (QL8.out (by rwa [tb_ne (by decide)] at h)).2.1.below hb (QL8.out (by rwa [tb_ne (by decide)] at h)).2.1.lt, (QL8.out (by rwa [tb_ne (by decide)] at h)).2.2⟩, fun h => ⟨(QL9.out (by rwa [tb_ne (by decide)] at h)).1, (QL9.out (by rwa [tb_ne (by decide)] at h)).2.1.below hb (QL9.out (by rwa [tb_ne (by decide)] at h)).2.1.lt, (QL9.out (by rwa [tb_ne (by decide)] at h)).2.2⟩, fun h h' => DL8_9.out (by rwa [tb_ne (by decide)] at h) (by rwa [tb_ne (by decide)] at h')⟩
   · refine wpOp_at rfl (by kernel_rfl) (fun K hK => ?_)
     have hd := fun j => @tb_of _ _ j hd
     go_simp
     have hb1 := below_more HB0.out (.cells #[.float .f64 0, .float .f64 0] 28)
     exact hK _ _ ⟨HS63.out _ hb1, v1, v3, v5, v7, .pointer (some ⟨w9.heap.size, 0, none⟩), p9_, w9.heap.size, g9_, by go_simp, hb1, fun h => CL1.out (by rwa [tb_ne (by decide)] at h), fun h => CL3.out (by rwa [tb_ne (by decide)] at h), fun h => CL5.out (by rwa [tb_ne (by decide)] at h), fun h => CL7.out (by rwa [tb_ne (by decide)] at h), fun _ => ⟨rfl, Blk.new_at _ _ _ rfl, HB0.out.size⟩, fun h => ⟨(QL9.out (by rwa [tb_ne (by decide)] at h)).1, (QL9.out (by rwa [tb_ne (by decide)] at h)).2.1.alloc _, (QL9.out (by rwa [tb_ne (by decide)] at h)).2.2⟩, fun h h' => Nat.ne_of_gt (QL9.out (by rwa [tb_ne (by decide)] at h')).2.1.lt⟩
   · refine wpOp_at rfl (by kernel_rfl) (fun K hK => ?_)
     have hd := fun j => @tb_of _ _ j hd
     go_simp
     have hb1 := below_more HB0.out (.cells #[.float .f64 0, .float .f64 0] 28)
     exact hK _ _ ⟨HS63.out _ hb1, v1, v3, v5, v7, p8_, .pointer (some ⟨w9.heap.size, 0, none⟩), g8_, w9.heap.size, by go_simp, hb1, fun h => CL1.out (by rwa [tb_ne (by decide)] at h), fun h => CL3.out (by rwa [tb_ne (by decide)] at h), fun h => CL5.out (by rwa [tb_ne (by decide)] at h), fun h => CL7.out (by rwa [tb_ne (by decide)] at h), fun h => ⟨(QL8.out (by rwa [tb_ne (by decide)] at h)).1, (QL8.out (by rwa [tb_ne (by decide)] at h)).2.1.alloc _, (QL8.out (by rwa [tb_ne (by decide)] at h)).2.2⟩, fun _ => ⟨rfl, Blk.new_at _ _ _ rfl, HB0.out.size⟩, fun h h' => Nat.ne_of_lt (QL8.out (by rwa [tb_ne (by decide)] at h)).2.1.lt⟩
 clear hS58 D57 HS63
 intro a' W82 hJ
 obtain ⟨v1, v3, v5, v7, p8_, p9_, g83, g84, rfl, hb0, cl1, cl3, cl5, cl7, ql8, ql9, dl8_9⟩ := hJ
 obtain rfl := cl1 (by decide)
 obtain rfl := cl3 (by decide)
 obtain rfl := cl5 (by decide)
 obtain rfl := cl7 (by decide)
 obtain ⟨rfl, kk8, ll8⟩ := ql8 (by decide)
 obtain ⟨rfl, kk9, ll9⟩ := ql9 (by decide)
 have ne8_9 := dl8_9 (by decide) (by decide)
 clear dl8_9
 have D66 := Lib.hid hb0
 clear hb0
 refine wpAnyH_frame (a' := ?frq65) ?feq65 ?fgq65
 case feq65 => (go_simp; try with_reducible rfl)
 have K68 := Lib.hid ((kb K51 D66) : Blk W82 (w.heap.size) 33 #[.float .f64 0, .float .f64 0, .float .f64 0, .float .f64 0, .float .f64 0, .float .f64 0, .float .f64 0, .float .f64 0, .float .f64 0, .float .f64 0, .float .f64 0, .float .f64 0, .float .f64 0, .float .f64 0, .float .f64 0, .float .f64 0, .float .f64 0, .float .f64 0, .float .f64 0, .float .f64 0, .float .f64 0, .float .f64 0, .float .f64 0, .float .f64 0])
 have K69 := Lib.hid ((kb K52 D66) : Blk W82 (g14) 28 #[.float .f64 p5.lo, .float .f64 p5.hi])
 have K70 := Lib.hid ((kb K53 D66) : Blk W82 (g37) 33 (ac p7))
 have K71 := Lib.hid kk8
 clear kk8
 have K74 := Lib.hid kk9
 clear kk9
 have HB77 := Lib.hid (below_step HB54.out D66.out)
 have Y73 := Lib.hid (show w.heap.size ≤ g83 ∧ w.heap.size < g83 ∧ g14 < g83 ∧ g37 < g83 from ⟨Nat.le_trans HB54.out.size ll8, Nat.lt_of_lt_of_le K51.out.lt ll8, Nat.lt_of_lt_of_le K52.out.lt ll8, Nat.lt_of_lt_of_le K53.out.lt ll8⟩)
 have Y78 := Lib.hid (And.intro Y47.out Y73.out)
 clear Y47 Y73
 have Y76 := Lib.hid (show w.heap.size ≤ g84 ∧ w.heap.size < g84 ∧ g14 < g84 ∧ g37 < g84 from ⟨Nat.le_trans HB54.out.size ll9, Nat.lt_of_lt_of_le K51.out.lt ll9, Nat.lt_of_lt_of_le K52.out.lt ll9, Nat.lt_of_lt_of_le K53.out.lt ll9⟩)
 have Y79 := Lib.hid (And.intro Y78.out Y76.out)
 clear Y78 Y76
 have Y80 := Lib.hid ne8_9
 clear ne8_9
 have Y81 := Lib.hid (And.intro Y79.out Y80.out)
 clear Y79 Y80
 clear K51 K52 K53 ll8 ll9 HB54
 have D85 := Lib.hid (Below.refl W82.heap.size W82)
 clear D66
 have hS86 : True ∧ CellsL W82 (g14) 0 [.float .f64 p5.lo, .float .f64 p5.hi] := ⟨trivial, (kb K69 D85).cellsL 0 [.float .f64 p5.lo, .float .f64 p5.hi] rfl⟩
 refine wpAnyH_oneM (i := 10) (l' := bm 12 2047) rfl (by kernel_rfl) (by kernel_rfl) (by kernel_rfl) (fun K hK => ?_)
 have f89 := (kb K71 D85).cellsL 0 [.float .f64 0, .float .f64 0] rfl
 dsimp only [CellsL, al, vl, Nat.reduceAdd] at f89
 have u90 := (kb K71 D85).unfrozen
 obtain ⟨V87, hV88⟩ : ∃ V, setCells W82 (g83) 0 [.float .f64 p9.lo, .float .f64 p9.hi] = V := ⟨_, rfl⟩
 have hv91 := hV88
 simp only [setCells, Nat.reduceAdd] at hv91
 have K92 := kf hV88 K68 D85 (by have := Y81.out; omega)
 have K93 := kf hV88 K69 D85 (by have := Y81.out; omega)
 have K94 := kf hV88 K70 D85 (by have := Y81.out; omega)
 have K95 := Lib.hid (show Blk V87 (g83) 28 #[.float .f64 p9.lo, .float .f64 p9.hi] from (ks hV88 K71 D85).out)
 have K96 := kf hV88 K74 D85 (by have := Y81.out; omega)
 have HB97 := hbs hV88 HB77 D85 (by have := Y81.out; omega)
 have D98 := dr V87
 clear K68 K69 K70 K71 K74 HB77 D85
 go_simp
 clear hV88 f89 u90 hv91
 have hS99 : True ∧ CellsL V87 (g14) 0 [.float .f64 p5.lo, .float .f64 p5.hi] := ⟨trivial, (kb K93 D98).cellsL 0 [.float .f64 p5.lo, .float .f64 p5.hi] rfl⟩
 refine hK _ _ hS99 ?_
 clear hK K hS86
 refine wpAnyH_oneM (i := 11) (l' := bm 12 4095) rfl (by kernel_rfl) (by kernel_rfl) (by kernel_rfl) (fun K hK => ?_)
 have f102 := (kb K96 D98).cellsL 0 [.float .f64 0, .float .f64 0] rfl
 dsimp only [CellsL, al, vl, Nat.reduceAdd] at f102
 have u103 := (kb K96 D98).unfrozen
 obtain ⟨V100, hV101⟩ : ∃ V, setCells V87 (g84) 0 [.float .f64 p11.lo, .float .f64 p11.hi] = V := ⟨_, rfl⟩
 have hv104 := hV101
 simp only [setCells, Nat.reduceAdd] at hv104
 have K105 := kf hV101 K92 D98 (by have := Y81.out; omega)
 have K106 := kf hV101 K93 D98 (by have := Y81.out; omega)
 have K107 := kf hV101 K94 D98 (by have := Y81.out; omega)
 have K108 := kf hV101 K95 D98 (by have := Y81.out; omega)
 have K109 := Lib.hid (show Blk V100 (g84) 28 #[.float .f64 p11.lo, .float .f64 p11.hi] from (ks hV101 K96 D98).out)
 have HB110 := hbs hV101 HB97 D98 (by have := Y81.out; omega)
 have D111 := dr V100
 clear K92 K93 K94 K95 K96 HB97 D98
 go_simp
 clear hV101 f102 u103 hv104
 have hS112 : True ∧ CellsL V100 (g14) 0 [.float .f64 p5.lo, .float .f64 p5.hi] := ⟨trivial, (kb K106 D111).cellsL 0 [.float .f64 p5.lo, .float .f64 p5.hi] rfl⟩
 refine hK _ _ hS112 ?_
 clear hK K hS99
 refine wpAnyH_done (by kernel_rfl) ?_ _
 clear hS112
 go_wp2_with fail
 refine wp_region_held (S := (fun w' => True ∧ CellsL w' (g83) 0 [.float .f64 p9.lo, .float .f64 p9.hi])) (by kernel_rfl) ?_
 change wpAnyH _ _ _ _ _ _ _ _ (World.drew _)
 obtain ⟨wd113, hwd⟩ : ∃ x, x = World.drew V100 := ⟨_, rfl⟩
 rw [← hwd]
 have D114 := Lib.hid (hwd ▸ Below.drew D111.out : Below V100.heap.size V100 wd113)
 clear D111 hwd
 have hS115 : True ∧ CellsL wd113 (g83) 0 [.float .f64 p9.lo, .float .f64 p9.hi] := ⟨trivial, (kb K108 D114).cellsL 0 [.float .f64 p9.lo, .float .f64 p9.hi] rfl⟩
 refine tkq 0 (bm 14 1) hS115 ?_
 refine tkq 1 (bm 14 3) hS115 ?_
 refine tkq 2 (bm 14 7) hS115 ?_
 refine tkq 3 (bm 14 15) hS115 ?_
 refine tke 4 (bm 14 31) hS115 ?_
 refine tke 5 (bm 14 63) hS115 ?_
 refine tkq 6 (bm 14 127) hS115 ?_
 refine tkq 7 (bm 14 255) hS115 ?_
 refine tkq 8 (bm 14 511) hS115 ?_
 refine tkq 10 (bm 14 1535) hS115 ?_
 refine tkq 11 (bm 14 3583) hS115 ?_
 refine wpAnyH_oneN (i := 9) (l' := bm 14 4095) rfl (by kernel_rfl) (by kernel_rfl) (by kernel_rfl) (fun K hK => ?_)
 have f129 := (kb K107 D114).cellsL 8 [.float .f64 p7.b.y.lo, .float .f64 p7.b.y.hi] rfl
 dsimp only [CellsL, al, vl, Nat.reduceAdd] at f129
 have u130 := (kb K107 D114).unfrozen
 obtain ⟨V127, hV128⟩ : ∃ V, setCells wd113 (g37) 8 [.float .f64 p9.lo, .float .f64 p9.hi] = V := ⟨_, rfl⟩
 have hv131 := hV128
 simp only [setCells, Nat.reduceAdd] at hv131
 have K132 := kf hV128 K105 D114 (by have := Y81.out; omega)
 have K133 := kf hV128 K106 D114 (by have := Y81.out; omega)
 have K134 := Lib.hid (show Blk V127 (g37) 33 #[.float .f64 p7.a.x.lo, .float .f64 p7.a.x.hi, .float .f64 p7.a.y.lo, .float .f64 p7.a.y.hi, .float .f64 p7.a.z.lo, .float .f64 p7.a.z.hi, .float .f64 p7.b.x.lo, .float .f64 p7.b.x.hi, .float .f64 p9.lo, .float .f64 p9.hi, .float .f64 p7.b.z.lo, .float .f64 p7.b.z.hi, .float .f64 p7.c.x.lo, .float .f64 p7.c.x.hi, .float .f64 p7.c.y.lo, .float .f64 p7.c.y.hi, .float .f64 p7.c.z.lo, .float .f64 p7.c.z.hi, .float .f64 p7.t.x.lo, .float .f64 p7.t.x.hi, .float .f64 p7.t.y.lo, .float .f64 p7.t.y.hi, .float .f64 p7.t.z.lo, .float .f64 p7.t.z.hi] from (ks hV128 K107 D114).out)
 have K135 := kf hV128 K108 D114 (by have := Y81.out; omega)
 have K136 := kf hV128 K109 D114 (by have := Y81.out; omega)
 have HB137 := hbs hV128 HB110 D114 (by have := Y81.out; omega)
 have D138 := dr V127
 clear K105 K106 K107 K108 K109 HB110 D114
 go_simp
 clear hV128 f129 u130 hv131
 have hS139 : True ∧ CellsL V127 (g83) 0 [.float .f64 p9.lo, .float .f64 p9.hi] := ⟨trivial, (kb K135 D138).cellsL 0 [.float .f64 p9.lo, .float .f64 p9.hi] rfl⟩
 refine hK _ _ hS139 ?_
 clear hK K hS115
 refine tkq 12 (bm 14 8191) hS139 ?_
 refine wpAnyH_oneN (i := 13) (l' := bm 14 16383) rfl (by kernel_rfl) (by kernel_rfl) (by kernel_rfl) (fun K hK => ?_)
 have f143 := (kb K134 D138).cellsL 16 [.float .f64 p7.c.z.lo, .float .f64 p7.c.z.hi] rfl
 dsimp only [CellsL, al, vl, Nat.reduceAdd] at f143
 have u144 := (kb K134 D138).unfrozen
 obtain ⟨V141, hV142⟩ : ∃ V, setCells V127 (g37) 16 [.float .f64 p9.lo, .float .f64 p9.hi] = V := ⟨_, rfl⟩
 have hv145 := hV142
 simp only [setCells, Nat.reduceAdd] at hv145
 have K146 := kf hV142 K132 D138 (by have := Y81.out; omega)
 have K147 := kf hV142 K133 D138 (by have := Y81.out; omega)
 have K148 := Lib.hid (show Blk V141 (g37) 33 #[.float .f64 p7.a.x.lo, .float .f64 p7.a.x.hi, .float .f64 p7.a.y.lo, .float .f64 p7.a.y.hi, .float .f64 p7.a.z.lo, .float .f64 p7.a.z.hi, .float .f64 p7.b.x.lo, .float .f64 p7.b.x.hi, .float .f64 p9.lo, .float .f64 p9.hi, .float .f64 p7.b.z.lo, .float .f64 p7.b.z.hi, .float .f64 p7.c.x.lo, .float .f64 p7.c.x.hi, .float .f64 p7.c.y.lo, .float .f64 p7.c.y.hi, .float .f64 p9.lo, .float .f64 p9.hi, .float .f64 p7.t.x.lo, .float .f64 p7.t.x.hi, .float .f64 p7.t.y.lo, .float .f64 p7.t.y.hi, .float .f64 p7.t.z.lo, .float .f64 p7.t.z.hi] from (ks hV142 K134 D138).out)
 have K149 := kf hV142 K135 D138 (by have := Y81.out; omega)
 have K150 := kf hV142 K136 D138 (by have := Y81.out; omega)
 have HB151 := hbs hV142 HB137 D138 (by have := Y81.out; omega)
 have D152 := dr V141
 clear K132 K133 K134 K135 K136 HB137 D138
 go_simp
 clear hV142 f143 u144 hv145
 have hS153 : True ∧ CellsL V141 (g83) 0 [.float .f64 p9.lo, .float .f64 p9.hi] := ⟨trivial, (kb K149 D152).cellsL 0 [.float .f64 p9.lo, .float .f64 p9.hi] rfl⟩
 refine hK _ _ hS153 ?_
 clear hK K hS139
 refine wpAnyH_done (by kernel_rfl) ?_ _
 clear hS153
 go_wp2_with fail
 refine wp_region_held (S := (fun w' => True ∧ CellsL w' (g84) 0 [.float .f64 p11.lo, .float .f64 p11.hi])) (by kernel_rfl) ?_
 change wpAnyH _ _ _ _ _ _ _ _ (World.drew _)
 obtain ⟨wd154, hwd⟩ : ∃ x, x = World.drew V141 := ⟨_, rfl⟩
 rw [← hwd]
 have D155 := Lib.hid (hwd ▸ Below.drew D152.out : Below V141.heap.size V141 wd154)
 clear D152 hwd
 have hS156 : True ∧ CellsL wd154 (g84) 0 [.float .f64 p11.lo, .float .f64 p11.hi] := ⟨trivial, (kb K150 D155).cellsL 0 [.float .f64 p11.lo, .float .f64 p11.hi] rfl⟩
 refine tkq 0 (bm 15 1) hS156 ?_
 refine tkq 1 (bm 15 3) hS156 ?_
 refine tkq 2 (bm 15 7) hS156 ?_
 refine tkq 3 (bm 15 15) hS156 ?_
 refine tke 4 (bm 15 31) hS156 ?_
 refine tke 6 (bm 15 95) hS156 ?_
 refine tkq 7 (bm 15 223) hS156 ?_
 refine tkq 8 (bm 15 479) hS156 ?_
 refine tkq 11 (bm 15 2527) hS156 ?_
 refine tkq 12 (bm 15 6623) hS156 ?_
 refine wpAnyH_oneN (i := 5) (l' := bm 15 6655) rfl (by kernel_rfl) (by kernel_rfl) (by kernel_rfl) (fun K hK => ?_)
 go_simp
 go_at_call 67
 refine (C12.out _).mono ?_
 rintro r w167 ⟨rfl, hb⟩
 dsimp only
 have D168 := ds D155 hb
 clear D155
 clear hb
 have hS169 : True ∧ CellsL w167 (g84) 0 [.float .f64 p11.lo, .float .f64 p11.hi] := ⟨trivial, (kb K150 D168).cellsL 0 [.float .f64 p11.lo, .float .f64 p11.hi] rfl⟩
 refine hK _ _ hS169 ?_
 clear hK K hS156
 refine tkq 9 (bm 15 7167) hS169 ?_
 refine wpAnyH_oneN (i := 10) (l' := bm 15 8191) rfl (by kernel_rfl) (by kernel_rfl) (by kernel_rfl) (fun K hK => ?_)
 have f173 := (kb K148 D168).cellsL 10 [.float .f64 p7.b.z.lo, .float .f64 p7.b.z.hi] rfl
 dsimp only [CellsL, al, vl, Nat.reduceAdd] at f173
 have u174 := (kb K148 D168).unfrozen
 obtain ⟨V171, hV172⟩ : ∃ V, setCells w167 (g37) 10 [.float .f64 p12.lo, .float .f64 p12.hi] = V := ⟨_, rfl⟩
 have hv175 := hV172
 simp only [setCells, Nat.reduceAdd] at hv175
 have K176 := kf hV172 K146 D168 (by have := Y81.out; omega)
 have K177 := kf hV172 K147 D168 (by have := Y81.out; omega)
 have K178 := Lib.hid (show Blk V171 (g37) 33 #[.float .f64 p7.a.x.lo, .float .f64 p7.a.x.hi, .float .f64 p7.a.y.lo, .float .f64 p7.a.y.hi, .float .f64 p7.a.z.lo, .float .f64 p7.a.z.hi, .float .f64 p7.b.x.lo, .float .f64 p7.b.x.hi, .float .f64 p9.lo, .float .f64 p9.hi, .float .f64 p12.lo, .float .f64 p12.hi, .float .f64 p7.c.x.lo, .float .f64 p7.c.x.hi, .float .f64 p7.c.y.lo, .float .f64 p7.c.y.hi, .float .f64 p9.lo, .float .f64 p9.hi, .float .f64 p7.t.x.lo, .float .f64 p7.t.x.hi, .float .f64 p7.t.y.lo, .float .f64 p7.t.y.hi, .float .f64 p7.t.z.lo, .float .f64 p7.t.z.hi] from (ks hV172 K148 D168).out)
 have K179 := kf hV172 K149 D168 (by have := Y81.out; omega)
 have K180 := kf hV172 K150 D168 (by have := Y81.out; omega)
 have HB181 := hbs hV172 HB151 D168 (by have := Y81.out; omega)
 have D182 := dr V171
 clear K146 K147 K148 K149 K150 HB151 D168
 go_simp
 clear hV172 f173 u174 hv175
 have hS183 : True ∧ CellsL V171 (g84) 0 [.float .f64 p11.lo, .float .f64 p11.hi] := ⟨trivial, (kb K180 D182).cellsL 0 [.float .f64 p11.lo, .float .f64 p11.hi] rfl⟩
 refine hK _ _ hS183 ?_
 clear hK K hS169
 refine tkq 13 (bm 15 16383) hS183 ?_
 refine wpAnyH_oneN (i := 14) (l' := bm 15 32767) rfl (by kernel_rfl) (by kernel_rfl) (by kernel_rfl) (fun K hK => ?_)
 have f187 := (kb K178 D182).cellsL 14 [.float .f64 p7.c.y.lo, .float .f64 p7.c.y.hi] rfl
 dsimp only [CellsL, al, vl, Nat.reduceAdd] at f187
 have u188 := (kb K178 D182).unfrozen
 obtain ⟨V185, hV186⟩ : ∃ V, setCells V171 (g37) 14 [.float .f64 p11.lo, .float .f64 p11.hi] = V := ⟨_, rfl⟩
 have hv189 := hV186
 simp only [setCells, Nat.reduceAdd] at hv189
 have K190 := kf hV186 K176 D182 (by have := Y81.out; omega)
 have K191 := kf hV186 K177 D182 (by have := Y81.out; omega)
 have K192 := Lib.hid (show Blk V185 (g37) 33 #[.float .f64 p7.a.x.lo, .float .f64 p7.a.x.hi, .float .f64 p7.a.y.lo, .float .f64 p7.a.y.hi, .float .f64 p7.a.z.lo, .float .f64 p7.a.z.hi, .float .f64 p7.b.x.lo, .float .f64 p7.b.x.hi, .float .f64 p9.lo, .float .f64 p9.hi, .float .f64 p12.lo, .float .f64 p12.hi, .float .f64 p7.c.x.lo, .float .f64 p7.c.x.hi, .float .f64 p11.lo, .float .f64 p11.hi, .float .f64 p9.lo, .float .f64 p9.hi, .float .f64 p7.t.x.lo, .float .f64 p7.t.x.hi, .float .f64 p7.t.y.lo, .float .f64 p7.t.y.hi, .float .f64 p7.t.z.lo, .float .f64 p7.t.z.hi] from (ks hV186 K178 D182).out)
 have K193 := kf hV186 K179 D182 (by have := Y81.out; omega)
 have K194 := kf hV186 K180 D182 (by have := Y81.out; omega)
 have HB195 := hbs hV186 HB181 D182 (by have := Y81.out; omega)
 have D196 := dr V185
 clear K176 K177 K178 K179 K180 HB181 D182
 go_simp
 clear hV186 f187 u188 hv189
 have hS197 : True ∧ CellsL V185 (g84) 0 [.float .f64 p11.lo, .float .f64 p11.hi] := ⟨trivial, (kb K194 D196).cellsL 0 [.float .f64 p11.lo, .float .f64 p11.hi] rfl⟩
 refine hK _ _ hS197 ?_
 clear hK K hS183
 refine wpAnyH_done (by kernel_rfl) ?_ _
 clear hS197
 have f198 := (kb K192 D196)
 have f201 := (kb K190 D196)
 obtain ⟨V199, hV200⟩ : ∃ V, World.setRow V185 (w.heap.size) #[.float .f64 p7.a.x.lo, .float .f64 p7.a.x.hi, .float .f64 p7.a.y.lo, .float .f64 p7.a.y.hi, .float .f64 p7.a.z.lo, .float .f64 p7.a.z.hi, .float .f64 p7.b.x.lo, .float .f64 p7.b.x.hi, .float .f64 p9.lo, .float .f64 p9.hi, .float .f64 p12.lo, .float .f64 p12.hi, .float .f64 p7.c.x.lo, .float .f64 p7.c.x.hi, .float .f64 p11.lo, .float .f64 p11.hi, .float .f64 p9.lo, .float .f64 p9.hi, .float .f64 p7.t.x.lo, .float .f64 p7.t.x.hi, .float .f64 p7.t.y.lo, .float .f64 p7.t.y.hi, .float .f64 p7.t.z.lo, .float .f64 p7.t.z.hi] = V := ⟨_, rfl⟩
 have K202 := ksr hV200 K190 D196
 have K203 := kfr hV200 K191 D196 (by have := Y81.out; omega)
 have K204 := kfr hV200 K192 D196 (by have := Y81.out; omega)
 have K205 := kfr hV200 K193 D196 (by have := Y81.out; omega)
 have K206 := kfr hV200 K194 D196 (by have := Y81.out; omega)
 have HB207 := hbr hV200 HB195 D196 (by have := Y81.out; omega)
 have D208 := dr V199
 clear K190 K191 K192 K193 K194 HB195 D196
 go_wp2_with (first | (refine wpList_store_row rfl 33 _ _ rfl (w.heap.size) #[.float .f64 p7.a.x.lo, .float .f64 p7.a.x.hi, .float .f64 p7.a.y.lo, .float .f64 p7.a.y.hi, .float .f64 p7.a.z.lo, .float .f64 p7.a.z.hi, .float .f64 p7.b.x.lo, .float .f64 p7.b.x.hi, .float .f64 p9.lo, .float .f64 p9.hi, .float .f64 p12.lo, .float .f64 p12.hi, .float .f64 p7.c.x.lo, .float .f64 p7.c.x.hi, .float .f64 p11.lo, .float .f64 p11.hi, .float .f64 p9.lo, .float .f64 p9.hi, .float .f64 p7.t.x.lo, .float .f64 p7.t.x.hi, .float .f64 p7.t.y.lo, .float .f64 p7.t.y.hi, .float .f64 p7.t.z.lo, .float .f64 p7.t.z.hi] rfl rfl _ _ f201 (by rw [info_Affine]; rfl) rfl (by kernel_rfl) ?_; rw [hV200]) | (refine wl_load (by kernel_rfl) rfl rfl f198 (by rw [info_Affine]; rfl) Try.underlying33 rfl ?_))
 clear f198 hV200 f201
 (try simp only [Exit.inBlock, Exit.then])
 exact bodyPost_ret (res_ct rfl _ _ (w.heap.size) #[.float .f64 p7.a.x.lo, .float .f64 p7.a.x.hi, .float .f64 p7.a.y.lo, .float .f64 p7.a.y.hi, .float .f64 p7.a.z.lo, .float .f64 p7.a.z.hi, .float .f64 p7.b.x.lo, .float .f64 p7.b.x.hi, .float .f64 p9.lo, .float .f64 p9.hi, .float .f64 p12.lo, .float .f64 p12.hi, .float .f64 p7.c.x.lo, .float .f64 p7.c.x.hi, .float .f64 p11.lo, .float .f64 p11.hi, .float .f64 p9.lo, .float .f64 p9.hi, .float .f64 p7.t.x.lo, .float .f64 p7.t.x.hi, .float .f64 p7.t.y.lo, .float .f64 p7.t.y.hi, .float .f64 p7.t.z.lo, .float .f64 p7.t.z.hi] rfl (kb K202 D208) (by rw [info_Affine]; rfl) Try.underlying33 rfl) rfl ⟨rfl, below_step HB207.out D208.out⟩
theorem turnA_k1 (c s : Nat) (hc : c < 18446744073709551616) (hs : s < 18446744073709551616) (h1 : 0 < Z (tuL c s).lo) (h2 : (tuL c s).wide = false) (w : World) : Calls Try.prog 13 #[Value.int IntKind.i64 1, .float .f64 c, .float .f64 s] w fun r w' => r = .returned (.tuple #[aval (afTurn1 (divS (ofS c) (tuL c s)) (divS (ofS s) (tuL c s))), .int .i64 0]) ∧ Below w.heap.size w w' := by
 have C0 := Lib.hid (fun w => of_sp c hc w)
 obtain ⟨p0, hp0⟩ : ∃ z_, ofS c = z_ := ⟨_, rfl⟩
 rw [hp0] at C0
 have C1 := Lib.hid (fun w => sqr_sp p0 w)
 obtain ⟨p1, hp1⟩ : ∃ z_, sqrS p0 = z_ := ⟨_, rfl⟩
 rw [hp1] at C1
 have C2 := Lib.hid (fun w => of_sp s hs w)
 obtain ⟨p2, hp2⟩ : ∃ z_, ofS s = z_ := ⟨_, rfl⟩
 rw [hp2] at C2
 have C3 := Lib.hid (fun w => sqr_sp p2 w)
 obtain ⟨p3, hp3⟩ : ∃ z_, sqrS p2 = z_ := ⟨_, rfl⟩
 rw [hp3] at C3
 have C4 := Lib.hid (fun w => add_sp p1 p3 w)
 obtain ⟨p4, hp4⟩ : ∃ z_, addS p1 p3 = z_ := ⟨_, rfl⟩
 rw [hp4] at C4
 have C5 := Lib.hid (fun w => sqrt_sp p4 w)
 obtain ⟨p5, hp5⟩ : ∃ z_, sqrtS p4 = z_ := ⟨_, rfl⟩
 rw [hp5] at C5
 have hl : tuL c s = p5 := by rw [← hp5, ← hp4, ← hp3, ← hp2, ← hp1, ← hp0]; rfl
 rw [hl] at h1 h2
 clear hl
 have e1 : (FloatKind.f64.format.order p5.lo 0 == some .lt || FloatKind.f64.format.order p5.lo 0 == some .eq) = false := by rw [le0_gd p5.vd.l]; exact decide_eq_false (by omega)
 have C6 := Lib.hid (fun w => wide_sp p5 w)
 rw [h2] at C6
 have C7 := Lib.hid (fun w => sameA_any w)
 obtain ⟨p7, hp7⟩ : ∃ z_, afSame = z_ := ⟨_, rfl⟩
 rw [hp7] at C7
 have C8 := Lib.hid (fun w => of_sp c hc w)
 rw [hp0] at C8
 have C9 := Lib.hid (fun w => div_sp p0 p5 w)
 obtain ⟨p9, hp9⟩ : ∃ z_, divS p0 p5 = z_ := ⟨_, rfl⟩
 rw [hp9] at C9
 have C10 := Lib.hid (fun w => of_sp s hs w)
 rw [hp2] at C10
 have C11 := Lib.hid (fun w => div_sp p2 p5 w)
 obtain ⟨p11, hp11⟩ : ∃ z_, divS p2 p5 = z_ := ⟨_, rfl⟩
 rw [hp11] at C11
 have C12 := Lib.hid (fun w => neg_sp p11 w)
 obtain ⟨p12, hp12⟩ : ∃ z_, negS p11 = z_ := ⟨_, rfl⟩
 rw [hp12] at C12
 have hT : (afTurn1 (divS (ofS c) (tuL c s)) (divS (ofS s) (tuL c s))) = (⟨(⟨p9, p7.a.y, p11⟩ : V3), p7.b, (⟨p12, p7.c.y, p9⟩ : V3), p7.t⟩ : Af) := by
   subst hp0 hp1 hp2 hp3 hp4 hp5 hp7 hp9 hp11 hp12; rfl
 rw [hT]
 clear hT
 clear hp0 hp1 hp2 hp3 hp4 hp5 hp7 hp9 hp11 hp12
 go_enter Try.func13, Try.ntmps13
 go_wp2_with fail
 obtain ⟨W, hW, K0, hB, hz⟩ := bx1 w 33 #[.float .f64 0, .float .f64 0, .float .f64 0, .float .f64 0, .float .f64 0, .float .f64 0, .float .f64 0, .float .f64 0, .float .f64 0, .float .f64 0, .float .f64 0, .float .f64 0, .float .f64 0, .float .f64 0, .float .f64 0, .float .f64 0, .float .f64 0, .float .f64 0, .float .f64 0, .float .f64 0, .float .f64 0, .float .f64 0, .float .f64 0, .float .f64 0]
 rw [← hW]
 have K0 := Lib.hid K0
 have HB := Lib.hid hB
 clear hW hB hz
 have D1 := dr W
 refine (C0.out _).mono ?_
 rintro r w2 ⟨rfl, hb⟩
 have D3 := ds D1 hb
 clear D1
 clear hb
 go_wp2_with fail
 refine (C1.out _).mono ?_
 rintro r w4 ⟨rfl, hb⟩
 have D5 := ds D3 hb
 clear D3
 clear hb
 go_wp2_with fail
 refine (C2.out _).mono ?_
 rintro r w6 ⟨rfl, hb⟩
 have D7 := ds D5 hb
 clear D5
 clear hb
 go_wp2_with fail
 refine (C3.out _).mono ?_
 rintro r w8 ⟨rfl, hb⟩
 have D9 := ds D7 hb
 clear D7
 clear hb
 go_wp2_with fail
 refine (C4.out _).mono ?_
 rintro r w10 ⟨rfl, hb⟩
 have D11 := ds D9 hb
 clear D9
 clear hb
 go_wp2_with fail
 refine (C5.out _).mono ?_
 rintro r w12 ⟨rfl, hb⟩
 have D13 := ds D11 hb
 clear D11
 clear hb
 obtain ⟨g14, hg16⟩ : ∃ g, w12.heap.size = g := ⟨_, rfl⟩
 have Y18 := Lib.hid (show w.heap.size < g14 by rw [← hg16]; exact (kb K0 D13).lt)
 obtain ⟨V15, hV17⟩ : ∃ V, w12.alloc (.cells #[.float .f64 0, .float .f64 0] 28) = V := ⟨_, rfl⟩
 have K19 := ka hV17 K0 D13
 have K20 := kn hV17 hg16
 have HB21 := hba hV17 HB D13
 have D22 := dr V15
 clear K0 HB D13
 have f25 := (kb K20 D22).cellsL 0 [.float .f64 0, .float .f64 0] rfl
 dsimp only [CellsL, al, vl, Nat.reduceAdd] at f25
 have u26 := (kb K20 D22).unfrozen
 obtain ⟨V23, hV24⟩ : ∃ V, setCells V15 (g14) 0 [.float .f64 p5.lo, .float .f64 p5.hi] = V := ⟨_, rfl⟩
 have hv27 := hV24
 simp only [setCells, Nat.reduceAdd] at hv27
 have K28 := kf hV24 K19 D22 (by have := Y18.out; omega)
 have K29 := Lib.hid (show Blk V23 (g14) 28 #[.float .f64 p5.lo, .float .f64 p5.hi] from (ks hV24 K20 D22).out)
 have HB30 := hbs hV24 HB21 D22 (by have := Y18.out; omega)
 have D31 := dr V23
 clear K19 K20 HB21 D22
 have hq32 := (kb K29 D31).cellsL 0 [.float .f64 p5.lo, .float .f64 p5.hi] rfl
 dsimp only [CellsL, al, vl, Nat.reduceAdd] at hq32
 go_wp2_with fail
 clear hg16 hV17 hV24 f25 u26 hv27 hq32
 refine (C6.out _).mono ?_
 rintro r w33 ⟨rfl, hb⟩
 have D34 := ds D31 hb
 clear D31
 clear hb
 go_wp2_with fail
 refine (C7.out _).mono ?_
 rintro r w35 ⟨rfl, hb⟩
 have D36 := ds D34 hb
 clear D34
 clear hb
 obtain ⟨g37, hg39⟩ : ∃ g, w35.heap.size = g := ⟨_, rfl⟩
 have Y41 := Lib.hid (show w.heap.size < g37 ∧ g14 < g37 by rw [← hg39]; exact ⟨(kb K28 D36).lt, (kb K29 D36).lt⟩)
 obtain ⟨V38, hV40⟩ : ∃ V, w35.alloc (.cells #[.float .f64 0, .float .f64 0, .float .f64 0, .float .f64 0, .float .f64 0, .float .f64 0, .float .f64 0, .float .f64 0, .float .f64 0, .float .f64 0, .float .f64 0, .float .f64 0, .float .f64 0, .float .f64 0, .float .f64 0, .float .f64 0, .float .f64 0, .float .f64 0, .float .f64 0, .float .f64 0, .float .f64 0, .float .f64 0, .float .f64 0, .float .f64 0] 33) = V := ⟨_, rfl⟩
 have K42 := ka hV40 K28 D36
 have K43 := ka hV40 K29 D36
 have K44 := kn hV40 hg39
 have HB45 := hba hV40 HB30 D36
 have D46 := dr V38
 clear K28 K29 HB30 D36
 have Y47 := Lib.hid (And.intro Y18.out Y41.out)
 clear Y18 Y41
 have f50 := (kb K44 D46)
 obtain ⟨V48, hV49⟩ : ∃ V, World.setRow V38 (g37) (ac p7) = V := ⟨_, rfl⟩
 have K51 := kfr hV49 K42 D46 (by have := Y47.out; omega)
 have K52 := kfr hV49 K43 D46 (by have := Y47.out; omega)
 have K53 := ksr hV49 K44 D46
 have HB54 := hbr hV49 HB45 D46 (by have := Y47.out; omega)
 have D55 := dr V48
 clear K42 K43 K44 HB45 D46
 go_wp2_with (refine wpList_store_row rfl 33 _ _ rfl (g37) (ac p7) rfl rfl _ _ f50 (by rw [info_Affine]; rfl) rfl (by kernel_rfl) ?_; rw [hV49])
 clear hg39 hV40 hV49 f50
 refine wp_region_held (S := (fun w' => True ∧ CellsL w' (g14) 0 [.float .f64 p5.lo, .float .f64 p5.hi])) (by kernel_rfl) ?_
 change wpAnyH _ _ _ _ _ _ _ _ (World.drew _)
 obtain ⟨wd56, hwd⟩ : ∃ x, x = World.drew V48 := ⟨_, rfl⟩
 rw [← hwd]
 have D57 := Lib.hid (hwd ▸ Below.drew D55.out : Below V48.heap.size V48 wd56)
 clear D55 hwd
 have hS58 : True ∧ CellsL wd56 (g14) 0 [.float .f64 p5.lo, .float .f64 p5.hi] := ⟨trivial, (kb K52 D57).cellsL 0 [.float .f64 p5.lo, .float .f64 p5.hi] rfl⟩
 refine tkq 0 (bm 12 1) hS58 ?_
 refine tke 2 (bm 12 5) hS58 ?_
 refine tkq 4 (bm 12 21) hS58 ?_
 refine tke 6 (bm 12 85) hS58 ?_
 have HS63 := Lib.hid (show ∀ w', Below V48.heap.size V48 w' → (True ∧ CellsL w' (g14) 0 [.float .f64 p5.lo, .float .f64 p5.hi]) from fun w' b => ⟨trivial, (K52.out.below b K52.out.lt).cellsL 0 [.float .f64 p5.lo, .float .f64 p5.hi] rfl⟩)
 refine wpAnyH_sets2 (N := 12) (stop := 1023) (F := 2) (m := 85) (R := [1, 3, 5, 7, 8, 9]) (M := [85, 87, 341, 597, 95, 343, 599, 853, 127, 351, 607, 855, 255, 383, 639, 863, 511, 767, 895, 1023]) (fun i => if i = 1 then 1 else if i = 3 then 6 else if i = 5 then 24 else if i = 7 then 96 else if i = 8 then 0 else if i = 9 then 0 else 0) (fun a0 m a w9 => ∃ (v1 v3 v5 v7 p8_ p9_ : Value) (g8_ g9_ : Nat), a = ((((((a0.put (some 45) v1).put (some 47) v3).put (some 49) v5).put (some 51) v7).put (some 12) p8_).put (some 13) p9_) ∧ Below V48.heap.size V48 w9 ∧ (m.testBit 1 = true → v1 = Value.agg #[.float .f64 p0.lo, .float .f64 p0.hi]) ∧ (m.testBit 3 = true → v3 = Value.agg #[.float .f64 p9.lo, .float .f64 p9.hi]) ∧ (m.testBit 5 = true → v5 = Value.agg #[.float .f64 p2.lo, .float .f64 p2.hi]) ∧ (m.testBit 7 = true → v7 = Value.agg #[.float .f64 p11.lo, .float .f64 p11.hi]) ∧ (m.testBit 8 = true → p8_ = .pointer (some ⟨g8_, 0, none⟩) ∧ Blk w9 g8_ 28 #[.float .f64 0, .float .f64 0] ∧ V48.heap.size ≤ g8_) ∧ (m.testBit 9 = true → p9_ = .pointer (some ⟨g9_, 0, none⟩) ∧ Blk w9 g9_ 28 #[.float .f64 0, .float .f64 0] ∧ V48.heap.size ≤ g9_) ∧ (m.testBit 8 = true → m.testBit 9 = true → g8_ ≠ g9_)) (by kernel_rfl) (by kernel_rfl) (by kernel_rfl) (by kernel_rfl) ?st8 ?sp8 ?re8
 case st8 =>
   exact ⟨undef, undef, undef, undef, undef, undef, 0, 0, by go_simp, D57.out, fun h => absurd h (by decide), fun h => absurd h (by decide), fun h => absurd h (by decide), fun h => absurd h (by decide), fun h => absurd h (by decide), fun h => absurd h (by decide), fun h => absurd h (by decide)⟩
 case sp8 =>
   intro m a' w9 i hi hm hd hJ
   obtain ⟨v1, v3, v5, v7, p8_, p9_, g8_, g9_, rfl, hb0, cl1, cl3, cl5, cl7, ql8, ql9, dl8_9⟩ := hJ
   have CL1 := Lib.hid cl1
   have CL3 := Lib.hid cl3
   have CL5 := Lib.hid cl5
   have CL7 := Lib.hid cl7
   have QL8 := Lib.hid ql8
   have QL9 := Lib.hid ql9
   have DL8_9 := Lib.hid dl8_9
   have HB0 := Lib.hid hb0
   clear cl1 cl3 cl5 cl7 ql8 ql9 dl8_9 hb0 hS58
   simp only [List.mem_cons, List.not_mem_nil, or_false] at hi
   rcases hi with rfl | rfl | rfl | rfl | rfl | rfl
   · refine wpOp_at rfl (by kernel_rfl) (fun K hK => ?_)
     have hd := fun j => @tb_of _ _ j hd
     go_simp
     go_at_call 64
     refine (C8.out _).mono ?_
     rintro r w10 ⟨rfl, hb⟩
     dsimp only
     have hb1 := below_step HB0.out hb
     exact hK _ _ ⟨HS63.out _ hb1, _, v3, v5, v7, p8_, p9_, g8_, g9_, by go_simp, hb1, fun _ => rfl, fun h => CL3.out (by rwa [tb_ne (by decide)] at h), fun h => CL5.out (by rwa [tb_ne (by decide)] at h), fun h => CL7.out (by rwa [tb_ne (by decide)] at h), fun h => ⟨(QL8.out (by rwa [tb_ne (by decide)] at h)).1, (QL8.out (by rwa [tb_ne (by decide)] at h)).2.1.below hb (QL8.out (by rwa [tb_ne (by decide)] at h)).2.1.lt, (QL8.out (by rwa [tb_ne (by decide)] at h)).2.2⟩, fun h => ⟨(QL9.out (by rwa [tb_ne (by decide)] at h)).1, (QL9.out (by rwa [tb_ne (by decide)] at h)).2.1.below hb (QL9.out (by rwa [tb_ne (by decide)] at h)).2.1.lt, (QL9.out (by rwa [tb_ne (by decide)] at h)).2.2⟩, fun h h' => DL8_9.out (by rwa [tb_ne (by decide)] at h) (by rwa [tb_ne (by decide)] at h')⟩
   · refine wpOp_at rfl (by kernel_rfl) (fun K hK => ?_)
     have hd := fun j => @tb_of _ _ j hd
     obtain rfl := CL1.out (hd _ (by decide))
     go_simp
     go_at_call 66
     refine (C9.out _).mono ?_
     rintro r w10 ⟨rfl, hb⟩
     dsimp only
     have hb1 := below_step HB0.out hb
     exact hK _ _ ⟨HS63.out _ hb1, _, _, v5, v7, p8_, p9_, g8_, g9_, by go_simp, hb1, fun _ => rfl, fun _ => rfl, fun h => CL5.out (by rwa [tb_ne (by decide)] at h), fun h => CL7.out (by rwa [tb_ne (by decide)] at h), fun h => ⟨(QL8.out (by rwa [tb_ne (by decide)] at h)).1, (QL8.out (by rwa [tb_ne (by decide)] at h)).2.1.below hb (QL8.out (by rwa [tb_ne (by decide)] at h)).2.1.lt, (QL8.out (by rwa [tb_ne (by decide)] at h)).2.2⟩, fun h => ⟨(QL9.out (by rwa [tb_ne (by decide)] at h)).1, (QL9.out (by rwa [tb_ne (by decide)] at h)).2.1.below hb (QL9.out (by rwa [tb_ne (by decide)] at h)).2.1.lt, (QL9.out (by rwa [tb_ne (by decide)] at h)).2.2⟩, fun h h' => DL8_9.out (by rwa [tb_ne (by decide)] at h) (by rwa [tb_ne (by decide)] at h')⟩
   · refine wpOp_at rfl (by kernel_rfl) (fun K hK => ?_)
     have hd := fun j => @tb_of _ _ j hd
     obtain rfl := CL3.out (hd _ (by decide))
     go_simp
     go_at_call 64
     refine (C10.out _).mono ?_
     rintro r w10 ⟨rfl, hb⟩
     dsimp only
     have hb1 := below_step HB0.out hb
     exact hK _ _ ⟨HS63.out _ hb1, v1, _, _, v7, p8_, p9_, g8_, g9_, by go_simp, hb1, fun h => CL1.out (by rwa [tb_ne (by decide)] at h), fun _ => rfl, fun _ => rfl, fun h => CL7.out (by rwa [tb_ne (by decide)] at h), fun h => ⟨(QL8.out (by rwa [tb_ne (by decide)] at h)).1, (QL8.out (by rwa [tb_ne (by decide)] at h)).2.1.below hb (QL8.out (by rwa [tb_ne (by decide)] at h)).2.1.lt, (QL8.out (by rwa [tb_ne (by decide)] at h)).2.2⟩, fun h => ⟨(QL9.out (by rwa [tb_ne (by decide)] at h)).1, (QL9.out (by rwa [tb_ne (by decide)] at h)).2.1.below hb (QL9.out (by rwa [tb_ne (by decide)] at h)).2.1.lt, (QL9.out (by rwa [tb_ne (by decide)] at h)).2.2⟩, fun h h' => DL8_9.out (by rwa [tb_ne (by decide)] at h) (by rwa [tb_ne (by decide)] at h')⟩
   · refine wpOp_at rfl (by kernel_rfl) (fun K hK => ?_)
     have hd := fun j => @tb_of _ _ j hd
     obtain rfl := CL5.out (hd _ (by decide))
     go_simp
     go_at_call 66
     refine (C11.out _).mono ?_
     rintro r w10 ⟨rfl, hb⟩
     dsimp only
     have hb1 := below_step HB0.out hb
     exact hK _ _ ⟨HS63.out _ hb1, v1, v3, _, _, p8_, p9_, g8_, g9_, by go_simp, hb1, fun h => CL1.out (by rwa [tb_ne (by decide)] at h), fun h => CL3.out (by rwa [tb_ne (by decide)] at h), fun _ => rfl, fun _ => rfl, fun h => ⟨(QL8.out (by rwa [tb_ne (by decide)] at h)).1, (QL8.out (by rwa [tb_ne (by decide)] at h)).2.1.below hb (QL8.out (by rwa [tb_ne (by decide)] at h)).2.1.lt, (QL8.out (by rwa [tb_ne (by decide)] at h)).2.2⟩, fun h => ⟨(QL9.out (by rwa [tb_ne (by decide)] at h)).1, (QL9.out (by rwa [tb_ne (by decide)] at h)).2.1.below hb (QL9.out (by rwa [tb_ne (by decide)] at h)).2.1.lt, (QL9.out (by rwa [tb_ne (by decide)] at h)).2.2⟩, fun h h' => DL8_9.out (by rwa [tb_ne (by decide)] at h) (by rwa [tb_ne (by decide)] at h')⟩
   · refine wpOp_at rfl (by kernel_rfl) (fun K hK => ?_)
     have hd := fun j => @tb_of _ _ j hd
     go_simp
     have hb1 := below_more HB0.out (.cells #[.float .f64 0, .float .f64 0] 28)
     exact hK _ _ ⟨HS63.out _ hb1, v1, v3, v5, v7, .pointer (some ⟨w9.heap.size, 0, none⟩), p9_, w9.heap.size, g9_, by go_simp, hb1, fun h => CL1.out (by rwa [tb_ne (by decide)] at h), fun h => CL3.out (by rwa [tb_ne (by decide)] at h), fun h => CL5.out (by rwa [tb_ne (by decide)] at h), fun h => CL7.out (by rwa [tb_ne (by decide)] at h), fun _ => ⟨rfl, Blk.new_at _ _ _ rfl, HB0.out.size⟩, fun h => ⟨(QL9.out (by rwa [tb_ne (by decide)] at h)).1, (QL9.out (by rwa [tb_ne (by decide)] at h)).2.1.alloc _, (QL9.out (by rwa [tb_ne (by decide)] at h)).2.2⟩, fun h h' => Nat.ne_of_gt (QL9.out (by rwa [tb_ne (by decide)] at h')).2.1.lt⟩
   · refine wpOp_at rfl (by kernel_rfl) (fun K hK => ?_)
     have hd := fun j => @tb_of _ _ j hd
     go_simp
     have hb1 := below_more HB0.out (.cells #[.float .f64 0, .float .f64 0] 28)
     exact hK _ _ ⟨HS63.out _ hb1, v1, v3, v5, v7, p8_, .pointer (some ⟨w9.heap.size, 0, none⟩), g8_, w9.heap.size, by go_simp, hb1, fun h => CL1.out (by rwa [tb_ne (by decide)] at h), fun h => CL3.out (by rwa [tb_ne (by decide)] at h), fun h => CL5.out (by rwa [tb_ne (by decide)] at h), fun h => CL7.out (by rwa [tb_ne (by decide)] at h), fun h => ⟨(QL8.out (by rwa [tb_ne (by decide)] at h)).1, (QL8.out (by rwa [tb_ne (by decide)] at h)).2.1.alloc _, (QL8.out (by rwa [tb_ne (by decide)] at h)).2.2⟩, fun _ => ⟨rfl, Blk.new_at _ _ _ rfl, HB0.out.size⟩, fun h h' => Nat.ne_of_lt (QL8.out (by rwa [tb_ne (by decide)] at h)).2.1.lt⟩
 clear hS58 D57 HS63
 intro a' W82 hJ
 obtain ⟨v1, v3, v5, v7, p8_, p9_, g83, g84, rfl, hb0, cl1, cl3, cl5, cl7, ql8, ql9, dl8_9⟩ := hJ
 obtain rfl := cl1 (by decide)
 obtain rfl := cl3 (by decide)
 obtain rfl := cl5 (by decide)
 obtain rfl := cl7 (by decide)
 obtain ⟨rfl, kk8, ll8⟩ := ql8 (by decide)
 obtain ⟨rfl, kk9, ll9⟩ := ql9 (by decide)
 have ne8_9 := dl8_9 (by decide) (by decide)
 clear dl8_9
 have D66 := Lib.hid hb0
 clear hb0
 refine wpAnyH_frame (a' := ?frq65) ?feq65 ?fgq65
 case feq65 => (go_simp; try with_reducible rfl)
 have K68 := Lib.hid ((kb K51 D66) : Blk W82 (w.heap.size) 33 #[.float .f64 0, .float .f64 0, .float .f64 0, .float .f64 0, .float .f64 0, .float .f64 0, .float .f64 0, .float .f64 0, .float .f64 0, .float .f64 0, .float .f64 0, .float .f64 0, .float .f64 0, .float .f64 0, .float .f64 0, .float .f64 0, .float .f64 0, .float .f64 0, .float .f64 0, .float .f64 0, .float .f64 0, .float .f64 0, .float .f64 0, .float .f64 0])
 have K69 := Lib.hid ((kb K52 D66) : Blk W82 (g14) 28 #[.float .f64 p5.lo, .float .f64 p5.hi])
 have K70 := Lib.hid ((kb K53 D66) : Blk W82 (g37) 33 (ac p7))
 have K71 := Lib.hid kk8
 clear kk8
 have K74 := Lib.hid kk9
 clear kk9
 have HB77 := Lib.hid (below_step HB54.out D66.out)
 have Y73 := Lib.hid (show w.heap.size ≤ g83 ∧ w.heap.size < g83 ∧ g14 < g83 ∧ g37 < g83 from ⟨Nat.le_trans HB54.out.size ll8, Nat.lt_of_lt_of_le K51.out.lt ll8, Nat.lt_of_lt_of_le K52.out.lt ll8, Nat.lt_of_lt_of_le K53.out.lt ll8⟩)
 have Y78 := Lib.hid (And.intro Y47.out Y73.out)
 clear Y47 Y73
 have Y76 := Lib.hid (show w.heap.size ≤ g84 ∧ w.heap.size < g84 ∧ g14 < g84 ∧ g37 < g84 from ⟨Nat.le_trans HB54.out.size ll9, Nat.lt_of_lt_of_le K51.out.lt ll9, Nat.lt_of_lt_of_le K52.out.lt ll9, Nat.lt_of_lt_of_le K53.out.lt ll9⟩)
 have Y79 := Lib.hid (And.intro Y78.out Y76.out)
 clear Y78 Y76
 have Y80 := Lib.hid ne8_9
 clear ne8_9
 have Y81 := Lib.hid (And.intro Y79.out Y80.out)
 clear Y79 Y80
 clear K51 K52 K53 ll8 ll9 HB54
 have D85 := Lib.hid (Below.refl W82.heap.size W82)
 clear D66
 have hS86 : True ∧ CellsL W82 (g14) 0 [.float .f64 p5.lo, .float .f64 p5.hi] := ⟨trivial, (kb K69 D85).cellsL 0 [.float .f64 p5.lo, .float .f64 p5.hi] rfl⟩
 refine wpAnyH_oneM (i := 10) (l' := bm 12 2047) rfl (by kernel_rfl) (by kernel_rfl) (by kernel_rfl) (fun K hK => ?_)
 have f89 := (kb K71 D85).cellsL 0 [.float .f64 0, .float .f64 0] rfl
 dsimp only [CellsL, al, vl, Nat.reduceAdd] at f89
 have u90 := (kb K71 D85).unfrozen
 obtain ⟨V87, hV88⟩ : ∃ V, setCells W82 (g83) 0 [.float .f64 p9.lo, .float .f64 p9.hi] = V := ⟨_, rfl⟩
 have hv91 := hV88
 simp only [setCells, Nat.reduceAdd] at hv91
 have K92 := kf hV88 K68 D85 (by have := Y81.out; omega)
 have K93 := kf hV88 K69 D85 (by have := Y81.out; omega)
 have K94 := kf hV88 K70 D85 (by have := Y81.out; omega)
 have K95 := Lib.hid (show Blk V87 (g83) 28 #[.float .f64 p9.lo, .float .f64 p9.hi] from (ks hV88 K71 D85).out)
 have K96 := kf hV88 K74 D85 (by have := Y81.out; omega)
 have HB97 := hbs hV88 HB77 D85 (by have := Y81.out; omega)
 have D98 := dr V87
 clear K68 K69 K70 K71 K74 HB77 D85
 go_simp
 clear hV88 f89 u90 hv91
 have hS99 : True ∧ CellsL V87 (g14) 0 [.float .f64 p5.lo, .float .f64 p5.hi] := ⟨trivial, (kb K93 D98).cellsL 0 [.float .f64 p5.lo, .float .f64 p5.hi] rfl⟩
 refine hK _ _ hS99 ?_
 clear hK K hS86
 refine wpAnyH_oneM (i := 11) (l' := bm 12 4095) rfl (by kernel_rfl) (by kernel_rfl) (by kernel_rfl) (fun K hK => ?_)
 have f102 := (kb K96 D98).cellsL 0 [.float .f64 0, .float .f64 0] rfl
 dsimp only [CellsL, al, vl, Nat.reduceAdd] at f102
 have u103 := (kb K96 D98).unfrozen
 obtain ⟨V100, hV101⟩ : ∃ V, setCells V87 (g84) 0 [.float .f64 p11.lo, .float .f64 p11.hi] = V := ⟨_, rfl⟩
 have hv104 := hV101
 simp only [setCells, Nat.reduceAdd] at hv104
 have K105 := kf hV101 K92 D98 (by have := Y81.out; omega)
 have K106 := kf hV101 K93 D98 (by have := Y81.out; omega)
 have K107 := kf hV101 K94 D98 (by have := Y81.out; omega)
 have K108 := kf hV101 K95 D98 (by have := Y81.out; omega)
 have K109 := Lib.hid (show Blk V100 (g84) 28 #[.float .f64 p11.lo, .float .f64 p11.hi] from (ks hV101 K96 D98).out)
 have HB110 := hbs hV101 HB97 D98 (by have := Y81.out; omega)
 have D111 := dr V100
 clear K92 K93 K94 K95 K96 HB97 D98
 go_simp
 clear hV101 f102 u103 hv104
 have hS112 : True ∧ CellsL V100 (g14) 0 [.float .f64 p5.lo, .float .f64 p5.hi] := ⟨trivial, (kb K106 D111).cellsL 0 [.float .f64 p5.lo, .float .f64 p5.hi] rfl⟩
 refine hK _ _ hS112 ?_
 clear hK K hS99
 refine wpAnyH_done (by kernel_rfl) ?_ _
 clear hS112
 go_wp2_with fail
 refine wp_region_held (S := (fun w' => True ∧ CellsL w' (g83) 0 [.float .f64 p9.lo, .float .f64 p9.hi])) (by kernel_rfl) ?_
 change wpAnyH _ _ _ _ _ _ _ _ (World.drew _)
 obtain ⟨wd113, hwd⟩ : ∃ x, x = World.drew V100 := ⟨_, rfl⟩
 rw [← hwd]
 have D114 := Lib.hid (hwd ▸ Below.drew D111.out : Below V100.heap.size V100 wd113)
 clear D111 hwd
 have hS115 : True ∧ CellsL wd113 (g83) 0 [.float .f64 p9.lo, .float .f64 p9.hi] := ⟨trivial, (kb K108 D114).cellsL 0 [.float .f64 p9.lo, .float .f64 p9.hi] rfl⟩
 refine tkq 0 (bm 14 1) hS115 ?_
 refine tkq 1 (bm 14 3) hS115 ?_
 refine tkq 2 (bm 14 7) hS115 ?_
 refine tkq 3 (bm 14 15) hS115 ?_
 refine tke 4 (bm 14 31) hS115 ?_
 refine tke 5 (bm 14 63) hS115 ?_
 refine tkq 6 (bm 14 127) hS115 ?_
 refine tkq 7 (bm 14 255) hS115 ?_
 refine tkq 8 (bm 14 511) hS115 ?_
 refine tkq 10 (bm 14 1535) hS115 ?_
 refine tkq 11 (bm 14 3583) hS115 ?_
 refine wpAnyH_oneN (i := 9) (l' := bm 14 4095) rfl (by kernel_rfl) (by kernel_rfl) (by kernel_rfl) (fun K hK => ?_)
 have f129 := (kb K107 D114).cellsL 16 [.float .f64 p7.c.z.lo, .float .f64 p7.c.z.hi] rfl
 dsimp only [CellsL, al, vl, Nat.reduceAdd] at f129
 have u130 := (kb K107 D114).unfrozen
 obtain ⟨V127, hV128⟩ : ∃ V, setCells wd113 (g37) 16 [.float .f64 p9.lo, .float .f64 p9.hi] = V := ⟨_, rfl⟩
 have hv131 := hV128
 simp only [setCells, Nat.reduceAdd] at hv131
 have K132 := kf hV128 K105 D114 (by have := Y81.out; omega)
 have K133 := kf hV128 K106 D114 (by have := Y81.out; omega)
 have K134 := Lib.hid (show Blk V127 (g37) 33 #[.float .f64 p7.a.x.lo, .float .f64 p7.a.x.hi, .float .f64 p7.a.y.lo, .float .f64 p7.a.y.hi, .float .f64 p7.a.z.lo, .float .f64 p7.a.z.hi, .float .f64 p7.b.x.lo, .float .f64 p7.b.x.hi, .float .f64 p7.b.y.lo, .float .f64 p7.b.y.hi, .float .f64 p7.b.z.lo, .float .f64 p7.b.z.hi, .float .f64 p7.c.x.lo, .float .f64 p7.c.x.hi, .float .f64 p7.c.y.lo, .float .f64 p7.c.y.hi, .float .f64 p9.lo, .float .f64 p9.hi, .float .f64 p7.t.x.lo, .float .f64 p7.t.x.hi, .float .f64 p7.t.y.lo, .float .f64 p7.t.y.hi, .float .f64 p7.t.z.lo, .float .f64 p7.t.z.hi] from (ks hV128 K107 D114).out)
 have K135 := kf hV128 K108 D114 (by have := Y81.out; omega)
 have K136 := kf hV128 K109 D114 (by have := Y81.out; omega)
 have HB137 := hbs hV128 HB110 D114 (by have := Y81.out; omega)
 have D138 := dr V127
 clear K105 K106 K107 K108 K109 HB110 D114
 go_simp
 clear hV128 f129 u130 hv131
 have hS139 : True ∧ CellsL V127 (g83) 0 [.float .f64 p9.lo, .float .f64 p9.hi] := ⟨trivial, (kb K135 D138).cellsL 0 [.float .f64 p9.lo, .float .f64 p9.hi] rfl⟩
 refine hK _ _ hS139 ?_
 clear hK K hS115
 refine tkq 12 (bm 14 8191) hS139 ?_
 refine wpAnyH_oneN (i := 13) (l' := bm 14 16383) rfl (by kernel_rfl) (by kernel_rfl) (by kernel_rfl) (fun K hK => ?_)
 have f143 := (kb K134 D138).cellsL 0 [.float .f64 p7.a.x.lo, .float .f64 p7.a.x.hi] rfl
 dsimp only [CellsL, al, vl, Nat.reduceAdd] at f143
 have u144 := (kb K134 D138).unfrozen
 obtain ⟨V141, hV142⟩ : ∃ V, setCells V127 (g37) 0 [.float .f64 p9.lo, .float .f64 p9.hi] = V := ⟨_, rfl⟩
 have hv145 := hV142
 simp only [setCells, Nat.reduceAdd] at hv145
 have K146 := kf hV142 K132 D138 (by have := Y81.out; omega)
 have K147 := kf hV142 K133 D138 (by have := Y81.out; omega)
 have K148 := Lib.hid (show Blk V141 (g37) 33 #[.float .f64 p9.lo, .float .f64 p9.hi, .float .f64 p7.a.y.lo, .float .f64 p7.a.y.hi, .float .f64 p7.a.z.lo, .float .f64 p7.a.z.hi, .float .f64 p7.b.x.lo, .float .f64 p7.b.x.hi, .float .f64 p7.b.y.lo, .float .f64 p7.b.y.hi, .float .f64 p7.b.z.lo, .float .f64 p7.b.z.hi, .float .f64 p7.c.x.lo, .float .f64 p7.c.x.hi, .float .f64 p7.c.y.lo, .float .f64 p7.c.y.hi, .float .f64 p9.lo, .float .f64 p9.hi, .float .f64 p7.t.x.lo, .float .f64 p7.t.x.hi, .float .f64 p7.t.y.lo, .float .f64 p7.t.y.hi, .float .f64 p7.t.z.lo, .float .f64 p7.t.z.hi] from (ks hV142 K134 D138).out)
 have K149 := kf hV142 K135 D138 (by have := Y81.out; omega)
 have K150 := kf hV142 K136 D138 (by have := Y81.out; omega)
 have HB151 := hbs hV142 HB137 D138 (by have := Y81.out; omega)
 have D152 := dr V141
 clear K132 K133 K134 K135 K136 HB137 D138
 go_simp
 clear hV142 f143 u144 hv145
 have hS153 : True ∧ CellsL V141 (g83) 0 [.float .f64 p9.lo, .float .f64 p9.hi] := ⟨trivial, (kb K149 D152).cellsL 0 [.float .f64 p9.lo, .float .f64 p9.hi] rfl⟩
 refine hK _ _ hS153 ?_
 clear hK K hS139
 refine wpAnyH_done (by kernel_rfl) ?_ _
 clear hS153
 go_wp2_with fail
 refine wp_region_held (S := (fun w' => True ∧ CellsL w' (g84) 0 [.float .f64 p11.lo, .float .f64 p11.hi])) (by kernel_rfl) ?_
 change wpAnyH _ _ _ _ _ _ _ _ (World.drew _)
 obtain ⟨wd154, hwd⟩ : ∃ x, x = World.drew V141 := ⟨_, rfl⟩
 rw [← hwd]
 have D155 := Lib.hid (hwd ▸ Below.drew D152.out : Below V141.heap.size V141 wd154)
 clear D152 hwd
 have hS156 : True ∧ CellsL wd154 (g84) 0 [.float .f64 p11.lo, .float .f64 p11.hi] := ⟨trivial, (kb K150 D155).cellsL 0 [.float .f64 p11.lo, .float .f64 p11.hi] rfl⟩
 refine tkq 0 (bm 15 1) hS156 ?_
 refine tkq 1 (bm 15 3) hS156 ?_
 refine tkq 2 (bm 15 7) hS156 ?_
 refine tkq 3 (bm 15 15) hS156 ?_
 refine tke 4 (bm 15 31) hS156 ?_
 refine tke 6 (bm 15 95) hS156 ?_
 refine tkq 7 (bm 15 223) hS156 ?_
 refine tkq 8 (bm 15 479) hS156 ?_
 refine tkq 11 (bm 15 2527) hS156 ?_
 refine tkq 12 (bm 15 6623) hS156 ?_
 refine wpAnyH_oneN (i := 5) (l' := bm 15 6655) rfl (by kernel_rfl) (by kernel_rfl) (by kernel_rfl) (fun K hK => ?_)
 go_simp
 go_at_call 67
 refine (C12.out _).mono ?_
 rintro r w167 ⟨rfl, hb⟩
 dsimp only
 have D168 := ds D155 hb
 clear D155
 clear hb
 have hS169 : True ∧ CellsL w167 (g84) 0 [.float .f64 p11.lo, .float .f64 p11.hi] := ⟨trivial, (kb K150 D168).cellsL 0 [.float .f64 p11.lo, .float .f64 p11.hi] rfl⟩
 refine hK _ _ hS169 ?_
 clear hK K hS156
 refine tkq 9 (bm 15 7167) hS169 ?_
 refine wpAnyH_oneN (i := 10) (l' := bm 15 8191) rfl (by kernel_rfl) (by kernel_rfl) (by kernel_rfl) (fun K hK => ?_)
 have f173 := (kb K148 D168).cellsL 12 [.float .f64 p7.c.x.lo, .float .f64 p7.c.x.hi] rfl
 dsimp only [CellsL, al, vl, Nat.reduceAdd] at f173
 have u174 := (kb K148 D168).unfrozen
 obtain ⟨V171, hV172⟩ : ∃ V, setCells w167 (g37) 12 [.float .f64 p12.lo, .float .f64 p12.hi] = V := ⟨_, rfl⟩
 have hv175 := hV172
 simp only [setCells, Nat.reduceAdd] at hv175
 have K176 := kf hV172 K146 D168 (by have := Y81.out; omega)
 have K177 := kf hV172 K147 D168 (by have := Y81.out; omega)
 have K178 := Lib.hid (show Blk V171 (g37) 33 #[.float .f64 p9.lo, .float .f64 p9.hi, .float .f64 p7.a.y.lo, .float .f64 p7.a.y.hi, .float .f64 p7.a.z.lo, .float .f64 p7.a.z.hi, .float .f64 p7.b.x.lo, .float .f64 p7.b.x.hi, .float .f64 p7.b.y.lo, .float .f64 p7.b.y.hi, .float .f64 p7.b.z.lo, .float .f64 p7.b.z.hi, .float .f64 p12.lo, .float .f64 p12.hi, .float .f64 p7.c.y.lo, .float .f64 p7.c.y.hi, .float .f64 p9.lo, .float .f64 p9.hi, .float .f64 p7.t.x.lo, .float .f64 p7.t.x.hi, .float .f64 p7.t.y.lo, .float .f64 p7.t.y.hi, .float .f64 p7.t.z.lo, .float .f64 p7.t.z.hi] from (ks hV172 K148 D168).out)
 have K179 := kf hV172 K149 D168 (by have := Y81.out; omega)
 have K180 := kf hV172 K150 D168 (by have := Y81.out; omega)
 have HB181 := hbs hV172 HB151 D168 (by have := Y81.out; omega)
 have D182 := dr V171
 clear K146 K147 K148 K149 K150 HB151 D168
 go_simp
 clear hV172 f173 u174 hv175
 have hS183 : True ∧ CellsL V171 (g84) 0 [.float .f64 p11.lo, .float .f64 p11.hi] := ⟨trivial, (kb K180 D182).cellsL 0 [.float .f64 p11.lo, .float .f64 p11.hi] rfl⟩
 refine hK _ _ hS183 ?_
 clear hK K hS169
 refine tkq 13 (bm 15 16383) hS183 ?_
 refine wpAnyH_oneN (i := 14) (l' := bm 15 32767) rfl (by kernel_rfl) (by kernel_rfl) (by kernel_rfl) (fun K hK => ?_)
 have f187 := (kb K178 D182).cellsL 4 [.float .f64 p7.a.z.lo, .float .f64 p7.a.z.hi] rfl
 dsimp only [CellsL, al, vl, Nat.reduceAdd] at f187
 have u188 := (kb K178 D182).unfrozen
 obtain ⟨V185, hV186⟩ : ∃ V, setCells V171 (g37) 4 [.float .f64 p11.lo, .float .f64 p11.hi] = V := ⟨_, rfl⟩
 have hv189 := hV186
 simp only [setCells, Nat.reduceAdd] at hv189
 have K190 := kf hV186 K176 D182 (by have := Y81.out; omega)
 have K191 := kf hV186 K177 D182 (by have := Y81.out; omega)
 have K192 := Lib.hid (show Blk V185 (g37) 33 #[.float .f64 p9.lo, .float .f64 p9.hi, .float .f64 p7.a.y.lo, .float .f64 p7.a.y.hi, .float .f64 p11.lo, .float .f64 p11.hi, .float .f64 p7.b.x.lo, .float .f64 p7.b.x.hi, .float .f64 p7.b.y.lo, .float .f64 p7.b.y.hi, .float .f64 p7.b.z.lo, .float .f64 p7.b.z.hi, .float .f64 p12.lo, .float .f64 p12.hi, .float .f64 p7.c.y.lo, .float .f64 p7.c.y.hi, .float .f64 p9.lo, .float .f64 p9.hi, .float .f64 p7.t.x.lo, .float .f64 p7.t.x.hi, .float .f64 p7.t.y.lo, .float .f64 p7.t.y.hi, .float .f64 p7.t.z.lo, .float .f64 p7.t.z.hi] from (ks hV186 K178 D182).out)
 have K193 := kf hV186 K179 D182 (by have := Y81.out; omega)
 have K194 := kf hV186 K180 D182 (by have := Y81.out; omega)
 have HB195 := hbs hV186 HB181 D182 (by have := Y81.out; omega)
 have D196 := dr V185
 clear K176 K177 K178 K179 K180 HB181 D182
 go_simp
 clear hV186 f187 u188 hv189
 have hS197 : True ∧ CellsL V185 (g84) 0 [.float .f64 p11.lo, .float .f64 p11.hi] := ⟨trivial, (kb K194 D196).cellsL 0 [.float .f64 p11.lo, .float .f64 p11.hi] rfl⟩
 refine hK _ _ hS197 ?_
 clear hK K hS183
 refine wpAnyH_done (by kernel_rfl) ?_ _
 clear hS197
 have f198 := (kb K192 D196)
 have f201 := (kb K190 D196)
 obtain ⟨V199, hV200⟩ : ∃ V, World.setRow V185 (w.heap.size) #[.float .f64 p9.lo, .float .f64 p9.hi, .float .f64 p7.a.y.lo, .float .f64 p7.a.y.hi, .float .f64 p11.lo, .float .f64 p11.hi, .float .f64 p7.b.x.lo, .float .f64 p7.b.x.hi, .float .f64 p7.b.y.lo, .float .f64 p7.b.y.hi, .float .f64 p7.b.z.lo, .float .f64 p7.b.z.hi, .float .f64 p12.lo, .float .f64 p12.hi, .float .f64 p7.c.y.lo, .float .f64 p7.c.y.hi, .float .f64 p9.lo, .float .f64 p9.hi, .float .f64 p7.t.x.lo, .float .f64 p7.t.x.hi, .float .f64 p7.t.y.lo, .float .f64 p7.t.y.hi, .float .f64 p7.t.z.lo, .float .f64 p7.t.z.hi] = V := ⟨_, rfl⟩
 have K202 := ksr hV200 K190 D196
 have K203 := kfr hV200 K191 D196 (by have := Y81.out; omega)
 have K204 := kfr hV200 K192 D196 (by have := Y81.out; omega)
 have K205 := kfr hV200 K193 D196 (by have := Y81.out; omega)
 have K206 := kfr hV200 K194 D196 (by have := Y81.out; omega)
 have HB207 := hbr hV200 HB195 D196 (by have := Y81.out; omega)
 have D208 := dr V199
 clear K190 K191 K192 K193 K194 HB195 D196
 go_wp2_with (first | (refine wpList_store_row rfl 33 _ _ rfl (w.heap.size) #[.float .f64 p9.lo, .float .f64 p9.hi, .float .f64 p7.a.y.lo, .float .f64 p7.a.y.hi, .float .f64 p11.lo, .float .f64 p11.hi, .float .f64 p7.b.x.lo, .float .f64 p7.b.x.hi, .float .f64 p7.b.y.lo, .float .f64 p7.b.y.hi, .float .f64 p7.b.z.lo, .float .f64 p7.b.z.hi, .float .f64 p12.lo, .float .f64 p12.hi, .float .f64 p7.c.y.lo, .float .f64 p7.c.y.hi, .float .f64 p9.lo, .float .f64 p9.hi, .float .f64 p7.t.x.lo, .float .f64 p7.t.x.hi, .float .f64 p7.t.y.lo, .float .f64 p7.t.y.hi, .float .f64 p7.t.z.lo, .float .f64 p7.t.z.hi] rfl rfl _ _ f201 (by rw [info_Affine]; rfl) rfl (by kernel_rfl) ?_; rw [hV200]) | (refine wl_load (by kernel_rfl) rfl rfl f198 (by rw [info_Affine]; rfl) Try.underlying33 rfl ?_))
 clear f198 hV200 f201
 (try simp only [Exit.inBlock, Exit.then])
 exact bodyPost_ret (res_ct rfl _ _ (w.heap.size) #[.float .f64 p9.lo, .float .f64 p9.hi, .float .f64 p7.a.y.lo, .float .f64 p7.a.y.hi, .float .f64 p11.lo, .float .f64 p11.hi, .float .f64 p7.b.x.lo, .float .f64 p7.b.x.hi, .float .f64 p7.b.y.lo, .float .f64 p7.b.y.hi, .float .f64 p7.b.z.lo, .float .f64 p7.b.z.hi, .float .f64 p12.lo, .float .f64 p12.hi, .float .f64 p7.c.y.lo, .float .f64 p7.c.y.hi, .float .f64 p9.lo, .float .f64 p9.hi, .float .f64 p7.t.x.lo, .float .f64 p7.t.x.hi, .float .f64 p7.t.y.lo, .float .f64 p7.t.y.hi, .float .f64 p7.t.z.lo, .float .f64 p7.t.z.hi] rfl (kb K202 D208) (by rw [info_Affine]; rfl) Try.underlying33 rfl) rfl ⟨rfl, below_step HB207.out D208.out⟩
theorem turnA_k2 (c s : Nat) (hc : c < 18446744073709551616) (hs : s < 18446744073709551616) (h1 : 0 < Z (tuL c s).lo) (h2 : (tuL c s).wide = false) (w : World) : Calls Try.prog 13 #[Value.int IntKind.i64 2, .float .f64 c, .float .f64 s] w fun r w' => r = .returned (.tuple #[aval (afTurn2 (divS (ofS c) (tuL c s)) (divS (ofS s) (tuL c s))), .int .i64 0]) ∧ Below w.heap.size w w' := by
 have C0 := Lib.hid (fun w => of_sp c hc w)
 obtain ⟨p0, hp0⟩ : ∃ z_, ofS c = z_ := ⟨_, rfl⟩
 rw [hp0] at C0
 have C1 := Lib.hid (fun w => sqr_sp p0 w)
 obtain ⟨p1, hp1⟩ : ∃ z_, sqrS p0 = z_ := ⟨_, rfl⟩
 rw [hp1] at C1
 have C2 := Lib.hid (fun w => of_sp s hs w)
 obtain ⟨p2, hp2⟩ : ∃ z_, ofS s = z_ := ⟨_, rfl⟩
 rw [hp2] at C2
 have C3 := Lib.hid (fun w => sqr_sp p2 w)
 obtain ⟨p3, hp3⟩ : ∃ z_, sqrS p2 = z_ := ⟨_, rfl⟩
 rw [hp3] at C3
 have C4 := Lib.hid (fun w => add_sp p1 p3 w)
 obtain ⟨p4, hp4⟩ : ∃ z_, addS p1 p3 = z_ := ⟨_, rfl⟩
 rw [hp4] at C4
 have C5 := Lib.hid (fun w => sqrt_sp p4 w)
 obtain ⟨p5, hp5⟩ : ∃ z_, sqrtS p4 = z_ := ⟨_, rfl⟩
 rw [hp5] at C5
 have hl : tuL c s = p5 := by rw [← hp5, ← hp4, ← hp3, ← hp2, ← hp1, ← hp0]; rfl
 rw [hl] at h1 h2
 clear hl
 have e1 : (FloatKind.f64.format.order p5.lo 0 == some .lt || FloatKind.f64.format.order p5.lo 0 == some .eq) = false := by rw [le0_gd p5.vd.l]; exact decide_eq_false (by omega)
 have C6 := Lib.hid (fun w => wide_sp p5 w)
 rw [h2] at C6
 have C7 := Lib.hid (fun w => sameA_any w)
 obtain ⟨p7, hp7⟩ : ∃ z_, afSame = z_ := ⟨_, rfl⟩
 rw [hp7] at C7
 have C8 := Lib.hid (fun w => of_sp c hc w)
 rw [hp0] at C8
 have C9 := Lib.hid (fun w => div_sp p0 p5 w)
 obtain ⟨p9, hp9⟩ : ∃ z_, divS p0 p5 = z_ := ⟨_, rfl⟩
 rw [hp9] at C9
 have C10 := Lib.hid (fun w => of_sp s hs w)
 rw [hp2] at C10
 have C11 := Lib.hid (fun w => div_sp p2 p5 w)
 obtain ⟨p11, hp11⟩ : ∃ z_, divS p2 p5 = z_ := ⟨_, rfl⟩
 rw [hp11] at C11
 have C12 := Lib.hid (fun w => neg_sp p11 w)
 obtain ⟨p12, hp12⟩ : ∃ z_, negS p11 = z_ := ⟨_, rfl⟩
 rw [hp12] at C12
 have hT : (afTurn2 (divS (ofS c) (tuL c s)) (divS (ofS s) (tuL c s))) = (⟨(⟨p9, p12, p7.a.z⟩ : V3), (⟨p11, p9, p7.b.z⟩ : V3), p7.c, p7.t⟩ : Af) := by
   subst hp0 hp1 hp2 hp3 hp4 hp5 hp7 hp9 hp11 hp12; rfl
 rw [hT]
 clear hT
 clear hp0 hp1 hp2 hp3 hp4 hp5 hp7 hp9 hp11 hp12
 go_enter Try.func13, Try.ntmps13
 go_wp2_with fail
 obtain ⟨W, hW, K0, hB, hz⟩ := bx1 w 33 #[.float .f64 0, .float .f64 0, .float .f64 0, .float .f64 0, .float .f64 0, .float .f64 0, .float .f64 0, .float .f64 0, .float .f64 0, .float .f64 0, .float .f64 0, .float .f64 0, .float .f64 0, .float .f64 0, .float .f64 0, .float .f64 0, .float .f64 0, .float .f64 0, .float .f64 0, .float .f64 0, .float .f64 0, .float .f64 0, .float .f64 0, .float .f64 0]
 rw [← hW]
 have K0 := Lib.hid K0
 have HB := Lib.hid hB
 clear hW hB hz
 have D1 := dr W
 refine (C0.out _).mono ?_
 rintro r w2 ⟨rfl, hb⟩
 have D3 := ds D1 hb
 clear D1
 clear hb
 go_wp2_with fail
 refine (C1.out _).mono ?_
 rintro r w4 ⟨rfl, hb⟩
 have D5 := ds D3 hb
 clear D3
 clear hb
 go_wp2_with fail
 refine (C2.out _).mono ?_
 rintro r w6 ⟨rfl, hb⟩
 have D7 := ds D5 hb
 clear D5
 clear hb
 go_wp2_with fail
 refine (C3.out _).mono ?_
 rintro r w8 ⟨rfl, hb⟩
 have D9 := ds D7 hb
 clear D7
 clear hb
 go_wp2_with fail
 refine (C4.out _).mono ?_
 rintro r w10 ⟨rfl, hb⟩
 have D11 := ds D9 hb
 clear D9
 clear hb
 go_wp2_with fail
 refine (C5.out _).mono ?_
 rintro r w12 ⟨rfl, hb⟩
 have D13 := ds D11 hb
 clear D11
 clear hb
 obtain ⟨g14, hg16⟩ : ∃ g, w12.heap.size = g := ⟨_, rfl⟩
 have Y18 := Lib.hid (show w.heap.size < g14 by rw [← hg16]; exact (kb K0 D13).lt)
 obtain ⟨V15, hV17⟩ : ∃ V, w12.alloc (.cells #[.float .f64 0, .float .f64 0] 28) = V := ⟨_, rfl⟩
 have K19 := ka hV17 K0 D13
 have K20 := kn hV17 hg16
 have HB21 := hba hV17 HB D13
 have D22 := dr V15
 clear K0 HB D13
 have f25 := (kb K20 D22).cellsL 0 [.float .f64 0, .float .f64 0] rfl
 dsimp only [CellsL, al, vl, Nat.reduceAdd] at f25
 have u26 := (kb K20 D22).unfrozen
 obtain ⟨V23, hV24⟩ : ∃ V, setCells V15 (g14) 0 [.float .f64 p5.lo, .float .f64 p5.hi] = V := ⟨_, rfl⟩
 have hv27 := hV24
 simp only [setCells, Nat.reduceAdd] at hv27
 have K28 := kf hV24 K19 D22 (by have := Y18.out; omega)
 have K29 := Lib.hid (show Blk V23 (g14) 28 #[.float .f64 p5.lo, .float .f64 p5.hi] from (ks hV24 K20 D22).out)
 have HB30 := hbs hV24 HB21 D22 (by have := Y18.out; omega)
 have D31 := dr V23
 clear K19 K20 HB21 D22
 have hq32 := (kb K29 D31).cellsL 0 [.float .f64 p5.lo, .float .f64 p5.hi] rfl
 dsimp only [CellsL, al, vl, Nat.reduceAdd] at hq32
 go_wp2_with fail
 clear hg16 hV17 hV24 f25 u26 hv27 hq32
 refine (C6.out _).mono ?_
 rintro r w33 ⟨rfl, hb⟩
 have D34 := ds D31 hb
 clear D31
 clear hb
 go_wp2_with fail
 refine (C7.out _).mono ?_
 rintro r w35 ⟨rfl, hb⟩
 have D36 := ds D34 hb
 clear D34
 clear hb
 obtain ⟨g37, hg39⟩ : ∃ g, w35.heap.size = g := ⟨_, rfl⟩
 have Y41 := Lib.hid (show w.heap.size < g37 ∧ g14 < g37 by rw [← hg39]; exact ⟨(kb K28 D36).lt, (kb K29 D36).lt⟩)
 obtain ⟨V38, hV40⟩ : ∃ V, w35.alloc (.cells #[.float .f64 0, .float .f64 0, .float .f64 0, .float .f64 0, .float .f64 0, .float .f64 0, .float .f64 0, .float .f64 0, .float .f64 0, .float .f64 0, .float .f64 0, .float .f64 0, .float .f64 0, .float .f64 0, .float .f64 0, .float .f64 0, .float .f64 0, .float .f64 0, .float .f64 0, .float .f64 0, .float .f64 0, .float .f64 0, .float .f64 0, .float .f64 0] 33) = V := ⟨_, rfl⟩
 have K42 := ka hV40 K28 D36
 have K43 := ka hV40 K29 D36
 have K44 := kn hV40 hg39
 have HB45 := hba hV40 HB30 D36
 have D46 := dr V38
 clear K28 K29 HB30 D36
 have Y47 := Lib.hid (And.intro Y18.out Y41.out)
 clear Y18 Y41
 have f50 := (kb K44 D46)
 obtain ⟨V48, hV49⟩ : ∃ V, World.setRow V38 (g37) (ac p7) = V := ⟨_, rfl⟩
 have K51 := kfr hV49 K42 D46 (by have := Y47.out; omega)
 have K52 := kfr hV49 K43 D46 (by have := Y47.out; omega)
 have K53 := ksr hV49 K44 D46
 have HB54 := hbr hV49 HB45 D46 (by have := Y47.out; omega)
 have D55 := dr V48
 clear K42 K43 K44 HB45 D46
 go_wp2_with (refine wpList_store_row rfl 33 _ _ rfl (g37) (ac p7) rfl rfl _ _ f50 (by rw [info_Affine]; rfl) rfl (by kernel_rfl) ?_; rw [hV49])
 clear hg39 hV40 hV49 f50
 refine wp_region_held (S := (fun w' => True ∧ CellsL w' (g14) 0 [.float .f64 p5.lo, .float .f64 p5.hi])) (by kernel_rfl) ?_
 change wpAnyH _ _ _ _ _ _ _ _ (World.drew _)
 obtain ⟨wd56, hwd⟩ : ∃ x, x = World.drew V48 := ⟨_, rfl⟩
 rw [← hwd]
 have D57 := Lib.hid (hwd ▸ Below.drew D55.out : Below V48.heap.size V48 wd56)
 clear D55 hwd
 have hS58 : True ∧ CellsL wd56 (g14) 0 [.float .f64 p5.lo, .float .f64 p5.hi] := ⟨trivial, (kb K52 D57).cellsL 0 [.float .f64 p5.lo, .float .f64 p5.hi] rfl⟩
 refine tkq 0 (bm 12 1) hS58 ?_
 refine tke 2 (bm 12 5) hS58 ?_
 refine tkq 4 (bm 12 21) hS58 ?_
 refine tke 6 (bm 12 85) hS58 ?_
 have HS63 := Lib.hid (show ∀ w', Below V48.heap.size V48 w' → (True ∧ CellsL w' (g14) 0 [.float .f64 p5.lo, .float .f64 p5.hi]) from fun w' b => ⟨trivial, (K52.out.below b K52.out.lt).cellsL 0 [.float .f64 p5.lo, .float .f64 p5.hi] rfl⟩)
 refine wpAnyH_sets2 (N := 12) (stop := 1023) (F := 2) (m := 85) (R := [1, 3, 5, 7, 8, 9]) (M := [85, 87, 341, 597, 95, 343, 599, 853, 127, 351, 607, 855, 255, 383, 639, 863, 511, 767, 895, 1023]) (fun i => if i = 1 then 1 else if i = 3 then 6 else if i = 5 then 24 else if i = 7 then 96 else if i = 8 then 0 else if i = 9 then 0 else 0) (fun a0 m a w9 => ∃ (v1 v3 v5 v7 p8_ p9_ : Value) (g8_ g9_ : Nat), a = ((((((a0.put (some 45) v1).put (some 47) v3).put (some 49) v5).put (some 51) v7).put (some 12) p8_).put (some 13) p9_) ∧ Below V48.heap.size V48 w9 ∧ (m.testBit 1 = true → v1 = Value.agg #[.float .f64 p0.lo, .float .f64 p0.hi]) ∧ (m.testBit 3 = true → v3 = Value.agg #[.float .f64 p9.lo, .float .f64 p9.hi]) ∧ (m.testBit 5 = true → v5 = Value.agg #[.float .f64 p2.lo, .float .f64 p2.hi]) ∧ (m.testBit 7 = true → v7 = Value.agg #[.float .f64 p11.lo, .float .f64 p11.hi]) ∧ (m.testBit 8 = true → p8_ = .pointer (some ⟨g8_, 0, none⟩) ∧ Blk w9 g8_ 28 #[.float .f64 0, .float .f64 0] ∧ V48.heap.size ≤ g8_) ∧ (m.testBit 9 = true → p9_ = .pointer (some ⟨g9_, 0, none⟩) ∧ Blk w9 g9_ 28 #[.float .f64 0, .float .f64 0] ∧ V48.heap.size ≤ g9_) ∧ (m.testBit 8 = true → m.testBit 9 = true → g8_ ≠ g9_)) (by kernel_rfl) (by kernel_rfl) (by kernel_rfl) (by kernel_rfl) ?st8 ?sp8 ?re8
 case st8 =>
   exact ⟨undef, undef, undef, undef, undef, undef, 0, 0, by go_simp, D57.out, fun h => absurd h (by decide), fun h => absurd h (by decide), fun h => absurd h (by decide), fun h => absurd h (by decide), fun h => absurd h (by decide), fun h => absurd h (by decide), fun h => absurd h (by decide)⟩
 case sp8 =>
   intro m a' w9 i hi hm hd hJ
   obtain ⟨v1, v3, v5, v7, p8_, p9_, g8_, g9_, rfl, hb0, cl1, cl3, cl5, cl7, ql8, ql9, dl8_9⟩ := hJ
   have CL1 := Lib.hid cl1
   have CL3 := Lib.hid cl3
   have CL5 := Lib.hid cl5
   have CL7 := Lib.hid cl7
   have QL8 := Lib.hid ql8
   have QL9 := Lib.hid ql9
   have DL8_9 := Lib.hid dl8_9
   have HB0 := Lib.hid hb0
   clear cl1 cl3 cl5 cl7 ql8 ql9 dl8_9 hb0 hS58
   simp only [List.mem_cons, List.not_mem_nil, or_false] at hi
   rcases hi with rfl | rfl | rfl | rfl | rfl | rfl
   · refine wpOp_at rfl (by kernel_rfl) (fun K hK => ?_)
     have hd := fun j => @tb_of _ _ j hd
     go_simp
     go_at_call 64
     refine (C8.out _).mono ?_
     rintro r w10 ⟨rfl, hb⟩
     dsimp only
     have hb1 := below_step HB0.out hb
     exact hK _ _ ⟨HS63.out _ hb1, _, v3, v5, v7, p8_, p9_, g8_, g9_, by go_simp, hb1, fun _ => rfl, fun h => CL3.out (by rwa [tb_ne (by decide)] at h), fun h => CL5.out (by rwa [tb_ne (by decide)] at h), fun h => CL7.out (by rwa [tb_ne (by decide)] at h), fun h => ⟨(QL8.out (by rwa [tb_ne (by decide)] at h)).1, (QL8.out (by rwa [tb_ne (by decide)] at h)).2.1.below hb (QL8.out (by rwa [tb_ne (by decide)] at h)).2.1.lt, (QL8.out (by rwa [tb_ne (by decide)] at h)).2.2⟩, fun h => ⟨(QL9.out (by rwa [tb_ne (by decide)] at h)).1, (QL9.out (by rwa [tb_ne (by decide)] at h)).2.1.below hb (QL9.out (by rwa [tb_ne (by decide)] at h)).2.1.lt, (QL9.out (by rwa [tb_ne (by decide)] at h)).2.2⟩, fun h h' => DL8_9.out (by rwa [tb_ne (by decide)] at h) (by rwa [tb_ne (by decide)] at h')⟩
   · refine wpOp_at rfl (by kernel_rfl) (fun K hK => ?_)
     have hd := fun j => @tb_of _ _ j hd
     obtain rfl := CL1.out (hd _ (by decide))
     go_simp
     go_at_call 66
     refine (C9.out _).mono ?_
     rintro r w10 ⟨rfl, hb⟩
     dsimp only
     have hb1 := below_step HB0.out hb
     exact hK _ _ ⟨HS63.out _ hb1, _, _, v5, v7, p8_, p9_, g8_, g9_, by go_simp, hb1, fun _ => rfl, fun _ => rfl, fun h => CL5.out (by rwa [tb_ne (by decide)] at h), fun h => CL7.out (by rwa [tb_ne (by decide)] at h), fun h => ⟨(QL8.out (by rwa [tb_ne (by decide)] at h)).1, (QL8.out (by rwa [tb_ne (by decide)] at h)).2.1.below hb (QL8.out (by rwa [tb_ne (by decide)] at h)).2.1.lt, (QL8.out (by rwa [tb_ne (by decide)] at h)).2.2⟩, fun h => ⟨(QL9.out (by rwa [tb_ne (by decide)] at h)).1, (QL9.out (by rwa [tb_ne (by decide)] at h)).2.1.below hb (QL9.out (by rwa [tb_ne (by decide)] at h)).2.1.lt, (QL9.out (by rwa [tb_ne (by decide)] at h)).2.2⟩, fun h h' => DL8_9.out (by rwa [tb_ne (by decide)] at h) (by rwa [tb_ne (by decide)] at h')⟩
   · refine wpOp_at rfl (by kernel_rfl) (fun K hK => ?_)
     have hd := fun j => @tb_of _ _ j hd
     obtain rfl := CL3.out (hd _ (by decide))
     go_simp
     go_at_call 64
     refine (C10.out _).mono ?_
     rintro r w10 ⟨rfl, hb⟩
     dsimp only
     have hb1 := below_step HB0.out hb
     exact hK _ _ ⟨HS63.out _ hb1, v1, _, _, v7, p8_, p9_, g8_, g9_, by go_simp, hb1, fun h => CL1.out (by rwa [tb_ne (by decide)] at h), fun _ => rfl, fun _ => rfl, fun h => CL7.out (by rwa [tb_ne (by decide)] at h), fun h => ⟨(QL8.out (by rwa [tb_ne (by decide)] at h)).1, (QL8.out (by rwa [tb_ne (by decide)] at h)).2.1.below hb (QL8.out (by rwa [tb_ne (by decide)] at h)).2.1.lt, (QL8.out (by rwa [tb_ne (by decide)] at h)).2.2⟩, fun h => ⟨(QL9.out (by rwa [tb_ne (by decide)] at h)).1, (QL9.out (by rwa [tb_ne (by decide)] at h)).2.1.below hb (QL9.out (by rwa [tb_ne (by decide)] at h)).2.1.lt, (QL9.out (by rwa [tb_ne (by decide)] at h)).2.2⟩, fun h h' => DL8_9.out (by rwa [tb_ne (by decide)] at h) (by rwa [tb_ne (by decide)] at h')⟩
   · refine wpOp_at rfl (by kernel_rfl) (fun K hK => ?_)
     have hd := fun j => @tb_of _ _ j hd
     obtain rfl := CL5.out (hd _ (by decide))
     go_simp
     go_at_call 66
     refine (C11.out _).mono ?_
     rintro r w10 ⟨rfl, hb⟩
     dsimp only
     have hb1 := below_step HB0.out hb
     exact hK _ _ ⟨HS63.out _ hb1, v1, v3, _, _, p8_, p9_, g8_, g9_, by go_simp, hb1, fun h => CL1.out (by rwa [tb_ne (by decide)] at h), fun h => CL3.out (by rwa [tb_ne (by decide)] at h), fun _ => rfl, fun _ => rfl, fun h => ⟨(QL8.out (by rwa [tb_ne (by decide)] at h)).1, (QL8.out (by rwa [tb_ne (by decide)] at h)).2.1.below hb (QL8.out (by rwa [tb_ne (by decide)] at h)).2.1.lt, (QL8.out (by rwa [tb_ne (by decide)] at h)).2.2⟩, fun h => ⟨(QL9.out (by rwa [tb_ne (by decide)] at h)).1, (QL9.out (by rwa [tb_ne (by decide)] at h)).2.1.below hb (QL9.out (by rwa [tb_ne (by decide)] at h)).2.1.lt, (QL9.out (by rwa [tb_ne (by decide)] at h)).2.2⟩, fun h h' => DL8_9.out (by rwa [tb_ne (by decide)] at h) (by rwa [tb_ne (by decide)] at h')⟩
   · refine wpOp_at rfl (by kernel_rfl) (fun K hK => ?_)
     have hd := fun j => @tb_of _ _ j hd
     go_simp
     have hb1 := below_more HB0.out (.cells #[.float .f64 0, .float .f64 0] 28)
     exact hK _ _ ⟨HS63.out _ hb1, v1, v3, v5, v7, .pointer (some ⟨w9.heap.size, 0, none⟩), p9_, w9.heap.size, g9_, by go_simp, hb1, fun h => CL1.out (by rwa [tb_ne (by decide)] at h), fun h => CL3.out (by rwa [tb_ne (by decide)] at h), fun h => CL5.out (by rwa [tb_ne (by decide)] at h), fun h => CL7.out (by rwa [tb_ne (by decide)] at h), fun _ => ⟨rfl, Blk.new_at _ _ _ rfl, HB0.out.size⟩, fun h => ⟨(QL9.out (by rwa [tb_ne (by decide)] at h)).1, (QL9.out (by rwa [tb_ne (by decide)] at h)).2.1.alloc _, (QL9.out (by rwa [tb_ne (by decide)] at h)).2.2⟩, fun h h' => Nat.ne_of_gt (QL9.out (by rwa [tb_ne (by decide)] at h')).2.1.lt⟩
   · refine wpOp_at rfl (by kernel_rfl) (fun K hK => ?_)
     have hd := fun j => @tb_of _ _ j hd
     go_simp
     have hb1 := below_more HB0.out (.cells #[.float .f64 0, .float .f64 0] 28)
     exact hK _ _ ⟨HS63.out _ hb1, v1, v3, v5, v7, p8_, .pointer (some ⟨w9.heap.size, 0, none⟩), g8_, w9.heap.size, by go_simp, hb1, fun h => CL1.out (by rwa [tb_ne (by decide)] at h), fun h => CL3.out (by rwa [tb_ne (by decide)] at h), fun h => CL5.out (by rwa [tb_ne (by decide)] at h), fun h => CL7.out (by rwa [tb_ne (by decide)] at h), fun h => ⟨(QL8.out (by rwa [tb_ne (by decide)] at h)).1, (QL8.out (by rwa [tb_ne (by decide)] at h)).2.1.alloc _, (QL8.out (by rwa [tb_ne (by decide)] at h)).2.2⟩, fun _ => ⟨rfl, Blk.new_at _ _ _ rfl, HB0.out.size⟩, fun h h' => Nat.ne_of_lt (QL8.out (by rwa [tb_ne (by decide)] at h)).2.1.lt⟩
 clear hS58 D57 HS63
 intro a' W82 hJ
 obtain ⟨v1, v3, v5, v7, p8_, p9_, g83, g84, rfl, hb0, cl1, cl3, cl5, cl7, ql8, ql9, dl8_9⟩ := hJ
 obtain rfl := cl1 (by decide)
 obtain rfl := cl3 (by decide)
 obtain rfl := cl5 (by decide)
 obtain rfl := cl7 (by decide)
 obtain ⟨rfl, kk8, ll8⟩ := ql8 (by decide)
 obtain ⟨rfl, kk9, ll9⟩ := ql9 (by decide)
 have ne8_9 := dl8_9 (by decide) (by decide)
 clear dl8_9
 have D66 := Lib.hid hb0
 clear hb0
 refine wpAnyH_frame (a' := ?frq65) ?feq65 ?fgq65
 case feq65 => (go_simp; try with_reducible rfl)
 have K68 := Lib.hid ((kb K51 D66) : Blk W82 (w.heap.size) 33 #[.float .f64 0, .float .f64 0, .float .f64 0, .float .f64 0, .float .f64 0, .float .f64 0, .float .f64 0, .float .f64 0, .float .f64 0, .float .f64 0, .float .f64 0, .float .f64 0, .float .f64 0, .float .f64 0, .float .f64 0, .float .f64 0, .float .f64 0, .float .f64 0, .float .f64 0, .float .f64 0, .float .f64 0, .float .f64 0, .float .f64 0, .float .f64 0])
 have K69 := Lib.hid ((kb K52 D66) : Blk W82 (g14) 28 #[.float .f64 p5.lo, .float .f64 p5.hi])
 have K70 := Lib.hid ((kb K53 D66) : Blk W82 (g37) 33 (ac p7))
 have K71 := Lib.hid kk8
 clear kk8
 have K74 := Lib.hid kk9
 clear kk9
 have HB77 := Lib.hid (below_step HB54.out D66.out)
 have Y73 := Lib.hid (show w.heap.size ≤ g83 ∧ w.heap.size < g83 ∧ g14 < g83 ∧ g37 < g83 from ⟨Nat.le_trans HB54.out.size ll8, Nat.lt_of_lt_of_le K51.out.lt ll8, Nat.lt_of_lt_of_le K52.out.lt ll8, Nat.lt_of_lt_of_le K53.out.lt ll8⟩)
 have Y78 := Lib.hid (And.intro Y47.out Y73.out)
 clear Y47 Y73
 have Y76 := Lib.hid (show w.heap.size ≤ g84 ∧ w.heap.size < g84 ∧ g14 < g84 ∧ g37 < g84 from ⟨Nat.le_trans HB54.out.size ll9, Nat.lt_of_lt_of_le K51.out.lt ll9, Nat.lt_of_lt_of_le K52.out.lt ll9, Nat.lt_of_lt_of_le K53.out.lt ll9⟩)
 have Y79 := Lib.hid (And.intro Y78.out Y76.out)
 clear Y78 Y76
 have Y80 := Lib.hid ne8_9
 clear ne8_9
 have Y81 := Lib.hid (And.intro Y79.out Y80.out)
 clear Y79 Y80
 clear K51 K52 K53 ll8 ll9 HB54
 have D85 := Lib.hid (Below.refl W82.heap.size W82)
 clear D66
 have hS86 : True ∧ CellsL W82 (g14) 0 [.float .f64 p5.lo, .float .f64 p5.hi] := ⟨trivial, (kb K69 D85).cellsL 0 [.float .f64 p5.lo, .float .f64 p5.hi] rfl⟩
 refine wpAnyH_oneM (i := 10) (l' := bm 12 2047) rfl (by kernel_rfl) (by kernel_rfl) (by kernel_rfl) (fun K hK => ?_)
 have f89 := (kb K71 D85).cellsL 0 [.float .f64 0, .float .f64 0] rfl
 dsimp only [CellsL, al, vl, Nat.reduceAdd] at f89
 have u90 := (kb K71 D85).unfrozen
 obtain ⟨V87, hV88⟩ : ∃ V, setCells W82 (g83) 0 [.float .f64 p9.lo, .float .f64 p9.hi] = V := ⟨_, rfl⟩
 have hv91 := hV88
 simp only [setCells, Nat.reduceAdd] at hv91
 have K92 := kf hV88 K68 D85 (by have := Y81.out; omega)
 have K93 := kf hV88 K69 D85 (by have := Y81.out; omega)
 have K94 := kf hV88 K70 D85 (by have := Y81.out; omega)
 have K95 := Lib.hid (show Blk V87 (g83) 28 #[.float .f64 p9.lo, .float .f64 p9.hi] from (ks hV88 K71 D85).out)
 have K96 := kf hV88 K74 D85 (by have := Y81.out; omega)
 have HB97 := hbs hV88 HB77 D85 (by have := Y81.out; omega)
 have D98 := dr V87
 clear K68 K69 K70 K71 K74 HB77 D85
 go_simp
 clear hV88 f89 u90 hv91
 have hS99 : True ∧ CellsL V87 (g14) 0 [.float .f64 p5.lo, .float .f64 p5.hi] := ⟨trivial, (kb K93 D98).cellsL 0 [.float .f64 p5.lo, .float .f64 p5.hi] rfl⟩
 refine hK _ _ hS99 ?_
 clear hK K hS86
 refine wpAnyH_oneM (i := 11) (l' := bm 12 4095) rfl (by kernel_rfl) (by kernel_rfl) (by kernel_rfl) (fun K hK => ?_)
 have f102 := (kb K96 D98).cellsL 0 [.float .f64 0, .float .f64 0] rfl
 dsimp only [CellsL, al, vl, Nat.reduceAdd] at f102
 have u103 := (kb K96 D98).unfrozen
 obtain ⟨V100, hV101⟩ : ∃ V, setCells V87 (g84) 0 [.float .f64 p11.lo, .float .f64 p11.hi] = V := ⟨_, rfl⟩
 have hv104 := hV101
 simp only [setCells, Nat.reduceAdd] at hv104
 have K105 := kf hV101 K92 D98 (by have := Y81.out; omega)
 have K106 := kf hV101 K93 D98 (by have := Y81.out; omega)
 have K107 := kf hV101 K94 D98 (by have := Y81.out; omega)
 have K108 := kf hV101 K95 D98 (by have := Y81.out; omega)
 have K109 := Lib.hid (show Blk V100 (g84) 28 #[.float .f64 p11.lo, .float .f64 p11.hi] from (ks hV101 K96 D98).out)
 have HB110 := hbs hV101 HB97 D98 (by have := Y81.out; omega)
 have D111 := dr V100
 clear K92 K93 K94 K95 K96 HB97 D98
 go_simp
 clear hV101 f102 u103 hv104
 have hS112 : True ∧ CellsL V100 (g14) 0 [.float .f64 p5.lo, .float .f64 p5.hi] := ⟨trivial, (kb K106 D111).cellsL 0 [.float .f64 p5.lo, .float .f64 p5.hi] rfl⟩
 refine hK _ _ hS112 ?_
 clear hK K hS99
 refine wpAnyH_done (by kernel_rfl) ?_ _
 clear hS112
 go_wp2_with fail
 refine wp_region_held (S := (fun w' => True ∧ CellsL w' (g83) 0 [.float .f64 p9.lo, .float .f64 p9.hi])) (by kernel_rfl) ?_
 change wpAnyH _ _ _ _ _ _ _ _ (World.drew _)
 obtain ⟨wd113, hwd⟩ : ∃ x, x = World.drew V100 := ⟨_, rfl⟩
 rw [← hwd]
 have D114 := Lib.hid (hwd ▸ Below.drew D111.out : Below V100.heap.size V100 wd113)
 clear D111 hwd
 have hS115 : True ∧ CellsL wd113 (g83) 0 [.float .f64 p9.lo, .float .f64 p9.hi] := ⟨trivial, (kb K108 D114).cellsL 0 [.float .f64 p9.lo, .float .f64 p9.hi] rfl⟩
 refine tkq 0 (bm 14 1) hS115 ?_
 refine tkq 1 (bm 14 3) hS115 ?_
 refine tkq 2 (bm 14 7) hS115 ?_
 refine tkq 3 (bm 14 15) hS115 ?_
 refine tke 4 (bm 14 31) hS115 ?_
 refine tke 5 (bm 14 63) hS115 ?_
 refine tkq 6 (bm 14 127) hS115 ?_
 refine tkq 7 (bm 14 255) hS115 ?_
 refine tkq 8 (bm 14 511) hS115 ?_
 refine tkq 10 (bm 14 1535) hS115 ?_
 refine tkq 11 (bm 14 3583) hS115 ?_
 refine wpAnyH_oneN (i := 9) (l' := bm 14 4095) rfl (by kernel_rfl) (by kernel_rfl) (by kernel_rfl) (fun K hK => ?_)
 have f129 := (kb K107 D114).cellsL 0 [.float .f64 p7.a.x.lo, .float .f64 p7.a.x.hi] rfl
 dsimp only [CellsL, al, vl, Nat.reduceAdd] at f129
 have u130 := (kb K107 D114).unfrozen
 obtain ⟨V127, hV128⟩ : ∃ V, setCells wd113 (g37) 0 [.float .f64 p9.lo, .float .f64 p9.hi] = V := ⟨_, rfl⟩
 have hv131 := hV128
 simp only [setCells, Nat.reduceAdd] at hv131
 have K132 := kf hV128 K105 D114 (by have := Y81.out; omega)
 have K133 := kf hV128 K106 D114 (by have := Y81.out; omega)
 have K134 := Lib.hid (show Blk V127 (g37) 33 #[.float .f64 p9.lo, .float .f64 p9.hi, .float .f64 p7.a.y.lo, .float .f64 p7.a.y.hi, .float .f64 p7.a.z.lo, .float .f64 p7.a.z.hi, .float .f64 p7.b.x.lo, .float .f64 p7.b.x.hi, .float .f64 p7.b.y.lo, .float .f64 p7.b.y.hi, .float .f64 p7.b.z.lo, .float .f64 p7.b.z.hi, .float .f64 p7.c.x.lo, .float .f64 p7.c.x.hi, .float .f64 p7.c.y.lo, .float .f64 p7.c.y.hi, .float .f64 p7.c.z.lo, .float .f64 p7.c.z.hi, .float .f64 p7.t.x.lo, .float .f64 p7.t.x.hi, .float .f64 p7.t.y.lo, .float .f64 p7.t.y.hi, .float .f64 p7.t.z.lo, .float .f64 p7.t.z.hi] from (ks hV128 K107 D114).out)
 have K135 := kf hV128 K108 D114 (by have := Y81.out; omega)
 have K136 := kf hV128 K109 D114 (by have := Y81.out; omega)
 have HB137 := hbs hV128 HB110 D114 (by have := Y81.out; omega)
 have D138 := dr V127
 clear K105 K106 K107 K108 K109 HB110 D114
 go_simp
 clear hV128 f129 u130 hv131
 have hS139 : True ∧ CellsL V127 (g83) 0 [.float .f64 p9.lo, .float .f64 p9.hi] := ⟨trivial, (kb K135 D138).cellsL 0 [.float .f64 p9.lo, .float .f64 p9.hi] rfl⟩
 refine hK _ _ hS139 ?_
 clear hK K hS115
 refine tkq 12 (bm 14 8191) hS139 ?_
 refine wpAnyH_oneN (i := 13) (l' := bm 14 16383) rfl (by kernel_rfl) (by kernel_rfl) (by kernel_rfl) (fun K hK => ?_)
 have f143 := (kb K134 D138).cellsL 8 [.float .f64 p7.b.y.lo, .float .f64 p7.b.y.hi] rfl
 dsimp only [CellsL, al, vl, Nat.reduceAdd] at f143
 have u144 := (kb K134 D138).unfrozen
 obtain ⟨V141, hV142⟩ : ∃ V, setCells V127 (g37) 8 [.float .f64 p9.lo, .float .f64 p9.hi] = V := ⟨_, rfl⟩
 have hv145 := hV142
 simp only [setCells, Nat.reduceAdd] at hv145
 have K146 := kf hV142 K132 D138 (by have := Y81.out; omega)
 have K147 := kf hV142 K133 D138 (by have := Y81.out; omega)
 have K148 := Lib.hid (show Blk V141 (g37) 33 #[.float .f64 p9.lo, .float .f64 p9.hi, .float .f64 p7.a.y.lo, .float .f64 p7.a.y.hi, .float .f64 p7.a.z.lo, .float .f64 p7.a.z.hi, .float .f64 p7.b.x.lo, .float .f64 p7.b.x.hi, .float .f64 p9.lo, .float .f64 p9.hi, .float .f64 p7.b.z.lo, .float .f64 p7.b.z.hi, .float .f64 p7.c.x.lo, .float .f64 p7.c.x.hi, .float .f64 p7.c.y.lo, .float .f64 p7.c.y.hi, .float .f64 p7.c.z.lo, .float .f64 p7.c.z.hi, .float .f64 p7.t.x.lo, .float .f64 p7.t.x.hi, .float .f64 p7.t.y.lo, .float .f64 p7.t.y.hi, .float .f64 p7.t.z.lo, .float .f64 p7.t.z.hi] from (ks hV142 K134 D138).out)
 have K149 := kf hV142 K135 D138 (by have := Y81.out; omega)
 have K150 := kf hV142 K136 D138 (by have := Y81.out; omega)
 have HB151 := hbs hV142 HB137 D138 (by have := Y81.out; omega)
 have D152 := dr V141
 clear K132 K133 K134 K135 K136 HB137 D138
 go_simp
 clear hV142 f143 u144 hv145
 have hS153 : True ∧ CellsL V141 (g83) 0 [.float .f64 p9.lo, .float .f64 p9.hi] := ⟨trivial, (kb K149 D152).cellsL 0 [.float .f64 p9.lo, .float .f64 p9.hi] rfl⟩
 refine hK _ _ hS153 ?_
 clear hK K hS139
 refine wpAnyH_done (by kernel_rfl) ?_ _
 clear hS153
 go_wp2_with fail
 refine wp_region_held (S := (fun w' => True ∧ CellsL w' (g84) 0 [.float .f64 p11.lo, .float .f64 p11.hi])) (by kernel_rfl) ?_
 change wpAnyH _ _ _ _ _ _ _ _ (World.drew _)
 obtain ⟨wd154, hwd⟩ : ∃ x, x = World.drew V141 := ⟨_, rfl⟩
 rw [← hwd]
 have D155 := Lib.hid (hwd ▸ Below.drew D152.out : Below V141.heap.size V141 wd154)
 clear D152 hwd
 have hS156 : True ∧ CellsL wd154 (g84) 0 [.float .f64 p11.lo, .float .f64 p11.hi] := ⟨trivial, (kb K150 D155).cellsL 0 [.float .f64 p11.lo, .float .f64 p11.hi] rfl⟩
 refine tkq 0 (bm 15 1) hS156 ?_
 refine tkq 1 (bm 15 3) hS156 ?_
 refine tkq 2 (bm 15 7) hS156 ?_
 refine tkq 3 (bm 15 15) hS156 ?_
 refine tke 4 (bm 15 31) hS156 ?_
 refine tke 6 (bm 15 95) hS156 ?_
 refine tkq 7 (bm 15 223) hS156 ?_
 refine tkq 8 (bm 15 479) hS156 ?_
 refine tkq 11 (bm 15 2527) hS156 ?_
 refine tkq 12 (bm 15 6623) hS156 ?_
 refine wpAnyH_oneN (i := 5) (l' := bm 15 6655) rfl (by kernel_rfl) (by kernel_rfl) (by kernel_rfl) (fun K hK => ?_)
 go_simp
 go_at_call 67
 refine (C12.out _).mono ?_
 rintro r w167 ⟨rfl, hb⟩
 dsimp only
 have D168 := ds D155 hb
 clear D155
 clear hb
 have hS169 : True ∧ CellsL w167 (g84) 0 [.float .f64 p11.lo, .float .f64 p11.hi] := ⟨trivial, (kb K150 D168).cellsL 0 [.float .f64 p11.lo, .float .f64 p11.hi] rfl⟩
 refine hK _ _ hS169 ?_
 clear hK K hS156
 refine tkq 9 (bm 15 7167) hS169 ?_
 refine wpAnyH_oneN (i := 10) (l' := bm 15 8191) rfl (by kernel_rfl) (by kernel_rfl) (by kernel_rfl) (fun K hK => ?_)
 have f173 := (kb K148 D168).cellsL 2 [.float .f64 p7.a.y.lo, .float .f64 p7.a.y.hi] rfl
 dsimp only [CellsL, al, vl, Nat.reduceAdd] at f173
 have u174 := (kb K148 D168).unfrozen
 obtain ⟨V171, hV172⟩ : ∃ V, setCells w167 (g37) 2 [.float .f64 p12.lo, .float .f64 p12.hi] = V := ⟨_, rfl⟩
 have hv175 := hV172
 simp only [setCells, Nat.reduceAdd] at hv175
 have K176 := kf hV172 K146 D168 (by have := Y81.out; omega)
 have K177 := kf hV172 K147 D168 (by have := Y81.out; omega)
 have K178 := Lib.hid (show Blk V171 (g37) 33 #[.float .f64 p9.lo, .float .f64 p9.hi, .float .f64 p12.lo, .float .f64 p12.hi, .float .f64 p7.a.z.lo, .float .f64 p7.a.z.hi, .float .f64 p7.b.x.lo, .float .f64 p7.b.x.hi, .float .f64 p9.lo, .float .f64 p9.hi, .float .f64 p7.b.z.lo, .float .f64 p7.b.z.hi, .float .f64 p7.c.x.lo, .float .f64 p7.c.x.hi, .float .f64 p7.c.y.lo, .float .f64 p7.c.y.hi, .float .f64 p7.c.z.lo, .float .f64 p7.c.z.hi, .float .f64 p7.t.x.lo, .float .f64 p7.t.x.hi, .float .f64 p7.t.y.lo, .float .f64 p7.t.y.hi, .float .f64 p7.t.z.lo, .float .f64 p7.t.z.hi] from (ks hV172 K148 D168).out)
 have K179 := kf hV172 K149 D168 (by have := Y81.out; omega)
 have K180 := kf hV172 K150 D168 (by have := Y81.out; omega)
 have HB181 := hbs hV172 HB151 D168 (by have := Y81.out; omega)
 have D182 := dr V171
 clear K146 K147 K148 K149 K150 HB151 D168
 go_simp
 clear hV172 f173 u174 hv175
 have hS183 : True ∧ CellsL V171 (g84) 0 [.float .f64 p11.lo, .float .f64 p11.hi] := ⟨trivial, (kb K180 D182).cellsL 0 [.float .f64 p11.lo, .float .f64 p11.hi] rfl⟩
 refine hK _ _ hS183 ?_
 clear hK K hS169
 refine tkq 13 (bm 15 16383) hS183 ?_
 refine wpAnyH_oneN (i := 14) (l' := bm 15 32767) rfl (by kernel_rfl) (by kernel_rfl) (by kernel_rfl) (fun K hK => ?_)
 have f187 := (kb K178 D182).cellsL 6 [.float .f64 p7.b.x.lo, .float .f64 p7.b.x.hi] rfl
 dsimp only [CellsL, al, vl, Nat.reduceAdd] at f187
 have u188 := (kb K178 D182).unfrozen
 obtain ⟨V185, hV186⟩ : ∃ V, setCells V171 (g37) 6 [.float .f64 p11.lo, .float .f64 p11.hi] = V := ⟨_, rfl⟩
 have hv189 := hV186
 simp only [setCells, Nat.reduceAdd] at hv189
 have K190 := kf hV186 K176 D182 (by have := Y81.out; omega)
 have K191 := kf hV186 K177 D182 (by have := Y81.out; omega)
 have K192 := Lib.hid (show Blk V185 (g37) 33 #[.float .f64 p9.lo, .float .f64 p9.hi, .float .f64 p12.lo, .float .f64 p12.hi, .float .f64 p7.a.z.lo, .float .f64 p7.a.z.hi, .float .f64 p11.lo, .float .f64 p11.hi, .float .f64 p9.lo, .float .f64 p9.hi, .float .f64 p7.b.z.lo, .float .f64 p7.b.z.hi, .float .f64 p7.c.x.lo, .float .f64 p7.c.x.hi, .float .f64 p7.c.y.lo, .float .f64 p7.c.y.hi, .float .f64 p7.c.z.lo, .float .f64 p7.c.z.hi, .float .f64 p7.t.x.lo, .float .f64 p7.t.x.hi, .float .f64 p7.t.y.lo, .float .f64 p7.t.y.hi, .float .f64 p7.t.z.lo, .float .f64 p7.t.z.hi] from (ks hV186 K178 D182).out)
 have K193 := kf hV186 K179 D182 (by have := Y81.out; omega)
 have K194 := kf hV186 K180 D182 (by have := Y81.out; omega)
 have HB195 := hbs hV186 HB181 D182 (by have := Y81.out; omega)
 have D196 := dr V185
 clear K176 K177 K178 K179 K180 HB181 D182
 go_simp
 clear hV186 f187 u188 hv189
 have hS197 : True ∧ CellsL V185 (g84) 0 [.float .f64 p11.lo, .float .f64 p11.hi] := ⟨trivial, (kb K194 D196).cellsL 0 [.float .f64 p11.lo, .float .f64 p11.hi] rfl⟩
 refine hK _ _ hS197 ?_
 clear hK K hS183
 refine wpAnyH_done (by kernel_rfl) ?_ _
 clear hS197
 have f198 := (kb K192 D196)
 have f201 := (kb K190 D196)
 obtain ⟨V199, hV200⟩ : ∃ V, World.setRow V185 (w.heap.size) #[.float .f64 p9.lo, .float .f64 p9.hi, .float .f64 p12.lo, .float .f64 p12.hi, .float .f64 p7.a.z.lo, .float .f64 p7.a.z.hi, .float .f64 p11.lo, .float .f64 p11.hi, .float .f64 p9.lo, .float .f64 p9.hi, .float .f64 p7.b.z.lo, .float .f64 p7.b.z.hi, .float .f64 p7.c.x.lo, .float .f64 p7.c.x.hi, .float .f64 p7.c.y.lo, .float .f64 p7.c.y.hi, .float .f64 p7.c.z.lo, .float .f64 p7.c.z.hi, .float .f64 p7.t.x.lo, .float .f64 p7.t.x.hi, .float .f64 p7.t.y.lo, .float .f64 p7.t.y.hi, .float .f64 p7.t.z.lo, .float .f64 p7.t.z.hi] = V := ⟨_, rfl⟩
 have K202 := ksr hV200 K190 D196
 have K203 := kfr hV200 K191 D196 (by have := Y81.out; omega)
 have K204 := kfr hV200 K192 D196 (by have := Y81.out; omega)
 have K205 := kfr hV200 K193 D196 (by have := Y81.out; omega)
 have K206 := kfr hV200 K194 D196 (by have := Y81.out; omega)
 have HB207 := hbr hV200 HB195 D196 (by have := Y81.out; omega)
 have D208 := dr V199
 clear K190 K191 K192 K193 K194 HB195 D196
 go_wp2_with (first | (refine wpList_store_row rfl 33 _ _ rfl (w.heap.size) #[.float .f64 p9.lo, .float .f64 p9.hi, .float .f64 p12.lo, .float .f64 p12.hi, .float .f64 p7.a.z.lo, .float .f64 p7.a.z.hi, .float .f64 p11.lo, .float .f64 p11.hi, .float .f64 p9.lo, .float .f64 p9.hi, .float .f64 p7.b.z.lo, .float .f64 p7.b.z.hi, .float .f64 p7.c.x.lo, .float .f64 p7.c.x.hi, .float .f64 p7.c.y.lo, .float .f64 p7.c.y.hi, .float .f64 p7.c.z.lo, .float .f64 p7.c.z.hi, .float .f64 p7.t.x.lo, .float .f64 p7.t.x.hi, .float .f64 p7.t.y.lo, .float .f64 p7.t.y.hi, .float .f64 p7.t.z.lo, .float .f64 p7.t.z.hi] rfl rfl _ _ f201 (by rw [info_Affine]; rfl) rfl (by kernel_rfl) ?_; rw [hV200]) | (refine wl_load (by kernel_rfl) rfl rfl f198 (by rw [info_Affine]; rfl) Try.underlying33 rfl ?_))
 clear f198 hV200 f201
 (try simp only [Exit.inBlock, Exit.then])
 exact bodyPost_ret (res_ct rfl _ _ (w.heap.size) #[.float .f64 p9.lo, .float .f64 p9.hi, .float .f64 p12.lo, .float .f64 p12.hi, .float .f64 p7.a.z.lo, .float .f64 p7.a.z.hi, .float .f64 p11.lo, .float .f64 p11.hi, .float .f64 p9.lo, .float .f64 p9.hi, .float .f64 p7.b.z.lo, .float .f64 p7.b.z.hi, .float .f64 p7.c.x.lo, .float .f64 p7.c.x.hi, .float .f64 p7.c.y.lo, .float .f64 p7.c.y.hi, .float .f64 p7.c.z.lo, .float .f64 p7.c.z.hi, .float .f64 p7.t.x.lo, .float .f64 p7.t.x.hi, .float .f64 p7.t.y.lo, .float .f64 p7.t.y.hi, .float .f64 p7.t.z.lo, .float .f64 p7.t.z.hi] rfl (kb K202 D208) (by rw [info_Affine]; rfl) Try.underlying33 rfl) rfl ⟨rfl, below_step HB207.out D208.out⟩
end Go.Proofs.Ytnljfcebmgifdaa
