/- Shaken: Uk. -/
import Derived.Test.YtnljfcebmgifdaaZRb
set_option maxRecDepth 100000
set_option maxHeartbeats 8000000
set_option linter.unusedVariables false
set_option linter.unusedSimpArgs false
namespace Go.Proofs.Ytnljfcebmgifdaa
open Go.RowKit Fl
theorem rturnA_k0 (c s : Nat) (hc : c < 18446744073709551616) (hs : s < 18446744073709551616) (h1 : 0 < Z (tuL c s).lo) (h2 : (tuL c s).wide = false) (w : World) : Calls Try.prog 19 #[Value.int IntKind.i64 0, .float .f64 c, .float .f64 s] w fun r w' => r = .returned (.tuple #[aval (afTurn0 (divS (ofS c) (tuL c s)) (divS (ofS s) (tuL c s))), .int .i64 0]) ∧ Below w.heap.size w w' := by
 have C0 := Lib.hid (fun w => rof_sp c hc w)
 obtain ⟨p0, hp0⟩ : ∃ z_, ofS c = z_ := ⟨_, rfl⟩
 rw [hp0] at C0
 have C1 := Lib.hid (fun w => rof_sp s hs w)
 obtain ⟨p1, hp1⟩ : ∃ z_, ofS s = z_ := ⟨_, rfl⟩
 rw [hp1] at C1
 have C2 := Lib.hid (fun w => rsqr_sp p0 w)
 obtain ⟨p2, hp2⟩ : ∃ z_, sqrS p0 = z_ := ⟨_, rfl⟩
 rw [hp2] at C2
 have C3 := Lib.hid (fun w => rsqr_sp p1 w)
 obtain ⟨p3, hp3⟩ : ∃ z_, sqrS p1 = z_ := ⟨_, rfl⟩
 rw [hp3] at C3
 have C4 := Lib.hid (fun w => radd_sp p2 p3 w)
 obtain ⟨p4, hp4⟩ : ∃ z_, addS p2 p3 = z_ := ⟨_, rfl⟩
 rw [hp4] at C4
 have C5 := Lib.hid (fun w => rsqrt_sp p4 w)
 obtain ⟨p5, hp5⟩ : ∃ z_, sqrtS p4 = z_ := ⟨_, rfl⟩
 rw [hp5] at C5
 have hl : tuL c s = p5 := by rw [← hp5, ← hp4, ← hp3, ← hp2, ← hp1, ← hp0]; rfl
 rw [hl] at h1 h2
 clear hl
 have e1 : (FloatKind.f64.format.order p5.lo 0 == some .lt || FloatKind.f64.format.order p5.lo 0 == some .eq) = false := by rw [le0_gd p5.vd.l]; exact decide_eq_false (by omega)
 have C6 := Lib.hid (fun w => rwide_sp p5 w)
 rw [h2] at C6
 have C7 := Lib.hid (fun w => rsameA_any w)
 obtain ⟨p7, hp7⟩ : ∃ z_, afSame = z_ := ⟨_, rfl⟩
 rw [hp7] at C7
 have C8 := Lib.hid (fun w => rdiv_sp p0 p5 w)
 obtain ⟨p8, hp8⟩ : ∃ z_, divS p0 p5 = z_ := ⟨_, rfl⟩
 rw [hp8] at C8
 have C9 := Lib.hid (fun w => rdiv_sp p0 p5 w)
 rw [hp8] at C9
 have C10 := Lib.hid (fun w => rdiv_sp p1 p5 w)
 obtain ⟨p10, hp10⟩ : ∃ z_, divS p1 p5 = z_ := ⟨_, rfl⟩
 rw [hp10] at C10
 have C11 := Lib.hid (fun w => rneg_sp p10 w)
 obtain ⟨p11, hp11⟩ : ∃ z_, negS p10 = z_ := ⟨_, rfl⟩
 rw [hp11] at C11
 have hT : (afTurn0 (divS (ofS c) (tuL c s)) (divS (ofS s) (tuL c s))) = (⟨p7.a, (⟨p7.b.x, p8, p11⟩ : V3), (⟨p7.c.x, p10, p8⟩ : V3), p7.t⟩ : Af) := by
   subst hp0 hp1 hp2 hp3 hp4 hp5 hp7 hp8 hp10 hp11; rfl
 rw [hT]
 clear hT
 clear hp0 hp1 hp2 hp3 hp4 hp5 hp7 hp8 hp10 hp11
 go_enter Try.func19, Try.ntmps19
 go_wp2_with fail
 obtain ⟨W, hW, K0, hB, hz⟩ := bx1 w 33 #[.float .f64 0, .float .f64 0, .float .f64 0, .float .f64 0, .float .f64 0, .float .f64 0, .float .f64 0, .float .f64 0, .float .f64 0, .float .f64 0, .float .f64 0, .float .f64 0, .float .f64 0, .float .f64 0, .float .f64 0, .float .f64 0, .float .f64 0, .float .f64 0, .float .f64 0, .float .f64 0, .float .f64 0, .float .f64 0, .float .f64 0, .float .f64 0]
 rw [← hW]
 have K0 := Lib.hid K0
 have HB := Lib.hid hB
 clear hW hB hz
 have D1 := dr W
 refine (C0.out _).mono ?_
 rintro r w2 ⟨rfl, hb⟩
 have D3 := ds D1 hb
 clear D1
 clear hb
 go_wp2_with fail
 refine (C1.out _).mono ?_
 rintro r w4 ⟨rfl, hb⟩
 have D5 := ds D3 hb
 clear D3
 clear hb
 obtain ⟨g6, hg8⟩ : ∃ g, w4.heap.size = g := ⟨_, rfl⟩
 have Y10 := Lib.hid (show w.heap.size < g6 by rw [← hg8]; exact (kb K0 D5).lt)
 obtain ⟨V7, hV9⟩ : ∃ V, w4.alloc (.cells #[.float .f64 0, .float .f64 0] 28) = V := ⟨_, rfl⟩
 have K11 := ka hV9 K0 D5
 have K12 := kn hV9 hg8
 have HB13 := hba hV9 HB D5
 have D14 := dr V7
 clear K0 HB D5
 obtain ⟨g15, hg17⟩ : ∃ g, V7.heap.size = g := ⟨_, rfl⟩
 have Y19 := Lib.hid (show w.heap.size < g15 ∧ g6 < g15 by rw [← hg17]; exact ⟨(kb K11 D14).lt, (kb K12 D14).lt⟩)
 obtain ⟨V16, hV18⟩ : ∃ V, V7.alloc (.cells #[.float .f64 0, .float .f64 0] 28) = V := ⟨_, rfl⟩
 have K20 := ka hV18 K11 D14
 have K21 := ka hV18 K12 D14
 have K22 := kn hV18 hg17
 have HB23 := hba hV18 HB13 D14
 have D24 := dr V16
 clear K11 K12 HB13 D14
 have Y25 := Lib.hid (And.intro Y10.out Y19.out)
 clear Y10 Y19
 have f28 := (kb K21 D24).cellsL 0 [.float .f64 0, .float .f64 0] rfl
 dsimp only [CellsL, al, vl, Nat.reduceAdd] at f28
 have u29 := (kb K21 D24).unfrozen
 obtain ⟨V26, hV27⟩ : ∃ V, setCells V16 (g6) 0 [.float .f64 p0.lo, .float .f64 p0.hi] = V := ⟨_, rfl⟩
 have hv30 := hV27
 simp only [setCells, Nat.reduceAdd] at hv30
 have K31 := kf hV27 K20 D24 (by have := Y25.out; omega)
 have K32 := Lib.hid (show Blk V26 (g6) 28 #[.float .f64 p0.lo, .float .f64 p0.hi] from (ks hV27 K21 D24).out)
 have K33 := kf hV27 K22 D24 (by have := Y25.out; omega)
 have HB34 := hbs hV27 HB23 D24 (by have := Y25.out; omega)
 have D35 := dr V26
 clear K20 K21 K22 HB23 D24
 have f38 := (kb K33 D35).cellsL 0 [.float .f64 0, .float .f64 0] rfl
 dsimp only [CellsL, al, vl, Nat.reduceAdd] at f38
 have u39 := (kb K33 D35).unfrozen
 obtain ⟨V36, hV37⟩ : ∃ V, setCells V26 (g15) 0 [.float .f64 p1.lo, .float .f64 p1.hi] = V := ⟨_, rfl⟩
 have hv40 := hV37
 simp only [setCells, Nat.reduceAdd] at hv40
 have K41 := kf hV37 K31 D35 (by have := Y25.out; omega)
 have K42 := kf hV37 K32 D35 (by have := Y25.out; omega)
 have K43 := Lib.hid (show Blk V36 (g15) 28 #[.float .f64 p1.lo, .float .f64 p1.hi] from (ks hV37 K33 D35).out)
 have HB44 := hbs hV37 HB34 D35 (by have := Y25.out; omega)
 have D45 := dr V36
 clear K31 K32 K33 HB34 D35
 go_wp2_with fail
 clear hg8 hV9 hg17 hV18 hV27 f28 u29 hv30 hV37 f38 u39 hv40
 refine wp_region_held (S := (fun w' => True ∧ CellsL w' (g6) 0 [.float .f64 p0.lo, .float .f64 p0.hi] ∧ CellsL w' (g15) 0 [.float .f64 p1.lo, .float .f64 p1.hi])) (by kernel_rfl) ?_
 change wpAnyH _ _ _ _ _ _ _ _ (World.drew _)
 obtain ⟨wd46, hwd⟩ : ∃ x, x = World.drew V36 := ⟨_, rfl⟩
 rw [← hwd]
 have D47 := Lib.hid (hwd ▸ Below.drew D45.out : Below V36.heap.size V36 wd46)
 clear D45 hwd
 have hS48 : True ∧ CellsL wd46 (g6) 0 [.float .f64 p0.lo, .float .f64 p0.hi] ∧ CellsL wd46 (g15) 0 [.float .f64 p1.lo, .float .f64 p1.hi] := ⟨trivial, (kb K42 D47).cellsL 0 [.float .f64 p0.lo, .float .f64 p0.hi] rfl, (kb K43 D47).cellsL 0 [.float .f64 p1.lo, .float .f64 p1.hi] rfl⟩
 refine tke 0 (bm 8 1) hS48 ?_
 refine tke 2 (bm 8 5) hS48 ?_
 have HS51 := Lib.hid (show ∀ w', Below V36.heap.size V36 w' → (True ∧ CellsL w' (g6) 0 [.float .f64 p0.lo, .float .f64 p0.hi] ∧ CellsL w' (g15) 0 [.float .f64 p1.lo, .float .f64 p1.hi]) from fun w' b => ⟨trivial, (K42.out.below b K42.out.lt).cellsL 0 [.float .f64 p0.lo, .float .f64 p0.hi] rfl, (K43.out.below b K43.out.lt).cellsL 0 [.float .f64 p1.lo, .float .f64 p1.hi] rfl⟩)
 refine wpAnyH_sets2 (N := 8) (stop := 127) (F := 1) (m := 5) (R := [1, 3, 4, 5, 6]) (M := [5, 7, 69, 15, 71, 31, 79, 63, 95, 127]) (fun i => if i = 1 then 1 else if i = 3 then 6 else if i = 4 then 10 else if i = 5 then 16 else if i = 6 then 0 else 0) (fun a0 m a w9 => ∃ (v1 v3 v4 v5 p6_ : Value) (g6_ : Nat), a = (((((a0.put (some 26) v1).put (some 28) v3).put (some 29) v4).put (some 30) v5).put (some 10) p6_) ∧ Below V36.heap.size V36 w9 ∧ (m.testBit 1 = true → v1 = Value.agg #[.float .f64 p2.lo, .float .f64 p2.hi]) ∧ (m.testBit 3 = true → v3 = Value.agg #[.float .f64 p3.lo, .float .f64 p3.hi]) ∧ (m.testBit 4 = true → v4 = Value.agg #[.float .f64 p4.lo, .float .f64 p4.hi]) ∧ (m.testBit 5 = true → v5 = Value.agg #[.float .f64 p5.lo, .float .f64 p5.hi]) ∧ (m.testBit 6 = true → p6_ = .pointer (some ⟨g6_, 0, none⟩) ∧ Blk w9 g6_ 28 #[.float .f64 0, .float .f64 0] ∧ V36.heap.size ≤ g6_)) (by kernel_rfl) (by kernel_rfl) (by kernel_rfl) (by kernel_rfl) ?st4 ?sp4 ?re4
 case st4 =>
   exact ⟨undef, undef, undef, undef, undef, 0, by go_simp, D47.out, fun h => absurd h (by decide), fun h => absurd h (by decide), fun h => absurd h (by decide), fun h => absurd h (by decide), fun h => absurd h (by decide)⟩
 case sp4 =>
   intro m a' w9 i hi hm hd hJ
   obtain ⟨v1, v3, v4, v5, p6_, g6_, rfl, hb0, cl1, cl3, cl4, cl5, ql6⟩ := hJ
   have CL1 := Lib.hid cl1
   have CL3 := Lib.hid cl3
   have CL4 := Lib.hid cl4
   have CL5 := Lib.hid cl5
   have QL6 := Lib.hid ql6
   have HB0 := Lib.hid hb0
   clear cl1 cl3 cl4 cl5 ql6 hb0 hS48
   simp only [List.mem_cons, List.not_mem_nil, or_false] at hi
   rcases hi with rfl | rfl | rfl | rfl | rfl
   · refine wpOp_at rfl (by kernel_rfl) (fun K hK => ?_)
     have hd := fun j => @tb_of _ _ j hd
     go_simp
     go_at_call 69
     refine (C2.out _).mono ?_
     rintro r w10 ⟨rfl, hb⟩
     dsimp only
     have hb1 := below_step HB0.out hb
     exact hK _ _ ⟨HS51.out _ hb1, _, v3, v4, v5, p6_, g6_, by go_simp, hb1, fun _ => rfl, fun h => CL3.out (by rwa [tb_ne (by decide)] at h), fun h => CL4.out (by rwa [tb_ne (by decide)] at h), fun h => CL5.out (by rwa [tb_ne (by decide)] at h), fun h => ⟨(QL6.out (by rwa [tb_ne (by decide)] at h)).1, (QL6.out (by rwa [tb_ne (by decide)] at h)).2.1.below hb (QL6.out (by rwa [tb_ne (by decide)] at h)).2.1.lt, (QL6.out (by rwa [tb_ne (by decide)] at h)).2.2⟩⟩
   · refine wpOp_at rfl (by kernel_rfl) (fun K hK => ?_)
     have hd := fun j => @tb_of _ _ j hd
     obtain rfl := CL1.out (hd _ (by decide))
     go_simp
     go_at_call 69
     refine (C3.out _).mono ?_
     rintro r w10 ⟨rfl, hb⟩
     dsimp only
     have hb1 := below_step HB0.out hb
     exact hK _ _ ⟨HS51.out _ hb1, _, _, v4, v5, p6_, g6_, by go_simp, hb1, fun _ => rfl, fun _ => rfl, fun h => CL4.out (by rwa [tb_ne (by decide)] at h), fun h => CL5.out (by rwa [tb_ne (by decide)] at h), fun h => ⟨(QL6.out (by rwa [tb_ne (by decide)] at h)).1, (QL6.out (by rwa [tb_ne (by decide)] at h)).2.1.below hb (QL6.out (by rwa [tb_ne (by decide)] at h)).2.1.lt, (QL6.out (by rwa [tb_ne (by decide)] at h)).2.2⟩⟩
   · refine wpOp_at rfl (by kernel_rfl) (fun K hK => ?_)
     have hd := fun j => @tb_of _ _ j hd
     obtain rfl := CL1.out (hd _ (by decide))
     obtain rfl := CL3.out (hd _ (by decide))
     go_simp
     go_at_call 71
     refine (C4.out _).mono ?_
     rintro r w10 ⟨rfl, hb⟩
     dsimp only
     have hb1 := below_step HB0.out hb
     exact hK _ _ ⟨HS51.out _ hb1, _, _, _, v5, p6_, g6_, by go_simp, hb1, fun _ => rfl, fun _ => rfl, fun _ => rfl, fun h => CL5.out (by rwa [tb_ne (by decide)] at h), fun h => ⟨(QL6.out (by rwa [tb_ne (by decide)] at h)).1, (QL6.out (by rwa [tb_ne (by decide)] at h)).2.1.below hb (QL6.out (by rwa [tb_ne (by decide)] at h)).2.1.lt, (QL6.out (by rwa [tb_ne (by decide)] at h)).2.2⟩⟩
   · refine wpOp_at rfl (by kernel_rfl) (fun K hK => ?_)
     have hd := fun j => @tb_of _ _ j hd
     obtain rfl := CL4.out (hd _ (by decide))
     go_simp
     go_at_call 70
     refine (C5.out _).mono ?_
     rintro r w10 ⟨rfl, hb⟩
     dsimp only
     have hb1 := below_step HB0.out hb
     exact hK _ _ ⟨HS51.out _ hb1, v1, v3, _, _, p6_, g6_, by go_simp, hb1, fun h => CL1.out (by rwa [tb_ne (by decide)] at h), fun h => CL3.out (by rwa [tb_ne (by decide)] at h), fun _ => rfl, fun _ => rfl, fun h => ⟨(QL6.out (by rwa [tb_ne (by decide)] at h)).1, (QL6.out (by rwa [tb_ne (by decide)] at h)).2.1.below hb (QL6.out (by rwa [tb_ne (by decide)] at h)).2.1.lt, (QL6.out (by rwa [tb_ne (by decide)] at h)).2.2⟩⟩
   · refine wpOp_at rfl (by kernel_rfl) (fun K hK => ?_)
     have hd := fun j => @tb_of _ _ j hd
     go_simp
     have hb1 := below_more HB0.out (.cells #[.float .f64 0, .float .f64 0] 28)
     exact hK _ _ ⟨HS51.out _ hb1, v1, v3, v4, v5, .pointer (some ⟨w9.heap.size, 0, none⟩), w9.heap.size, by go_simp, hb1, fun h => CL1.out (by rwa [tb_ne (by decide)] at h), fun h => CL3.out (by rwa [tb_ne (by decide)] at h), fun h => CL4.out (by rwa [tb_ne (by decide)] at h), fun h => CL5.out (by rwa [tb_ne (by decide)] at h), fun _ => ⟨rfl, Blk.new_at _ _ _ rfl, HB0.out.size⟩⟩
 clear hS48 D47 HS51
 intro a' W64 hJ
 obtain ⟨v1, v3, v4, v5, p6_, g65, rfl, hb0, cl1, cl3, cl4, cl5, ql6⟩ := hJ
 obtain rfl := cl1 (by decide)
 obtain rfl := cl3 (by decide)
 obtain rfl := cl4 (by decide)
 obtain rfl := cl5 (by decide)
 obtain ⟨rfl, kk6, ll6⟩ := ql6 (by decide)
 have D54 := Lib.hid hb0
 clear hb0
 refine wpAnyH_frame (a' := ?frq53) ?feq53 ?fgq53
 case feq53 => (go_simp; try with_reducible rfl)
 have K56 := Lib.hid ((kb K41 D54) : Blk W64 (w.heap.size) 33 #[.float .f64 0, .float .f64 0, .float .f64 0, .float .f64 0, .float .f64 0, .float .f64 0, .float .f64 0, .float .f64 0, .float .f64 0, .float .f64 0, .float .f64 0, .float .f64 0, .float .f64 0, .float .f64 0, .float .f64 0, .float .f64 0, .float .f64 0, .float .f64 0, .float .f64 0, .float .f64 0, .float .f64 0, .float .f64 0, .float .f64 0, .float .f64 0])
 have K57 := Lib.hid ((kb K42 D54) : Blk W64 (g6) 28 #[.float .f64 p0.lo, .float .f64 p0.hi])
 have K58 := Lib.hid ((kb K43 D54) : Blk W64 (g15) 28 #[.float .f64 p1.lo, .float .f64 p1.hi])
 have K59 := Lib.hid kk6
 clear kk6
 have HB62 := Lib.hid (below_step HB44.out D54.out)
 have Y61 := Lib.hid (show w.heap.size ≤ g65 ∧ w.heap.size < g65 ∧ g6 < g65 ∧ g15 < g65 from ⟨Nat.le_trans HB44.out.size ll6, Nat.lt_of_lt_of_le K41.out.lt ll6, Nat.lt_of_lt_of_le K42.out.lt ll6, Nat.lt_of_lt_of_le K43.out.lt ll6⟩)
 have Y63 := Lib.hid (And.intro Y25.out Y61.out)
 clear Y25 Y61
 clear K41 K42 K43 ll6 HB44
 have D66 := Lib.hid (Below.refl W64.heap.size W64)
 clear D54
 have hS67 : True ∧ CellsL W64 (g6) 0 [.float .f64 p0.lo, .float .f64 p0.hi] ∧ CellsL W64 (g15) 0 [.float .f64 p1.lo, .float .f64 p1.hi] := ⟨trivial, (kb K57 D66).cellsL 0 [.float .f64 p0.lo, .float .f64 p0.hi] rfl, (kb K58 D66).cellsL 0 [.float .f64 p1.lo, .float .f64 p1.hi] rfl⟩
 refine wpAnyH_oneM (i := 7) (l' := bm 8 255) rfl (by kernel_rfl) (by kernel_rfl) (by kernel_rfl) (fun K hK => ?_)
 have f70 := (kb K59 D66).cellsL 0 [.float .f64 0, .float .f64 0] rfl
 dsimp only [CellsL, al, vl, Nat.reduceAdd] at f70
 have u71 := (kb K59 D66).unfrozen
 obtain ⟨V68, hV69⟩ : ∃ V, setCells W64 (g65) 0 [.float .f64 p5.lo, .float .f64 p5.hi] = V := ⟨_, rfl⟩
 have hv72 := hV69
 simp only [setCells, Nat.reduceAdd] at hv72
 have K73 := kf hV69 K56 D66 (by have := Y63.out; omega)
 have K74 := kf hV69 K57 D66 (by have := Y63.out; omega)
 have K75 := kf hV69 K58 D66 (by have := Y63.out; omega)
 have K76 := Lib.hid (show Blk V68 (g65) 28 #[.float .f64 p5.lo, .float .f64 p5.hi] from (ks hV69 K59 D66).out)
 have HB77 := hbs hV69 HB62 D66 (by have := Y63.out; omega)
 have D78 := dr V68
 clear K56 K57 K58 K59 HB62 D66
 go_simp
 clear hV69 f70 u71 hv72
 have hS79 : True ∧ CellsL V68 (g6) 0 [.float .f64 p0.lo, .float .f64 p0.hi] ∧ CellsL V68 (g15) 0 [.float .f64 p1.lo, .float .f64 p1.hi] := ⟨trivial, (kb K74 D78).cellsL 0 [.float .f64 p0.lo, .float .f64 p0.hi] rfl, (kb K75 D78).cellsL 0 [.float .f64 p1.lo, .float .f64 p1.hi] rfl⟩
 refine hK _ _ hS79 ?_
 clear hK K hS67
 refine wpAnyH_done (by kernel_rfl) ?_ _
 clear hS79
 have hq80 := (kb K76 D78).cellsL 0 [.float .f64 p5.lo, .float .f64 p5.hi] rfl
 dsimp only [CellsL, al, vl, Nat.reduceAdd] at hq80
 go_wp2_with fail
 clear hq80
 refine (C6.out _).mono ?_
 rintro r w81 ⟨rfl, hb⟩
 have D82 := ds D78 hb
 clear D78
 clear hb
 go_wp2_with fail
 refine (C7.out _).mono ?_
 rintro r w83 ⟨rfl, hb⟩
 have D84 := ds D82 hb
 clear D82
 clear hb
 obtain ⟨g85, hg87⟩ : ∃ g, w83.heap.size = g := ⟨_, rfl⟩
 have Y89 := Lib.hid (show w.heap.size < g85 ∧ g6 < g85 ∧ g15 < g85 ∧ g65 < g85 by rw [← hg87]; exact ⟨(kb K73 D84).lt, (kb K74 D84).lt, (kb K75 D84).lt, (kb K76 D84).lt⟩)
 obtain ⟨V86, hV88⟩ : ∃ V, w83.alloc (.cells #[.float .f64 0, .float .f64 0, .float .f64 0, .float .f64 0, .float .f64 0, .float .f64 0, .float .f64 0, .float .f64 0, .float .f64 0, .float .f64 0, .float .f64 0, .float .f64 0, .float .f64 0, .float .f64 0, .float .f64 0, .float .f64 0, .float .f64 0, .float .f64 0, .float .f64 0, .float .f64 0, .float .f64 0, .float .f64 0, .float .f64 0, .float .f64 0] 33) = V := ⟨_, rfl⟩
 have K90 := ka hV88 K73 D84
 have K91 := ka hV88 K74 D84
 have K92 := ka hV88 K75 D84
 have K93 := ka hV88 K76 D84
 have K94 := kn hV88 hg87
 have HB95 := hba hV88 HB77 D84
 have D96 := dr V86
 clear K73 K74 K75 K76 HB77 D84
 have Y97 := Lib.hid (And.intro Y63.out Y89.out)
 clear Y63 Y89
 have f100 := (kb K94 D96)
 obtain ⟨V98, hV99⟩ : ∃ V, World.setRow V86 (g85) (ac p7) = V := ⟨_, rfl⟩
 have K101 := kfr hV99 K90 D96 (by have := Y97.out; omega)
 have K102 := kfr hV99 K91 D96 (by have := Y97.out; omega)
 have K103 := kfr hV99 K92 D96 (by have := Y97.out; omega)
 have K104 := kfr hV99 K93 D96 (by have := Y97.out; omega)
 have K105 := ksr hV99 K94 D96
 have HB106 := hbr hV99 HB95 D96 (by have := Y97.out; omega)
 have D107 := dr V98
 clear K90 K91 K92 K93 K94 HB95 D96
 go_wp2_with (refine wpList_store_row rfl 33 _ _ rfl (g85) (ac p7) rfl rfl _ _ f100 (by rw [info_Affine]; rfl) rfl (by kernel_rfl) ?_; rw [hV99])
 clear hg87 hV88 hV99 f100
 refine wp_region_held (S := (fun w' => True ∧ CellsL w' (g6) 0 [.float .f64 p0.lo, .float .f64 p0.hi] ∧ CellsL w' (g65) 0 [.float .f64 p5.lo, .float .f64 p5.hi])) (by kernel_rfl) ?_
 change wpAnyH _ _ _ _ _ _ _ _ (World.drew _)
 obtain ⟨wd108, hwd⟩ : ∃ x, x = World.drew V98 := ⟨_, rfl⟩
 rw [← hwd]
 have D109 := Lib.hid (hwd ▸ Below.drew D107.out : Below V98.heap.size V98 wd108)
 clear D107 hwd
 have hS110 : True ∧ CellsL wd108 (g6) 0 [.float .f64 p0.lo, .float .f64 p0.hi] ∧ CellsL wd108 (g65) 0 [.float .f64 p5.lo, .float .f64 p5.hi] := ⟨trivial, (kb K102 D109).cellsL 0 [.float .f64 p0.lo, .float .f64 p0.hi] rfl, (kb K104 D109).cellsL 0 [.float .f64 p5.lo, .float .f64 p5.hi] rfl⟩
 refine tkq 0 (bm 9 1) hS110 ?_
 refine tkq 1 (bm 9 3) hS110 ?_
 refine tke 2 (bm 9 7) hS110 ?_
 refine tke 3 (bm 9 15) hS110 ?_
 refine tkq 5 (bm 9 47) hS110 ?_
 refine tkq 6 (bm 9 111) hS110 ?_
 refine wpAnyH_oneN (i := 4) (l' := bm 9 127) rfl (by kernel_rfl) (by kernel_rfl) (by kernel_rfl) (fun K hK => ?_)
 go_simp
 go_at_call 72
 refine (C8.out _).mono ?_
 rintro r w117 ⟨rfl, hb⟩
 dsimp only
 have D118 := ds D109 hb
 clear D109
 clear hb
 have hS119 : True ∧ CellsL w117 (g6) 0 [.float .f64 p0.lo, .float .f64 p0.hi] ∧ CellsL w117 (g65) 0 [.float .f64 p5.lo, .float .f64 p5.hi] := ⟨trivial, (kb K102 D118).cellsL 0 [.float .f64 p0.lo, .float .f64 p0.hi] rfl, (kb K104 D118).cellsL 0 [.float .f64 p5.lo, .float .f64 p5.hi] rfl⟩
 refine hK _ _ hS119 ?_
 clear hK K hS110
 refine tkq 7 (bm 9 255) hS119 ?_
 refine wpAnyH_oneN (i := 8) (l' := bm 9 511) rfl (by kernel_rfl) (by kernel_rfl) (by kernel_rfl) (fun K hK => ?_)
 have f123 := (kb K105 D118).cellsL 8 [.float .f64 p7.b.y.lo, .float .f64 p7.b.y.hi] rfl
 dsimp only [CellsL, al, vl, Nat.reduceAdd] at f123
 have u124 := (kb K105 D118).unfrozen
 obtain ⟨V121, hV122⟩ : ∃ V, setCells w117 (g85) 8 [.float .f64 p8.lo, .float .f64 p8.hi] = V := ⟨_, rfl⟩
 have hv125 := hV122
 simp only [setCells, Nat.reduceAdd] at hv125
 have K126 := kf hV122 K101 D118 (by have := Y97.out; omega)
 have K127 := kf hV122 K102 D118 (by have := Y97.out; omega)
 have K128 := kf hV122 K103 D118 (by have := Y97.out; omega)
 have K129 := kf hV122 K104 D118 (by have := Y97.out; omega)
 have K130 := Lib.hid (show Blk V121 (g85) 33 #[.float .f64 p7.a.x.lo, .float .f64 p7.a.x.hi, .float .f64 p7.a.y.lo, .float .f64 p7.a.y.hi, .float .f64 p7.a.z.lo, .float .f64 p7.a.z.hi, .float .f64 p7.b.x.lo, .float .f64 p7.b.x.hi, .float .f64 p8.lo, .float .f64 p8.hi, .float .f64 p7.b.z.lo, .float .f64 p7.b.z.hi, .float .f64 p7.c.x.lo, .float .f64 p7.c.x.hi, .float .f64 p7.c.y.lo, .float .f64 p7.c.y.hi, .float .f64 p7.c.z.lo, .float .f64 p7.c.z.hi, .float .f64 p7.t.x.lo, .float .f64 p7.t.x.hi, .float .f64 p7.t.y.lo, .float .f64 p7.t.y.hi, .float .f64 p7.t.z.lo, .float .f64 p7.t.z.hi] from (ks hV122 K105 D118).out)
 have HB131 := hbs hV122 HB106 D118 (by have := Y97.out; omega)
 have D132 := dr V121
 clear K101 K102 K103 K104 K105 HB106 D118
 go_simp
 clear hV122 f123 u124 hv125
 have hS133 : True ∧ CellsL V121 (g6) 0 [.float .f64 p0.lo, .float .f64 p0.hi] ∧ CellsL V121 (g65) 0 [.float .f64 p5.lo, .float .f64 p5.hi] := ⟨trivial, (kb K127 D132).cellsL 0 [.float .f64 p0.lo, .float .f64 p0.hi] rfl, (kb K129 D132).cellsL 0 [.float .f64 p5.lo, .float .f64 p5.hi] rfl⟩
 refine hK _ _ hS133 ?_
 clear hK K hS119
 refine wpAnyH_done (by kernel_rfl) ?_ _
 clear hS133
 go_wp2_with fail
 refine wp_region_held (S := (fun w' => True ∧ CellsL w' (g6) 0 [.float .f64 p0.lo, .float .f64 p0.hi] ∧ CellsL w' (g65) 0 [.float .f64 p5.lo, .float .f64 p5.hi])) (by kernel_rfl) ?_
 change wpAnyH _ _ _ _ _ _ _ _ (World.drew _)
 obtain ⟨wd134, hwd⟩ : ∃ x, x = World.drew V121 := ⟨_, rfl⟩
 rw [← hwd]
 have D135 := Lib.hid (hwd ▸ Below.drew D132.out : Below V121.heap.size V121 wd134)
 clear D132 hwd
 have hS136 : True ∧ CellsL wd134 (g6) 0 [.float .f64 p0.lo, .float .f64 p0.hi] ∧ CellsL wd134 (g65) 0 [.float .f64 p5.lo, .float .f64 p5.hi] := ⟨trivial, (kb K127 D135).cellsL 0 [.float .f64 p0.lo, .float .f64 p0.hi] rfl, (kb K129 D135).cellsL 0 [.float .f64 p5.lo, .float .f64 p5.hi] rfl⟩
 refine tkq 0 (bm 9 1) hS136 ?_
 refine tkq 1 (bm 9 3) hS136 ?_
 refine tke 2 (bm 9 7) hS136 ?_
 refine tke 3 (bm 9 15) hS136 ?_
 refine tkq 5 (bm 9 47) hS136 ?_
 refine tkq 6 (bm 9 111) hS136 ?_
 refine wpAnyH_oneN (i := 4) (l' := bm 9 127) rfl (by kernel_rfl) (by kernel_rfl) (by kernel_rfl) (fun K hK => ?_)
 go_simp
 go_at_call 72
 refine (C9.out _).mono ?_
 rintro r w143 ⟨rfl, hb⟩
 dsimp only
 have D144 := ds D135 hb
 clear D135
 clear hb
 have hS145 : True ∧ CellsL w143 (g6) 0 [.float .f64 p0.lo, .float .f64 p0.hi] ∧ CellsL w143 (g65) 0 [.float .f64 p5.lo, .float .f64 p5.hi] := ⟨trivial, (kb K127 D144).cellsL 0 [.float .f64 p0.lo, .float .f64 p0.hi] rfl, (kb K129 D144).cellsL 0 [.float .f64 p5.lo, .float .f64 p5.hi] rfl⟩
 refine hK _ _ hS145 ?_
 clear hK K hS136
 refine tkq 7 (bm 9 255) hS145 ?_
 refine wpAnyH_oneN (i := 8) (l' := bm 9 511) rfl (by kernel_rfl) (by kernel_rfl) (by kernel_rfl) (fun K hK => ?_)
 have f149 := (kb K130 D144).cellsL 16 [.float .f64 p7.c.z.lo, .float .f64 p7.c.z.hi] rfl
 dsimp only [CellsL, al, vl, Nat.reduceAdd] at f149
 have u150 := (kb K130 D144).unfrozen
 obtain ⟨V147, hV148⟩ : ∃ V, setCells w143 (g85) 16 [.float .f64 p8.lo, .float .f64 p8.hi] = V := ⟨_, rfl⟩
 have hv151 := hV148
 simp only [setCells, Nat.reduceAdd] at hv151
 have K152 := kf hV148 K126 D144 (by have := Y97.out; omega)
 have K153 := kf hV148 K127 D144 (by have := Y97.out; omega)
 have K154 := kf hV148 K128 D144 (by have := Y97.out; omega)
 have K155 := kf hV148 K129 D144 (by have := Y97.out; omega)
 have K156 := Lib.hid (show Blk V147 (g85) 33 #[.float .f64 p7.a.x.lo, .float .f64 p7.a.x.hi, .float .f64 p7.a.y.lo, .float .f64 p7.a.y.hi, .float .f64 p7.a.z.lo, .float .f64 p7.a.z.hi, .float .f64 p7.b.x.lo, .float .f64 p7.b.x.hi, .float .f64 p8.lo, .float .f64 p8.hi, .float .f64 p7.b.z.lo, .float .f64 p7.b.z.hi, .float .f64 p7.c.x.lo, .float .f64 p7.c.x.hi, .float .f64 p7.c.y.lo, .float .f64 p7.c.y.hi, .float .f64 p8.lo, .float .f64 p8.hi, .float .f64 p7.t.x.lo, .float .f64 p7.t.x.hi, .float .f64 p7.t.y.lo, .float .f64 p7.t.y.hi, .float .f64 p7.t.z.lo, .float .f64 p7.t.z.hi] from (ks hV148 K130 D144).out)
 have HB157 := hbs hV148 HB131 D144 (by have := Y97.out; omega)
 have D158 := dr V147
 clear K126 K127 K128 K129 K130 HB131 D144
 go_simp
 clear hV148 f149 u150 hv151
 have hS159 : True ∧ CellsL V147 (g6) 0 [.float .f64 p0.lo, .float .f64 p0.hi] ∧ CellsL V147 (g65) 0 [.float .f64 p5.lo, .float .f64 p5.hi] := ⟨trivial, (kb K153 D158).cellsL 0 [.float .f64 p0.lo, .float .f64 p0.hi] rfl, (kb K155 D158).cellsL 0 [.float .f64 p5.lo, .float .f64 p5.hi] rfl⟩
 refine hK _ _ hS159 ?_
 clear hK K hS145
 refine wpAnyH_done (by kernel_rfl) ?_ _
 clear hS159
 go_wp2_with fail
 refine wp_region_held (S := (fun w' => True ∧ CellsL w' (g15) 0 [.float .f64 p1.lo, .float .f64 p1.hi] ∧ CellsL w' (g65) 0 [.float .f64 p5.lo, .float .f64 p5.hi])) (by kernel_rfl) ?_
 change wpAnyH _ _ _ _ _ _ _ _ (World.drew _)
 obtain ⟨wd160, hwd⟩ : ∃ x, x = World.drew V147 := ⟨_, rfl⟩
 rw [← hwd]
 have D161 := Lib.hid (hwd ▸ Below.drew D158.out : Below V147.heap.size V147 wd160)
 clear D158 hwd
 have hS162 : True ∧ CellsL wd160 (g15) 0 [.float .f64 p1.lo, .float .f64 p1.hi] ∧ CellsL wd160 (g65) 0 [.float .f64 p5.lo, .float .f64 p5.hi] := ⟨trivial, (kb K154 D161).cellsL 0 [.float .f64 p1.lo, .float .f64 p1.hi] rfl, (kb K155 D161).cellsL 0 [.float .f64 p5.lo, .float .f64 p5.hi] rfl⟩
 refine tkq 0 (bm 9 1) hS162 ?_
 refine tkq 1 (bm 9 3) hS162 ?_
 refine tke 2 (bm 9 7) hS162 ?_
 refine tke 3 (bm 9 15) hS162 ?_
 refine tkq 5 (bm 9 47) hS162 ?_
 refine tkq 6 (bm 9 111) hS162 ?_
 refine wpAnyH_oneN (i := 4) (l' := bm 9 127) rfl (by kernel_rfl) (by kernel_rfl) (by kernel_rfl) (fun K hK => ?_)
 go_simp
 go_at_call 72
 refine (C10.out _).mono ?_
 rintro r w169 ⟨rfl, hb⟩
 dsimp only
 have D170 := ds D161 hb
 clear D161
 clear hb
 have hS171 : True ∧ CellsL w169 (g15) 0 [.float .f64 p1.lo, .float .f64 p1.hi] ∧ CellsL w169 (g65) 0 [.float .f64 p5.lo, .float .f64 p5.hi] := ⟨trivial, (kb K154 D170).cellsL 0 [.float .f64 p1.lo, .float .f64 p1.hi] rfl, (kb K155 D170).cellsL 0 [.float .f64 p5.lo, .float .f64 p5.hi] rfl⟩
 refine hK _ _ hS171 ?_
 clear hK K hS162
 refine tkq 7 (bm 9 255) hS171 ?_
 refine wpAnyH_oneN (i := 8) (l' := bm 9 511) rfl (by kernel_rfl) (by kernel_rfl) (by kernel_rfl) (fun K hK => ?_)
 have f175 := (kb K156 D170).cellsL 14 [.float .f64 p7.c.y.lo, .float .f64 p7.c.y.hi] rfl
 dsimp only [CellsL, al, vl, Nat.reduceAdd] at f175
 have u176 := (kb K156 D170).unfrozen
 obtain ⟨V173, hV174⟩ : ∃ V, setCells w169 (g85) 14 [.float .f64 p10.lo, .float .f64 p10.hi] = V := ⟨_, rfl⟩
 have hv177 := hV174
 simp only [setCells, Nat.reduceAdd] at hv177
 have K178 := kf hV174 K152 D170 (by have := Y97.out; omega)
 have K179 := kf hV174 K153 D170 (by have := Y97.out; omega)
 have K180 := kf hV174 K154 D170 (by have := Y97.out; omega)
 have K181 := kf hV174 K155 D170 (by have := Y97.out; omega)
 have K182 := Lib.hid (show Blk V173 (g85) 33 #[.float .f64 p7.a.x.lo, .float .f64 p7.a.x.hi, .float .f64 p7.a.y.lo, .float .f64 p7.a.y.hi, .float .f64 p7.a.z.lo, .float .f64 p7.a.z.hi, .float .f64 p7.b.x.lo, .float .f64 p7.b.x.hi, .float .f64 p8.lo, .float .f64 p8.hi, .float .f64 p7.b.z.lo, .float .f64 p7.b.z.hi, .float .f64 p7.c.x.lo, .float .f64 p7.c.x.hi, .float .f64 p10.lo, .float .f64 p10.hi, .float .f64 p8.lo, .float .f64 p8.hi, .float .f64 p7.t.x.lo, .float .f64 p7.t.x.hi, .float .f64 p7.t.y.lo, .float .f64 p7.t.y.hi, .float .f64 p7.t.z.lo, .float .f64 p7.t.z.hi] from (ks hV174 K156 D170).out)
 have HB183 := hbs hV174 HB157 D170 (by have := Y97.out; omega)
 have D184 := dr V173
 clear K152 K153 K154 K155 K156 HB157 D170
 go_simp
 clear hV174 f175 u176 hv177
 have hS185 : True ∧ CellsL V173 (g15) 0 [.float .f64 p1.lo, .float .f64 p1.hi] ∧ CellsL V173 (g65) 0 [.float .f64 p5.lo, .float .f64 p5.hi] := ⟨trivial, (kb K180 D184).cellsL 0 [.float .f64 p1.lo, .float .f64 p1.hi] rfl, (kb K181 D184).cellsL 0 [.float .f64 p5.lo, .float .f64 p5.hi] rfl⟩
 refine hK _ _ hS185 ?_
 clear hK K hS171
 refine wpAnyH_done (by kernel_rfl) ?_ _
 clear hS185
 go_wp2_with fail
 refine wp_region_held (S := (fun w' => True ∧ CellsL w' (g85) 14 [.float .f64 p10.lo, .float .f64 p10.hi])) (by kernel_rfl) ?_
 change wpAnyH _ _ _ _ _ _ _ _ (World.drew _)
 obtain ⟨wd186, hwd⟩ : ∃ x, x = World.drew V173 := ⟨_, rfl⟩
 rw [← hwd]
 have D187 := Lib.hid (hwd ▸ Below.drew D184.out : Below V173.heap.size V173 wd186)
 clear D184 hwd
 have hS188 : True ∧ CellsL wd186 (g85) 14 [.float .f64 p10.lo, .float .f64 p10.hi] := ⟨trivial, (kb K182 D187).cellsL 14 [.float .f64 p10.lo, .float .f64 p10.hi] rfl⟩
 refine tkq 0 (bm 13 1) hS188 ?_
 refine tkq 1 (bm 13 3) hS188 ?_
 refine tkq 2 (bm 13 7) hS188 ?_
 refine tkq 3 (bm 13 15) hS188 ?_
 refine tkq 4 (bm 13 31) hS188 ?_
 refine tkq 5 (bm 13 63) hS188 ?_
 refine tkq 6 (bm 13 127) hS188 ?_
 refine tke 7 (bm 13 255) hS188 ?_
 refine tkq 9 (bm 13 767) hS188 ?_
 refine tkq 10 (bm 13 1791) hS188 ?_
 refine wpAnyH_oneN (i := 8) (l' := bm 13 2047) rfl (by kernel_rfl) (by kernel_rfl) (by kernel_rfl) (fun K hK => ?_)
 go_simp
 go_at_call 73
 refine (C11.out _).mono ?_
 rintro r w199 ⟨rfl, hb⟩
 dsimp only
 have D200 := ds D187 hb
 clear D187
 clear hb
 have hS201 : True ∧ CellsL w199 (g85) 14 [.float .f64 p10.lo, .float .f64 p10.hi] := ⟨trivial, (kb K182 D200).cellsL 14 [.float .f64 p10.lo, .float .f64 p10.hi] rfl⟩
 refine hK _ _ hS201 ?_
 clear hK K hS188
 refine tkq 11 (bm 13 4095) hS201 ?_
 refine wpAnyH_oneN (i := 12) (l' := bm 13 8191) rfl (by kernel_rfl) (by kernel_rfl) (by kernel_rfl) (fun K hK => ?_)
 have f205 := (kb K182 D200).cellsL 10 [.float .f64 p7.b.z.lo, .float .f64 p7.b.z.hi] rfl
 dsimp only [CellsL, al, vl, Nat.reduceAdd] at f205
 have u206 := (kb K182 D200).unfrozen
 obtain ⟨V203, hV204⟩ : ∃ V, setCells w199 (g85) 10 [.float .f64 p11.lo, .float .f64 p11.hi] = V := ⟨_, rfl⟩
 have hv207 := hV204
 simp only [setCells, Nat.reduceAdd] at hv207
 have K208 := kf hV204 K178 D200 (by have := Y97.out; omega)
 have K209 := kf hV204 K179 D200 (by have := Y97.out; omega)
 have K210 := kf hV204 K180 D200 (by have := Y97.out; omega)
 have K211 := kf hV204 K181 D200 (by have := Y97.out; omega)
 have K212 := Lib.hid (show Blk V203 (g85) 33 #[.float .f64 p7.a.x.lo, .float .f64 p7.a.x.hi, .float .f64 p7.a.y.lo, .float .f64 p7.a.y.hi, .float .f64 p7.a.z.lo, .float .f64 p7.a.z.hi, .float .f64 p7.b.x.lo, .float .f64 p7.b.x.hi, .float .f64 p8.lo, .float .f64 p8.hi, .float .f64 p11.lo, .float .f64 p11.hi, .float .f64 p7.c.x.lo, .float .f64 p7.c.x.hi, .float .f64 p10.lo, .float .f64 p10.hi, .float .f64 p8.lo, .float .f64 p8.hi, .float .f64 p7.t.x.lo, .float .f64 p7.t.x.hi, .float .f64 p7.t.y.lo, .float .f64 p7.t.y.hi, .float .f64 p7.t.z.lo, .float .f64 p7.t.z.hi] from (ks hV204 K182 D200).out)
 have HB213 := hbs hV204 HB183 D200 (by have := Y97.out; omega)
 have D214 := dr V203
 clear K178 K179 K180 K181 K182 HB183 D200
 go_simp
 clear hV204 f205 u206 hv207
 have hS215 : True ∧ CellsL V203 (g85) 14 [.float .f64 p10.lo, .float .f64 p10.hi] := ⟨trivial, (kb K212 D214).cellsL 14 [.float .f64 p10.lo, .float .f64 p10.hi] rfl⟩
 refine hK _ _ hS215 ?_
 clear hK K hS201
 refine wpAnyH_done (by kernel_rfl) ?_ _
 clear hS215
 have f216 := (kb K212 D214)
 have f219 := (kb K208 D214)
 obtain ⟨V217, hV218⟩ : ∃ V, World.setRow V203 (w.heap.size) #[.float .f64 p7.a.x.lo, .float .f64 p7.a.x.hi, .float .f64 p7.a.y.lo, .float .f64 p7.a.y.hi, .float .f64 p7.a.z.lo, .float .f64 p7.a.z.hi, .float .f64 p7.b.x.lo, .float .f64 p7.b.x.hi, .float .f64 p8.lo, .float .f64 p8.hi, .float .f64 p11.lo, .float .f64 p11.hi, .float .f64 p7.c.x.lo, .float .f64 p7.c.x.hi, .float .f64 p10.lo, .float .f64 p10.hi, .float .f64 p8.lo, .float .f64 p8.hi, .float .f64 p7.t.x.lo, .float .f64 p7.t.x.hi, .float .f64 p7.t.y.lo, .float .f64 p7.t.y.hi, .float .f64 p7.t.z.lo, .float .f64 p7.t.z.hi] = V := ⟨_, rfl⟩
 have K220 := ksr hV218 K208 D214
 have K221 := kfr hV218 K209 D214 (by have := Y97.out; omega)
 have K222 := kfr hV218 K210 D214 (by have := Y97.out; omega)
 have K223 := kfr hV218 K211 D214 (by have := Y97.out; omega)
 have K224 := kfr hV218 K212 D214 (by have := Y97.out; omega)
 have HB225 := hbr hV218 HB213 D214 (by have := Y97.out; omega)
 have D226 := dr V217
 clear K208 K209 K210 K211 K212 HB213 D214
 go_wp2_with (first | (refine wpList_store_row rfl 33 _ _ rfl (w.heap.size) #[.float .f64 p7.a.x.lo, .float .f64 p7.a.x.hi, .float .f64 p7.a.y.lo, .float .f64 p7.a.y.hi, .float .f64 p7.a.z.lo, .float .f64 p7.a.z.hi, .float .f64 p7.b.x.lo, .float .f64 p7.b.x.hi, .float .f64 p8.lo, .float .f64 p8.hi, .float .f64 p11.lo, .float .f64 p11.hi, .float .f64 p7.c.x.lo, .float .f64 p7.c.x.hi, .float .f64 p10.lo, .float .f64 p10.hi, .float .f64 p8.lo, .float .f64 p8.hi, .float .f64 p7.t.x.lo, .float .f64 p7.t.x.hi, .float .f64 p7.t.y.lo, .float .f64 p7.t.y.hi, .float .f64 p7.t.z.lo, .float .f64 p7.t.z.hi] rfl rfl _ _ f219 (by rw [info_Affine]; rfl) rfl (by kernel_rfl) ?_; rw [hV218]) | (refine wl_load (by kernel_rfl) rfl rfl f216 (by rw [info_Affine]; rfl) Try.underlying33 rfl ?_))
 clear f216 hV218 f219
 (try simp only [Exit.inBlock, Exit.then])
 exact bodyPost_ret (res_ct rfl _ _ (w.heap.size) #[.float .f64 p7.a.x.lo, .float .f64 p7.a.x.hi, .float .f64 p7.a.y.lo, .float .f64 p7.a.y.hi, .float .f64 p7.a.z.lo, .float .f64 p7.a.z.hi, .float .f64 p7.b.x.lo, .float .f64 p7.b.x.hi, .float .f64 p8.lo, .float .f64 p8.hi, .float .f64 p11.lo, .float .f64 p11.hi, .float .f64 p7.c.x.lo, .float .f64 p7.c.x.hi, .float .f64 p10.lo, .float .f64 p10.hi, .float .f64 p8.lo, .float .f64 p8.hi, .float .f64 p7.t.x.lo, .float .f64 p7.t.x.hi, .float .f64 p7.t.y.lo, .float .f64 p7.t.y.hi, .float .f64 p7.t.z.lo, .float .f64 p7.t.z.hi] rfl (kb K220 D226) (by rw [info_Affine]; rfl) Try.underlying33 rfl) rfl ⟨rfl, below_step HB225.out D226.out⟩
theorem rturnA_k1 (c s : Nat) (hc : c < 18446744073709551616) (hs : s < 18446744073709551616) (h1 : 0 < Z (tuL c s).lo) (h2 : (tuL c s).wide = false) (w : World) : Calls Try.prog 19 #[Value.int IntKind.i64 1, .float .f64 c, .float .f64 s] w fun r w' => r = .returned (.tuple #[aval (afTurn1 (divS (ofS c) (tuL c s)) (divS (ofS s) (tuL c s))), .int .i64 0]) ∧ Below w.heap.size w w' := by
 have C0 := Lib.hid (fun w => rof_sp c hc w)
 obtain ⟨p0, hp0⟩ : ∃ z_, ofS c = z_ := ⟨_, rfl⟩
 rw [hp0] at C0
 have C1 := Lib.hid (fun w => rof_sp s hs w)
 obtain ⟨p1, hp1⟩ : ∃ z_, ofS s = z_ := ⟨_, rfl⟩
 rw [hp1] at C1
 have C2 := Lib.hid (fun w => rsqr_sp p0 w)
 obtain ⟨p2, hp2⟩ : ∃ z_, sqrS p0 = z_ := ⟨_, rfl⟩
 rw [hp2] at C2
 have C3 := Lib.hid (fun w => rsqr_sp p1 w)
 obtain ⟨p3, hp3⟩ : ∃ z_, sqrS p1 = z_ := ⟨_, rfl⟩
 rw [hp3] at C3
 have C4 := Lib.hid (fun w => radd_sp p2 p3 w)
 obtain ⟨p4, hp4⟩ : ∃ z_, addS p2 p3 = z_ := ⟨_, rfl⟩
 rw [hp4] at C4
 have C5 := Lib.hid (fun w => rsqrt_sp p4 w)
 obtain ⟨p5, hp5⟩ : ∃ z_, sqrtS p4 = z_ := ⟨_, rfl⟩
 rw [hp5] at C5
 have hl : tuL c s = p5 := by rw [← hp5, ← hp4, ← hp3, ← hp2, ← hp1, ← hp0]; rfl
 rw [hl] at h1 h2
 clear hl
 have e1 : (FloatKind.f64.format.order p5.lo 0 == some .lt || FloatKind.f64.format.order p5.lo 0 == some .eq) = false := by rw [le0_gd p5.vd.l]; exact decide_eq_false (by omega)
 have C6 := Lib.hid (fun w => rwide_sp p5 w)
 rw [h2] at C6
 have C7 := Lib.hid (fun w => rsameA_any w)
 obtain ⟨p7, hp7⟩ : ∃ z_, afSame = z_ := ⟨_, rfl⟩
 rw [hp7] at C7
 have C8 := Lib.hid (fun w => rdiv_sp p0 p5 w)
 obtain ⟨p8, hp8⟩ : ∃ z_, divS p0 p5 = z_ := ⟨_, rfl⟩
 rw [hp8] at C8
 have C9 := Lib.hid (fun w => rdiv_sp p0 p5 w)
 rw [hp8] at C9
 have C10 := Lib.hid (fun w => rdiv_sp p1 p5 w)
 obtain ⟨p10, hp10⟩ : ∃ z_, divS p1 p5 = z_ := ⟨_, rfl⟩
 rw [hp10] at C10
 have C11 := Lib.hid (fun w => rneg_sp p10 w)
 obtain ⟨p11, hp11⟩ : ∃ z_, negS p10 = z_ := ⟨_, rfl⟩
 rw [hp11] at C11
 have hT : (afTurn1 (divS (ofS c) (tuL c s)) (divS (ofS s) (tuL c s))) = (⟨(⟨p8, p7.a.y, p10⟩ : V3), p7.b, (⟨p11, p7.c.y, p8⟩ : V3), p7.t⟩ : Af) := by
   subst hp0 hp1 hp2 hp3 hp4 hp5 hp7 hp8 hp10 hp11; rfl
 rw [hT]
 clear hT
 clear hp0 hp1 hp2 hp3 hp4 hp5 hp7 hp8 hp10 hp11
 go_enter Try.func19, Try.ntmps19
 go_wp2_with fail
 obtain ⟨W, hW, K0, hB, hz⟩ := bx1 w 33 #[.float .f64 0, .float .f64 0, .float .f64 0, .float .f64 0, .float .f64 0, .float .f64 0, .float .f64 0, .float .f64 0, .float .f64 0, .float .f64 0, .float .f64 0, .float .f64 0, .float .f64 0, .float .f64 0, .float .f64 0, .float .f64 0, .float .f64 0, .float .f64 0, .float .f64 0, .float .f64 0, .float .f64 0, .float .f64 0, .float .f64 0, .float .f64 0]
 rw [← hW]
 have K0 := Lib.hid K0
 have HB := Lib.hid hB
 clear hW hB hz
 have D1 := dr W
 refine (C0.out _).mono ?_
 rintro r w2 ⟨rfl, hb⟩
 have D3 := ds D1 hb
 clear D1
 clear hb
 go_wp2_with fail
 refine (C1.out _).mono ?_
 rintro r w4 ⟨rfl, hb⟩
 have D5 := ds D3 hb
 clear D3
 clear hb
 obtain ⟨g6, hg8⟩ : ∃ g, w4.heap.size = g := ⟨_, rfl⟩
 have Y10 := Lib.hid (show w.heap.size < g6 by rw [← hg8]; exact (kb K0 D5).lt)
 obtain ⟨V7, hV9⟩ : ∃ V, w4.alloc (.cells #[.float .f64 0, .float .f64 0] 28) = V := ⟨_, rfl⟩
 have K11 := ka hV9 K0 D5
 have K12 := kn hV9 hg8
 have HB13 := hba hV9 HB D5
 have D14 := dr V7
 clear K0 HB D5
 obtain ⟨g15, hg17⟩ : ∃ g, V7.heap.size = g := ⟨_, rfl⟩
 have Y19 := Lib.hid (show w.heap.size < g15 ∧ g6 < g15 by rw [← hg17]; exact ⟨(kb K11 D14).lt, (kb K12 D14).lt⟩)
 obtain ⟨V16, hV18⟩ : ∃ V, V7.alloc (.cells #[.float .f64 0, .float .f64 0] 28) = V := ⟨_, rfl⟩
 have K20 := ka hV18 K11 D14
 have K21 := ka hV18 K12 D14
 have K22 := kn hV18 hg17
 have HB23 := hba hV18 HB13 D14
 have D24 := dr V16
 clear K11 K12 HB13 D14
 have Y25 := Lib.hid (And.intro Y10.out Y19.out)
 clear Y10 Y19
 have f28 := (kb K21 D24).cellsL 0 [.float .f64 0, .float .f64 0] rfl
 dsimp only [CellsL, al, vl, Nat.reduceAdd] at f28
 have u29 := (kb K21 D24).unfrozen
 obtain ⟨V26, hV27⟩ : ∃ V, setCells V16 (g6) 0 [.float .f64 p0.lo, .float .f64 p0.hi] = V := ⟨_, rfl⟩
 have hv30 := hV27
 simp only [setCells, Nat.reduceAdd] at hv30
 have K31 := kf hV27 K20 D24 (by have := Y25.out; omega)
 have K32 := Lib.hid (show Blk V26 (g6) 28 #[.float .f64 p0.lo, .float .f64 p0.hi] from (ks hV27 K21 D24).out)
 have K33 := kf hV27 K22 D24 (by have := Y25.out; omega)
 have HB34 := hbs hV27 HB23 D24 (by have := Y25.out; omega)
 have D35 := dr V26
 clear K20 K21 K22 HB23 D24
 have f38 := (kb K33 D35).cellsL 0 [.float .f64 0, .float .f64 0] rfl
 dsimp only [CellsL, al, vl, Nat.reduceAdd] at f38
 have u39 := (kb K33 D35).unfrozen
 obtain ⟨V36, hV37⟩ : ∃ V, setCells V26 (g15) 0 [.float .f64 p1.lo, .float .f64 p1.hi] = V := ⟨_, rfl⟩
 have hv40 := hV37
 simp only [setCells, Nat.reduceAdd] at hv40
 have K41 := kf hV37 K31 D35 (by have := Y25.out; omega)
 have K42 := kf hV37 K32 D35 (by have := Y25.out; omega)
 have K43 := Lib.hid (show Blk V36 (g15) 28 #[.float .f64 p1.lo, .float .f64 p1.hi] from (ks hV37 K33 D35).out)
 have HB44 := hbs hV37 HB34 D35 (by have := Y25.out; omega)
 have D45 := dr V36
 clear K31 K32 K33 HB34 D35
 go_wp2_with fail
 clear hg8 hV9 hg17 hV18 hV27 f28 u29 hv30 hV37 f38 u39 hv40
 refine wp_region_held (S := (fun w' => True ∧ CellsL w' (g6) 0 [.float .f64 p0.lo, .float .f64 p0.hi] ∧ CellsL w' (g15) 0 [.float .f64 p1.lo, .float .f64 p1.hi])) (by kernel_rfl) ?_
 change wpAnyH _ _ _ _ _ _ _ _ (World.drew _)
 obtain ⟨wd46, hwd⟩ : ∃ x, x = World.drew V36 := ⟨_, rfl⟩
 rw [← hwd]
 have D47 := Lib.hid (hwd ▸ Below.drew D45.out : Below V36.heap.size V36 wd46)
 clear D45 hwd
 have hS48 : True ∧ CellsL wd46 (g6) 0 [.float .f64 p0.lo, .float .f64 p0.hi] ∧ CellsL wd46 (g15) 0 [.float .f64 p1.lo, .float .f64 p1.hi] := ⟨trivial, (kb K42 D47).cellsL 0 [.float .f64 p0.lo, .float .f64 p0.hi] rfl, (kb K43 D47).cellsL 0 [.float .f64 p1.lo, .float .f64 p1.hi] rfl⟩
 refine tke 0 (bm 8 1) hS48 ?_
 refine tke 2 (bm 8 5) hS48 ?_
 have HS51 := Lib.hid (show ∀ w', Below V36.heap.size V36 w' → (True ∧ CellsL w' (g6) 0 [.float .f64 p0.lo, .float .f64 p0.hi] ∧ CellsL w' (g15) 0 [.float .f64 p1.lo, .float .f64 p1.hi]) from fun w' b => ⟨trivial, (K42.out.below b K42.out.lt).cellsL 0 [.float .f64 p0.lo, .float .f64 p0.hi] rfl, (K43.out.below b K43.out.lt).cellsL 0 [.float .f64 p1.lo, .float .f64 p1.hi] rfl⟩)
 refine wpAnyH_sets2 (N := 8) (stop := 127) (F := 1) (m := 5) (R := [1, 3, 4, 5, 6]) (M := [5, 7, 69, 15, 71, 31, 79, 63, 95, 127]) (fun i => if i = 1 then 1 else if i = 3 then 6 else if i = 4 then 10 else if i = 5 then 16 else if i = 6 then 0 else 0) (fun a0 m a w9 => ∃ (v1 v3 v4 v5 p6_ : Value) (g6_ : Nat), a = (((((a0.put (some 26) v1).put (some 28) v3).put (some 29) v4).put (some 30) v5).put (some 10) p6_) ∧ Below V36.heap.size V36 w9 ∧ (m.testBit 1 = true → v1 = Value.agg #[.float .f64 p2.lo, .float .f64 p2.hi]) ∧ (m.testBit 3 = true → v3 = Value.agg #[.float .f64 p3.lo, .float .f64 p3.hi]) ∧ (m.testBit 4 = true → v4 = Value.agg #[.float .f64 p4.lo, .float .f64 p4.hi]) ∧ (m.testBit 5 = true → v5 = Value.agg #[.float .f64 p5.lo, .float .f64 p5.hi]) ∧ (m.testBit 6 = true → p6_ = .pointer (some ⟨g6_, 0, none⟩) ∧ Blk w9 g6_ 28 #[.float .f64 0, .float .f64 0] ∧ V36.heap.size ≤ g6_)) (by kernel_rfl) (by kernel_rfl) (by kernel_rfl) (by kernel_rfl) ?st4 ?sp4 ?re4
 case st4 =>
   exact ⟨undef, undef, undef, undef, undef, 0, by go_simp, D47.out, fun h => absurd h (by decide), fun h => absurd h (by decide), fun h => absurd h (by decide), fun h => absurd h (by decide), fun h => absurd h (by decide)⟩
 case sp4 =>
   intro m a' w9 i hi hm hd hJ
   obtain ⟨v1, v3, v4, v5, p6_, g6_, rfl, hb0, cl1, cl3, cl4, cl5, ql6⟩ := hJ
   have CL1 := Lib.hid cl1
   have CL3 := Lib.hid cl3
   have CL4 := Lib.hid cl4
   have CL5 := Lib.hid cl5
   have QL6 := Lib.hid ql6
   have HB0 := Lib.hid hb0
   clear cl1 cl3 cl4 cl5 ql6 hb0 hS48
   simp only [List.mem_cons, List.not_mem_nil, or_false] at hi
   rcases hi with rfl | rfl | rfl | rfl | rfl
   · refine wpOp_at rfl (by kernel_rfl) (fun K hK => ?_)
     have hd := fun j => @tb_of _ _ j hd
     go_simp
     go_at_call 69
     refine (C2.out _).mono ?_
     rintro r w10 ⟨rfl, hb⟩
     dsimp only
     have hb1 := below_step HB0.out hb
     exact hK _ _ ⟨HS51.out _ hb1, _, v3, v4, v5, p6_, g6_, by go_simp, hb1, fun _ => rfl, fun h => CL3.out (by rwa [tb_ne (by decide)] at h), fun h => CL4.out (by rwa [tb_ne (by decide)] at h), fun h => CL5.out (by rwa [tb_ne (by decide)] at h), fun h => ⟨(QL6.out (by rwa [tb_ne (by decide)] at h)).1, (QL6.out (by rwa [tb_ne (by decide)] at h)).2.1.below hb (QL6.out (by rwa [tb_ne (by decide)] at h)).2.1.lt, (QL6.out (by rwa [tb_ne (by decide)] at h)).2.2⟩⟩
   · refine wpOp_at rfl (by kernel_rfl) (fun K hK => ?_)
     have hd := fun j => @tb_of _ _ j hd
     obtain rfl := CL1.out (hd _ (by decide))
     go_simp
     go_at_call 69
     refine (C3.out _).mono ?_
     rintro r w10 ⟨rfl, hb⟩
     dsimp only
     have hb1 := below_step HB0.out hb
     exact hK _ _ ⟨HS51.out _ hb1, _, _, v4, v5, p6_, g6_, by go_simp, hb1, fun _ => rfl, fun _ => rfl, fun h => CL4.out (by rwa [tb_ne (by decide)] at h), fun h => CL5.out (by rwa [tb_ne (by decide)] at h), fun h => ⟨(QL6.out (by rwa [tb_ne (by decide)] at h)).1, (QL6.out (by rwa [tb_ne (by decide)] at h)).2.1.below hb (QL6.out (by rwa [tb_ne (by decide)] at h)).2.1.lt, (QL6.out (by rwa [tb_ne (by decide)] at h)).2.2⟩⟩
   · refine wpOp_at rfl (by kernel_rfl) (fun K hK => ?_)
     have hd := fun j => @tb_of _ _ j hd
     obtain rfl := CL1.out (hd _ (by decide))
     obtain rfl := CL3.out (hd _ (by decide))
     go_simp
     go_at_call 71
     refine (C4.out _).mono ?_
     rintro r w10 ⟨rfl, hb⟩
     dsimp only
     have hb1 := below_step HB0.out hb
     exact hK _ _ ⟨HS51.out _ hb1, _, _, _, v5, p6_, g6_, by go_simp, hb1, fun _ => rfl, fun _ => rfl, fun _ => rfl, fun h => CL5.out (by rwa [tb_ne (by decide)] at h), fun h => ⟨(QL6.out (by rwa [tb_ne (by decide)] at h)).1, (QL6.out (by rwa [tb_ne (by decide)] at h)).2.1.below hb (QL6.out (by rwa [tb_ne (by decide)] at h)).2.1.lt, (QL6.out (by rwa [tb_ne (by decide)] at h)).2.2⟩⟩
   · refine wpOp_at rfl (by kernel_rfl) (fun K hK => ?_)
     have hd := fun j => @tb_of _ _ j hd
     obtain rfl := CL4.out (hd _ (by decide))
     go_simp
     go_at_call 70
     refine (C5.out _).mono ?_
     rintro r w10 ⟨rfl, hb⟩
     dsimp only
     have hb1 := below_step HB0.out hb
     exact hK _ _ ⟨HS51.out _ hb1, v1, v3, _, _, p6_, g6_, by go_simp, hb1, fun h => CL1.out (by rwa [tb_ne (by decide)] at h), fun h => CL3.out (by rwa [tb_ne (by decide)] at h), fun _ => rfl, fun _ => rfl, fun h => ⟨(QL6.out (by rwa [tb_ne (by decide)] at h)).1, (QL6.out (by rwa [tb_ne (by decide)] at h)).2.1.below hb (QL6.out (by rwa [tb_ne (by decide)] at h)).2.1.lt, (QL6.out (by rwa [tb_ne (by decide)] at h)).2.2⟩⟩
   · refine wpOp_at rfl (by kernel_rfl) (fun K hK => ?_)
     have hd := fun j => @tb_of _ _ j hd
     go_simp
     have hb1 := below_more HB0.out (.cells #[.float .f64 0, .float .f64 0] 28)
     exact hK _ _ ⟨HS51.out _ hb1, v1, v3, v4, v5, .pointer (some ⟨w9.heap.size, 0, none⟩), w9.heap.size, by go_simp, hb1, fun h => CL1.out (by rwa [tb_ne (by decide)] at h), fun h => CL3.out (by rwa [tb_ne (by decide)] at h), fun h => CL4.out (by rwa [tb_ne (by decide)] at h), fun h => CL5.out (by rwa [tb_ne (by decide)] at h), fun _ => ⟨rfl, Blk.new_at _ _ _ rfl, HB0.out.size⟩⟩
 clear hS48 D47 HS51
 intro a' W64 hJ
 obtain ⟨v1, v3, v4, v5, p6_, g65, rfl, hb0, cl1, cl3, cl4, cl5, ql6⟩ := hJ
 obtain rfl := cl1 (by decide)
 obtain rfl := cl3 (by decide)
 obtain rfl := cl4 (by decide)
 obtain rfl := cl5 (by decide)
 obtain ⟨rfl, kk6, ll6⟩ := ql6 (by decide)
 have D54 := Lib.hid hb0
 clear hb0
 refine wpAnyH_frame (a' := ?frq53) ?feq53 ?fgq53
 case feq53 => (go_simp; try with_reducible rfl)
 have K56 := Lib.hid ((kb K41 D54) : Blk W64 (w.heap.size) 33 #[.float .f64 0, .float .f64 0, .float .f64 0, .float .f64 0, .float .f64 0, .float .f64 0, .float .f64 0, .float .f64 0, .float .f64 0, .float .f64 0, .float .f64 0, .float .f64 0, .float .f64 0, .float .f64 0, .float .f64 0, .float .f64 0, .float .f64 0, .float .f64 0, .float .f64 0, .float .f64 0, .float .f64 0, .float .f64 0, .float .f64 0, .float .f64 0])
 have K57 := Lib.hid ((kb K42 D54) : Blk W64 (g6) 28 #[.float .f64 p0.lo, .float .f64 p0.hi])
 have K58 := Lib.hid ((kb K43 D54) : Blk W64 (g15) 28 #[.float .f64 p1.lo, .float .f64 p1.hi])
 have K59 := Lib.hid kk6
 clear kk6
 have HB62 := Lib.hid (below_step HB44.out D54.out)
 have Y61 := Lib.hid (show w.heap.size ≤ g65 ∧ w.heap.size < g65 ∧ g6 < g65 ∧ g15 < g65 from ⟨Nat.le_trans HB44.out.size ll6, Nat.lt_of_lt_of_le K41.out.lt ll6, Nat.lt_of_lt_of_le K42.out.lt ll6, Nat.lt_of_lt_of_le K43.out.lt ll6⟩)
 have Y63 := Lib.hid (And.intro Y25.out Y61.out)
 clear Y25 Y61
 clear K41 K42 K43 ll6 HB44
 have D66 := Lib.hid (Below.refl W64.heap.size W64)
 clear D54
 have hS67 : True ∧ CellsL W64 (g6) 0 [.float .f64 p0.lo, .float .f64 p0.hi] ∧ CellsL W64 (g15) 0 [.float .f64 p1.lo, .float .f64 p1.hi] := ⟨trivial, (kb K57 D66).cellsL 0 [.float .f64 p0.lo, .float .f64 p0.hi] rfl, (kb K58 D66).cellsL 0 [.float .f64 p1.lo, .float .f64 p1.hi] rfl⟩
 refine wpAnyH_oneM (i := 7) (l' := bm 8 255) rfl (by kernel_rfl) (by kernel_rfl) (by kernel_rfl) (fun K hK => ?_)
 have f70 := (kb K59 D66).cellsL 0 [.float .f64 0, .float .f64 0] rfl
 dsimp only [CellsL, al, vl, Nat.reduceAdd] at f70
 have u71 := (kb K59 D66).unfrozen
 obtain ⟨V68, hV69⟩ : ∃ V, setCells W64 (g65) 0 [.float .f64 p5.lo, .float .f64 p5.hi] = V := ⟨_, rfl⟩
 have hv72 := hV69
 simp only [setCells, Nat.reduceAdd] at hv72
 have K73 := kf hV69 K56 D66 (by have := Y63.out; omega)
 have K74 := kf hV69 K57 D66 (by have := Y63.out; omega)
 have K75 := kf hV69 K58 D66 (by have := Y63.out; omega)
 have K76 := Lib.hid (show Blk V68 (g65) 28 #[.float .f64 p5.lo, .float .f64 p5.hi] from (ks hV69 K59 D66).out)
 have HB77 := hbs hV69 HB62 D66 (by have := Y63.out; omega)
 have D78 := dr V68
 clear K56 K57 K58 K59 HB62 D66
 go_simp
 clear hV69 f70 u71 hv72
 have hS79 : True ∧ CellsL V68 (g6) 0 [.float .f64 p0.lo, .float .f64 p0.hi] ∧ CellsL V68 (g15) 0 [.float .f64 p1.lo, .float .f64 p1.hi] := ⟨trivial, (kb K74 D78).cellsL 0 [.float .f64 p0.lo, .float .f64 p0.hi] rfl, (kb K75 D78).cellsL 0 [.float .f64 p1.lo, .float .f64 p1.hi] rfl⟩
 refine hK _ _ hS79 ?_
 clear hK K hS67
 refine wpAnyH_done (by kernel_rfl) ?_ _
 clear hS79
 have hq80 := (kb K76 D78).cellsL 0 [.float .f64 p5.lo, .float .f64 p5.hi] rfl
 dsimp only [CellsL, al, vl, Nat.reduceAdd] at hq80
 go_wp2_with fail
 clear hq80
 refine (C6.out _).mono ?_
 rintro r w81 ⟨rfl, hb⟩
 have D82 := ds D78 hb
 clear D78
 clear hb
 go_wp2_with fail
 refine (C7.out _).mono ?_
 rintro r w83 ⟨rfl, hb⟩
 have D84 := ds D82 hb
 clear D82
 clear hb
 obtain ⟨g85, hg87⟩ : ∃ g, w83.heap.size = g := ⟨_, rfl⟩
 have Y89 := Lib.hid (show w.heap.size < g85 ∧ g6 < g85 ∧ g15 < g85 ∧ g65 < g85 by rw [← hg87]; exact ⟨(kb K73 D84).lt, (kb K74 D84).lt, (kb K75 D84).lt, (kb K76 D84).lt⟩)
 obtain ⟨V86, hV88⟩ : ∃ V, w83.alloc (.cells #[.float .f64 0, .float .f64 0, .float .f64 0, .float .f64 0, .float .f64 0, .float .f64 0, .float .f64 0, .float .f64 0, .float .f64 0, .float .f64 0, .float .f64 0, .float .f64 0, .float .f64 0, .float .f64 0, .float .f64 0, .float .f64 0, .float .f64 0, .float .f64 0, .float .f64 0, .float .f64 0, .float .f64 0, .float .f64 0, .float .f64 0, .float .f64 0] 33) = V := ⟨_, rfl⟩
 have K90 := ka hV88 K73 D84
 have K91 := ka hV88 K74 D84
 have K92 := ka hV88 K75 D84
 have K93 := ka hV88 K76 D84
 have K94 := kn hV88 hg87
 have HB95 := hba hV88 HB77 D84
 have D96 := dr V86
 clear K73 K74 K75 K76 HB77 D84
 have Y97 := Lib.hid (And.intro Y63.out Y89.out)
 clear Y63 Y89
 have f100 := (kb K94 D96)
 obtain ⟨V98, hV99⟩ : ∃ V, World.setRow V86 (g85) (ac p7) = V := ⟨_, rfl⟩
 have K101 := kfr hV99 K90 D96 (by have := Y97.out; omega)
 have K102 := kfr hV99 K91 D96 (by have := Y97.out; omega)
 have K103 := kfr hV99 K92 D96 (by have := Y97.out; omega)
 have K104 := kfr hV99 K93 D96 (by have := Y97.out; omega)
 have K105 := ksr hV99 K94 D96
 have HB106 := hbr hV99 HB95 D96 (by have := Y97.out; omega)
 have D107 := dr V98
 clear K90 K91 K92 K93 K94 HB95 D96
 go_wp2_with (refine wpList_store_row rfl 33 _ _ rfl (g85) (ac p7) rfl rfl _ _ f100 (by rw [info_Affine]; rfl) rfl (by kernel_rfl) ?_; rw [hV99])
 clear hg87 hV88 hV99 f100
 refine wp_region_held (S := (fun w' => True ∧ CellsL w' (g6) 0 [.float .f64 p0.lo, .float .f64 p0.hi] ∧ CellsL w' (g65) 0 [.float .f64 p5.lo, .float .f64 p5.hi])) (by kernel_rfl) ?_
 change wpAnyH _ _ _ _ _ _ _ _ (World.drew _)
 obtain ⟨wd108, hwd⟩ : ∃ x, x = World.drew V98 := ⟨_, rfl⟩
 rw [← hwd]
 have D109 := Lib.hid (hwd ▸ Below.drew D107.out : Below V98.heap.size V98 wd108)
 clear D107 hwd
 have hS110 : True ∧ CellsL wd108 (g6) 0 [.float .f64 p0.lo, .float .f64 p0.hi] ∧ CellsL wd108 (g65) 0 [.float .f64 p5.lo, .float .f64 p5.hi] := ⟨trivial, (kb K102 D109).cellsL 0 [.float .f64 p0.lo, .float .f64 p0.hi] rfl, (kb K104 D109).cellsL 0 [.float .f64 p5.lo, .float .f64 p5.hi] rfl⟩
 refine tkq 0 (bm 9 1) hS110 ?_
 refine tkq 1 (bm 9 3) hS110 ?_
 refine tke 2 (bm 9 7) hS110 ?_
 refine tke 3 (bm 9 15) hS110 ?_
 refine tkq 5 (bm 9 47) hS110 ?_
 refine tkq 6 (bm 9 111) hS110 ?_
 refine wpAnyH_oneN (i := 4) (l' := bm 9 127) rfl (by kernel_rfl) (by kernel_rfl) (by kernel_rfl) (fun K hK => ?_)
 go_simp
 go_at_call 72
 refine (C8.out _).mono ?_
 rintro r w117 ⟨rfl, hb⟩
 dsimp only
 have D118 := ds D109 hb
 clear D109
 clear hb
 have hS119 : True ∧ CellsL w117 (g6) 0 [.float .f64 p0.lo, .float .f64 p0.hi] ∧ CellsL w117 (g65) 0 [.float .f64 p5.lo, .float .f64 p5.hi] := ⟨trivial, (kb K102 D118).cellsL 0 [.float .f64 p0.lo, .float .f64 p0.hi] rfl, (kb K104 D118).cellsL 0 [.float .f64 p5.lo, .float .f64 p5.hi] rfl⟩
 refine hK _ _ hS119 ?_
 clear hK K hS110
 refine tkq 7 (bm 9 255) hS119 ?_
 refine wpAnyH_oneN (i := 8) (l' := bm 9 511) rfl (by kernel_rfl) (by kernel_rfl) (by kernel_rfl) (fun K hK => ?_)
 have f123 := (kb K105 D118).cellsL 16 [.float .f64 p7.c.z.lo, .float .f64 p7.c.z.hi] rfl
 dsimp only [CellsL, al, vl, Nat.reduceAdd] at f123
 have u124 := (kb K105 D118).unfrozen
 obtain ⟨V121, hV122⟩ : ∃ V, setCells w117 (g85) 16 [.float .f64 p8.lo, .float .f64 p8.hi] = V := ⟨_, rfl⟩
 have hv125 := hV122
 simp only [setCells, Nat.reduceAdd] at hv125
 have K126 := kf hV122 K101 D118 (by have := Y97.out; omega)
 have K127 := kf hV122 K102 D118 (by have := Y97.out; omega)
 have K128 := kf hV122 K103 D118 (by have := Y97.out; omega)
 have K129 := kf hV122 K104 D118 (by have := Y97.out; omega)
 have K130 := Lib.hid (show Blk V121 (g85) 33 #[.float .f64 p7.a.x.lo, .float .f64 p7.a.x.hi, .float .f64 p7.a.y.lo, .float .f64 p7.a.y.hi, .float .f64 p7.a.z.lo, .float .f64 p7.a.z.hi, .float .f64 p7.b.x.lo, .float .f64 p7.b.x.hi, .float .f64 p7.b.y.lo, .float .f64 p7.b.y.hi, .float .f64 p7.b.z.lo, .float .f64 p7.b.z.hi, .float .f64 p7.c.x.lo, .float .f64 p7.c.x.hi, .float .f64 p7.c.y.lo, .float .f64 p7.c.y.hi, .float .f64 p8.lo, .float .f64 p8.hi, .float .f64 p7.t.x.lo, .float .f64 p7.t.x.hi, .float .f64 p7.t.y.lo, .float .f64 p7.t.y.hi, .float .f64 p7.t.z.lo, .float .f64 p7.t.z.hi] from (ks hV122 K105 D118).out)
 have HB131 := hbs hV122 HB106 D118 (by have := Y97.out; omega)
 have D132 := dr V121
 clear K101 K102 K103 K104 K105 HB106 D118
 go_simp
 clear hV122 f123 u124 hv125
 have hS133 : True ∧ CellsL V121 (g6) 0 [.float .f64 p0.lo, .float .f64 p0.hi] ∧ CellsL V121 (g65) 0 [.float .f64 p5.lo, .float .f64 p5.hi] := ⟨trivial, (kb K127 D132).cellsL 0 [.float .f64 p0.lo, .float .f64 p0.hi] rfl, (kb K129 D132).cellsL 0 [.float .f64 p5.lo, .float .f64 p5.hi] rfl⟩
 refine hK _ _ hS133 ?_
 clear hK K hS119
 refine wpAnyH_done (by kernel_rfl) ?_ _
 clear hS133
 go_wp2_with fail
 refine wp_region_held (S := (fun w' => True ∧ CellsL w' (g6) 0 [.float .f64 p0.lo, .float .f64 p0.hi] ∧ CellsL w' (g65) 0 [.float .f64 p5.lo, .float .f64 p5.hi])) (by kernel_rfl) ?_
 change wpAnyH _ _ _ _ _ _ _ _ (World.drew _)
 obtain ⟨wd134, hwd⟩ : ∃ x, x = World.drew V121 := ⟨_, rfl⟩
 rw [← hwd]
 have D135 := Lib.hid (hwd ▸ Below.drew D132.out : Below V121.heap.size V121 wd134)
 clear D132 hwd
 have hS136 : True ∧ CellsL wd134 (g6) 0 [.float .f64 p0.lo, .float .f64 p0.hi] ∧ CellsL wd134 (g65) 0 [.float .f64 p5.lo, .float .f64 p5.hi] := ⟨trivial, (kb K127 D135).cellsL 0 [.float .f64 p0.lo, .float .f64 p0.hi] rfl, (kb K129 D135).cellsL 0 [.float .f64 p5.lo, .float .f64 p5.hi] rfl⟩
 refine tkq 0 (bm 9 1) hS136 ?_
 refine tkq 1 (bm 9 3) hS136 ?_
 refine tke 2 (bm 9 7) hS136 ?_
 refine tke 3 (bm 9 15) hS136 ?_
 refine tkq 5 (bm 9 47) hS136 ?_
 refine tkq 6 (bm 9 111) hS136 ?_
 refine wpAnyH_oneN (i := 4) (l' := bm 9 127) rfl (by kernel_rfl) (by kernel_rfl) (by kernel_rfl) (fun K hK => ?_)
 go_simp
 go_at_call 72
 refine (C9.out _).mono ?_
 rintro r w143 ⟨rfl, hb⟩
 dsimp only
 have D144 := ds D135 hb
 clear D135
 clear hb
 have hS145 : True ∧ CellsL w143 (g6) 0 [.float .f64 p0.lo, .float .f64 p0.hi] ∧ CellsL w143 (g65) 0 [.float .f64 p5.lo, .float .f64 p5.hi] := ⟨trivial, (kb K127 D144).cellsL 0 [.float .f64 p0.lo, .float .f64 p0.hi] rfl, (kb K129 D144).cellsL 0 [.float .f64 p5.lo, .float .f64 p5.hi] rfl⟩
 refine hK _ _ hS145 ?_
 clear hK K hS136
 refine tkq 7 (bm 9 255) hS145 ?_
 refine wpAnyH_oneN (i := 8) (l' := bm 9 511) rfl (by kernel_rfl) (by kernel_rfl) (by kernel_rfl) (fun K hK => ?_)
 have f149 := (kb K130 D144).cellsL 0 [.float .f64 p7.a.x.lo, .float .f64 p7.a.x.hi] rfl
 dsimp only [CellsL, al, vl, Nat.reduceAdd] at f149
 have u150 := (kb K130 D144).unfrozen
 obtain ⟨V147, hV148⟩ : ∃ V, setCells w143 (g85) 0 [.float .f64 p8.lo, .float .f64 p8.hi] = V := ⟨_, rfl⟩
 have hv151 := hV148
 simp only [setCells, Nat.reduceAdd] at hv151
 have K152 := kf hV148 K126 D144 (by have := Y97.out; omega)
 have K153 := kf hV148 K127 D144 (by have := Y97.out; omega)
 have K154 := kf hV148 K128 D144 (by have := Y97.out; omega)
 have K155 := kf hV148 K129 D144 (by have := Y97.out; omega)
 have K156 := Lib.hid (show Blk V147 (g85) 33 #[.float .f64 p8.lo, .float .f64 p8.hi, .float .f64 p7.a.y.lo, .float .f64 p7.a.y.hi, .float .f64 p7.a.z.lo, .float .f64 p7.a.z.hi, .float .f64 p7.b.x.lo, .float .f64 p7.b.x.hi, .float .f64 p7.b.y.lo, .float .f64 p7.b.y.hi, .float .f64 p7.b.z.lo, .float .f64 p7.b.z.hi, .float .f64 p7.c.x.lo, .float .f64 p7.c.x.hi, .float .f64 p7.c.y.lo, .float .f64 p7.c.y.hi, .float .f64 p8.lo, .float .f64 p8.hi, .float .f64 p7.t.x.lo, .float .f64 p7.t.x.hi, .float .f64 p7.t.y.lo, .float .f64 p7.t.y.hi, .float .f64 p7.t.z.lo, .float .f64 p7.t.z.hi] from (ks hV148 K130 D144).out)
 have HB157 := hbs hV148 HB131 D144 (by have := Y97.out; omega)
 have D158 := dr V147
 clear K126 K127 K128 K129 K130 HB131 D144
 go_simp
 clear hV148 f149 u150 hv151
 have hS159 : True ∧ CellsL V147 (g6) 0 [.float .f64 p0.lo, .float .f64 p0.hi] ∧ CellsL V147 (g65) 0 [.float .f64 p5.lo, .float .f64 p5.hi] := ⟨trivial, (kb K153 D158).cellsL 0 [.float .f64 p0.lo, .float .f64 p0.hi] rfl, (kb K155 D158).cellsL 0 [.float .f64 p5.lo, .float .f64 p5.hi] rfl⟩
 refine hK _ _ hS159 ?_
 clear hK K hS145
 refine wpAnyH_done (by kernel_rfl) ?_ _
 clear hS159
 go_wp2_with fail
 refine wp_region_held (S := (fun w' => True ∧ CellsL w' (g15) 0 [.float .f64 p1.lo, .float .f64 p1.hi] ∧ CellsL w' (g65) 0 [.float .f64 p5.lo, .float .f64 p5.hi])) (by kernel_rfl) ?_
 change wpAnyH _ _ _ _ _ _ _ _ (World.drew _)
 obtain ⟨wd160, hwd⟩ : ∃ x, x = World.drew V147 := ⟨_, rfl⟩
 rw [← hwd]
 have D161 := Lib.hid (hwd ▸ Below.drew D158.out : Below V147.heap.size V147 wd160)
 clear D158 hwd
 have hS162 : True ∧ CellsL wd160 (g15) 0 [.float .f64 p1.lo, .float .f64 p1.hi] ∧ CellsL wd160 (g65) 0 [.float .f64 p5.lo, .float .f64 p5.hi] := ⟨trivial, (kb K154 D161).cellsL 0 [.float .f64 p1.lo, .float .f64 p1.hi] rfl, (kb K155 D161).cellsL 0 [.float .f64 p5.lo, .float .f64 p5.hi] rfl⟩
 refine tkq 0 (bm 9 1) hS162 ?_
 refine tkq 1 (bm 9 3) hS162 ?_
 refine tke 2 (bm 9 7) hS162 ?_
 refine tke 3 (bm 9 15) hS162 ?_
 refine tkq 5 (bm 9 47) hS162 ?_
 refine tkq 6 (bm 9 111) hS162 ?_
 refine wpAnyH_oneN (i := 4) (l' := bm 9 127) rfl (by kernel_rfl) (by kernel_rfl) (by kernel_rfl) (fun K hK => ?_)
 go_simp
 go_at_call 72
 refine (C10.out _).mono ?_
 rintro r w169 ⟨rfl, hb⟩
 dsimp only
 have D170 := ds D161 hb
 clear D161
 clear hb
 have hS171 : True ∧ CellsL w169 (g15) 0 [.float .f64 p1.lo, .float .f64 p1.hi] ∧ CellsL w169 (g65) 0 [.float .f64 p5.lo, .float .f64 p5.hi] := ⟨trivial, (kb K154 D170).cellsL 0 [.float .f64 p1.lo, .float .f64 p1.hi] rfl, (kb K155 D170).cellsL 0 [.float .f64 p5.lo, .float .f64 p5.hi] rfl⟩
 refine hK _ _ hS171 ?_
 clear hK K hS162
 refine tkq 7 (bm 9 255) hS171 ?_
 refine wpAnyH_oneN (i := 8) (l' := bm 9 511) rfl (by kernel_rfl) (by kernel_rfl) (by kernel_rfl) (fun K hK => ?_)
 have f175 := (kb K156 D170).cellsL 4 [.float .f64 p7.a.z.lo, .float .f64 p7.a.z.hi] rfl
 dsimp only [CellsL, al, vl, Nat.reduceAdd] at f175
 have u176 := (kb K156 D170).unfrozen
 obtain ⟨V173, hV174⟩ : ∃ V, setCells w169 (g85) 4 [.float .f64 p10.lo, .float .f64 p10.hi] = V := ⟨_, rfl⟩
 have hv177 := hV174
 simp only [setCells, Nat.reduceAdd] at hv177
 have K178 := kf hV174 K152 D170 (by have := Y97.out; omega)
 have K179 := kf hV174 K153 D170 (by have := Y97.out; omega)
 have K180 := kf hV174 K154 D170 (by have := Y97.out; omega)
 have K181 := kf hV174 K155 D170 (by have := Y97.out; omega)
 have K182 := Lib.hid (show Blk V173 (g85) 33 #[.float .f64 p8.lo, .float .f64 p8.hi, .float .f64 p7.a.y.lo, .float .f64 p7.a.y.hi, .float .f64 p10.lo, .float .f64 p10.hi, .float .f64 p7.b.x.lo, .float .f64 p7.b.x.hi, .float .f64 p7.b.y.lo, .float .f64 p7.b.y.hi, .float .f64 p7.b.z.lo, .float .f64 p7.b.z.hi, .float .f64 p7.c.x.lo, .float .f64 p7.c.x.hi, .float .f64 p7.c.y.lo, .float .f64 p7.c.y.hi, .float .f64 p8.lo, .float .f64 p8.hi, .float .f64 p7.t.x.lo, .float .f64 p7.t.x.hi, .float .f64 p7.t.y.lo, .float .f64 p7.t.y.hi, .float .f64 p7.t.z.lo, .float .f64 p7.t.z.hi] from (ks hV174 K156 D170).out)
 have HB183 := hbs hV174 HB157 D170 (by have := Y97.out; omega)
 have D184 := dr V173
 clear K152 K153 K154 K155 K156 HB157 D170
 go_simp
 clear hV174 f175 u176 hv177
 have hS185 : True ∧ CellsL V173 (g15) 0 [.float .f64 p1.lo, .float .f64 p1.hi] ∧ CellsL V173 (g65) 0 [.float .f64 p5.lo, .float .f64 p5.hi] := ⟨trivial, (kb K180 D184).cellsL 0 [.float .f64 p1.lo, .float .f64 p1.hi] rfl, (kb K181 D184).cellsL 0 [.float .f64 p5.lo, .float .f64 p5.hi] rfl⟩
 refine hK _ _ hS185 ?_
 clear hK K hS171
 refine wpAnyH_done (by kernel_rfl) ?_ _
 clear hS185
 go_wp2_with fail
 refine wp_region_held (S := (fun w' => True ∧ CellsL w' (g85) 4 [.float .f64 p10.lo, .float .f64 p10.hi])) (by kernel_rfl) ?_
 change wpAnyH _ _ _ _ _ _ _ _ (World.drew _)
 obtain ⟨wd186, hwd⟩ : ∃ x, x = World.drew V173 := ⟨_, rfl⟩
 rw [← hwd]
 have D187 := Lib.hid (hwd ▸ Below.drew D184.out : Below V173.heap.size V173 wd186)
 clear D184 hwd
 have hS188 : True ∧ CellsL wd186 (g85) 4 [.float .f64 p10.lo, .float .f64 p10.hi] := ⟨trivial, (kb K182 D187).cellsL 4 [.float .f64 p10.lo, .float .f64 p10.hi] rfl⟩
 refine tkq 0 (bm 13 1) hS188 ?_
 refine tkq 1 (bm 13 3) hS188 ?_
 refine tkq 2 (bm 13 7) hS188 ?_
 refine tkq 3 (bm 13 15) hS188 ?_
 refine tkq 4 (bm 13 31) hS188 ?_
 refine tkq 5 (bm 13 63) hS188 ?_
 refine tkq 6 (bm 13 127) hS188 ?_
 refine tke 7 (bm 13 255) hS188 ?_
 refine tkq 9 (bm 13 767) hS188 ?_
 refine tkq 10 (bm 13 1791) hS188 ?_
 refine wpAnyH_oneN (i := 8) (l' := bm 13 2047) rfl (by kernel_rfl) (by kernel_rfl) (by kernel_rfl) (fun K hK => ?_)
 go_simp
 go_at_call 73
 refine (C11.out _).mono ?_
 rintro r w199 ⟨rfl, hb⟩
 dsimp only
 have D200 := ds D187 hb
 clear D187
 clear hb
 have hS201 : True ∧ CellsL w199 (g85) 4 [.float .f64 p10.lo, .float .f64 p10.hi] := ⟨trivial, (kb K182 D200).cellsL 4 [.float .f64 p10.lo, .float .f64 p10.hi] rfl⟩
 refine hK _ _ hS201 ?_
 clear hK K hS188
 refine tkq 11 (bm 13 4095) hS201 ?_
 refine wpAnyH_oneN (i := 12) (l' := bm 13 8191) rfl (by kernel_rfl) (by kernel_rfl) (by kernel_rfl) (fun K hK => ?_)
 have f205 := (kb K182 D200).cellsL 12 [.float .f64 p7.c.x.lo, .float .f64 p7.c.x.hi] rfl
 dsimp only [CellsL, al, vl, Nat.reduceAdd] at f205
 have u206 := (kb K182 D200).unfrozen
 obtain ⟨V203, hV204⟩ : ∃ V, setCells w199 (g85) 12 [.float .f64 p11.lo, .float .f64 p11.hi] = V := ⟨_, rfl⟩
 have hv207 := hV204
 simp only [setCells, Nat.reduceAdd] at hv207
 have K208 := kf hV204 K178 D200 (by have := Y97.out; omega)
 have K209 := kf hV204 K179 D200 (by have := Y97.out; omega)
 have K210 := kf hV204 K180 D200 (by have := Y97.out; omega)
 have K211 := kf hV204 K181 D200 (by have := Y97.out; omega)
 have K212 := Lib.hid (show Blk V203 (g85) 33 #[.float .f64 p8.lo, .float .f64 p8.hi, .float .f64 p7.a.y.lo, .float .f64 p7.a.y.hi, .float .f64 p10.lo, .float .f64 p10.hi, .float .f64 p7.b.x.lo, .float .f64 p7.b.x.hi, .float .f64 p7.b.y.lo, .float .f64 p7.b.y.hi, .float .f64 p7.b.z.lo, .float .f64 p7.b.z.hi, .float .f64 p11.lo, .float .f64 p11.hi, .float .f64 p7.c.y.lo, .float .f64 p7.c.y.hi, .float .f64 p8.lo, .float .f64 p8.hi, .float .f64 p7.t.x.lo, .float .f64 p7.t.x.hi, .float .f64 p7.t.y.lo, .float .f64 p7.t.y.hi, .float .f64 p7.t.z.lo, .float .f64 p7.t.z.hi] from (ks hV204 K182 D200).out)
 have HB213 := hbs hV204 HB183 D200 (by have := Y97.out; omega)
 have D214 := dr V203
 clear K178 K179 K180 K181 K182 HB183 D200
 go_simp
 clear hV204 f205 u206 hv207
 have hS215 : True ∧ CellsL V203 (g85) 4 [.float .f64 p10.lo, .float .f64 p10.hi] := ⟨trivial, (kb K212 D214).cellsL 4 [.float .f64 p10.lo, .float .f64 p10.hi] rfl⟩
 refine hK _ _ hS215 ?_
 clear hK K hS201
 refine wpAnyH_done (by kernel_rfl) ?_ _
 clear hS215
 have f216 := (kb K212 D214)
 have f219 := (kb K208 D214)
 obtain ⟨V217, hV218⟩ : ∃ V, World.setRow V203 (w.heap.size) #[.float .f64 p8.lo, .float .f64 p8.hi, .float .f64 p7.a.y.lo, .float .f64 p7.a.y.hi, .float .f64 p10.lo, .float .f64 p10.hi, .float .f64 p7.b.x.lo, .float .f64 p7.b.x.hi, .float .f64 p7.b.y.lo, .float .f64 p7.b.y.hi, .float .f64 p7.b.z.lo, .float .f64 p7.b.z.hi, .float .f64 p11.lo, .float .f64 p11.hi, .float .f64 p7.c.y.lo, .float .f64 p7.c.y.hi, .float .f64 p8.lo, .float .f64 p8.hi, .float .f64 p7.t.x.lo, .float .f64 p7.t.x.hi, .float .f64 p7.t.y.lo, .float .f64 p7.t.y.hi, .float .f64 p7.t.z.lo, .float .f64 p7.t.z.hi] = V := ⟨_, rfl⟩
 have K220 := ksr hV218 K208 D214
 have K221 := kfr hV218 K209 D214 (by have := Y97.out; omega)
 have K222 := kfr hV218 K210 D214 (by have := Y97.out; omega)
 have K223 := kfr hV218 K211 D214 (by have := Y97.out; omega)
 have K224 := kfr hV218 K212 D214 (by have := Y97.out; omega)
 have HB225 := hbr hV218 HB213 D214 (by have := Y97.out; omega)
 have D226 := dr V217
 clear K208 K209 K210 K211 K212 HB213 D214
 go_wp2_with (first | (refine wpList_store_row rfl 33 _ _ rfl (w.heap.size) #[.float .f64 p8.lo, .float .f64 p8.hi, .float .f64 p7.a.y.lo, .float .f64 p7.a.y.hi, .float .f64 p10.lo, .float .f64 p10.hi, .float .f64 p7.b.x.lo, .float .f64 p7.b.x.hi, .float .f64 p7.b.y.lo, .float .f64 p7.b.y.hi, .float .f64 p7.b.z.lo, .float .f64 p7.b.z.hi, .float .f64 p11.lo, .float .f64 p11.hi, .float .f64 p7.c.y.lo, .float .f64 p7.c.y.hi, .float .f64 p8.lo, .float .f64 p8.hi, .float .f64 p7.t.x.lo, .float .f64 p7.t.x.hi, .float .f64 p7.t.y.lo, .float .f64 p7.t.y.hi, .float .f64 p7.t.z.lo, .float .f64 p7.t.z.hi] rfl rfl _ _ f219 (by rw [info_Affine]; rfl) rfl (by kernel_rfl) ?_; rw [hV218]) | (refine wl_load (by kernel_rfl) rfl rfl f216 (by rw [info_Affine]; rfl) Try.underlying33 rfl ?_))
 clear f216 hV218 f219
 (try simp only [Exit.inBlock, Exit.then])
 exact bodyPost_ret (res_ct rfl _ _ (w.heap.size) #[.float .f64 p8.lo, .float .f64 p8.hi, .float .f64 p7.a.y.lo, .float .f64 p7.a.y.hi, .float .f64 p10.lo, .float .f64 p10.hi, .float .f64 p7.b.x.lo, .float .f64 p7.b.x.hi, .float .f64 p7.b.y.lo, .float .f64 p7.b.y.hi, .float .f64 p7.b.z.lo, .float .f64 p7.b.z.hi, .float .f64 p11.lo, .float .f64 p11.hi, .float .f64 p7.c.y.lo, .float .f64 p7.c.y.hi, .float .f64 p8.lo, .float .f64 p8.hi, .float .f64 p7.t.x.lo, .float .f64 p7.t.x.hi, .float .f64 p7.t.y.lo, .float .f64 p7.t.y.hi, .float .f64 p7.t.z.lo, .float .f64 p7.t.z.hi] rfl (kb K220 D226) (by rw [info_Affine]; rfl) Try.underlying33 rfl) rfl ⟨rfl, below_step HB225.out D226.out⟩
theorem rturnA_k2 (c s : Nat) (hc : c < 18446744073709551616) (hs : s < 18446744073709551616) (h1 : 0 < Z (tuL c s).lo) (h2 : (tuL c s).wide = false) (w : World) : Calls Try.prog 19 #[Value.int IntKind.i64 2, .float .f64 c, .float .f64 s] w fun r w' => r = .returned (.tuple #[aval (afTurn2 (divS (ofS c) (tuL c s)) (divS (ofS s) (tuL c s))), .int .i64 0]) ∧ Below w.heap.size w w' := by
 have C0 := Lib.hid (fun w => rof_sp c hc w)
 obtain ⟨p0, hp0⟩ : ∃ z_, ofS c = z_ := ⟨_, rfl⟩
 rw [hp0] at C0
 have C1 := Lib.hid (fun w => rof_sp s hs w)
 obtain ⟨p1, hp1⟩ : ∃ z_, ofS s = z_ := ⟨_, rfl⟩
 rw [hp1] at C1
 have C2 := Lib.hid (fun w => rsqr_sp p0 w)
 obtain ⟨p2, hp2⟩ : ∃ z_, sqrS p0 = z_ := ⟨_, rfl⟩
 rw [hp2] at C2
 have C3 := Lib.hid (fun w => rsqr_sp p1 w)
 obtain ⟨p3, hp3⟩ : ∃ z_, sqrS p1 = z_ := ⟨_, rfl⟩
 rw [hp3] at C3
 have C4 := Lib.hid (fun w => radd_sp p2 p3 w)
 obtain ⟨p4, hp4⟩ : ∃ z_, addS p2 p3 = z_ := ⟨_, rfl⟩
 rw [hp4] at C4
 have C5 := Lib.hid (fun w => rsqrt_sp p4 w)
 obtain ⟨p5, hp5⟩ : ∃ z_, sqrtS p4 = z_ := ⟨_, rfl⟩
 rw [hp5] at C5
 have hl : tuL c s = p5 := by rw [← hp5, ← hp4, ← hp3, ← hp2, ← hp1, ← hp0]; rfl
 rw [hl] at h1 h2
 clear hl
 have e1 : (FloatKind.f64.format.order p5.lo 0 == some .lt || FloatKind.f64.format.order p5.lo 0 == some .eq) = false := by rw [le0_gd p5.vd.l]; exact decide_eq_false (by omega)
 have C6 := Lib.hid (fun w => rwide_sp p5 w)
 rw [h2] at C6
 have C7 := Lib.hid (fun w => rsameA_any w)
 obtain ⟨p7, hp7⟩ : ∃ z_, afSame = z_ := ⟨_, rfl⟩
 rw [hp7] at C7
 have C8 := Lib.hid (fun w => rdiv_sp p0 p5 w)
 obtain ⟨p8, hp8⟩ : ∃ z_, divS p0 p5 = z_ := ⟨_, rfl⟩
 rw [hp8] at C8
 have C9 := Lib.hid (fun w => rdiv_sp p0 p5 w)
 rw [hp8] at C9
 have C10 := Lib.hid (fun w => rdiv_sp p1 p5 w)
 obtain ⟨p10, hp10⟩ : ∃ z_, divS p1 p5 = z_ := ⟨_, rfl⟩
 rw [hp10] at C10
 have C11 := Lib.hid (fun w => rneg_sp p10 w)
 obtain ⟨p11, hp11⟩ : ∃ z_, negS p10 = z_ := ⟨_, rfl⟩
 rw [hp11] at C11
 have hT : (afTurn2 (divS (ofS c) (tuL c s)) (divS (ofS s) (tuL c s))) = (⟨(⟨p8, p11, p7.a.z⟩ : V3), (⟨p10, p8, p7.b.z⟩ : V3), p7.c, p7.t⟩ : Af) := by
   subst hp0 hp1 hp2 hp3 hp4 hp5 hp7 hp8 hp10 hp11; rfl
 rw [hT]
 clear hT
 clear hp0 hp1 hp2 hp3 hp4 hp5 hp7 hp8 hp10 hp11
 go_enter Try.func19, Try.ntmps19
 go_wp2_with fail
 obtain ⟨W, hW, K0, hB, hz⟩ := bx1 w 33 #[.float .f64 0, .float .f64 0, .float .f64 0, .float .f64 0, .float .f64 0, .float .f64 0, .float .f64 0, .float .f64 0, .float .f64 0, .float .f64 0, .float .f64 0, .float .f64 0, .float .f64 0, .float .f64 0, .float .f64 0, .float .f64 0, .float .f64 0, .float .f64 0, .float .f64 0, .float .f64 0, .float .f64 0, .float .f64 0, .float .f64 0, .float .f64 0]
 rw [← hW]
 have K0 := Lib.hid K0
 have HB := Lib.hid hB
 clear hW hB hz
 have D1 := dr W
 refine (C0.out _).mono ?_
 rintro r w2 ⟨rfl, hb⟩
 have D3 := ds D1 hb
 clear D1
 clear hb
 go_wp2_with fail
 refine (C1.out _).mono ?_
 rintro r w4 ⟨rfl, hb⟩
 have D5 := ds D3 hb
 clear D3
 clear hb
 obtain ⟨g6, hg8⟩ : ∃ g, w4.heap.size = g := ⟨_, rfl⟩
 have Y10 := Lib.hid (show w.heap.size < g6 by rw [← hg8]; exact (kb K0 D5).lt)
 obtain ⟨V7, hV9⟩ : ∃ V, w4.alloc (.cells #[.float .f64 0, .float .f64 0] 28) = V := ⟨_, rfl⟩
 have K11 := ka hV9 K0 D5
 have K12 := kn hV9 hg8
 have HB13 := hba hV9 HB D5
 have D14 := dr V7
 clear K0 HB D5
 obtain ⟨g15, hg17⟩ : ∃ g, V7.heap.size = g := ⟨_, rfl⟩
 have Y19 := Lib.hid (show w.heap.size < g15 ∧ g6 < g15 by rw [← hg17]; exact ⟨(kb K11 D14).lt, (kb K12 D14).lt⟩)
 obtain ⟨V16, hV18⟩ : ∃ V, V7.alloc (.cells #[.float .f64 0, .float .f64 0] 28) = V := ⟨_, rfl⟩
 have K20 := ka hV18 K11 D14
 have K21 := ka hV18 K12 D14
 have K22 := kn hV18 hg17
 have HB23 := hba hV18 HB13 D14
 have D24 := dr V16
 clear K11 K12 HB13 D14
 have Y25 := Lib.hid (And.intro Y10.out Y19.out)
 clear Y10 Y19
 have f28 := (kb K21 D24).cellsL 0 [.float .f64 0, .float .f64 0] rfl
 dsimp only [CellsL, al, vl, Nat.reduceAdd] at f28
 have u29 := (kb K21 D24).unfrozen
 obtain ⟨V26, hV27⟩ : ∃ V, setCells V16 (g6) 0 [.float .f64 p0.lo, .float .f64 p0.hi] = V := ⟨_, rfl⟩
 have hv30 := hV27
 simp only [setCells, Nat.reduceAdd] at hv30
 have K31 := kf hV27 K20 D24 (by have := Y25.out; omega)
 have K32 := Lib.hid (show Blk V26 (g6) 28 #[.float .f64 p0.lo, .float .f64 p0.hi] from (ks hV27 K21 D24).out)
 have K33 := kf hV27 K22 D24 (by have := Y25.out; omega)
 have HB34 := hbs hV27 HB23 D24 (by have := Y25.out; omega)
 have D35 := dr V26
 clear K20 K21 K22 HB23 D24
 have f38 := (kb K33 D35).cellsL 0 [.float .f64 0, .float .f64 0] rfl
 dsimp only [CellsL, al, vl, Nat.reduceAdd] at f38
 have u39 := (kb K33 D35).unfrozen
 obtain ⟨V36, hV37⟩ : ∃ V, setCells V26 (g15) 0 [.float .f64 p1.lo, .float .f64 p1.hi] = V := ⟨_, rfl⟩
 have hv40 := hV37
 simp only [setCells, Nat.reduceAdd] at hv40
 have K41 := kf hV37 K31 D35 (by have := Y25.out; omega)
 have K42 := kf hV37 K32 D35 (by have := Y25.out; omega)
 have K43 := Lib.hid (show Blk V36 (g15) 28 #[.float .f64 p1.lo, .float .f64 p1.hi] from (ks hV37 K33 D35).out)
 have HB44 := hbs hV37 HB34 D35 (by have := Y25.out; omega)
 have D45 := dr V36
 clear K31 K32 K33 HB34 D35
 go_wp2_with fail
 clear hg8 hV9 hg17 hV18 hV27 f28 u29 hv30 hV37 f38 u39 hv40
 refine wp_region_held (S := (fun w' => True ∧ CellsL w' (g6) 0 [.float .f64 p0.lo, .float .f64 p0.hi] ∧ CellsL w' (g15) 0 [.float .f64 p1.lo, .float .f64 p1.hi])) (by kernel_rfl) ?_
 change wpAnyH _ _ _ _ _ _ _ _ (World.drew _)
 obtain ⟨wd46, hwd⟩ : ∃ x, x = World.drew V36 := ⟨_, rfl⟩
 rw [← hwd]
 have D47 := Lib.hid (hwd ▸ Below.drew D45.out : Below V36.heap.size V36 wd46)
 clear D45 hwd
 have hS48 : True ∧ CellsL wd46 (g6) 0 [.float .f64 p0.lo, .float .f64 p0.hi] ∧ CellsL wd46 (g15) 0 [.float .f64 p1.lo, .float .f64 p1.hi] := ⟨trivial, (kb K42 D47).cellsL 0 [.float .f64 p0.lo, .float .f64 p0.hi] rfl, (kb K43 D47).cellsL 0 [.float .f64 p1.lo, .float .f64 p1.hi] rfl⟩
 refine tke 0 (bm 8 1) hS48 ?_
 refine tke 2 (bm 8 5) hS48 ?_
 have HS51 := Lib.hid (show ∀ w', Below V36.heap.size V36 w' → (True ∧ CellsL w' (g6) 0 [.float .f64 p0.lo, .float .f64 p0.hi] ∧ CellsL w' (g15) 0 [.float .f64 p1.lo, .float .f64 p1.hi]) from fun w' b => ⟨trivial, (K42.out.below b K42.out.lt).cellsL 0 [.float .f64 p0.lo, .float .f64 p0.hi] rfl, (K43.out.below b K43.out.lt).cellsL 0 [.float .f64 p1.lo, .float .f64 p1.hi] rfl⟩)
 refine wpAnyH_sets2 (N := 8) (stop := 127) (F := 1) (m := 5) (R := [1, 3, 4, 5, 6]) (M := [5, 7, 69, 15, 71, 31, 79, 63, 95, 127]) (fun i => if i = 1 then 1 else if i = 3 then 6 else if i = 4 then 10 else if i = 5 then 16 else if i = 6 then 0 else 0) (fun a0 m a w9 => ∃ (v1 v3 v4 v5 p6_ : Value) (g6_ : Nat), a = (((((a0.put (some 26) v1).put (some 28) v3).put (some 29) v4).put (some 30) v5).put (some 10) p6_) ∧ Below V36.heap.size V36 w9 ∧ (m.testBit 1 = true → v1 = Value.agg #[.float .f64 p2.lo, .float .f64 p2.hi]) ∧ (m.testBit 3 = true → v3 = Value.agg #[.float .f64 p3.lo, .float .f64 p3.hi]) ∧ (m.testBit 4 = true → v4 = Value.agg #[.float .f64 p4.lo, .float .f64 p4.hi]) ∧ (m.testBit 5 = true → v5 = Value.agg #[.float .f64 p5.lo, .float .f64 p5.hi]) ∧ (m.testBit 6 = true → p6_ = .pointer (some ⟨g6_, 0, none⟩) ∧ Blk w9 g6_ 28 #[.float .f64 0, .float .f64 0] ∧ V36.heap.size ≤ g6_)) (by kernel_rfl) (by kernel_rfl) (by kernel_rfl) (by kernel_rfl) ?st4 ?sp4 ?re4
 case st4 =>
   exact ⟨undef, undef, undef, undef, undef, 0, by go_simp, D47.out, fun h => absurd h (by decide), fun h => absurd h (by decide), fun h => absurd h (by decide), fun h => absurd h (by decide), fun h => absurd h (by decide)⟩
 case sp4 =>
   intro m a' w9 i hi hm hd hJ
   obtain ⟨v1, v3, v4, v5, p6_, g6_, rfl, hb0, cl1, cl3, cl4, cl5, ql6⟩ := hJ
   have CL1 := Lib.hid cl1
   have CL3 := Lib.hid cl3
   have CL4 := Lib.hid cl4
   have CL5 := Lib.hid cl5
   have QL6 := Lib.hid ql6
   have HB0 := Lib.hid hb0
   clear cl1 cl3 cl4 cl5 ql6 hb0 hS48
   simp only [List.mem_cons, List.not_mem_nil, or_false] at hi
   rcases hi with rfl | rfl | rfl | rfl | rfl
   · refine wpOp_at rfl (by kernel_rfl) (fun K hK => ?_)
     have hd := fun j => @tb_of _ _ j hd
     go_simp
     go_at_call 69
     refine (C2.out _).mono ?_
     rintro r w10 ⟨rfl, hb⟩
     dsimp only
     have hb1 := below_step HB0.out hb
     exact hK _ _ ⟨HS51.out _ hb1, _, v3, v4, v5, p6_, g6_, by go_simp, hb1, fun _ => rfl, fun h => CL3.out (by rwa [tb_ne (by decide)] at h), fun h => CL4.out (by rwa [tb_ne (by decide)] at h), fun h => CL5.out (by rwa [tb_ne (by decide)] at h), fun h => ⟨(QL6.out (by rwa [tb_ne (by decide)] at h)).1, (QL6.out (by rwa [tb_ne (by decide)] at h)).2.1.below hb (QL6.out (by rwa [tb_ne (by decide)] at h)).2.1.lt, (QL6.out (by rwa [tb_ne (by decide)] at h)).2.2⟩⟩
   · refine wpOp_at rfl (by kernel_rfl) (fun K hK => ?_)
     have hd := fun j => @tb_of _ _ j hd
     obtain rfl := CL1.out (hd _ (by decide))
     go_simp
     go_at_call 69
     refine (C3.out _).mono ?_
     rintro r w10 ⟨rfl, hb⟩
     dsimp only
     have hb1 := below_step HB0.out hb
     exact hK _ _ ⟨HS51.out _ hb1, _, _, v4, v5, p6_, g6_, by go_simp, hb1, fun _ => rfl, fun _ => rfl, fun h => CL4.out (by rwa [tb_ne (by decide)] at h), fun h => CL5.out (by rwa [tb_ne (by decide)] at h), fun h => ⟨(QL6.out (by rwa [tb_ne (by decide)] at h)).1, (QL6.out (by rwa [tb_ne (by decide)] at h)).2.1.below hb (QL6.out (by rwa [tb_ne (by decide)] at h)).2.1.lt, (QL6.out (by rwa [tb_ne (by decide)] at h)).2.2⟩⟩
   · refine wpOp_at rfl (by kernel_rfl) (fun K hK => ?_)
     have hd := fun j => @tb_of _ _ j hd
     obtain rfl := CL1.out (hd _ (by decide))
     obtain rfl := CL3.out (hd _ (by decide))
     go_simp
     go_at_call 71
     refine (C4.out _).mono ?_
     rintro r w10 ⟨rfl, hb⟩
     dsimp only
     have hb1 := below_step HB0.out hb
     exact hK _ _ ⟨HS51.out _ hb1, _, _, _, v5, p6_, g6_, by go_simp, hb1, fun _ => rfl, fun _ => rfl, fun _ => rfl, fun h => CL5.out (by rwa [tb_ne (by decide)] at h), fun h => ⟨(QL6.out (by rwa [tb_ne (by decide)] at h)).1, (QL6.out (by rwa [tb_ne (by decide)] at h)).2.1.below hb (QL6.out (by rwa [tb_ne (by decide)] at h)).2.1.lt, (QL6.out (by rwa [tb_ne (by decide)] at h)).2.2⟩⟩
   · refine wpOp_at rfl (by kernel_rfl) (fun K hK => ?_)
     have hd := fun j => @tb_of _ _ j hd
     obtain rfl := CL4.out (hd _ (by decide))
     go_simp
     go_at_call 70
     refine (C5.out _).mono ?_
     rintro r w10 ⟨rfl, hb⟩
     dsimp only
     have hb1 := below_step HB0.out hb
     exact hK _ _ ⟨HS51.out _ hb1, v1, v3, _, _, p6_, g6_, by go_simp, hb1, fun h => CL1.out (by rwa [tb_ne (by decide)] at h), fun h => CL3.out (by rwa [tb_ne (by decide)] at h), fun _ => rfl, fun _ => rfl, fun h => ⟨(QL6.out (by rwa [tb_ne (by decide)] at h)).1, (QL6.out (by rwa [tb_ne (by decide)] at h)).2.1.below hb (QL6.out (by rwa [tb_ne (by decide)] at h)).2.1.lt, (QL6.out (by rwa [tb_ne (by decide)] at h)).2.2⟩⟩
   · refine wpOp_at rfl (by kernel_rfl) (fun K hK => ?_)
     have hd := fun j => @tb_of _ _ j hd
     go_simp
     have hb1 := below_more HB0.out (.cells #[.float .f64 0, .float .f64 0] 28)
     exact hK _ _ ⟨HS51.out _ hb1, v1, v3, v4, v5, .pointer (some ⟨w9.heap.size, 0, none⟩), w9.heap.size, by go_simp, hb1, fun h => CL1.out (by rwa [tb_ne (by decide)] at h), fun h => CL3.out (by rwa [tb_ne (by decide)] at h), fun h => CL4.out (by rwa [tb_ne (by decide)] at h), fun h => CL5.out (by rwa [tb_ne (by decide)] at h), fun _ => ⟨rfl, Blk.new_at _ _ _ rfl, HB0.out.size⟩⟩
 clear hS48 D47 HS51
 intro a' W64 hJ
 obtain ⟨v1, v3, v4, v5, p6_, g65, rfl, hb0, cl1, cl3, cl4, cl5, ql6⟩ := hJ
 obtain rfl := cl1 (by decide)
 obtain rfl := cl3 (by decide)
 obtain rfl := cl4 (by decide)
 obtain rfl := cl5 (by decide)
 obtain ⟨rfl, kk6, ll6⟩ := ql6 (by decide)
 have D54 := Lib.hid hb0
 clear hb0
 refine wpAnyH_frame (a' := ?frq53) ?feq53 ?fgq53
 case feq53 => (go_simp; try with_reducible rfl)
 have K56 := Lib.hid ((kb K41 D54) : Blk W64 (w.heap.size) 33 #[.float .f64 0, .float .f64 0, .float .f64 0, .float .f64 0, .float .f64 0, .float .f64 0, .float .f64 0, .float .f64 0, .float .f64 0, .float .f64 0, .float .f64 0, .float .f64 0, .float .f64 0, .float .f64 0, .float .f64 0, .float .f64 0, .float .f64 0, .float .f64 0, .float .f64 0, .float .f64 0, .float .f64 0, .float .f64 0, .float .f64 0, .float .f64 0])
 have K57 := Lib.hid ((kb K42 D54) : Blk W64 (g6) 28 #[.float .f64 p0.lo, .float .f64 p0.hi])
 have K58 := Lib.hid ((kb K43 D54) : Blk W64 (g15) 28 #[.float .f64 p1.lo, .float .f64 p1.hi])
 have K59 := Lib.hid kk6
 clear kk6
 have HB62 := Lib.hid (below_step HB44.out D54.out)
 have Y61 := Lib.hid (show w.heap.size ≤ g65 ∧ w.heap.size < g65 ∧ g6 < g65 ∧ g15 < g65 from ⟨Nat.le_trans HB44.out.size ll6, Nat.lt_of_lt_of_le K41.out.lt ll6, Nat.lt_of_lt_of_le K42.out.lt ll6, Nat.lt_of_lt_of_le K43.out.lt ll6⟩)
 have Y63 := Lib.hid (And.intro Y25.out Y61.out)
 clear Y25 Y61
 clear K41 K42 K43 ll6 HB44
 have D66 := Lib.hid (Below.refl W64.heap.size W64)
 clear D54
 have hS67 : True ∧ CellsL W64 (g6) 0 [.float .f64 p0.lo, .float .f64 p0.hi] ∧ CellsL W64 (g15) 0 [.float .f64 p1.lo, .float .f64 p1.hi] := ⟨trivial, (kb K57 D66).cellsL 0 [.float .f64 p0.lo, .float .f64 p0.hi] rfl, (kb K58 D66).cellsL 0 [.float .f64 p1.lo, .float .f64 p1.hi] rfl⟩
 refine wpAnyH_oneM (i := 7) (l' := bm 8 255) rfl (by kernel_rfl) (by kernel_rfl) (by kernel_rfl) (fun K hK => ?_)
 have f70 := (kb K59 D66).cellsL 0 [.float .f64 0, .float .f64 0] rfl
 dsimp only [CellsL, al, vl, Nat.reduceAdd] at f70
 have u71 := (kb K59 D66).unfrozen
 obtain ⟨V68, hV69⟩ : ∃ V, setCells W64 (g65) 0 [.float .f64 p5.lo, .float .f64 p5.hi] = V := ⟨_, rfl⟩
 have hv72 := hV69
 simp only [setCells, Nat.reduceAdd] at hv72
 have K73 := kf hV69 K56 D66 (by have := Y63.out; omega)
 have K74 := kf hV69 K57 D66 (by have := Y63.out; omega)
 have K75 := kf hV69 K58 D66 (by have := Y63.out; omega)
 have K76 := Lib.hid (show Blk V68 (g65) 28 #[.float .f64 p5.lo, .float .f64 p5.hi] from (ks hV69 K59 D66).out)
 have HB77 := hbs hV69 HB62 D66 (by have := Y63.out; omega)
 have D78 := dr V68
 clear K56 K57 K58 K59 HB62 D66
 go_simp
 clear hV69 f70 u71 hv72
 have hS79 : True ∧ CellsL V68 (g6) 0 [.float .f64 p0.lo, .float .f64 p0.hi] ∧ CellsL V68 (g15) 0 [.float .f64 p1.lo, .float .f64 p1.hi] := ⟨trivial, (kb K74 D78).cellsL 0 [.float .f64 p0.lo, .float .f64 p0.hi] rfl, (kb K75 D78).cellsL 0 [.float .f64 p1.lo, .float .f64 p1.hi] rfl⟩
 refine hK _ _ hS79 ?_
 clear hK K hS67
 refine wpAnyH_done (by kernel_rfl) ?_ _
 clear hS79
 have hq80 := (kb K76 D78).cellsL 0 [.float .f64 p5.lo, .float .f64 p5.hi] rfl
 dsimp only [CellsL, al, vl, Nat.reduceAdd] at hq80
 go_wp2_with fail
 clear hq80
 refine (C6.out _).mono ?_
 rintro r w81 ⟨rfl, hb⟩
 have D82 := ds D78 hb
 clear D78
 clear hb
 go_wp2_with fail
 refine (C7.out _).mono ?_
 rintro r w83 ⟨rfl, hb⟩
 have D84 := ds D82 hb
 clear D82
 clear hb
 obtain ⟨g85, hg87⟩ : ∃ g, w83.heap.size = g := ⟨_, rfl⟩
 have Y89 := Lib.hid (show w.heap.size < g85 ∧ g6 < g85 ∧ g15 < g85 ∧ g65 < g85 by rw [← hg87]; exact ⟨(kb K73 D84).lt, (kb K74 D84).lt, (kb K75 D84).lt, (kb K76 D84).lt⟩)
 obtain ⟨V86, hV88⟩ : ∃ V, w83.alloc (.cells #[.float .f64 0, .float .f64 0, .float .f64 0, .float .f64 0, .float .f64 0, .float .f64 0, .float .f64 0, .float .f64 0, .float .f64 0, .float .f64 0, .float .f64 0, .float .f64 0, .float .f64 0, .float .f64 0, .float .f64 0, .float .f64 0, .float .f64 0, .float .f64 0, .float .f64 0, .float .f64 0, .float .f64 0, .float .f64 0, .float .f64 0, .float .f64 0] 33) = V := ⟨_, rfl⟩
 have K90 := ka hV88 K73 D84
 have K91 := ka hV88 K74 D84
 have K92 := ka hV88 K75 D84
 have K93 := ka hV88 K76 D84
 have K94 := kn hV88 hg87
 have HB95 := hba hV88 HB77 D84
 have D96 := dr V86
 clear K73 K74 K75 K76 HB77 D84
 have Y97 := Lib.hid (And.intro Y63.out Y89.out)
 clear Y63 Y89
 have f100 := (kb K94 D96)
 obtain ⟨V98, hV99⟩ : ∃ V, World.setRow V86 (g85) (ac p7) = V := ⟨_, rfl⟩
 have K101 := kfr hV99 K90 D96 (by have := Y97.out; omega)
 have K102 := kfr hV99 K91 D96 (by have := Y97.out; omega)
 have K103 := kfr hV99 K92 D96 (by have := Y97.out; omega)
 have K104 := kfr hV99 K93 D96 (by have := Y97.out; omega)
 have K105 := ksr hV99 K94 D96
 have HB106 := hbr hV99 HB95 D96 (by have := Y97.out; omega)
 have D107 := dr V98
 clear K90 K91 K92 K93 K94 HB95 D96
 go_wp2_with (refine wpList_store_row rfl 33 _ _ rfl (g85) (ac p7) rfl rfl _ _ f100 (by rw [info_Affine]; rfl) rfl (by kernel_rfl) ?_; rw [hV99])
 clear hg87 hV88 hV99 f100
 refine wp_region_held (S := (fun w' => True ∧ CellsL w' (g6) 0 [.float .f64 p0.lo, .float .f64 p0.hi] ∧ CellsL w' (g65) 0 [.float .f64 p5.lo, .float .f64 p5.hi])) (by kernel_rfl) ?_
 change wpAnyH _ _ _ _ _ _ _ _ (World.drew _)
 obtain ⟨wd108, hwd⟩ : ∃ x, x = World.drew V98 := ⟨_, rfl⟩
 rw [← hwd]
 have D109 := Lib.hid (hwd ▸ Below.drew D107.out : Below V98.heap.size V98 wd108)
 clear D107 hwd
 have hS110 : True ∧ CellsL wd108 (g6) 0 [.float .f64 p0.lo, .float .f64 p0.hi] ∧ CellsL wd108 (g65) 0 [.float .f64 p5.lo, .float .f64 p5.hi] := ⟨trivial, (kb K102 D109).cellsL 0 [.float .f64 p0.lo, .float .f64 p0.hi] rfl, (kb K104 D109).cellsL 0 [.float .f64 p5.lo, .float .f64 p5.hi] rfl⟩
 refine tkq 0 (bm 9 1) hS110 ?_
 refine tkq 1 (bm 9 3) hS110 ?_
 refine tke 2 (bm 9 7) hS110 ?_
 refine tke 3 (bm 9 15) hS110 ?_
 refine tkq 5 (bm 9 47) hS110 ?_
 refine tkq 6 (bm 9 111) hS110 ?_
 refine wpAnyH_oneN (i := 4) (l' := bm 9 127) rfl (by kernel_rfl) (by kernel_rfl) (by kernel_rfl) (fun K hK => ?_)
 go_simp
 go_at_call 72
 refine (C8.out _).mono ?_
 rintro r w117 ⟨rfl, hb⟩
 dsimp only
 have D118 := ds D109 hb
 clear D109
 clear hb
 have hS119 : True ∧ CellsL w117 (g6) 0 [.float .f64 p0.lo, .float .f64 p0.hi] ∧ CellsL w117 (g65) 0 [.float .f64 p5.lo, .float .f64 p5.hi] := ⟨trivial, (kb K102 D118).cellsL 0 [.float .f64 p0.lo, .float .f64 p0.hi] rfl, (kb K104 D118).cellsL 0 [.float .f64 p5.lo, .float .f64 p5.hi] rfl⟩
 refine hK _ _ hS119 ?_
 clear hK K hS110
 refine tkq 7 (bm 9 255) hS119 ?_
 refine wpAnyH_oneN (i := 8) (l' := bm 9 511) rfl (by kernel_rfl) (by kernel_rfl) (by kernel_rfl) (fun K hK => ?_)
 have f123 := (kb K105 D118).cellsL 0 [.float .f64 p7.a.x.lo, .float .f64 p7.a.x.hi] rfl
 dsimp only [CellsL, al, vl, Nat.reduceAdd] at f123
 have u124 := (kb K105 D118).unfrozen
 obtain ⟨V121, hV122⟩ : ∃ V, setCells w117 (g85) 0 [.float .f64 p8.lo, .float .f64 p8.hi] = V := ⟨_, rfl⟩
 have hv125 := hV122
 simp only [setCells, Nat.reduceAdd] at hv125
 have K126 := kf hV122 K101 D118 (by have := Y97.out; omega)
 have K127 := kf hV122 K102 D118 (by have := Y97.out; omega)
 have K128 := kf hV122 K103 D118 (by have := Y97.out; omega)
 have K129 := kf hV122 K104 D118 (by have := Y97.out; omega)
 have K130 := Lib.hid (show Blk V121 (g85) 33 #[.float .f64 p8.lo, .float .f64 p8.hi, .float .f64 p7.a.y.lo, .float .f64 p7.a.y.hi, .float .f64 p7.a.z.lo, .float .f64 p7.a.z.hi, .float .f64 p7.b.x.lo, .float .f64 p7.b.x.hi, .float .f64 p7.b.y.lo, .float .f64 p7.b.y.hi, .float .f64 p7.b.z.lo, .float .f64 p7.b.z.hi, .float .f64 p7.c.x.lo, .float .f64 p7.c.x.hi, .float .f64 p7.c.y.lo, .float .f64 p7.c.y.hi, .float .f64 p7.c.z.lo, .float .f64 p7.c.z.hi, .float .f64 p7.t.x.lo, .float .f64 p7.t.x.hi, .float .f64 p7.t.y.lo, .float .f64 p7.t.y.hi, .float .f64 p7.t.z.lo, .float .f64 p7.t.z.hi] from (ks hV122 K105 D118).out)
 have HB131 := hbs hV122 HB106 D118 (by have := Y97.out; omega)
 have D132 := dr V121
 clear K101 K102 K103 K104 K105 HB106 D118
 go_simp
 clear hV122 f123 u124 hv125
 have hS133 : True ∧ CellsL V121 (g6) 0 [.float .f64 p0.lo, .float .f64 p0.hi] ∧ CellsL V121 (g65) 0 [.float .f64 p5.lo, .float .f64 p5.hi] := ⟨trivial, (kb K127 D132).cellsL 0 [.float .f64 p0.lo, .float .f64 p0.hi] rfl, (kb K129 D132).cellsL 0 [.float .f64 p5.lo, .float .f64 p5.hi] rfl⟩
 refine hK _ _ hS133 ?_
 clear hK K hS119
 refine wpAnyH_done (by kernel_rfl) ?_ _
 clear hS133
 go_wp2_with fail
 refine wp_region_held (S := (fun w' => True ∧ CellsL w' (g6) 0 [.float .f64 p0.lo, .float .f64 p0.hi] ∧ CellsL w' (g65) 0 [.float .f64 p5.lo, .float .f64 p5.hi])) (by kernel_rfl) ?_
 change wpAnyH _ _ _ _ _ _ _ _ (World.drew _)
 obtain ⟨wd134, hwd⟩ : ∃ x, x = World.drew V121 := ⟨_, rfl⟩
 rw [← hwd]
 have D135 := Lib.hid (hwd ▸ Below.drew D132.out : Below V121.heap.size V121 wd134)
 clear D132 hwd
 have hS136 : True ∧ CellsL wd134 (g6) 0 [.float .f64 p0.lo, .float .f64 p0.hi] ∧ CellsL wd134 (g65) 0 [.float .f64 p5.lo, .float .f64 p5.hi] := ⟨trivial, (kb K127 D135).cellsL 0 [.float .f64 p0.lo, .float .f64 p0.hi] rfl, (kb K129 D135).cellsL 0 [.float .f64 p5.lo, .float .f64 p5.hi] rfl⟩
 refine tkq 0 (bm 9 1) hS136 ?_
 refine tkq 1 (bm 9 3) hS136 ?_
 refine tke 2 (bm 9 7) hS136 ?_
 refine tke 3 (bm 9 15) hS136 ?_
 refine tkq 5 (bm 9 47) hS136 ?_
 refine tkq 6 (bm 9 111) hS136 ?_
 refine wpAnyH_oneN (i := 4) (l' := bm 9 127) rfl (by kernel_rfl) (by kernel_rfl) (by kernel_rfl) (fun K hK => ?_)
 go_simp
 go_at_call 72
 refine (C9.out _).mono ?_
 rintro r w143 ⟨rfl, hb⟩
 dsimp only
 have D144 := ds D135 hb
 clear D135
 clear hb
 have hS145 : True ∧ CellsL w143 (g6) 0 [.float .f64 p0.lo, .float .f64 p0.hi] ∧ CellsL w143 (g65) 0 [.float .f64 p5.lo, .float .f64 p5.hi] := ⟨trivial, (kb K127 D144).cellsL 0 [.float .f64 p0.lo, .float .f64 p0.hi] rfl, (kb K129 D144).cellsL 0 [.float .f64 p5.lo, .float .f64 p5.hi] rfl⟩
 refine hK _ _ hS145 ?_
 clear hK K hS136
 refine tkq 7 (bm 9 255) hS145 ?_
 refine wpAnyH_oneN (i := 8) (l' := bm 9 511) rfl (by kernel_rfl) (by kernel_rfl) (by kernel_rfl) (fun K hK => ?_)
 have f149 := (kb K130 D144).cellsL 8 [.float .f64 p7.b.y.lo, .float .f64 p7.b.y.hi] rfl
 dsimp only [CellsL, al, vl, Nat.reduceAdd] at f149
 have u150 := (kb K130 D144).unfrozen
 obtain ⟨V147, hV148⟩ : ∃ V, setCells w143 (g85) 8 [.float .f64 p8.lo, .float .f64 p8.hi] = V := ⟨_, rfl⟩
 have hv151 := hV148
 simp only [setCells, Nat.reduceAdd] at hv151
 have K152 := kf hV148 K126 D144 (by have := Y97.out; omega)
 have K153 := kf hV148 K127 D144 (by have := Y97.out; omega)
 have K154 := kf hV148 K128 D144 (by have := Y97.out; omega)
 have K155 := kf hV148 K129 D144 (by have := Y97.out; omega)
 have K156 := Lib.hid (show Blk V147 (g85) 33 #[.float .f64 p8.lo, .float .f64 p8.hi, .float .f64 p7.a.y.lo, .float .f64 p7.a.y.hi, .float .f64 p7.a.z.lo, .float .f64 p7.a.z.hi, .float .f64 p7.b.x.lo, .float .f64 p7.b.x.hi, .float .f64 p8.lo, .float .f64 p8.hi, .float .f64 p7.b.z.lo, .float .f64 p7.b.z.hi, .float .f64 p7.c.x.lo, .float .f64 p7.c.x.hi, .float .f64 p7.c.y.lo, .float .f64 p7.c.y.hi, .float .f64 p7.c.z.lo, .float .f64 p7.c.z.hi, .float .f64 p7.t.x.lo, .float .f64 p7.t.x.hi, .float .f64 p7.t.y.lo, .float .f64 p7.t.y.hi, .float .f64 p7.t.z.lo, .float .f64 p7.t.z.hi] from (ks hV148 K130 D144).out)
 have HB157 := hbs hV148 HB131 D144 (by have := Y97.out; omega)
 have D158 := dr V147
 clear K126 K127 K128 K129 K130 HB131 D144
 go_simp
 clear hV148 f149 u150 hv151
 have hS159 : True ∧ CellsL V147 (g6) 0 [.float .f64 p0.lo, .float .f64 p0.hi] ∧ CellsL V147 (g65) 0 [.float .f64 p5.lo, .float .f64 p5.hi] := ⟨trivial, (kb K153 D158).cellsL 0 [.float .f64 p0.lo, .float .f64 p0.hi] rfl, (kb K155 D158).cellsL 0 [.float .f64 p5.lo, .float .f64 p5.hi] rfl⟩
 refine hK _ _ hS159 ?_
 clear hK K hS145
 refine wpAnyH_done (by kernel_rfl) ?_ _
 clear hS159
 go_wp2_with fail
 refine wp_region_held (S := (fun w' => True ∧ CellsL w' (g15) 0 [.float .f64 p1.lo, .float .f64 p1.hi] ∧ CellsL w' (g65) 0 [.float .f64 p5.lo, .float .f64 p5.hi])) (by kernel_rfl) ?_
 change wpAnyH _ _ _ _ _ _ _ _ (World.drew _)
 obtain ⟨wd160, hwd⟩ : ∃ x, x = World.drew V147 := ⟨_, rfl⟩
 rw [← hwd]
 have D161 := Lib.hid (hwd ▸ Below.drew D158.out : Below V147.heap.size V147 wd160)
 clear D158 hwd
 have hS162 : True ∧ CellsL wd160 (g15) 0 [.float .f64 p1.lo, .float .f64 p1.hi] ∧ CellsL wd160 (g65) 0 [.float .f64 p5.lo, .float .f64 p5.hi] := ⟨trivial, (kb K154 D161).cellsL 0 [.float .f64 p1.lo, .float .f64 p1.hi] rfl, (kb K155 D161).cellsL 0 [.float .f64 p5.lo, .float .f64 p5.hi] rfl⟩
 refine tkq 0 (bm 9 1) hS162 ?_
 refine tkq 1 (bm 9 3) hS162 ?_
 refine tke 2 (bm 9 7) hS162 ?_
 refine tke 3 (bm 9 15) hS162 ?_
 refine tkq 5 (bm 9 47) hS162 ?_
 refine tkq 6 (bm 9 111) hS162 ?_
 refine wpAnyH_oneN (i := 4) (l' := bm 9 127) rfl (by kernel_rfl) (by kernel_rfl) (by kernel_rfl) (fun K hK => ?_)
 go_simp
 go_at_call 72
 refine (C10.out _).mono ?_
 rintro r w169 ⟨rfl, hb⟩
 dsimp only
 have D170 := ds D161 hb
 clear D161
 clear hb
 have hS171 : True ∧ CellsL w169 (g15) 0 [.float .f64 p1.lo, .float .f64 p1.hi] ∧ CellsL w169 (g65) 0 [.float .f64 p5.lo, .float .f64 p5.hi] := ⟨trivial, (kb K154 D170).cellsL 0 [.float .f64 p1.lo, .float .f64 p1.hi] rfl, (kb K155 D170).cellsL 0 [.float .f64 p5.lo, .float .f64 p5.hi] rfl⟩
 refine hK _ _ hS171 ?_
 clear hK K hS162
 refine tkq 7 (bm 9 255) hS171 ?_
 refine wpAnyH_oneN (i := 8) (l' := bm 9 511) rfl (by kernel_rfl) (by kernel_rfl) (by kernel_rfl) (fun K hK => ?_)
 have f175 := (kb K156 D170).cellsL 6 [.float .f64 p7.b.x.lo, .float .f64 p7.b.x.hi] rfl
 dsimp only [CellsL, al, vl, Nat.reduceAdd] at f175
 have u176 := (kb K156 D170).unfrozen
 obtain ⟨V173, hV174⟩ : ∃ V, setCells w169 (g85) 6 [.float .f64 p10.lo, .float .f64 p10.hi] = V := ⟨_, rfl⟩
 have hv177 := hV174
 simp only [setCells, Nat.reduceAdd] at hv177
 have K178 := kf hV174 K152 D170 (by have := Y97.out; omega)
 have K179 := kf hV174 K153 D170 (by have := Y97.out; omega)
 have K180 := kf hV174 K154 D170 (by have := Y97.out; omega)
 have K181 := kf hV174 K155 D170 (by have := Y97.out; omega)
 have K182 := Lib.hid (show Blk V173 (g85) 33 #[.float .f64 p8.lo, .float .f64 p8.hi, .float .f64 p7.a.y.lo, .float .f64 p7.a.y.hi, .float .f64 p7.a.z.lo, .float .f64 p7.a.z.hi, .float .f64 p10.lo, .float .f64 p10.hi, .float .f64 p8.lo, .float .f64 p8.hi, .float .f64 p7.b.z.lo, .float .f64 p7.b.z.hi, .float .f64 p7.c.x.lo, .float .f64 p7.c.x.hi, .float .f64 p7.c.y.lo, .float .f64 p7.c.y.hi, .float .f64 p7.c.z.lo, .float .f64 p7.c.z.hi, .float .f64 p7.t.x.lo, .float .f64 p7.t.x.hi, .float .f64 p7.t.y.lo, .float .f64 p7.t.y.hi, .float .f64 p7.t.z.lo, .float .f64 p7.t.z.hi] from (ks hV174 K156 D170).out)
 have HB183 := hbs hV174 HB157 D170 (by have := Y97.out; omega)
 have D184 := dr V173
 clear K152 K153 K154 K155 K156 HB157 D170
 go_simp
 clear hV174 f175 u176 hv177
 have hS185 : True ∧ CellsL V173 (g15) 0 [.float .f64 p1.lo, .float .f64 p1.hi] ∧ CellsL V173 (g65) 0 [.float .f64 p5.lo, .float .f64 p5.hi] := ⟨trivial, (kb K180 D184).cellsL 0 [.float .f64 p1.lo, .float .f64 p1.hi] rfl, (kb K181 D184).cellsL 0 [.float .f64 p5.lo, .float .f64 p5.hi] rfl⟩
 refine hK _ _ hS185 ?_
 clear hK K hS171
 refine wpAnyH_done (by kernel_rfl) ?_ _
 clear hS185
 go_wp2_with fail
 refine wp_region_held (S := (fun w' => True ∧ CellsL w' (g85) 6 [.float .f64 p10.lo, .float .f64 p10.hi])) (by kernel_rfl) ?_
 change wpAnyH _ _ _ _ _ _ _ _ (World.drew _)
 obtain ⟨wd186, hwd⟩ : ∃ x, x = World.drew V173 := ⟨_, rfl⟩
 rw [← hwd]
 have D187 := Lib.hid (hwd ▸ Below.drew D184.out : Below V173.heap.size V173 wd186)
 clear D184 hwd
 have hS188 : True ∧ CellsL wd186 (g85) 6 [.float .f64 p10.lo, .float .f64 p10.hi] := ⟨trivial, (kb K182 D187).cellsL 6 [.float .f64 p10.lo, .float .f64 p10.hi] rfl⟩
 refine tkq 0 (bm 13 1) hS188 ?_
 refine tkq 1 (bm 13 3) hS188 ?_
 refine tkq 2 (bm 13 7) hS188 ?_
 refine tkq 3 (bm 13 15) hS188 ?_
 refine tkq 4 (bm 13 31) hS188 ?_
 refine tkq 5 (bm 13 63) hS188 ?_
 refine tkq 6 (bm 13 127) hS188 ?_
 refine tke 7 (bm 13 255) hS188 ?_
 refine tkq 9 (bm 13 767) hS188 ?_
 refine tkq 10 (bm 13 1791) hS188 ?_
 refine wpAnyH_oneN (i := 8) (l' := bm 13 2047) rfl (by kernel_rfl) (by kernel_rfl) (by kernel_rfl) (fun K hK => ?_)
 go_simp
 go_at_call 73
 refine (C11.out _).mono ?_
 rintro r w199 ⟨rfl, hb⟩
 dsimp only
 have D200 := ds D187 hb
 clear D187
 clear hb
 have hS201 : True ∧ CellsL w199 (g85) 6 [.float .f64 p10.lo, .float .f64 p10.hi] := ⟨trivial, (kb K182 D200).cellsL 6 [.float .f64 p10.lo, .float .f64 p10.hi] rfl⟩
 refine hK _ _ hS201 ?_
 clear hK K hS188
 refine tkq 11 (bm 13 4095) hS201 ?_
 refine wpAnyH_oneN (i := 12) (l' := bm 13 8191) rfl (by kernel_rfl) (by kernel_rfl) (by kernel_rfl) (fun K hK => ?_)
 have f205 := (kb K182 D200).cellsL 2 [.float .f64 p7.a.y.lo, .float .f64 p7.a.y.hi] rfl
 dsimp only [CellsL, al, vl, Nat.reduceAdd] at f205
 have u206 := (kb K182 D200).unfrozen
 obtain ⟨V203, hV204⟩ : ∃ V, setCells w199 (g85) 2 [.float .f64 p11.lo, .float .f64 p11.hi] = V := ⟨_, rfl⟩
 have hv207 := hV204
 simp only [setCells, Nat.reduceAdd] at hv207
 have K208 := kf hV204 K178 D200 (by have := Y97.out; omega)
 have K209 := kf hV204 K179 D200 (by have := Y97.out; omega)
 have K210 := kf hV204 K180 D200 (by have := Y97.out; omega)
 have K211 := kf hV204 K181 D200 (by have := Y97.out; omega)
 have K212 := Lib.hid (show Blk V203 (g85) 33 #[.float .f64 p8.lo, .float .f64 p8.hi, .float .f64 p11.lo, .float .f64 p11.hi, .float .f64 p7.a.z.lo, .float .f64 p7.a.z.hi, .float .f64 p10.lo, .float .f64 p10.hi, .float .f64 p8.lo, .float .f64 p8.hi, .float .f64 p7.b.z.lo, .float .f64 p7.b.z.hi, .float .f64 p7.c.x.lo, .float .f64 p7.c.x.hi, .float .f64 p7.c.y.lo, .float .f64 p7.c.y.hi, .float .f64 p7.c.z.lo, .float .f64 p7.c.z.hi, .float .f64 p7.t.x.lo, .float .f64 p7.t.x.hi, .float .f64 p7.t.y.lo, .float .f64 p7.t.y.hi, .float .f64 p7.t.z.lo, .float .f64 p7.t.z.hi] from (ks hV204 K182 D200).out)
 have HB213 := hbs hV204 HB183 D200 (by have := Y97.out; omega)
 have D214 := dr V203
 clear K178 K179 K180 K181 K182 HB183 D200
 go_simp
 clear hV204 f205 u206 hv207
 have hS215 : True ∧ CellsL V203 (g85) 6 [.float .f64 p10.lo, .float .f64 p10.hi] := ⟨trivial, (kb K212 D214).cellsL 6 [.float .f64 p10.lo, .float .f64 p10.hi] rfl⟩
 refine hK _ _ hS215 ?_
 clear hK K hS201
 refine wpAnyH_done (by kernel_rfl) ?_ _
 clear hS215
 have f216 := (kb K212 D214)
 have f219 := (kb K208 D214)
 obtain ⟨V217, hV218⟩ : ∃ V, World.setRow V203 (w.heap.size) #[.float .f64 p8.lo, .float .f64 p8.hi, .float .f64 p11.lo, .float .f64 p11.hi, .float .f64 p7.a.z.lo, .float .f64 p7.a.z.hi, .float .f64 p10.lo, .float .f64 p10.hi, .float .f64 p8.lo, .float .f64 p8.hi, .float .f64 p7.b.z.lo, .float .f64 p7.b.z.hi, .float .f64 p7.c.x.lo, .float .f64 p7.c.x.hi, .float .f64 p7.c.y.lo, .float .f64 p7.c.y.hi, .float .f64 p7.c.z.lo, .float .f64 p7.c.z.hi, .float .f64 p7.t.x.lo, .float .f64 p7.t.x.hi, .float .f64 p7.t.y.lo, .float .f64 p7.t.y.hi, .float .f64 p7.t.z.lo, .float .f64 p7.t.z.hi] = V := ⟨_, rfl⟩
 have K220 := ksr hV218 K208 D214
 have K221 := kfr hV218 K209 D214 (by have := Y97.out; omega)
 have K222 := kfr hV218 K210 D214 (by have := Y97.out; omega)
 have K223 := kfr hV218 K211 D214 (by have := Y97.out; omega)
 have K224 := kfr hV218 K212 D214 (by have := Y97.out; omega)
 have HB225 := hbr hV218 HB213 D214 (by have := Y97.out; omega)
 have D226 := dr V217
 clear K208 K209 K210 K211 K212 HB213 D214
 go_wp2_with (first | (refine wpList_store_row rfl 33 _ _ rfl (w.heap.size) #[.float .f64 p8.lo, .float .f64 p8.hi, .float .f64 p11.lo, .float .f64 p11.hi, .float .f64 p7.a.z.lo, .float .f64 p7.a.z.hi, .float .f64 p10.lo, .float .f64 p10.hi, .float .f64 p8.lo, .float .f64 p8.hi, .float .f64 p7.b.z.lo, .float .f64 p7.b.z.hi, .float .f64 p7.c.x.lo, .float .f64 p7.c.x.hi, .float .f64 p7.c.y.lo, .float .f64 p7.c.y.hi, .float .f64 p7.c.z.lo, .float .f64 p7.c.z.hi, .float .f64 p7.t.x.lo, .float .f64 p7.t.x.hi, .float .f64 p7.t.y.lo, .float .f64 p7.t.y.hi, .float .f64 p7.t.z.lo, .float .f64 p7.t.z.hi] rfl rfl _ _ f219 (by rw [info_Affine]; rfl) rfl (by kernel_rfl) ?_; rw [hV218]) | (refine wl_load (by kernel_rfl) rfl rfl f216 (by rw [info_Affine]; rfl) Try.underlying33 rfl ?_))
 clear f216 hV218 f219
 (try simp only [Exit.inBlock, Exit.then])
 exact bodyPost_ret (res_ct rfl _ _ (w.heap.size) #[.float .f64 p8.lo, .float .f64 p8.hi, .float .f64 p11.lo, .float .f64 p11.hi, .float .f64 p7.a.z.lo, .float .f64 p7.a.z.hi, .float .f64 p10.lo, .float .f64 p10.hi, .float .f64 p8.lo, .float .f64 p8.hi, .float .f64 p7.b.z.lo, .float .f64 p7.b.z.hi, .float .f64 p7.c.x.lo, .float .f64 p7.c.x.hi, .float .f64 p7.c.y.lo, .float .f64 p7.c.y.hi, .float .f64 p7.c.z.lo, .float .f64 p7.c.z.hi, .float .f64 p7.t.x.lo, .float .f64 p7.t.x.hi, .float .f64 p7.t.y.lo, .float .f64 p7.t.y.hi, .float .f64 p7.t.z.lo, .float .f64 p7.t.z.hi] rfl (kb K220 D226) (by rw [info_Affine]; rfl) Try.underlying33 rfl) rfl ⟨rfl, below_step HB225.out D226.out⟩
end Go.Proofs.Ytnljfcebmgifdaa
