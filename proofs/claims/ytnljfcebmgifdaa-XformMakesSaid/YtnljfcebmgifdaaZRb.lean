/- Shaken: Uk0. -/
import Derived.Test.YtnljfcebmgifdaaZRbcf
import Derived.Test.YtnljfcebmgifdaaZRab1
set_option maxRecDepth 100000
set_option maxHeartbeats 8000000
set_option linter.unusedVariables false
set_option linter.unusedSimpArgs false
namespace Go.Proofs.Ytnljfcebmgifdaa
open Go.RowKit Fl
theorem rstretchA_any (t0 t1 t2 : Nat) (ht0 : t0 < 18446744073709551616) (ht1 : t1 < 18446744073709551616) (ht2 : t2 < 18446744073709551616) (w : World) : Calls Try.prog 25 #[Value.agg #[.float .f64 t0, .float .f64 t1, .float .f64 t2]] w fun r w' => r = .returned (aval (afStretch t0 t1 t2)) ∧ Below w.heap.size w w' := by
 have C0 := Lib.hid (fun w => rof_sp t0 ht0 w)
 obtain ⟨p0, hp0⟩ : ∃ z_, ofS t0 = z_ := ⟨_, rfl⟩
 rw [hp0] at C0
 have C1 := Lib.hid (fun w => rof_sp t1 ht1 w)
 obtain ⟨p1, hp1⟩ : ∃ z_, ofS t1 = z_ := ⟨_, rfl⟩
 rw [hp1] at C1
 have C2 := Lib.hid (fun w => rof_sp t2 ht2 w)
 obtain ⟨p2, hp2⟩ : ∃ z_, ofS t2 = z_ := ⟨_, rfl⟩
 rw [hp2] at C2
 have hT : afStretch t0 t1 t2 = (⟨(⟨p0, zeroS, zeroS⟩ : V3), (⟨zeroS, p1, zeroS⟩ : V3), (⟨zeroS, zeroS, p2⟩ : V3), zeroV⟩ : Af) := by
   subst hp0 hp1 hp2; rfl
 rw [hT]
 clear hT
 clear hp0 hp1 hp2
 go_enter Try.func25, Try.ntmps25
 go_wp2_with (refine wpList_store_row rfl 33 _ _ rfl (w.heap.size + 1 + 1) #[.float .f64 0, .float .f64 0, .float .f64 0, .float .f64 0, .float .f64 0, .float .f64 0, .float .f64 0, .float .f64 0, .float .f64 0, .float .f64 0, .float .f64 0, .float .f64 0, .float .f64 0, .float .f64 0, .float .f64 0, .float .f64 0, .float .f64 0, .float .f64 0, .float .f64 0, .float .f64 0, .float .f64 0, .float .f64 0, .float .f64 0, .float .f64 0] rfl rfl _ _ (Blk.new_at _ _ _ (by simp)) (by rw [info_Affine]; rfl) rfl (by kernel_rfl) ?_)
 obtain ⟨W, hW, K0, K1, K2, hB, hz⟩ := bx3 w 24 33 33 #[.float .f64 t0, .float .f64 t1, .float .f64 t2] #[.float .f64 0, .float .f64 0, .float .f64 0, .float .f64 0, .float .f64 0, .float .f64 0, .float .f64 0, .float .f64 0, .float .f64 0, .float .f64 0, .float .f64 0, .float .f64 0, .float .f64 0, .float .f64 0, .float .f64 0, .float .f64 0, .float .f64 0, .float .f64 0, .float .f64 0, .float .f64 0, .float .f64 0, .float .f64 0, .float .f64 0, .float .f64 0] #[.float .f64 0, .float .f64 0, .float .f64 0, .float .f64 0, .float .f64 0, .float .f64 0, .float .f64 0, .float .f64 0, .float .f64 0, .float .f64 0, .float .f64 0, .float .f64 0, .float .f64 0, .float .f64 0, .float .f64 0, .float .f64 0, .float .f64 0, .float .f64 0, .float .f64 0, .float .f64 0, .float .f64 0, .float .f64 0, .float .f64 0, .float .f64 0]
 rw [← hW]
 have K0 := Lib.hid K0
 have K1 := Lib.hid K1
 have K2 := Lib.hid K2
 have HB := Lib.hid hB
 clear hW hB hz
 have D1 := dr W
 have f4 := (kb K2 D1)
 obtain ⟨V2, hV3⟩ : ∃ V, World.setRow W (w.heap.size + 1 + 1) #[.float .f64 0, .float .f64 0, .float .f64 0, .float .f64 0, .float .f64 0, .float .f64 0, .float .f64 0, .float .f64 0, .float .f64 0, .float .f64 0, .float .f64 0, .float .f64 0, .float .f64 0, .float .f64 0, .float .f64 0, .float .f64 0, .float .f64 0, .float .f64 0, .float .f64 0, .float .f64 0, .float .f64 0, .float .f64 0, .float .f64 0, .float .f64 0] = V := ⟨_, rfl⟩
 have K5 := kfr hV3 K0 D1 (by omega)
 have K6 := kfr hV3 K1 D1 (by omega)
 have K7 := ksr hV3 K2 D1
 have HB8 := hbr hV3 HB D1 (by omega)
 have D9 := dr V2
 clear K0 K1 K2 HB D1
 rw [hV3]
 clear hV3 f4
 refine wp_loop_rounds 4 ?_
 rw [rounds_succ]
 go_wp2_with fail
 refine wp_region_held (S := (fun w' => True ∧ CellsL w' (w.heap.size) 0 [.float .f64 t0])) (by kernel_rfl) ?_
 change wpAnyH _ _ _ _ _ _ _ _ (World.drew _)
 obtain ⟨wd10, hwd⟩ : ∃ x, x = World.drew V2 := ⟨_, rfl⟩
 rw [← hwd]
 have D11 := Lib.hid (hwd ▸ Below.drew D9.out : Below V2.heap.size V2 wd10)
 clear D9 hwd
 have hS12 : True ∧ CellsL wd10 (w.heap.size) 0 [.float .f64 t0] := ⟨trivial, (kb K5 D11).cellsL 0 [.float .f64 t0] rfl⟩
 refine tkq 0 (bm 10 1) hS12 ?_
 refine tkq 1 (bm 10 3) hS12 ?_
 refine tkq 2 (bm 10 7) hS12 ?_
 refine tkq 3 (bm 10 15) hS12 ?_
 refine tke 4 (bm 10 31) hS12 ?_
 refine tkq 6 (bm 10 95) hS12 ?_
 refine tkq 7 (bm 10 223) hS12 ?_
 refine wpAnyH_oneN (i := 5) (l' := bm 10 255) rfl (by kernel_rfl) (by kernel_rfl) (by kernel_rfl) (fun K hK => ?_)
 go_simp
 go_at_call 50
 refine (C0.out _).mono ?_
 rintro r w20 ⟨rfl, hb⟩
 dsimp only
 have D21 := ds D11 hb
 clear D11
 clear hb
 have hS22 : True ∧ CellsL w20 (w.heap.size) 0 [.float .f64 t0] := ⟨trivial, (kb K5 D21).cellsL 0 [.float .f64 t0] rfl⟩
 refine hK _ _ hS22 ?_
 clear hK K hS12
 refine tkq 8 (bm 10 511) hS22 ?_
 refine wpAnyH_oneN (i := 9) (l' := bm 10 1023) rfl (by kernel_rfl) (by kernel_rfl) (by kernel_rfl) (fun K hK => ?_)
 have f26 := (kb K7 D21).cellsL 0 [.float .f64 0, .float .f64 0] rfl
 dsimp only [CellsL, al, vl, Nat.reduceAdd] at f26
 have u27 := (kb K7 D21).unfrozen
 obtain ⟨V24, hV25⟩ : ∃ V, setCells w20 (w.heap.size + 1 + 1) 0 [.float .f64 p0.lo, .float .f64 p0.hi] = V := ⟨_, rfl⟩
 have hv28 := hV25
 simp only [setCells, Nat.reduceAdd] at hv28
 have K29 := kf hV25 K5 D21 (by omega)
 have K30 := kf hV25 K6 D21 (by omega)
 have K31 := Lib.hid (show Blk V24 (w.heap.size + 1 + 1) 33 #[.float .f64 p0.lo, .float .f64 p0.hi, .float .f64 0, .float .f64 0, .float .f64 0, .float .f64 0, .float .f64 0, .float .f64 0, .float .f64 0, .float .f64 0, .float .f64 0, .float .f64 0, .float .f64 0, .float .f64 0, .float .f64 0, .float .f64 0, .float .f64 0, .float .f64 0, .float .f64 0, .float .f64 0, .float .f64 0, .float .f64 0, .float .f64 0, .float .f64 0] from (ks hV25 K7 D21).out)
 have HB32 := hbs hV25 HB8 D21 (by omega)
 have D33 := dr V24
 clear K5 K6 K7 HB8 D21
 go_simp
 clear hV25 f26 u27 hv28
 have hS34 : True ∧ CellsL V24 (w.heap.size) 0 [.float .f64 t0] := ⟨trivial, (kb K29 D33).cellsL 0 [.float .f64 t0] rfl⟩
 refine hK _ _ hS34 ?_
 clear hK K hS22
 refine wpAnyH_done (by kernel_rfl) ?_ _
 clear hS34
 go_wp2_with fail
 rw [rounds_succ]
 go_wp2_with fail
 refine wp_region_held (S := (fun w' => True ∧ CellsL w' (w.heap.size) 1 [.float .f64 t1])) (by kernel_rfl) ?_
 change wpAnyH _ _ _ _ _ _ _ _ (World.drew _)
 obtain ⟨wd35, hwd⟩ : ∃ x, x = World.drew V24 := ⟨_, rfl⟩
 rw [← hwd]
 have D36 := Lib.hid (hwd ▸ Below.drew D33.out : Below V24.heap.size V24 wd35)
 clear D33 hwd
 have hS37 : True ∧ CellsL wd35 (w.heap.size) 1 [.float .f64 t1] := ⟨trivial, (kb K29 D36).cellsL 1 [.float .f64 t1] rfl⟩
 refine tkq 0 (bm 10 1) hS37 ?_
 refine tkq 1 (bm 10 3) hS37 ?_
 refine tkq 2 (bm 10 7) hS37 ?_
 refine tkq 3 (bm 10 15) hS37 ?_
 refine tke 4 (bm 10 31) hS37 ?_
 refine tkq 6 (bm 10 95) hS37 ?_
 refine tkq 7 (bm 10 223) hS37 ?_
 refine wpAnyH_oneN (i := 5) (l' := bm 10 255) rfl (by kernel_rfl) (by kernel_rfl) (by kernel_rfl) (fun K hK => ?_)
 go_simp
 go_at_call 50
 refine (C1.out _).mono ?_
 rintro r w45 ⟨rfl, hb⟩
 dsimp only
 have D46 := ds D36 hb
 clear D36
 clear hb
 have hS47 : True ∧ CellsL w45 (w.heap.size) 1 [.float .f64 t1] := ⟨trivial, (kb K29 D46).cellsL 1 [.float .f64 t1] rfl⟩
 refine hK _ _ hS47 ?_
 clear hK K hS37
 refine tkq 8 (bm 10 511) hS47 ?_
 refine wpAnyH_oneN (i := 9) (l' := bm 10 1023) rfl (by kernel_rfl) (by kernel_rfl) (by kernel_rfl) (fun K hK => ?_)
 have f51 := (kb K31 D46).cellsL 8 [.float .f64 0, .float .f64 0] rfl
 dsimp only [CellsL, al, vl, Nat.reduceAdd] at f51
 have u52 := (kb K31 D46).unfrozen
 obtain ⟨V49, hV50⟩ : ∃ V, setCells w45 (w.heap.size + 1 + 1) 8 [.float .f64 p1.lo, .float .f64 p1.hi] = V := ⟨_, rfl⟩
 have hv53 := hV50
 simp only [setCells, Nat.reduceAdd] at hv53
 have K54 := kf hV50 K29 D46 (by omega)
 have K55 := kf hV50 K30 D46 (by omega)
 have K56 := Lib.hid (show Blk V49 (w.heap.size + 1 + 1) 33 #[.float .f64 p0.lo, .float .f64 p0.hi, .float .f64 0, .float .f64 0, .float .f64 0, .float .f64 0, .float .f64 0, .float .f64 0, .float .f64 p1.lo, .float .f64 p1.hi, .float .f64 0, .float .f64 0, .float .f64 0, .float .f64 0, .float .f64 0, .float .f64 0, .float .f64 0, .float .f64 0, .float .f64 0, .float .f64 0, .float .f64 0, .float .f64 0, .float .f64 0, .float .f64 0] from (ks hV50 K31 D46).out)
 have HB57 := hbs hV50 HB32 D46 (by omega)
 have D58 := dr V49
 clear K29 K30 K31 HB32 D46
 go_simp
 clear hV50 f51 u52 hv53
 have hS59 : True ∧ CellsL V49 (w.heap.size) 1 [.float .f64 t1] := ⟨trivial, (kb K54 D58).cellsL 1 [.float .f64 t1] rfl⟩
 refine hK _ _ hS59 ?_
 clear hK K hS47
 refine wpAnyH_done (by kernel_rfl) ?_ _
 clear hS59
 go_wp2_with fail
 rw [rounds_succ]
 go_wp2_with fail
 refine wp_region_held (S := (fun w' => True ∧ CellsL w' (w.heap.size) 2 [.float .f64 t2])) (by kernel_rfl) ?_
 change wpAnyH _ _ _ _ _ _ _ _ (World.drew _)
 obtain ⟨wd60, hwd⟩ : ∃ x, x = World.drew V49 := ⟨_, rfl⟩
 rw [← hwd]
 have D61 := Lib.hid (hwd ▸ Below.drew D58.out : Below V49.heap.size V49 wd60)
 clear D58 hwd
 have hS62 : True ∧ CellsL wd60 (w.heap.size) 2 [.float .f64 t2] := ⟨trivial, (kb K54 D61).cellsL 2 [.float .f64 t2] rfl⟩
 refine tkq 0 (bm 10 1) hS62 ?_
 refine tkq 1 (bm 10 3) hS62 ?_
 refine tkq 2 (bm 10 7) hS62 ?_
 refine tkq 3 (bm 10 15) hS62 ?_
 refine tke 4 (bm 10 31) hS62 ?_
 refine tkq 6 (bm 10 95) hS62 ?_
 refine tkq 7 (bm 10 223) hS62 ?_
 refine wpAnyH_oneN (i := 5) (l' := bm 10 255) rfl (by kernel_rfl) (by kernel_rfl) (by kernel_rfl) (fun K hK => ?_)
 go_simp
 go_at_call 50
 refine (C2.out _).mono ?_
 rintro r w70 ⟨rfl, hb⟩
 dsimp only
 have D71 := ds D61 hb
 clear D61
 clear hb
 have hS72 : True ∧ CellsL w70 (w.heap.size) 2 [.float .f64 t2] := ⟨trivial, (kb K54 D71).cellsL 2 [.float .f64 t2] rfl⟩
 refine hK _ _ hS72 ?_
 clear hK K hS62
 refine tkq 8 (bm 10 511) hS72 ?_
 refine wpAnyH_oneN (i := 9) (l' := bm 10 1023) rfl (by kernel_rfl) (by kernel_rfl) (by kernel_rfl) (fun K hK => ?_)
 have f76 := (kb K56 D71).cellsL 16 [.float .f64 0, .float .f64 0] rfl
 dsimp only [CellsL, al, vl, Nat.reduceAdd] at f76
 have u77 := (kb K56 D71).unfrozen
 obtain ⟨V74, hV75⟩ : ∃ V, setCells w70 (w.heap.size + 1 + 1) 16 [.float .f64 p2.lo, .float .f64 p2.hi] = V := ⟨_, rfl⟩
 have hv78 := hV75
 simp only [setCells, Nat.reduceAdd] at hv78
 have K79 := kf hV75 K54 D71 (by omega)
 have K80 := kf hV75 K55 D71 (by omega)
 have K81 := Lib.hid (show Blk V74 (w.heap.size + 1 + 1) 33 #[.float .f64 p0.lo, .float .f64 p0.hi, .float .f64 0, .float .f64 0, .float .f64 0, .float .f64 0, .float .f64 0, .float .f64 0, .float .f64 p1.lo, .float .f64 p1.hi, .float .f64 0, .float .f64 0, .float .f64 0, .float .f64 0, .float .f64 0, .float .f64 0, .float .f64 p2.lo, .float .f64 p2.hi, .float .f64 0, .float .f64 0, .float .f64 0, .float .f64 0, .float .f64 0, .float .f64 0] from (ks hV75 K56 D71).out)
 have HB82 := hbs hV75 HB57 D71 (by omega)
 have D83 := dr V74
 clear K54 K55 K56 HB57 D71
 go_simp
 clear hV75 f76 u77 hv78
 have hS84 : True ∧ CellsL V74 (w.heap.size) 2 [.float .f64 t2] := ⟨trivial, (kb K79 D83).cellsL 2 [.float .f64 t2] rfl⟩
 refine hK _ _ hS84 ?_
 clear hK K hS72
 refine wpAnyH_done (by kernel_rfl) ?_ _
 clear hS84
 go_wp2_with fail
 rw [rounds_succ]
 have f85 := (kb K81 D83)
 have f88 := (kb K80 D83)
 obtain ⟨V86, hV87⟩ : ∃ V, World.setRow V74 (w.heap.size + 1) #[.float .f64 p0.lo, .float .f64 p0.hi, .float .f64 0, .float .f64 0, .float .f64 0, .float .f64 0, .float .f64 0, .float .f64 0, .float .f64 p1.lo, .float .f64 p1.hi, .float .f64 0, .float .f64 0, .float .f64 0, .float .f64 0, .float .f64 0, .float .f64 0, .float .f64 p2.lo, .float .f64 p2.hi, .float .f64 0, .float .f64 0, .float .f64 0, .float .f64 0, .float .f64 0, .float .f64 0] = V := ⟨_, rfl⟩
 have K89 := kfr hV87 K79 D83 (by omega)
 have K90 := ksr hV87 K80 D83
 have K91 := kfr hV87 K81 D83 (by omega)
 have HB92 := hbr hV87 HB82 D83 (by omega)
 have D93 := dr V86
 clear K79 K80 K81 HB82 D83
 go_wp2_with (first | (refine wpList_store_row rfl 33 _ _ rfl (w.heap.size + 1) #[.float .f64 p0.lo, .float .f64 p0.hi, .float .f64 0, .float .f64 0, .float .f64 0, .float .f64 0, .float .f64 0, .float .f64 0, .float .f64 p1.lo, .float .f64 p1.hi, .float .f64 0, .float .f64 0, .float .f64 0, .float .f64 0, .float .f64 0, .float .f64 0, .float .f64 p2.lo, .float .f64 p2.hi, .float .f64 0, .float .f64 0, .float .f64 0, .float .f64 0, .float .f64 0, .float .f64 0] rfl rfl _ _ f88 (by rw [info_Affine]; rfl) rfl (by kernel_rfl) ?_; rw [hV87]) | (refine wl_load (by kernel_rfl) rfl rfl f85 (by rw [info_Affine]; rfl) Try.underlying33 rfl ?_))
 clear f85 hV87 f88
 (try simp only [Exit.inBlock, Exit.then])
 exact bodyPost_ret (res_c rfl _ _ (w.heap.size + 1) #[.float .f64 p0.lo, .float .f64 p0.hi, .float .f64 0, .float .f64 0, .float .f64 0, .float .f64 0, .float .f64 0, .float .f64 0, .float .f64 p1.lo, .float .f64 p1.hi, .float .f64 0, .float .f64 0, .float .f64 0, .float .f64 0, .float .f64 0, .float .f64 0, .float .f64 p2.lo, .float .f64 p2.hi, .float .f64 0, .float .f64 0, .float .f64 0, .float .f64 0, .float .f64 0, .float .f64 0] rfl (kb K90 D93) (by rw [info_Affine]; rfl) Try.underlying33 rfl) rfl ⟨rfl, below_step HB92.out D93.out⟩
theorem rsameA_any  (w : World) : Calls Try.prog 21 #[] w fun r w' => r = .returned (aval afSame) ∧ Below w.heap.size w w' := by
 have C0 := Lib.hid (fun w => rstretchA_any 4607182418800017408 4607182418800017408 4607182418800017408 (by decide) (by decide) (by decide) w)
 obtain ⟨p0, hp0⟩ : ∃ z_, afStretch 4607182418800017408 4607182418800017408 4607182418800017408 = z_ := ⟨_, rfl⟩
 rw [hp0] at C0
 have hT : afSame = p0 := by
   subst hp0; rfl
 rw [hT]
 clear hT
 clear hp0
 go_enter Try.func21, Try.ntmps21
 go_wp2_with fail
 obtain ⟨W, hW, K0, hB, hz⟩ := bx1 w 33 #[.float .f64 0, .float .f64 0, .float .f64 0, .float .f64 0, .float .f64 0, .float .f64 0, .float .f64 0, .float .f64 0, .float .f64 0, .float .f64 0, .float .f64 0, .float .f64 0, .float .f64 0, .float .f64 0, .float .f64 0, .float .f64 0, .float .f64 0, .float .f64 0, .float .f64 0, .float .f64 0, .float .f64 0, .float .f64 0, .float .f64 0, .float .f64 0]
 rw [← hW]
 have K0 := Lib.hid K0
 have HB := Lib.hid hB
 clear hW hB hz
 have D1 := dr W
 refine (C0.out _).mono ?_
 rintro r w2 ⟨rfl, hb⟩
 have D3 := ds D1 hb
 clear D1
 clear hb
 have f6 := (kb K0 D3)
 obtain ⟨V4, hV5⟩ : ∃ V, World.setRow w2 (w.heap.size) (ac p0) = V := ⟨_, rfl⟩
 have K7 := ksr hV5 K0 D3
 have HB8 := hbr hV5 HB D3 (by omega)
 have D9 := dr V4
 clear K0 HB D3
 go_wp2_with (refine wpList_store_row rfl 33 _ _ rfl (w.heap.size) (ac p0) rfl rfl _ _ f6 (by rw [info_Affine]; rfl) rfl (by kernel_rfl) ?_; rw [hV5])
 clear hV5 f6
 (try simp only [Exit.inBlock, Exit.then])
 exact bodyPost_ret (res_c rfl _ _ (w.heap.size) (ac p0) rfl (kb K7 D9) (by rw [info_Affine]; rfl) Try.underlying33 rfl) rfl ⟨rfl, below_step HB8.out D9.out⟩
theorem rmoveA_any (t0 t1 t2 : Nat) (ht0 : t0 < 18446744073709551616) (ht1 : t1 < 18446744073709551616) (ht2 : t2 < 18446744073709551616) (w : World) : Calls Try.prog 23 #[Value.agg #[.float .f64 t0, .float .f64 t1, .float .f64 t2]] w fun r w' => r = .returned (aval (afMove t0 t1 t2)) ∧ Below w.heap.size w w' := by
 have C0 := Lib.hid (fun w => rsameA_any w)
 obtain ⟨p0, hp0⟩ : ∃ z_, afSame = z_ := ⟨_, rfl⟩
 rw [hp0] at C0
 have C1 := Lib.hid (fun w => rofV_any t0 t1 t2 ht0 ht1 ht2 w)
 obtain ⟨p1, hp1⟩ : ∃ z_, vOf t0 t1 t2 = z_ := ⟨_, rfl⟩
 rw [hp1] at C1
 have hT : afMove t0 t1 t2 = (⟨p0.a, p0.b, p0.c, p1⟩ : Af) := by
   subst hp0 hp1; rfl
 rw [hT]
 clear hT
 clear hp0 hp1
 go_enter Try.func23, Try.ntmps23
 go_wp2_with fail
 obtain ⟨W, hW, K0, K1, hB, hz⟩ := bx2 w 24 33 #[.float .f64 t0, .float .f64 t1, .float .f64 t2] #[.float .f64 0, .float .f64 0, .float .f64 0, .float .f64 0, .float .f64 0, .float .f64 0, .float .f64 0, .float .f64 0, .float .f64 0, .float .f64 0, .float .f64 0, .float .f64 0, .float .f64 0, .float .f64 0, .float .f64 0, .float .f64 0, .float .f64 0, .float .f64 0, .float .f64 0, .float .f64 0, .float .f64 0, .float .f64 0, .float .f64 0, .float .f64 0]
 rw [← hW]
 have K0 := Lib.hid K0
 have K1 := Lib.hid K1
 have HB := Lib.hid hB
 clear hW hB hz
 have D1 := dr W
 refine (C0.out _).mono ?_
 rintro r w2 ⟨rfl, hb⟩
 have D3 := ds D1 hb
 clear D1
 clear hb
 obtain ⟨g4, hg6⟩ : ∃ g, w2.heap.size = g := ⟨_, rfl⟩
 have Y8 := Lib.hid (show w.heap.size < g4 ∧ w.heap.size + 1 < g4 by rw [← hg6]; exact ⟨(kb K0 D3).lt, (kb K1 D3).lt⟩)
 obtain ⟨V5, hV7⟩ : ∃ V, w2.alloc (.cells #[.float .f64 0, .float .f64 0, .float .f64 0, .float .f64 0, .float .f64 0, .float .f64 0, .float .f64 0, .float .f64 0, .float .f64 0, .float .f64 0, .float .f64 0, .float .f64 0, .float .f64 0, .float .f64 0, .float .f64 0, .float .f64 0, .float .f64 0, .float .f64 0, .float .f64 0, .float .f64 0, .float .f64 0, .float .f64 0, .float .f64 0, .float .f64 0] 33) = V := ⟨_, rfl⟩
 have K9 := ka hV7 K0 D3
 have K10 := ka hV7 K1 D3
 have K11 := kn hV7 hg6
 have HB12 := hba hV7 HB D3
 have D13 := dr V5
 clear K0 K1 HB D3
 have f16 := (kb K11 D13)
 obtain ⟨V14, hV15⟩ : ∃ V, World.setRow V5 (g4) (ac p0) = V := ⟨_, rfl⟩
 have K17 := kfr hV15 K9 D13 (by have := Y8.out; omega)
 have K18 := kfr hV15 K10 D13 (by have := Y8.out; omega)
 have K19 := ksr hV15 K11 D13
 have HB20 := hbr hV15 HB12 D13 (by have := Y8.out; omega)
 have D21 := dr V14
 clear K9 K10 K11 HB12 D13
 have hq22 := (kb K17 D21).cellsL 0 [.float .f64 t0, .float .f64 t1, .float .f64 t2] rfl
 dsimp only [CellsL, al, vl, Nat.reduceAdd] at hq22
 go_wp2_with (refine wpList_store_row rfl 33 _ _ rfl (g4) (ac p0) rfl rfl _ _ f16 (by rw [info_Affine]; rfl) rfl (by kernel_rfl) ?_; rw [hV15])
 clear hg6 hV7 hV15 f16 hq22
 refine (C1.out _).mono ?_
 rintro r w23 ⟨rfl, hb⟩
 have D24 := ds D21 hb
 clear D21
 clear hb
 have f27 := (kb K19 D24).cellsL 18 (vl p0.t) rfl
 dsimp only [CellsL, al, vl, Nat.reduceAdd] at f27
 have u28 := (kb K19 D24).unfrozen
 obtain ⟨V25, hV26⟩ : ∃ V, setCells w23 (g4) 18 [.float .f64 p1.x.lo, .float .f64 p1.x.hi, .float .f64 p1.y.lo, .float .f64 p1.y.hi, .float .f64 p1.z.lo, .float .f64 p1.z.hi] = V := ⟨_, rfl⟩
 have hv29 := hV26
 simp only [setCells, Nat.reduceAdd] at hv29
 have K30 := kf hV26 K17 D24 (by have := Y8.out; omega)
 have K31 := kf hV26 K18 D24 (by have := Y8.out; omega)
 have K32 := Lib.hid (show Blk V25 (g4) 33 #[.float .f64 p0.a.x.lo, .float .f64 p0.a.x.hi, .float .f64 p0.a.y.lo, .float .f64 p0.a.y.hi, .float .f64 p0.a.z.lo, .float .f64 p0.a.z.hi, .float .f64 p0.b.x.lo, .float .f64 p0.b.x.hi, .float .f64 p0.b.y.lo, .float .f64 p0.b.y.hi, .float .f64 p0.b.z.lo, .float .f64 p0.b.z.hi, .float .f64 p0.c.x.lo, .float .f64 p0.c.x.hi, .float .f64 p0.c.y.lo, .float .f64 p0.c.y.hi, .float .f64 p0.c.z.lo, .float .f64 p0.c.z.hi, .float .f64 p1.x.lo, .float .f64 p1.x.hi, .float .f64 p1.y.lo, .float .f64 p1.y.hi, .float .f64 p1.z.lo, .float .f64 p1.z.hi] from (ks hV26 K19 D24).out)
 have HB33 := hbs hV26 HB20 D24 (by have := Y8.out; omega)
 have D34 := dr V25
 clear K17 K18 K19 HB20 D24
 have f35 := (kb K32 D34)
 have f38 := (kb K31 D34)
 obtain ⟨V36, hV37⟩ : ∃ V, World.setRow V25 (w.heap.size + 1) #[.float .f64 p0.a.x.lo, .float .f64 p0.a.x.hi, .float .f64 p0.a.y.lo, .float .f64 p0.a.y.hi, .float .f64 p0.a.z.lo, .float .f64 p0.a.z.hi, .float .f64 p0.b.x.lo, .float .f64 p0.b.x.hi, .float .f64 p0.b.y.lo, .float .f64 p0.b.y.hi, .float .f64 p0.b.z.lo, .float .f64 p0.b.z.hi, .float .f64 p0.c.x.lo, .float .f64 p0.c.x.hi, .float .f64 p0.c.y.lo, .float .f64 p0.c.y.hi, .float .f64 p0.c.z.lo, .float .f64 p0.c.z.hi, .float .f64 p1.x.lo, .float .f64 p1.x.hi, .float .f64 p1.y.lo, .float .f64 p1.y.hi, .float .f64 p1.z.lo, .float .f64 p1.z.hi] = V := ⟨_, rfl⟩
 have K39 := kfr hV37 K30 D34 (by have := Y8.out; omega)
 have K40 := ksr hV37 K31 D34
 have K41 := kfr hV37 K32 D34 (by have := Y8.out; omega)
 have HB42 := hbr hV37 HB33 D34 (by have := Y8.out; omega)
 have D43 := dr V36
 clear K30 K31 K32 HB33 D34
 go_wp2_with (first | (refine wpList_store_row rfl 33 _ _ rfl (w.heap.size + 1) #[.float .f64 p0.a.x.lo, .float .f64 p0.a.x.hi, .float .f64 p0.a.y.lo, .float .f64 p0.a.y.hi, .float .f64 p0.a.z.lo, .float .f64 p0.a.z.hi, .float .f64 p0.b.x.lo, .float .f64 p0.b.x.hi, .float .f64 p0.b.y.lo, .float .f64 p0.b.y.hi, .float .f64 p0.b.z.lo, .float .f64 p0.b.z.hi, .float .f64 p0.c.x.lo, .float .f64 p0.c.x.hi, .float .f64 p0.c.y.lo, .float .f64 p0.c.y.hi, .float .f64 p0.c.z.lo, .float .f64 p0.c.z.hi, .float .f64 p1.x.lo, .float .f64 p1.x.hi, .float .f64 p1.y.lo, .float .f64 p1.y.hi, .float .f64 p1.z.lo, .float .f64 p1.z.hi] rfl rfl _ _ f38 (by rw [info_Affine]; rfl) rfl (by kernel_rfl) ?_; rw [hV37]) | (refine wl_load (by kernel_rfl) rfl rfl f35 (by rw [info_Affine]; rfl) Try.underlying33 rfl ?_))
 clear hV26 f27 u28 hv29 f35 hV37 f38
 (try simp only [Exit.inBlock, Exit.then])
 exact bodyPost_ret (res_c rfl _ _ (w.heap.size + 1) #[.float .f64 p0.a.x.lo, .float .f64 p0.a.x.hi, .float .f64 p0.a.y.lo, .float .f64 p0.a.y.hi, .float .f64 p0.a.z.lo, .float .f64 p0.a.z.hi, .float .f64 p0.b.x.lo, .float .f64 p0.b.x.hi, .float .f64 p0.b.y.lo, .float .f64 p0.b.y.hi, .float .f64 p0.b.z.lo, .float .f64 p0.b.z.hi, .float .f64 p0.c.x.lo, .float .f64 p0.c.x.hi, .float .f64 p0.c.y.lo, .float .f64 p0.c.y.hi, .float .f64 p0.c.z.lo, .float .f64 p0.c.z.hi, .float .f64 p1.x.lo, .float .f64 p1.x.hi, .float .f64 p1.y.lo, .float .f64 p1.y.hi, .float .f64 p1.z.lo, .float .f64 p1.z.hi] rfl (kb K40 D43) (by rw [info_Affine]; rfl) Try.underlying33 rfl) rfl ⟨rfl, below_step HB42.out D43.out⟩
theorem rturnA_lo (c s : Nat) (axis : Int) (h0 : decide (axis < 0) = true) (w : World) : Calls Try.prog 19 #[Value.int IntKind.i64 axis, .float .f64 c, .float .f64 s] w fun r w' => r = .returned (.tuple #[.agg #[.float .f64 0, .float .f64 0, .float .f64 0, .float .f64 0, .float .f64 0, .float .f64 0, .float .f64 0, .float .f64 0, .float .f64 0, .float .f64 0, .float .f64 0, .float .f64 0, .float .f64 0, .float .f64 0, .float .f64 0, .float .f64 0, .float .f64 0, .float .f64 0, .float .f64 0, .float .f64 0, .float .f64 0, .float .f64 0, .float .f64 0, .float .f64 0], .int .i64 2]) ∧ Below w.heap.size w w' := by
 go_enter Try.func19, Try.ntmps19
 go_wp2_with (refine wpList_store_row rfl 33 _ _ rfl (w.heap.size) #[.float .f64 0, .float .f64 0, .float .f64 0, .float .f64 0, .float .f64 0, .float .f64 0, .float .f64 0, .float .f64 0, .float .f64 0, .float .f64 0, .float .f64 0, .float .f64 0, .float .f64 0, .float .f64 0, .float .f64 0, .float .f64 0, .float .f64 0, .float .f64 0, .float .f64 0, .float .f64 0, .float .f64 0, .float .f64 0, .float .f64 0, .float .f64 0] rfl rfl _ _ (Blk.new_at _ _ _ rfl) (by rw [info_Affine]; rfl) rfl (by kernel_rfl) ?_)
 (try simp only [Exit.inBlock, Exit.then])
 exact bodyPost_ret (res_ct rfl _ _ (w.heap.size) #[.float .f64 0, .float .f64 0, .float .f64 0, .float .f64 0, .float .f64 0, .float .f64 0, .float .f64 0, .float .f64 0, .float .f64 0, .float .f64 0, .float .f64 0, .float .f64 0, .float .f64 0, .float .f64 0, .float .f64 0, .float .f64 0, .float .f64 0, .float .f64 0, .float .f64 0, .float .f64 0, .float .f64 0, .float .f64 0, .float .f64 0, .float .f64 0] rfl ((Blk.new_at _ _ _ rfl).setRow _) (by rw [info_Affine]; rfl) Try.underlying33 rfl) rfl ⟨rfl, (Below.setRow ((Below.refl _ w).alloc (Nat.le_refl _) _) (by omega))⟩
theorem rturnA_hi (c s : Nat) (axis : Int) (h0 : decide (axis < 0) = false) (h3 : decide (axis > 2) = true) (h4 : decide (2 < axis) = true) (w : World) : Calls Try.prog 19 #[Value.int IntKind.i64 axis, .float .f64 c, .float .f64 s] w fun r w' => r = .returned (.tuple #[.agg #[.float .f64 0, .float .f64 0, .float .f64 0, .float .f64 0, .float .f64 0, .float .f64 0, .float .f64 0, .float .f64 0, .float .f64 0, .float .f64 0, .float .f64 0, .float .f64 0, .float .f64 0, .float .f64 0, .float .f64 0, .float .f64 0, .float .f64 0, .float .f64 0, .float .f64 0, .float .f64 0, .float .f64 0, .float .f64 0, .float .f64 0, .float .f64 0], .int .i64 2]) ∧ Below w.heap.size w w' := by
 go_enter Try.func19, Try.ntmps19
 go_wp2_with (refine wpList_store_row rfl 33 _ _ rfl (w.heap.size) #[.float .f64 0, .float .f64 0, .float .f64 0, .float .f64 0, .float .f64 0, .float .f64 0, .float .f64 0, .float .f64 0, .float .f64 0, .float .f64 0, .float .f64 0, .float .f64 0, .float .f64 0, .float .f64 0, .float .f64 0, .float .f64 0, .float .f64 0, .float .f64 0, .float .f64 0, .float .f64 0, .float .f64 0, .float .f64 0, .float .f64 0, .float .f64 0] rfl rfl _ _ (Blk.new_at _ _ _ rfl) (by rw [info_Affine]; rfl) rfl (by kernel_rfl) ?_)
 (try simp only [Exit.inBlock, Exit.then])
 exact bodyPost_ret (res_ct rfl _ _ (w.heap.size) #[.float .f64 0, .float .f64 0, .float .f64 0, .float .f64 0, .float .f64 0, .float .f64 0, .float .f64 0, .float .f64 0, .float .f64 0, .float .f64 0, .float .f64 0, .float .f64 0, .float .f64 0, .float .f64 0, .float .f64 0, .float .f64 0, .float .f64 0, .float .f64 0, .float .f64 0, .float .f64 0, .float .f64 0, .float .f64 0, .float .f64 0, .float .f64 0] rfl ((Blk.new_at _ _ _ rfl).setRow _) (by rw [info_Affine]; rfl) Try.underlying33 rfl) rfl ⟨rfl, (Below.setRow ((Below.refl _ w).alloc (Nat.le_refl _) _) (by omega))⟩
theorem rturnA_b (axis : Int) (c s : Nat) (h0 : decide (axis < 0) = false) (h3 : decide (axis > 2) = false) (h4 : decide (2 < axis) = false) (hc : c < 18446744073709551616) (hs : s < 18446744073709551616) (h1 : ¬ 0 < Z (tuL c s).lo) (w : World) : Calls Try.prog 19 #[Value.int IntKind.i64 axis, .float .f64 c, .float .f64 s] w fun r w' => r = .returned (.tuple #[.agg #[.float .f64 0, .float .f64 0, .float .f64 0, .float .f64 0, .float .f64 0, .float .f64 0, .float .f64 0, .float .f64 0, .float .f64 0, .float .f64 0, .float .f64 0, .float .f64 0, .float .f64 0, .float .f64 0, .float .f64 0, .float .f64 0, .float .f64 0, .float .f64 0, .float .f64 0, .float .f64 0, .float .f64 0, .float .f64 0, .float .f64 0, .float .f64 0], .int .i64 11]) ∧ Below w.heap.size w w' := by
 have C0 := Lib.hid (fun w => rof_sp c hc w)
 obtain ⟨p0, hp0⟩ : ∃ z_, ofS c = z_ := ⟨_, rfl⟩
 rw [hp0] at C0
 have C1 := Lib.hid (fun w => rof_sp s hs w)
 obtain ⟨p1, hp1⟩ : ∃ z_, ofS s = z_ := ⟨_, rfl⟩
 rw [hp1] at C1
 have C2 := Lib.hid (fun w => rsqr_sp p0 w)
 obtain ⟨p2, hp2⟩ : ∃ z_, sqrS p0 = z_ := ⟨_, rfl⟩
 rw [hp2] at C2
 have C3 := Lib.hid (fun w => rsqr_sp p1 w)
 obtain ⟨p3, hp3⟩ : ∃ z_, sqrS p1 = z_ := ⟨_, rfl⟩
 rw [hp3] at C3
 have C4 := Lib.hid (fun w => radd_sp p2 p3 w)
 obtain ⟨p4, hp4⟩ : ∃ z_, addS p2 p3 = z_ := ⟨_, rfl⟩
 rw [hp4] at C4
 have C5 := Lib.hid (fun w => rsqrt_sp p4 w)
 obtain ⟨p5, hp5⟩ : ∃ z_, sqrtS p4 = z_ := ⟨_, rfl⟩
 rw [hp5] at C5
 have hl : tuL c s = p5 := by rw [← hp5, ← hp4, ← hp3, ← hp2, ← hp1, ← hp0]; rfl
 rw [hl] at h1
 clear hl
 have e1 : (FloatKind.f64.format.order p5.lo 0 == some .lt || FloatKind.f64.format.order p5.lo 0 == some .eq) = true := by rw [le0_gd p5.vd.l]; exact decide_eq_true (by omega)
 clear hp0 hp1 hp2 hp3 hp4 hp5
 go_enter Try.func19, Try.ntmps19
 go_wp2_with fail
 obtain ⟨W, hW, K0, hB, hz⟩ := bx1 w 33 #[.float .f64 0, .float .f64 0, .float .f64 0, .float .f64 0, .float .f64 0, .float .f64 0, .float .f64 0, .float .f64 0, .float .f64 0, .float .f64 0, .float .f64 0, .float .f64 0, .float .f64 0, .float .f64 0, .float .f64 0, .float .f64 0, .float .f64 0, .float .f64 0, .float .f64 0, .float .f64 0, .float .f64 0, .float .f64 0, .float .f64 0, .float .f64 0]
 rw [← hW]
 have K0 := Lib.hid K0
 have HB := Lib.hid hB
 clear hW hB hz
 have D1 := dr W
 refine (C0.out _).mono ?_
 rintro r w2 ⟨rfl, hb⟩
 have D3 := ds D1 hb
 clear D1
 clear hb
 go_wp2_with fail
 refine (C1.out _).mono ?_
 rintro r w4 ⟨rfl, hb⟩
 have D5 := ds D3 hb
 clear D3
 clear hb
 obtain ⟨g6, hg8⟩ : ∃ g, w4.heap.size = g := ⟨_, rfl⟩
 have Y10 := Lib.hid (show w.heap.size < g6 by rw [← hg8]; exact (kb K0 D5).lt)
 obtain ⟨V7, hV9⟩ : ∃ V, w4.alloc (.cells #[.float .f64 0, .float .f64 0] 28) = V := ⟨_, rfl⟩
 have K11 := ka hV9 K0 D5
 have K12 := kn hV9 hg8
 have HB13 := hba hV9 HB D5
 have D14 := dr V7
 clear K0 HB D5
 obtain ⟨g15, hg17⟩ : ∃ g, V7.heap.size = g := ⟨_, rfl⟩
 have Y19 := Lib.hid (show w.heap.size < g15 ∧ g6 < g15 by rw [← hg17]; exact ⟨(kb K11 D14).lt, (kb K12 D14).lt⟩)
 obtain ⟨V16, hV18⟩ : ∃ V, V7.alloc (.cells #[.float .f64 0, .float .f64 0] 28) = V := ⟨_, rfl⟩
 have K20 := ka hV18 K11 D14
 have K21 := ka hV18 K12 D14
 have K22 := kn hV18 hg17
 have HB23 := hba hV18 HB13 D14
 have D24 := dr V16
 clear K11 K12 HB13 D14
 have Y25 := Lib.hid (And.intro Y10.out Y19.out)
 clear Y10 Y19
 have f28 := (kb K21 D24).cellsL 0 [.float .f64 0, .float .f64 0] rfl
 dsimp only [CellsL, al, vl, Nat.reduceAdd] at f28
 have u29 := (kb K21 D24).unfrozen
 obtain ⟨V26, hV27⟩ : ∃ V, setCells V16 (g6) 0 [.float .f64 p0.lo, .float .f64 p0.hi] = V := ⟨_, rfl⟩
 have hv30 := hV27
 simp only [setCells, Nat.reduceAdd] at hv30
 have K31 := kf hV27 K20 D24 (by have := Y25.out; omega)
 have K32 := Lib.hid (show Blk V26 (g6) 28 #[.float .f64 p0.lo, .float .f64 p0.hi] from (ks hV27 K21 D24).out)
 have K33 := kf hV27 K22 D24 (by have := Y25.out; omega)
 have HB34 := hbs hV27 HB23 D24 (by have := Y25.out; omega)
 have D35 := dr V26
 clear K20 K21 K22 HB23 D24
 have f38 := (kb K33 D35).cellsL 0 [.float .f64 0, .float .f64 0] rfl
 dsimp only [CellsL, al, vl, Nat.reduceAdd] at f38
 have u39 := (kb K33 D35).unfrozen
 obtain ⟨V36, hV37⟩ : ∃ V, setCells V26 (g15) 0 [.float .f64 p1.lo, .float .f64 p1.hi] = V := ⟨_, rfl⟩
 have hv40 := hV37
 simp only [setCells, Nat.reduceAdd] at hv40
 have K41 := kf hV37 K31 D35 (by have := Y25.out; omega)
 have K42 := kf hV37 K32 D35 (by have := Y25.out; omega)
 have K43 := Lib.hid (show Blk V36 (g15) 28 #[.float .f64 p1.lo, .float .f64 p1.hi] from (ks hV37 K33 D35).out)
 have HB44 := hbs hV37 HB34 D35 (by have := Y25.out; omega)
 have D45 := dr V36
 clear K31 K32 K33 HB34 D35
 go_wp2_with fail
 clear hg8 hV9 hg17 hV18 hV27 f28 u29 hv30 hV37 f38 u39 hv40
 refine wp_region_held (S := (fun w' => True ∧ CellsL w' (g6) 0 [.float .f64 p0.lo, .float .f64 p0.hi] ∧ CellsL w' (g15) 0 [.float .f64 p1.lo, .float .f64 p1.hi])) (by kernel_rfl) ?_
 change wpAnyH _ _ _ _ _ _ _ _ (World.drew _)
 obtain ⟨wd46, hwd⟩ : ∃ x, x = World.drew V36 := ⟨_, rfl⟩
 rw [← hwd]
 have D47 := Lib.hid (hwd ▸ Below.drew D45.out : Below V36.heap.size V36 wd46)
 clear D45 hwd
 have hS48 : True ∧ CellsL wd46 (g6) 0 [.float .f64 p0.lo, .float .f64 p0.hi] ∧ CellsL wd46 (g15) 0 [.float .f64 p1.lo, .float .f64 p1.hi] := ⟨trivial, (kb K42 D47).cellsL 0 [.float .f64 p0.lo, .float .f64 p0.hi] rfl, (kb K43 D47).cellsL 0 [.float .f64 p1.lo, .float .f64 p1.hi] rfl⟩
 refine tke 0 (bm 8 1) hS48 ?_
 refine tke 2 (bm 8 5) hS48 ?_
 have HS51 := Lib.hid (show ∀ w', Below V36.heap.size V36 w' → (True ∧ CellsL w' (g6) 0 [.float .f64 p0.lo, .float .f64 p0.hi] ∧ CellsL w' (g15) 0 [.float .f64 p1.lo, .float .f64 p1.hi]) from fun w' b => ⟨trivial, (K42.out.below b K42.out.lt).cellsL 0 [.float .f64 p0.lo, .float .f64 p0.hi] rfl, (K43.out.below b K43.out.lt).cellsL 0 [.float .f64 p1.lo, .float .f64 p1.hi] rfl⟩)
 refine wpAnyH_sets2 (N := 8) (stop := 127) (F := 1) (m := 5) (R := [1, 3, 4, 5, 6]) (M := [5, 7, 69, 15, 71, 31, 79, 63, 95, 127]) (fun i => if i = 1 then 1 else if i = 3 then 6 else if i = 4 then 10 else if i = 5 then 16 else if i = 6 then 0 else 0) (fun a0 m a w9 => ∃ (v1 v3 v4 v5 p6_ : Value) (g6_ : Nat), a = (((((a0.put (some 26) v1).put (some 28) v3).put (some 29) v4).put (some 30) v5).put (some 10) p6_) ∧ Below V36.heap.size V36 w9 ∧ (m.testBit 1 = true → v1 = Value.agg #[.float .f64 p2.lo, .float .f64 p2.hi]) ∧ (m.testBit 3 = true → v3 = Value.agg #[.float .f64 p3.lo, .float .f64 p3.hi]) ∧ (m.testBit 4 = true → v4 = Value.agg #[.float .f64 p4.lo, .float .f64 p4.hi]) ∧ (m.testBit 5 = true → v5 = Value.agg #[.float .f64 p5.lo, .float .f64 p5.hi]) ∧ (m.testBit 6 = true → p6_ = .pointer (some ⟨g6_, 0, none⟩) ∧ Blk w9 g6_ 28 #[.float .f64 0, .float .f64 0] ∧ V36.heap.size ≤ g6_)) (by kernel_rfl) (by kernel_rfl) (by kernel_rfl) (by kernel_rfl) ?st4 ?sp4 ?re4
 case st4 =>
   exact ⟨undef, undef, undef, undef, undef, 0, by go_simp, D47.out, fun h => absurd h (by decide), fun h => absurd h (by decide), fun h => absurd h (by decide), fun h => absurd h (by decide), fun h => absurd h (by decide)⟩
 case sp4 =>
   intro m a' w9 i hi hm hd hJ
   obtain ⟨v1, v3, v4, v5, p6_, g6_, rfl, hb0, cl1, cl3, cl4, cl5, ql6⟩ := hJ
   have CL1 := Lib.hid cl1
   have CL3 := Lib.hid cl3
   have CL4 := Lib.hid cl4
   have CL5 := Lib.hid cl5
   have QL6 := Lib.hid ql6
   have HB0 := Lib.hid hb0
   clear cl1 cl3 cl4 cl5 ql6 hb0 hS48
   simp only [List.mem_cons, List.not_mem_nil, or_false] at hi
   rcases hi with rfl | rfl | rfl | rfl | rfl
   · refine wpOp_at rfl (by kernel_rfl) (fun K hK => ?_)
     have hd := fun j => @tb_of _ _ j hd
     go_simp
     go_at_call 69
     refine (C2.out _).mono ?_
     rintro r w10 ⟨rfl, hb⟩
     dsimp only
     have hb1 := below_step HB0.out hb
     exact hK _ _ ⟨HS51.out _ hb1, _, v3, v4, v5, p6_, g6_, by go_simp, hb1, fun _ => rfl, fun h => CL3.out (by rwa [tb_ne (by decide)] at h), fun h => CL4.out (by rwa [tb_ne (by decide)] at h), fun h => CL5.out (by rwa [tb_ne (by decide)] at h), fun h => ⟨(QL6.out (by rwa [tb_ne (by decide)] at h)).1, (QL6.out (by rwa [tb_ne (by decide)] at h)).2.1.below hb (QL6.out (by rwa [tb_ne (by decide)] at h)).2.1.lt, (QL6.out (by rwa [tb_ne (by decide)] at h)).2.2⟩⟩
   · refine wpOp_at rfl (by kernel_rfl) (fun K hK => ?_)
     have hd := fun j => @tb_of _ _ j hd
     obtain rfl := CL1.out (hd _ (by decide))
     go_simp
     go_at_call 69
     refine (C3.out _).mono ?_
     rintro r w10 ⟨rfl, hb⟩
     dsimp only
     have hb1 := below_step HB0.out hb
     exact hK _ _ ⟨HS51.out _ hb1, _, _, v4, v5, p6_, g6_, by go_simp, hb1, fun _ => rfl, fun _ => rfl, fun h => CL4.out (by rwa [tb_ne (by decide)] at h), fun h => CL5.out (by rwa [tb_ne (by decide)] at h), fun h => ⟨(QL6.out (by rwa [tb_ne (by decide)] at h)).1, (QL6.out (by rwa [tb_ne (by decide)] at h)).2.1.below hb (QL6.out (by rwa [tb_ne (by decide)] at h)).2.1.lt, (QL6.out (by rwa [tb_ne (by decide)] at h)).2.2⟩⟩
   · refine wpOp_at rfl (by kernel_rfl) (fun K hK => ?_)
     have hd := fun j => @tb_of _ _ j hd
     obtain rfl := CL1.out (hd _ (by decide))
     obtain rfl := CL3.out (hd _ (by decide))
     go_simp
     go_at_call 71
     refine (C4.out _).mono ?_
     rintro r w10 ⟨rfl, hb⟩
     dsimp only
     have hb1 := below_step HB0.out hb
     exact hK _ _ ⟨HS51.out _ hb1, _, _, _, v5, p6_, g6_, by go_simp, hb1, fun _ => rfl, fun _ => rfl, fun _ => rfl, fun h => CL5.out (by rwa [tb_ne (by decide)] at h), fun h => ⟨(QL6.out (by rwa [tb_ne (by decide)] at h)).1, (QL6.out (by rwa [tb_ne (by decide)] at h)).2.1.below hb (QL6.out (by rwa [tb_ne (by decide)] at h)).2.1.lt, (QL6.out (by rwa [tb_ne (by decide)] at h)).2.2⟩⟩
   · refine wpOp_at rfl (by kernel_rfl) (fun K hK => ?_)
     have hd := fun j => @tb_of _ _ j hd
     obtain rfl := CL4.out (hd _ (by decide))
     go_simp
     go_at_call 70
     refine (C5.out _).mono ?_
     rintro r w10 ⟨rfl, hb⟩
     dsimp only
     have hb1 := below_step HB0.out hb
     exact hK _ _ ⟨HS51.out _ hb1, v1, v3, _, _, p6_, g6_, by go_simp, hb1, fun h => CL1.out (by rwa [tb_ne (by decide)] at h), fun h => CL3.out (by rwa [tb_ne (by decide)] at h), fun _ => rfl, fun _ => rfl, fun h => ⟨(QL6.out (by rwa [tb_ne (by decide)] at h)).1, (QL6.out (by rwa [tb_ne (by decide)] at h)).2.1.below hb (QL6.out (by rwa [tb_ne (by decide)] at h)).2.1.lt, (QL6.out (by rwa [tb_ne (by decide)] at h)).2.2⟩⟩
   · refine wpOp_at rfl (by kernel_rfl) (fun K hK => ?_)
     have hd := fun j => @tb_of _ _ j hd
     go_simp
     have hb1 := below_more HB0.out (.cells #[.float .f64 0, .float .f64 0] 28)
     exact hK _ _ ⟨HS51.out _ hb1, v1, v3, v4, v5, .pointer (some ⟨w9.heap.size, 0, none⟩), w9.heap.size, by go_simp, hb1, fun h => CL1.out (by rwa [tb_ne (by decide)] at h), fun h => CL3.out (by rwa [tb_ne (by decide)] at h), fun h => CL4.out (by rwa [tb_ne (by decide)] at h), fun h => CL5.out (by rwa [tb_ne (by decide)] at h), fun _ => ⟨rfl, Blk.new_at _ _ _ rfl, HB0.out.size⟩⟩
 clear hS48 D47 HS51
 intro a' W64 hJ
 obtain ⟨v1, v3, v4, v5, p6_, g65, rfl, hb0, cl1, cl3, cl4, cl5, ql6⟩ := hJ
 obtain rfl := cl1 (by decide)
 obtain rfl := cl3 (by decide)
 obtain rfl := cl4 (by decide)
 obtain rfl := cl5 (by decide)
 obtain ⟨rfl, kk6, ll6⟩ := ql6 (by decide)
 have D54 := Lib.hid hb0
 clear hb0
 refine wpAnyH_frame (a' := ?frq53) ?feq53 ?fgq53
 case feq53 => (go_simp; try with_reducible rfl)
 have K56 := Lib.hid ((kb K41 D54) : Blk W64 (w.heap.size) 33 #[.float .f64 0, .float .f64 0, .float .f64 0, .float .f64 0, .float .f64 0, .float .f64 0, .float .f64 0, .float .f64 0, .float .f64 0, .float .f64 0, .float .f64 0, .float .f64 0, .float .f64 0, .float .f64 0, .float .f64 0, .float .f64 0, .float .f64 0, .float .f64 0, .float .f64 0, .float .f64 0, .float .f64 0, .float .f64 0, .float .f64 0, .float .f64 0])
 have K57 := Lib.hid ((kb K42 D54) : Blk W64 (g6) 28 #[.float .f64 p0.lo, .float .f64 p0.hi])
 have K58 := Lib.hid ((kb K43 D54) : Blk W64 (g15) 28 #[.float .f64 p1.lo, .float .f64 p1.hi])
 have K59 := Lib.hid kk6
 clear kk6
 have HB62 := Lib.hid (below_step HB44.out D54.out)
 have Y61 := Lib.hid (show w.heap.size ≤ g65 ∧ w.heap.size < g65 ∧ g6 < g65 ∧ g15 < g65 from ⟨Nat.le_trans HB44.out.size ll6, Nat.lt_of_lt_of_le K41.out.lt ll6, Nat.lt_of_lt_of_le K42.out.lt ll6, Nat.lt_of_lt_of_le K43.out.lt ll6⟩)
 have Y63 := Lib.hid (And.intro Y25.out Y61.out)
 clear Y25 Y61
 clear K41 K42 K43 ll6 HB44
 have D66 := Lib.hid (Below.refl W64.heap.size W64)
 clear D54
 have hS67 : True ∧ CellsL W64 (g6) 0 [.float .f64 p0.lo, .float .f64 p0.hi] ∧ CellsL W64 (g15) 0 [.float .f64 p1.lo, .float .f64 p1.hi] := ⟨trivial, (kb K57 D66).cellsL 0 [.float .f64 p0.lo, .float .f64 p0.hi] rfl, (kb K58 D66).cellsL 0 [.float .f64 p1.lo, .float .f64 p1.hi] rfl⟩
 refine wpAnyH_oneM (i := 7) (l' := bm 8 255) rfl (by kernel_rfl) (by kernel_rfl) (by kernel_rfl) (fun K hK => ?_)
 have f70 := (kb K59 D66).cellsL 0 [.float .f64 0, .float .f64 0] rfl
 dsimp only [CellsL, al, vl, Nat.reduceAdd] at f70
 have u71 := (kb K59 D66).unfrozen
 obtain ⟨V68, hV69⟩ : ∃ V, setCells W64 (g65) 0 [.float .f64 p5.lo, .float .f64 p5.hi] = V := ⟨_, rfl⟩
 have hv72 := hV69
 simp only [setCells, Nat.reduceAdd] at hv72
 have K73 := kf hV69 K56 D66 (by have := Y63.out; omega)
 have K74 := kf hV69 K57 D66 (by have := Y63.out; omega)
 have K75 := kf hV69 K58 D66 (by have := Y63.out; omega)
 have K76 := Lib.hid (show Blk V68 (g65) 28 #[.float .f64 p5.lo, .float .f64 p5.hi] from (ks hV69 K59 D66).out)
 have HB77 := hbs hV69 HB62 D66 (by have := Y63.out; omega)
 have D78 := dr V68
 clear K56 K57 K58 K59 HB62 D66
 go_simp
 clear hV69 f70 u71 hv72
 have hS79 : True ∧ CellsL V68 (g6) 0 [.float .f64 p0.lo, .float .f64 p0.hi] ∧ CellsL V68 (g15) 0 [.float .f64 p1.lo, .float .f64 p1.hi] := ⟨trivial, (kb K74 D78).cellsL 0 [.float .f64 p0.lo, .float .f64 p0.hi] rfl, (kb K75 D78).cellsL 0 [.float .f64 p1.lo, .float .f64 p1.hi] rfl⟩
 refine hK _ _ hS79 ?_
 clear hK K hS67
 refine wpAnyH_done (by kernel_rfl) ?_ _
 clear hS79
 have hq80 := (kb K76 D78).cellsL 0 [.float .f64 p5.lo] rfl
 dsimp only [CellsL, al, vl, Nat.reduceAdd] at hq80
 have f83 := (kb K73 D78)
 obtain ⟨V81, hV82⟩ : ∃ V, World.setRow V68 (w.heap.size) #[.float .f64 0, .float .f64 0, .float .f64 0, .float .f64 0, .float .f64 0, .float .f64 0, .float .f64 0, .float .f64 0, .float .f64 0, .float .f64 0, .float .f64 0, .float .f64 0, .float .f64 0, .float .f64 0, .float .f64 0, .float .f64 0, .float .f64 0, .float .f64 0, .float .f64 0, .float .f64 0, .float .f64 0, .float .f64 0, .float .f64 0, .float .f64 0] = V := ⟨_, rfl⟩
 have K84 := ksr hV82 K73 D78
 have K85 := kfr hV82 K74 D78 (by have := Y63.out; omega)
 have K86 := kfr hV82 K75 D78 (by have := Y63.out; omega)
 have K87 := kfr hV82 K76 D78 (by have := Y63.out; omega)
 have HB88 := hbr hV82 HB77 D78 (by have := Y63.out; omega)
 have D89 := dr V81
 clear K73 K74 K75 K76 HB77 D78
 go_wp2_with (refine wpList_store_row rfl 33 _ _ rfl (w.heap.size) #[.float .f64 0, .float .f64 0, .float .f64 0, .float .f64 0, .float .f64 0, .float .f64 0, .float .f64 0, .float .f64 0, .float .f64 0, .float .f64 0, .float .f64 0, .float .f64 0, .float .f64 0, .float .f64 0, .float .f64 0, .float .f64 0, .float .f64 0, .float .f64 0, .float .f64 0, .float .f64 0, .float .f64 0, .float .f64 0, .float .f64 0, .float .f64 0] rfl rfl _ _ f83 (by rw [info_Affine]; rfl) rfl (by kernel_rfl) ?_; rw [hV82])
 clear hq80 hV82 f83
 (try simp only [Exit.inBlock, Exit.then])
 exact bodyPost_ret (res_ct rfl _ _ (w.heap.size) #[.float .f64 0, .float .f64 0, .float .f64 0, .float .f64 0, .float .f64 0, .float .f64 0, .float .f64 0, .float .f64 0, .float .f64 0, .float .f64 0, .float .f64 0, .float .f64 0, .float .f64 0, .float .f64 0, .float .f64 0, .float .f64 0, .float .f64 0, .float .f64 0, .float .f64 0, .float .f64 0, .float .f64 0, .float .f64 0, .float .f64 0, .float .f64 0] rfl (kb K84 D89) (by rw [info_Affine]; rfl) Try.underlying33 rfl) rfl ⟨rfl, below_step HB88.out D89.out⟩
theorem rturnA_w (axis : Int) (c s : Nat) (h0 : decide (axis < 0) = false) (h3 : decide (axis > 2) = false) (h4 : decide (2 < axis) = false) (hc : c < 18446744073709551616) (hs : s < 18446744073709551616) (h1 : 0 < Z (tuL c s).lo) (h2 : (tuL c s).wide = true) (w : World) : Calls Try.prog 19 #[Value.int IntKind.i64 axis, .float .f64 c, .float .f64 s] w fun r w' => r = .returned (.tuple #[.agg #[.float .f64 0, .float .f64 0, .float .f64 0, .float .f64 0, .float .f64 0, .float .f64 0, .float .f64 0, .float .f64 0, .float .f64 0, .float .f64 0, .float .f64 0, .float .f64 0, .float .f64 0, .float .f64 0, .float .f64 0, .float .f64 0, .float .f64 0, .float .f64 0, .float .f64 0, .float .f64 0, .float .f64 0, .float .f64 0, .float .f64 0, .float .f64 0], .int .i64 11]) ∧ Below w.heap.size w w' := by
 have C0 := Lib.hid (fun w => rof_sp c hc w)
 obtain ⟨p0, hp0⟩ : ∃ z_, ofS c = z_ := ⟨_, rfl⟩
 rw [hp0] at C0
 have C1 := Lib.hid (fun w => rof_sp s hs w)
 obtain ⟨p1, hp1⟩ : ∃ z_, ofS s = z_ := ⟨_, rfl⟩
 rw [hp1] at C1
 have C2 := Lib.hid (fun w => rsqr_sp p0 w)
 obtain ⟨p2, hp2⟩ : ∃ z_, sqrS p0 = z_ := ⟨_, rfl⟩
 rw [hp2] at C2
 have C3 := Lib.hid (fun w => rsqr_sp p1 w)
 obtain ⟨p3, hp3⟩ : ∃ z_, sqrS p1 = z_ := ⟨_, rfl⟩
 rw [hp3] at C3
 have C4 := Lib.hid (fun w => radd_sp p2 p3 w)
 obtain ⟨p4, hp4⟩ : ∃ z_, addS p2 p3 = z_ := ⟨_, rfl⟩
 rw [hp4] at C4
 have C5 := Lib.hid (fun w => rsqrt_sp p4 w)
 obtain ⟨p5, hp5⟩ : ∃ z_, sqrtS p4 = z_ := ⟨_, rfl⟩
 rw [hp5] at C5
 have hl : tuL c s = p5 := by rw [← hp5, ← hp4, ← hp3, ← hp2, ← hp1, ← hp0]; rfl
 rw [hl] at h1 h2
 clear hl
 have e1 : (FloatKind.f64.format.order p5.lo 0 == some .lt || FloatKind.f64.format.order p5.lo 0 == some .eq) = false := by rw [le0_gd p5.vd.l]; exact decide_eq_false (by omega)
 have C6 := Lib.hid (fun w => rwide_sp p5 w)
 rw [h2] at C6
 clear hp0 hp1 hp2 hp3 hp4 hp5
 go_enter Try.func19, Try.ntmps19
 go_wp2_with fail
 obtain ⟨W, hW, K0, hB, hz⟩ := bx1 w 33 #[.float .f64 0, .float .f64 0, .float .f64 0, .float .f64 0, .float .f64 0, .float .f64 0, .float .f64 0, .float .f64 0, .float .f64 0, .float .f64 0, .float .f64 0, .float .f64 0, .float .f64 0, .float .f64 0, .float .f64 0, .float .f64 0, .float .f64 0, .float .f64 0, .float .f64 0, .float .f64 0, .float .f64 0, .float .f64 0, .float .f64 0, .float .f64 0]
 rw [← hW]
 have K0 := Lib.hid K0
 have HB := Lib.hid hB
 clear hW hB hz
 have D1 := dr W
 refine (C0.out _).mono ?_
 rintro r w2 ⟨rfl, hb⟩
 have D3 := ds D1 hb
 clear D1
 clear hb
 go_wp2_with fail
 refine (C1.out _).mono ?_
 rintro r w4 ⟨rfl, hb⟩
 have D5 := ds D3 hb
 clear D3
 clear hb
 obtain ⟨g6, hg8⟩ : ∃ g, w4.heap.size = g := ⟨_, rfl⟩
 have Y10 := Lib.hid (show w.heap.size < g6 by rw [← hg8]; exact (kb K0 D5).lt)
 obtain ⟨V7, hV9⟩ : ∃ V, w4.alloc (.cells #[.float .f64 0, .float .f64 0] 28) = V := ⟨_, rfl⟩
 have K11 := ka hV9 K0 D5
 have K12 := kn hV9 hg8
 have HB13 := hba hV9 HB D5
 have D14 := dr V7
 clear K0 HB D5
 obtain ⟨g15, hg17⟩ : ∃ g, V7.heap.size = g := ⟨_, rfl⟩
 have Y19 := Lib.hid (show w.heap.size < g15 ∧ g6 < g15 by rw [← hg17]; exact ⟨(kb K11 D14).lt, (kb K12 D14).lt⟩)
 obtain ⟨V16, hV18⟩ : ∃ V, V7.alloc (.cells #[.float .f64 0, .float .f64 0] 28) = V := ⟨_, rfl⟩
 have K20 := ka hV18 K11 D14
 have K21 := ka hV18 K12 D14
 have K22 := kn hV18 hg17
 have HB23 := hba hV18 HB13 D14
 have D24 := dr V16
 clear K11 K12 HB13 D14
 have Y25 := Lib.hid (And.intro Y10.out Y19.out)
 clear Y10 Y19
 have f28 := (kb K21 D24).cellsL 0 [.float .f64 0, .float .f64 0] rfl
 dsimp only [CellsL, al, vl, Nat.reduceAdd] at f28
 have u29 := (kb K21 D24).unfrozen
 obtain ⟨V26, hV27⟩ : ∃ V, setCells V16 (g6) 0 [.float .f64 p0.lo, .float .f64 p0.hi] = V := ⟨_, rfl⟩
 have hv30 := hV27
 simp only [setCells, Nat.reduceAdd] at hv30
 have K31 := kf hV27 K20 D24 (by have := Y25.out; omega)
 have K32 := Lib.hid (show Blk V26 (g6) 28 #[.float .f64 p0.lo, .float .f64 p0.hi] from (ks hV27 K21 D24).out)
 have K33 := kf hV27 K22 D24 (by have := Y25.out; omega)
 have HB34 := hbs hV27 HB23 D24 (by have := Y25.out; omega)
 have D35 := dr V26
 clear K20 K21 K22 HB23 D24
 have f38 := (kb K33 D35).cellsL 0 [.float .f64 0, .float .f64 0] rfl
 dsimp only [CellsL, al, vl, Nat.reduceAdd] at f38
 have u39 := (kb K33 D35).unfrozen
 obtain ⟨V36, hV37⟩ : ∃ V, setCells V26 (g15) 0 [.float .f64 p1.lo, .float .f64 p1.hi] = V := ⟨_, rfl⟩
 have hv40 := hV37
 simp only [setCells, Nat.reduceAdd] at hv40
 have K41 := kf hV37 K31 D35 (by have := Y25.out; omega)
 have K42 := kf hV37 K32 D35 (by have := Y25.out; omega)
 have K43 := Lib.hid (show Blk V36 (g15) 28 #[.float .f64 p1.lo, .float .f64 p1.hi] from (ks hV37 K33 D35).out)
 have HB44 := hbs hV37 HB34 D35 (by have := Y25.out; omega)
 have D45 := dr V36
 clear K31 K32 K33 HB34 D35
 go_wp2_with fail
 clear hg8 hV9 hg17 hV18 hV27 f28 u29 hv30 hV37 f38 u39 hv40
 refine wp_region_held (S := (fun w' => True ∧ CellsL w' (g6) 0 [.float .f64 p0.lo, .float .f64 p0.hi] ∧ CellsL w' (g15) 0 [.float .f64 p1.lo, .float .f64 p1.hi])) (by kernel_rfl) ?_
 change wpAnyH _ _ _ _ _ _ _ _ (World.drew _)
 obtain ⟨wd46, hwd⟩ : ∃ x, x = World.drew V36 := ⟨_, rfl⟩
 rw [← hwd]
 have D47 := Lib.hid (hwd ▸ Below.drew D45.out : Below V36.heap.size V36 wd46)
 clear D45 hwd
 have hS48 : True ∧ CellsL wd46 (g6) 0 [.float .f64 p0.lo, .float .f64 p0.hi] ∧ CellsL wd46 (g15) 0 [.float .f64 p1.lo, .float .f64 p1.hi] := ⟨trivial, (kb K42 D47).cellsL 0 [.float .f64 p0.lo, .float .f64 p0.hi] rfl, (kb K43 D47).cellsL 0 [.float .f64 p1.lo, .float .f64 p1.hi] rfl⟩
 refine tke 0 (bm 8 1) hS48 ?_
 refine tke 2 (bm 8 5) hS48 ?_
 have HS51 := Lib.hid (show ∀ w', Below V36.heap.size V36 w' → (True ∧ CellsL w' (g6) 0 [.float .f64 p0.lo, .float .f64 p0.hi] ∧ CellsL w' (g15) 0 [.float .f64 p1.lo, .float .f64 p1.hi]) from fun w' b => ⟨trivial, (K42.out.below b K42.out.lt).cellsL 0 [.float .f64 p0.lo, .float .f64 p0.hi] rfl, (K43.out.below b K43.out.lt).cellsL 0 [.float .f64 p1.lo, .float .f64 p1.hi] rfl⟩)
 refine wpAnyH_sets2 (N := 8) (stop := 127) (F := 1) (m := 5) (R := [1, 3, 4, 5, 6]) (M := [5, 7, 69, 15, 71, 31, 79, 63, 95, 127]) (fun i => if i = 1 then 1 else if i = 3 then 6 else if i = 4 then 10 else if i = 5 then 16 else if i = 6 then 0 else 0) (fun a0 m a w9 => ∃ (v1 v3 v4 v5 p6_ : Value) (g6_ : Nat), a = (((((a0.put (some 26) v1).put (some 28) v3).put (some 29) v4).put (some 30) v5).put (some 10) p6_) ∧ Below V36.heap.size V36 w9 ∧ (m.testBit 1 = true → v1 = Value.agg #[.float .f64 p2.lo, .float .f64 p2.hi]) ∧ (m.testBit 3 = true → v3 = Value.agg #[.float .f64 p3.lo, .float .f64 p3.hi]) ∧ (m.testBit 4 = true → v4 = Value.agg #[.float .f64 p4.lo, .float .f64 p4.hi]) ∧ (m.testBit 5 = true → v5 = Value.agg #[.float .f64 p5.lo, .float .f64 p5.hi]) ∧ (m.testBit 6 = true → p6_ = .pointer (some ⟨g6_, 0, none⟩) ∧ Blk w9 g6_ 28 #[.float .f64 0, .float .f64 0] ∧ V36.heap.size ≤ g6_)) (by kernel_rfl) (by kernel_rfl) (by kernel_rfl) (by kernel_rfl) ?st4 ?sp4 ?re4
 case st4 =>
   exact ⟨undef, undef, undef, undef, undef, 0, by go_simp, D47.out, fun h => absurd h (by decide), fun h => absurd h (by decide), fun h => absurd h (by decide), fun h => absurd h (by decide), fun h => absurd h (by decide)⟩
 case sp4 =>
   intro m a' w9 i hi hm hd hJ
   obtain ⟨v1, v3, v4, v5, p6_, g6_, rfl, hb0, cl1, cl3, cl4, cl5, ql6⟩ := hJ
   have CL1 := Lib.hid cl1
   have CL3 := Lib.hid cl3
   have CL4 := Lib.hid cl4
   have CL5 := Lib.hid cl5
   have QL6 := Lib.hid ql6
   have HB0 := Lib.hid hb0
   clear cl1 cl3 cl4 cl5 ql6 hb0 hS48
   simp only [List.mem_cons, List.not_mem_nil, or_false] at hi
   rcases hi with rfl | rfl | rfl | rfl | rfl
   · refine wpOp_at rfl (by kernel_rfl) (fun K hK => ?_)
     have hd := fun j => @tb_of _ _ j hd
     go_simp
     go_at_call 69
     refine (C2.out _).mono ?_
     rintro r w10 ⟨rfl, hb⟩
     dsimp only
     have hb1 := below_step HB0.out hb
     exact hK _ _ ⟨HS51.out _ hb1, _, v3, v4, v5, p6_, g6_, by go_simp, hb1, fun _ => rfl, fun h => CL3.out (by rwa [tb_ne (by decide)] at h), fun h => CL4.out (by rwa [tb_ne (by decide)] at h), fun h => CL5.out (by rwa [tb_ne (by decide)] at h), fun h => ⟨(QL6.out (by rwa [tb_ne (by decide)] at h)).1, (QL6.out (by rwa [tb_ne (by decide)] at h)).2.1.below hb (QL6.out (by rwa [tb_ne (by decide)] at h)).2.1.lt, (QL6.out (by rwa [tb_ne (by decide)] at h)).2.2⟩⟩
   · refine wpOp_at rfl (by kernel_rfl) (fun K hK => ?_)
     have hd := fun j => @tb_of _ _ j hd
     obtain rfl := CL1.out (hd _ (by decide))
     go_simp
     go_at_call 69
     refine (C3.out _).mono ?_
     rintro r w10 ⟨rfl, hb⟩
     dsimp only
     have hb1 := below_step HB0.out hb
     exact hK _ _ ⟨HS51.out _ hb1, _, _, v4, v5, p6_, g6_, by go_simp, hb1, fun _ => rfl, fun _ => rfl, fun h => CL4.out (by rwa [tb_ne (by decide)] at h), fun h => CL5.out (by rwa [tb_ne (by decide)] at h), fun h => ⟨(QL6.out (by rwa [tb_ne (by decide)] at h)).1, (QL6.out (by rwa [tb_ne (by decide)] at h)).2.1.below hb (QL6.out (by rwa [tb_ne (by decide)] at h)).2.1.lt, (QL6.out (by rwa [tb_ne (by decide)] at h)).2.2⟩⟩
   · refine wpOp_at rfl (by kernel_rfl) (fun K hK => ?_)
     have hd := fun j => @tb_of _ _ j hd
     obtain rfl := CL1.out (hd _ (by decide))
     obtain rfl := CL3.out (hd _ (by decide))
     go_simp
     go_at_call 71
     refine (C4.out _).mono ?_
     rintro r w10 ⟨rfl, hb⟩
     dsimp only
     have hb1 := below_step HB0.out hb
     exact hK _ _ ⟨HS51.out _ hb1, _, _, _, v5, p6_, g6_, by go_simp, hb1, fun _ => rfl, fun _ => rfl, fun _ => rfl, fun h => CL5.out (by rwa [tb_ne (by decide)] at h), fun h => ⟨(QL6.out (by rwa [tb_ne (by decide)] at h)).1, (QL6.out (by rwa [tb_ne (by decide)] at h)).2.1.below hb (QL6.out (by rwa [tb_ne (by decide)] at h)).2.1.lt, (QL6.out (by rwa [tb_ne (by decide)] at h)).2.2⟩⟩
   · refine wpOp_at rfl (by kernel_rfl) (fun K hK => ?_)
     have hd := fun j => @tb_of _ _ j hd
     obtain rfl := CL4.out (hd _ (by decide))
     go_simp
     go_at_call 70
     refine (C5.out _).mono ?_
     rintro r w10 ⟨rfl, hb⟩
     dsimp only
     have hb1 := below_step HB0.out hb
     exact hK _ _ ⟨HS51.out _ hb1, v1, v3, _, _, p6_, g6_, by go_simp, hb1, fun h => CL1.out (by rwa [tb_ne (by decide)] at h), fun h => CL3.out (by rwa [tb_ne (by decide)] at h), fun _ => rfl, fun _ => rfl, fun h => ⟨(QL6.out (by rwa [tb_ne (by decide)] at h)).1, (QL6.out (by rwa [tb_ne (by decide)] at h)).2.1.below hb (QL6.out (by rwa [tb_ne (by decide)] at h)).2.1.lt, (QL6.out (by rwa [tb_ne (by decide)] at h)).2.2⟩⟩
   · refine wpOp_at rfl (by kernel_rfl) (fun K hK => ?_)
     have hd := fun j => @tb_of _ _ j hd
     go_simp
     have hb1 := below_more HB0.out (.cells #[.float .f64 0, .float .f64 0] 28)
     exact hK _ _ ⟨HS51.out _ hb1, v1, v3, v4, v5, .pointer (some ⟨w9.heap.size, 0, none⟩), w9.heap.size, by go_simp, hb1, fun h => CL1.out (by rwa [tb_ne (by decide)] at h), fun h => CL3.out (by rwa [tb_ne (by decide)] at h), fun h => CL4.out (by rwa [tb_ne (by decide)] at h), fun h => CL5.out (by rwa [tb_ne (by decide)] at h), fun _ => ⟨rfl, Blk.new_at _ _ _ rfl, HB0.out.size⟩⟩
 clear hS48 D47 HS51
 intro a' W64 hJ
 obtain ⟨v1, v3, v4, v5, p6_, g65, rfl, hb0, cl1, cl3, cl4, cl5, ql6⟩ := hJ
 obtain rfl := cl1 (by decide)
 obtain rfl := cl3 (by decide)
 obtain rfl := cl4 (by decide)
 obtain rfl := cl5 (by decide)
 obtain ⟨rfl, kk6, ll6⟩ := ql6 (by decide)
 have D54 := Lib.hid hb0
 clear hb0
 refine wpAnyH_frame (a' := ?frq53) ?feq53 ?fgq53
 case feq53 => (go_simp; try with_reducible rfl)
 have K56 := Lib.hid ((kb K41 D54) : Blk W64 (w.heap.size) 33 #[.float .f64 0, .float .f64 0, .float .f64 0, .float .f64 0, .float .f64 0, .float .f64 0, .float .f64 0, .float .f64 0, .float .f64 0, .float .f64 0, .float .f64 0, .float .f64 0, .float .f64 0, .float .f64 0, .float .f64 0, .float .f64 0, .float .f64 0, .float .f64 0, .float .f64 0, .float .f64 0, .float .f64 0, .float .f64 0, .float .f64 0, .float .f64 0])
 have K57 := Lib.hid ((kb K42 D54) : Blk W64 (g6) 28 #[.float .f64 p0.lo, .float .f64 p0.hi])
 have K58 := Lib.hid ((kb K43 D54) : Blk W64 (g15) 28 #[.float .f64 p1.lo, .float .f64 p1.hi])
 have K59 := Lib.hid kk6
 clear kk6
 have HB62 := Lib.hid (below_step HB44.out D54.out)
 have Y61 := Lib.hid (show w.heap.size ≤ g65 ∧ w.heap.size < g65 ∧ g6 < g65 ∧ g15 < g65 from ⟨Nat.le_trans HB44.out.size ll6, Nat.lt_of_lt_of_le K41.out.lt ll6, Nat.lt_of_lt_of_le K42.out.lt ll6, Nat.lt_of_lt_of_le K43.out.lt ll6⟩)
 have Y63 := Lib.hid (And.intro Y25.out Y61.out)
 clear Y25 Y61
 clear K41 K42 K43 ll6 HB44
 have D66 := Lib.hid (Below.refl W64.heap.size W64)
 clear D54
 have hS67 : True ∧ CellsL W64 (g6) 0 [.float .f64 p0.lo, .float .f64 p0.hi] ∧ CellsL W64 (g15) 0 [.float .f64 p1.lo, .float .f64 p1.hi] := ⟨trivial, (kb K57 D66).cellsL 0 [.float .f64 p0.lo, .float .f64 p0.hi] rfl, (kb K58 D66).cellsL 0 [.float .f64 p1.lo, .float .f64 p1.hi] rfl⟩
 refine wpAnyH_oneM (i := 7) (l' := bm 8 255) rfl (by kernel_rfl) (by kernel_rfl) (by kernel_rfl) (fun K hK => ?_)
 have f70 := (kb K59 D66).cellsL 0 [.float .f64 0, .float .f64 0] rfl
 dsimp only [CellsL, al, vl, Nat.reduceAdd] at f70
 have u71 := (kb K59 D66).unfrozen
 obtain ⟨V68, hV69⟩ : ∃ V, setCells W64 (g65) 0 [.float .f64 p5.lo, .float .f64 p5.hi] = V := ⟨_, rfl⟩
 have hv72 := hV69
 simp only [setCells, Nat.reduceAdd] at hv72
 have K73 := kf hV69 K56 D66 (by have := Y63.out; omega)
 have K74 := kf hV69 K57 D66 (by have := Y63.out; omega)
 have K75 := kf hV69 K58 D66 (by have := Y63.out; omega)
 have K76 := Lib.hid (show Blk V68 (g65) 28 #[.float .f64 p5.lo, .float .f64 p5.hi] from (ks hV69 K59 D66).out)
 have HB77 := hbs hV69 HB62 D66 (by have := Y63.out; omega)
 have D78 := dr V68
 clear K56 K57 K58 K59 HB62 D66
 go_simp
 clear hV69 f70 u71 hv72
 have hS79 : True ∧ CellsL V68 (g6) 0 [.float .f64 p0.lo, .float .f64 p0.hi] ∧ CellsL V68 (g15) 0 [.float .f64 p1.lo, .float .f64 p1.hi] := ⟨trivial, (kb K74 D78).cellsL 0 [.float .f64 p0.lo, .float .f64 p0.hi] rfl, (kb K75 D78).cellsL 0 [.float .f64 p1.lo, .float .f64 p1.hi] rfl⟩
 refine hK _ _ hS79 ?_
 clear hK K hS67
 refine wpAnyH_done (by kernel_rfl) ?_ _
 clear hS79
 have hq80 := (kb K76 D78).cellsL 0 [.float .f64 p5.lo, .float .f64 p5.hi] rfl
 dsimp only [CellsL, al, vl, Nat.reduceAdd] at hq80
 go_wp2_with fail
 clear hq80
 refine (C6.out _).mono ?_
 rintro r w81 ⟨rfl, hb⟩
 have D82 := ds D78 hb
 clear D78
 clear hb
 have f85 := (kb K73 D82)
 obtain ⟨V83, hV84⟩ : ∃ V, World.setRow w81 (w.heap.size) #[.float .f64 0, .float .f64 0, .float .f64 0, .float .f64 0, .float .f64 0, .float .f64 0, .float .f64 0, .float .f64 0, .float .f64 0, .float .f64 0, .float .f64 0, .float .f64 0, .float .f64 0, .float .f64 0, .float .f64 0, .float .f64 0, .float .f64 0, .float .f64 0, .float .f64 0, .float .f64 0, .float .f64 0, .float .f64 0, .float .f64 0, .float .f64 0] = V := ⟨_, rfl⟩
 have K86 := ksr hV84 K73 D82
 have K87 := kfr hV84 K74 D82 (by have := Y63.out; omega)
 have K88 := kfr hV84 K75 D82 (by have := Y63.out; omega)
 have K89 := kfr hV84 K76 D82 (by have := Y63.out; omega)
 have HB90 := hbr hV84 HB77 D82 (by have := Y63.out; omega)
 have D91 := dr V83
 clear K73 K74 K75 K76 HB77 D82
 go_wp2_with (refine wpList_store_row rfl 33 _ _ rfl (w.heap.size) #[.float .f64 0, .float .f64 0, .float .f64 0, .float .f64 0, .float .f64 0, .float .f64 0, .float .f64 0, .float .f64 0, .float .f64 0, .float .f64 0, .float .f64 0, .float .f64 0, .float .f64 0, .float .f64 0, .float .f64 0, .float .f64 0, .float .f64 0, .float .f64 0, .float .f64 0, .float .f64 0, .float .f64 0, .float .f64 0, .float .f64 0, .float .f64 0] rfl rfl _ _ f85 (by rw [info_Affine]; rfl) rfl (by kernel_rfl) ?_; rw [hV84])
 clear hV84 f85
 (try simp only [Exit.inBlock, Exit.then])
 exact bodyPost_ret (res_ct rfl _ _ (w.heap.size) #[.float .f64 0, .float .f64 0, .float .f64 0, .float .f64 0, .float .f64 0, .float .f64 0, .float .f64 0, .float .f64 0, .float .f64 0, .float .f64 0, .float .f64 0, .float .f64 0, .float .f64 0, .float .f64 0, .float .f64 0, .float .f64 0, .float .f64 0, .float .f64 0, .float .f64 0, .float .f64 0, .float .f64 0, .float .f64 0, .float .f64 0, .float .f64 0] rfl (kb K86 D91) (by rw [info_Affine]; rfl) Try.underlying33 rfl) rfl ⟨rfl, below_step HB90.out D91.out⟩
end Go.Proofs.Ytnljfcebmgifdaa
