/- Shaken: Tb. -/
import Derived.Test.YtnljfcebmgifdaaGreatZTx
import Derived.Test.YtnljfcebmgifdaaGreatZSf
set_option maxRecDepth 100000
set_option maxHeartbeats 8000000
set_option linter.unusedVariables false
set_option linter.unusedSimpArgs false
namespace Go.Proofs.YtnljfcebmgifdaaGreat
open Go.RowKit Fl
theorem each_add (a b : V3) (w : World) : Calls Tryz.prog 97 #[Value.agg #[.float .f64 a.x.lo, .float .f64 a.x.hi, .float .f64 a.y.lo, .float .f64 a.y.hi, .float .f64 a.z.lo, .float .f64 a.z.hi], Value.agg #[.float .f64 b.x.lo, .float .f64 b.x.hi, .float .f64 b.y.lo, .float .f64 b.y.hi, .float .f64 b.z.lo, .float .f64 b.z.hi], Value.func (Fn.func 67) #[] #[]] w fun r w' => r = .returned (vval (vAdd a b)) ∧ Below w.heap.size w w' := by
 have C0 := Lib.hid (fun w => add_sp a.x b.x w)
 obtain ⟨p0, hp0⟩ : ∃ z_, addS a.x b.x = z_ := ⟨_, rfl⟩
 rw [hp0] at C0
 have C1 := Lib.hid (fun w => add_sp a.y b.y w)
 obtain ⟨p1, hp1⟩ : ∃ z_, addS a.y b.y = z_ := ⟨_, rfl⟩
 rw [hp1] at C1
 have C2 := Lib.hid (fun w => add_sp a.z b.z w)
 obtain ⟨p2, hp2⟩ : ∃ z_, addS a.z b.z = z_ := ⟨_, rfl⟩
 rw [hp2] at C2
 have hT : vAdd a b = (⟨p0, p1, p2⟩ : V3) := by
   subst hp0 hp1 hp2; rfl
 rw [hT]
 clear hT
 clear hp0 hp1 hp2
 go_enter Tryz.func97, Tryz.ntmps97
 go_wp2_with fail
 obtain ⟨W, hW, K0, K1, K2, K3, hB, hz⟩ := bx4 w 26 26 26 26 (vc a) (vc b) #[.float .f64 0, .float .f64 0, .float .f64 0, .float .f64 0, .float .f64 0, .float .f64 0] #[.float .f64 0, .float .f64 0, .float .f64 0, .float .f64 0, .float .f64 0, .float .f64 0]
 rw [← hW]
 have K0 := Lib.hid K0
 have K1 := Lib.hid K1
 have K2 := Lib.hid K2
 have K3 := Lib.hid K3
 have HB := Lib.hid hB
 clear hW hB hz
 have D1 := dr W
 go_wp2_with fail
 refine wp_loop_rounds 4 ?_
 rw [rounds_succ]
 go_wp2_with fail
 refine wp_region_held (S := (fun w' => True ∧ CellsL w' (w.heap.size) 0 [.float .f64 a.x.lo, .float .f64 a.x.hi] ∧ CellsL w' (w.heap.size + 1) 0 [.float .f64 b.x.lo, .float .f64 b.x.hi])) (by kernel_rfl) ?_
 change wpAnyH _ _ _ _ _ _ _ _ (World.drew _)
 obtain ⟨wd2, hwd⟩ : ∃ x, x = World.drew W := ⟨_, rfl⟩
 rw [← hwd]
 have D3 := Lib.hid (hwd ▸ Below.drew D1.out : Below W.heap.size W wd2)
 clear D1 hwd
 have hS4 : True ∧ CellsL wd2 (w.heap.size) 0 [.float .f64 a.x.lo, .float .f64 a.x.hi] ∧ CellsL wd2 (w.heap.size + 1) 0 [.float .f64 b.x.lo, .float .f64 b.x.hi] := ⟨trivial, (kb K0 D3).cellsL 0 [.float .f64 a.x.lo, .float .f64 a.x.hi] rfl, (kb K1 D3).cellsL 0 [.float .f64 b.x.lo, .float .f64 b.x.hi] rfl⟩
 refine tkq 0 (bm 11 1) hS4 ?_
 refine tkq 1 (bm 11 3) hS4 ?_
 refine tkq 2 (bm 11 7) hS4 ?_
 refine tkq 3 (bm 11 15) hS4 ?_
 refine tke 4 (bm 11 31) hS4 ?_
 refine tkq 5 (bm 11 63) hS4 ?_
 refine tkq 6 (bm 11 127) hS4 ?_
 refine tke 7 (bm 11 255) hS4 ?_
 refine wpAnyH_oneN (i := 8) (l' := bm 11 511) rfl (by kernel_rfl) (by kernel_rfl) (by kernel_rfl) (fun K hK => ?_)
 go_simp
 go_at_call 67
 refine (C0.out _).mono ?_
 rintro r w13 ⟨rfl, hb⟩
 dsimp only
 have D14 := ds D3 hb
 clear D3
 clear hb
 have hS15 : True ∧ CellsL w13 (w.heap.size) 0 [.float .f64 a.x.lo, .float .f64 a.x.hi] ∧ CellsL w13 (w.heap.size + 1) 0 [.float .f64 b.x.lo, .float .f64 b.x.hi] := ⟨trivial, (kb K0 D14).cellsL 0 [.float .f64 a.x.lo, .float .f64 a.x.hi] rfl, (kb K1 D14).cellsL 0 [.float .f64 b.x.lo, .float .f64 b.x.hi] rfl⟩
 refine hK _ _ hS15 ?_
 clear hK K hS4
 refine tkq 9 (bm 11 1023) hS15 ?_
 refine wpAnyH_oneN (i := 10) (l' := bm 11 2047) rfl (by kernel_rfl) (by kernel_rfl) (by kernel_rfl) (fun K hK => ?_)
 have f19 := (kb K3 D14).cellsL 0 [.float .f64 0, .float .f64 0] rfl
 dsimp only [CellsL, al, vl, Nat.reduceAdd] at f19
 have u20 := (kb K3 D14).unfrozen
 obtain ⟨V17, hV18⟩ : ∃ V, setCells w13 (w.heap.size + 1 + 1 + 1) 0 [.float .f64 p0.lo, .float .f64 p0.hi] = V := ⟨_, rfl⟩
 have hv21 := hV18
 simp only [setCells, Nat.reduceAdd] at hv21
 have K22 := kf hV18 K0 D14 (by omega)
 have K23 := kf hV18 K1 D14 (by omega)
 have K24 := kf hV18 K2 D14 (by omega)
 have K25 := Lib.hid (show Blk V17 (w.heap.size + 1 + 1 + 1) 26 #[.float .f64 p0.lo, .float .f64 p0.hi, .float .f64 0, .float .f64 0, .float .f64 0, .float .f64 0] from (ks hV18 K3 D14).out)
 have HB26 := hbs hV18 HB D14 (by omega)
 have D27 := dr V17
 clear K0 K1 K2 K3 HB D14
 go_simp
 clear hV18 f19 u20 hv21
 have hS28 : True ∧ CellsL V17 (w.heap.size) 0 [.float .f64 a.x.lo, .float .f64 a.x.hi] ∧ CellsL V17 (w.heap.size + 1) 0 [.float .f64 b.x.lo, .float .f64 b.x.hi] := ⟨trivial, (kb K22 D27).cellsL 0 [.float .f64 a.x.lo, .float .f64 a.x.hi] rfl, (kb K23 D27).cellsL 0 [.float .f64 b.x.lo, .float .f64 b.x.hi] rfl⟩
 refine hK _ _ hS28 ?_
 clear hK K hS15
 refine wpAnyH_done (by kernel_rfl) ?_ _
 clear hS28
 go_wp2_with fail
 rw [rounds_succ]
 go_wp2_with fail
 refine wp_region_held (S := (fun w' => True ∧ CellsL w' (w.heap.size) 2 [.float .f64 a.y.lo, .float .f64 a.y.hi] ∧ CellsL w' (w.heap.size + 1) 2 [.float .f64 b.y.lo, .float .f64 b.y.hi])) (by kernel_rfl) ?_
 change wpAnyH _ _ _ _ _ _ _ _ (World.drew _)
 obtain ⟨wd29, hwd⟩ : ∃ x, x = World.drew V17 := ⟨_, rfl⟩
 rw [← hwd]
 have D30 := Lib.hid (hwd ▸ Below.drew D27.out : Below V17.heap.size V17 wd29)
 clear D27 hwd
 have hS31 : True ∧ CellsL wd29 (w.heap.size) 2 [.float .f64 a.y.lo, .float .f64 a.y.hi] ∧ CellsL wd29 (w.heap.size + 1) 2 [.float .f64 b.y.lo, .float .f64 b.y.hi] := ⟨trivial, (kb K22 D30).cellsL 2 [.float .f64 a.y.lo, .float .f64 a.y.hi] rfl, (kb K23 D30).cellsL 2 [.float .f64 b.y.lo, .float .f64 b.y.hi] rfl⟩
 refine tkq 0 (bm 11 1) hS31 ?_
 refine tkq 1 (bm 11 3) hS31 ?_
 refine tkq 2 (bm 11 7) hS31 ?_
 refine tkq 3 (bm 11 15) hS31 ?_
 refine tke 4 (bm 11 31) hS31 ?_
 refine tkq 5 (bm 11 63) hS31 ?_
 refine tkq 6 (bm 11 127) hS31 ?_
 refine tke 7 (bm 11 255) hS31 ?_
 refine wpAnyH_oneN (i := 8) (l' := bm 11 511) rfl (by kernel_rfl) (by kernel_rfl) (by kernel_rfl) (fun K hK => ?_)
 go_simp
 go_at_call 67
 refine (C1.out _).mono ?_
 rintro r w40 ⟨rfl, hb⟩
 dsimp only
 have D41 := ds D30 hb
 clear D30
 clear hb
 have hS42 : True ∧ CellsL w40 (w.heap.size) 2 [.float .f64 a.y.lo, .float .f64 a.y.hi] ∧ CellsL w40 (w.heap.size + 1) 2 [.float .f64 b.y.lo, .float .f64 b.y.hi] := ⟨trivial, (kb K22 D41).cellsL 2 [.float .f64 a.y.lo, .float .f64 a.y.hi] rfl, (kb K23 D41).cellsL 2 [.float .f64 b.y.lo, .float .f64 b.y.hi] rfl⟩
 refine hK _ _ hS42 ?_
 clear hK K hS31
 refine tkq 9 (bm 11 1023) hS42 ?_
 refine wpAnyH_oneN (i := 10) (l' := bm 11 2047) rfl (by kernel_rfl) (by kernel_rfl) (by kernel_rfl) (fun K hK => ?_)
 have f46 := (kb K25 D41).cellsL 2 [.float .f64 0, .float .f64 0] rfl
 dsimp only [CellsL, al, vl, Nat.reduceAdd] at f46
 have u47 := (kb K25 D41).unfrozen
 obtain ⟨V44, hV45⟩ : ∃ V, setCells w40 (w.heap.size + 1 + 1 + 1) 2 [.float .f64 p1.lo, .float .f64 p1.hi] = V := ⟨_, rfl⟩
 have hv48 := hV45
 simp only [setCells, Nat.reduceAdd] at hv48
 have K49 := kf hV45 K22 D41 (by omega)
 have K50 := kf hV45 K23 D41 (by omega)
 have K51 := kf hV45 K24 D41 (by omega)
 have K52 := Lib.hid (show Blk V44 (w.heap.size + 1 + 1 + 1) 26 #[.float .f64 p0.lo, .float .f64 p0.hi, .float .f64 p1.lo, .float .f64 p1.hi, .float .f64 0, .float .f64 0] from (ks hV45 K25 D41).out)
 have HB53 := hbs hV45 HB26 D41 (by omega)
 have D54 := dr V44
 clear K22 K23 K24 K25 HB26 D41
 go_simp
 clear hV45 f46 u47 hv48
 have hS55 : True ∧ CellsL V44 (w.heap.size) 2 [.float .f64 a.y.lo, .float .f64 a.y.hi] ∧ CellsL V44 (w.heap.size + 1) 2 [.float .f64 b.y.lo, .float .f64 b.y.hi] := ⟨trivial, (kb K49 D54).cellsL 2 [.float .f64 a.y.lo, .float .f64 a.y.hi] rfl, (kb K50 D54).cellsL 2 [.float .f64 b.y.lo, .float .f64 b.y.hi] rfl⟩
 refine hK _ _ hS55 ?_
 clear hK K hS42
 refine wpAnyH_done (by kernel_rfl) ?_ _
 clear hS55
 go_wp2_with fail
 rw [rounds_succ]
 go_wp2_with fail
 refine wp_region_held (S := (fun w' => True ∧ CellsL w' (w.heap.size) 4 [.float .f64 a.z.lo, .float .f64 a.z.hi] ∧ CellsL w' (w.heap.size + 1) 4 [.float .f64 b.z.lo, .float .f64 b.z.hi])) (by kernel_rfl) ?_
 change wpAnyH _ _ _ _ _ _ _ _ (World.drew _)
 obtain ⟨wd56, hwd⟩ : ∃ x, x = World.drew V44 := ⟨_, rfl⟩
 rw [← hwd]
 have D57 := Lib.hid (hwd ▸ Below.drew D54.out : Below V44.heap.size V44 wd56)
 clear D54 hwd
 have hS58 : True ∧ CellsL wd56 (w.heap.size) 4 [.float .f64 a.z.lo, .float .f64 a.z.hi] ∧ CellsL wd56 (w.heap.size + 1) 4 [.float .f64 b.z.lo, .float .f64 b.z.hi] := ⟨trivial, (kb K49 D57).cellsL 4 [.float .f64 a.z.lo, .float .f64 a.z.hi] rfl, (kb K50 D57).cellsL 4 [.float .f64 b.z.lo, .float .f64 b.z.hi] rfl⟩
 refine tkq 0 (bm 11 1) hS58 ?_
 refine tkq 1 (bm 11 3) hS58 ?_
 refine tkq 2 (bm 11 7) hS58 ?_
 refine tkq 3 (bm 11 15) hS58 ?_
 refine tke 4 (bm 11 31) hS58 ?_
 refine tkq 5 (bm 11 63) hS58 ?_
 refine tkq 6 (bm 11 127) hS58 ?_
 refine tke 7 (bm 11 255) hS58 ?_
 refine wpAnyH_oneN (i := 8) (l' := bm 11 511) rfl (by kernel_rfl) (by kernel_rfl) (by kernel_rfl) (fun K hK => ?_)
 go_simp
 go_at_call 67
 refine (C2.out _).mono ?_
 rintro r w67 ⟨rfl, hb⟩
 dsimp only
 have D68 := ds D57 hb
 clear D57
 clear hb
 have hS69 : True ∧ CellsL w67 (w.heap.size) 4 [.float .f64 a.z.lo, .float .f64 a.z.hi] ∧ CellsL w67 (w.heap.size + 1) 4 [.float .f64 b.z.lo, .float .f64 b.z.hi] := ⟨trivial, (kb K49 D68).cellsL 4 [.float .f64 a.z.lo, .float .f64 a.z.hi] rfl, (kb K50 D68).cellsL 4 [.float .f64 b.z.lo, .float .f64 b.z.hi] rfl⟩
 refine hK _ _ hS69 ?_
 clear hK K hS58
 refine tkq 9 (bm 11 1023) hS69 ?_
 refine wpAnyH_oneN (i := 10) (l' := bm 11 2047) rfl (by kernel_rfl) (by kernel_rfl) (by kernel_rfl) (fun K hK => ?_)
 have f73 := (kb K52 D68).cellsL 4 [.float .f64 0, .float .f64 0] rfl
 dsimp only [CellsL, al, vl, Nat.reduceAdd] at f73
 have u74 := (kb K52 D68).unfrozen
 obtain ⟨V71, hV72⟩ : ∃ V, setCells w67 (w.heap.size + 1 + 1 + 1) 4 [.float .f64 p2.lo, .float .f64 p2.hi] = V := ⟨_, rfl⟩
 have hv75 := hV72
 simp only [setCells, Nat.reduceAdd] at hv75
 have K76 := kf hV72 K49 D68 (by omega)
 have K77 := kf hV72 K50 D68 (by omega)
 have K78 := kf hV72 K51 D68 (by omega)
 have K79 := Lib.hid (show Blk V71 (w.heap.size + 1 + 1 + 1) 26 #[.float .f64 p0.lo, .float .f64 p0.hi, .float .f64 p1.lo, .float .f64 p1.hi, .float .f64 p2.lo, .float .f64 p2.hi] from (ks hV72 K52 D68).out)
 have HB80 := hbs hV72 HB53 D68 (by omega)
 have D81 := dr V71
 clear K49 K50 K51 K52 HB53 D68
 go_simp
 clear hV72 f73 u74 hv75
 have hS82 : True ∧ CellsL V71 (w.heap.size) 4 [.float .f64 a.z.lo, .float .f64 a.z.hi] ∧ CellsL V71 (w.heap.size + 1) 4 [.float .f64 b.z.lo, .float .f64 b.z.hi] := ⟨trivial, (kb K76 D81).cellsL 4 [.float .f64 a.z.lo, .float .f64 a.z.hi] rfl, (kb K77 D81).cellsL 4 [.float .f64 b.z.lo, .float .f64 b.z.hi] rfl⟩
 refine hK _ _ hS82 ?_
 clear hK K hS69
 refine wpAnyH_done (by kernel_rfl) ?_ _
 clear hS82
 go_wp2_with fail
 rw [rounds_succ]
 have f83 := (kb K79 D81)
 have f86 := (kb K78 D81)
 obtain ⟨V84, hV85⟩ : ∃ V, World.setRow V71 (w.heap.size + 1 + 1) #[.float .f64 p0.lo, .float .f64 p0.hi, .float .f64 p1.lo, .float .f64 p1.hi, .float .f64 p2.lo, .float .f64 p2.hi] = V := ⟨_, rfl⟩
 have K87 := kfr hV85 K76 D81 (by omega)
 have K88 := kfr hV85 K77 D81 (by omega)
 have K89 := ksr hV85 K78 D81
 have K90 := kfr hV85 K79 D81 (by omega)
 have HB91 := hbr hV85 HB80 D81 (by omega)
 have D92 := dr V84
 clear K76 K77 K78 K79 HB80 D81
 go_wp2_with (first | (refine wpList_store_row rfl 26 _ _ rfl (w.heap.size + 1 + 1) #[.float .f64 p0.lo, .float .f64 p0.hi, .float .f64 p1.lo, .float .f64 p1.hi, .float .f64 p2.lo, .float .f64 p2.hi] rfl rfl _ _ f86 (by rw [info_V3]; rfl) rfl (by kernel_rfl) ?_; rw [hV85]) | (refine wl_load (by kernel_rfl) rfl rfl f83 (by rw [info_V3]; rfl) Tryz.underlying26 rfl ?_))
 clear f83 hV85 f86
 (try simp only [Exit.inBlock, Exit.then])
 exact bodyPost_ret (res_c rfl _ _ (w.heap.size + 1 + 1) #[.float .f64 p0.lo, .float .f64 p0.hi, .float .f64 p1.lo, .float .f64 p1.hi, .float .f64 p2.lo, .float .f64 p2.hi] rfl (kb K89 D92) (by rw [info_V3]; rfl) Tryz.underlying26 rfl) rfl ⟨rfl, below_step HB91.out D92.out⟩
theorem vAdd_any (a b : V3) (w : World) : Calls Tryz.prog 53 #[Value.agg #[.float .f64 a.x.lo, .float .f64 a.x.hi, .float .f64 a.y.lo, .float .f64 a.y.hi, .float .f64 a.z.lo, .float .f64 a.z.hi], Value.agg #[.float .f64 b.x.lo, .float .f64 b.x.hi, .float .f64 b.y.lo, .float .f64 b.y.hi, .float .f64 b.z.lo, .float .f64 b.z.hi]] w fun r w' => r = .returned (vval (vAdd a b)) ∧ Below w.heap.size w w' := by
 have C0 := Lib.hid (fun w => each_add a b w)
 obtain ⟨p0, hp0⟩ : ∃ z_, vAdd a b = z_ := ⟨_, rfl⟩
 rw [hp0] at C0
 have hT : vAdd a b = p0 := by
   subst hp0; rfl
 rw [hT]
 clear hT
 clear hp0
 go_enter Tryz.func53, Tryz.ntmps53
 go_wp2_with (first | (refine wl_load (by kernel_rfl) rfl rfl (((Blk.new_at _ _ _ rfl).alloc _).alloc _) (by rw [info_V3]; rfl) Tryz.underlying26 rfl ?_) | (refine wl_load (by kernel_rfl) rfl rfl ((Blk.new_at _ _ _ (by simp)).alloc _) (by rw [info_V3]; rfl) Tryz.underlying26 rfl ?_))
 obtain ⟨W, hW, K0, K1, K2, hB, hz⟩ := bx3 w 26 26 26 (vc a) (vc b) #[.float .f64 0, .float .f64 0, .float .f64 0, .float .f64 0, .float .f64 0, .float .f64 0]
 rw [← hW]
 have K0 := Lib.hid K0
 have K1 := Lib.hid K1
 have K2 := Lib.hid K2
 have HB := Lib.hid hB
 clear hW hB hz
 have D1 := dr W
 refine (C0.out _).mono ?_
 rintro r w2 ⟨rfl, hb⟩
 have D3 := ds D1 hb
 clear D1
 clear hb
 have f6 := (kb K2 D3)
 obtain ⟨V4, hV5⟩ : ∃ V, World.setRow w2 (w.heap.size + 1 + 1) (vc p0) = V := ⟨_, rfl⟩
 have K7 := kfr hV5 K0 D3 (by omega)
 have K8 := kfr hV5 K1 D3 (by omega)
 have K9 := ksr hV5 K2 D3
 have HB10 := hbr hV5 HB D3 (by omega)
 have D11 := dr V4
 clear K0 K1 K2 HB D3
 go_wp2_with (refine wpList_store_row rfl 26 _ _ rfl (w.heap.size + 1 + 1) (vc p0) rfl rfl _ _ f6 (by rw [info_V3]; rfl) rfl (by kernel_rfl) ?_; rw [hV5])
 clear hV5 f6
 (try simp only [Exit.inBlock, Exit.then])
 exact bodyPost_ret (res_c rfl _ _ (w.heap.size + 1 + 1) (vc p0) rfl (kb K9 D11) (by rw [info_V3]; rfl) Tryz.underlying26 rfl) rfl ⟨rfl, below_step HB10.out D11.out⟩
theorem each_mul (a b : V3) (w : World) : Calls Tryz.prog 97 #[Value.agg #[.float .f64 a.x.lo, .float .f64 a.x.hi, .float .f64 a.y.lo, .float .f64 a.y.hi, .float .f64 a.z.lo, .float .f64 a.z.hi], Value.agg #[.float .f64 b.x.lo, .float .f64 b.x.hi, .float .f64 b.y.lo, .float .f64 b.y.hi, .float .f64 b.z.lo, .float .f64 b.z.hi], Value.func (Fn.func 68) #[] #[]] w fun r w' => r = .returned (vval (vMul a b)) ∧ Below w.heap.size w w' := by
 have C0 := Lib.hid (fun w => mul_sp a.x b.x w)
 obtain ⟨p0, hp0⟩ : ∃ z_, mulS a.x b.x = z_ := ⟨_, rfl⟩
 rw [hp0] at C0
 have C1 := Lib.hid (fun w => mul_sp a.y b.y w)
 obtain ⟨p1, hp1⟩ : ∃ z_, mulS a.y b.y = z_ := ⟨_, rfl⟩
 rw [hp1] at C1
 have C2 := Lib.hid (fun w => mul_sp a.z b.z w)
 obtain ⟨p2, hp2⟩ : ∃ z_, mulS a.z b.z = z_ := ⟨_, rfl⟩
 rw [hp2] at C2
 have hT : vMul a b = (⟨p0, p1, p2⟩ : V3) := by
   subst hp0 hp1 hp2; rfl
 rw [hT]
 clear hT
 clear hp0 hp1 hp2
 go_enter Tryz.func97, Tryz.ntmps97
 go_wp2_with fail
 obtain ⟨W, hW, K0, K1, K2, K3, hB, hz⟩ := bx4 w 26 26 26 26 (vc a) (vc b) #[.float .f64 0, .float .f64 0, .float .f64 0, .float .f64 0, .float .f64 0, .float .f64 0] #[.float .f64 0, .float .f64 0, .float .f64 0, .float .f64 0, .float .f64 0, .float .f64 0]
 rw [← hW]
 have K0 := Lib.hid K0
 have K1 := Lib.hid K1
 have K2 := Lib.hid K2
 have K3 := Lib.hid K3
 have HB := Lib.hid hB
 clear hW hB hz
 have D1 := dr W
 go_wp2_with fail
 refine wp_loop_rounds 4 ?_
 rw [rounds_succ]
 go_wp2_with fail
 refine wp_region_held (S := (fun w' => True ∧ CellsL w' (w.heap.size) 0 [.float .f64 a.x.lo, .float .f64 a.x.hi] ∧ CellsL w' (w.heap.size + 1) 0 [.float .f64 b.x.lo, .float .f64 b.x.hi])) (by kernel_rfl) ?_
 change wpAnyH _ _ _ _ _ _ _ _ (World.drew _)
 obtain ⟨wd2, hwd⟩ : ∃ x, x = World.drew W := ⟨_, rfl⟩
 rw [← hwd]
 have D3 := Lib.hid (hwd ▸ Below.drew D1.out : Below W.heap.size W wd2)
 clear D1 hwd
 have hS4 : True ∧ CellsL wd2 (w.heap.size) 0 [.float .f64 a.x.lo, .float .f64 a.x.hi] ∧ CellsL wd2 (w.heap.size + 1) 0 [.float .f64 b.x.lo, .float .f64 b.x.hi] := ⟨trivial, (kb K0 D3).cellsL 0 [.float .f64 a.x.lo, .float .f64 a.x.hi] rfl, (kb K1 D3).cellsL 0 [.float .f64 b.x.lo, .float .f64 b.x.hi] rfl⟩
 refine tkq 0 (bm 11 1) hS4 ?_
 refine tkq 1 (bm 11 3) hS4 ?_
 refine tkq 2 (bm 11 7) hS4 ?_
 refine tkq 3 (bm 11 15) hS4 ?_
 refine tke 4 (bm 11 31) hS4 ?_
 refine tkq 5 (bm 11 63) hS4 ?_
 refine tkq 6 (bm 11 127) hS4 ?_
 refine tke 7 (bm 11 255) hS4 ?_
 refine wpAnyH_oneN (i := 8) (l' := bm 11 511) rfl (by kernel_rfl) (by kernel_rfl) (by kernel_rfl) (fun K hK => ?_)
 go_simp
 go_at_call 68
 refine (C0.out _).mono ?_
 rintro r w13 ⟨rfl, hb⟩
 dsimp only
 have D14 := ds D3 hb
 clear D3
 clear hb
 have hS15 : True ∧ CellsL w13 (w.heap.size) 0 [.float .f64 a.x.lo, .float .f64 a.x.hi] ∧ CellsL w13 (w.heap.size + 1) 0 [.float .f64 b.x.lo, .float .f64 b.x.hi] := ⟨trivial, (kb K0 D14).cellsL 0 [.float .f64 a.x.lo, .float .f64 a.x.hi] rfl, (kb K1 D14).cellsL 0 [.float .f64 b.x.lo, .float .f64 b.x.hi] rfl⟩
 refine hK _ _ hS15 ?_
 clear hK K hS4
 refine tkq 9 (bm 11 1023) hS15 ?_
 refine wpAnyH_oneN (i := 10) (l' := bm 11 2047) rfl (by kernel_rfl) (by kernel_rfl) (by kernel_rfl) (fun K hK => ?_)
 have f19 := (kb K3 D14).cellsL 0 [.float .f64 0, .float .f64 0] rfl
 dsimp only [CellsL, al, vl, Nat.reduceAdd] at f19
 have u20 := (kb K3 D14).unfrozen
 obtain ⟨V17, hV18⟩ : ∃ V, setCells w13 (w.heap.size + 1 + 1 + 1) 0 [.float .f64 p0.lo, .float .f64 p0.hi] = V := ⟨_, rfl⟩
 have hv21 := hV18
 simp only [setCells, Nat.reduceAdd] at hv21
 have K22 := kf hV18 K0 D14 (by omega)
 have K23 := kf hV18 K1 D14 (by omega)
 have K24 := kf hV18 K2 D14 (by omega)
 have K25 := Lib.hid (show Blk V17 (w.heap.size + 1 + 1 + 1) 26 #[.float .f64 p0.lo, .float .f64 p0.hi, .float .f64 0, .float .f64 0, .float .f64 0, .float .f64 0] from (ks hV18 K3 D14).out)
 have HB26 := hbs hV18 HB D14 (by omega)
 have D27 := dr V17
 clear K0 K1 K2 K3 HB D14
 go_simp
 clear hV18 f19 u20 hv21
 have hS28 : True ∧ CellsL V17 (w.heap.size) 0 [.float .f64 a.x.lo, .float .f64 a.x.hi] ∧ CellsL V17 (w.heap.size + 1) 0 [.float .f64 b.x.lo, .float .f64 b.x.hi] := ⟨trivial, (kb K22 D27).cellsL 0 [.float .f64 a.x.lo, .float .f64 a.x.hi] rfl, (kb K23 D27).cellsL 0 [.float .f64 b.x.lo, .float .f64 b.x.hi] rfl⟩
 refine hK _ _ hS28 ?_
 clear hK K hS15
 refine wpAnyH_done (by kernel_rfl) ?_ _
 clear hS28
 go_wp2_with fail
 rw [rounds_succ]
 go_wp2_with fail
 refine wp_region_held (S := (fun w' => True ∧ CellsL w' (w.heap.size) 2 [.float .f64 a.y.lo, .float .f64 a.y.hi] ∧ CellsL w' (w.heap.size + 1) 2 [.float .f64 b.y.lo, .float .f64 b.y.hi])) (by kernel_rfl) ?_
 change wpAnyH _ _ _ _ _ _ _ _ (World.drew _)
 obtain ⟨wd29, hwd⟩ : ∃ x, x = World.drew V17 := ⟨_, rfl⟩
 rw [← hwd]
 have D30 := Lib.hid (hwd ▸ Below.drew D27.out : Below V17.heap.size V17 wd29)
 clear D27 hwd
 have hS31 : True ∧ CellsL wd29 (w.heap.size) 2 [.float .f64 a.y.lo, .float .f64 a.y.hi] ∧ CellsL wd29 (w.heap.size + 1) 2 [.float .f64 b.y.lo, .float .f64 b.y.hi] := ⟨trivial, (kb K22 D30).cellsL 2 [.float .f64 a.y.lo, .float .f64 a.y.hi] rfl, (kb K23 D30).cellsL 2 [.float .f64 b.y.lo, .float .f64 b.y.hi] rfl⟩
 refine tkq 0 (bm 11 1) hS31 ?_
 refine tkq 1 (bm 11 3) hS31 ?_
 refine tkq 2 (bm 11 7) hS31 ?_
 refine tkq 3 (bm 11 15) hS31 ?_
 refine tke 4 (bm 11 31) hS31 ?_
 refine tkq 5 (bm 11 63) hS31 ?_
 refine tkq 6 (bm 11 127) hS31 ?_
 refine tke 7 (bm 11 255) hS31 ?_
 refine wpAnyH_oneN (i := 8) (l' := bm 11 511) rfl (by kernel_rfl) (by kernel_rfl) (by kernel_rfl) (fun K hK => ?_)
 go_simp
 go_at_call 68
 refine (C1.out _).mono ?_
 rintro r w40 ⟨rfl, hb⟩
 dsimp only
 have D41 := ds D30 hb
 clear D30
 clear hb
 have hS42 : True ∧ CellsL w40 (w.heap.size) 2 [.float .f64 a.y.lo, .float .f64 a.y.hi] ∧ CellsL w40 (w.heap.size + 1) 2 [.float .f64 b.y.lo, .float .f64 b.y.hi] := ⟨trivial, (kb K22 D41).cellsL 2 [.float .f64 a.y.lo, .float .f64 a.y.hi] rfl, (kb K23 D41).cellsL 2 [.float .f64 b.y.lo, .float .f64 b.y.hi] rfl⟩
 refine hK _ _ hS42 ?_
 clear hK K hS31
 refine tkq 9 (bm 11 1023) hS42 ?_
 refine wpAnyH_oneN (i := 10) (l' := bm 11 2047) rfl (by kernel_rfl) (by kernel_rfl) (by kernel_rfl) (fun K hK => ?_)
 have f46 := (kb K25 D41).cellsL 2 [.float .f64 0, .float .f64 0] rfl
 dsimp only [CellsL, al, vl, Nat.reduceAdd] at f46
 have u47 := (kb K25 D41).unfrozen
 obtain ⟨V44, hV45⟩ : ∃ V, setCells w40 (w.heap.size + 1 + 1 + 1) 2 [.float .f64 p1.lo, .float .f64 p1.hi] = V := ⟨_, rfl⟩
 have hv48 := hV45
 simp only [setCells, Nat.reduceAdd] at hv48
 have K49 := kf hV45 K22 D41 (by omega)
 have K50 := kf hV45 K23 D41 (by omega)
 have K51 := kf hV45 K24 D41 (by omega)
 have K52 := Lib.hid (show Blk V44 (w.heap.size + 1 + 1 + 1) 26 #[.float .f64 p0.lo, .float .f64 p0.hi, .float .f64 p1.lo, .float .f64 p1.hi, .float .f64 0, .float .f64 0] from (ks hV45 K25 D41).out)
 have HB53 := hbs hV45 HB26 D41 (by omega)
 have D54 := dr V44
 clear K22 K23 K24 K25 HB26 D41
 go_simp
 clear hV45 f46 u47 hv48
 have hS55 : True ∧ CellsL V44 (w.heap.size) 2 [.float .f64 a.y.lo, .float .f64 a.y.hi] ∧ CellsL V44 (w.heap.size + 1) 2 [.float .f64 b.y.lo, .float .f64 b.y.hi] := ⟨trivial, (kb K49 D54).cellsL 2 [.float .f64 a.y.lo, .float .f64 a.y.hi] rfl, (kb K50 D54).cellsL 2 [.float .f64 b.y.lo, .float .f64 b.y.hi] rfl⟩
 refine hK _ _ hS55 ?_
 clear hK K hS42
 refine wpAnyH_done (by kernel_rfl) ?_ _
 clear hS55
 go_wp2_with fail
 rw [rounds_succ]
 go_wp2_with fail
 refine wp_region_held (S := (fun w' => True ∧ CellsL w' (w.heap.size) 4 [.float .f64 a.z.lo, .float .f64 a.z.hi] ∧ CellsL w' (w.heap.size + 1) 4 [.float .f64 b.z.lo, .float .f64 b.z.hi])) (by kernel_rfl) ?_
 change wpAnyH _ _ _ _ _ _ _ _ (World.drew _)
 obtain ⟨wd56, hwd⟩ : ∃ x, x = World.drew V44 := ⟨_, rfl⟩
 rw [← hwd]
 have D57 := Lib.hid (hwd ▸ Below.drew D54.out : Below V44.heap.size V44 wd56)
 clear D54 hwd
 have hS58 : True ∧ CellsL wd56 (w.heap.size) 4 [.float .f64 a.z.lo, .float .f64 a.z.hi] ∧ CellsL wd56 (w.heap.size + 1) 4 [.float .f64 b.z.lo, .float .f64 b.z.hi] := ⟨trivial, (kb K49 D57).cellsL 4 [.float .f64 a.z.lo, .float .f64 a.z.hi] rfl, (kb K50 D57).cellsL 4 [.float .f64 b.z.lo, .float .f64 b.z.hi] rfl⟩
 refine tkq 0 (bm 11 1) hS58 ?_
 refine tkq 1 (bm 11 3) hS58 ?_
 refine tkq 2 (bm 11 7) hS58 ?_
 refine tkq 3 (bm 11 15) hS58 ?_
 refine tke 4 (bm 11 31) hS58 ?_
 refine tkq 5 (bm 11 63) hS58 ?_
 refine tkq 6 (bm 11 127) hS58 ?_
 refine tke 7 (bm 11 255) hS58 ?_
 refine wpAnyH_oneN (i := 8) (l' := bm 11 511) rfl (by kernel_rfl) (by kernel_rfl) (by kernel_rfl) (fun K hK => ?_)
 go_simp
 go_at_call 68
 refine (C2.out _).mono ?_
 rintro r w67 ⟨rfl, hb⟩
 dsimp only
 have D68 := ds D57 hb
 clear D57
 clear hb
 have hS69 : True ∧ CellsL w67 (w.heap.size) 4 [.float .f64 a.z.lo, .float .f64 a.z.hi] ∧ CellsL w67 (w.heap.size + 1) 4 [.float .f64 b.z.lo, .float .f64 b.z.hi] := ⟨trivial, (kb K49 D68).cellsL 4 [.float .f64 a.z.lo, .float .f64 a.z.hi] rfl, (kb K50 D68).cellsL 4 [.float .f64 b.z.lo, .float .f64 b.z.hi] rfl⟩
 refine hK _ _ hS69 ?_
 clear hK K hS58
 refine tkq 9 (bm 11 1023) hS69 ?_
 refine wpAnyH_oneN (i := 10) (l' := bm 11 2047) rfl (by kernel_rfl) (by kernel_rfl) (by kernel_rfl) (fun K hK => ?_)
 have f73 := (kb K52 D68).cellsL 4 [.float .f64 0, .float .f64 0] rfl
 dsimp only [CellsL, al, vl, Nat.reduceAdd] at f73
 have u74 := (kb K52 D68).unfrozen
 obtain ⟨V71, hV72⟩ : ∃ V, setCells w67 (w.heap.size + 1 + 1 + 1) 4 [.float .f64 p2.lo, .float .f64 p2.hi] = V := ⟨_, rfl⟩
 have hv75 := hV72
 simp only [setCells, Nat.reduceAdd] at hv75
 have K76 := kf hV72 K49 D68 (by omega)
 have K77 := kf hV72 K50 D68 (by omega)
 have K78 := kf hV72 K51 D68 (by omega)
 have K79 := Lib.hid (show Blk V71 (w.heap.size + 1 + 1 + 1) 26 #[.float .f64 p0.lo, .float .f64 p0.hi, .float .f64 p1.lo, .float .f64 p1.hi, .float .f64 p2.lo, .float .f64 p2.hi] from (ks hV72 K52 D68).out)
 have HB80 := hbs hV72 HB53 D68 (by omega)
 have D81 := dr V71
 clear K49 K50 K51 K52 HB53 D68
 go_simp
 clear hV72 f73 u74 hv75
 have hS82 : True ∧ CellsL V71 (w.heap.size) 4 [.float .f64 a.z.lo, .float .f64 a.z.hi] ∧ CellsL V71 (w.heap.size + 1) 4 [.float .f64 b.z.lo, .float .f64 b.z.hi] := ⟨trivial, (kb K76 D81).cellsL 4 [.float .f64 a.z.lo, .float .f64 a.z.hi] rfl, (kb K77 D81).cellsL 4 [.float .f64 b.z.lo, .float .f64 b.z.hi] rfl⟩
 refine hK _ _ hS82 ?_
 clear hK K hS69
 refine wpAnyH_done (by kernel_rfl) ?_ _
 clear hS82
 go_wp2_with fail
 rw [rounds_succ]
 have f83 := (kb K79 D81)
 have f86 := (kb K78 D81)
 obtain ⟨V84, hV85⟩ : ∃ V, World.setRow V71 (w.heap.size + 1 + 1) #[.float .f64 p0.lo, .float .f64 p0.hi, .float .f64 p1.lo, .float .f64 p1.hi, .float .f64 p2.lo, .float .f64 p2.hi] = V := ⟨_, rfl⟩
 have K87 := kfr hV85 K76 D81 (by omega)
 have K88 := kfr hV85 K77 D81 (by omega)
 have K89 := ksr hV85 K78 D81
 have K90 := kfr hV85 K79 D81 (by omega)
 have HB91 := hbr hV85 HB80 D81 (by omega)
 have D92 := dr V84
 clear K76 K77 K78 K79 HB80 D81
 go_wp2_with (first | (refine wpList_store_row rfl 26 _ _ rfl (w.heap.size + 1 + 1) #[.float .f64 p0.lo, .float .f64 p0.hi, .float .f64 p1.lo, .float .f64 p1.hi, .float .f64 p2.lo, .float .f64 p2.hi] rfl rfl _ _ f86 (by rw [info_V3]; rfl) rfl (by kernel_rfl) ?_; rw [hV85]) | (refine wl_load (by kernel_rfl) rfl rfl f83 (by rw [info_V3]; rfl) Tryz.underlying26 rfl ?_))
 clear f83 hV85 f86
 (try simp only [Exit.inBlock, Exit.then])
 exact bodyPost_ret (res_c rfl _ _ (w.heap.size + 1 + 1) #[.float .f64 p0.lo, .float .f64 p0.hi, .float .f64 p1.lo, .float .f64 p1.hi, .float .f64 p2.lo, .float .f64 p2.hi] rfl (kb K89 D92) (by rw [info_V3]; rfl) Tryz.underlying26 rfl) rfl ⟨rfl, below_step HB91.out D92.out⟩
theorem vMul_any (a b : V3) (w : World) : Calls Tryz.prog 94 #[Value.agg #[.float .f64 a.x.lo, .float .f64 a.x.hi, .float .f64 a.y.lo, .float .f64 a.y.hi, .float .f64 a.z.lo, .float .f64 a.z.hi], Value.agg #[.float .f64 b.x.lo, .float .f64 b.x.hi, .float .f64 b.y.lo, .float .f64 b.y.hi, .float .f64 b.z.lo, .float .f64 b.z.hi]] w fun r w' => r = .returned (vval (vMul a b)) ∧ Below w.heap.size w w' := by
 have C0 := Lib.hid (fun w => each_mul a b w)
 obtain ⟨p0, hp0⟩ : ∃ z_, vMul a b = z_ := ⟨_, rfl⟩
 rw [hp0] at C0
 have hT : vMul a b = p0 := by
   subst hp0; rfl
 rw [hT]
 clear hT
 clear hp0
 go_enter Tryz.func94, Tryz.ntmps94
 go_wp2_with (first | (refine wl_load (by kernel_rfl) rfl rfl (((Blk.new_at _ _ _ rfl).alloc _).alloc _) (by rw [info_V3]; rfl) Tryz.underlying26 rfl ?_) | (refine wl_load (by kernel_rfl) rfl rfl ((Blk.new_at _ _ _ (by simp)).alloc _) (by rw [info_V3]; rfl) Tryz.underlying26 rfl ?_))
 obtain ⟨W, hW, K0, K1, K2, hB, hz⟩ := bx3 w 26 26 26 (vc a) (vc b) #[.float .f64 0, .float .f64 0, .float .f64 0, .float .f64 0, .float .f64 0, .float .f64 0]
 rw [← hW]
 have K0 := Lib.hid K0
 have K1 := Lib.hid K1
 have K2 := Lib.hid K2
 have HB := Lib.hid hB
 clear hW hB hz
 have D1 := dr W
 refine (C0.out _).mono ?_
 rintro r w2 ⟨rfl, hb⟩
 have D3 := ds D1 hb
 clear D1
 clear hb
 have f6 := (kb K2 D3)
 obtain ⟨V4, hV5⟩ : ∃ V, World.setRow w2 (w.heap.size + 1 + 1) (vc p0) = V := ⟨_, rfl⟩
 have K7 := kfr hV5 K0 D3 (by omega)
 have K8 := kfr hV5 K1 D3 (by omega)
 have K9 := ksr hV5 K2 D3
 have HB10 := hbr hV5 HB D3 (by omega)
 have D11 := dr V4
 clear K0 K1 K2 HB D3
 go_wp2_with (refine wpList_store_row rfl 26 _ _ rfl (w.heap.size + 1 + 1) (vc p0) rfl rfl _ _ f6 (by rw [info_V3]; rfl) rfl (by kernel_rfl) ?_; rw [hV5])
 clear hV5 f6
 (try simp only [Exit.inBlock, Exit.then])
 exact bodyPost_ret (res_c rfl _ _ (w.heap.size + 1 + 1) (vc p0) rfl (kb K9 D11) (by rw [info_V3]; rfl) Tryz.underlying26 rfl) rfl ⟨rfl, below_step HB10.out D11.out⟩
theorem dotV_any (a b : V3) (w : World) : Calls Tryz.prog 51 #[Value.agg #[.float .f64 a.x.lo, .float .f64 a.x.hi, .float .f64 a.y.lo, .float .f64 a.y.hi, .float .f64 a.z.lo, .float .f64 a.z.hi], Value.agg #[.float .f64 b.x.lo, .float .f64 b.x.hi, .float .f64 b.y.lo, .float .f64 b.y.hi, .float .f64 b.z.lo, .float .f64 b.z.hi]] w fun r w' => r = .returned (.agg #[.float .f64 (vDot a b).lo, .float .f64 (vDot a b).hi]) ∧ Below w.heap.size w w' := by
 have C0 := Lib.hid (fun w => vMul_any a b w)
 obtain ⟨p0, hp0⟩ : ∃ z_, vMul a b = z_ := ⟨_, rfl⟩
 rw [hp0] at C0
 have C1 := Lib.hid (fun w => add_sp p0.x p0.y w)
 obtain ⟨p1, hp1⟩ : ∃ z_, addS p0.x p0.y = z_ := ⟨_, rfl⟩
 rw [hp1] at C1
 have C2 := Lib.hid (fun w => add_sp p1 p0.z w)
 obtain ⟨p2, hp2⟩ : ∃ z_, addS p1 p0.z = z_ := ⟨_, rfl⟩
 rw [hp2] at C2
 have hT : vDot a b = p2 := by
   subst hp0 hp1 hp2; rfl
 rw [hT]
 clear hT
 clear hp0 hp1 hp2
 go_enter Tryz.func51, Tryz.ntmps51
 go_wp2_with (first | (refine wl_load (by kernel_rfl) rfl rfl (((Blk.new_at _ _ _ rfl).alloc _).alloc _) (by rw [info_V3]; rfl) Tryz.underlying26 rfl ?_) | (refine wl_load (by kernel_rfl) rfl rfl ((Blk.new_at _ _ _ (by simp)).alloc _) (by rw [info_V3]; rfl) Tryz.underlying26 rfl ?_))
 obtain ⟨W, hW, K0, K1, K2, hB, hz⟩ := bx3 w 26 26 24 (vc a) (vc b) #[.float .f64 0, .float .f64 0]
 rw [← hW]
 have K0 := Lib.hid K0
 have K1 := Lib.hid K1
 have K2 := Lib.hid K2
 have HB := Lib.hid hB
 clear hW hB hz
 have D1 := dr W
 refine (C0.out _).mono ?_
 rintro r w2 ⟨rfl, hb⟩
 have D3 := ds D1 hb
 clear D1
 clear hb
 obtain ⟨g4, hg6⟩ : ∃ g, w2.heap.size = g := ⟨_, rfl⟩
 have Y8 := Lib.hid (show w.heap.size + 1 + 1 < g4 by rw [← hg6]; exact (kb K2 D3).lt)
 obtain ⟨V5, hV7⟩ : ∃ V, w2.alloc (.cells #[.float .f64 0, .float .f64 0, .float .f64 0, .float .f64 0, .float .f64 0, .float .f64 0] 26) = V := ⟨_, rfl⟩
 have K9 := ka hV7 K0 D3
 have K10 := ka hV7 K1 D3
 have K11 := ka hV7 K2 D3
 have K12 := kn hV7 hg6
 have HB13 := hba hV7 HB D3
 have D14 := dr V5
 clear K0 K1 K2 HB D3
 have f17 := (kb K12 D14)
 obtain ⟨V15, hV16⟩ : ∃ V, World.setRow V5 (g4) (vc p0) = V := ⟨_, rfl⟩
 have K18 := kfr hV16 K9 D14 (by have := Y8.out; omega)
 have K19 := kfr hV16 K10 D14 (by have := Y8.out; omega)
 have K20 := kfr hV16 K11 D14 (by have := Y8.out; omega)
 have K21 := ksr hV16 K12 D14
 have HB22 := hbr hV16 HB13 D14 (by have := Y8.out; omega)
 have D23 := dr V15
 clear K9 K10 K11 K12 HB13 D14
 go_wp2_with (refine wpList_store_row rfl 26 _ _ rfl (g4) (vc p0) rfl rfl _ _ f17 (by rw [info_V3]; rfl) rfl (by kernel_rfl) ?_; rw [hV16])
 clear hg6 hV7 hV16 f17
 refine wp_region_held (S := (fun w' => True ∧ CellsL w' (g4) 0 (vl p0))) (by kernel_rfl) ?_
 change wpAnyH _ _ _ _ _ _ _ _ (World.drew _)
 obtain ⟨wd24, hwd⟩ : ∃ x, x = World.drew V15 := ⟨_, rfl⟩
 rw [← hwd]
 have D25 := Lib.hid (hwd ▸ Below.drew D23.out : Below V15.heap.size V15 wd24)
 clear D23 hwd
 have hS26 : True ∧ CellsL wd24 (g4) 0 (vl p0) := ⟨trivial, (kb K21 D25).cellsL 0 (vl p0) rfl⟩
 refine tkq 0 (bm 9 1) hS26 ?_
 refine tke 1 (bm 9 3) hS26 ?_
 refine tkq 2 (bm 9 7) hS26 ?_
 refine tke 3 (bm 9 15) hS26 ?_
 refine tkq 5 (bm 9 47) hS26 ?_
 refine tke 6 (bm 9 111) hS26 ?_
 refine wpAnyH_oneN (i := 4) (l' := bm 9 127) rfl (by kernel_rfl) (by kernel_rfl) (by kernel_rfl) (fun K hK => ?_)
 go_simp
 go_at_call 67
 refine (C1.out _).mono ?_
 rintro r w33 ⟨rfl, hb⟩
 dsimp only
 have D34 := ds D25 hb
 clear D25
 clear hb
 have hS35 : True ∧ CellsL w33 (g4) 0 (vl p0) := ⟨trivial, (kb K21 D34).cellsL 0 (vl p0) rfl⟩
 refine hK _ _ hS35 ?_
 clear hK K hS26
 refine wpAnyH_oneN (i := 7) (l' := bm 9 255) rfl (by kernel_rfl) (by kernel_rfl) (by kernel_rfl) (fun K hK => ?_)
 go_simp
 go_at_call 67
 refine (C2.out _).mono ?_
 rintro r w36 ⟨rfl, hb⟩
 dsimp only
 have D37 := ds D34 hb
 clear D34
 clear hb
 have hS38 : True ∧ CellsL w36 (g4) 0 (vl p0) := ⟨trivial, (kb K21 D37).cellsL 0 (vl p0) rfl⟩
 refine hK _ _ hS38 ?_
 clear hK K hS35
 refine wpAnyH_oneN (i := 8) (l' := bm 9 511) rfl (by kernel_rfl) (by kernel_rfl) (by kernel_rfl) (fun K hK => ?_)
 have f41 := (kb K20 D37).cellsL 0 [.float .f64 0, .float .f64 0] rfl
 dsimp only [CellsL, al, vl, Nat.reduceAdd] at f41
 have u42 := (kb K20 D37).unfrozen
 obtain ⟨V39, hV40⟩ : ∃ V, setCells w36 (w.heap.size + 1 + 1) 0 [.float .f64 p2.lo, .float .f64 p2.hi] = V := ⟨_, rfl⟩
 have hv43 := hV40
 simp only [setCells, Nat.reduceAdd] at hv43
 have K44 := kf hV40 K18 D37 (by have := Y8.out; omega)
 have K45 := kf hV40 K19 D37 (by have := Y8.out; omega)
 have K46 := Lib.hid (show Blk V39 (w.heap.size + 1 + 1) 24 #[.float .f64 p2.lo, .float .f64 p2.hi] from (ks hV40 K20 D37).out)
 have K47 := kf hV40 K21 D37 (by have := Y8.out; omega)
 have HB48 := hbs hV40 HB22 D37 (by have := Y8.out; omega)
 have D49 := dr V39
 clear K18 K19 K20 K21 HB22 D37
 go_simp
 clear hV40 f41 u42 hv43
 have hS50 : True ∧ CellsL V39 (g4) 0 (vl p0) := ⟨trivial, (kb K47 D49).cellsL 0 (vl p0) rfl⟩
 refine hK _ _ hS50 ?_
 clear hK K hS38
 refine wpAnyH_done (by kernel_rfl) ?_ _
 clear hS50
 go_wp2_with fail
 (try simp only [Exit.inBlock, Exit.then])
 exact bodyPost_ret (res_c rfl _ _ (w.heap.size + 1 + 1) #[.float .f64 p2.lo, .float .f64 p2.hi] rfl (kb K46 D49) (by rw [info_Span]; rfl) Tryz.underlying24 rfl) rfl ⟨rfl, below_step HB48.out D49.out⟩
end Go.Proofs.YtnljfcebmgifdaaGreat
