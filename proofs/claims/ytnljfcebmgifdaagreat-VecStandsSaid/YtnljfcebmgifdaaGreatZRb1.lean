/- Shaken: Tb Ta Za. -/
import Derived.Test.YtnljfcebmgifdaaGreatZRb
set_option maxRecDepth 100000
set_option maxHeartbeats 8000000
set_option linter.unusedVariables false
set_option linter.unusedSimpArgs false
namespace Go.Proofs.YtnljfcebmgifdaaGreat
open Go.RowKit Fl
theorem sqrV_any (a : V3) (w : World) : Calls Tryz.prog 61 #[Value.agg #[.float .f64 a.x.lo, .float .f64 a.x.hi, .float .f64 a.y.lo, .float .f64 a.y.hi, .float .f64 a.z.lo, .float .f64 a.z.hi]] w fun r w' => r = .returned (.agg #[.float .f64 (vSqr a).lo, .float .f64 (vSqr a).hi]) ∧ Below w.heap.size w w' := by
 have C0 := Lib.hid (fun w => sqr_sp a.x w)
 obtain ⟨p0, hp0⟩ : ∃ z_, sqrS a.x = z_ := ⟨_, rfl⟩
 rw [hp0] at C0
 have C1 := Lib.hid (fun w => sqr_sp a.y w)
 obtain ⟨p1, hp1⟩ : ∃ z_, sqrS a.y = z_ := ⟨_, rfl⟩
 rw [hp1] at C1
 have C2 := Lib.hid (fun w => add_sp p0 p1 w)
 obtain ⟨p2, hp2⟩ : ∃ z_, addS p0 p1 = z_ := ⟨_, rfl⟩
 rw [hp2] at C2
 have C3 := Lib.hid (fun w => sqr_sp a.z w)
 obtain ⟨p3, hp3⟩ : ∃ z_, sqrS a.z = z_ := ⟨_, rfl⟩
 rw [hp3] at C3
 have C4 := Lib.hid (fun w => add_sp p2 p3 w)
 obtain ⟨p4, hp4⟩ : ∃ z_, addS p2 p3 = z_ := ⟨_, rfl⟩
 rw [hp4] at C4
 have hT : vSqr a = p4 := by
   subst hp0 hp1 hp2 hp3 hp4; rfl
 rw [hT]
 clear hT
 clear hp0 hp1 hp2 hp3 hp4
 go_enter Tryz.func61, Tryz.ntmps61
 go_wp2_with fail
 obtain ⟨W, hW, K0, K1, hB, hz⟩ := bx2 w 26 24 (vc a) #[.float .f64 0, .float .f64 0]
 rw [← hW]
 have K0 := Lib.hid K0
 have K1 := Lib.hid K1
 have HB := Lib.hid hB
 clear hW hB hz
 have D1 := dr W
 refine wp_region_held (S := (fun w' => True ∧ CellsL w' (w.heap.size) 0 (vl a))) (by kernel_rfl) ?_
 change wpAnyH _ _ _ _ _ _ _ _ (World.drew _)
 obtain ⟨wd2, hwd⟩ : ∃ x, x = World.drew W := ⟨_, rfl⟩
 rw [← hwd]
 have D3 := Lib.hid (hwd ▸ Below.drew D1.out : Below W.heap.size W wd2)
 clear D1 hwd
 have hS4 : True ∧ CellsL wd2 (w.heap.size) 0 (vl a) := ⟨trivial, (kb K0 D3).cellsL 0 (vl a) rfl⟩
 refine tkq 0 (bm 12 1) hS4 ?_
 refine tke 1 (bm 12 3) hS4 ?_
 refine tkq 3 (bm 12 11) hS4 ?_
 refine tke 4 (bm 12 27) hS4 ?_
 refine tkq 7 (bm 12 155) hS4 ?_
 refine tke 8 (bm 12 411) hS4 ?_
 refine wpAnyH_oneN (i := 2) (l' := bm 12 415) rfl (by kernel_rfl) (by kernel_rfl) (by kernel_rfl) (fun K hK => ?_)
 go_simp
 go_at_call 69
 refine (C0.out _).mono ?_
 rintro r w11 ⟨rfl, hb⟩
 dsimp only
 have D12 := ds D3 hb
 clear D3
 clear hb
 have hS13 : True ∧ CellsL w11 (w.heap.size) 0 (vl a) := ⟨trivial, (kb K0 D12).cellsL 0 (vl a) rfl⟩
 refine hK _ _ hS13 ?_
 clear hK K hS4
 refine wpAnyH_oneN (i := 5) (l' := bm 12 447) rfl (by kernel_rfl) (by kernel_rfl) (by kernel_rfl) (fun K hK => ?_)
 go_simp
 go_at_call 69
 refine (C1.out _).mono ?_
 rintro r w14 ⟨rfl, hb⟩
 dsimp only
 have D15 := ds D12 hb
 clear D12
 clear hb
 have hS16 : True ∧ CellsL w14 (w.heap.size) 0 (vl a) := ⟨trivial, (kb K0 D15).cellsL 0 (vl a) rfl⟩
 refine hK _ _ hS16 ?_
 clear hK K hS13
 refine wpAnyH_oneN (i := 6) (l' := bm 12 511) rfl (by kernel_rfl) (by kernel_rfl) (by kernel_rfl) (fun K hK => ?_)
 go_simp
 go_at_call 67
 refine (C2.out _).mono ?_
 rintro r w17 ⟨rfl, hb⟩
 dsimp only
 have D18 := ds D15 hb
 clear D15
 clear hb
 have hS19 : True ∧ CellsL w17 (w.heap.size) 0 (vl a) := ⟨trivial, (kb K0 D18).cellsL 0 (vl a) rfl⟩
 refine hK _ _ hS19 ?_
 clear hK K hS16
 refine wpAnyH_oneN (i := 9) (l' := bm 12 1023) rfl (by kernel_rfl) (by kernel_rfl) (by kernel_rfl) (fun K hK => ?_)
 go_simp
 go_at_call 69
 refine (C3.out _).mono ?_
 rintro r w20 ⟨rfl, hb⟩
 dsimp only
 have D21 := ds D18 hb
 clear D18
 clear hb
 have hS22 : True ∧ CellsL w20 (w.heap.size) 0 (vl a) := ⟨trivial, (kb K0 D21).cellsL 0 (vl a) rfl⟩
 refine hK _ _ hS22 ?_
 clear hK K hS19
 refine wpAnyH_oneN (i := 10) (l' := bm 12 2047) rfl (by kernel_rfl) (by kernel_rfl) (by kernel_rfl) (fun K hK => ?_)
 go_simp
 go_at_call 67
 refine (C4.out _).mono ?_
 rintro r w23 ⟨rfl, hb⟩
 dsimp only
 have D24 := ds D21 hb
 clear D21
 clear hb
 have hS25 : True ∧ CellsL w23 (w.heap.size) 0 (vl a) := ⟨trivial, (kb K0 D24).cellsL 0 (vl a) rfl⟩
 refine hK _ _ hS25 ?_
 clear hK K hS22
 refine wpAnyH_oneN (i := 11) (l' := bm 12 4095) rfl (by kernel_rfl) (by kernel_rfl) (by kernel_rfl) (fun K hK => ?_)
 have f28 := (kb K1 D24).cellsL 0 [.float .f64 0, .float .f64 0] rfl
 dsimp only [CellsL, al, vl, Nat.reduceAdd] at f28
 have u29 := (kb K1 D24).unfrozen
 obtain ⟨V26, hV27⟩ : ∃ V, setCells w23 (w.heap.size + 1) 0 [.float .f64 p4.lo, .float .f64 p4.hi] = V := ⟨_, rfl⟩
 have hv30 := hV27
 simp only [setCells, Nat.reduceAdd] at hv30
 have K31 := kf hV27 K0 D24 (by omega)
 have K32 := Lib.hid (show Blk V26 (w.heap.size + 1) 24 #[.float .f64 p4.lo, .float .f64 p4.hi] from (ks hV27 K1 D24).out)
 have HB33 := hbs hV27 HB D24 (by omega)
 have D34 := dr V26
 clear K0 K1 HB D24
 go_simp
 clear hV27 f28 u29 hv30
 have hS35 : True ∧ CellsL V26 (w.heap.size) 0 (vl a) := ⟨trivial, (kb K31 D34).cellsL 0 (vl a) rfl⟩
 refine hK _ _ hS35 ?_
 clear hK K hS25
 refine wpAnyH_done (by kernel_rfl) ?_ _
 clear hS35
 go_wp2_with fail
 (try simp only [Exit.inBlock, Exit.then])
 exact bodyPost_ret (res_c rfl _ _ (w.heap.size + 1) #[.float .f64 p4.lo, .float .f64 p4.hi] rfl (kb K32 D34) (by rw [info_Span]; rfl) Tryz.underlying24 rfl) rfl ⟨rfl, below_step HB33.out D34.out⟩
theorem unitV_any (a : V3) (w : World) : Calls Tryz.prog 24 #[Value.agg #[.float .f64 a.x.lo, .float .f64 a.x.hi, .float .f64 a.y.lo, .float .f64 a.y.hi, .float .f64 a.z.lo, .float .f64 a.z.hi]] w fun r w' => r = .returned (.tuple #[vval (vUnit a), .agg #[.float .f64 (vLen a).lo, .float .f64 (vLen a).hi]]) ∧ Below w.heap.size w w' := by
 have C0 := Lib.hid (fun w => sqrV_any a w)
 obtain ⟨p0, hp0⟩ : ∃ z_, vSqr a = z_ := ⟨_, rfl⟩
 rw [hp0] at C0
 have C1 := Lib.hid (fun w => sqrt_sp p0 w)
 obtain ⟨p1, hp1⟩ : ∃ z_, sqrtS p0 = z_ := ⟨_, rfl⟩
 rw [hp1] at C1
 have C2 := Lib.hid (fun w => div_sp a.x p1 w)
 obtain ⟨p2, hp2⟩ : ∃ z_, divS a.x p1 = z_ := ⟨_, rfl⟩
 rw [hp2] at C2
 have C3 := Lib.hid (fun w => div_sp a.y p1 w)
 obtain ⟨p3, hp3⟩ : ∃ z_, divS a.y p1 = z_ := ⟨_, rfl⟩
 rw [hp3] at C3
 have C4 := Lib.hid (fun w => div_sp a.z p1 w)
 obtain ⟨p4, hp4⟩ : ∃ z_, divS a.z p1 = z_ := ⟨_, rfl⟩
 rw [hp4] at C4
 have hT0 : vUnit a = (⟨p2, p3, p4⟩ : V3) := by
   subst hp0 hp1 hp2 hp3 hp4; rfl
 have hT1 : vLen a = p1 := by
   subst hp0 hp1 hp2 hp3 hp4; rfl
 rw [hT0, hT1]
 clear hT0 hT1
 clear hp0 hp1 hp2 hp3 hp4
 go_enter Tryz.func24, Tryz.ntmps24
 go_wp2_with fail
 obtain ⟨W, hW, K0, K1, K2, hB, hz⟩ := bx3 w 26 26 24 (vc a) #[.float .f64 0, .float .f64 0, .float .f64 0, .float .f64 0, .float .f64 0, .float .f64 0] #[.float .f64 0, .float .f64 0]
 rw [← hW]
 have K0 := Lib.hid K0
 have K1 := Lib.hid K1
 have K2 := Lib.hid K2
 have HB := Lib.hid hB
 clear hW hB hz
 have D1 := dr W
 refine (C0.out _).mono ?_
 rintro r w2 ⟨rfl, hb⟩
 have D3 := ds D1 hb
 clear D1
 clear hb
 go_wp2_with fail
 refine (C1.out _).mono ?_
 rintro r w4 ⟨rfl, hb⟩
 have D5 := ds D3 hb
 clear D3
 clear hb
 obtain ⟨g6, hg8⟩ : ∃ g, w4.heap.size = g := ⟨_, rfl⟩
 have Y10 := Lib.hid (show w.heap.size + 1 + 1 < g6 by rw [← hg8]; exact (kb K2 D5).lt)
 obtain ⟨V7, hV9⟩ : ∃ V, w4.alloc (.cells #[.float .f64 0, .float .f64 0] 24) = V := ⟨_, rfl⟩
 have K11 := ka hV9 K0 D5
 have K12 := ka hV9 K1 D5
 have K13 := ka hV9 K2 D5
 have K14 := kn hV9 hg8
 have HB15 := hba hV9 HB D5
 have D16 := dr V7
 clear K0 K1 K2 HB D5
 have f19 := (kb K14 D16).cellsL 0 [.float .f64 0, .float .f64 0] rfl
 dsimp only [CellsL, al, vl, Nat.reduceAdd] at f19
 have u20 := (kb K14 D16).unfrozen
 obtain ⟨V17, hV18⟩ : ∃ V, setCells V7 (g6) 0 [.float .f64 p1.lo, .float .f64 p1.hi] = V := ⟨_, rfl⟩
 have hv21 := hV18
 simp only [setCells, Nat.reduceAdd] at hv21
 have K22 := kf hV18 K11 D16 (by have := Y10.out; omega)
 have K23 := kf hV18 K12 D16 (by have := Y10.out; omega)
 have K24 := kf hV18 K13 D16 (by have := Y10.out; omega)
 have K25 := Lib.hid (show Blk V17 (g6) 24 #[.float .f64 p1.lo, .float .f64 p1.hi] from (ks hV18 K14 D16).out)
 have HB26 := hbs hV18 HB15 D16 (by have := Y10.out; omega)
 have D27 := dr V17
 clear K11 K12 K13 K14 HB15 D16
 go_wp2_with fail
 clear hg8 hV9 hV18 f19 u20 hv21
 refine wp_region_held (S := (fun w' => True ∧ CellsL w' (w.heap.size) 0 (vl a) ∧ CellsL w' (g6) 0 [.float .f64 p1.lo, .float .f64 p1.hi])) (by kernel_rfl) ?_
 change wpAnyH _ _ _ _ _ _ _ _ (World.drew _)
 obtain ⟨wd28, hwd⟩ : ∃ x, x = World.drew V17 := ⟨_, rfl⟩
 rw [← hwd]
 have D29 := Lib.hid (hwd ▸ Below.drew D27.out : Below V17.heap.size V17 wd28)
 clear D27 hwd
 have hS30 : True ∧ CellsL wd28 (w.heap.size) 0 (vl a) ∧ CellsL wd28 (g6) 0 [.float .f64 p1.lo, .float .f64 p1.hi] := ⟨trivial, (kb K22 D29).cellsL 0 (vl a) rfl, (kb K25 D29).cellsL 0 [.float .f64 p1.lo, .float .f64 p1.hi] rfl⟩
 refine tkq 0 (bm 16 1) hS30 ?_
 refine tke 1 (bm 16 3) hS30 ?_
 refine tke 2 (bm 16 7) hS30 ?_
 refine tkq 4 (bm 16 23) hS30 ?_
 refine tke 5 (bm 16 55) hS30 ?_
 refine tke 6 (bm 16 119) hS30 ?_
 refine tkq 8 (bm 16 375) hS30 ?_
 refine tke 9 (bm 16 887) hS30 ?_
 refine tke 10 (bm 16 1911) hS30 ?_
 refine tke 13 (bm 16 10103) hS30 ?_
 refine wpAnyH_oneN (i := 3) (l' := bm 16 10111) rfl (by kernel_rfl) (by kernel_rfl) (by kernel_rfl) (fun K hK => ?_)
 go_simp
 go_at_call 45
 refine (C2.out _).mono ?_
 rintro r w41 ⟨rfl, hb⟩
 dsimp only
 have D42 := ds D29 hb
 clear D29
 clear hb
 have hS43 : True ∧ CellsL w41 (w.heap.size) 0 (vl a) ∧ CellsL w41 (g6) 0 [.float .f64 p1.lo, .float .f64 p1.hi] := ⟨trivial, (kb K22 D42).cellsL 0 (vl a) rfl, (kb K25 D42).cellsL 0 [.float .f64 p1.lo, .float .f64 p1.hi] rfl⟩
 refine hK _ _ hS43 ?_
 clear hK K hS30
 refine wpAnyH_oneN (i := 7) (l' := bm 16 10239) rfl (by kernel_rfl) (by kernel_rfl) (by kernel_rfl) (fun K hK => ?_)
 go_simp
 go_at_call 45
 refine (C3.out _).mono ?_
 rintro r w44 ⟨rfl, hb⟩
 dsimp only
 have D45 := ds D42 hb
 clear D42
 clear hb
 have hS46 : True ∧ CellsL w44 (w.heap.size) 0 (vl a) ∧ CellsL w44 (g6) 0 [.float .f64 p1.lo, .float .f64 p1.hi] := ⟨trivial, (kb K22 D45).cellsL 0 (vl a) rfl, (kb K25 D45).cellsL 0 [.float .f64 p1.lo, .float .f64 p1.hi] rfl⟩
 refine hK _ _ hS46 ?_
 clear hK K hS43
 refine wpAnyH_oneN (i := 11) (l' := bm 16 12287) rfl (by kernel_rfl) (by kernel_rfl) (by kernel_rfl) (fun K hK => ?_)
 go_simp
 go_at_call 45
 refine (C4.out _).mono ?_
 rintro r w47 ⟨rfl, hb⟩
 dsimp only
 have D48 := ds D45 hb
 clear D45
 clear hb
 have hS49 : True ∧ CellsL w47 (w.heap.size) 0 (vl a) ∧ CellsL w47 (g6) 0 [.float .f64 p1.lo, .float .f64 p1.hi] := ⟨trivial, (kb K22 D48).cellsL 0 (vl a) rfl, (kb K25 D48).cellsL 0 [.float .f64 p1.lo, .float .f64 p1.hi] rfl⟩
 refine hK _ _ hS49 ?_
 clear hK K hS46
 refine tkq 12 (bm 16 16383) hS49 ?_
 refine wpAnyH_oneN (i := 14) (l' := bm 16 32767) rfl (by kernel_rfl) (by kernel_rfl) (by kernel_rfl) (fun K hK => ?_)
 have f53 := (kb K23 D48)
 obtain ⟨V51, hV52⟩ : ∃ V, World.setRow w47 (w.heap.size + 1) #[.float .f64 p2.lo, .float .f64 p2.hi, .float .f64 p3.lo, .float .f64 p3.hi, .float .f64 p4.lo, .float .f64 p4.hi] = V := ⟨_, rfl⟩
 have K54 := kfr hV52 K22 D48 (by have := Y10.out; omega)
 have K55 := ksr hV52 K23 D48
 have K56 := kfr hV52 K24 D48 (by have := Y10.out; omega)
 have K57 := kfr hV52 K25 D48 (by have := Y10.out; omega)
 have HB58 := hbr hV52 HB26 D48 (by have := Y10.out; omega)
 have D59 := dr V51
 clear K22 K23 K24 K25 HB26 D48
 refine wp_store_row 26 _ _ rfl (w.heap.size + 1) #[.float .f64 p2.lo, .float .f64 p2.hi, .float .f64 p3.lo, .float .f64 p3.hi, .float .f64 p4.lo, .float .f64 p4.hi] rfl rfl _ _ f53 (by rw [info_V3]; rfl) rfl (by kernel_rfl) ?_
 rw [hV52]
 go_simp
 clear hV52 f53
 have hS60 : True ∧ CellsL V51 (w.heap.size) 0 (vl a) ∧ CellsL V51 (g6) 0 [.float .f64 p1.lo, .float .f64 p1.hi] := ⟨trivial, (kb K54 D59).cellsL 0 (vl a) rfl, (kb K57 D59).cellsL 0 [.float .f64 p1.lo, .float .f64 p1.hi] rfl⟩
 refine hK _ _ hS60 ?_
 clear hK K hS49
 refine wpAnyH_oneN (i := 15) (l' := bm 16 65535) rfl (by kernel_rfl) (by kernel_rfl) (by kernel_rfl) (fun K hK => ?_)
 have f63 := (kb K56 D59).cellsL 0 [.float .f64 0, .float .f64 0] rfl
 dsimp only [CellsL, al, vl, Nat.reduceAdd] at f63
 have u64 := (kb K56 D59).unfrozen
 obtain ⟨V61, hV62⟩ : ∃ V, setCells V51 (w.heap.size + 1 + 1) 0 [.float .f64 p1.lo, .float .f64 p1.hi] = V := ⟨_, rfl⟩
 have hv65 := hV62
 simp only [setCells, Nat.reduceAdd] at hv65
 have K66 := kf hV62 K54 D59 (by have := Y10.out; omega)
 have K67 := kf hV62 K55 D59 (by have := Y10.out; omega)
 have K68 := Lib.hid (show Blk V61 (w.heap.size + 1 + 1) 24 #[.float .f64 p1.lo, .float .f64 p1.hi] from (ks hV62 K56 D59).out)
 have K69 := kf hV62 K57 D59 (by have := Y10.out; omega)
 have HB70 := hbs hV62 HB58 D59 (by have := Y10.out; omega)
 have D71 := dr V61
 clear K54 K55 K56 K57 HB58 D59
 go_simp
 clear hV62 f63 u64 hv65
 have hS72 : True ∧ CellsL V61 (w.heap.size) 0 (vl a) ∧ CellsL V61 (g6) 0 [.float .f64 p1.lo, .float .f64 p1.hi] := ⟨trivial, (kb K66 D71).cellsL 0 (vl a) rfl, (kb K69 D71).cellsL 0 [.float .f64 p1.lo, .float .f64 p1.hi] rfl⟩
 refine hK _ _ hS72 ?_
 clear hK K hS60
 refine wpAnyH_done (by kernel_rfl) ?_ _
 clear hS72
 go_wp2_with fail
 (try simp only [Exit.inBlock, Exit.then])
 exact bodyPost_ret (res_cc rfl _ _ (w.heap.size + 1) #[.float .f64 p2.lo, .float .f64 p2.hi, .float .f64 p3.lo, .float .f64 p3.hi, .float .f64 p4.lo, .float .f64 p4.hi] (w.heap.size + 1 + 1) #[.float .f64 p1.lo, .float .f64 p1.hi] rfl (kb K67 D71) (by rw [info_V3]; rfl) Tryz.underlying26 rfl rfl (kb K68 D71) (by rw [info_Span]; rfl) Tryz.underlying24 rfl) rfl ⟨rfl, below_step HB70.out D71.out⟩
end Go.Proofs.YtnljfcebmgifdaaGreat
set_option linter.unusedVariables false
set_option linter.unusedSimpArgs false
namespace Go.Proofs.YtnljfcebmgifdaaGreat
open Go.RowKit Fl
theorem rsqrV_any (a : V3) (w : World) : Calls Tryz.prog 63 #[Value.agg #[.float .f64 a.x.lo, .float .f64 a.x.hi, .float .f64 a.y.lo, .float .f64 a.y.hi, .float .f64 a.z.lo, .float .f64 a.z.hi]] w fun r w' => r = .returned (.agg #[.float .f64 (vSqr a).lo, .float .f64 (vSqr a).hi]) ∧ Below w.heap.size w w' := by
 have C0 := Lib.hid (fun w => rsqr_sp a.x w)
 obtain ⟨p0, hp0⟩ : ∃ z_, sqrS a.x = z_ := ⟨_, rfl⟩
 rw [hp0] at C0
 have C1 := Lib.hid (fun w => rsqr_sp a.y w)
 obtain ⟨p1, hp1⟩ : ∃ z_, sqrS a.y = z_ := ⟨_, rfl⟩
 rw [hp1] at C1
 have C2 := Lib.hid (fun w => rsqr_sp a.z w)
 obtain ⟨p2, hp2⟩ : ∃ z_, sqrS a.z = z_ := ⟨_, rfl⟩
 rw [hp2] at C2
 have C3 := Lib.hid (fun w => rsumV_any (⟨p0, p1, p2⟩ : V3) w)
 obtain ⟨p3, hp3⟩ : ∃ z_, vSum (⟨p0, p1, p2⟩ : V3) = z_ := ⟨_, rfl⟩
 rw [hp3] at C3
 have hT : vSqr a = p3 := by
   subst hp0 hp1 hp2 hp3; rfl
 rw [hT]
 clear hT
 clear hp0 hp1 hp2 hp3
 go_enter Tryz.func63, Tryz.ntmps63
 go_wp2_with fail
 obtain ⟨W, hW, K0, K1, hB, hz⟩ := bx2 w 26 24 (vc a) #[.float .f64 0, .float .f64 0]
 rw [← hW]
 have K0 := Lib.hid K0
 have K1 := Lib.hid K1
 have HB := Lib.hid hB
 clear hW hB hz
 have D1 := dr W
 refine wp_region_held (S := (fun w' => True ∧ CellsL w' (w.heap.size) 0 (vl a))) (by kernel_rfl) ?_
 change wpAnyH _ _ _ _ _ _ _ _ (World.drew _)
 obtain ⟨wd2, hwd⟩ : ∃ x, x = World.drew W := ⟨_, rfl⟩
 rw [← hwd]
 have D3 := Lib.hid (hwd ▸ Below.drew D1.out : Below W.heap.size W wd2)
 clear D1 hwd
 have hS4 : True ∧ CellsL wd2 (w.heap.size) 0 (vl a) := ⟨trivial, (kb K0 D3).cellsL 0 (vl a) rfl⟩
 refine tkq 0 (bm 12 1) hS4 ?_
 refine tke 1 (bm 12 3) hS4 ?_
 refine tkq 3 (bm 12 11) hS4 ?_
 refine tke 4 (bm 12 27) hS4 ?_
 refine tkq 6 (bm 12 91) hS4 ?_
 refine tke 7 (bm 12 219) hS4 ?_
 refine wpAnyH_oneN (i := 2) (l' := bm 12 223) rfl (by kernel_rfl) (by kernel_rfl) (by kernel_rfl) (fun K hK => ?_)
 go_simp
 go_at_call 76
 refine (C0.out _).mono ?_
 rintro r w11 ⟨rfl, hb⟩
 dsimp only
 have D12 := ds D3 hb
 clear D3
 clear hb
 have hS13 : True ∧ CellsL w11 (w.heap.size) 0 (vl a) := ⟨trivial, (kb K0 D12).cellsL 0 (vl a) rfl⟩
 refine hK _ _ hS13 ?_
 clear hK K hS4
 refine wpAnyH_oneN (i := 5) (l' := bm 12 255) rfl (by kernel_rfl) (by kernel_rfl) (by kernel_rfl) (fun K hK => ?_)
 go_simp
 go_at_call 76
 refine (C1.out _).mono ?_
 rintro r w14 ⟨rfl, hb⟩
 dsimp only
 have D15 := ds D12 hb
 clear D12
 clear hb
 have hS16 : True ∧ CellsL w14 (w.heap.size) 0 (vl a) := ⟨trivial, (kb K0 D15).cellsL 0 (vl a) rfl⟩
 refine hK _ _ hS16 ?_
 clear hK K hS13
 refine wpAnyH_oneN (i := 8) (l' := bm 12 511) rfl (by kernel_rfl) (by kernel_rfl) (by kernel_rfl) (fun K hK => ?_)
 go_simp
 go_at_call 76
 refine (C2.out _).mono ?_
 rintro r w17 ⟨rfl, hb⟩
 dsimp only
 have D18 := ds D15 hb
 clear D15
 clear hb
 have hS19 : True ∧ CellsL w17 (w.heap.size) 0 (vl a) := ⟨trivial, (kb K0 D18).cellsL 0 (vl a) rfl⟩
 refine hK _ _ hS19 ?_
 clear hK K hS16
 refine tkq 9 (bm 12 1023) hS19 ?_
 refine wpAnyH_oneN (i := 10) (l' := bm 12 2047) rfl (by kernel_rfl) (by kernel_rfl) (by kernel_rfl) (fun K hK => ?_)
 go_simp
 go_at_call 95
 refine (C3.out _).mono ?_
 rintro r w21 ⟨rfl, hb⟩
 dsimp only
 have D22 := ds D18 hb
 clear D18
 clear hb
 have hS23 : True ∧ CellsL w21 (w.heap.size) 0 (vl a) := ⟨trivial, (kb K0 D22).cellsL 0 (vl a) rfl⟩
 refine hK _ _ hS23 ?_
 clear hK K hS19
 refine wpAnyH_oneN (i := 11) (l' := bm 12 4095) rfl (by kernel_rfl) (by kernel_rfl) (by kernel_rfl) (fun K hK => ?_)
 have f26 := (kb K1 D22).cellsL 0 [.float .f64 0, .float .f64 0] rfl
 dsimp only [CellsL, al, vl, Nat.reduceAdd] at f26
 have u27 := (kb K1 D22).unfrozen
 obtain ⟨V24, hV25⟩ : ∃ V, setCells w21 (w.heap.size + 1) 0 [.float .f64 p3.lo, .float .f64 p3.hi] = V := ⟨_, rfl⟩
 have hv28 := hV25
 simp only [setCells, Nat.reduceAdd] at hv28
 have K29 := kf hV25 K0 D22 (by omega)
 have K30 := Lib.hid (show Blk V24 (w.heap.size + 1) 24 #[.float .f64 p3.lo, .float .f64 p3.hi] from (ks hV25 K1 D22).out)
 have HB31 := hbs hV25 HB D22 (by omega)
 have D32 := dr V24
 clear K0 K1 HB D22
 go_simp
 clear hV25 f26 u27 hv28
 have hS33 : True ∧ CellsL V24 (w.heap.size) 0 (vl a) := ⟨trivial, (kb K29 D32).cellsL 0 (vl a) rfl⟩
 refine hK _ _ hS33 ?_
 clear hK K hS23
 refine wpAnyH_done (by kernel_rfl) ?_ _
 clear hS33
 go_wp2_with fail
 (try simp only [Exit.inBlock, Exit.then])
 exact bodyPost_ret (res_c rfl _ _ (w.heap.size + 1) #[.float .f64 p3.lo, .float .f64 p3.hi] rfl (kb K30 D32) (by rw [info_Span]; rfl) Tryz.underlying24 rfl) rfl ⟨rfl, below_step HB31.out D32.out⟩
theorem rall3_any (s : Sp) (w : World) : Calls Tryz.prog 113 #[Value.agg #[.float .f64 s.lo, .float .f64 s.hi]] w fun r w' => r = .returned (vval ⟨s, s, s⟩) ∧ Below w.heap.size w w' := by
 go_enter Tryz.func113, Tryz.ntmps113
 go_wp2_with (refine wpList_store_row rfl 26 _ _ rfl (w.heap.size + 1) #[.float .f64 s.lo, .float .f64 s.hi, .float .f64 s.lo, .float .f64 s.hi, .float .f64 s.lo, .float .f64 s.hi] rfl rfl _ _ (Blk.new_at _ _ _ (by simp)) (by rw [info_V3]; rfl) rfl (by kernel_rfl) ?_)
 (try simp only [Exit.inBlock, Exit.then])
 exact bodyPost_ret (res_c rfl _ _ (w.heap.size + 1) #[.float .f64 s.lo, .float .f64 s.hi, .float .f64 s.lo, .float .f64 s.hi, .float .f64 s.lo, .float .f64 s.hi] rfl ((Blk.new_at _ _ _ (by simp)).setRow _) (by rw [info_V3]; rfl) Tryz.underlying26 rfl) rfl ⟨rfl, (Below.setRow (((Below.refl _ w).alloc (Nat.le_refl _) _).alloc (by simp) _) (by omega))⟩
theorem rscaleV_any (a : V3) (s : Sp) (w : World) : Calls Tryz.prog 80 #[Value.agg #[.float .f64 a.x.lo, .float .f64 a.x.hi, .float .f64 a.y.lo, .float .f64 a.y.hi, .float .f64 a.z.lo, .float .f64 a.z.hi], Value.agg #[.float .f64 s.lo, .float .f64 s.hi]] w fun r w' => r = .returned (vval (vMul a ⟨s, s, s⟩)) ∧ Below w.heap.size w w' := by
 have C0 := Lib.hid (fun w => rall3_any s w)
 have C1 := Lib.hid (fun w => rmulV_any a (⟨s, s, s⟩ : V3) w)
 obtain ⟨p1, hp1⟩ : ∃ z_, vMul a (⟨s, s, s⟩ : V3) = z_ := ⟨_, rfl⟩
 rw [hp1] at C1
 have hT : vMul a ⟨s, s, s⟩ = p1 := by
   subst hp1; rfl
 rw [hT]
 clear hT
 clear hp1
 go_enter Tryz.func80, Tryz.ntmps80
 go_wp2_with fail
 obtain ⟨W, hW, K0, K1, K2, hB, hz⟩ := bx3 w 26 24 26 (vc a) #[.float .f64 s.lo, .float .f64 s.hi] #[.float .f64 0, .float .f64 0, .float .f64 0, .float .f64 0, .float .f64 0, .float .f64 0]
 rw [← hW]
 have K0 := Lib.hid K0
 have K1 := Lib.hid K1
 have K2 := Lib.hid K2
 have HB := Lib.hid hB
 clear hW hB hz
 have D1 := dr W
 refine wp_region_held (S := (fun w' => True ∧ Blk w' (w.heap.size) 26 (vc a) ∧ CellsL w' (w.heap.size + 1) 0 [.float .f64 s.lo, .float .f64 s.hi])) (by kernel_rfl) ?_
 change wpAnyH _ _ _ _ _ _ _ _ (World.drew _)
 obtain ⟨wd2, hwd⟩ : ∃ x, x = World.drew W := ⟨_, rfl⟩
 rw [← hwd]
 have D3 := Lib.hid (hwd ▸ Below.drew D1.out : Below W.heap.size W wd2)
 clear D1 hwd
 have hS4 : True ∧ Blk wd2 (w.heap.size) 26 (vc a) ∧ CellsL wd2 (w.heap.size + 1) 0 [.float .f64 s.lo, .float .f64 s.hi] := ⟨trivial, (kb K0 D3), (kb K1 D3).cellsL 0 [.float .f64 s.lo, .float .f64 s.hi] rfl⟩
 refine tkL 0 (bm 5 1) ?aq5 rfl (by kernel_rfl) (fun _ _ _ h => h) (by kernel_rfl) rfl rfl (fun _ hS => hS.2.1) (by rw [info_V3]; rfl) Tryz.underlying26 rfl ?pq5 hS4 ?rq5
 case pq5 => (go_simp; try with_reducible rfl)
 refine tke 1 (bm 5 3) hS4 ?_
 refine wpAnyH_oneN (i := 2) (l' := bm 5 7) rfl (by kernel_rfl) (by kernel_rfl) (by kernel_rfl) (fun K hK => ?_)
 go_simp
 go_at_call 113
 refine (C0.out _).mono ?_
 rintro r w7 ⟨rfl, hb⟩
 dsimp only
 have D8 := ds D3 hb
 clear D3
 clear hb
 have hS9 : True ∧ Blk w7 (w.heap.size) 26 (vc a) ∧ CellsL w7 (w.heap.size + 1) 0 [.float .f64 s.lo, .float .f64 s.hi] := ⟨trivial, (kb K0 D8), (kb K1 D8).cellsL 0 [.float .f64 s.lo, .float .f64 s.hi] rfl⟩
 refine hK _ _ hS9 ?_
 clear hK K hS4
 refine wpAnyH_oneN (i := 3) (l' := bm 5 15) rfl (by kernel_rfl) (by kernel_rfl) (by kernel_rfl) (fun K hK => ?_)
 go_simp
 go_at_call 96
 refine (C1.out _).mono ?_
 rintro r w10 ⟨rfl, hb⟩
 dsimp only
 have D11 := ds D8 hb
 clear D8
 clear hb
 have hS12 : True ∧ Blk w10 (w.heap.size) 26 (vc a) ∧ CellsL w10 (w.heap.size + 1) 0 [.float .f64 s.lo, .float .f64 s.hi] := ⟨trivial, (kb K0 D11), (kb K1 D11).cellsL 0 [.float .f64 s.lo, .float .f64 s.hi] rfl⟩
 refine hK _ _ hS12 ?_
 clear hK K hS9
 refine wpAnyH_oneN (i := 4) (l' := bm 5 31) rfl (by kernel_rfl) (by kernel_rfl) (by kernel_rfl) (fun K hK => ?_)
 have f15 := (kb K2 D11)
 obtain ⟨V13, hV14⟩ : ∃ V, World.setRow w10 (w.heap.size + 1 + 1) (vc p1) = V := ⟨_, rfl⟩
 have K16 := kfr hV14 K0 D11 (by omega)
 have K17 := kfr hV14 K1 D11 (by omega)
 have K18 := ksr hV14 K2 D11
 have HB19 := hbr hV14 HB D11 (by omega)
 have D20 := dr V13
 clear K0 K1 K2 HB D11
 refine wp_store_row 26 _ _ rfl (w.heap.size + 1 + 1) (vc p1) rfl rfl _ _ f15 (by rw [info_V3]; rfl) rfl (by kernel_rfl) ?_
 rw [hV14]
 go_simp
 clear hV14 f15
 have hS21 : True ∧ Blk V13 (w.heap.size) 26 (vc a) ∧ CellsL V13 (w.heap.size + 1) 0 [.float .f64 s.lo, .float .f64 s.hi] := ⟨trivial, (kb K16 D20), (kb K17 D20).cellsL 0 [.float .f64 s.lo, .float .f64 s.hi] rfl⟩
 refine hK _ _ hS21 ?_
 clear hK K hS12
 refine wpAnyH_done (by kernel_rfl) ?_ _
 clear hS21
 go_wp2_with fail
 (try simp only [Exit.inBlock, Exit.then])
 exact bodyPost_ret (res_c rfl _ _ (w.heap.size + 1 + 1) (vc p1) rfl (kb K18 D20) (by rw [info_V3]; rfl) Tryz.underlying26 rfl) rfl ⟨rfl, below_step HB19.out D20.out⟩
end Go.Proofs.YtnljfcebmgifdaaGreat
set_option linter.unusedVariables false
set_option linter.unusedSimpArgs false
namespace Go.Proofs.YtnljfcebmgifdaaGreat
open Go.RowKit Fl
theorem roverV_any (a : V3) (s : Sp) (w : World) : Calls Tryz.prog 48 #[Value.agg #[.float .f64 a.x.lo, .float .f64 a.x.hi, .float .f64 a.y.lo, .float .f64 a.y.hi, .float .f64 a.z.lo, .float .f64 a.z.hi], Value.agg #[.float .f64 s.lo, .float .f64 s.hi]] w fun r w' => r = .returned (vval (vOver a s)) ∧ Below w.heap.size w w' := by
 have C0 := Lib.hid (fun w => rdiv_sp a.x s w)
 obtain ⟨p0, hp0⟩ : ∃ z_, divS a.x s = z_ := ⟨_, rfl⟩
 rw [hp0] at C0
 have C1 := Lib.hid (fun w => rdiv_sp a.y s w)
 obtain ⟨p1, hp1⟩ : ∃ z_, divS a.y s = z_ := ⟨_, rfl⟩
 rw [hp1] at C1
 have C2 := Lib.hid (fun w => rdiv_sp a.z s w)
 obtain ⟨p2, hp2⟩ : ∃ z_, divS a.z s = z_ := ⟨_, rfl⟩
 rw [hp2] at C2
 have hT : vOver a s = (⟨p0, p1, p2⟩ : V3) := by
   subst hp0 hp1 hp2; rfl
 rw [hT]
 clear hT
 clear hp0 hp1 hp2
 go_enter Tryz.func48, Tryz.ntmps48
 go_wp2_with fail
 obtain ⟨W, hW, K0, K1, K2, hB, hz⟩ := bx3 w 26 24 26 (vc a) #[.float .f64 s.lo, .float .f64 s.hi] #[.float .f64 0, .float .f64 0, .float .f64 0, .float .f64 0, .float .f64 0, .float .f64 0]
 rw [← hW]
 have K0 := Lib.hid K0
 have K1 := Lib.hid K1
 have K2 := Lib.hid K2
 have HB := Lib.hid hB
 clear hW hB hz
 have D1 := dr W
 refine wp_region_held (S := (fun w' => True ∧ CellsL w' (w.heap.size) 0 (vl a) ∧ CellsL w' (w.heap.size + 1) 0 [.float .f64 s.lo, .float .f64 s.hi])) (by kernel_rfl) ?_
 change wpAnyH _ _ _ _ _ _ _ _ (World.drew _)
 obtain ⟨wd2, hwd⟩ : ∃ x, x = World.drew W := ⟨_, rfl⟩
 rw [← hwd]
 have D3 := Lib.hid (hwd ▸ Below.drew D1.out : Below W.heap.size W wd2)
 clear D1 hwd
 have HS5 := Lib.hid (show ∀ w', Below W.heap.size W w' → (True ∧ CellsL w' (w.heap.size) 0 (vl a) ∧ CellsL w' (w.heap.size + 1) 0 [.float .f64 s.lo, .float .f64 s.hi]) from fun w' b => ⟨trivial, (K0.out.below b K0.out.lt).cellsL 0 (vl a) rfl, (K1.out.below b K1.out.lt).cellsL 0 [.float .f64 s.lo, .float .f64 s.hi] rfl⟩)
 have hS4 := HS5.out _ D3.out
 refine tkq 0 (bm 14 1) hS4 ?_
 refine tke 1 (bm 14 3) hS4 ?_
 refine tke 2 (bm 14 7) hS4 ?_
 refine tkq 4 (bm 14 23) hS4 ?_
 refine tke 5 (bm 14 55) hS4 ?_
 refine tke 6 (bm 14 119) hS4 ?_
 refine tkq 8 (bm 14 375) hS4 ?_
 refine tke 9 (bm 14 887) hS4 ?_
 refine tke 10 (bm 14 1911) hS4 ?_
 refine wpAnyH_oneN (i := 3) (l' := bm 14 1919) rfl (by kernel_rfl) (by kernel_rfl) (by kernel_rfl) (fun K hK => ?_)
 go_simp
 go_at_call 73
 refine (C0.out _).mono ?_
 rintro r w15 ⟨rfl, hb⟩
 dsimp only
 have D16 := ds D3 hb
 clear D3
 clear hb
 have hS17 := HS5.out _ D16.out
 refine hK _ _ hS17 ?_
 clear hK K hS4
 refine wpAnyH_oneN (i := 7) (l' := bm 14 2047) rfl (by kernel_rfl) (by kernel_rfl) (by kernel_rfl) (fun K hK => ?_)
 go_simp
 go_at_call 73
 refine (C1.out _).mono ?_
 rintro r w18 ⟨rfl, hb⟩
 dsimp only
 have D19 := ds D16 hb
 clear D16
 clear hb
 have hS20 := HS5.out _ D19.out
 refine hK _ _ hS20 ?_
 clear hK K hS17
 refine wpAnyH_oneN (i := 11) (l' := bm 14 4095) rfl (by kernel_rfl) (by kernel_rfl) (by kernel_rfl) (fun K hK => ?_)
 go_simp
 go_at_call 73
 refine (C2.out _).mono ?_
 rintro r w21 ⟨rfl, hb⟩
 dsimp only
 have D22 := ds D19 hb
 clear D19
 clear hb
 have hS23 := HS5.out _ D22.out
 refine hK _ _ hS23 ?_
 clear hK K hS20
 refine tkq 12 (bm 14 8191) hS23 ?_
 refine wpAnyH_oneN (i := 13) (l' := bm 14 16383) rfl (by kernel_rfl) (by kernel_rfl) (by kernel_rfl) (fun K hK => ?_)
 have f27 := (kb K2 D22)
 obtain ⟨V25, hV26⟩ : ∃ V, World.setRow w21 (w.heap.size + 1 + 1) #[.float .f64 p0.lo, .float .f64 p0.hi, .float .f64 p1.lo, .float .f64 p1.hi, .float .f64 p2.lo, .float .f64 p2.hi] = V := ⟨_, rfl⟩
 have K28 := kfr hV26 K0 D22 (by omega)
 have K29 := kfr hV26 K1 D22 (by omega)
 have K30 := ksr hV26 K2 D22
 have HB31 := hbr hV26 HB D22 (by omega)
 have D32 := dr V25
 clear K0 K1 K2 HB D22
 refine wp_store_row 26 _ _ rfl (w.heap.size + 1 + 1) #[.float .f64 p0.lo, .float .f64 p0.hi, .float .f64 p1.lo, .float .f64 p1.hi, .float .f64 p2.lo, .float .f64 p2.hi] rfl rfl _ _ f27 (by rw [info_V3]; rfl) rfl (by kernel_rfl) ?_
 rw [hV26]
 go_simp
 clear hV26 f27
 have hS33 : True ∧ CellsL V25 (w.heap.size) 0 (vl a) ∧ CellsL V25 (w.heap.size + 1) 0 [.float .f64 s.lo, .float .f64 s.hi] := ⟨trivial, (kb K28 D32).cellsL 0 (vl a) rfl, (kb K29 D32).cellsL 0 [.float .f64 s.lo, .float .f64 s.hi] rfl⟩
 refine hK _ _ hS33 ?_
 clear hK K hS23
 refine wpAnyH_done (by kernel_rfl) ?_ _
 clear hS33
 go_wp2_with fail
 (try simp only [Exit.inBlock, Exit.then])
 exact bodyPost_ret (res_c rfl _ _ (w.heap.size + 1 + 1) #[.float .f64 p0.lo, .float .f64 p0.hi, .float .f64 p1.lo, .float .f64 p1.hi, .float .f64 p2.lo, .float .f64 p2.hi] rfl (kb K30 D32) (by rw [info_V3]; rfl) Tryz.underlying26 rfl) rfl ⟨rfl, below_step HB31.out D32.out⟩
theorem runitV_any (a : V3) (w : World) : Calls Tryz.prog 25 #[Value.agg #[.float .f64 a.x.lo, .float .f64 a.x.hi, .float .f64 a.y.lo, .float .f64 a.y.hi, .float .f64 a.z.lo, .float .f64 a.z.hi]] w fun r w' => r = .returned (.tuple #[vval (vUnit a), .agg #[.float .f64 (vLen a).lo, .float .f64 (vLen a).hi]]) ∧ Below w.heap.size w w' := by
 have C0 := Lib.hid (fun w => rsqrV_any a w)
 obtain ⟨p0, hp0⟩ : ∃ z_, vSqr a = z_ := ⟨_, rfl⟩
 rw [hp0] at C0
 have C1 := Lib.hid (fun w => rsqrt_sp p0 w)
 obtain ⟨p1, hp1⟩ : ∃ z_, sqrtS p0 = z_ := ⟨_, rfl⟩
 rw [hp1] at C1
 have C2 := Lib.hid (fun w => roverV_any a p1 w)
 obtain ⟨p2, hp2⟩ : ∃ z_, vOver a p1 = z_ := ⟨_, rfl⟩
 rw [hp2] at C2
 have hT0 : vUnit a = p2 := by
   subst hp0 hp1 hp2; rfl
 have hT1 : vLen a = p1 := by
   subst hp0 hp1 hp2; rfl
 rw [hT0, hT1]
 clear hT0 hT1
 clear hp0 hp1 hp2
 go_enter Tryz.func25, Tryz.ntmps25
 go_wp2_with fail
 obtain ⟨W, hW, K0, K1, K2, hB, hz⟩ := bx3 w 26 26 24 (vc a) #[.float .f64 0, .float .f64 0, .float .f64 0, .float .f64 0, .float .f64 0, .float .f64 0] #[.float .f64 0, .float .f64 0]
 rw [← hW]
 have K0 := Lib.hid K0
 have K1 := Lib.hid K1
 have K2 := Lib.hid K2
 have HB := Lib.hid hB
 clear hW hB hz
 have D1 := dr W
 refine (C0.out _).mono ?_
 rintro r w2 ⟨rfl, hb⟩
 have D3 := ds D1 hb
 clear D1
 clear hb
 go_wp2_with fail
 refine (C1.out _).mono ?_
 rintro r w4 ⟨rfl, hb⟩
 have D5 := ds D3 hb
 clear D3
 clear hb
 obtain ⟨g6, hg8⟩ : ∃ g, w4.heap.size = g := ⟨_, rfl⟩
 have Y10 := Lib.hid (show w.heap.size < g6 ∧ w.heap.size + 1 < g6 ∧ w.heap.size + 1 + 1 < g6 by rw [← hg8]; exact ⟨(kb K0 D5).lt, (kb K1 D5).lt, (kb K2 D5).lt⟩)
 obtain ⟨V7, hV9⟩ : ∃ V, w4.alloc (.cells #[.float .f64 0, .float .f64 0] 24) = V := ⟨_, rfl⟩
 have K11 := ka hV9 K0 D5
 have K12 := ka hV9 K1 D5
 have K13 := ka hV9 K2 D5
 have K14 := kn hV9 hg8
 have HB15 := hba hV9 HB D5
 have D16 := dr V7
 clear K0 K1 K2 HB D5
 have f19 := (kb K14 D16).cellsL 0 [.float .f64 0, .float .f64 0] rfl
 dsimp only [CellsL, al, vl, Nat.reduceAdd] at f19
 have u20 := (kb K14 D16).unfrozen
 obtain ⟨V17, hV18⟩ : ∃ V, setCells V7 (g6) 0 [.float .f64 p1.lo, .float .f64 p1.hi] = V := ⟨_, rfl⟩
 have hv21 := hV18
 simp only [setCells, Nat.reduceAdd] at hv21
 have K22 := kf hV18 K11 D16 (by have := Y10.out; omega)
 have K23 := kf hV18 K12 D16 (by have := Y10.out; omega)
 have K24 := kf hV18 K13 D16 (by have := Y10.out; omega)
 have K25 := Lib.hid (show Blk V17 (g6) 24 #[.float .f64 p1.lo, .float .f64 p1.hi] from (ks hV18 K14 D16).out)
 have HB26 := hbs hV18 HB15 D16 (by have := Y10.out; omega)
 have D27 := dr V17
 clear K11 K12 K13 K14 HB15 D16
 go_wp2_with fail
 clear hg8 hV9 hV18 f19 u20 hv21
 refine wp_region_held (S := (fun w' => True ∧ Blk w' (w.heap.size) 26 (vc a) ∧ CellsL w' (g6) 0 [.float .f64 p1.lo, .float .f64 p1.hi])) (by kernel_rfl) ?_
 change wpAnyH _ _ _ _ _ _ _ _ (World.drew _)
 obtain ⟨wd28, hwd⟩ : ∃ x, x = World.drew V17 := ⟨_, rfl⟩
 rw [← hwd]
 have D29 := Lib.hid (hwd ▸ Below.drew D27.out : Below V17.heap.size V17 wd28)
 clear D27 hwd
 have hS30 : True ∧ Blk wd28 (w.heap.size) 26 (vc a) ∧ CellsL wd28 (g6) 0 [.float .f64 p1.lo, .float .f64 p1.hi] := ⟨trivial, (kb K22 D29), (kb K25 D29).cellsL 0 [.float .f64 p1.lo, .float .f64 p1.hi] rfl⟩
 refine tkL 0 (bm 6 1) ?aq31 rfl (by kernel_rfl) (fun _ _ _ h => h) (by kernel_rfl) rfl rfl (fun _ hS => hS.2.1) (by rw [info_V3]; rfl) Tryz.underlying26 rfl ?pq31 hS30 ?rq31
 case pq31 => (go_simp; try with_reducible rfl)
 refine tke 1 (bm 6 3) hS30 ?_
 refine tke 3 (bm 6 11) hS30 ?_
 refine wpAnyH_oneN (i := 2) (l' := bm 6 15) rfl (by kernel_rfl) (by kernel_rfl) (by kernel_rfl) (fun K hK => ?_)
 go_simp
 go_at_call 48
 refine (C2.out _).mono ?_
 rintro r w34 ⟨rfl, hb⟩
 dsimp only
 have D35 := ds D29 hb
 clear D29
 clear hb
 have hS36 : True ∧ Blk w34 (w.heap.size) 26 (vc a) ∧ CellsL w34 (g6) 0 [.float .f64 p1.lo, .float .f64 p1.hi] := ⟨trivial, (kb K22 D35), (kb K25 D35).cellsL 0 [.float .f64 p1.lo, .float .f64 p1.hi] rfl⟩
 refine hK _ _ hS36 ?_
 clear hK K hS30
 refine wpAnyH_oneN (i := 4) (l' := bm 6 31) rfl (by kernel_rfl) (by kernel_rfl) (by kernel_rfl) (fun K hK => ?_)
 have f39 := (kb K23 D35)
 obtain ⟨V37, hV38⟩ : ∃ V, World.setRow w34 (w.heap.size + 1) (vc p2) = V := ⟨_, rfl⟩
 have K40 := kfr hV38 K22 D35 (by have := Y10.out; omega)
 have K41 := ksr hV38 K23 D35
 have K42 := kfr hV38 K24 D35 (by have := Y10.out; omega)
 have K43 := kfr hV38 K25 D35 (by have := Y10.out; omega)
 have HB44 := hbr hV38 HB26 D35 (by have := Y10.out; omega)
 have D45 := dr V37
 clear K22 K23 K24 K25 HB26 D35
 refine wp_store_row 26 _ _ rfl (w.heap.size + 1) (vc p2) rfl rfl _ _ f39 (by rw [info_V3]; rfl) rfl (by kernel_rfl) ?_
 rw [hV38]
 go_simp
 clear hV38 f39
 have hS46 : True ∧ Blk V37 (w.heap.size) 26 (vc a) ∧ CellsL V37 (g6) 0 [.float .f64 p1.lo, .float .f64 p1.hi] := ⟨trivial, (kb K40 D45), (kb K43 D45).cellsL 0 [.float .f64 p1.lo, .float .f64 p1.hi] rfl⟩
 refine hK _ _ hS46 ?_
 clear hK K hS36
 refine wpAnyH_oneN (i := 5) (l' := bm 6 63) rfl (by kernel_rfl) (by kernel_rfl) (by kernel_rfl) (fun K hK => ?_)
 have f49 := (kb K42 D45).cellsL 0 [.float .f64 0, .float .f64 0] rfl
 dsimp only [CellsL, al, vl, Nat.reduceAdd] at f49
 have u50 := (kb K42 D45).unfrozen
 obtain ⟨V47, hV48⟩ : ∃ V, setCells V37 (w.heap.size + 1 + 1) 0 [.float .f64 p1.lo, .float .f64 p1.hi] = V := ⟨_, rfl⟩
 have hv51 := hV48
 simp only [setCells, Nat.reduceAdd] at hv51
 have K52 := kf hV48 K40 D45 (by have := Y10.out; omega)
 have K53 := kf hV48 K41 D45 (by have := Y10.out; omega)
 have K54 := Lib.hid (show Blk V47 (w.heap.size + 1 + 1) 24 #[.float .f64 p1.lo, .float .f64 p1.hi] from (ks hV48 K42 D45).out)
 have K55 := kf hV48 K43 D45 (by have := Y10.out; omega)
 have HB56 := hbs hV48 HB44 D45 (by have := Y10.out; omega)
 have D57 := dr V47
 clear K40 K41 K42 K43 HB44 D45
 go_simp
 clear hV48 f49 u50 hv51
 have hS58 : True ∧ Blk V47 (w.heap.size) 26 (vc a) ∧ CellsL V47 (g6) 0 [.float .f64 p1.lo, .float .f64 p1.hi] := ⟨trivial, (kb K52 D57), (kb K55 D57).cellsL 0 [.float .f64 p1.lo, .float .f64 p1.hi] rfl⟩
 refine hK _ _ hS58 ?_
 clear hK K hS46
 refine wpAnyH_done (by kernel_rfl) ?_ _
 clear hS58
 go_wp2_with fail
 (try simp only [Exit.inBlock, Exit.then])
 exact bodyPost_ret (res_cc rfl _ _ (w.heap.size + 1) (vc p2) (w.heap.size + 1 + 1) #[.float .f64 p1.lo, .float .f64 p1.hi] rfl (kb K53 D57) (by rw [info_V3]; rfl) Tryz.underlying26 rfl rfl (kb K54 D57) (by rw [info_Span]; rfl) Tryz.underlying24 rfl) rfl ⟨rfl, below_step HB56.out D57.out⟩
theorem mostV_any (a : V3) (w : World) : Calls Tryz.prog 30 #[Value.agg #[.float .f64 a.x.lo, .float .f64 a.x.hi, .float .f64 a.y.lo, .float .f64 a.y.hi, .float .f64 a.z.lo, .float .f64 a.z.hi]] w fun r w' => r = .returned (.agg #[.float .f64 (vMost a).lo, .float .f64 (vMost a).hi]) ∧ Below w.heap.size w w' := by
 have C0 := Lib.hid (fun w => max_sp a.x a.y w)
 obtain ⟨p0, hp0⟩ : ∃ z_, maxS a.x a.y = z_ := ⟨_, rfl⟩
 rw [hp0] at C0
 have C1 := Lib.hid (fun w => max_sp p0 a.z w)
 obtain ⟨p1, hp1⟩ : ∃ z_, maxS p0 a.z = z_ := ⟨_, rfl⟩
 rw [hp1] at C1
 have hT : vMost a = p1 := by
   subst hp0 hp1; rfl
 rw [hT]
 clear hT
 clear hp0 hp1
 go_enter Tryz.func30, Tryz.ntmps30
 go_wp2_with fail
 obtain ⟨W, hW, K0, K1, hB, hz⟩ := bx2 w 26 24 (vc a) #[.float .f64 0, .float .f64 0]
 rw [← hW]
 have K0 := Lib.hid K0
 have K1 := Lib.hid K1
 have HB := Lib.hid hB
 clear hW hB hz
 have D1 := dr W
 refine wp_region_held (S := (fun w' => True ∧ CellsL w' (w.heap.size) 0 (vl a))) (by kernel_rfl) ?_
 change wpAnyH _ _ _ _ _ _ _ _ (World.drew _)
 obtain ⟨wd2, hwd⟩ : ∃ x, x = World.drew W := ⟨_, rfl⟩
 rw [← hwd]
 have D3 := Lib.hid (hwd ▸ Below.drew D1.out : Below W.heap.size W wd2)
 clear D1 hwd
 have HS5 := Lib.hid (show ∀ w', Below W.heap.size W w' → (True ∧ CellsL w' (w.heap.size) 0 (vl a)) from fun w' b => ⟨trivial, (K0.out.below b K0.out.lt).cellsL 0 (vl a) rfl⟩)
 have hS4 := HS5.out _ D3.out
 refine tkq 0 (bm 9 1) hS4 ?_
 refine tke 1 (bm 9 3) hS4 ?_
 refine tkq 2 (bm 9 7) hS4 ?_
 refine tke 3 (bm 9 15) hS4 ?_
 refine tkq 5 (bm 9 47) hS4 ?_
 refine tke 6 (bm 9 111) hS4 ?_
 refine wpAnyH_oneN (i := 4) (l' := bm 9 127) rfl (by kernel_rfl) (by kernel_rfl) (by kernel_rfl) (fun K hK => ?_)
 go_simp
 go_at_call 77
 refine (C0.out _).mono ?_
 rintro r w12 ⟨rfl, hb⟩
 dsimp only
 have D13 := ds D3 hb
 clear D3
 clear hb
 have hS14 := HS5.out _ D13.out
 refine hK _ _ hS14 ?_
 clear hK K hS4
 refine wpAnyH_oneN (i := 7) (l' := bm 9 255) rfl (by kernel_rfl) (by kernel_rfl) (by kernel_rfl) (fun K hK => ?_)
 go_simp
 go_at_call 77
 refine (C1.out _).mono ?_
 rintro r w15 ⟨rfl, hb⟩
 dsimp only
 have D16 := ds D13 hb
 clear D13
 clear hb
 have hS17 := HS5.out _ D16.out
 refine hK _ _ hS17 ?_
 clear hK K hS14
 refine wpAnyH_oneN (i := 8) (l' := bm 9 511) rfl (by kernel_rfl) (by kernel_rfl) (by kernel_rfl) (fun K hK => ?_)
 have f20 := (kb K1 D16).cellsL 0 [.float .f64 0, .float .f64 0] rfl
 dsimp only [CellsL, al, vl, Nat.reduceAdd] at f20
 have u21 := (kb K1 D16).unfrozen
 obtain ⟨V18, hV19⟩ : ∃ V, setCells w15 (w.heap.size + 1) 0 [.float .f64 p1.lo, .float .f64 p1.hi] = V := ⟨_, rfl⟩
 have hv22 := hV19
 simp only [setCells, Nat.reduceAdd] at hv22
 have K23 := kf hV19 K0 D16 (by omega)
 have K24 := Lib.hid (show Blk V18 (w.heap.size + 1) 24 #[.float .f64 p1.lo, .float .f64 p1.hi] from (ks hV19 K1 D16).out)
 have HB25 := hbs hV19 HB D16 (by omega)
 have D26 := dr V18
 clear K0 K1 HB D16
 go_simp
 clear hV19 f20 u21 hv22
 have hS27 : True ∧ CellsL V18 (w.heap.size) 0 (vl a) := ⟨trivial, (kb K23 D26).cellsL 0 (vl a) rfl⟩
 refine hK _ _ hS27 ?_
 clear hK K hS17
 refine wpAnyH_done (by kernel_rfl) ?_ _
 clear hS27
 go_wp2_with fail
 (try simp only [Exit.inBlock, Exit.then])
 exact bodyPost_ret (res_c rfl _ _ (w.heap.size + 1) #[.float .f64 p1.lo, .float .f64 p1.hi] rfl (kb K24 D26) (by rw [info_Span]; rfl) Tryz.underlying24 rfl) rfl ⟨rfl, below_step HB25.out D26.out⟩
theorem rmostV_any (a : V3) (w : World) : Calls Tryz.prog 31 #[Value.agg #[.float .f64 a.x.lo, .float .f64 a.x.hi, .float .f64 a.y.lo, .float .f64 a.y.hi, .float .f64 a.z.lo, .float .f64 a.z.hi]] w fun r w' => r = .returned (.agg #[.float .f64 (vMost a).lo, .float .f64 (vMost a).hi]) ∧ Below w.heap.size w w' := by
 have C0 := Lib.hid (fun w => rmax_sp a.x a.y w)
 obtain ⟨p0, hp0⟩ : ∃ z_, maxS a.x a.y = z_ := ⟨_, rfl⟩
 rw [hp0] at C0
 have C1 := Lib.hid (fun w => rmax_sp p0 a.z w)
 obtain ⟨p1, hp1⟩ : ∃ z_, maxS p0 a.z = z_ := ⟨_, rfl⟩
 rw [hp1] at C1
 have hT : vMost a = p1 := by
   subst hp0 hp1; rfl
 rw [hT]
 clear hT
 clear hp0 hp1
 go_enter Tryz.func31, Tryz.ntmps31
 go_wp2_with fail
 obtain ⟨W, hW, K0, K1, hB, hz⟩ := bx2 w 26 24 (vc a) #[.float .f64 0, .float .f64 0]
 rw [← hW]
 have K0 := Lib.hid K0
 have K1 := Lib.hid K1
 have HB := Lib.hid hB
 clear hW hB hz
 have D1 := dr W
 refine wp_region_held (S := (fun w' => True ∧ CellsL w' (w.heap.size) 0 (vl a))) (by kernel_rfl) ?_
 change wpAnyH _ _ _ _ _ _ _ _ (World.drew _)
 obtain ⟨wd2, hwd⟩ : ∃ x, x = World.drew W := ⟨_, rfl⟩
 rw [← hwd]
 have D3 := Lib.hid (hwd ▸ Below.drew D1.out : Below W.heap.size W wd2)
 clear D1 hwd
 have HS5 := Lib.hid (show ∀ w', Below W.heap.size W w' → (True ∧ CellsL w' (w.heap.size) 0 (vl a)) from fun w' b => ⟨trivial, (K0.out.below b K0.out.lt).cellsL 0 (vl a) rfl⟩)
 have hS4 := HS5.out _ D3.out
 refine tkq 0 (bm 9 1) hS4 ?_
 refine tke 1 (bm 9 3) hS4 ?_
 refine tkq 2 (bm 9 7) hS4 ?_
 refine tke 3 (bm 9 15) hS4 ?_
 refine tkq 5 (bm 9 47) hS4 ?_
 refine tke 6 (bm 9 111) hS4 ?_
 refine wpAnyH_oneN (i := 4) (l' := bm 9 127) rfl (by kernel_rfl) (by kernel_rfl) (by kernel_rfl) (fun K hK => ?_)
 go_simp
 go_at_call 78
 refine (C0.out _).mono ?_
 rintro r w12 ⟨rfl, hb⟩
 dsimp only
 have D13 := ds D3 hb
 clear D3
 clear hb
 have hS14 := HS5.out _ D13.out
 refine hK _ _ hS14 ?_
 clear hK K hS4
 refine wpAnyH_oneN (i := 7) (l' := bm 9 255) rfl (by kernel_rfl) (by kernel_rfl) (by kernel_rfl) (fun K hK => ?_)
 go_simp
 go_at_call 78
 refine (C1.out _).mono ?_
 rintro r w15 ⟨rfl, hb⟩
 dsimp only
 have D16 := ds D13 hb
 clear D13
 clear hb
 have hS17 := HS5.out _ D16.out
 refine hK _ _ hS17 ?_
 clear hK K hS14
 refine wpAnyH_oneN (i := 8) (l' := bm 9 511) rfl (by kernel_rfl) (by kernel_rfl) (by kernel_rfl) (fun K hK => ?_)
 have f20 := (kb K1 D16).cellsL 0 [.float .f64 0, .float .f64 0] rfl
 dsimp only [CellsL, al, vl, Nat.reduceAdd] at f20
 have u21 := (kb K1 D16).unfrozen
 obtain ⟨V18, hV19⟩ : ∃ V, setCells w15 (w.heap.size + 1) 0 [.float .f64 p1.lo, .float .f64 p1.hi] = V := ⟨_, rfl⟩
 have hv22 := hV19
 simp only [setCells, Nat.reduceAdd] at hv22
 have K23 := kf hV19 K0 D16 (by omega)
 have K24 := Lib.hid (show Blk V18 (w.heap.size + 1) 24 #[.float .f64 p1.lo, .float .f64 p1.hi] from (ks hV19 K1 D16).out)
 have HB25 := hbs hV19 HB D16 (by omega)
 have D26 := dr V18
 clear K0 K1 HB D16
 go_simp
 clear hV19 f20 u21 hv22
 have hS27 : True ∧ CellsL V18 (w.heap.size) 0 (vl a) := ⟨trivial, (kb K23 D26).cellsL 0 (vl a) rfl⟩
 refine hK _ _ hS27 ?_
 clear hK K hS17
 refine wpAnyH_done (by kernel_rfl) ?_ _
 clear hS27
 go_wp2_with fail
 (try simp only [Exit.inBlock, Exit.then])
 exact bodyPost_ret (res_c rfl _ _ (w.heap.size + 1) #[.float .f64 p1.lo, .float .f64 p1.hi] rfl (kb K24 D26) (by rw [info_Span]; rfl) Tryz.underlying24 rfl) rfl ⟨rfl, below_step HB25.out D26.out⟩
noncomputable def vAt (p d : V3) (s : Sp) : V3 := vAdd p (vMul d ⟨s, s, s⟩)
theorem atV_any (p d : V3) (s : Sp) (w : World) : Calls Tryz.prog 32 #[Value.agg #[.float .f64 p.x.lo, .float .f64 p.x.hi, .float .f64 p.y.lo, .float .f64 p.y.hi, .float .f64 p.z.lo, .float .f64 p.z.hi, .float .f64 d.x.lo, .float .f64 d.x.hi, .float .f64 d.y.lo, .float .f64 d.y.hi, .float .f64 d.z.lo, .float .f64 d.z.hi], Value.agg #[.float .f64 s.lo, .float .f64 s.hi]] w fun r w' => r = .returned (vval (vAt p d s)) ∧ Below w.heap.size w w' := by
 have C0 := Lib.hid (fun w => scaleV_any d s w)
 obtain ⟨p0, hp0⟩ : ∃ z_, vMul d ⟨s, s, s⟩ = z_ := ⟨_, rfl⟩
 rw [hp0] at C0
 have C1 := Lib.hid (fun w => vAdd_any p p0 w)
 obtain ⟨p1, hp1⟩ : ∃ z_, vAdd p p0 = z_ := ⟨_, rfl⟩
 rw [hp1] at C1
 have hT : vAt p d s = p1 := by
   subst hp0 hp1; rfl
 rw [hT]
 clear hT
 clear hp0 hp1
 go_enter Tryz.func32, Tryz.ntmps32
 go_wp2_with fail
 obtain ⟨W, hW, K0, K1, K2, hB, hz⟩ := bx3 w 52 24 26 #[.float .f64 p.x.lo, .float .f64 p.x.hi, .float .f64 p.y.lo, .float .f64 p.y.hi, .float .f64 p.z.lo, .float .f64 p.z.hi, .float .f64 d.x.lo, .float .f64 d.x.hi, .float .f64 d.y.lo, .float .f64 d.y.hi, .float .f64 d.z.lo, .float .f64 d.z.hi] #[.float .f64 s.lo, .float .f64 s.hi] #[.float .f64 0, .float .f64 0, .float .f64 0, .float .f64 0, .float .f64 0, .float .f64 0]
 rw [← hW]
 have K0 := Lib.hid K0
 have K1 := Lib.hid K1
 have K2 := Lib.hid K2
 have HB := Lib.hid hB
 clear hW hB hz
 have D1 := dr W
 refine wp_region_held (S := (fun w' => True ∧ CellsL w' (w.heap.size) 0 [.float .f64 p.x.lo, .float .f64 p.x.hi, .float .f64 p.y.lo, .float .f64 p.y.hi, .float .f64 p.z.lo, .float .f64 p.z.hi, .float .f64 d.x.lo, .float .f64 d.x.hi, .float .f64 d.y.lo, .float .f64 d.y.hi, .float .f64 d.z.lo, .float .f64 d.z.hi] ∧ CellsL w' (w.heap.size + 1) 0 [.float .f64 s.lo, .float .f64 s.hi])) (by kernel_rfl) ?_
 change wpAnyH _ _ _ _ _ _ _ _ (World.drew _)
 obtain ⟨wd2, hwd⟩ : ∃ x, x = World.drew W := ⟨_, rfl⟩
 rw [← hwd]
 have D3 := Lib.hid (hwd ▸ Below.drew D1.out : Below W.heap.size W wd2)
 clear D1 hwd
 have HS5 := Lib.hid (show ∀ w', Below W.heap.size W w' → (True ∧ CellsL w' (w.heap.size) 0 [.float .f64 p.x.lo, .float .f64 p.x.hi, .float .f64 p.y.lo, .float .f64 p.y.hi, .float .f64 p.z.lo, .float .f64 p.z.hi, .float .f64 d.x.lo, .float .f64 d.x.hi, .float .f64 d.y.lo, .float .f64 d.y.hi, .float .f64 d.z.lo, .float .f64 d.z.hi] ∧ CellsL w' (w.heap.size + 1) 0 [.float .f64 s.lo, .float .f64 s.hi]) from fun w' b => ⟨trivial, (K0.out.below b K0.out.lt).cellsL 0 [.float .f64 p.x.lo, .float .f64 p.x.hi, .float .f64 p.y.lo, .float .f64 p.y.hi, .float .f64 p.z.lo, .float .f64 p.z.hi, .float .f64 d.x.lo, .float .f64 d.x.hi, .float .f64 d.y.lo, .float .f64 d.y.hi, .float .f64 d.z.lo, .float .f64 d.z.hi] rfl, (K1.out.below b K1.out.lt).cellsL 0 [.float .f64 s.lo, .float .f64 s.hi] rfl⟩)
 have hS4 := HS5.out _ D3.out
 refine tkq 0 (bm 8 1) hS4 ?_
 refine tke 1 (bm 8 3) hS4 ?_
 refine tkq 2 (bm 8 7) hS4 ?_
 refine tke 3 (bm 8 15) hS4 ?_
 refine tke 4 (bm 8 31) hS4 ?_
 refine wpAnyH_oneN (i := 5) (l' := bm 8 63) rfl (by kernel_rfl) (by kernel_rfl) (by kernel_rfl) (fun K hK => ?_)
 go_simp
 go_at_call 79
 refine (C0.out _).mono ?_
 rintro r w11 ⟨rfl, hb⟩
 dsimp only
 have D12 := ds D3 hb
 clear D3
 clear hb
 have hS13 := HS5.out _ D12.out
 refine hK _ _ hS13 ?_
 clear hK K hS4
 refine wpAnyH_oneN (i := 6) (l' := bm 8 127) rfl (by kernel_rfl) (by kernel_rfl) (by kernel_rfl) (fun K hK => ?_)
 go_simp
 go_at_call 53
 refine (C1.out _).mono ?_
 rintro r w14 ⟨rfl, hb⟩
 dsimp only
 have D15 := ds D12 hb
 clear D12
 clear hb
 have hS16 := HS5.out _ D15.out
 refine hK _ _ hS16 ?_
 clear hK K hS13
 refine wpAnyH_oneN (i := 7) (l' := bm 8 255) rfl (by kernel_rfl) (by kernel_rfl) (by kernel_rfl) (fun K hK => ?_)
 have f19 := (kb K2 D15)
 obtain ⟨V17, hV18⟩ : ∃ V, World.setRow w14 (w.heap.size + 1 + 1) (vc p1) = V := ⟨_, rfl⟩
 have K20 := kfr hV18 K0 D15 (by omega)
 have K21 := kfr hV18 K1 D15 (by omega)
 have K22 := ksr hV18 K2 D15
 have HB23 := hbr hV18 HB D15 (by omega)
 have D24 := dr V17
 clear K0 K1 K2 HB D15
 refine wp_store_row 26 _ _ rfl (w.heap.size + 1 + 1) (vc p1) rfl rfl _ _ f19 (by rw [info_V3]; rfl) rfl (by kernel_rfl) ?_
 rw [hV18]
 go_simp
 clear hV18 f19
 have hS25 : True ∧ CellsL V17 (w.heap.size) 0 [.float .f64 p.x.lo, .float .f64 p.x.hi, .float .f64 p.y.lo, .float .f64 p.y.hi, .float .f64 p.z.lo, .float .f64 p.z.hi, .float .f64 d.x.lo, .float .f64 d.x.hi, .float .f64 d.y.lo, .float .f64 d.y.hi, .float .f64 d.z.lo, .float .f64 d.z.hi] ∧ CellsL V17 (w.heap.size + 1) 0 [.float .f64 s.lo, .float .f64 s.hi] := ⟨trivial, (kb K20 D24).cellsL 0 [.float .f64 p.x.lo, .float .f64 p.x.hi, .float .f64 p.y.lo, .float .f64 p.y.hi, .float .f64 p.z.lo, .float .f64 p.z.hi, .float .f64 d.x.lo, .float .f64 d.x.hi, .float .f64 d.y.lo, .float .f64 d.y.hi, .float .f64 d.z.lo, .float .f64 d.z.hi] rfl, (kb K21 D24).cellsL 0 [.float .f64 s.lo, .float .f64 s.hi] rfl⟩
 refine hK _ _ hS25 ?_
 clear hK K hS16
 refine wpAnyH_done (by kernel_rfl) ?_ _
 clear hS25
 go_wp2_with fail
 (try simp only [Exit.inBlock, Exit.then])
 exact bodyPost_ret (res_c rfl _ _ (w.heap.size + 1 + 1) (vc p1) rfl (kb K22 D24) (by rw [info_V3]; rfl) Tryz.underlying26 rfl) rfl ⟨rfl, below_step HB23.out D24.out⟩
theorem ratV_any (p d : V3) (s : Sp) (w : World) : Calls Tryz.prog 33 #[Value.agg #[.float .f64 p.x.lo, .float .f64 p.x.hi, .float .f64 p.y.lo, .float .f64 p.y.hi, .float .f64 p.z.lo, .float .f64 p.z.hi, .float .f64 d.x.lo, .float .f64 d.x.hi, .float .f64 d.y.lo, .float .f64 d.y.hi, .float .f64 d.z.lo, .float .f64 d.z.hi], Value.agg #[.float .f64 s.lo, .float .f64 s.hi]] w fun r w' => r = .returned (vval (vAt p d s)) ∧ Below w.heap.size w w' := by
 have C0 := Lib.hid (fun w => rscaleV_any d s w)
 obtain ⟨p0, hp0⟩ : ∃ z_, vMul d ⟨s, s, s⟩ = z_ := ⟨_, rfl⟩
 rw [hp0] at C0
 have C1 := Lib.hid (fun w => raddV_any p p0 w)
 obtain ⟨p1, hp1⟩ : ∃ z_, vAdd p p0 = z_ := ⟨_, rfl⟩
 rw [hp1] at C1
 have hT : vAt p d s = p1 := by
   subst hp0 hp1; rfl
 rw [hT]
 clear hT
 clear hp0 hp1
 go_enter Tryz.func33, Tryz.ntmps33
 go_wp2_with fail
 obtain ⟨W, hW, K0, K1, K2, hB, hz⟩ := bx3 w 52 24 26 #[.float .f64 p.x.lo, .float .f64 p.x.hi, .float .f64 p.y.lo, .float .f64 p.y.hi, .float .f64 p.z.lo, .float .f64 p.z.hi, .float .f64 d.x.lo, .float .f64 d.x.hi, .float .f64 d.y.lo, .float .f64 d.y.hi, .float .f64 d.z.lo, .float .f64 d.z.hi] #[.float .f64 s.lo, .float .f64 s.hi] #[.float .f64 0, .float .f64 0, .float .f64 0, .float .f64 0, .float .f64 0, .float .f64 0]
 rw [← hW]
 have K0 := Lib.hid K0
 have K1 := Lib.hid K1
 have K2 := Lib.hid K2
 have HB := Lib.hid hB
 clear hW hB hz
 have D1 := dr W
 refine wp_region_held (S := (fun w' => True ∧ CellsL w' (w.heap.size) 0 [.float .f64 p.x.lo, .float .f64 p.x.hi, .float .f64 p.y.lo, .float .f64 p.y.hi, .float .f64 p.z.lo, .float .f64 p.z.hi, .float .f64 d.x.lo, .float .f64 d.x.hi, .float .f64 d.y.lo, .float .f64 d.y.hi, .float .f64 d.z.lo, .float .f64 d.z.hi] ∧ CellsL w' (w.heap.size + 1) 0 [.float .f64 s.lo, .float .f64 s.hi])) (by kernel_rfl) ?_
 change wpAnyH _ _ _ _ _ _ _ _ (World.drew _)
 obtain ⟨wd2, hwd⟩ : ∃ x, x = World.drew W := ⟨_, rfl⟩
 rw [← hwd]
 have D3 := Lib.hid (hwd ▸ Below.drew D1.out : Below W.heap.size W wd2)
 clear D1 hwd
 have HS5 := Lib.hid (show ∀ w', Below W.heap.size W w' → (True ∧ CellsL w' (w.heap.size) 0 [.float .f64 p.x.lo, .float .f64 p.x.hi, .float .f64 p.y.lo, .float .f64 p.y.hi, .float .f64 p.z.lo, .float .f64 p.z.hi, .float .f64 d.x.lo, .float .f64 d.x.hi, .float .f64 d.y.lo, .float .f64 d.y.hi, .float .f64 d.z.lo, .float .f64 d.z.hi] ∧ CellsL w' (w.heap.size + 1) 0 [.float .f64 s.lo, .float .f64 s.hi]) from fun w' b => ⟨trivial, (K0.out.below b K0.out.lt).cellsL 0 [.float .f64 p.x.lo, .float .f64 p.x.hi, .float .f64 p.y.lo, .float .f64 p.y.hi, .float .f64 p.z.lo, .float .f64 p.z.hi, .float .f64 d.x.lo, .float .f64 d.x.hi, .float .f64 d.y.lo, .float .f64 d.y.hi, .float .f64 d.z.lo, .float .f64 d.z.hi] rfl, (K1.out.below b K1.out.lt).cellsL 0 [.float .f64 s.lo, .float .f64 s.hi] rfl⟩)
 have hS4 := HS5.out _ D3.out
 refine tkq 0 (bm 8 1) hS4 ?_
 refine tke 1 (bm 8 3) hS4 ?_
 refine tkq 2 (bm 8 7) hS4 ?_
 refine tke 3 (bm 8 15) hS4 ?_
 refine tke 4 (bm 8 31) hS4 ?_
 refine wpAnyH_oneN (i := 5) (l' := bm 8 63) rfl (by kernel_rfl) (by kernel_rfl) (by kernel_rfl) (fun K hK => ?_)
 go_simp
 go_at_call 80
 refine (C0.out _).mono ?_
 rintro r w11 ⟨rfl, hb⟩
 dsimp only
 have D12 := ds D3 hb
 clear D3
 clear hb
 have hS13 := HS5.out _ D12.out
 refine hK _ _ hS13 ?_
 clear hK K hS4
 refine wpAnyH_oneN (i := 6) (l' := bm 8 127) rfl (by kernel_rfl) (by kernel_rfl) (by kernel_rfl) (fun K hK => ?_)
 go_simp
 go_at_call 54
 refine (C1.out _).mono ?_
 rintro r w14 ⟨rfl, hb⟩
 dsimp only
 have D15 := ds D12 hb
 clear D12
 clear hb
 have hS16 := HS5.out _ D15.out
 refine hK _ _ hS16 ?_
 clear hK K hS13
 refine wpAnyH_oneN (i := 7) (l' := bm 8 255) rfl (by kernel_rfl) (by kernel_rfl) (by kernel_rfl) (fun K hK => ?_)
 have f19 := (kb K2 D15)
 obtain ⟨V17, hV18⟩ : ∃ V, World.setRow w14 (w.heap.size + 1 + 1) (vc p1) = V := ⟨_, rfl⟩
 have K20 := kfr hV18 K0 D15 (by omega)
 have K21 := kfr hV18 K1 D15 (by omega)
 have K22 := ksr hV18 K2 D15
 have HB23 := hbr hV18 HB D15 (by omega)
 have D24 := dr V17
 clear K0 K1 K2 HB D15
 refine wp_store_row 26 _ _ rfl (w.heap.size + 1 + 1) (vc p1) rfl rfl _ _ f19 (by rw [info_V3]; rfl) rfl (by kernel_rfl) ?_
 rw [hV18]
 go_simp
 clear hV18 f19
 have hS25 : True ∧ CellsL V17 (w.heap.size) 0 [.float .f64 p.x.lo, .float .f64 p.x.hi, .float .f64 p.y.lo, .float .f64 p.y.hi, .float .f64 p.z.lo, .float .f64 p.z.hi, .float .f64 d.x.lo, .float .f64 d.x.hi, .float .f64 d.y.lo, .float .f64 d.y.hi, .float .f64 d.z.lo, .float .f64 d.z.hi] ∧ CellsL V17 (w.heap.size + 1) 0 [.float .f64 s.lo, .float .f64 s.hi] := ⟨trivial, (kb K20 D24).cellsL 0 [.float .f64 p.x.lo, .float .f64 p.x.hi, .float .f64 p.y.lo, .float .f64 p.y.hi, .float .f64 p.z.lo, .float .f64 p.z.hi, .float .f64 d.x.lo, .float .f64 d.x.hi, .float .f64 d.y.lo, .float .f64 d.y.hi, .float .f64 d.z.lo, .float .f64 d.z.hi] rfl, (kb K21 D24).cellsL 0 [.float .f64 s.lo, .float .f64 s.hi] rfl⟩
 refine hK _ _ hS25 ?_
 clear hK K hS16
 refine wpAnyH_done (by kernel_rfl) ?_ _
 clear hS25
 go_wp2_with fail
 (try simp only [Exit.inBlock, Exit.then])
 exact bodyPost_ret (res_c rfl _ _ (w.heap.size + 1 + 1) (vc p1) rfl (kb K22 D24) (by rw [info_V3]; rfl) Tryz.underlying26 rfl) rfl ⟨rfl, below_step HB23.out D24.out⟩
theorem swideV_t (v : V3) (v0 : v.x.wide = true) (w : World) : Calls Tryz.prog 28 #[Value.agg #[.float .f64 v.x.lo, .float .f64 v.x.hi, .float .f64 v.y.lo, .float .f64 v.y.hi, .float .f64 v.z.lo, .float .f64 v.z.hi]] w fun r w' => r = .returned (.bool true) ∧ Below w.heap.size w w' := by
 have C0 := Lib.hid (fun w => wide_sp v.x w)
 rw [v0] at C0
 go_enter Tryz.func28, Tryz.ntmps28
 go_wp2_with fail
 obtain ⟨W, hW, K0, hB, hz⟩ := bx1 w 26 (vc v)
 rw [← hW]
 have K0 := Lib.hid K0
 have HB := Lib.hid hB
 clear hW hB hz
 have D1 := dr W
 refine (C0.out _).mono ?_
 rintro r w2 ⟨rfl, hb⟩
 have D3 := ds D1 hb
 clear D1
 clear hb
 go_wp2_with fail
 go_ret
 exact ⟨rfl, below_step HB.out D3.out⟩
theorem swideV_ft (v : V3) (v0 : v.x.wide = false) (v1 : v.y.wide = true) (w : World) : Calls Tryz.prog 28 #[Value.agg #[.float .f64 v.x.lo, .float .f64 v.x.hi, .float .f64 v.y.lo, .float .f64 v.y.hi, .float .f64 v.z.lo, .float .f64 v.z.hi]] w fun r w' => r = .returned (.bool true) ∧ Below w.heap.size w w' := by
 have C0 := Lib.hid (fun w => wide_sp v.x w)
 rw [v0] at C0
 have C1 := Lib.hid (fun w => wide_sp v.y w)
 rw [v1] at C1
 go_enter Tryz.func28, Tryz.ntmps28
 go_wp2_with fail
 obtain ⟨W, hW, K0, hB, hz⟩ := bx1 w 26 (vc v)
 rw [← hW]
 have K0 := Lib.hid K0
 have HB := Lib.hid hB
 clear hW hB hz
 have D1 := dr W
 refine (C0.out _).mono ?_
 rintro r w2 ⟨rfl, hb⟩
 have D3 := ds D1 hb
 clear D1
 clear hb
 have hq4 := (kb K0 D3).cellsL 2 [.float .f64 v.y.lo, .float .f64 v.y.hi] rfl
 dsimp only [CellsL, al, vl, Nat.reduceAdd] at hq4
 go_wp2_with fail
 clear hq4
 refine (C1.out _).mono ?_
 rintro r w5 ⟨rfl, hb⟩
 have D6 := ds D3 hb
 clear D3
 clear hb
 go_wp2_with fail
 go_ret
 exact ⟨rfl, below_step HB.out D6.out⟩
theorem swideV_fft (v : V3) (v0 : v.x.wide = false) (v1 : v.y.wide = false) (v2 : v.z.wide = true) (w : World) : Calls Tryz.prog 28 #[Value.agg #[.float .f64 v.x.lo, .float .f64 v.x.hi, .float .f64 v.y.lo, .float .f64 v.y.hi, .float .f64 v.z.lo, .float .f64 v.z.hi]] w fun r w' => r = .returned (.bool true) ∧ Below w.heap.size w w' := by
 have C0 := Lib.hid (fun w => wide_sp v.x w)
 rw [v0] at C0
 have C1 := Lib.hid (fun w => wide_sp v.y w)
 rw [v1] at C1
 have C2 := Lib.hid (fun w => wide_sp v.z w)
 rw [v2] at C2
 go_enter Tryz.func28, Tryz.ntmps28
 go_wp2_with fail
 obtain ⟨W, hW, K0, hB, hz⟩ := bx1 w 26 (vc v)
 rw [← hW]
 have K0 := Lib.hid K0
 have HB := Lib.hid hB
 clear hW hB hz
 have D1 := dr W
 refine (C0.out _).mono ?_
 rintro r w2 ⟨rfl, hb⟩
 have D3 := ds D1 hb
 clear D1
 clear hb
 have hq4 := (kb K0 D3).cellsL 2 [.float .f64 v.y.lo, .float .f64 v.y.hi] rfl
 dsimp only [CellsL, al, vl, Nat.reduceAdd] at hq4
 go_wp2_with fail
 clear hq4
 refine (C1.out _).mono ?_
 rintro r w5 ⟨rfl, hb⟩
 have D6 := ds D3 hb
 clear D3
 clear hb
 have hq7 := (kb K0 D6).cellsL 4 [.float .f64 v.z.lo, .float .f64 v.z.hi] rfl
 dsimp only [CellsL, al, vl, Nat.reduceAdd] at hq7
 go_wp2_with fail
 clear hq7
 refine (C2.out _).mono ?_
 rintro r w8 ⟨rfl, hb⟩
 have D9 := ds D6 hb
 clear D6
 clear hb
 go_wp2_with fail
 go_ret
 exact ⟨rfl, below_step HB.out D9.out⟩
theorem swideV_fff (v : V3) (v0 : v.x.wide = false) (v1 : v.y.wide = false) (v2 : v.z.wide = false) (w : World) : Calls Tryz.prog 28 #[Value.agg #[.float .f64 v.x.lo, .float .f64 v.x.hi, .float .f64 v.y.lo, .float .f64 v.y.hi, .float .f64 v.z.lo, .float .f64 v.z.hi]] w fun r w' => r = .returned (.bool false) ∧ Below w.heap.size w w' := by
 have C0 := Lib.hid (fun w => wide_sp v.x w)
 rw [v0] at C0
 have C1 := Lib.hid (fun w => wide_sp v.y w)
 rw [v1] at C1
 have C2 := Lib.hid (fun w => wide_sp v.z w)
 rw [v2] at C2
 go_enter Tryz.func28, Tryz.ntmps28
 go_wp2_with fail
 obtain ⟨W, hW, K0, hB, hz⟩ := bx1 w 26 (vc v)
 rw [← hW]
 have K0 := Lib.hid K0
 have HB := Lib.hid hB
 clear hW hB hz
 have D1 := dr W
 refine (C0.out _).mono ?_
 rintro r w2 ⟨rfl, hb⟩
 have D3 := ds D1 hb
 clear D1
 clear hb
 have hq4 := (kb K0 D3).cellsL 2 [.float .f64 v.y.lo, .float .f64 v.y.hi] rfl
 dsimp only [CellsL, al, vl, Nat.reduceAdd] at hq4
 go_wp2_with fail
 clear hq4
 refine (C1.out _).mono ?_
 rintro r w5 ⟨rfl, hb⟩
 have D6 := ds D3 hb
 clear D3
 clear hb
 have hq7 := (kb K0 D6).cellsL 4 [.float .f64 v.z.lo, .float .f64 v.z.hi] rfl
 dsimp only [CellsL, al, vl, Nat.reduceAdd] at hq7
 go_wp2_with fail
 clear hq7
 refine (C2.out _).mono ?_
 rintro r w8 ⟨rfl, hb⟩
 have D9 := ds D6 hb
 clear D6
 clear hb
 go_wp2_with fail
 go_ret
 exact ⟨rfl, below_step HB.out D9.out⟩
theorem swideV_any (v : V3) (w : World) : Calls Tryz.prog 28 #[vval v] w fun r w' => r = .returned (.bool v.wide) ∧ Below w.heap.size w w' := by
 unfold V3.wide
 cases v0 : v.x.wide
 · cases v1 : v.y.wide
   · cases v2 : v.z.wide
     · exact swideV_fff v v0 v1 v2 w
     · exact swideV_fft v v0 v1 v2 w
   · exact swideV_ft v v0 v1 w
 · exact swideV_t v v0 w
theorem srwideV_t (v : V3) (v0 : v.x.wide = true) (w : World) : Calls Tryz.prog 29 #[Value.agg #[.float .f64 v.x.lo, .float .f64 v.x.hi, .float .f64 v.y.lo, .float .f64 v.y.hi, .float .f64 v.z.lo, .float .f64 v.z.hi]] w fun r w' => r = .returned (.bool true) ∧ Below w.heap.size w w' := by
 have C0 := Lib.hid (fun w => rwide_sp v.x w)
 rw [v0] at C0
 go_enter Tryz.func29, Tryz.ntmps29
 go_wp2_with fail
 obtain ⟨W, hW, K0, hB, hz⟩ := bx1 w 26 (vc v)
 rw [← hW]
 have K0 := Lib.hid K0
 have HB := Lib.hid hB
 clear hW hB hz
 have D1 := dr W
 refine (C0.out _).mono ?_
 rintro r w2 ⟨rfl, hb⟩
 have D3 := ds D1 hb
 clear D1
 clear hb
 go_wp2_with fail
 go_ret
 exact ⟨rfl, below_step HB.out D3.out⟩
theorem srwideV_ft (v : V3) (v0 : v.x.wide = false) (v1 : v.y.wide = true) (w : World) : Calls Tryz.prog 29 #[Value.agg #[.float .f64 v.x.lo, .float .f64 v.x.hi, .float .f64 v.y.lo, .float .f64 v.y.hi, .float .f64 v.z.lo, .float .f64 v.z.hi]] w fun r w' => r = .returned (.bool true) ∧ Below w.heap.size w w' := by
 have C0 := Lib.hid (fun w => rwide_sp v.x w)
 rw [v0] at C0
 have C1 := Lib.hid (fun w => rwide_sp v.y w)
 rw [v1] at C1
 go_enter Tryz.func29, Tryz.ntmps29
 go_wp2_with fail
 obtain ⟨W, hW, K0, hB, hz⟩ := bx1 w 26 (vc v)
 rw [← hW]
 have K0 := Lib.hid K0
 have HB := Lib.hid hB
 clear hW hB hz
 have D1 := dr W
 refine (C0.out _).mono ?_
 rintro r w2 ⟨rfl, hb⟩
 have D3 := ds D1 hb
 clear D1
 clear hb
 have hq4 := (kb K0 D3).cellsL 2 [.float .f64 v.y.lo, .float .f64 v.y.hi] rfl
 dsimp only [CellsL, al, vl, Nat.reduceAdd] at hq4
 go_wp2_with fail
 clear hq4
 refine (C1.out _).mono ?_
 rintro r w5 ⟨rfl, hb⟩
 have D6 := ds D3 hb
 clear D3
 clear hb
 go_wp2_with fail
 go_ret
 exact ⟨rfl, below_step HB.out D6.out⟩
theorem srwideV_fft (v : V3) (v0 : v.x.wide = false) (v1 : v.y.wide = false) (v2 : v.z.wide = true) (w : World) : Calls Tryz.prog 29 #[Value.agg #[.float .f64 v.x.lo, .float .f64 v.x.hi, .float .f64 v.y.lo, .float .f64 v.y.hi, .float .f64 v.z.lo, .float .f64 v.z.hi]] w fun r w' => r = .returned (.bool true) ∧ Below w.heap.size w w' := by
 have C0 := Lib.hid (fun w => rwide_sp v.x w)
 rw [v0] at C0
 have C1 := Lib.hid (fun w => rwide_sp v.y w)
 rw [v1] at C1
 have C2 := Lib.hid (fun w => rwide_sp v.z w)
 rw [v2] at C2
 go_enter Tryz.func29, Tryz.ntmps29
 go_wp2_with fail
 obtain ⟨W, hW, K0, hB, hz⟩ := bx1 w 26 (vc v)
 rw [← hW]
 have K0 := Lib.hid K0
 have HB := Lib.hid hB
 clear hW hB hz
 have D1 := dr W
 refine (C0.out _).mono ?_
 rintro r w2 ⟨rfl, hb⟩
 have D3 := ds D1 hb
 clear D1
 clear hb
 have hq4 := (kb K0 D3).cellsL 2 [.float .f64 v.y.lo, .float .f64 v.y.hi] rfl
 dsimp only [CellsL, al, vl, Nat.reduceAdd] at hq4
 go_wp2_with fail
 clear hq4
 refine (C1.out _).mono ?_
 rintro r w5 ⟨rfl, hb⟩
 have D6 := ds D3 hb
 clear D3
 clear hb
 have hq7 := (kb K0 D6).cellsL 4 [.float .f64 v.z.lo, .float .f64 v.z.hi] rfl
 dsimp only [CellsL, al, vl, Nat.reduceAdd] at hq7
 go_wp2_with fail
 clear hq7
 refine (C2.out _).mono ?_
 rintro r w8 ⟨rfl, hb⟩
 have D9 := ds D6 hb
 clear D6
 clear hb
 go_wp2_with fail
 go_ret
 exact ⟨rfl, below_step HB.out D9.out⟩
theorem srwideV_fff (v : V3) (v0 : v.x.wide = false) (v1 : v.y.wide = false) (v2 : v.z.wide = false) (w : World) : Calls Tryz.prog 29 #[Value.agg #[.float .f64 v.x.lo, .float .f64 v.x.hi, .float .f64 v.y.lo, .float .f64 v.y.hi, .float .f64 v.z.lo, .float .f64 v.z.hi]] w fun r w' => r = .returned (.bool false) ∧ Below w.heap.size w w' := by
 have C0 := Lib.hid (fun w => rwide_sp v.x w)
 rw [v0] at C0
 have C1 := Lib.hid (fun w => rwide_sp v.y w)
 rw [v1] at C1
 have C2 := Lib.hid (fun w => rwide_sp v.z w)
 rw [v2] at C2
 go_enter Tryz.func29, Tryz.ntmps29
 go_wp2_with fail
 obtain ⟨W, hW, K0, hB, hz⟩ := bx1 w 26 (vc v)
 rw [← hW]
 have K0 := Lib.hid K0
 have HB := Lib.hid hB
 clear hW hB hz
 have D1 := dr W
 refine (C0.out _).mono ?_
 rintro r w2 ⟨rfl, hb⟩
 have D3 := ds D1 hb
 clear D1
 clear hb
 have hq4 := (kb K0 D3).cellsL 2 [.float .f64 v.y.lo, .float .f64 v.y.hi] rfl
 dsimp only [CellsL, al, vl, Nat.reduceAdd] at hq4
 go_wp2_with fail
 clear hq4
 refine (C1.out _).mono ?_
 rintro r w5 ⟨rfl, hb⟩
 have D6 := ds D3 hb
 clear D3
 clear hb
 have hq7 := (kb K0 D6).cellsL 4 [.float .f64 v.z.lo, .float .f64 v.z.hi] rfl
 dsimp only [CellsL, al, vl, Nat.reduceAdd] at hq7
 go_wp2_with fail
 clear hq7
 refine (C2.out _).mono ?_
 rintro r w8 ⟨rfl, hb⟩
 have D9 := ds D6 hb
 clear D6
 clear hb
 go_wp2_with fail
 go_ret
 exact ⟨rfl, below_step HB.out D9.out⟩
theorem srwideV_any (v : V3) (w : World) : Calls Tryz.prog 29 #[vval v] w fun r w' => r = .returned (.bool v.wide) ∧ Below w.heap.size w w' := by
 unfold V3.wide
 cases v0 : v.x.wide
 · cases v1 : v.y.wide
   · cases v2 : v.z.wide
     · exact srwideV_fff v v0 v1 v2 w
     · exact srwideV_fft v v0 v1 v2 w
   · exact srwideV_ft v v0 v1 w
 · exact srwideV_t v v0 w
end Go.Proofs.YtnljfcebmgifdaaGreat
