/- Shaken: Bs3 Bs5. -/
import Derived.Test.YtnljfcebmgifdaaGreatZQBends1
import Derived.Handy
import Derived.BigQuiet
import Derived.Deep.RegionHeld3
import Derived.Deep.QuietTactic
import Derived.OrdersHeld
import Derived.Laws.StructEq
import Derived.LoopN
import Derived.Laws.FloatArith
set_option maxRecDepth 100000
set_option maxHeartbeats 8000000
set_option linter.unusedVariables false
set_option linter.unusedSimpArgs false
namespace Go.Proofs.YtnljfcebmgifdaaGreat
open Go.RowKit Fl
section
variable {fn : Func} {p q r s : Tmp} {ta tb : TypeId}
theorem res_cctt (h : fn.results = #[.cell p ta, .cell q tb, .tmp r, .tmp s]) (tmps : Array Value) (w : World) (g : Nat) (cs : Array Value) (g' : Nat) (cs' : Array Value) {t t' : TypeId} {d d' : TypeDesc}
   (hp : tmps.getD p undef = .pointer (some ⟨g, 0, none⟩)) (hg : Blk w g t cs) (hi : (Tryz.prog.info? ta).map (·.size) = some cs.size) (hu : Tryz.prog.underlying ta = some d) (hd : isRow d = true)
   (hp' : tmps.getD q undef = .pointer (some ⟨g', 0, none⟩)) (hg' : Blk w g' t' cs') (hi' : (Tryz.prog.info? tb).map (·.size) = some cs'.size) (hu' : Tryz.prog.underlying tb = some d') (hd' : isRow d' = true) :
   (results fn tmps).run Tryz.prog w = .ok (.tuple #[.agg cs, .agg cs', tmps.getD r undef, tmps.getD s undef]) w := by
 have e1 : tmps[p]?.getD undef = .pointer (some ⟨g, 0, none⟩) := by simpa using hp
 have e2 : tmps[q]?.getD undef = .pointer (some ⟨g', 0, none⟩) := by simpa using hp'
 simp [results, h, e1, e2, asAddr, run_row w g t ta cs d hg hu hd hi, run_row w g' t' tb cs' d' hg' hu' hd' hi']
end
theorem aw_mir : bdMir (vOf 0 0 4607182418800017408) (vOf 4607182418800017408 0 13830554455654793216) = vOf 4607182418800017408 0 4607182418800017408 := by refine V3.ext (Sp.ext ?_ ?_) (Sp.ext ?_ ?_) (Sp.ext ?_ ?_) <;> decide +kernel
theorem aw_less : lessS (addS (sqrS (ofS 0)) (sqrS (ofS 0))) (ofS 4607182418800017408) = 1 := by decide +kernel
theorem unit_half (w : World) : Calls Tryz.prog 114 #[.int .u32 2147483648] w fun e w' => e = .returned (.float .f64 4602678819172646912) ∧ Below w.heap.size w w' := by
 have hd : floatBits .quo .f64 (floatOfInt .f64 2147483648) 4751297606875873280 = some 4602678819172646912 := by decide +kernel
 have hr := fun (t : TypeId) (w : World) => run_float_arith (P := Tryz.prog) w .quo t .f64 _ _ _ hd
 clear hd
 go_enter Tryz.func114, Tryz.ntmps114
 go_wp2
 go_ret
 exact ⟨rfl, Below.refl _ w⟩
theorem disk_half (w : World) (g : Nat) (K : Blk w g 80 #[Value.int IntKind.u32 2147483648, Value.int IntKind.u32 2147483648]) : Calls Tryz.prog 81 #[Value.slice (some ⟨g, 0, none⟩) 2 2] w fun r w' => r = .returned (.tuple #[.agg #[.float .f64 (ofS 0).lo, .float .f64 (ofS 0).hi], .agg #[.float .f64 (ofS 0).lo, .float .f64 (ofS 0).hi], .int .i64 2, .int .i64 1]) ∧ Below w.heap.size w w' := by
 have w1_ : IntKind.wrap .i64 1 = 1 := by decide
 have dm : floatBits .mul .f64 4611686018427387904 4602678819172646912 = some 4607182418800017408 := by decide +kernel
 have ds_ : floatBits .sub .f64 4607182418800017408 4607182418800017408 = some 0 := by decide +kernel
 have rm := fun (t : TypeId) (w : World) => run_float_arith (P := Tryz.prog) w .mul t .f64 _ _ _ dm
 have rs_ := fun (t : TypeId) (w : World) => run_float_arith (P := Tryz.prog) w .sub t .f64 _ _ _ ds_
 clear dm ds_
 have C0 := Lib.hid (unit_half)
 have C1 := Lib.hid (unit_half)
 have C2 := Lib.hid (fun w => of_sp 0 (by decide) w)
 obtain ⟨p2, hp2⟩ : ∃ z_, ofS 0 = z_ := ⟨_, rfl⟩
 rw [hp2] at C2
 have C3 := Lib.hid (fun w => of_sp 0 (by decide) w)
 rw [hp2] at C3
 have C4 := Lib.hid (fun w => sqr_sp p2 w)
 obtain ⟨p4, hp4⟩ : ∃ z_, sqrS p2 = z_ := ⟨_, rfl⟩
 rw [hp4] at C4
 have C5 := Lib.hid (fun w => sqr_sp p2 w)
 rw [hp4] at C5
 have C6 := Lib.hid (fun w => add_sp p4 p4 w)
 obtain ⟨p6, hp6⟩ : ∃ z_, addS p4 p4 = z_ := ⟨_, rfl⟩
 rw [hp6] at C6
 have C7 := Lib.hid (fun w => of_sp 4607182418800017408 (by decide) w)
 obtain ⟨p7, hp7⟩ : ∃ z_, ofS 4607182418800017408 = z_ := ⟨_, rfl⟩
 rw [hp7] at C7
 have hl : lessS p6 p7 = 1 := by rw [← hp7, ← hp6, ← hp4, ← hp2]; exact aw_less
 have C8 := Lib.hid (fun w => less_sp p6 p7 w)
 rw [hl] at C8
 clear hl
 have hT : ofS 0 = p2 := by
   subst hp2 hp4 hp6 hp7; rfl
 rw [hT]
 clear hT
 clear hp2 hp4 hp6 hp7
 go_enter Tryz.func81, Tryz.ntmps81
 go_wp2_with fail
 obtain ⟨W, hW, K0, K1, hB, hz⟩ := bx2 w 24 24 #[.float .f64 0, .float .f64 0] #[.float .f64 0, .float .f64 0]
 rw [← hW]
 have K0 := Lib.hid K0
 have K1 := Lib.hid K1
 have KO0 := Lib.hid (show Blk W g 80 #[Value.int IntKind.u32 2147483648, Value.int IntKind.u32 2147483648] by rw [hW]; exact ((K.alloc _).alloc _))
 have YO0 := Lib.hid (show g < w.heap.size from K.lt)
 have HB := Lib.hid hB
 clear hW hB hz
 have D1 := dr W
 go_wp2_with fail
 refine wp_loop_rounds 1 ?_
 rw [rounds_succ]
 go_wp2_with fail
 refine wp_region_held (S := (fun w' => True ∧ CellsL w' (g) 0 [Value.int IntKind.u32 2147483648, Value.int IntKind.u32 2147483648])) (by kernel_rfl) ?_
 change wpAnyH _ _ _ _ _ _ _ _ (World.drew _)
 obtain ⟨wd2, hwd⟩ : ∃ x, x = World.drew W := ⟨_, rfl⟩
 rw [← hwd]
 have D3 := Lib.hid (hwd ▸ Below.drew D1.out : Below W.heap.size W wd2)
 clear D1 hwd
 have hS4 : True ∧ CellsL wd2 (g) 0 [Value.int IntKind.u32 2147483648, Value.int IntKind.u32 2147483648] := ⟨trivial, (kb KO0 D3).cellsL 0 [Value.int IntKind.u32 2147483648, Value.int IntKind.u32 2147483648] rfl⟩
 refine tkq 0 (bm 17 1) hS4 ?_
 refine tkq 1 (bm 17 3) hS4 ?_
 refine tkq 2 (bm 17 7) hS4 ?_
 refine tke 3 (bm 17 15) hS4 ?_
 refine tkq 7 (bm 17 143) hS4 ?_
 refine tkq 8 (bm 17 399) hS4 ?_
 refine tkq 9 (bm 17 911) hS4 ?_
 refine tkq 10 (bm 17 1935) hS4 ?_
 refine tke 11 (bm 17 3983) hS4 ?_
 refine wpAnyH_oneN (i := 4) (l' := bm 17 3999) rfl (by kernel_rfl) (by kernel_rfl) (by kernel_rfl) (fun K hK => ?_)
 go_simp
 go_at_call 114
 refine (C0.out _).mono ?_
 rintro r w14 ⟨rfl, hb⟩
 dsimp only
 have D15 := ds D3 hb
 clear D3
 clear hb
 have hS16 : True ∧ CellsL w14 (g) 0 [Value.int IntKind.u32 2147483648, Value.int IntKind.u32 2147483648] := ⟨trivial, (kb KO0 D15).cellsL 0 [Value.int IntKind.u32 2147483648, Value.int IntKind.u32 2147483648] rfl⟩
 refine hK _ _ hS16 ?_
 clear hK K hS4
 refine tkq 5 (bm 17 4031) hS16 ?_
 refine tkq 6 (bm 17 4095) hS16 ?_
 refine wpAnyH_oneN (i := 12) (l' := bm 17 8191) rfl (by kernel_rfl) (by kernel_rfl) (by kernel_rfl) (fun K hK => ?_)
 go_simp
 go_at_call 114
 refine (C1.out _).mono ?_
 rintro r w19 ⟨rfl, hb⟩
 dsimp only
 have D20 := ds D15 hb
 clear D15
 clear hb
 have hS21 : True ∧ CellsL w19 (g) 0 [Value.int IntKind.u32 2147483648, Value.int IntKind.u32 2147483648] := ⟨trivial, (kb KO0 D20).cellsL 0 [Value.int IntKind.u32 2147483648, Value.int IntKind.u32 2147483648] rfl⟩
 refine hK _ _ hS21 ?_
 clear hK K hS16
 refine tkq 13 (bm 17 16383) hS21 ?_
 refine tkq 14 (bm 17 32767) hS21 ?_
 refine tkq 15 (bm 17 65535) hS21 ?_
 refine tkq 16 (bm 17 131071) hS21 ?_
 refine wpAnyH_done (by kernel_rfl) ?_ _
 clear hS21
 go_wp2_with fail
 refine (C2.out _).mono ?_
 rintro r w26 ⟨rfl, hb⟩
 have D27 := ds D20 hb
 clear D20
 clear hb
 go_wp2_with fail
 refine (C3.out _).mono ?_
 rintro r w28 ⟨rfl, hb⟩
 have D29 := ds D27 hb
 clear D27
 clear hb
 obtain ⟨g30, hg32⟩ : ∃ g, w28.heap.size = g := ⟨_, rfl⟩
 have Y34 := Lib.hid (show w.heap.size < g30 ∧ w.heap.size + 1 < g30 ∧ g < g30 by rw [← hg32]; exact ⟨(kb K0 D29).lt, (kb K1 D29).lt, (kb KO0 D29).lt⟩)
 obtain ⟨V31, hV33⟩ : ∃ V, w28.alloc (.cells #[.float .f64 0, .float .f64 0] 24) = V := ⟨_, rfl⟩
 have K35 := ka hV33 K0 D29
 have K36 := ka hV33 K1 D29
 have K37 := ka hV33 KO0 D29
 have K38 := kn hV33 hg32
 have HB39 := hba hV33 HB D29
 have D40 := dr V31
 clear K0 K1 KO0 HB D29
 have Y41 := Lib.hid (And.intro YO0.out Y34.out)
 clear YO0 Y34
 obtain ⟨g42, hg44⟩ : ∃ g, V31.heap.size = g := ⟨_, rfl⟩
 have Y46 := Lib.hid (show w.heap.size < g42 ∧ w.heap.size + 1 < g42 ∧ g < g42 ∧ g30 < g42 by rw [← hg44]; exact ⟨(kb K35 D40).lt, (kb K36 D40).lt, (kb K37 D40).lt, (kb K38 D40).lt⟩)
 obtain ⟨V43, hV45⟩ : ∃ V, V31.alloc (.cells #[.float .f64 0, .float .f64 0] 24) = V := ⟨_, rfl⟩
 have K47 := ka hV45 K35 D40
 have K48 := ka hV45 K36 D40
 have K49 := ka hV45 K37 D40
 have K50 := ka hV45 K38 D40
 have K51 := kn hV45 hg44
 have HB52 := hba hV45 HB39 D40
 have D53 := dr V43
 clear K35 K36 K37 K38 HB39 D40
 have Y54 := Lib.hid (And.intro Y41.out Y46.out)
 clear Y41 Y46
 have f57 := (kb K50 D53).cellsL 0 [.float .f64 0, .float .f64 0] rfl
 dsimp only [CellsL, al, vl, Nat.reduceAdd] at f57
 have u58 := (kb K50 D53).unfrozen
 obtain ⟨V55, hV56⟩ : ∃ V, setCells V43 (g30) 0 [.float .f64 p2.lo, .float .f64 p2.hi] = V := ⟨_, rfl⟩
 have hv59 := hV56
 simp only [setCells, Nat.reduceAdd] at hv59
 have K60 := kf hV56 K47 D53 (by have := Y54.out; omega)
 have K61 := kf hV56 K48 D53 (by have := Y54.out; omega)
 have K62 := kf hV56 K49 D53 (by have := Y54.out; omega)
 have K63 := Lib.hid (show Blk V55 (g30) 24 #[.float .f64 p2.lo, .float .f64 p2.hi] from (ks hV56 K50 D53).out)
 have K64 := kf hV56 K51 D53 (by have := Y54.out; omega)
 have HB65 := hbs hV56 HB52 D53 (by have := Y54.out; omega)
 have D66 := dr V55
 clear K47 K48 K49 K50 K51 HB52 D53
 have f69 := (kb K64 D66).cellsL 0 [.float .f64 0, .float .f64 0] rfl
 dsimp only [CellsL, al, vl, Nat.reduceAdd] at f69
 have u70 := (kb K64 D66).unfrozen
 obtain ⟨V67, hV68⟩ : ∃ V, setCells V55 (g42) 0 [.float .f64 p2.lo, .float .f64 p2.hi] = V := ⟨_, rfl⟩
 have hv71 := hV68
 simp only [setCells, Nat.reduceAdd] at hv71
 have K72 := kf hV68 K60 D66 (by have := Y54.out; omega)
 have K73 := kf hV68 K61 D66 (by have := Y54.out; omega)
 have K74 := kf hV68 K62 D66 (by have := Y54.out; omega)
 have K75 := kf hV68 K63 D66 (by have := Y54.out; omega)
 have K76 := Lib.hid (show Blk V67 (g42) 24 #[.float .f64 p2.lo, .float .f64 p2.hi] from (ks hV68 K64 D66).out)
 have HB77 := hbs hV68 HB65 D66 (by have := Y54.out; omega)
 have D78 := dr V67
 clear K60 K61 K62 K63 K64 HB65 D66
 go_wp2_with fail
 clear hg32 hV33 hg44 hV45 hV56 f57 u58 hv59 hV68 f69 u70 hv71
 refine wp_region_held (S := (fun w' => True ∧ CellsL w' (g30) 0 [.float .f64 p2.lo, .float .f64 p2.hi] ∧ CellsL w' (g42) 0 [.float .f64 p2.lo, .float .f64 p2.hi])) (by kernel_rfl) ?_
 change wpAnyH _ _ _ _ _ _ _ _ (World.drew _)
 obtain ⟨wd79, hwd⟩ : ∃ x, x = World.drew V67 := ⟨_, rfl⟩
 rw [← hwd]
 have D80 := Lib.hid (hwd ▸ Below.drew D78.out : Below V67.heap.size V67 wd79)
 clear D78 hwd
 have hS81 : True ∧ CellsL wd79 (g30) 0 [.float .f64 p2.lo, .float .f64 p2.hi] ∧ CellsL wd79 (g42) 0 [.float .f64 p2.lo, .float .f64 p2.hi] := ⟨trivial, (kb K75 D80).cellsL 0 [.float .f64 p2.lo, .float .f64 p2.hi] rfl, (kb K76 D80).cellsL 0 [.float .f64 p2.lo, .float .f64 p2.hi] rfl⟩
 refine tke 0 (bm 8 1) hS81 ?_
 refine tke 2 (bm 8 5) hS81 ?_
 refine wpAnyH_oneN (i := 1) (l' := bm 8 7) rfl (by kernel_rfl) (by kernel_rfl) (by kernel_rfl) (fun K hK => ?_)
 go_simp
 go_at_call 69
 refine (C4.out _).mono ?_
 rintro r w84 ⟨rfl, hb⟩
 dsimp only
 have D85 := ds D80 hb
 clear D80
 clear hb
 have hS86 : True ∧ CellsL w84 (g30) 0 [.float .f64 p2.lo, .float .f64 p2.hi] ∧ CellsL w84 (g42) 0 [.float .f64 p2.lo, .float .f64 p2.hi] := ⟨trivial, (kb K75 D85).cellsL 0 [.float .f64 p2.lo, .float .f64 p2.hi] rfl, (kb K76 D85).cellsL 0 [.float .f64 p2.lo, .float .f64 p2.hi] rfl⟩
 refine hK _ _ hS86 ?_
 clear hK K hS81
 refine wpAnyH_oneN (i := 3) (l' := bm 8 15) rfl (by kernel_rfl) (by kernel_rfl) (by kernel_rfl) (fun K hK => ?_)
 go_simp
 go_at_call 69
 refine (C5.out _).mono ?_
 rintro r w87 ⟨rfl, hb⟩
 dsimp only
 have D88 := ds D85 hb
 clear D85
 clear hb
 have hS89 : True ∧ CellsL w87 (g30) 0 [.float .f64 p2.lo, .float .f64 p2.hi] ∧ CellsL w87 (g42) 0 [.float .f64 p2.lo, .float .f64 p2.hi] := ⟨trivial, (kb K75 D88).cellsL 0 [.float .f64 p2.lo, .float .f64 p2.hi] rfl, (kb K76 D88).cellsL 0 [.float .f64 p2.lo, .float .f64 p2.hi] rfl⟩
 refine hK _ _ hS89 ?_
 clear hK K hS86
 refine wpAnyH_oneN (i := 4) (l' := bm 8 31) rfl (by kernel_rfl) (by kernel_rfl) (by kernel_rfl) (fun K hK => ?_)
 go_simp
 go_at_call 67
 refine (C6.out _).mono ?_
 rintro r w90 ⟨rfl, hb⟩
 dsimp only
 have D91 := ds D88 hb
 clear D88
 clear hb
 have hS92 : True ∧ CellsL w90 (g30) 0 [.float .f64 p2.lo, .float .f64 p2.hi] ∧ CellsL w90 (g42) 0 [.float .f64 p2.lo, .float .f64 p2.hi] := ⟨trivial, (kb K75 D91).cellsL 0 [.float .f64 p2.lo, .float .f64 p2.hi] rfl, (kb K76 D91).cellsL 0 [.float .f64 p2.lo, .float .f64 p2.hi] rfl⟩
 refine hK _ _ hS92 ?_
 clear hK K hS89
 refine wpAnyH_oneN (i := 5) (l' := bm 8 63) rfl (by kernel_rfl) (by kernel_rfl) (by kernel_rfl) (fun K hK => ?_)
 go_simp
 go_at_call 66
 refine (C7.out _).mono ?_
 rintro r w93 ⟨rfl, hb⟩
 dsimp only
 have D94 := ds D91 hb
 clear D91
 clear hb
 have hS95 : True ∧ CellsL w93 (g30) 0 [.float .f64 p2.lo, .float .f64 p2.hi] ∧ CellsL w93 (g42) 0 [.float .f64 p2.lo, .float .f64 p2.hi] := ⟨trivial, (kb K75 D94).cellsL 0 [.float .f64 p2.lo, .float .f64 p2.hi] rfl, (kb K76 D94).cellsL 0 [.float .f64 p2.lo, .float .f64 p2.hi] rfl⟩
 refine hK _ _ hS95 ?_
 clear hK K hS92
 refine wpAnyH_oneN (i := 6) (l' := bm 8 127) rfl (by kernel_rfl) (by kernel_rfl) (by kernel_rfl) (fun K hK => ?_)
 go_simp
 go_at_call 115
 refine (C8.out _).mono ?_
 rintro r w96 ⟨rfl, hb⟩
 dsimp only
 have D97 := ds D94 hb
 clear D94
 clear hb
 have hS98 : True ∧ CellsL w96 (g30) 0 [.float .f64 p2.lo, .float .f64 p2.hi] ∧ CellsL w96 (g42) 0 [.float .f64 p2.lo, .float .f64 p2.hi] := ⟨trivial, (kb K75 D97).cellsL 0 [.float .f64 p2.lo, .float .f64 p2.hi] rfl, (kb K76 D97).cellsL 0 [.float .f64 p2.lo, .float .f64 p2.hi] rfl⟩
 refine hK _ _ hS98 ?_
 clear hK K hS95
 refine tkq 7 (bm 8 255) hS98 ?_
 refine wpAnyH_done (by kernel_rfl) ?_ _
 clear hS98
 go_wp2_with fail
 refine wp_region_held (S := (fun w' => True ∧ CellsL w' (g30) 0 [.float .f64 p2.lo, .float .f64 p2.hi] ∧ CellsL w' (g42) 0 [.float .f64 p2.lo, .float .f64 p2.hi])) (by kernel_rfl) ?_
 change wpAnyH _ _ _ _ _ _ _ _ (World.drew _)
 obtain ⟨wd100, hwd⟩ : ∃ x, x = World.drew w96 := ⟨_, rfl⟩
 rw [← hwd]
 have D101 := Lib.hid (hwd ▸ Below.drew D97.out : Below V67.heap.size V67 wd100)
 clear D97 hwd
 have hS102 : True ∧ CellsL wd100 (g30) 0 [.float .f64 p2.lo, .float .f64 p2.hi] ∧ CellsL wd100 (g42) 0 [.float .f64 p2.lo, .float .f64 p2.hi] := ⟨trivial, (kb K75 D101).cellsL 0 [.float .f64 p2.lo, .float .f64 p2.hi] rfl, (kb K76 D101).cellsL 0 [.float .f64 p2.lo, .float .f64 p2.hi] rfl⟩
 refine tke 0 (bm 8 1) hS102 ?_
 refine tke 1 (bm 8 3) hS102 ?_
 refine tkq 2 (bm 8 7) hS102 ?_
 refine tkq 3 (bm 8 15) hS102 ?_
 refine wpAnyH_oneN (i := 4) (l' := bm 8 31) rfl (by kernel_rfl) (by kernel_rfl) (by kernel_rfl) (fun K hK => ?_)
 have f109 := (kb K72 D101).cellsL 0 [.float .f64 0, .float .f64 0] rfl
 dsimp only [CellsL, al, vl, Nat.reduceAdd] at f109
 have u110 := (kb K72 D101).unfrozen
 obtain ⟨V107, hV108⟩ : ∃ V, setCells wd100 (w.heap.size) 0 [.float .f64 p2.lo, .float .f64 p2.hi] = V := ⟨_, rfl⟩
 have hv111 := hV108
 simp only [setCells, Nat.reduceAdd] at hv111
 have K112 := Lib.hid (show Blk V107 (w.heap.size) 24 #[.float .f64 p2.lo, .float .f64 p2.hi] from (ks hV108 K72 D101).out)
 have K113 := kf hV108 K73 D101 (by have := Y54.out; omega)
 have K114 := kf hV108 K74 D101 (by have := Y54.out; omega)
 have K115 := kf hV108 K75 D101 (by have := Y54.out; omega)
 have K116 := kf hV108 K76 D101 (by have := Y54.out; omega)
 have HB117 := hbs hV108 HB77 D101 (by have := Y54.out; omega)
 have D118 := dr V107
 clear K72 K73 K74 K75 K76 HB77 D101
 go_simp
 clear hV108 f109 u110 hv111
 have hS119 : True ∧ CellsL V107 (g30) 0 [.float .f64 p2.lo, .float .f64 p2.hi] ∧ CellsL V107 (g42) 0 [.float .f64 p2.lo, .float .f64 p2.hi] := ⟨trivial, (kb K115 D118).cellsL 0 [.float .f64 p2.lo, .float .f64 p2.hi] rfl, (kb K116 D118).cellsL 0 [.float .f64 p2.lo, .float .f64 p2.hi] rfl⟩
 refine hK _ _ hS119 ?_
 clear hK K hS102
 refine wpAnyH_oneN (i := 5) (l' := bm 8 63) rfl (by kernel_rfl) (by kernel_rfl) (by kernel_rfl) (fun K hK => ?_)
 have f122 := (kb K113 D118).cellsL 0 [.float .f64 0, .float .f64 0] rfl
 dsimp only [CellsL, al, vl, Nat.reduceAdd] at f122
 have u123 := (kb K113 D118).unfrozen
 obtain ⟨V120, hV121⟩ : ∃ V, setCells V107 (w.heap.size + 1) 0 [.float .f64 p2.lo, .float .f64 p2.hi] = V := ⟨_, rfl⟩
 have hv124 := hV121
 simp only [setCells, Nat.reduceAdd] at hv124
 have K125 := kf hV121 K112 D118 (by have := Y54.out; omega)
 have K126 := Lib.hid (show Blk V120 (w.heap.size + 1) 24 #[.float .f64 p2.lo, .float .f64 p2.hi] from (ks hV121 K113 D118).out)
 have K127 := kf hV121 K114 D118 (by have := Y54.out; omega)
 have K128 := kf hV121 K115 D118 (by have := Y54.out; omega)
 have K129 := kf hV121 K116 D118 (by have := Y54.out; omega)
 have HB130 := hbs hV121 HB117 D118 (by have := Y54.out; omega)
 have D131 := dr V120
 clear K112 K113 K114 K115 K116 HB117 D118
 go_simp
 clear hV121 f122 u123 hv124
 have hS132 : True ∧ CellsL V120 (g30) 0 [.float .f64 p2.lo, .float .f64 p2.hi] ∧ CellsL V120 (g42) 0 [.float .f64 p2.lo, .float .f64 p2.hi] := ⟨trivial, (kb K128 D131).cellsL 0 [.float .f64 p2.lo, .float .f64 p2.hi] rfl, (kb K129 D131).cellsL 0 [.float .f64 p2.lo, .float .f64 p2.hi] rfl⟩
 refine hK _ _ hS132 ?_
 clear hK K hS119
 refine tkq 6 (bm 8 127) hS132 ?_
 refine tkq 7 (bm 8 255) hS132 ?_
 refine wpAnyH_done (by kernel_rfl) ?_ _
 clear hS132
 go_wp2_with fail
 (try simp only [Exit.inBlock, Exit.then])
 exact bodyPost_ret (res_cctt rfl _ _ (w.heap.size) #[.float .f64 p2.lo, .float .f64 p2.hi] (w.heap.size + 1) #[.float .f64 p2.lo, .float .f64 p2.hi] rfl (kb K125 D131) (by rw [info_Span]; rfl) Tryz.underlying24 rfl rfl (kb K126 D131) (by rw [info_Span]; rfl) Tryz.underlying24 rfl) rfl ⟨rfl, below_step HB130.out D131.out⟩
theorem disk_zero (w : World) (g : Nat) (K : Blk w g 80 #[Value.int IntKind.u32 2147483648, Value.int IntKind.u32 2147483648]) : Calls Tryz.prog 81 #[.slice (some ⟨g, 0, none⟩) 2 2] w fun r w' => r = .returned (.tuple #[.agg #[.float .f64 0, .float .f64 0], .agg #[.float .f64 0, .float .f64 0], .int .i64 2, .int .i64 1]) ∧ Below w.heap.size w w' := by
 have h := disk_half w g K
 rw [show ofS 0 = zeroS from Sp.ext (by decide +kernel) (by decide +kernel)] at h
 exact h
theorem awake12  (w : World) : Calls Tryz.prog 34 #[] w fun r w' => r = .returned (.bool true) ∧ Below w.heap.size w w' := by
 have C0 := Lib.hid (fun w => rofV_any 0 0 4607182418800017408 (by decide) (by decide) (by decide) w)
 obtain ⟨p0, hp0⟩ : ∃ z_, vOf 0 0 4607182418800017408 = z_ := ⟨_, rfl⟩
 rw [hp0] at C0
 have C1 := Lib.hid (fun w => rofV_any 4607182418800017408 0 13830554455654793216 (by decide) (by decide) (by decide) w)
 obtain ⟨p1, hp1⟩ : ∃ z_, vOf 4607182418800017408 0 13830554455654793216 = z_ := ⟨_, rfl⟩
 rw [hp1] at C1
 have C2 := Lib.hid (fun w => mirV_any p0 p1 w)
 have hl : bdMir p0 p1 = vOf 4607182418800017408 0 4607182418800017408 := by rw [← hp1, ← hp0]; exact aw_mir
 rw [hl] at C2
 clear hl
 obtain ⟨p2, hp2⟩ : ∃ z_, vOf 4607182418800017408 0 4607182418800017408 = z_ := ⟨_, rfl⟩
 rw [hp2] at C2
 have C3 := Lib.hid (fun w => rofV_any 4607182418800017408 0 4607182418800017408 (by decide) (by decide) (by decide) w)
 rw [hp2] at C3
 clear hp0 hp1 hp2
 have eq_0 := order_self p2.x.vd.l
 have eq_1 := order_self p2.x.vd.h
 have eq_2 := order_self p2.y.vd.l
 have eq_3 := order_self p2.y.vd.h
 have eq_4 := order_self p2.z.vd.l
 have eq_5 := order_self p2.z.vd.h
 have z00 := isZW00
 have eq00 := eq00
 have z00 := isZW00
 have eq00 := eq00
 go_enter Tryz.func34, Tryz.ntmps34
 go_wp2_with fail
 obtain ⟨W, hW⟩ : ∃ W, W = w := ⟨_, rfl⟩
 rw [← hW]
 have HB := Lib.hid (hW ▸ Below.refl w.heap.size w : Below w.heap.size w W)
 clear hW
 have D1 := dr W
 refine (C0.out _).mono ?_
 rintro r w2 ⟨rfl, hb⟩
 have D3 := ds D1 hb
 clear D1
 clear hb
 go_wp2_with fail
 refine (C1.out _).mono ?_
 rintro r w4 ⟨rfl, hb⟩
 have D5 := ds D3 hb
 clear D3
 clear hb
 obtain ⟨g6, hg8⟩ : ∃ g, w4.heap.size = g := ⟨_, rfl⟩
 have Y10 := Lib.hid (show w.heap.size ≤ g6 by rw [← hg8]; exact (below_step HB.out D5.out).size)
 obtain ⟨V7, hV9⟩ : ∃ V, w4.alloc (.cells #[.float .f64 0, .float .f64 0, .float .f64 0, .float .f64 0, .float .f64 0, .float .f64 0] 26) = V := ⟨_, rfl⟩
 have K11 := kn hV9 hg8
 have HB12 := hba hV9 HB D5
 have D13 := dr V7
 clear  HB D5
 obtain ⟨g14, hg16⟩ : ∃ g, V7.heap.size = g := ⟨_, rfl⟩
 have Y18 := Lib.hid (show g6 < g14 by rw [← hg16]; exact (kb K11 D13).lt)
 obtain ⟨V15, hV17⟩ : ∃ V, V7.alloc (.cells #[.float .f64 0, .float .f64 0, .float .f64 0, .float .f64 0, .float .f64 0, .float .f64 0] 26) = V := ⟨_, rfl⟩
 have K19 := ka hV17 K11 D13
 have K20 := kn hV17 hg16
 have HB21 := hba hV17 HB12 D13
 have D22 := dr V15
 clear K11 HB12 D13
 have Y23 := Lib.hid (And.intro Y10.out Y18.out)
 clear Y10 Y18
 have f26 := (kb K19 D22)
 obtain ⟨V24, hV25⟩ : ∃ V, World.setRow V15 (g6) (vc p0) = V := ⟨_, rfl⟩
 have K27 := ksr hV25 K19 D22
 have K28 := kfr hV25 K20 D22 (by have := Y23.out; omega)
 have HB29 := hbr hV25 HB21 D22 (by have := Y23.out; omega)
 have D30 := dr V24
 clear K19 K20 HB21 D22
 have f33 := (kb K28 D30)
 obtain ⟨V31, hV32⟩ : ∃ V, World.setRow V24 (g14) (vc p1) = V := ⟨_, rfl⟩
 have K34 := kfr hV32 K27 D30 (by have := Y23.out; omega)
 have K35 := ksr hV32 K28 D30
 have HB36 := hbr hV32 HB29 D30 (by have := Y23.out; omega)
 have D37 := dr V31
 clear K27 K28 HB29 D30
 obtain ⟨g38, hg40⟩ : ∃ g, V31.heap.size = g := ⟨_, rfl⟩
 have Y42 := Lib.hid (show g6 < g38 ∧ g14 < g38 by rw [← hg40]; exact ⟨(kb K34 D37).lt, (kb K35 D37).lt⟩)
 obtain ⟨V39, hV41⟩ : ∃ V, V31.alloc (.cells #[Value.int IntKind.u32 2147483648, Value.int IntKind.u32 2147483648] 80) = V := ⟨_, rfl⟩
 have K43 := ka hV41 K34 D37
 have K44 := ka hV41 K35 D37
 have K45 := kn hV41 hg40
 have HB46 := hba hV41 HB36 D37
 have D47 := dr V39
 clear K34 K35 HB36 D37
 have Y48 := Lib.hid (And.intro Y23.out Y42.out)
 clear Y23 Y42
 go_wp2_with (first | (refine wpList_store_row rfl 26 _ _ rfl (g6) (vc p0) rfl rfl _ _ f26 (by rw [info_V3]; rfl) rfl (by kernel_rfl) ?_; rw [hV25]) | (refine wpList_store_row rfl 26 _ _ rfl (g14) (vc p1) rfl rfl _ _ f33 (by rw [info_V3]; rfl) rfl (by kernel_rfl) ?_; rw [hV32]))
 clear hg8 hV9 hg16 hV17 hV25 f26 hV32 f33 hg40 hV41
 refine ((disk_zero _ g38 (kb K45 D47))).mono ?_
 rintro r w49 ⟨rfl, hb⟩
 have D50 := ds D47 hb
 clear D47
 clear hb
 obtain ⟨g51, hg53⟩ : ∃ g, w49.heap.size = g := ⟨_, rfl⟩
 have Y55 := Lib.hid (show g6 < g51 ∧ g14 < g51 ∧ g38 < g51 by rw [← hg53]; exact ⟨(kb K43 D50).lt, (kb K44 D50).lt, (kb K45 D50).lt⟩)
 obtain ⟨V52, hV54⟩ : ∃ V, w49.alloc (.cells #[.float .f64 0, .float .f64 0] 24) = V := ⟨_, rfl⟩
 have K56 := ka hV54 K43 D50
 have K57 := ka hV54 K44 D50
 have K58 := ka hV54 K45 D50
 have K59 := kn hV54 hg53
 have HB60 := hba hV54 HB46 D50
 have D61 := dr V52
 clear K43 K44 K45 HB46 D50
 have Y62 := Lib.hid (And.intro Y48.out Y55.out)
 clear Y48 Y55
 obtain ⟨g63, hg65⟩ : ∃ g, V52.heap.size = g := ⟨_, rfl⟩
 have Y67 := Lib.hid (show g6 < g63 ∧ g14 < g63 ∧ g38 < g63 ∧ g51 < g63 by rw [← hg65]; exact ⟨(kb K56 D61).lt, (kb K57 D61).lt, (kb K58 D61).lt, (kb K59 D61).lt⟩)
 obtain ⟨V64, hV66⟩ : ∃ V, V52.alloc (.cells #[.float .f64 0, .float .f64 0] 24) = V := ⟨_, rfl⟩
 have K68 := ka hV66 K56 D61
 have K69 := ka hV66 K57 D61
 have K70 := ka hV66 K58 D61
 have K71 := ka hV66 K59 D61
 have K72 := kn hV66 hg65
 have HB73 := hba hV66 HB60 D61
 have D74 := dr V64
 clear K56 K57 K58 K59 HB60 D61
 have Y75 := Lib.hid (And.intro Y62.out Y67.out)
 clear Y62 Y67
 have f78 := (kb K71 D74).cellsL 0 [.float .f64 0, .float .f64 0] rfl
 dsimp only [CellsL, al, vl, Nat.reduceAdd] at f78
 have u79 := (kb K71 D74).unfrozen
 obtain ⟨V76, hV77⟩ : ∃ V, setCells V64 (g51) 0 [.float .f64 0, .float .f64 0] = V := ⟨_, rfl⟩
 have hv80 := hV77
 simp only [setCells, Nat.reduceAdd] at hv80
 have K81 := kf hV77 K68 D74 (by have := Y75.out; omega)
 have K82 := kf hV77 K69 D74 (by have := Y75.out; omega)
 have K83 := kf hV77 K70 D74 (by have := Y75.out; omega)
 have K84 := Lib.hid (show Blk V76 (g51) 24 #[.float .f64 0, .float .f64 0] from (ks hV77 K71 D74).out)
 have K85 := kf hV77 K72 D74 (by have := Y75.out; omega)
 have HB86 := hbs hV77 HB73 D74 (by have := Y75.out; omega)
 have D87 := dr V76
 clear K68 K69 K70 K71 K72 HB73 D74
 have f90 := (kb K85 D87).cellsL 0 [.float .f64 0, .float .f64 0] rfl
 dsimp only [CellsL, al, vl, Nat.reduceAdd] at f90
 have u91 := (kb K85 D87).unfrozen
 obtain ⟨V88, hV89⟩ : ∃ V, setCells V76 (g63) 0 [.float .f64 0, .float .f64 0] = V := ⟨_, rfl⟩
 have hv92 := hV89
 simp only [setCells, Nat.reduceAdd] at hv92
 have K93 := kf hV89 K81 D87 (by have := Y75.out; omega)
 have K94 := kf hV89 K82 D87 (by have := Y75.out; omega)
 have K95 := kf hV89 K83 D87 (by have := Y75.out; omega)
 have K96 := kf hV89 K84 D87 (by have := Y75.out; omega)
 have K97 := Lib.hid (show Blk V88 (g63) 24 #[.float .f64 0, .float .f64 0] from (ks hV89 K85 D87).out)
 have HB98 := hbs hV89 HB86 D87 (by have := Y75.out; omega)
 have D99 := dr V88
 clear K81 K82 K83 K84 K85 HB86 D87
 have f100 := (kb K93 D99)
 have f101 := (kb K94 D99)
 go_wp2_with (first | (refine wl_load (by kernel_rfl) rfl rfl f100 (by rw [info_V3]; rfl) Tryz.underlying26 rfl ?_) | (refine wl_load (by kernel_rfl) rfl rfl f101 (by rw [info_V3]; rfl) Tryz.underlying26 rfl ?_))
 clear hg53 hV54 hg65 hV66 hV77 f78 u79 hv80 hV89 f90 u91 hv92 f100 f101
 refine (C2.out _).mono ?_
 rintro r w102 ⟨rfl, hb⟩
 have D103 := ds D99 hb
 clear D99
 clear hb
 go_wp2_with fail
 refine (C3.out _).mono ?_
 rintro r w104 ⟨rfl, hb⟩
 have D105 := ds D103 hb
 clear D103
 clear hb
 have hq106 := (kb K96 D105).cellsL 0 [.float .f64 0, .float .f64 0] rfl
 dsimp only [CellsL, al, vl, Nat.reduceAdd] at hq106
 have hq107 := (kb K97 D105).cellsL 0 [.float .f64 0, .float .f64 0] rfl
 dsimp only [CellsL, al, vl, Nat.reduceAdd] at hq107
 go_wp2_with fail
 clear hq106 hq107
 go_ret
 exact ⟨rfl, below_step HB98.out D105.out⟩
end Go.Proofs.YtnljfcebmgifdaaGreat
set_option linter.unusedVariables false
set_option linter.unusedSimpArgs false
namespace Go.Proofs.YtnljfcebmgifdaaGreat
open Go.RowKit Fl
theorem bsdfBends_n0 (n0 n1 n2 n3 n4 n5 d0 d1 d2 d3 d4 d5 q0 q1 i0 i1 o0 o1 : Nat) (hn0 : n0 < 18446744073709551616) (hn1 : n1 < 18446744073709551616) (hn2 : n2 < 18446744073709551616) (hn3 : n3 < 18446744073709551616) (hn4 : n4 < 18446744073709551616) (hn5 : n5 < 18446744073709551616) (hd0 : d0 < 18446744073709551616) (hd1 : d1 < 18446744073709551616) (hd2 : d2 < 18446744073709551616) (hd3 : d3 < 18446744073709551616) (hd4 : d4 < 18446744073709551616) (hd5 : d5 < 18446744073709551616) (hq0 : q0 < 18446744073709551616) (hq1 : q1 < 18446744073709551616) (hi0 : i0 < 18446744073709551616) (hi1 : i1 < 18446744073709551616) (ho0 : o0 < 18446744073709551616) (ho1 : o1 < 18446744073709551616) (v0 : vdV n0 n1 n2 n3 n4 n5 = false) (w : World) : Calls Tryz.prog 5 #[Value.agg #[.float .f64 n0, .float .f64 n1, .float .f64 n2, .float .f64 n3, .float .f64 n4, .float .f64 n5], Value.agg #[.float .f64 d0, .float .f64 d1, .float .f64 d2, .float .f64 d3, .float .f64 d4, .float .f64 d5], Value.agg #[.float .f64 q0, .float .f64 q1], Value.agg #[.float .f64 i0, .float .f64 i1], Value.agg #[.float .f64 o0, .float .f64 o1]] w fun r w' => r = .returned (.bool true) ∧ Below w.heap.size w w' := by
 have C0 := Lib.hid (awake12)
 have C1 := Lib.hid (fun w => rvalidV_any n0 n1 n2 n3 n4 n5 hn0 hn1 hn2 hn3 hn4 hn5 w)
 rw [v0] at C1
 go_enter Tryz.func5, Tryz.ntmps5
 go_wp2_with fail
 obtain ⟨W, hW, K0, K1, K2, K3, K4, hB, hz⟩ := bx5 w 26 26 24 24 24 #[.float .f64 n0, .float .f64 n1, .float .f64 n2, .float .f64 n3, .float .f64 n4, .float .f64 n5] #[.float .f64 d0, .float .f64 d1, .float .f64 d2, .float .f64 d3, .float .f64 d4, .float .f64 d5] #[.float .f64 q0, .float .f64 q1] #[.float .f64 i0, .float .f64 i1] #[.float .f64 o0, .float .f64 o1]
 rw [← hW]
 have K0 := Lib.hid K0
 have K1 := Lib.hid K1
 have K2 := Lib.hid K2
 have K3 := Lib.hid K3
 have K4 := Lib.hid K4
 have HB := Lib.hid hB
 clear hW hB hz
 have D1 := dr W
 refine (C0.out _).mono ?_
 rintro r w2 ⟨rfl, hb⟩
 have D3 := ds D1 hb
 clear D1
 clear hb
 have f4 := (kb K0 D3)
 go_wp2_with (refine wl_load (by kernel_rfl) rfl rfl f4 (by rw [info_V3]; rfl) Tryz.underlying26 rfl ?_)
 clear f4
 refine (C1.out _).mono ?_
 rintro r w5 ⟨rfl, hb⟩
 have D6 := ds D3 hb
 clear D3
 clear hb
 go_wp2_with fail
 go_ret
 exact ⟨rfl, below_step HB.out D6.out⟩
theorem bsdfBends_n1 (n0 n1 n2 n3 n4 n5 d0 d1 d2 d3 d4 d5 q0 q1 i0 i1 o0 o1 : Nat) (hn0 : n0 < 18446744073709551616) (hn1 : n1 < 18446744073709551616) (hn2 : n2 < 18446744073709551616) (hn3 : n3 < 18446744073709551616) (hn4 : n4 < 18446744073709551616) (hn5 : n5 < 18446744073709551616) (hd0 : d0 < 18446744073709551616) (hd1 : d1 < 18446744073709551616) (hd2 : d2 < 18446744073709551616) (hd3 : d3 < 18446744073709551616) (hd4 : d4 < 18446744073709551616) (hd5 : d5 < 18446744073709551616) (hq0 : q0 < 18446744073709551616) (hq1 : q1 < 18446744073709551616) (hi0 : i0 < 18446744073709551616) (hi1 : i1 < 18446744073709551616) (ho0 : o0 < 18446744073709551616) (ho1 : o1 < 18446744073709551616) (v0 : vdV n0 n1 n2 n3 n4 n5 = true) (v1 : vdV d0 d1 d2 d3 d4 d5 = false) (w : World) : Calls Tryz.prog 5 #[Value.agg #[.float .f64 n0, .float .f64 n1, .float .f64 n2, .float .f64 n3, .float .f64 n4, .float .f64 n5], Value.agg #[.float .f64 d0, .float .f64 d1, .float .f64 d2, .float .f64 d3, .float .f64 d4, .float .f64 d5], Value.agg #[.float .f64 q0, .float .f64 q1], Value.agg #[.float .f64 i0, .float .f64 i1], Value.agg #[.float .f64 o0, .float .f64 o1]] w fun r w' => r = .returned (.bool true) ∧ Below w.heap.size w w' := by
 have C0 := Lib.hid (awake12)
 have C1 := Lib.hid (fun w => rvalidV_any n0 n1 n2 n3 n4 n5 hn0 hn1 hn2 hn3 hn4 hn5 w)
 rw [v0] at C1
 have C2 := Lib.hid (fun w => rvalidV_any d0 d1 d2 d3 d4 d5 hd0 hd1 hd2 hd3 hd4 hd5 w)
 rw [v1] at C2
 go_enter Tryz.func5, Tryz.ntmps5
 go_wp2_with fail
 obtain ⟨W, hW, K0, K1, K2, K3, K4, hB, hz⟩ := bx5 w 26 26 24 24 24 #[.float .f64 n0, .float .f64 n1, .float .f64 n2, .float .f64 n3, .float .f64 n4, .float .f64 n5] #[.float .f64 d0, .float .f64 d1, .float .f64 d2, .float .f64 d3, .float .f64 d4, .float .f64 d5] #[.float .f64 q0, .float .f64 q1] #[.float .f64 i0, .float .f64 i1] #[.float .f64 o0, .float .f64 o1]
 rw [← hW]
 have K0 := Lib.hid K0
 have K1 := Lib.hid K1
 have K2 := Lib.hid K2
 have K3 := Lib.hid K3
 have K4 := Lib.hid K4
 have HB := Lib.hid hB
 clear hW hB hz
 have D1 := dr W
 refine (C0.out _).mono ?_
 rintro r w2 ⟨rfl, hb⟩
 have D3 := ds D1 hb
 clear D1
 clear hb
 have f4 := (kb K0 D3)
 go_wp2_with (refine wl_load (by kernel_rfl) rfl rfl f4 (by rw [info_V3]; rfl) Tryz.underlying26 rfl ?_)
 clear f4
 refine (C1.out _).mono ?_
 rintro r w5 ⟨rfl, hb⟩
 have D6 := ds D3 hb
 clear D3
 clear hb
 have f7 := (kb K1 D6)
 go_wp2_with (refine wl_load (by kernel_rfl) rfl rfl f7 (by rw [info_V3]; rfl) Tryz.underlying26 rfl ?_)
 clear f7
 refine (C2.out _).mono ?_
 rintro r w8 ⟨rfl, hb⟩
 have D9 := ds D6 hb
 clear D6
 clear hb
 go_wp2_with fail
 go_ret
 exact ⟨rfl, below_step HB.out D9.out⟩
theorem bsdfBends_n2 (n0 n1 n2 n3 n4 n5 d0 d1 d2 d3 d4 d5 q0 q1 i0 i1 o0 o1 : Nat) (hn0 : n0 < 18446744073709551616) (hn1 : n1 < 18446744073709551616) (hn2 : n2 < 18446744073709551616) (hn3 : n3 < 18446744073709551616) (hn4 : n4 < 18446744073709551616) (hn5 : n5 < 18446744073709551616) (hd0 : d0 < 18446744073709551616) (hd1 : d1 < 18446744073709551616) (hd2 : d2 < 18446744073709551616) (hd3 : d3 < 18446744073709551616) (hd4 : d4 < 18446744073709551616) (hd5 : d5 < 18446744073709551616) (hq0 : q0 < 18446744073709551616) (hq1 : q1 < 18446744073709551616) (hi0 : i0 < 18446744073709551616) (hi1 : i1 < 18446744073709551616) (ho0 : o0 < 18446744073709551616) (ho1 : o1 < 18446744073709551616) (v0 : vdV n0 n1 n2 n3 n4 n5 = true) (v1 : vdV d0 d1 d2 d3 d4 d5 = true) (v2 : vdB q0 q1 = false) (w : World) : Calls Tryz.prog 5 #[Value.agg #[.float .f64 n0, .float .f64 n1, .float .f64 n2, .float .f64 n3, .float .f64 n4, .float .f64 n5], Value.agg #[.float .f64 d0, .float .f64 d1, .float .f64 d2, .float .f64 d3, .float .f64 d4, .float .f64 d5], Value.agg #[.float .f64 q0, .float .f64 q1], Value.agg #[.float .f64 i0, .float .f64 i1], Value.agg #[.float .f64 o0, .float .f64 o1]] w fun r w' => r = .returned (.bool true) ∧ Below w.heap.size w w' := by
 have C0 := Lib.hid (awake12)
 have C1 := Lib.hid (fun w => rvalidV_any n0 n1 n2 n3 n4 n5 hn0 hn1 hn2 hn3 hn4 hn5 w)
 rw [v0] at C1
 have C2 := Lib.hid (fun w => rvalidV_any d0 d1 d2 d3 d4 d5 hd0 hd1 hd2 hd3 hd4 hd5 w)
 rw [v1] at C2
 have C3 := Lib.hid (fun w => rvalid_any q0 q1 hq0 hq1 w)
 rw [v2] at C3
 go_enter Tryz.func5, Tryz.ntmps5
 go_wp2_with fail
 obtain ⟨W, hW, K0, K1, K2, K3, K4, hB, hz⟩ := bx5 w 26 26 24 24 24 #[.float .f64 n0, .float .f64 n1, .float .f64 n2, .float .f64 n3, .float .f64 n4, .float .f64 n5] #[.float .f64 d0, .float .f64 d1, .float .f64 d2, .float .f64 d3, .float .f64 d4, .float .f64 d5] #[.float .f64 q0, .float .f64 q1] #[.float .f64 i0, .float .f64 i1] #[.float .f64 o0, .float .f64 o1]
 rw [← hW]
 have K0 := Lib.hid K0
 have K1 := Lib.hid K1
 have K2 := Lib.hid K2
 have K3 := Lib.hid K3
 have K4 := Lib.hid K4
 have HB := Lib.hid hB
 clear hW hB hz
 have D1 := dr W
 refine (C0.out _).mono ?_
 rintro r w2 ⟨rfl, hb⟩
 have D3 := ds D1 hb
 clear D1
 clear hb
 have f4 := (kb K0 D3)
 go_wp2_with (refine wl_load (by kernel_rfl) rfl rfl f4 (by rw [info_V3]; rfl) Tryz.underlying26 rfl ?_)
 clear f4
 refine (C1.out _).mono ?_
 rintro r w5 ⟨rfl, hb⟩
 have D6 := ds D3 hb
 clear D3
 clear hb
 have f7 := (kb K1 D6)
 go_wp2_with (refine wl_load (by kernel_rfl) rfl rfl f7 (by rw [info_V3]; rfl) Tryz.underlying26 rfl ?_)
 clear f7
 refine (C2.out _).mono ?_
 rintro r w8 ⟨rfl, hb⟩
 have D9 := ds D6 hb
 clear D6
 clear hb
 have hq10 := (kb K2 D9).cellsL 0 [.float .f64 q0, .float .f64 q1] rfl
 dsimp only [CellsL, al, vl, Nat.reduceAdd] at hq10
 go_wp2_with fail
 clear hq10
 refine (C3.out _).mono ?_
 rintro r w11 ⟨rfl, hb⟩
 have D12 := ds D9 hb
 clear D9
 clear hb
 go_wp2_with fail
 go_ret
 exact ⟨rfl, below_step HB.out D12.out⟩
theorem bsdfBends_n3 (n0 n1 n2 n3 n4 n5 d0 d1 d2 d3 d4 d5 q0 q1 i0 i1 o0 o1 : Nat) (hn0 : n0 < 18446744073709551616) (hn1 : n1 < 18446744073709551616) (hn2 : n2 < 18446744073709551616) (hn3 : n3 < 18446744073709551616) (hn4 : n4 < 18446744073709551616) (hn5 : n5 < 18446744073709551616) (hd0 : d0 < 18446744073709551616) (hd1 : d1 < 18446744073709551616) (hd2 : d2 < 18446744073709551616) (hd3 : d3 < 18446744073709551616) (hd4 : d4 < 18446744073709551616) (hd5 : d5 < 18446744073709551616) (hq0 : q0 < 18446744073709551616) (hq1 : q1 < 18446744073709551616) (hi0 : i0 < 18446744073709551616) (hi1 : i1 < 18446744073709551616) (ho0 : o0 < 18446744073709551616) (ho1 : o1 < 18446744073709551616) (v0 : vdV n0 n1 n2 n3 n4 n5 = true) (v1 : vdV d0 d1 d2 d3 d4 d5 = true) (v2 : vdB q0 q1 = true) (v3 : vdB i0 i1 = false) (w : World) : Calls Tryz.prog 5 #[Value.agg #[.float .f64 n0, .float .f64 n1, .float .f64 n2, .float .f64 n3, .float .f64 n4, .float .f64 n5], Value.agg #[.float .f64 d0, .float .f64 d1, .float .f64 d2, .float .f64 d3, .float .f64 d4, .float .f64 d5], Value.agg #[.float .f64 q0, .float .f64 q1], Value.agg #[.float .f64 i0, .float .f64 i1], Value.agg #[.float .f64 o0, .float .f64 o1]] w fun r w' => r = .returned (.bool true) ∧ Below w.heap.size w w' := by
 have C0 := Lib.hid (awake12)
 have C1 := Lib.hid (fun w => rvalidV_any n0 n1 n2 n3 n4 n5 hn0 hn1 hn2 hn3 hn4 hn5 w)
 rw [v0] at C1
 have C2 := Lib.hid (fun w => rvalidV_any d0 d1 d2 d3 d4 d5 hd0 hd1 hd2 hd3 hd4 hd5 w)
 rw [v1] at C2
 have C3 := Lib.hid (fun w => rvalid_any q0 q1 hq0 hq1 w)
 rw [v2] at C3
 have C4 := Lib.hid (fun w => rvalid_any i0 i1 hi0 hi1 w)
 rw [v3] at C4
 go_enter Tryz.func5, Tryz.ntmps5
 go_wp2_with fail
 obtain ⟨W, hW, K0, K1, K2, K3, K4, hB, hz⟩ := bx5 w 26 26 24 24 24 #[.float .f64 n0, .float .f64 n1, .float .f64 n2, .float .f64 n3, .float .f64 n4, .float .f64 n5] #[.float .f64 d0, .float .f64 d1, .float .f64 d2, .float .f64 d3, .float .f64 d4, .float .f64 d5] #[.float .f64 q0, .float .f64 q1] #[.float .f64 i0, .float .f64 i1] #[.float .f64 o0, .float .f64 o1]
 rw [← hW]
 have K0 := Lib.hid K0
 have K1 := Lib.hid K1
 have K2 := Lib.hid K2
 have K3 := Lib.hid K3
 have K4 := Lib.hid K4
 have HB := Lib.hid hB
 clear hW hB hz
 have D1 := dr W
 refine (C0.out _).mono ?_
 rintro r w2 ⟨rfl, hb⟩
 have D3 := ds D1 hb
 clear D1
 clear hb
 have f4 := (kb K0 D3)
 go_wp2_with (refine wl_load (by kernel_rfl) rfl rfl f4 (by rw [info_V3]; rfl) Tryz.underlying26 rfl ?_)
 clear f4
 refine (C1.out _).mono ?_
 rintro r w5 ⟨rfl, hb⟩
 have D6 := ds D3 hb
 clear D3
 clear hb
 have f7 := (kb K1 D6)
 go_wp2_with (refine wl_load (by kernel_rfl) rfl rfl f7 (by rw [info_V3]; rfl) Tryz.underlying26 rfl ?_)
 clear f7
 refine (C2.out _).mono ?_
 rintro r w8 ⟨rfl, hb⟩
 have D9 := ds D6 hb
 clear D6
 clear hb
 have hq10 := (kb K2 D9).cellsL 0 [.float .f64 q0, .float .f64 q1] rfl
 dsimp only [CellsL, al, vl, Nat.reduceAdd] at hq10
 go_wp2_with fail
 clear hq10
 refine (C3.out _).mono ?_
 rintro r w11 ⟨rfl, hb⟩
 have D12 := ds D9 hb
 clear D9
 clear hb
 have hq13 := (kb K3 D12).cellsL 0 [.float .f64 i0, .float .f64 i1] rfl
 dsimp only [CellsL, al, vl, Nat.reduceAdd] at hq13
 go_wp2_with fail
 clear hq13
 refine (C4.out _).mono ?_
 rintro r w14 ⟨rfl, hb⟩
 have D15 := ds D12 hb
 clear D12
 clear hb
 go_wp2_with fail
 go_ret
 exact ⟨rfl, below_step HB.out D15.out⟩
theorem bsdfBends_n4 (n0 n1 n2 n3 n4 n5 d0 d1 d2 d3 d4 d5 q0 q1 i0 i1 o0 o1 : Nat) (hn0 : n0 < 18446744073709551616) (hn1 : n1 < 18446744073709551616) (hn2 : n2 < 18446744073709551616) (hn3 : n3 < 18446744073709551616) (hn4 : n4 < 18446744073709551616) (hn5 : n5 < 18446744073709551616) (hd0 : d0 < 18446744073709551616) (hd1 : d1 < 18446744073709551616) (hd2 : d2 < 18446744073709551616) (hd3 : d3 < 18446744073709551616) (hd4 : d4 < 18446744073709551616) (hd5 : d5 < 18446744073709551616) (hq0 : q0 < 18446744073709551616) (hq1 : q1 < 18446744073709551616) (hi0 : i0 < 18446744073709551616) (hi1 : i1 < 18446744073709551616) (ho0 : o0 < 18446744073709551616) (ho1 : o1 < 18446744073709551616) (v0 : vdV n0 n1 n2 n3 n4 n5 = true) (v1 : vdV d0 d1 d2 d3 d4 d5 = true) (v2 : vdB q0 q1 = true) (v3 : vdB i0 i1 = true) (v4 : vdB o0 o1 = false) (w : World) : Calls Tryz.prog 5 #[Value.agg #[.float .f64 n0, .float .f64 n1, .float .f64 n2, .float .f64 n3, .float .f64 n4, .float .f64 n5], Value.agg #[.float .f64 d0, .float .f64 d1, .float .f64 d2, .float .f64 d3, .float .f64 d4, .float .f64 d5], Value.agg #[.float .f64 q0, .float .f64 q1], Value.agg #[.float .f64 i0, .float .f64 i1], Value.agg #[.float .f64 o0, .float .f64 o1]] w fun r w' => r = .returned (.bool true) ∧ Below w.heap.size w w' := by
 have C0 := Lib.hid (awake12)
 have C1 := Lib.hid (fun w => rvalidV_any n0 n1 n2 n3 n4 n5 hn0 hn1 hn2 hn3 hn4 hn5 w)
 rw [v0] at C1
 have C2 := Lib.hid (fun w => rvalidV_any d0 d1 d2 d3 d4 d5 hd0 hd1 hd2 hd3 hd4 hd5 w)
 rw [v1] at C2
 have C3 := Lib.hid (fun w => rvalid_any q0 q1 hq0 hq1 w)
 rw [v2] at C3
 have C4 := Lib.hid (fun w => rvalid_any i0 i1 hi0 hi1 w)
 rw [v3] at C4
 have C5 := Lib.hid (fun w => rvalid_any o0 o1 ho0 ho1 w)
 rw [v4] at C5
 go_enter Tryz.func5, Tryz.ntmps5
 go_wp2_with fail
 obtain ⟨W, hW, K0, K1, K2, K3, K4, hB, hz⟩ := bx5 w 26 26 24 24 24 #[.float .f64 n0, .float .f64 n1, .float .f64 n2, .float .f64 n3, .float .f64 n4, .float .f64 n5] #[.float .f64 d0, .float .f64 d1, .float .f64 d2, .float .f64 d3, .float .f64 d4, .float .f64 d5] #[.float .f64 q0, .float .f64 q1] #[.float .f64 i0, .float .f64 i1] #[.float .f64 o0, .float .f64 o1]
 rw [← hW]
 have K0 := Lib.hid K0
 have K1 := Lib.hid K1
 have K2 := Lib.hid K2
 have K3 := Lib.hid K3
 have K4 := Lib.hid K4
 have HB := Lib.hid hB
 clear hW hB hz
 have D1 := dr W
 refine (C0.out _).mono ?_
 rintro r w2 ⟨rfl, hb⟩
 have D3 := ds D1 hb
 clear D1
 clear hb
 have f4 := (kb K0 D3)
 go_wp2_with (refine wl_load (by kernel_rfl) rfl rfl f4 (by rw [info_V3]; rfl) Tryz.underlying26 rfl ?_)
 clear f4
 refine (C1.out _).mono ?_
 rintro r w5 ⟨rfl, hb⟩
 have D6 := ds D3 hb
 clear D3
 clear hb
 have f7 := (kb K1 D6)
 go_wp2_with (refine wl_load (by kernel_rfl) rfl rfl f7 (by rw [info_V3]; rfl) Tryz.underlying26 rfl ?_)
 clear f7
 refine (C2.out _).mono ?_
 rintro r w8 ⟨rfl, hb⟩
 have D9 := ds D6 hb
 clear D6
 clear hb
 have hq10 := (kb K2 D9).cellsL 0 [.float .f64 q0, .float .f64 q1] rfl
 dsimp only [CellsL, al, vl, Nat.reduceAdd] at hq10
 go_wp2_with fail
 clear hq10
 refine (C3.out _).mono ?_
 rintro r w11 ⟨rfl, hb⟩
 have D12 := ds D9 hb
 clear D9
 clear hb
 have hq13 := (kb K3 D12).cellsL 0 [.float .f64 i0, .float .f64 i1] rfl
 dsimp only [CellsL, al, vl, Nat.reduceAdd] at hq13
 go_wp2_with fail
 clear hq13
 refine (C4.out _).mono ?_
 rintro r w14 ⟨rfl, hb⟩
 have D15 := ds D12 hb
 clear D12
 clear hb
 have hq16 := (kb K4 D15).cellsL 0 [.float .f64 o0, .float .f64 o1] rfl
 dsimp only [CellsL, al, vl, Nat.reduceAdd] at hq16
 go_wp2_with fail
 clear hq16
 refine (C5.out _).mono ?_
 rintro r w17 ⟨rfl, hb⟩
 have D18 := ds D15 hb
 clear D15
 clear hb
 go_wp2_with fail
 go_ret
 exact ⟨rfl, below_step HB.out D18.out⟩
theorem bsdfBends_1 (A B : V3) (Q I O : Sp) (h : posS (bdRest Q (bdCos A B)) = 1) (w : World) : Calls Tryz.prog 5 #[Value.agg #[.float .f64 A.x.lo, .float .f64 A.x.hi, .float .f64 A.y.lo, .float .f64 A.y.hi, .float .f64 A.z.lo, .float .f64 A.z.hi], Value.agg #[.float .f64 B.x.lo, .float .f64 B.x.hi, .float .f64 B.y.lo, .float .f64 B.y.hi, .float .f64 B.z.lo, .float .f64 B.z.hi], Value.agg #[.float .f64 Q.lo, .float .f64 Q.hi], Value.agg #[.float .f64 I.lo, .float .f64 I.hi], Value.agg #[.float .f64 O.lo, .float .f64 O.hi]] w fun r w' => r = .returned (.bool true) ∧ Below w.heap.size w w' := by
 have C0 := Lib.hid (awake12)
 have C1 := Lib.hid (fun w => rvalidV_v A w)
 have C2 := Lib.hid (fun w => rvalidV_v B w)
 have C3 := Lib.hid (fun w => rvalid_any Q.lo Q.hi Q.vd.l.lt Q.vd.h.lt w)
 rw [vdB_of Q.vd] at C3
 have C4 := Lib.hid (fun w => rvalid_any I.lo I.hi I.vd.l.lt I.vd.h.lt w)
 rw [vdB_of I.vd] at C4
 have C5 := Lib.hid (fun w => rvalid_any O.lo O.hi O.vd.l.lt O.vd.h.lt w)
 rw [vdB_of O.vd] at C5
 have C6 := Lib.hid (fun w => bent_1 A B Q h w)
 obtain ⟨q7_, hq7_⟩ : ∃ z_, bdBent A B Q (sqrtS (bdRest Q (bdCos A B))) = z_ := ⟨_, rfl⟩
 rw [hq7_] at C6
 obtain ⟨q8_, hq8_⟩ : ∃ z_, sqrtS (bdRest Q (bdCos A B)) = z_ := ⟨_, rfl⟩
 rw [hq8_] at C6
 have C9 := Lib.hid (fun w => rbent_1 A B Q h w)
 rw [hq7_] at C9
 rw [hq8_] at C9
 have C10 := Lib.hid (fun w => rsameV_self q7_ w)
 have C11 := Lib.hid (fun w => rsame_sp q8_ w)
 have C12 := Lib.hid (fun w => fresnel_any I O Q w)
 obtain ⟨p12, hp12⟩ : ∃ z_, bdFr I O Q = z_ := ⟨_, rfl⟩
 rw [hp12] at C12
 have C13 := Lib.hid (fun w => rfresnel_any I O Q w)
 rw [hp12] at C13
 have C14 := Lib.hid (fun w => rsame_sp p12 w)
 clear hq7_ hq8_ hp12
 go_enter Tryz.func5, Tryz.ntmps5
 go_wp2_with fail
 obtain ⟨W, hW, K0, K1, K2, K3, K4, hB, hz⟩ := bx5 w 26 26 24 24 24 (vc A) (vc B) #[.float .f64 Q.lo, .float .f64 Q.hi] #[.float .f64 I.lo, .float .f64 I.hi] #[.float .f64 O.lo, .float .f64 O.hi]
 rw [← hW]
 have K0 := Lib.hid K0
 have K1 := Lib.hid K1
 have K2 := Lib.hid K2
 have K3 := Lib.hid K3
 have K4 := Lib.hid K4
 have HB := Lib.hid hB
 clear hW hB hz
 have D1 := dr W
 refine (C0.out _).mono ?_
 rintro r w2 ⟨rfl, hb⟩
 have D3 := ds D1 hb
 clear D1
 clear hb
 have f4 := (kb K0 D3)
 go_wp2_with (refine wl_load (by kernel_rfl) rfl rfl f4 (by rw [info_V3]; rfl) Tryz.underlying26 rfl ?_)
 clear f4
 refine (C1.out _).mono ?_
 rintro r w5 ⟨rfl, hb⟩
 have D6 := ds D3 hb
 clear D3
 clear hb
 have f7 := (kb K1 D6)
 go_wp2_with (refine wl_load (by kernel_rfl) rfl rfl f7 (by rw [info_V3]; rfl) Tryz.underlying26 rfl ?_)
 clear f7
 refine (C2.out _).mono ?_
 rintro r w8 ⟨rfl, hb⟩
 have D9 := ds D6 hb
 clear D6
 clear hb
 have hq10 := (kb K2 D9).cellsL 0 [.float .f64 Q.lo, .float .f64 Q.hi] rfl
 dsimp only [CellsL, al, vl, Nat.reduceAdd] at hq10
 go_wp2_with fail
 clear hq10
 refine (C3.out _).mono ?_
 rintro r w11 ⟨rfl, hb⟩
 have D12 := ds D9 hb
 clear D9
 clear hb
 have hq13 := (kb K3 D12).cellsL 0 [.float .f64 I.lo, .float .f64 I.hi] rfl
 dsimp only [CellsL, al, vl, Nat.reduceAdd] at hq13
 go_wp2_with fail
 clear hq13
 refine (C4.out _).mono ?_
 rintro r w14 ⟨rfl, hb⟩
 have D15 := ds D12 hb
 clear D12
 clear hb
 have hq16 := (kb K4 D15).cellsL 0 [.float .f64 O.lo, .float .f64 O.hi] rfl
 dsimp only [CellsL, al, vl, Nat.reduceAdd] at hq16
 go_wp2_with fail
 clear hq16
 refine (C5.out _).mono ?_
 rintro r w17 ⟨rfl, hb⟩
 have D18 := ds D15 hb
 clear D15
 clear hb
 have f19 := (kb K0 D18)
 have f20 := (kb K1 D18)
 have hq21 := (kb K2 D18).cellsL 0 [.float .f64 Q.lo, .float .f64 Q.hi] rfl
 dsimp only [CellsL, al, vl, Nat.reduceAdd] at hq21
 go_wp2_with (first | (refine wl_load (by kernel_rfl) rfl rfl f19 (by rw [info_V3]; rfl) Tryz.underlying26 rfl ?_) | (refine wl_load (by kernel_rfl) rfl rfl f20 (by rw [info_V3]; rfl) Tryz.underlying26 rfl ?_))
 clear f19 f20 hq21
 refine (C6.out _).mono ?_
 rintro r w22 ⟨rfl, hb⟩
 have D23 := ds D18 hb
 clear D18
 clear hb
 obtain ⟨g24, hg26⟩ : ∃ g, w22.heap.size = g := ⟨_, rfl⟩
 have Y28 := Lib.hid (show w.heap.size < g24 ∧ w.heap.size + 1 < g24 ∧ w.heap.size + 1 + 1 < g24 ∧ w.heap.size + 1 + 1 + 1 < g24 ∧ w.heap.size + 1 + 1 + 1 + 1 < g24 by rw [← hg26]; exact ⟨(kb K0 D23).lt, (kb K1 D23).lt, (kb K2 D23).lt, (kb K3 D23).lt, (kb K4 D23).lt⟩)
 obtain ⟨V25, hV27⟩ : ∃ V, w22.alloc (.cells #[.float .f64 0, .float .f64 0, .float .f64 0, .float .f64 0, .float .f64 0, .float .f64 0] 26) = V := ⟨_, rfl⟩
 have K29 := ka hV27 K0 D23
 have K30 := ka hV27 K1 D23
 have K31 := ka hV27 K2 D23
 have K32 := ka hV27 K3 D23
 have K33 := ka hV27 K4 D23
 have K34 := kn hV27 hg26
 have HB35 := hba hV27 HB D23
 have D36 := dr V25
 clear K0 K1 K2 K3 K4 HB D23
 obtain ⟨g37, hg39⟩ : ∃ g, V25.heap.size = g := ⟨_, rfl⟩
 have Y41 := Lib.hid (show w.heap.size < g37 ∧ w.heap.size + 1 < g37 ∧ w.heap.size + 1 + 1 < g37 ∧ w.heap.size + 1 + 1 + 1 < g37 ∧ w.heap.size + 1 + 1 + 1 + 1 < g37 ∧ g24 < g37 by rw [← hg39]; exact ⟨(kb K29 D36).lt, (kb K30 D36).lt, (kb K31 D36).lt, (kb K32 D36).lt, (kb K33 D36).lt, (kb K34 D36).lt⟩)
 obtain ⟨V38, hV40⟩ : ∃ V, V25.alloc (.cells #[.float .f64 0, .float .f64 0] 24) = V := ⟨_, rfl⟩
 have K42 := ka hV40 K29 D36
 have K43 := ka hV40 K30 D36
 have K44 := ka hV40 K31 D36
 have K45 := ka hV40 K32 D36
 have K46 := ka hV40 K33 D36
 have K47 := ka hV40 K34 D36
 have K48 := kn hV40 hg39
 have HB49 := hba hV40 HB35 D36
 have D50 := dr V38
 clear K29 K30 K31 K32 K33 K34 HB35 D36
 have Y51 := Lib.hid (And.intro Y28.out Y41.out)
 clear Y28 Y41
 have f54 := (kb K47 D50)
 obtain ⟨V52, hV53⟩ : ∃ V, World.setRow V38 (g24) (vc q7_) = V := ⟨_, rfl⟩
 have K55 := kfr hV53 K42 D50 (by have := Y51.out; omega)
 have K56 := kfr hV53 K43 D50 (by have := Y51.out; omega)
 have K57 := kfr hV53 K44 D50 (by have := Y51.out; omega)
 have K58 := kfr hV53 K45 D50 (by have := Y51.out; omega)
 have K59 := kfr hV53 K46 D50 (by have := Y51.out; omega)
 have K60 := ksr hV53 K47 D50
 have K61 := kfr hV53 K48 D50 (by have := Y51.out; omega)
 have HB62 := hbr hV53 HB49 D50 (by have := Y51.out; omega)
 have D63 := dr V52
 clear K42 K43 K44 K45 K46 K47 K48 HB49 D50
 have f66 := (kb K61 D63).cellsL 0 [.float .f64 0, .float .f64 0] rfl
 dsimp only [CellsL, al, vl, Nat.reduceAdd] at f66
 have u67 := (kb K61 D63).unfrozen
 obtain ⟨V64, hV65⟩ : ∃ V, setCells V52 (g37) 0 [.float .f64 q8_.lo, .float .f64 q8_.hi] = V := ⟨_, rfl⟩
 have hv68 := hV65
 simp only [setCells, Nat.reduceAdd] at hv68
 have K69 := kf hV65 K55 D63 (by have := Y51.out; omega)
 have K70 := kf hV65 K56 D63 (by have := Y51.out; omega)
 have K71 := kf hV65 K57 D63 (by have := Y51.out; omega)
 have K72 := kf hV65 K58 D63 (by have := Y51.out; omega)
 have K73 := kf hV65 K59 D63 (by have := Y51.out; omega)
 have K74 := kf hV65 K60 D63 (by have := Y51.out; omega)
 have K75 := Lib.hid (show Blk V64 (g37) 24 #[.float .f64 q8_.lo, .float .f64 q8_.hi] from (ks hV65 K61 D63).out)
 have HB76 := hbs hV65 HB62 D63 (by have := Y51.out; omega)
 have D77 := dr V64
 clear K55 K56 K57 K58 K59 K60 K61 HB62 D63
 have f78 := (kb K69 D77)
 have f79 := (kb K70 D77)
 have hq80 := (kb K71 D77).cellsL 0 [.float .f64 Q.lo, .float .f64 Q.hi] rfl
 dsimp only [CellsL, al, vl, Nat.reduceAdd] at hq80
 go_wp2_with (first | (refine wpList_store_row rfl 26 _ _ rfl (g24) (vc q7_) rfl rfl _ _ f54 (by rw [info_V3]; rfl) rfl (by kernel_rfl) ?_; rw [hV53]) | (refine wl_load (by kernel_rfl) rfl rfl f78 (by rw [info_V3]; rfl) Tryz.underlying26 rfl ?_) | (refine wl_load (by kernel_rfl) rfl rfl f79 (by rw [info_V3]; rfl) Tryz.underlying26 rfl ?_))
 clear hg26 hV27 hg39 hV40 hV53 f54 hV65 f66 u67 hv68 f78 f79 hq80
 refine (C9.out _).mono ?_
 rintro r w81 ⟨rfl, hb⟩
 have D82 := ds D77 hb
 clear D77
 clear hb
 obtain ⟨g83, hg85⟩ : ∃ g, w81.heap.size = g := ⟨_, rfl⟩
 have Y87 := Lib.hid (show w.heap.size < g83 ∧ w.heap.size + 1 < g83 ∧ w.heap.size + 1 + 1 < g83 ∧ w.heap.size + 1 + 1 + 1 < g83 ∧ w.heap.size + 1 + 1 + 1 + 1 < g83 ∧ g24 < g83 ∧ g37 < g83 by rw [← hg85]; exact ⟨(kb K69 D82).lt, (kb K70 D82).lt, (kb K71 D82).lt, (kb K72 D82).lt, (kb K73 D82).lt, (kb K74 D82).lt, (kb K75 D82).lt⟩)
 obtain ⟨V84, hV86⟩ : ∃ V, w81.alloc (.cells #[.float .f64 0, .float .f64 0, .float .f64 0, .float .f64 0, .float .f64 0, .float .f64 0] 26) = V := ⟨_, rfl⟩
 have K88 := ka hV86 K71 D82
 have K89 := ka hV86 K72 D82
 have K90 := ka hV86 K73 D82
 have K91 := ka hV86 K74 D82
 have K92 := ka hV86 K75 D82
 have K93 := kn hV86 hg85
 have HB94 := hba hV86 HB76 D82
 have D95 := dr V84
 clear K69 K70 K71 K72 K73 K74 K75 HB76 D82
 have Y96 := Lib.hid (And.intro Y51.out Y87.out)
 clear Y51 Y87
 obtain ⟨g97, hg99⟩ : ∃ g, V84.heap.size = g := ⟨_, rfl⟩
 have Y101 := Lib.hid (show w.heap.size + 1 + 1 < g97 ∧ w.heap.size + 1 + 1 + 1 < g97 ∧ w.heap.size + 1 + 1 + 1 + 1 < g97 ∧ g24 < g97 ∧ g37 < g97 ∧ g83 < g97 by rw [← hg99]; exact ⟨(kb K88 D95).lt, (kb K89 D95).lt, (kb K90 D95).lt, (kb K91 D95).lt, (kb K92 D95).lt, (kb K93 D95).lt⟩)
 obtain ⟨V98, hV100⟩ : ∃ V, V84.alloc (.cells #[.float .f64 0, .float .f64 0] 24) = V := ⟨_, rfl⟩
 have K102 := ka hV100 K88 D95
 have K103 := ka hV100 K89 D95
 have K104 := ka hV100 K90 D95
 have K105 := ka hV100 K91 D95
 have K106 := ka hV100 K92 D95
 have K107 := ka hV100 K93 D95
 have K108 := kn hV100 hg99
 have HB109 := hba hV100 HB94 D95
 have D110 := dr V98
 clear K88 K89 K90 K91 K92 K93 HB94 D95
 have Y111 := Lib.hid (And.intro Y96.out Y101.out)
 clear Y96 Y101
 have f114 := (kb K107 D110)
 obtain ⟨V112, hV113⟩ : ∃ V, World.setRow V98 (g83) (vc q7_) = V := ⟨_, rfl⟩
 have K115 := kfr hV113 K102 D110 (by have := Y111.out; omega)
 have K116 := kfr hV113 K103 D110 (by have := Y111.out; omega)
 have K117 := kfr hV113 K104 D110 (by have := Y111.out; omega)
 have K118 := kfr hV113 K105 D110 (by have := Y111.out; omega)
 have K119 := kfr hV113 K106 D110 (by have := Y111.out; omega)
 have K120 := ksr hV113 K107 D110
 have K121 := kfr hV113 K108 D110 (by have := Y111.out; omega)
 have HB122 := hbr hV113 HB109 D110 (by have := Y111.out; omega)
 have D123 := dr V112
 clear K102 K103 K104 K105 K106 K107 K108 HB109 D110
 have f126 := (kb K121 D123).cellsL 0 [.float .f64 0, .float .f64 0] rfl
 dsimp only [CellsL, al, vl, Nat.reduceAdd] at f126
 have u127 := (kb K121 D123).unfrozen
 obtain ⟨V124, hV125⟩ : ∃ V, setCells V112 (g97) 0 [.float .f64 q8_.lo, .float .f64 q8_.hi] = V := ⟨_, rfl⟩
 have hv128 := hV125
 simp only [setCells, Nat.reduceAdd] at hv128
 have K129 := kf hV125 K115 D123 (by have := Y111.out; omega)
 have K130 := kf hV125 K116 D123 (by have := Y111.out; omega)
 have K131 := kf hV125 K117 D123 (by have := Y111.out; omega)
 have K132 := kf hV125 K118 D123 (by have := Y111.out; omega)
 have K133 := kf hV125 K119 D123 (by have := Y111.out; omega)
 have K134 := kf hV125 K120 D123 (by have := Y111.out; omega)
 have K135 := Lib.hid (show Blk V124 (g97) 24 #[.float .f64 q8_.lo, .float .f64 q8_.hi] from (ks hV125 K121 D123).out)
 have HB136 := hbs hV125 HB122 D123 (by have := Y111.out; omega)
 have D137 := dr V124
 clear K115 K116 K117 K118 K119 K120 K121 HB122 D123
 go_wp2_with (refine wpList_store_row rfl 26 _ _ rfl (g83) (vc q7_) rfl rfl _ _ f114 (by rw [info_V3]; rfl) rfl (by kernel_rfl) ?_; rw [hV113])
 clear hg85 hV86 hg99 hV100 hV113 f114 hV125 f126 u127 hv128
 refine wp_region_held (S := (fun w' => True ∧ Blk w' (g24) 26 (vc q7_) ∧ Blk w' (g83) 26 (vc q7_) ∧ CellsL w' (w.heap.size + 1 + 1) 0 [.float .f64 Q.lo, .float .f64 Q.hi] ∧ CellsL w' (w.heap.size + 1 + 1 + 1) 0 [.float .f64 I.lo, .float .f64 I.hi] ∧ CellsL w' (w.heap.size + 1 + 1 + 1 + 1) 0 [.float .f64 O.lo, .float .f64 O.hi] ∧ CellsL w' (g37) 0 [.float .f64 q8_.lo, .float .f64 q8_.hi] ∧ CellsL w' (g97) 0 [.float .f64 q8_.lo, .float .f64 q8_.hi])) (by kernel_rfl) ?_
 change wpAnyH _ _ _ _ _ _ _ _ (World.drew _)
 obtain ⟨wd138, hwd⟩ : ∃ x, x = World.drew V124 := ⟨_, rfl⟩
 rw [← hwd]
 have D139 := Lib.hid (hwd ▸ Below.drew D137.out : Below V124.heap.size V124 wd138)
 clear D137 hwd
 have HS141 := Lib.hid (show ∀ w', Below V124.heap.size V124 w' → (True ∧ Blk w' (g24) 26 (vc q7_) ∧ Blk w' (g83) 26 (vc q7_) ∧ CellsL w' (w.heap.size + 1 + 1) 0 [.float .f64 Q.lo, .float .f64 Q.hi] ∧ CellsL w' (w.heap.size + 1 + 1 + 1) 0 [.float .f64 I.lo, .float .f64 I.hi] ∧ CellsL w' (w.heap.size + 1 + 1 + 1 + 1) 0 [.float .f64 O.lo, .float .f64 O.hi] ∧ CellsL w' (g37) 0 [.float .f64 q8_.lo, .float .f64 q8_.hi] ∧ CellsL w' (g97) 0 [.float .f64 q8_.lo, .float .f64 q8_.hi]) from fun w' b => ⟨trivial, (K132.out.below b K132.out.lt), (K134.out.below b K134.out.lt), (K129.out.below b K129.out.lt).cellsL 0 [.float .f64 Q.lo, .float .f64 Q.hi] rfl, (K130.out.below b K130.out.lt).cellsL 0 [.float .f64 I.lo, .float .f64 I.hi] rfl, (K131.out.below b K131.out.lt).cellsL 0 [.float .f64 O.lo, .float .f64 O.hi] rfl, (K133.out.below b K133.out.lt).cellsL 0 [.float .f64 q8_.lo, .float .f64 q8_.hi] rfl, (K135.out.below b K135.out.lt).cellsL 0 [.float .f64 q8_.lo, .float .f64 q8_.hi] rfl⟩)
 have hS140 := HS141.out _ D139.out
 refine tkL 0 (bm 25 1) ?aq142 rfl (by kernel_rfl) (fun _ _ _ h => h) (by kernel_rfl) rfl rfl (fun _ hS => hS.2.1) (by rw [info_V3]; rfl) Tryz.underlying26 rfl ?pq142 hS140 ?rq142
 case pq142 => (go_simp; try with_reducible rfl)
 refine tkL 1 (bm 25 3) ?aq143 rfl (by kernel_rfl) (fun _ _ _ h => h) (by kernel_rfl) rfl rfl (fun _ hS => hS.2.2.1) (by rw [info_V3]; rfl) Tryz.underlying26 rfl ?pq143 hS140 ?rq143
 case pq143 => (go_simp; try with_reducible rfl)
 refine wpAnyH_oneN (i := 2) (l' := bm 25 7) rfl (by kernel_rfl) (by kernel_rfl) (by kernel_rfl) (fun K hK => ?_)
 go_simp
 go_at_call 11
 refine (C10.out _).mono ?_
 rintro r w144 ⟨rfl, hb⟩
 dsimp only
 have D145 := ds D139 hb
 clear D139
 clear hb
 have hS146 := HS141.out _ D145.out
 refine hK _ _ hS146 ?_
 clear hK K hS140
 refine tkq 3 (bm 25 15) hS146 ?_
 refine tke 4 (bm 25 31) hS146 ?_
 refine tke 5 (bm 25 63) hS146 ?_
 refine wpAnyH_oneN (i := 6) (l' := bm 25 127) rfl (by kernel_rfl) (by kernel_rfl) (by kernel_rfl) (fun K hK => ?_)
 go_simp
 go_at_call 19
 refine (C11.out _).mono ?_
 rintro r w150 ⟨rfl, hb⟩
 dsimp only
 have D151 := ds D145 hb
 clear D145
 clear hb
 have hS152 := HS141.out _ D151.out
 refine hK _ _ hS152 ?_
 clear hK K hS146
 refine tkq 7 (bm 25 255) hS152 ?_
 refine tkq 8 (bm 25 511) hS152 ?_
 refine tkq 9 (bm 25 1023) hS152 ?_
 refine tkq 10 (bm 25 2047) hS152 ?_
 refine tkq 11 (bm 25 4095) hS152 ?_
 refine tkq 12 (bm 25 8191) hS152 ?_
 refine tkq 13 (bm 25 16383) hS152 ?_
 refine tke 14 (bm 25 32767) hS152 ?_
 refine tke 15 (bm 25 65535) hS152 ?_
 refine tke 16 (bm 25 131071) hS152 ?_
 refine tke 18 (bm 25 393215) hS152 ?_
 refine tke 19 (bm 25 917503) hS152 ?_
 refine tke 20 (bm 25 1966079) hS152 ?_
 refine wpAnyH_oneN (i := 17) (l' := bm 25 2097151) rfl (by kernel_rfl) (by kernel_rfl) (by kernel_rfl) (fun K hK => ?_)
 go_simp
 go_at_call 37
 refine (C12.out _).mono ?_
 rintro r w166 ⟨rfl, hb⟩
 dsimp only
 have D167 := ds D151 hb
 clear D151
 clear hb
 have hS168 := HS141.out _ D167.out
 refine hK _ _ hS168 ?_
 clear hK K hS152
 refine wpAnyH_oneN (i := 21) (l' := bm 25 4194303) rfl (by kernel_rfl) (by kernel_rfl) (by kernel_rfl) (fun K hK => ?_)
 go_simp
 go_at_call 38
 refine (C13.out _).mono ?_
 rintro r w169 ⟨rfl, hb⟩
 dsimp only
 have D170 := ds D167 hb
 clear D167
 clear hb
 have hS171 := HS141.out _ D170.out
 refine hK _ _ hS171 ?_
 clear hK K hS168
 refine wpAnyH_oneN (i := 22) (l' := bm 25 8388607) rfl (by kernel_rfl) (by kernel_rfl) (by kernel_rfl) (fun K hK => ?_)
 go_simp
 go_at_call 19
 refine (C14.out _).mono ?_
 rintro r w172 ⟨rfl, hb⟩
 dsimp only
 have D173 := ds D170 hb
 clear D170
 clear hb
 have hS174 := HS141.out _ D173.out
 refine hK _ _ hS174 ?_
 clear hK K hS171
 refine tkq 23 (bm 25 16777215) hS174 ?_
 refine tkq 24 (bm 25 33554431) hS174 ?_
 refine wpAnyH_done (by kernel_rfl) ?_ _
 clear hS174
 go_wp2_with fail
 go_ret
 exact ⟨rfl, below_step HB136.out D173.out⟩
theorem bsdfBends_0 (A B : V3) (Q I O : Sp) (h : posS (bdRest Q (bdCos A B)) = 0) (w : World) : Calls Tryz.prog 5 #[Value.agg #[.float .f64 A.x.lo, .float .f64 A.x.hi, .float .f64 A.y.lo, .float .f64 A.y.hi, .float .f64 A.z.lo, .float .f64 A.z.hi], Value.agg #[.float .f64 B.x.lo, .float .f64 B.x.hi, .float .f64 B.y.lo, .float .f64 B.y.hi, .float .f64 B.z.lo, .float .f64 B.z.hi], Value.agg #[.float .f64 Q.lo, .float .f64 Q.hi], Value.agg #[.float .f64 I.lo, .float .f64 I.hi], Value.agg #[.float .f64 O.lo, .float .f64 O.hi]] w fun r w' => r = .returned (.bool true) ∧ Below w.heap.size w w' := by
 have C0 := Lib.hid (awake12)
 have C1 := Lib.hid (fun w => rvalidV_v A w)
 have C2 := Lib.hid (fun w => rvalidV_v B w)
 have C3 := Lib.hid (fun w => rvalid_any Q.lo Q.hi Q.vd.l.lt Q.vd.h.lt w)
 rw [vdB_of Q.vd] at C3
 have C4 := Lib.hid (fun w => rvalid_any I.lo I.hi I.vd.l.lt I.vd.h.lt w)
 rw [vdB_of I.vd] at C4
 have C5 := Lib.hid (fun w => rvalid_any O.lo O.hi O.vd.l.lt O.vd.h.lt w)
 rw [vdB_of O.vd] at C5
 have C6 := Lib.hid (fun w => bent_0 A B Q h w)
 have C7 := Lib.hid (fun w => rbent_0 A B Q h w)
 have C8 := Lib.hid (fun w => rsameV_self zeroV w)
 simp only [zeroS_lo, zeroS_hi, zeroV_x, zeroV_y, zeroV_z, zeroA_a, zeroA_b, zeroA_c, zeroA_t] at C8
 have C9 := Lib.hid (fun w => rsame_sp zeroS w)
 simp only [zeroS_lo, zeroS_hi, zeroV_x, zeroV_y, zeroV_z, zeroA_a, zeroA_b, zeroA_c, zeroA_t] at C9
 have C10 := Lib.hid (fun w => fresnel_any I O Q w)
 obtain ⟨p10, hp10⟩ : ∃ z_, bdFr I O Q = z_ := ⟨_, rfl⟩
 rw [hp10] at C10
 have C11 := Lib.hid (fun w => rfresnel_any I O Q w)
 rw [hp10] at C11
 have C12 := Lib.hid (fun w => rsame_sp p10 w)
 clear hp10
 go_enter Tryz.func5, Tryz.ntmps5
 go_wp2_with fail
 obtain ⟨W, hW, K0, K1, K2, K3, K4, hB, hz⟩ := bx5 w 26 26 24 24 24 (vc A) (vc B) #[.float .f64 Q.lo, .float .f64 Q.hi] #[.float .f64 I.lo, .float .f64 I.hi] #[.float .f64 O.lo, .float .f64 O.hi]
 rw [← hW]
 have K0 := Lib.hid K0
 have K1 := Lib.hid K1
 have K2 := Lib.hid K2
 have K3 := Lib.hid K3
 have K4 := Lib.hid K4
 have HB := Lib.hid hB
 clear hW hB hz
 have D1 := dr W
 refine (C0.out _).mono ?_
 rintro r w2 ⟨rfl, hb⟩
 have D3 := ds D1 hb
 clear D1
 clear hb
 have f4 := (kb K0 D3)
 go_wp2_with (refine wl_load (by kernel_rfl) rfl rfl f4 (by rw [info_V3]; rfl) Tryz.underlying26 rfl ?_)
 clear f4
 refine (C1.out _).mono ?_
 rintro r w5 ⟨rfl, hb⟩
 have D6 := ds D3 hb
 clear D3
 clear hb
 have f7 := (kb K1 D6)
 go_wp2_with (refine wl_load (by kernel_rfl) rfl rfl f7 (by rw [info_V3]; rfl) Tryz.underlying26 rfl ?_)
 clear f7
 refine (C2.out _).mono ?_
 rintro r w8 ⟨rfl, hb⟩
 have D9 := ds D6 hb
 clear D6
 clear hb
 have hq10 := (kb K2 D9).cellsL 0 [.float .f64 Q.lo, .float .f64 Q.hi] rfl
 dsimp only [CellsL, al, vl, Nat.reduceAdd] at hq10
 go_wp2_with fail
 clear hq10
 refine (C3.out _).mono ?_
 rintro r w11 ⟨rfl, hb⟩
 have D12 := ds D9 hb
 clear D9
 clear hb
 have hq13 := (kb K3 D12).cellsL 0 [.float .f64 I.lo, .float .f64 I.hi] rfl
 dsimp only [CellsL, al, vl, Nat.reduceAdd] at hq13
 go_wp2_with fail
 clear hq13
 refine (C4.out _).mono ?_
 rintro r w14 ⟨rfl, hb⟩
 have D15 := ds D12 hb
 clear D12
 clear hb
 have hq16 := (kb K4 D15).cellsL 0 [.float .f64 O.lo, .float .f64 O.hi] rfl
 dsimp only [CellsL, al, vl, Nat.reduceAdd] at hq16
 go_wp2_with fail
 clear hq16
 refine (C5.out _).mono ?_
 rintro r w17 ⟨rfl, hb⟩
 have D18 := ds D15 hb
 clear D15
 clear hb
 have f19 := (kb K0 D18)
 have f20 := (kb K1 D18)
 have hq21 := (kb K2 D18).cellsL 0 [.float .f64 Q.lo, .float .f64 Q.hi] rfl
 dsimp only [CellsL, al, vl, Nat.reduceAdd] at hq21
 go_wp2_with (first | (refine wl_load (by kernel_rfl) rfl rfl f19 (by rw [info_V3]; rfl) Tryz.underlying26 rfl ?_) | (refine wl_load (by kernel_rfl) rfl rfl f20 (by rw [info_V3]; rfl) Tryz.underlying26 rfl ?_))
 clear f19 f20 hq21
 refine (C6.out _).mono ?_
 rintro r w22 ⟨rfl, hb⟩
 have D23 := ds D18 hb
 clear D18
 clear hb
 obtain ⟨g24, hg26⟩ : ∃ g, w22.heap.size = g := ⟨_, rfl⟩
 have Y28 := Lib.hid (show w.heap.size < g24 ∧ w.heap.size + 1 < g24 ∧ w.heap.size + 1 + 1 < g24 ∧ w.heap.size + 1 + 1 + 1 < g24 ∧ w.heap.size + 1 + 1 + 1 + 1 < g24 by rw [← hg26]; exact ⟨(kb K0 D23).lt, (kb K1 D23).lt, (kb K2 D23).lt, (kb K3 D23).lt, (kb K4 D23).lt⟩)
 obtain ⟨V25, hV27⟩ : ∃ V, w22.alloc (.cells #[.float .f64 0, .float .f64 0, .float .f64 0, .float .f64 0, .float .f64 0, .float .f64 0] 26) = V := ⟨_, rfl⟩
 have K29 := ka hV27 K0 D23
 have K30 := ka hV27 K1 D23
 have K31 := ka hV27 K2 D23
 have K32 := ka hV27 K3 D23
 have K33 := ka hV27 K4 D23
 have K34 := kn hV27 hg26
 have HB35 := hba hV27 HB D23
 have D36 := dr V25
 clear K0 K1 K2 K3 K4 HB D23
 obtain ⟨g37, hg39⟩ : ∃ g, V25.heap.size = g := ⟨_, rfl⟩
 have Y41 := Lib.hid (show w.heap.size < g37 ∧ w.heap.size + 1 < g37 ∧ w.heap.size + 1 + 1 < g37 ∧ w.heap.size + 1 + 1 + 1 < g37 ∧ w.heap.size + 1 + 1 + 1 + 1 < g37 ∧ g24 < g37 by rw [← hg39]; exact ⟨(kb K29 D36).lt, (kb K30 D36).lt, (kb K31 D36).lt, (kb K32 D36).lt, (kb K33 D36).lt, (kb K34 D36).lt⟩)
 obtain ⟨V38, hV40⟩ : ∃ V, V25.alloc (.cells #[.float .f64 0, .float .f64 0] 24) = V := ⟨_, rfl⟩
 have K42 := ka hV40 K29 D36
 have K43 := ka hV40 K30 D36
 have K44 := ka hV40 K31 D36
 have K45 := ka hV40 K32 D36
 have K46 := ka hV40 K33 D36
 have K47 := ka hV40 K34 D36
 have K48 := kn hV40 hg39
 have HB49 := hba hV40 HB35 D36
 have D50 := dr V38
 clear K29 K30 K31 K32 K33 K34 HB35 D36
 have Y51 := Lib.hid (And.intro Y28.out Y41.out)
 clear Y28 Y41
 have f54 := (kb K47 D50)
 obtain ⟨V52, hV53⟩ : ∃ V, World.setRow V38 (g24) #[.float .f64 0, .float .f64 0, .float .f64 0, .float .f64 0, .float .f64 0, .float .f64 0] = V := ⟨_, rfl⟩
 have K55 := kfr hV53 K42 D50 (by have := Y51.out; omega)
 have K56 := kfr hV53 K43 D50 (by have := Y51.out; omega)
 have K57 := kfr hV53 K44 D50 (by have := Y51.out; omega)
 have K58 := kfr hV53 K45 D50 (by have := Y51.out; omega)
 have K59 := kfr hV53 K46 D50 (by have := Y51.out; omega)
 have K60 := ksr hV53 K47 D50
 have K61 := kfr hV53 K48 D50 (by have := Y51.out; omega)
 have HB62 := hbr hV53 HB49 D50 (by have := Y51.out; omega)
 have D63 := dr V52
 clear K42 K43 K44 K45 K46 K47 K48 HB49 D50
 have f66 := (kb K61 D63).cellsL 0 [.float .f64 0, .float .f64 0] rfl
 dsimp only [CellsL, al, vl, Nat.reduceAdd] at f66
 have u67 := (kb K61 D63).unfrozen
 obtain ⟨V64, hV65⟩ : ∃ V, setCells V52 (g37) 0 [.float .f64 0, .float .f64 0] = V := ⟨_, rfl⟩
 have hv68 := hV65
 simp only [setCells, Nat.reduceAdd] at hv68
 have K69 := kf hV65 K55 D63 (by have := Y51.out; omega)
 have K70 := kf hV65 K56 D63 (by have := Y51.out; omega)
 have K71 := kf hV65 K57 D63 (by have := Y51.out; omega)
 have K72 := kf hV65 K58 D63 (by have := Y51.out; omega)
 have K73 := kf hV65 K59 D63 (by have := Y51.out; omega)
 have K74 := kf hV65 K60 D63 (by have := Y51.out; omega)
 have K75 := Lib.hid (show Blk V64 (g37) 24 #[.float .f64 0, .float .f64 0] from (ks hV65 K61 D63).out)
 have HB76 := hbs hV65 HB62 D63 (by have := Y51.out; omega)
 have D77 := dr V64
 clear K55 K56 K57 K58 K59 K60 K61 HB62 D63
 have f78 := (kb K69 D77)
 have f79 := (kb K70 D77)
 have hq80 := (kb K71 D77).cellsL 0 [.float .f64 Q.lo, .float .f64 Q.hi] rfl
 dsimp only [CellsL, al, vl, Nat.reduceAdd] at hq80
 go_wp2_with (first | (refine wpList_store_row rfl 26 _ _ rfl (g24) #[.float .f64 0, .float .f64 0, .float .f64 0, .float .f64 0, .float .f64 0, .float .f64 0] rfl rfl _ _ f54 (by rw [info_V3]; rfl) rfl (by kernel_rfl) ?_; rw [hV53]) | (refine wl_load (by kernel_rfl) rfl rfl f78 (by rw [info_V3]; rfl) Tryz.underlying26 rfl ?_) | (refine wl_load (by kernel_rfl) rfl rfl f79 (by rw [info_V3]; rfl) Tryz.underlying26 rfl ?_))
 clear hg26 hV27 hg39 hV40 hV53 f54 hV65 f66 u67 hv68 f78 f79 hq80
 refine (C7.out _).mono ?_
 rintro r w81 ⟨rfl, hb⟩
 have D82 := ds D77 hb
 clear D77
 clear hb
 obtain ⟨g83, hg85⟩ : ∃ g, w81.heap.size = g := ⟨_, rfl⟩
 have Y87 := Lib.hid (show w.heap.size < g83 ∧ w.heap.size + 1 < g83 ∧ w.heap.size + 1 + 1 < g83 ∧ w.heap.size + 1 + 1 + 1 < g83 ∧ w.heap.size + 1 + 1 + 1 + 1 < g83 ∧ g24 < g83 ∧ g37 < g83 by rw [← hg85]; exact ⟨(kb K69 D82).lt, (kb K70 D82).lt, (kb K71 D82).lt, (kb K72 D82).lt, (kb K73 D82).lt, (kb K74 D82).lt, (kb K75 D82).lt⟩)
 obtain ⟨V84, hV86⟩ : ∃ V, w81.alloc (.cells #[.float .f64 0, .float .f64 0, .float .f64 0, .float .f64 0, .float .f64 0, .float .f64 0] 26) = V := ⟨_, rfl⟩
 have K88 := ka hV86 K71 D82
 have K89 := ka hV86 K72 D82
 have K90 := ka hV86 K73 D82
 have K91 := ka hV86 K74 D82
 have K92 := ka hV86 K75 D82
 have K93 := kn hV86 hg85
 have HB94 := hba hV86 HB76 D82
 have D95 := dr V84
 clear K69 K70 K71 K72 K73 K74 K75 HB76 D82
 have Y96 := Lib.hid (And.intro Y51.out Y87.out)
 clear Y51 Y87
 obtain ⟨g97, hg99⟩ : ∃ g, V84.heap.size = g := ⟨_, rfl⟩
 have Y101 := Lib.hid (show w.heap.size + 1 + 1 < g97 ∧ w.heap.size + 1 + 1 + 1 < g97 ∧ w.heap.size + 1 + 1 + 1 + 1 < g97 ∧ g24 < g97 ∧ g37 < g97 ∧ g83 < g97 by rw [← hg99]; exact ⟨(kb K88 D95).lt, (kb K89 D95).lt, (kb K90 D95).lt, (kb K91 D95).lt, (kb K92 D95).lt, (kb K93 D95).lt⟩)
 obtain ⟨V98, hV100⟩ : ∃ V, V84.alloc (.cells #[.float .f64 0, .float .f64 0] 24) = V := ⟨_, rfl⟩
 have K102 := ka hV100 K88 D95
 have K103 := ka hV100 K89 D95
 have K104 := ka hV100 K90 D95
 have K105 := ka hV100 K91 D95
 have K106 := ka hV100 K92 D95
 have K107 := ka hV100 K93 D95
 have K108 := kn hV100 hg99
 have HB109 := hba hV100 HB94 D95
 have D110 := dr V98
 clear K88 K89 K90 K91 K92 K93 HB94 D95
 have Y111 := Lib.hid (And.intro Y96.out Y101.out)
 clear Y96 Y101
 have f114 := (kb K107 D110)
 obtain ⟨V112, hV113⟩ : ∃ V, World.setRow V98 (g83) #[.float .f64 0, .float .f64 0, .float .f64 0, .float .f64 0, .float .f64 0, .float .f64 0] = V := ⟨_, rfl⟩
 have K115 := kfr hV113 K102 D110 (by have := Y111.out; omega)
 have K116 := kfr hV113 K103 D110 (by have := Y111.out; omega)
 have K117 := kfr hV113 K104 D110 (by have := Y111.out; omega)
 have K118 := kfr hV113 K105 D110 (by have := Y111.out; omega)
 have K119 := kfr hV113 K106 D110 (by have := Y111.out; omega)
 have K120 := ksr hV113 K107 D110
 have K121 := kfr hV113 K108 D110 (by have := Y111.out; omega)
 have HB122 := hbr hV113 HB109 D110 (by have := Y111.out; omega)
 have D123 := dr V112
 clear K102 K103 K104 K105 K106 K107 K108 HB109 D110
 have f126 := (kb K121 D123).cellsL 0 [.float .f64 0, .float .f64 0] rfl
 dsimp only [CellsL, al, vl, Nat.reduceAdd] at f126
 have u127 := (kb K121 D123).unfrozen
 obtain ⟨V124, hV125⟩ : ∃ V, setCells V112 (g97) 0 [.float .f64 0, .float .f64 0] = V := ⟨_, rfl⟩
 have hv128 := hV125
 simp only [setCells, Nat.reduceAdd] at hv128
 have K129 := kf hV125 K115 D123 (by have := Y111.out; omega)
 have K130 := kf hV125 K116 D123 (by have := Y111.out; omega)
 have K131 := kf hV125 K117 D123 (by have := Y111.out; omega)
 have K132 := kf hV125 K118 D123 (by have := Y111.out; omega)
 have K133 := kf hV125 K119 D123 (by have := Y111.out; omega)
 have K134 := kf hV125 K120 D123 (by have := Y111.out; omega)
 have K135 := Lib.hid (show Blk V124 (g97) 24 #[.float .f64 0, .float .f64 0] from (ks hV125 K121 D123).out)
 have HB136 := hbs hV125 HB122 D123 (by have := Y111.out; omega)
 have D137 := dr V124
 clear K115 K116 K117 K118 K119 K120 K121 HB122 D123
 go_wp2_with (refine wpList_store_row rfl 26 _ _ rfl (g83) #[.float .f64 0, .float .f64 0, .float .f64 0, .float .f64 0, .float .f64 0, .float .f64 0] rfl rfl _ _ f114 (by rw [info_V3]; rfl) rfl (by kernel_rfl) ?_; rw [hV113])
 clear hg85 hV86 hg99 hV100 hV113 f114 hV125 f126 u127 hv128
 refine wp_region_held (S := (fun w' => True ∧ Blk w' (g24) 26 #[.float .f64 0, .float .f64 0, .float .f64 0, .float .f64 0, .float .f64 0, .float .f64 0] ∧ Blk w' (g83) 26 #[.float .f64 0, .float .f64 0, .float .f64 0, .float .f64 0, .float .f64 0, .float .f64 0] ∧ CellsL w' (w.heap.size + 1 + 1) 0 [.float .f64 Q.lo, .float .f64 Q.hi] ∧ CellsL w' (w.heap.size + 1 + 1 + 1) 0 [.float .f64 I.lo, .float .f64 I.hi] ∧ CellsL w' (w.heap.size + 1 + 1 + 1 + 1) 0 [.float .f64 O.lo, .float .f64 O.hi] ∧ CellsL w' (g37) 0 [.float .f64 0, .float .f64 0] ∧ CellsL w' (g97) 0 [.float .f64 0, .float .f64 0])) (by kernel_rfl) ?_
 change wpAnyH _ _ _ _ _ _ _ _ (World.drew _)
 obtain ⟨wd138, hwd⟩ : ∃ x, x = World.drew V124 := ⟨_, rfl⟩
 rw [← hwd]
 have D139 := Lib.hid (hwd ▸ Below.drew D137.out : Below V124.heap.size V124 wd138)
 clear D137 hwd
 have HS141 := Lib.hid (show ∀ w', Below V124.heap.size V124 w' → (True ∧ Blk w' (g24) 26 #[.float .f64 0, .float .f64 0, .float .f64 0, .float .f64 0, .float .f64 0, .float .f64 0] ∧ Blk w' (g83) 26 #[.float .f64 0, .float .f64 0, .float .f64 0, .float .f64 0, .float .f64 0, .float .f64 0] ∧ CellsL w' (w.heap.size + 1 + 1) 0 [.float .f64 Q.lo, .float .f64 Q.hi] ∧ CellsL w' (w.heap.size + 1 + 1 + 1) 0 [.float .f64 I.lo, .float .f64 I.hi] ∧ CellsL w' (w.heap.size + 1 + 1 + 1 + 1) 0 [.float .f64 O.lo, .float .f64 O.hi] ∧ CellsL w' (g37) 0 [.float .f64 0, .float .f64 0] ∧ CellsL w' (g97) 0 [.float .f64 0, .float .f64 0]) from fun w' b => ⟨trivial, (K132.out.below b K132.out.lt), (K134.out.below b K134.out.lt), (K129.out.below b K129.out.lt).cellsL 0 [.float .f64 Q.lo, .float .f64 Q.hi] rfl, (K130.out.below b K130.out.lt).cellsL 0 [.float .f64 I.lo, .float .f64 I.hi] rfl, (K131.out.below b K131.out.lt).cellsL 0 [.float .f64 O.lo, .float .f64 O.hi] rfl, (K133.out.below b K133.out.lt).cellsL 0 [.float .f64 0, .float .f64 0] rfl, (K135.out.below b K135.out.lt).cellsL 0 [.float .f64 0, .float .f64 0] rfl⟩)
 have hS140 := HS141.out _ D139.out
 refine tkL 0 (bm 25 1) ?aq142 rfl (by kernel_rfl) (fun _ _ _ h => h) (by kernel_rfl) rfl rfl (fun _ hS => hS.2.1) (by rw [info_V3]; rfl) Tryz.underlying26 rfl ?pq142 hS140 ?rq142
 case pq142 => (go_simp; try with_reducible rfl)
 refine tkL 1 (bm 25 3) ?aq143 rfl (by kernel_rfl) (fun _ _ _ h => h) (by kernel_rfl) rfl rfl (fun _ hS => hS.2.2.1) (by rw [info_V3]; rfl) Tryz.underlying26 rfl ?pq143 hS140 ?rq143
 case pq143 => (go_simp; try with_reducible rfl)
 refine wpAnyH_oneN (i := 2) (l' := bm 25 7) rfl (by kernel_rfl) (by kernel_rfl) (by kernel_rfl) (fun K hK => ?_)
 go_simp
 go_at_call 11
 refine (C8.out _).mono ?_
 rintro r w144 ⟨rfl, hb⟩
 dsimp only
 have D145 := ds D139 hb
 clear D139
 clear hb
 have hS146 := HS141.out _ D145.out
 refine hK _ _ hS146 ?_
 clear hK K hS140
 refine tkq 3 (bm 25 15) hS146 ?_
 refine tke 4 (bm 25 31) hS146 ?_
 refine tke 5 (bm 25 63) hS146 ?_
 refine wpAnyH_oneN (i := 6) (l' := bm 25 127) rfl (by kernel_rfl) (by kernel_rfl) (by kernel_rfl) (fun K hK => ?_)
 go_simp
 go_at_call 19
 refine (C9.out _).mono ?_
 rintro r w150 ⟨rfl, hb⟩
 dsimp only
 have D151 := ds D145 hb
 clear D145
 clear hb
 have hS152 := HS141.out _ D151.out
 refine hK _ _ hS152 ?_
 clear hK K hS146
 refine tkq 7 (bm 25 255) hS152 ?_
 refine tkq 8 (bm 25 511) hS152 ?_
 refine tkq 9 (bm 25 1023) hS152 ?_
 refine tkq 10 (bm 25 2047) hS152 ?_
 refine tkq 11 (bm 25 4095) hS152 ?_
 refine tkq 12 (bm 25 8191) hS152 ?_
 refine tkq 13 (bm 25 16383) hS152 ?_
 refine tke 14 (bm 25 32767) hS152 ?_
 refine tke 15 (bm 25 65535) hS152 ?_
 refine tke 16 (bm 25 131071) hS152 ?_
 refine tke 18 (bm 25 393215) hS152 ?_
 refine tke 19 (bm 25 917503) hS152 ?_
 refine tke 20 (bm 25 1966079) hS152 ?_
 refine wpAnyH_oneN (i := 17) (l' := bm 25 2097151) rfl (by kernel_rfl) (by kernel_rfl) (by kernel_rfl) (fun K hK => ?_)
 go_simp
 go_at_call 37
 refine (C10.out _).mono ?_
 rintro r w166 ⟨rfl, hb⟩
 dsimp only
 have D167 := ds D151 hb
 clear D151
 clear hb
 have hS168 := HS141.out _ D167.out
 refine hK _ _ hS168 ?_
 clear hK K hS152
 refine wpAnyH_oneN (i := 21) (l' := bm 25 4194303) rfl (by kernel_rfl) (by kernel_rfl) (by kernel_rfl) (fun K hK => ?_)
 go_simp
 go_at_call 38
 refine (C11.out _).mono ?_
 rintro r w169 ⟨rfl, hb⟩
 dsimp only
 have D170 := ds D167 hb
 clear D167
 clear hb
 have hS171 := HS141.out _ D170.out
 refine hK _ _ hS171 ?_
 clear hK K hS168
 refine wpAnyH_oneN (i := 22) (l' := bm 25 8388607) rfl (by kernel_rfl) (by kernel_rfl) (by kernel_rfl) (fun K hK => ?_)
 go_simp
 go_at_call 19
 refine (C12.out _).mono ?_
 rintro r w172 ⟨rfl, hb⟩
 dsimp only
 have D173 := ds D170 hb
 clear D170
 clear hb
 have hS174 := HS141.out _ D173.out
 refine hK _ _ hS174 ?_
 clear hK K hS171
 refine tkq 23 (bm 25 16777215) hS174 ?_
 refine tkq 24 (bm 25 33554431) hS174 ?_
 refine wpAnyH_done (by kernel_rfl) ?_ _
 clear hS174
 go_wp2_with fail
 go_ret
 exact ⟨rfl, below_step HB136.out D173.out⟩
theorem bsdfBends_2 (A B : V3) (Q I O : Sp) (h : posS (bdRest Q (bdCos A B)) = 2) (w : World) : Calls Tryz.prog 5 #[Value.agg #[.float .f64 A.x.lo, .float .f64 A.x.hi, .float .f64 A.y.lo, .float .f64 A.y.hi, .float .f64 A.z.lo, .float .f64 A.z.hi], Value.agg #[.float .f64 B.x.lo, .float .f64 B.x.hi, .float .f64 B.y.lo, .float .f64 B.y.hi, .float .f64 B.z.lo, .float .f64 B.z.hi], Value.agg #[.float .f64 Q.lo, .float .f64 Q.hi], Value.agg #[.float .f64 I.lo, .float .f64 I.hi], Value.agg #[.float .f64 O.lo, .float .f64 O.hi]] w fun r w' => r = .returned (.bool true) ∧ Below w.heap.size w w' := by
 have C0 := Lib.hid (awake12)
 have C1 := Lib.hid (fun w => rvalidV_v A w)
 have C2 := Lib.hid (fun w => rvalidV_v B w)
 have C3 := Lib.hid (fun w => rvalid_any Q.lo Q.hi Q.vd.l.lt Q.vd.h.lt w)
 rw [vdB_of Q.vd] at C3
 have C4 := Lib.hid (fun w => rvalid_any I.lo I.hi I.vd.l.lt I.vd.h.lt w)
 rw [vdB_of I.vd] at C4
 have C5 := Lib.hid (fun w => rvalid_any O.lo O.hi O.vd.l.lt O.vd.h.lt w)
 rw [vdB_of O.vd] at C5
 have C6 := Lib.hid (fun w => bent_2 A B Q h w)
 have C7 := Lib.hid (fun w => rbent_2 A B Q h w)
 have C8 := Lib.hid (fun w => rsameV_self zeroV w)
 simp only [zeroS_lo, zeroS_hi, zeroV_x, zeroV_y, zeroV_z, zeroA_a, zeroA_b, zeroA_c, zeroA_t] at C8
 have C9 := Lib.hid (fun w => rsame_sp zeroS w)
 simp only [zeroS_lo, zeroS_hi, zeroV_x, zeroV_y, zeroV_z, zeroA_a, zeroA_b, zeroA_c, zeroA_t] at C9
 have C10 := Lib.hid (fun w => fresnel_any I O Q w)
 obtain ⟨p10, hp10⟩ : ∃ z_, bdFr I O Q = z_ := ⟨_, rfl⟩
 rw [hp10] at C10
 have C11 := Lib.hid (fun w => rfresnel_any I O Q w)
 rw [hp10] at C11
 have C12 := Lib.hid (fun w => rsame_sp p10 w)
 clear hp10
 go_enter Tryz.func5, Tryz.ntmps5
 go_wp2_with fail
 obtain ⟨W, hW, K0, K1, K2, K3, K4, hB, hz⟩ := bx5 w 26 26 24 24 24 (vc A) (vc B) #[.float .f64 Q.lo, .float .f64 Q.hi] #[.float .f64 I.lo, .float .f64 I.hi] #[.float .f64 O.lo, .float .f64 O.hi]
 rw [← hW]
 have K0 := Lib.hid K0
 have K1 := Lib.hid K1
 have K2 := Lib.hid K2
 have K3 := Lib.hid K3
 have K4 := Lib.hid K4
 have HB := Lib.hid hB
 clear hW hB hz
 have D1 := dr W
 refine (C0.out _).mono ?_
 rintro r w2 ⟨rfl, hb⟩
 have D3 := ds D1 hb
 clear D1
 clear hb
 have f4 := (kb K0 D3)
 go_wp2_with (refine wl_load (by kernel_rfl) rfl rfl f4 (by rw [info_V3]; rfl) Tryz.underlying26 rfl ?_)
 clear f4
 refine (C1.out _).mono ?_
 rintro r w5 ⟨rfl, hb⟩
 have D6 := ds D3 hb
 clear D3
 clear hb
 have f7 := (kb K1 D6)
 go_wp2_with (refine wl_load (by kernel_rfl) rfl rfl f7 (by rw [info_V3]; rfl) Tryz.underlying26 rfl ?_)
 clear f7
 refine (C2.out _).mono ?_
 rintro r w8 ⟨rfl, hb⟩
 have D9 := ds D6 hb
 clear D6
 clear hb
 have hq10 := (kb K2 D9).cellsL 0 [.float .f64 Q.lo, .float .f64 Q.hi] rfl
 dsimp only [CellsL, al, vl, Nat.reduceAdd] at hq10
 go_wp2_with fail
 clear hq10
 refine (C3.out _).mono ?_
 rintro r w11 ⟨rfl, hb⟩
 have D12 := ds D9 hb
 clear D9
 clear hb
 have hq13 := (kb K3 D12).cellsL 0 [.float .f64 I.lo, .float .f64 I.hi] rfl
 dsimp only [CellsL, al, vl, Nat.reduceAdd] at hq13
 go_wp2_with fail
 clear hq13
 refine (C4.out _).mono ?_
 rintro r w14 ⟨rfl, hb⟩
 have D15 := ds D12 hb
 clear D12
 clear hb
 have hq16 := (kb K4 D15).cellsL 0 [.float .f64 O.lo, .float .f64 O.hi] rfl
 dsimp only [CellsL, al, vl, Nat.reduceAdd] at hq16
 go_wp2_with fail
 clear hq16
 refine (C5.out _).mono ?_
 rintro r w17 ⟨rfl, hb⟩
 have D18 := ds D15 hb
 clear D15
 clear hb
 have f19 := (kb K0 D18)
 have f20 := (kb K1 D18)
 have hq21 := (kb K2 D18).cellsL 0 [.float .f64 Q.lo, .float .f64 Q.hi] rfl
 dsimp only [CellsL, al, vl, Nat.reduceAdd] at hq21
 go_wp2_with (first | (refine wl_load (by kernel_rfl) rfl rfl f19 (by rw [info_V3]; rfl) Tryz.underlying26 rfl ?_) | (refine wl_load (by kernel_rfl) rfl rfl f20 (by rw [info_V3]; rfl) Tryz.underlying26 rfl ?_))
 clear f19 f20 hq21
 refine (C6.out _).mono ?_
 rintro r w22 ⟨rfl, hb⟩
 have D23 := ds D18 hb
 clear D18
 clear hb
 obtain ⟨g24, hg26⟩ : ∃ g, w22.heap.size = g := ⟨_, rfl⟩
 have Y28 := Lib.hid (show w.heap.size < g24 ∧ w.heap.size + 1 < g24 ∧ w.heap.size + 1 + 1 < g24 ∧ w.heap.size + 1 + 1 + 1 < g24 ∧ w.heap.size + 1 + 1 + 1 + 1 < g24 by rw [← hg26]; exact ⟨(kb K0 D23).lt, (kb K1 D23).lt, (kb K2 D23).lt, (kb K3 D23).lt, (kb K4 D23).lt⟩)
 obtain ⟨V25, hV27⟩ : ∃ V, w22.alloc (.cells #[.float .f64 0, .float .f64 0, .float .f64 0, .float .f64 0, .float .f64 0, .float .f64 0] 26) = V := ⟨_, rfl⟩
 have K29 := ka hV27 K0 D23
 have K30 := ka hV27 K1 D23
 have K31 := ka hV27 K2 D23
 have K32 := ka hV27 K3 D23
 have K33 := ka hV27 K4 D23
 have K34 := kn hV27 hg26
 have HB35 := hba hV27 HB D23
 have D36 := dr V25
 clear K0 K1 K2 K3 K4 HB D23
 obtain ⟨g37, hg39⟩ : ∃ g, V25.heap.size = g := ⟨_, rfl⟩
 have Y41 := Lib.hid (show w.heap.size < g37 ∧ w.heap.size + 1 < g37 ∧ w.heap.size + 1 + 1 < g37 ∧ w.heap.size + 1 + 1 + 1 < g37 ∧ w.heap.size + 1 + 1 + 1 + 1 < g37 ∧ g24 < g37 by rw [← hg39]; exact ⟨(kb K29 D36).lt, (kb K30 D36).lt, (kb K31 D36).lt, (kb K32 D36).lt, (kb K33 D36).lt, (kb K34 D36).lt⟩)
 obtain ⟨V38, hV40⟩ : ∃ V, V25.alloc (.cells #[.float .f64 0, .float .f64 0] 24) = V := ⟨_, rfl⟩
 have K42 := ka hV40 K29 D36
 have K43 := ka hV40 K30 D36
 have K44 := ka hV40 K31 D36
 have K45 := ka hV40 K32 D36
 have K46 := ka hV40 K33 D36
 have K47 := ka hV40 K34 D36
 have K48 := kn hV40 hg39
 have HB49 := hba hV40 HB35 D36
 have D50 := dr V38
 clear K29 K30 K31 K32 K33 K34 HB35 D36
 have Y51 := Lib.hid (And.intro Y28.out Y41.out)
 clear Y28 Y41
 have f54 := (kb K47 D50)
 obtain ⟨V52, hV53⟩ : ∃ V, World.setRow V38 (g24) #[.float .f64 0, .float .f64 0, .float .f64 0, .float .f64 0, .float .f64 0, .float .f64 0] = V := ⟨_, rfl⟩
 have K55 := kfr hV53 K42 D50 (by have := Y51.out; omega)
 have K56 := kfr hV53 K43 D50 (by have := Y51.out; omega)
 have K57 := kfr hV53 K44 D50 (by have := Y51.out; omega)
 have K58 := kfr hV53 K45 D50 (by have := Y51.out; omega)
 have K59 := kfr hV53 K46 D50 (by have := Y51.out; omega)
 have K60 := ksr hV53 K47 D50
 have K61 := kfr hV53 K48 D50 (by have := Y51.out; omega)
 have HB62 := hbr hV53 HB49 D50 (by have := Y51.out; omega)
 have D63 := dr V52
 clear K42 K43 K44 K45 K46 K47 K48 HB49 D50
 have f66 := (kb K61 D63).cellsL 0 [.float .f64 0, .float .f64 0] rfl
 dsimp only [CellsL, al, vl, Nat.reduceAdd] at f66
 have u67 := (kb K61 D63).unfrozen
 obtain ⟨V64, hV65⟩ : ∃ V, setCells V52 (g37) 0 [.float .f64 0, .float .f64 0] = V := ⟨_, rfl⟩
 have hv68 := hV65
 simp only [setCells, Nat.reduceAdd] at hv68
 have K69 := kf hV65 K55 D63 (by have := Y51.out; omega)
 have K70 := kf hV65 K56 D63 (by have := Y51.out; omega)
 have K71 := kf hV65 K57 D63 (by have := Y51.out; omega)
 have K72 := kf hV65 K58 D63 (by have := Y51.out; omega)
 have K73 := kf hV65 K59 D63 (by have := Y51.out; omega)
 have K74 := kf hV65 K60 D63 (by have := Y51.out; omega)
 have K75 := Lib.hid (show Blk V64 (g37) 24 #[.float .f64 0, .float .f64 0] from (ks hV65 K61 D63).out)
 have HB76 := hbs hV65 HB62 D63 (by have := Y51.out; omega)
 have D77 := dr V64
 clear K55 K56 K57 K58 K59 K60 K61 HB62 D63
 have f78 := (kb K69 D77)
 have f79 := (kb K70 D77)
 have hq80 := (kb K71 D77).cellsL 0 [.float .f64 Q.lo, .float .f64 Q.hi] rfl
 dsimp only [CellsL, al, vl, Nat.reduceAdd] at hq80
 go_wp2_with (first | (refine wpList_store_row rfl 26 _ _ rfl (g24) #[.float .f64 0, .float .f64 0, .float .f64 0, .float .f64 0, .float .f64 0, .float .f64 0] rfl rfl _ _ f54 (by rw [info_V3]; rfl) rfl (by kernel_rfl) ?_; rw [hV53]) | (refine wl_load (by kernel_rfl) rfl rfl f78 (by rw [info_V3]; rfl) Tryz.underlying26 rfl ?_) | (refine wl_load (by kernel_rfl) rfl rfl f79 (by rw [info_V3]; rfl) Tryz.underlying26 rfl ?_))
 clear hg26 hV27 hg39 hV40 hV53 f54 hV65 f66 u67 hv68 f78 f79 hq80
 refine (C7.out _).mono ?_
 rintro r w81 ⟨rfl, hb⟩
 have D82 := ds D77 hb
 clear D77
 clear hb
 obtain ⟨g83, hg85⟩ : ∃ g, w81.heap.size = g := ⟨_, rfl⟩
 have Y87 := Lib.hid (show w.heap.size < g83 ∧ w.heap.size + 1 < g83 ∧ w.heap.size + 1 + 1 < g83 ∧ w.heap.size + 1 + 1 + 1 < g83 ∧ w.heap.size + 1 + 1 + 1 + 1 < g83 ∧ g24 < g83 ∧ g37 < g83 by rw [← hg85]; exact ⟨(kb K69 D82).lt, (kb K70 D82).lt, (kb K71 D82).lt, (kb K72 D82).lt, (kb K73 D82).lt, (kb K74 D82).lt, (kb K75 D82).lt⟩)
 obtain ⟨V84, hV86⟩ : ∃ V, w81.alloc (.cells #[.float .f64 0, .float .f64 0, .float .f64 0, .float .f64 0, .float .f64 0, .float .f64 0] 26) = V := ⟨_, rfl⟩
 have K88 := ka hV86 K71 D82
 have K89 := ka hV86 K72 D82
 have K90 := ka hV86 K73 D82
 have K91 := ka hV86 K74 D82
 have K92 := ka hV86 K75 D82
 have K93 := kn hV86 hg85
 have HB94 := hba hV86 HB76 D82
 have D95 := dr V84
 clear K69 K70 K71 K72 K73 K74 K75 HB76 D82
 have Y96 := Lib.hid (And.intro Y51.out Y87.out)
 clear Y51 Y87
 obtain ⟨g97, hg99⟩ : ∃ g, V84.heap.size = g := ⟨_, rfl⟩
 have Y101 := Lib.hid (show w.heap.size + 1 + 1 < g97 ∧ w.heap.size + 1 + 1 + 1 < g97 ∧ w.heap.size + 1 + 1 + 1 + 1 < g97 ∧ g24 < g97 ∧ g37 < g97 ∧ g83 < g97 by rw [← hg99]; exact ⟨(kb K88 D95).lt, (kb K89 D95).lt, (kb K90 D95).lt, (kb K91 D95).lt, (kb K92 D95).lt, (kb K93 D95).lt⟩)
 obtain ⟨V98, hV100⟩ : ∃ V, V84.alloc (.cells #[.float .f64 0, .float .f64 0] 24) = V := ⟨_, rfl⟩
 have K102 := ka hV100 K88 D95
 have K103 := ka hV100 K89 D95
 have K104 := ka hV100 K90 D95
 have K105 := ka hV100 K91 D95
 have K106 := ka hV100 K92 D95
 have K107 := ka hV100 K93 D95
 have K108 := kn hV100 hg99
 have HB109 := hba hV100 HB94 D95
 have D110 := dr V98
 clear K88 K89 K90 K91 K92 K93 HB94 D95
 have Y111 := Lib.hid (And.intro Y96.out Y101.out)
 clear Y96 Y101
 have f114 := (kb K107 D110)
 obtain ⟨V112, hV113⟩ : ∃ V, World.setRow V98 (g83) #[.float .f64 0, .float .f64 0, .float .f64 0, .float .f64 0, .float .f64 0, .float .f64 0] = V := ⟨_, rfl⟩
 have K115 := kfr hV113 K102 D110 (by have := Y111.out; omega)
 have K116 := kfr hV113 K103 D110 (by have := Y111.out; omega)
 have K117 := kfr hV113 K104 D110 (by have := Y111.out; omega)
 have K118 := kfr hV113 K105 D110 (by have := Y111.out; omega)
 have K119 := kfr hV113 K106 D110 (by have := Y111.out; omega)
 have K120 := ksr hV113 K107 D110
 have K121 := kfr hV113 K108 D110 (by have := Y111.out; omega)
 have HB122 := hbr hV113 HB109 D110 (by have := Y111.out; omega)
 have D123 := dr V112
 clear K102 K103 K104 K105 K106 K107 K108 HB109 D110
 have f126 := (kb K121 D123).cellsL 0 [.float .f64 0, .float .f64 0] rfl
 dsimp only [CellsL, al, vl, Nat.reduceAdd] at f126
 have u127 := (kb K121 D123).unfrozen
 obtain ⟨V124, hV125⟩ : ∃ V, setCells V112 (g97) 0 [.float .f64 0, .float .f64 0] = V := ⟨_, rfl⟩
 have hv128 := hV125
 simp only [setCells, Nat.reduceAdd] at hv128
 have K129 := kf hV125 K115 D123 (by have := Y111.out; omega)
 have K130 := kf hV125 K116 D123 (by have := Y111.out; omega)
 have K131 := kf hV125 K117 D123 (by have := Y111.out; omega)
 have K132 := kf hV125 K118 D123 (by have := Y111.out; omega)
 have K133 := kf hV125 K119 D123 (by have := Y111.out; omega)
 have K134 := kf hV125 K120 D123 (by have := Y111.out; omega)
 have K135 := Lib.hid (show Blk V124 (g97) 24 #[.float .f64 0, .float .f64 0] from (ks hV125 K121 D123).out)
 have HB136 := hbs hV125 HB122 D123 (by have := Y111.out; omega)
 have D137 := dr V124
 clear K115 K116 K117 K118 K119 K120 K121 HB122 D123
 go_wp2_with (refine wpList_store_row rfl 26 _ _ rfl (g83) #[.float .f64 0, .float .f64 0, .float .f64 0, .float .f64 0, .float .f64 0, .float .f64 0] rfl rfl _ _ f114 (by rw [info_V3]; rfl) rfl (by kernel_rfl) ?_; rw [hV113])
 clear hg85 hV86 hg99 hV100 hV113 f114 hV125 f126 u127 hv128
 refine wp_region_held (S := (fun w' => True ∧ Blk w' (g24) 26 #[.float .f64 0, .float .f64 0, .float .f64 0, .float .f64 0, .float .f64 0, .float .f64 0] ∧ Blk w' (g83) 26 #[.float .f64 0, .float .f64 0, .float .f64 0, .float .f64 0, .float .f64 0, .float .f64 0] ∧ CellsL w' (w.heap.size + 1 + 1) 0 [.float .f64 Q.lo, .float .f64 Q.hi] ∧ CellsL w' (w.heap.size + 1 + 1 + 1) 0 [.float .f64 I.lo, .float .f64 I.hi] ∧ CellsL w' (w.heap.size + 1 + 1 + 1 + 1) 0 [.float .f64 O.lo, .float .f64 O.hi] ∧ CellsL w' (g37) 0 [.float .f64 0, .float .f64 0] ∧ CellsL w' (g97) 0 [.float .f64 0, .float .f64 0])) (by kernel_rfl) ?_
 change wpAnyH _ _ _ _ _ _ _ _ (World.drew _)
 obtain ⟨wd138, hwd⟩ : ∃ x, x = World.drew V124 := ⟨_, rfl⟩
 rw [← hwd]
 have D139 := Lib.hid (hwd ▸ Below.drew D137.out : Below V124.heap.size V124 wd138)
 clear D137 hwd
 have HS141 := Lib.hid (show ∀ w', Below V124.heap.size V124 w' → (True ∧ Blk w' (g24) 26 #[.float .f64 0, .float .f64 0, .float .f64 0, .float .f64 0, .float .f64 0, .float .f64 0] ∧ Blk w' (g83) 26 #[.float .f64 0, .float .f64 0, .float .f64 0, .float .f64 0, .float .f64 0, .float .f64 0] ∧ CellsL w' (w.heap.size + 1 + 1) 0 [.float .f64 Q.lo, .float .f64 Q.hi] ∧ CellsL w' (w.heap.size + 1 + 1 + 1) 0 [.float .f64 I.lo, .float .f64 I.hi] ∧ CellsL w' (w.heap.size + 1 + 1 + 1 + 1) 0 [.float .f64 O.lo, .float .f64 O.hi] ∧ CellsL w' (g37) 0 [.float .f64 0, .float .f64 0] ∧ CellsL w' (g97) 0 [.float .f64 0, .float .f64 0]) from fun w' b => ⟨trivial, (K132.out.below b K132.out.lt), (K134.out.below b K134.out.lt), (K129.out.below b K129.out.lt).cellsL 0 [.float .f64 Q.lo, .float .f64 Q.hi] rfl, (K130.out.below b K130.out.lt).cellsL 0 [.float .f64 I.lo, .float .f64 I.hi] rfl, (K131.out.below b K131.out.lt).cellsL 0 [.float .f64 O.lo, .float .f64 O.hi] rfl, (K133.out.below b K133.out.lt).cellsL 0 [.float .f64 0, .float .f64 0] rfl, (K135.out.below b K135.out.lt).cellsL 0 [.float .f64 0, .float .f64 0] rfl⟩)
 have hS140 := HS141.out _ D139.out
 refine tkL 0 (bm 25 1) ?aq142 rfl (by kernel_rfl) (fun _ _ _ h => h) (by kernel_rfl) rfl rfl (fun _ hS => hS.2.1) (by rw [info_V3]; rfl) Tryz.underlying26 rfl ?pq142 hS140 ?rq142
 case pq142 => (go_simp; try with_reducible rfl)
 refine tkL 1 (bm 25 3) ?aq143 rfl (by kernel_rfl) (fun _ _ _ h => h) (by kernel_rfl) rfl rfl (fun _ hS => hS.2.2.1) (by rw [info_V3]; rfl) Tryz.underlying26 rfl ?pq143 hS140 ?rq143
 case pq143 => (go_simp; try with_reducible rfl)
 refine wpAnyH_oneN (i := 2) (l' := bm 25 7) rfl (by kernel_rfl) (by kernel_rfl) (by kernel_rfl) (fun K hK => ?_)
 go_simp
 go_at_call 11
 refine (C8.out _).mono ?_
 rintro r w144 ⟨rfl, hb⟩
 dsimp only
 have D145 := ds D139 hb
 clear D139
 clear hb
 have hS146 := HS141.out _ D145.out
 refine hK _ _ hS146 ?_
 clear hK K hS140
 refine tkq 3 (bm 25 15) hS146 ?_
 refine tke 4 (bm 25 31) hS146 ?_
 refine tke 5 (bm 25 63) hS146 ?_
 refine wpAnyH_oneN (i := 6) (l' := bm 25 127) rfl (by kernel_rfl) (by kernel_rfl) (by kernel_rfl) (fun K hK => ?_)
 go_simp
 go_at_call 19
 refine (C9.out _).mono ?_
 rintro r w150 ⟨rfl, hb⟩
 dsimp only
 have D151 := ds D145 hb
 clear D145
 clear hb
 have hS152 := HS141.out _ D151.out
 refine hK _ _ hS152 ?_
 clear hK K hS146
 refine tkq 7 (bm 25 255) hS152 ?_
 refine tkq 8 (bm 25 511) hS152 ?_
 refine tkq 9 (bm 25 1023) hS152 ?_
 refine tkq 10 (bm 25 2047) hS152 ?_
 refine tkq 11 (bm 25 4095) hS152 ?_
 refine tkq 12 (bm 25 8191) hS152 ?_
 refine tkq 13 (bm 25 16383) hS152 ?_
 refine tke 14 (bm 25 32767) hS152 ?_
 refine tke 15 (bm 25 65535) hS152 ?_
 refine tke 16 (bm 25 131071) hS152 ?_
 refine tke 18 (bm 25 393215) hS152 ?_
 refine tke 19 (bm 25 917503) hS152 ?_
 refine tke 20 (bm 25 1966079) hS152 ?_
 refine wpAnyH_oneN (i := 17) (l' := bm 25 2097151) rfl (by kernel_rfl) (by kernel_rfl) (by kernel_rfl) (fun K hK => ?_)
 go_simp
 go_at_call 37
 refine (C10.out _).mono ?_
 rintro r w166 ⟨rfl, hb⟩
 dsimp only
 have D167 := ds D151 hb
 clear D151
 clear hb
 have hS168 := HS141.out _ D167.out
 refine hK _ _ hS168 ?_
 clear hK K hS152
 refine wpAnyH_oneN (i := 21) (l' := bm 25 4194303) rfl (by kernel_rfl) (by kernel_rfl) (by kernel_rfl) (fun K hK => ?_)
 go_simp
 go_at_call 38
 refine (C11.out _).mono ?_
 rintro r w169 ⟨rfl, hb⟩
 dsimp only
 have D170 := ds D167 hb
 clear D167
 clear hb
 have hS171 := HS141.out _ D170.out
 refine hK _ _ hS171 ?_
 clear hK K hS168
 refine wpAnyH_oneN (i := 22) (l' := bm 25 8388607) rfl (by kernel_rfl) (by kernel_rfl) (by kernel_rfl) (fun K hK => ?_)
 go_simp
 go_at_call 19
 refine (C12.out _).mono ?_
 rintro r w172 ⟨rfl, hb⟩
 dsimp only
 have D173 := ds D170 hb
 clear D170
 clear hb
 have hS174 := HS141.out _ D173.out
 refine hK _ _ hS174 ?_
 clear hK K hS171
 refine tkq 23 (bm 25 16777215) hS174 ?_
 refine tkq 24 (bm 25 33554431) hS174 ?_
 refine wpAnyH_done (by kernel_rfl) ?_ _
 clear hS174
 go_wp2_with fail
 go_ret
 exact ⟨rfl, below_step HB136.out D173.out⟩
theorem walk_bsdfBends (n0 n1 n2 n3 n4 n5 d0 d1 d2 d3 d4 d5 q0 q1 i0 i1 o0 o1 : Nat) (hn0 : n0 < 18446744073709551616) (hn1 : n1 < 18446744073709551616) (hn2 : n2 < 18446744073709551616) (hn3 : n3 < 18446744073709551616) (hn4 : n4 < 18446744073709551616) (hn5 : n5 < 18446744073709551616) (hd0 : d0 < 18446744073709551616) (hd1 : d1 < 18446744073709551616) (hd2 : d2 < 18446744073709551616) (hd3 : d3 < 18446744073709551616) (hd4 : d4 < 18446744073709551616) (hd5 : d5 < 18446744073709551616) (hq0 : q0 < 18446744073709551616) (hq1 : q1 < 18446744073709551616) (hi0 : i0 < 18446744073709551616) (hi1 : i1 < 18446744073709551616) (ho0 : o0 < 18446744073709551616) (ho1 : o1 < 18446744073709551616) (w : World) : Calls Tryz.prog 5 #[.agg #[.float .f64 n0, .float .f64 n1, .float .f64 n2, .float .f64 n3, .float .f64 n4, .float .f64 n5], .agg #[.float .f64 d0, .float .f64 d1, .float .f64 d2, .float .f64 d3, .float .f64 d4, .float .f64 d5], .agg #[.float .f64 q0, .float .f64 q1], .agg #[.float .f64 i0, .float .f64 i1], .agg #[.float .f64 o0, .float .f64 o1]] w fun r w' => r = .returned (.bool true) ∧ Below w.heap.size w w' := by
 cases v0 : vdV n0 n1 n2 n3 n4 n5
 · exact bsdfBends_n0 n0 n1 n2 n3 n4 n5 d0 d1 d2 d3 d4 d5 q0 q1 i0 i1 o0 o1 hn0 hn1 hn2 hn3 hn4 hn5 hd0 hd1 hd2 hd3 hd4 hd5 hq0 hq1 hi0 hi1 ho0 ho1 v0 w
 · cases v1 : vdV d0 d1 d2 d3 d4 d5
   · exact bsdfBends_n1 n0 n1 n2 n3 n4 n5 d0 d1 d2 d3 d4 d5 q0 q1 i0 i1 o0 o1 hn0 hn1 hn2 hn3 hn4 hn5 hd0 hd1 hd2 hd3 hd4 hd5 hq0 hq1 hi0 hi1 ho0 ho1 v0 v1 w
   · cases v2 : vdB q0 q1
     · exact bsdfBends_n2 n0 n1 n2 n3 n4 n5 d0 d1 d2 d3 d4 d5 q0 q1 i0 i1 o0 o1 hn0 hn1 hn2 hn3 hn4 hn5 hd0 hd1 hd2 hd3 hd4 hd5 hq0 hq1 hi0 hi1 ho0 ho1 v0 v1 v2 w
     · cases v3 : vdB i0 i1
       · exact bsdfBends_n3 n0 n1 n2 n3 n4 n5 d0 d1 d2 d3 d4 d5 q0 q1 i0 i1 o0 o1 hn0 hn1 hn2 hn3 hn4 hn5 hd0 hd1 hd2 hd3 hd4 hd5 hq0 hq1 hi0 hi1 ho0 ho1 v0 v1 v2 v3 w
       · cases v4 : vdB o0 o1
         · exact bsdfBends_n4 n0 n1 n2 n3 n4 n5 d0 d1 d2 d3 d4 d5 q0 q1 i0 i1 o0 o1 hn0 hn1 hn2 hn3 hn4 hn5 hd0 hd1 hd2 hd3 hd4 hd5 hq0 hq1 hi0 hi1 ho0 ho1 v0 v1 v2 v3 v4 w
         · obtain ⟨A, rfl, rfl, rfl, rfl, rfl, rfl⟩ := v3_of hn0 hn1 hn2 hn3 hn4 hn5 v0
           obtain ⟨B, rfl, rfl, rfl, rfl, rfl, rfl⟩ := v3_of hd0 hd1 hd2 hd3 hd4 hd5 v1
           have h3 : posS (bdRest ⟨q0, q1, vdB_true hq0 hq1 v2⟩ (bdCos A B)) = 1 ∨ posS (bdRest ⟨q0, q1, vdB_true hq0 hq1 v2⟩ (bdCos A B)) = 0 ∨ posS (bdRest ⟨q0, q1, vdB_true hq0 hq1 v2⟩ (bdCos A B)) = 2 := by unfold posS; split <;> (try split) <;> simp
           rcases h3 with h | h | h
           · exact bsdfBends_1 A B ⟨q0, q1, vdB_true hq0 hq1 v2⟩ ⟨i0, i1, vdB_true hi0 hi1 v3⟩ ⟨o0, o1, vdB_true ho0 ho1 v4⟩ h w
           · exact bsdfBends_0 A B ⟨q0, q1, vdB_true hq0 hq1 v2⟩ ⟨i0, i1, vdB_true hi0 hi1 v3⟩ ⟨o0, o1, vdB_true ho0 ho1 v4⟩ h w
           · exact bsdfBends_2 A B ⟨q0, q1, vdB_true hq0 hq1 v2⟩ ⟨i0, i1, vdB_true hi0 hi1 v3⟩ ⟨o0, o1, vdB_true ho0 ho1 v4⟩ h w
end Go.Proofs.YtnljfcebmgifdaaGreat
