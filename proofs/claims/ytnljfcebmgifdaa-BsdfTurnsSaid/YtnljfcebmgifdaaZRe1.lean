/- Shaken: Bs4. -/
import Derived.Test.YtnljfcebmgifdaaZRe
set_option maxRecDepth 100000
set_option maxHeartbeats 8000000
set_option linter.unusedVariables false
set_option linter.unusedSimpArgs false
namespace Go.Proofs.Ytnljfcebmgifdaa
open Go.RowKit Fl
theorem bsdfTurns_n0 (n0 n1 n2 n3 n4 n5 d0 d1 d2 d3 d4 d5 : Nat) (hn0 : n0 < 18446744073709551616) (hn1 : n1 < 18446744073709551616) (hn2 : n2 < 18446744073709551616) (hn3 : n3 < 18446744073709551616) (hn4 : n4 < 18446744073709551616) (hn5 : n5 < 18446744073709551616) (hd0 : d0 < 18446744073709551616) (hd1 : d1 < 18446744073709551616) (hd2 : d2 < 18446744073709551616) (hd3 : d3 < 18446744073709551616) (hd4 : d4 < 18446744073709551616) (hd5 : d5 < 18446744073709551616) (v0 : vdV n0 n1 n2 n3 n4 n5 = false) (w : World) : Calls Try.prog 9 #[Value.agg #[.float .f64 n0, .float .f64 n1, .float .f64 n2, .float .f64 n3, .float .f64 n4, .float .f64 n5], Value.agg #[.float .f64 d0, .float .f64 d1, .float .f64 d2, .float .f64 d3, .float .f64 d4, .float .f64 d5]] w fun r w' => r = .returned (.bool true) ∧ Below w.heap.size w w' := by
 have C0 := Lib.hid (awake12)
 have C1 := Lib.hid (fun w => rvalidV_any n0 n1 n2 n3 n4 n5 hn0 hn1 hn2 hn3 hn4 hn5 w)
 rw [v0] at C1
 go_enter Try.func9, Try.ntmps9
 go_wp2_with fail
 obtain ⟨W, hW, K0, K1, hB, hz⟩ := bx2 w 30 30 #[.float .f64 n0, .float .f64 n1, .float .f64 n2, .float .f64 n3, .float .f64 n4, .float .f64 n5] #[.float .f64 d0, .float .f64 d1, .float .f64 d2, .float .f64 d3, .float .f64 d4, .float .f64 d5]
 rw [← hW]
 have K0 := Lib.hid K0
 have K1 := Lib.hid K1
 have HB := Lib.hid hB
 clear hW hB hz
 have D1 := dr W
 refine (C0.out _).mono ?_
 rintro r w2 ⟨rfl, hb⟩
 have D3 := ds D1 hb
 clear D1
 clear hb
 have f4 := (kb K0 D3)
 go_wp2_with (refine wl_load (by kernel_rfl) rfl rfl f4 (by rw [info_V3]; rfl) Try.underlying30 rfl ?_)
 clear f4
 refine (C1.out _).mono ?_
 rintro r w5 ⟨rfl, hb⟩
 have D6 := ds D3 hb
 clear D3
 clear hb
 go_wp2_with fail
 go_ret
 exact ⟨rfl, below_step HB.out D6.out⟩
theorem bsdfTurns_n1 (n0 n1 n2 n3 n4 n5 d0 d1 d2 d3 d4 d5 : Nat) (hn0 : n0 < 18446744073709551616) (hn1 : n1 < 18446744073709551616) (hn2 : n2 < 18446744073709551616) (hn3 : n3 < 18446744073709551616) (hn4 : n4 < 18446744073709551616) (hn5 : n5 < 18446744073709551616) (hd0 : d0 < 18446744073709551616) (hd1 : d1 < 18446744073709551616) (hd2 : d2 < 18446744073709551616) (hd3 : d3 < 18446744073709551616) (hd4 : d4 < 18446744073709551616) (hd5 : d5 < 18446744073709551616) (v0 : vdV n0 n1 n2 n3 n4 n5 = true) (v1 : vdV d0 d1 d2 d3 d4 d5 = false) (w : World) : Calls Try.prog 9 #[Value.agg #[.float .f64 n0, .float .f64 n1, .float .f64 n2, .float .f64 n3, .float .f64 n4, .float .f64 n5], Value.agg #[.float .f64 d0, .float .f64 d1, .float .f64 d2, .float .f64 d3, .float .f64 d4, .float .f64 d5]] w fun r w' => r = .returned (.bool true) ∧ Below w.heap.size w w' := by
 have C0 := Lib.hid (awake12)
 have C1 := Lib.hid (fun w => rvalidV_any n0 n1 n2 n3 n4 n5 hn0 hn1 hn2 hn3 hn4 hn5 w)
 rw [v0] at C1
 have C2 := Lib.hid (fun w => rvalidV_any d0 d1 d2 d3 d4 d5 hd0 hd1 hd2 hd3 hd4 hd5 w)
 rw [v1] at C2
 go_enter Try.func9, Try.ntmps9
 go_wp2_with fail
 obtain ⟨W, hW, K0, K1, hB, hz⟩ := bx2 w 30 30 #[.float .f64 n0, .float .f64 n1, .float .f64 n2, .float .f64 n3, .float .f64 n4, .float .f64 n5] #[.float .f64 d0, .float .f64 d1, .float .f64 d2, .float .f64 d3, .float .f64 d4, .float .f64 d5]
 rw [← hW]
 have K0 := Lib.hid K0
 have K1 := Lib.hid K1
 have HB := Lib.hid hB
 clear hW hB hz
 have D1 := dr W
 refine (C0.out _).mono ?_
 rintro r w2 ⟨rfl, hb⟩
 have D3 := ds D1 hb
 clear D1
 clear hb
 have f4 := (kb K0 D3)
 go_wp2_with (refine wl_load (by kernel_rfl) rfl rfl f4 (by rw [info_V3]; rfl) Try.underlying30 rfl ?_)
 clear f4
 refine (C1.out _).mono ?_
 rintro r w5 ⟨rfl, hb⟩
 have D6 := ds D3 hb
 clear D3
 clear hb
 have f7 := (kb K1 D6)
 go_wp2_with (refine wl_load (by kernel_rfl) rfl rfl f7 (by rw [info_V3]; rfl) Try.underlying30 rfl ?_)
 clear f7
 refine (C2.out _).mono ?_
 rintro r w8 ⟨rfl, hb⟩
 have D9 := ds D6 hb
 clear D6
 clear hb
 go_wp2_with fail
 go_ret
 exact ⟨rfl, below_step HB.out D9.out⟩
theorem bsdfTurns_1 (A B : V3) (h : posS (bdCos A B) = 1) (w : World) : Calls Try.prog 9 #[Value.agg #[.float .f64 A.x.lo, .float .f64 A.x.hi, .float .f64 A.y.lo, .float .f64 A.y.hi, .float .f64 A.z.lo, .float .f64 A.z.hi], Value.agg #[.float .f64 B.x.lo, .float .f64 B.x.hi, .float .f64 B.y.lo, .float .f64 B.y.hi, .float .f64 B.z.lo, .float .f64 B.z.hi]] w fun r w' => r = .returned (.bool true) ∧ Below w.heap.size w w' := by
 have C0 := Lib.hid (awake12)
 have C1 := Lib.hid (fun w => rvalidV_v A w)
 have C2 := Lib.hid (fun w => rvalidV_v B w)
 have C3 := Lib.hid (fun w => face_1 A B h w)
 obtain ⟨q4_, hq4_⟩ : ∃ z_, bdCos A B = z_ := ⟨_, rfl⟩
 rw [hq4_] at C3
 have C5 := Lib.hid (fun w => rface_1 A B h w)
 rw [hq4_] at C5
 have C6 := Lib.hid (fun w => rsameV_self A w)
 have C7 := Lib.hid (fun w => rsame_sp q4_ w)
 have C8 := Lib.hid (fun w => mirV_any A B w)
 obtain ⟨p8, hp8⟩ : ∃ z_, bdMir A B = z_ := ⟨_, rfl⟩
 rw [hp8] at C8
 have C9 := Lib.hid (fun w => rmirV_any A B w)
 rw [hp8] at C9
 have C10 := Lib.hid (fun w => rsameV_self p8 w)
 clear hq4_ hp8
 go_enter Try.func9, Try.ntmps9
 go_wp2_with fail
 obtain ⟨W, hW, K0, K1, hB, hz⟩ := bx2 w 30 30 (vc A) (vc B)
 rw [← hW]
 have K0 := Lib.hid K0
 have K1 := Lib.hid K1
 have HB := Lib.hid hB
 clear hW hB hz
 have D1 := dr W
 refine (C0.out _).mono ?_
 rintro r w2 ⟨rfl, hb⟩
 have D3 := ds D1 hb
 clear D1
 clear hb
 have f4 := (kb K0 D3)
 go_wp2_with (refine wl_load (by kernel_rfl) rfl rfl f4 (by rw [info_V3]; rfl) Try.underlying30 rfl ?_)
 clear f4
 refine (C1.out _).mono ?_
 rintro r w5 ⟨rfl, hb⟩
 have D6 := ds D3 hb
 clear D3
 clear hb
 have f7 := (kb K1 D6)
 go_wp2_with (refine wl_load (by kernel_rfl) rfl rfl f7 (by rw [info_V3]; rfl) Try.underlying30 rfl ?_)
 clear f7
 refine (C2.out _).mono ?_
 rintro r w8 ⟨rfl, hb⟩
 have D9 := ds D6 hb
 clear D6
 clear hb
 have f10 := (kb K0 D9)
 have f11 := (kb K1 D9)
 go_wp2_with (first | (refine wl_load (by kernel_rfl) rfl rfl f10 (by rw [info_V3]; rfl) Try.underlying30 rfl ?_) | (refine wl_load (by kernel_rfl) rfl rfl f11 (by rw [info_V3]; rfl) Try.underlying30 rfl ?_))
 clear f10 f11
 refine (C3.out _).mono ?_
 rintro r w12 ⟨rfl, hb⟩
 have D13 := ds D9 hb
 clear D9
 clear hb
 obtain ⟨g14, hg16⟩ : ∃ g, w12.heap.size = g := ⟨_, rfl⟩
 have Y18 := Lib.hid (show w.heap.size < g14 ∧ w.heap.size + 1 < g14 by rw [← hg16]; exact ⟨(kb K0 D13).lt, (kb K1 D13).lt⟩)
 obtain ⟨V15, hV17⟩ : ∃ V, w12.alloc (.cells #[.float .f64 0, .float .f64 0, .float .f64 0, .float .f64 0, .float .f64 0, .float .f64 0] 30) = V := ⟨_, rfl⟩
 have K19 := ka hV17 K0 D13
 have K20 := ka hV17 K1 D13
 have K21 := kn hV17 hg16
 have HB22 := hba hV17 HB D13
 have D23 := dr V15
 clear K0 K1 HB D13
 obtain ⟨g24, hg26⟩ : ∃ g, V15.heap.size = g := ⟨_, rfl⟩
 have Y28 := Lib.hid (show w.heap.size < g24 ∧ w.heap.size + 1 < g24 ∧ g14 < g24 by rw [← hg26]; exact ⟨(kb K19 D23).lt, (kb K20 D23).lt, (kb K21 D23).lt⟩)
 obtain ⟨V25, hV27⟩ : ∃ V, V15.alloc (.cells #[.float .f64 0, .float .f64 0] 28) = V := ⟨_, rfl⟩
 have K29 := ka hV27 K19 D23
 have K30 := ka hV27 K20 D23
 have K31 := ka hV27 K21 D23
 have K32 := kn hV27 hg26
 have HB33 := hba hV27 HB22 D23
 have D34 := dr V25
 clear K19 K20 K21 HB22 D23
 have Y35 := Lib.hid (And.intro Y18.out Y28.out)
 clear Y18 Y28
 have f38 := (kb K31 D34)
 obtain ⟨V36, hV37⟩ : ∃ V, World.setRow V25 (g14) (vc A) = V := ⟨_, rfl⟩
 have K39 := kfr hV37 K29 D34 (by have := Y35.out; omega)
 have K40 := kfr hV37 K30 D34 (by have := Y35.out; omega)
 have K41 := ksr hV37 K31 D34
 have K42 := kfr hV37 K32 D34 (by have := Y35.out; omega)
 have HB43 := hbr hV37 HB33 D34 (by have := Y35.out; omega)
 have D44 := dr V36
 clear K29 K30 K31 K32 HB33 D34
 have f47 := (kb K42 D44).cellsL 0 [.float .f64 0, .float .f64 0] rfl
 dsimp only [CellsL, al, vl, Nat.reduceAdd] at f47
 have u48 := (kb K42 D44).unfrozen
 obtain ⟨V45, hV46⟩ : ∃ V, setCells V36 (g24) 0 [.float .f64 q4_.lo, .float .f64 q4_.hi] = V := ⟨_, rfl⟩
 have hv49 := hV46
 simp only [setCells, Nat.reduceAdd] at hv49
 have K50 := kf hV46 K39 D44 (by have := Y35.out; omega)
 have K51 := kf hV46 K40 D44 (by have := Y35.out; omega)
 have K52 := kf hV46 K41 D44 (by have := Y35.out; omega)
 have K53 := Lib.hid (show Blk V45 (g24) 28 #[.float .f64 q4_.lo, .float .f64 q4_.hi] from (ks hV46 K42 D44).out)
 have HB54 := hbs hV46 HB43 D44 (by have := Y35.out; omega)
 have D55 := dr V45
 clear K39 K40 K41 K42 HB43 D44
 have f56 := (kb K50 D55)
 have f57 := (kb K51 D55)
 go_wp2_with (first | (refine wpList_store_row rfl 30 _ _ rfl (g14) (vc A) rfl rfl _ _ f38 (by rw [info_V3]; rfl) rfl (by kernel_rfl) ?_; rw [hV37]) | (refine wl_load (by kernel_rfl) rfl rfl f56 (by rw [info_V3]; rfl) Try.underlying30 rfl ?_) | (refine wl_load (by kernel_rfl) rfl rfl f57 (by rw [info_V3]; rfl) Try.underlying30 rfl ?_))
 clear hg16 hV17 hg26 hV27 hV37 f38 hV46 f47 u48 hv49 f56 f57
 refine (C5.out _).mono ?_
 rintro r w58 ⟨rfl, hb⟩
 have D59 := ds D55 hb
 clear D55
 clear hb
 obtain ⟨g60, hg62⟩ : ∃ g, w58.heap.size = g := ⟨_, rfl⟩
 have Y64 := Lib.hid (show w.heap.size < g60 ∧ w.heap.size + 1 < g60 ∧ g14 < g60 ∧ g24 < g60 by rw [← hg62]; exact ⟨(kb K50 D59).lt, (kb K51 D59).lt, (kb K52 D59).lt, (kb K53 D59).lt⟩)
 obtain ⟨V61, hV63⟩ : ∃ V, w58.alloc (.cells #[.float .f64 0, .float .f64 0, .float .f64 0, .float .f64 0, .float .f64 0, .float .f64 0] 30) = V := ⟨_, rfl⟩
 have K65 := ka hV63 K50 D59
 have K66 := ka hV63 K51 D59
 have K67 := ka hV63 K52 D59
 have K68 := ka hV63 K53 D59
 have K69 := kn hV63 hg62
 have HB70 := hba hV63 HB54 D59
 have D71 := dr V61
 clear K50 K51 K52 K53 HB54 D59
 have Y72 := Lib.hid (And.intro Y35.out Y64.out)
 clear Y35 Y64
 obtain ⟨g73, hg75⟩ : ∃ g, V61.heap.size = g := ⟨_, rfl⟩
 have Y77 := Lib.hid (show w.heap.size < g73 ∧ w.heap.size + 1 < g73 ∧ g14 < g73 ∧ g24 < g73 ∧ g60 < g73 by rw [← hg75]; exact ⟨(kb K65 D71).lt, (kb K66 D71).lt, (kb K67 D71).lt, (kb K68 D71).lt, (kb K69 D71).lt⟩)
 obtain ⟨V74, hV76⟩ : ∃ V, V61.alloc (.cells #[.float .f64 0, .float .f64 0] 28) = V := ⟨_, rfl⟩
 have K78 := ka hV76 K65 D71
 have K79 := ka hV76 K66 D71
 have K80 := ka hV76 K67 D71
 have K81 := ka hV76 K68 D71
 have K82 := ka hV76 K69 D71
 have K83 := kn hV76 hg75
 have HB84 := hba hV76 HB70 D71
 have D85 := dr V74
 clear K65 K66 K67 K68 K69 HB70 D71
 have Y86 := Lib.hid (And.intro Y72.out Y77.out)
 clear Y72 Y77
 have f89 := (kb K82 D85)
 obtain ⟨V87, hV88⟩ : ∃ V, World.setRow V74 (g60) (vc A) = V := ⟨_, rfl⟩
 have K90 := kfr hV88 K78 D85 (by have := Y86.out; omega)
 have K91 := kfr hV88 K79 D85 (by have := Y86.out; omega)
 have K92 := kfr hV88 K80 D85 (by have := Y86.out; omega)
 have K93 := kfr hV88 K81 D85 (by have := Y86.out; omega)
 have K94 := ksr hV88 K82 D85
 have K95 := kfr hV88 K83 D85 (by have := Y86.out; omega)
 have HB96 := hbr hV88 HB84 D85 (by have := Y86.out; omega)
 have D97 := dr V87
 clear K78 K79 K80 K81 K82 K83 HB84 D85
 have f100 := (kb K95 D97).cellsL 0 [.float .f64 0, .float .f64 0] rfl
 dsimp only [CellsL, al, vl, Nat.reduceAdd] at f100
 have u101 := (kb K95 D97).unfrozen
 obtain ⟨V98, hV99⟩ : ∃ V, setCells V87 (g73) 0 [.float .f64 q4_.lo, .float .f64 q4_.hi] = V := ⟨_, rfl⟩
 have hv102 := hV99
 simp only [setCells, Nat.reduceAdd] at hv102
 have K103 := kf hV99 K90 D97 (by have := Y86.out; omega)
 have K104 := kf hV99 K91 D97 (by have := Y86.out; omega)
 have K105 := kf hV99 K92 D97 (by have := Y86.out; omega)
 have K106 := kf hV99 K93 D97 (by have := Y86.out; omega)
 have K107 := kf hV99 K94 D97 (by have := Y86.out; omega)
 have K108 := Lib.hid (show Blk V98 (g73) 28 #[.float .f64 q4_.lo, .float .f64 q4_.hi] from (ks hV99 K95 D97).out)
 have HB109 := hbs hV99 HB96 D97 (by have := Y86.out; omega)
 have D110 := dr V98
 clear K90 K91 K92 K93 K94 K95 HB96 D97
 go_wp2_with (refine wpList_store_row rfl 30 _ _ rfl (g60) (vc A) rfl rfl _ _ f89 (by rw [info_V3]; rfl) rfl (by kernel_rfl) ?_; rw [hV88])
 clear hg62 hV63 hg75 hV76 hV88 f89 hV99 f100 u101 hv102
 refine wp_region_held (S := (fun w' => True ∧ Blk w' (w.heap.size) 30 (vc A) ∧ Blk w' (w.heap.size + 1) 30 (vc B) ∧ Blk w' (g14) 30 (vc A) ∧ Blk w' (g60) 30 (vc A) ∧ CellsL w' (g24) 0 [.float .f64 q4_.lo, .float .f64 q4_.hi] ∧ CellsL w' (g73) 0 [.float .f64 q4_.lo, .float .f64 q4_.hi])) (by kernel_rfl) ?_
 change wpAnyH _ _ _ _ _ _ _ _ (World.drew _)
 obtain ⟨wd111, hwd⟩ : ∃ x, x = World.drew V98 := ⟨_, rfl⟩
 rw [← hwd]
 have D112 := Lib.hid (hwd ▸ Below.drew D110.out : Below V98.heap.size V98 wd111)
 clear D110 hwd
 have hS113 : True ∧ Blk wd111 (w.heap.size) 30 (vc A) ∧ Blk wd111 (w.heap.size + 1) 30 (vc B) ∧ Blk wd111 (g14) 30 (vc A) ∧ Blk wd111 (g60) 30 (vc A) ∧ CellsL wd111 (g24) 0 [.float .f64 q4_.lo, .float .f64 q4_.hi] ∧ CellsL wd111 (g73) 0 [.float .f64 q4_.lo, .float .f64 q4_.hi] := ⟨trivial, (kb K103 D112), (kb K104 D112), (kb K105 D112), (kb K107 D112), (kb K106 D112).cellsL 0 [.float .f64 q4_.lo, .float .f64 q4_.hi] rfl, (kb K108 D112).cellsL 0 [.float .f64 q4_.lo, .float .f64 q4_.hi] rfl⟩
 refine tkL 0 (bm 23 1) ?aq114 rfl (by kernel_rfl) (fun _ _ _ h => h) (by kernel_rfl) rfl rfl (fun _ hS => hS.2.2.2.1) (by rw [info_V3]; rfl) Try.underlying30 rfl ?pq114 hS113 ?rq114
 case pq114 => (go_simp; try with_reducible rfl)
 refine tkL 1 (bm 23 3) ?aq115 rfl (by kernel_rfl) (fun _ _ _ h => h) (by kernel_rfl) rfl rfl (fun _ hS => hS.2.2.2.2.1) (by rw [info_V3]; rfl) Try.underlying30 rfl ?pq115 hS113 ?rq115
 case pq115 => (go_simp; try with_reducible rfl)
 refine wpAnyH_oneN (i := 2) (l' := bm 23 7) rfl (by kernel_rfl) (by kernel_rfl) (by kernel_rfl) (fun K hK => ?_)
 go_simp
 go_at_call 54
 refine (C6.out _).mono ?_
 rintro r w116 ⟨rfl, hb⟩
 dsimp only
 have D117 := ds D112 hb
 clear D112
 clear hb
 have hS118 : True ∧ Blk w116 (w.heap.size) 30 (vc A) ∧ Blk w116 (w.heap.size + 1) 30 (vc B) ∧ Blk w116 (g14) 30 (vc A) ∧ Blk w116 (g60) 30 (vc A) ∧ CellsL w116 (g24) 0 [.float .f64 q4_.lo, .float .f64 q4_.hi] ∧ CellsL w116 (g73) 0 [.float .f64 q4_.lo, .float .f64 q4_.hi] := ⟨trivial, (kb K103 D117), (kb K104 D117), (kb K105 D117), (kb K107 D117), (kb K106 D117).cellsL 0 [.float .f64 q4_.lo, .float .f64 q4_.hi] rfl, (kb K108 D117).cellsL 0 [.float .f64 q4_.lo, .float .f64 q4_.hi] rfl⟩
 refine hK _ _ hS118 ?_
 clear hK K hS113
 refine tkq 3 (bm 23 15) hS118 ?_
 refine tke 4 (bm 23 31) hS118 ?_
 refine tke 5 (bm 23 63) hS118 ?_
 refine wpAnyH_oneN (i := 6) (l' := bm 23 127) rfl (by kernel_rfl) (by kernel_rfl) (by kernel_rfl) (fun K hK => ?_)
 go_simp
 go_at_call 55
 refine (C7.out _).mono ?_
 rintro r w122 ⟨rfl, hb⟩
 dsimp only
 have D123 := ds D117 hb
 clear D117
 clear hb
 have hS124 : True ∧ Blk w122 (w.heap.size) 30 (vc A) ∧ Blk w122 (w.heap.size + 1) 30 (vc B) ∧ Blk w122 (g14) 30 (vc A) ∧ Blk w122 (g60) 30 (vc A) ∧ CellsL w122 (g24) 0 [.float .f64 q4_.lo, .float .f64 q4_.hi] ∧ CellsL w122 (g73) 0 [.float .f64 q4_.lo, .float .f64 q4_.hi] := ⟨trivial, (kb K103 D123), (kb K104 D123), (kb K105 D123), (kb K107 D123), (kb K106 D123).cellsL 0 [.float .f64 q4_.lo, .float .f64 q4_.hi] rfl, (kb K108 D123).cellsL 0 [.float .f64 q4_.lo, .float .f64 q4_.hi] rfl⟩
 refine hK _ _ hS124 ?_
 clear hK K hS118
 refine tkq 7 (bm 23 255) hS124 ?_
 refine tkq 8 (bm 23 511) hS124 ?_
 refine tkq 9 (bm 23 1023) hS124 ?_
 refine tkq 10 (bm 23 2047) hS124 ?_
 refine tkq 11 (bm 23 4095) hS124 ?_
 refine tkq 12 (bm 23 8191) hS124 ?_
 refine tkq 13 (bm 23 16383) hS124 ?_
 refine tkL 14 (bm 23 32767) ?aq132 rfl (by kernel_rfl) (fun _ _ _ h => h) (by kernel_rfl) rfl rfl (fun _ hS => hS.2.1) (by rw [info_V3]; rfl) Try.underlying30 rfl ?pq132 hS124 ?rq132
 case pq132 => (go_simp; try with_reducible rfl)
 refine tkL 15 (bm 23 65535) ?aq133 rfl (by kernel_rfl) (fun _ _ _ h => h) (by kernel_rfl) rfl rfl (fun _ hS => hS.2.2.1) (by rw [info_V3]; rfl) Try.underlying30 rfl ?pq133 hS124 ?rq133
 case pq133 => (go_simp; try with_reducible rfl)
 refine tkL 17 (bm 23 196607) ?aq134 rfl (by kernel_rfl) (fun _ _ _ h => h) (by kernel_rfl) rfl rfl (fun _ hS => hS.2.1) (by rw [info_V3]; rfl) Try.underlying30 rfl ?pq134 hS124 ?rq134
 case pq134 => (go_simp; try with_reducible rfl)
 refine tkL 18 (bm 23 458751) ?aq135 rfl (by kernel_rfl) (fun _ _ _ h => h) (by kernel_rfl) rfl rfl (fun _ hS => hS.2.2.1) (by rw [info_V3]; rfl) Try.underlying30 rfl ?pq135 hS124 ?rq135
 case pq135 => (go_simp; try with_reducible rfl)
 refine wpAnyH_oneN (i := 16) (l' := bm 23 524287) rfl (by kernel_rfl) (by kernel_rfl) (by kernel_rfl) (fun K hK => ?_)
 go_simp
 go_at_call 48
 refine (C8.out _).mono ?_
 rintro r w136 ⟨rfl, hb⟩
 dsimp only
 have D137 := ds D123 hb
 clear D123
 clear hb
 have hS138 : True ∧ Blk w136 (w.heap.size) 30 (vc A) ∧ Blk w136 (w.heap.size + 1) 30 (vc B) ∧ Blk w136 (g14) 30 (vc A) ∧ Blk w136 (g60) 30 (vc A) ∧ CellsL w136 (g24) 0 [.float .f64 q4_.lo, .float .f64 q4_.hi] ∧ CellsL w136 (g73) 0 [.float .f64 q4_.lo, .float .f64 q4_.hi] := ⟨trivial, (kb K103 D137), (kb K104 D137), (kb K105 D137), (kb K107 D137), (kb K106 D137).cellsL 0 [.float .f64 q4_.lo, .float .f64 q4_.hi] rfl, (kb K108 D137).cellsL 0 [.float .f64 q4_.lo, .float .f64 q4_.hi] rfl⟩
 refine hK _ _ hS138 ?_
 clear hK K hS124
 refine wpAnyH_oneN (i := 19) (l' := bm 23 1048575) rfl (by kernel_rfl) (by kernel_rfl) (by kernel_rfl) (fun K hK => ?_)
 go_simp
 go_at_call 56
 refine (C9.out _).mono ?_
 rintro r w139 ⟨rfl, hb⟩
 dsimp only
 have D140 := ds D137 hb
 clear D137
 clear hb
 have hS141 : True ∧ Blk w139 (w.heap.size) 30 (vc A) ∧ Blk w139 (w.heap.size + 1) 30 (vc B) ∧ Blk w139 (g14) 30 (vc A) ∧ Blk w139 (g60) 30 (vc A) ∧ CellsL w139 (g24) 0 [.float .f64 q4_.lo, .float .f64 q4_.hi] ∧ CellsL w139 (g73) 0 [.float .f64 q4_.lo, .float .f64 q4_.hi] := ⟨trivial, (kb K103 D140), (kb K104 D140), (kb K105 D140), (kb K107 D140), (kb K106 D140).cellsL 0 [.float .f64 q4_.lo, .float .f64 q4_.hi] rfl, (kb K108 D140).cellsL 0 [.float .f64 q4_.lo, .float .f64 q4_.hi] rfl⟩
 refine hK _ _ hS141 ?_
 clear hK K hS138
 refine wpAnyH_oneN (i := 20) (l' := bm 23 2097151) rfl (by kernel_rfl) (by kernel_rfl) (by kernel_rfl) (fun K hK => ?_)
 go_simp
 go_at_call 54
 refine (C10.out _).mono ?_
 rintro r w142 ⟨rfl, hb⟩
 dsimp only
 have D143 := ds D140 hb
 clear D140
 clear hb
 have hS144 : True ∧ Blk w142 (w.heap.size) 30 (vc A) ∧ Blk w142 (w.heap.size + 1) 30 (vc B) ∧ Blk w142 (g14) 30 (vc A) ∧ Blk w142 (g60) 30 (vc A) ∧ CellsL w142 (g24) 0 [.float .f64 q4_.lo, .float .f64 q4_.hi] ∧ CellsL w142 (g73) 0 [.float .f64 q4_.lo, .float .f64 q4_.hi] := ⟨trivial, (kb K103 D143), (kb K104 D143), (kb K105 D143), (kb K107 D143), (kb K106 D143).cellsL 0 [.float .f64 q4_.lo, .float .f64 q4_.hi] rfl, (kb K108 D143).cellsL 0 [.float .f64 q4_.lo, .float .f64 q4_.hi] rfl⟩
 refine hK _ _ hS144 ?_
 clear hK K hS141
 refine tkq 21 (bm 23 4194303) hS144 ?_
 refine tkq 22 (bm 23 8388607) hS144 ?_
 refine wpAnyH_done (by kernel_rfl) ?_ _
 clear hS144
 go_wp2_with fail
 go_ret
 exact ⟨rfl, below_step HB109.out D143.out⟩
theorem bsdfTurns_0 (A B : V3) (h : posS (bdCos A B) = 0) (w : World) : Calls Try.prog 9 #[Value.agg #[.float .f64 A.x.lo, .float .f64 A.x.hi, .float .f64 A.y.lo, .float .f64 A.y.hi, .float .f64 A.z.lo, .float .f64 A.z.hi], Value.agg #[.float .f64 B.x.lo, .float .f64 B.x.hi, .float .f64 B.y.lo, .float .f64 B.y.hi, .float .f64 B.z.lo, .float .f64 B.z.hi]] w fun r w' => r = .returned (.bool true) ∧ Below w.heap.size w w' := by
 have C0 := Lib.hid (awake12)
 have C1 := Lib.hid (fun w => rvalidV_v A w)
 have C2 := Lib.hid (fun w => rvalidV_v B w)
 have C3 := Lib.hid (fun w => face_0 A B h w)
 obtain ⟨q4_, hq4_⟩ : ∃ z_, negS (bdCos A B) = z_ := ⟨_, rfl⟩
 rw [hq4_] at C3
 obtain ⟨q5_, hq5_⟩ : ∃ z_, vNeg A = z_ := ⟨_, rfl⟩
 rw [hq5_] at C3
 have C6 := Lib.hid (fun w => rface_0 A B h w)
 rw [hq4_] at C6
 rw [hq5_] at C6
 have C7 := Lib.hid (fun w => rsameV_self q5_ w)
 have C8 := Lib.hid (fun w => rsame_sp q4_ w)
 have C9 := Lib.hid (fun w => mirV_any A B w)
 obtain ⟨p9, hp9⟩ : ∃ z_, bdMir A B = z_ := ⟨_, rfl⟩
 rw [hp9] at C9
 have C10 := Lib.hid (fun w => rmirV_any A B w)
 rw [hp9] at C10
 have C11 := Lib.hid (fun w => rsameV_self p9 w)
 clear hq4_ hq5_ hp9
 go_enter Try.func9, Try.ntmps9
 go_wp2_with fail
 obtain ⟨W, hW, K0, K1, hB, hz⟩ := bx2 w 30 30 (vc A) (vc B)
 rw [← hW]
 have K0 := Lib.hid K0
 have K1 := Lib.hid K1
 have HB := Lib.hid hB
 clear hW hB hz
 have D1 := dr W
 refine (C0.out _).mono ?_
 rintro r w2 ⟨rfl, hb⟩
 have D3 := ds D1 hb
 clear D1
 clear hb
 have f4 := (kb K0 D3)
 go_wp2_with (refine wl_load (by kernel_rfl) rfl rfl f4 (by rw [info_V3]; rfl) Try.underlying30 rfl ?_)
 clear f4
 refine (C1.out _).mono ?_
 rintro r w5 ⟨rfl, hb⟩
 have D6 := ds D3 hb
 clear D3
 clear hb
 have f7 := (kb K1 D6)
 go_wp2_with (refine wl_load (by kernel_rfl) rfl rfl f7 (by rw [info_V3]; rfl) Try.underlying30 rfl ?_)
 clear f7
 refine (C2.out _).mono ?_
 rintro r w8 ⟨rfl, hb⟩
 have D9 := ds D6 hb
 clear D6
 clear hb
 have f10 := (kb K0 D9)
 have f11 := (kb K1 D9)
 go_wp2_with (first | (refine wl_load (by kernel_rfl) rfl rfl f10 (by rw [info_V3]; rfl) Try.underlying30 rfl ?_) | (refine wl_load (by kernel_rfl) rfl rfl f11 (by rw [info_V3]; rfl) Try.underlying30 rfl ?_))
 clear f10 f11
 refine (C3.out _).mono ?_
 rintro r w12 ⟨rfl, hb⟩
 have D13 := ds D9 hb
 clear D9
 clear hb
 obtain ⟨g14, hg16⟩ : ∃ g, w12.heap.size = g := ⟨_, rfl⟩
 have Y18 := Lib.hid (show w.heap.size < g14 ∧ w.heap.size + 1 < g14 by rw [← hg16]; exact ⟨(kb K0 D13).lt, (kb K1 D13).lt⟩)
 obtain ⟨V15, hV17⟩ : ∃ V, w12.alloc (.cells #[.float .f64 0, .float .f64 0, .float .f64 0, .float .f64 0, .float .f64 0, .float .f64 0] 30) = V := ⟨_, rfl⟩
 have K19 := ka hV17 K0 D13
 have K20 := ka hV17 K1 D13
 have K21 := kn hV17 hg16
 have HB22 := hba hV17 HB D13
 have D23 := dr V15
 clear K0 K1 HB D13
 obtain ⟨g24, hg26⟩ : ∃ g, V15.heap.size = g := ⟨_, rfl⟩
 have Y28 := Lib.hid (show w.heap.size < g24 ∧ w.heap.size + 1 < g24 ∧ g14 < g24 by rw [← hg26]; exact ⟨(kb K19 D23).lt, (kb K20 D23).lt, (kb K21 D23).lt⟩)
 obtain ⟨V25, hV27⟩ : ∃ V, V15.alloc (.cells #[.float .f64 0, .float .f64 0] 28) = V := ⟨_, rfl⟩
 have K29 := ka hV27 K19 D23
 have K30 := ka hV27 K20 D23
 have K31 := ka hV27 K21 D23
 have K32 := kn hV27 hg26
 have HB33 := hba hV27 HB22 D23
 have D34 := dr V25
 clear K19 K20 K21 HB22 D23
 have Y35 := Lib.hid (And.intro Y18.out Y28.out)
 clear Y18 Y28
 have f38 := (kb K31 D34)
 obtain ⟨V36, hV37⟩ : ∃ V, World.setRow V25 (g14) (vc q5_) = V := ⟨_, rfl⟩
 have K39 := kfr hV37 K29 D34 (by have := Y35.out; omega)
 have K40 := kfr hV37 K30 D34 (by have := Y35.out; omega)
 have K41 := ksr hV37 K31 D34
 have K42 := kfr hV37 K32 D34 (by have := Y35.out; omega)
 have HB43 := hbr hV37 HB33 D34 (by have := Y35.out; omega)
 have D44 := dr V36
 clear K29 K30 K31 K32 HB33 D34
 have f47 := (kb K42 D44).cellsL 0 [.float .f64 0, .float .f64 0] rfl
 dsimp only [CellsL, al, vl, Nat.reduceAdd] at f47
 have u48 := (kb K42 D44).unfrozen
 obtain ⟨V45, hV46⟩ : ∃ V, setCells V36 (g24) 0 [.float .f64 q4_.lo, .float .f64 q4_.hi] = V := ⟨_, rfl⟩
 have hv49 := hV46
 simp only [setCells, Nat.reduceAdd] at hv49
 have K50 := kf hV46 K39 D44 (by have := Y35.out; omega)
 have K51 := kf hV46 K40 D44 (by have := Y35.out; omega)
 have K52 := kf hV46 K41 D44 (by have := Y35.out; omega)
 have K53 := Lib.hid (show Blk V45 (g24) 28 #[.float .f64 q4_.lo, .float .f64 q4_.hi] from (ks hV46 K42 D44).out)
 have HB54 := hbs hV46 HB43 D44 (by have := Y35.out; omega)
 have D55 := dr V45
 clear K39 K40 K41 K42 HB43 D44
 have f56 := (kb K50 D55)
 have f57 := (kb K51 D55)
 go_wp2_with (first | (refine wpList_store_row rfl 30 _ _ rfl (g14) (vc q5_) rfl rfl _ _ f38 (by rw [info_V3]; rfl) rfl (by kernel_rfl) ?_; rw [hV37]) | (refine wl_load (by kernel_rfl) rfl rfl f56 (by rw [info_V3]; rfl) Try.underlying30 rfl ?_) | (refine wl_load (by kernel_rfl) rfl rfl f57 (by rw [info_V3]; rfl) Try.underlying30 rfl ?_))
 clear hg16 hV17 hg26 hV27 hV37 f38 hV46 f47 u48 hv49 f56 f57
 refine (C6.out _).mono ?_
 rintro r w58 ⟨rfl, hb⟩
 have D59 := ds D55 hb
 clear D55
 clear hb
 obtain ⟨g60, hg62⟩ : ∃ g, w58.heap.size = g := ⟨_, rfl⟩
 have Y64 := Lib.hid (show w.heap.size < g60 ∧ w.heap.size + 1 < g60 ∧ g14 < g60 ∧ g24 < g60 by rw [← hg62]; exact ⟨(kb K50 D59).lt, (kb K51 D59).lt, (kb K52 D59).lt, (kb K53 D59).lt⟩)
 obtain ⟨V61, hV63⟩ : ∃ V, w58.alloc (.cells #[.float .f64 0, .float .f64 0, .float .f64 0, .float .f64 0, .float .f64 0, .float .f64 0] 30) = V := ⟨_, rfl⟩
 have K65 := ka hV63 K50 D59
 have K66 := ka hV63 K51 D59
 have K67 := ka hV63 K52 D59
 have K68 := ka hV63 K53 D59
 have K69 := kn hV63 hg62
 have HB70 := hba hV63 HB54 D59
 have D71 := dr V61
 clear K50 K51 K52 K53 HB54 D59
 have Y72 := Lib.hid (And.intro Y35.out Y64.out)
 clear Y35 Y64
 obtain ⟨g73, hg75⟩ : ∃ g, V61.heap.size = g := ⟨_, rfl⟩
 have Y77 := Lib.hid (show w.heap.size < g73 ∧ w.heap.size + 1 < g73 ∧ g14 < g73 ∧ g24 < g73 ∧ g60 < g73 by rw [← hg75]; exact ⟨(kb K65 D71).lt, (kb K66 D71).lt, (kb K67 D71).lt, (kb K68 D71).lt, (kb K69 D71).lt⟩)
 obtain ⟨V74, hV76⟩ : ∃ V, V61.alloc (.cells #[.float .f64 0, .float .f64 0] 28) = V := ⟨_, rfl⟩
 have K78 := ka hV76 K65 D71
 have K79 := ka hV76 K66 D71
 have K80 := ka hV76 K67 D71
 have K81 := ka hV76 K68 D71
 have K82 := ka hV76 K69 D71
 have K83 := kn hV76 hg75
 have HB84 := hba hV76 HB70 D71
 have D85 := dr V74
 clear K65 K66 K67 K68 K69 HB70 D71
 have Y86 := Lib.hid (And.intro Y72.out Y77.out)
 clear Y72 Y77
 have f89 := (kb K82 D85)
 obtain ⟨V87, hV88⟩ : ∃ V, World.setRow V74 (g60) (vc q5_) = V := ⟨_, rfl⟩
 have K90 := kfr hV88 K78 D85 (by have := Y86.out; omega)
 have K91 := kfr hV88 K79 D85 (by have := Y86.out; omega)
 have K92 := kfr hV88 K80 D85 (by have := Y86.out; omega)
 have K93 := kfr hV88 K81 D85 (by have := Y86.out; omega)
 have K94 := ksr hV88 K82 D85
 have K95 := kfr hV88 K83 D85 (by have := Y86.out; omega)
 have HB96 := hbr hV88 HB84 D85 (by have := Y86.out; omega)
 have D97 := dr V87
 clear K78 K79 K80 K81 K82 K83 HB84 D85
 have f100 := (kb K95 D97).cellsL 0 [.float .f64 0, .float .f64 0] rfl
 dsimp only [CellsL, al, vl, Nat.reduceAdd] at f100
 have u101 := (kb K95 D97).unfrozen
 obtain ⟨V98, hV99⟩ : ∃ V, setCells V87 (g73) 0 [.float .f64 q4_.lo, .float .f64 q4_.hi] = V := ⟨_, rfl⟩
 have hv102 := hV99
 simp only [setCells, Nat.reduceAdd] at hv102
 have K103 := kf hV99 K90 D97 (by have := Y86.out; omega)
 have K104 := kf hV99 K91 D97 (by have := Y86.out; omega)
 have K105 := kf hV99 K92 D97 (by have := Y86.out; omega)
 have K106 := kf hV99 K93 D97 (by have := Y86.out; omega)
 have K107 := kf hV99 K94 D97 (by have := Y86.out; omega)
 have K108 := Lib.hid (show Blk V98 (g73) 28 #[.float .f64 q4_.lo, .float .f64 q4_.hi] from (ks hV99 K95 D97).out)
 have HB109 := hbs hV99 HB96 D97 (by have := Y86.out; omega)
 have D110 := dr V98
 clear K90 K91 K92 K93 K94 K95 HB96 D97
 go_wp2_with (refine wpList_store_row rfl 30 _ _ rfl (g60) (vc q5_) rfl rfl _ _ f89 (by rw [info_V3]; rfl) rfl (by kernel_rfl) ?_; rw [hV88])
 clear hg62 hV63 hg75 hV76 hV88 f89 hV99 f100 u101 hv102
 refine wp_region_held (S := (fun w' => True ∧ Blk w' (w.heap.size) 30 (vc A) ∧ Blk w' (w.heap.size + 1) 30 (vc B) ∧ Blk w' (g14) 30 (vc q5_) ∧ Blk w' (g60) 30 (vc q5_) ∧ CellsL w' (g24) 0 [.float .f64 q4_.lo, .float .f64 q4_.hi] ∧ CellsL w' (g73) 0 [.float .f64 q4_.lo, .float .f64 q4_.hi])) (by kernel_rfl) ?_
 change wpAnyH _ _ _ _ _ _ _ _ (World.drew _)
 obtain ⟨wd111, hwd⟩ : ∃ x, x = World.drew V98 := ⟨_, rfl⟩
 rw [← hwd]
 have D112 := Lib.hid (hwd ▸ Below.drew D110.out : Below V98.heap.size V98 wd111)
 clear D110 hwd
 have hS113 : True ∧ Blk wd111 (w.heap.size) 30 (vc A) ∧ Blk wd111 (w.heap.size + 1) 30 (vc B) ∧ Blk wd111 (g14) 30 (vc q5_) ∧ Blk wd111 (g60) 30 (vc q5_) ∧ CellsL wd111 (g24) 0 [.float .f64 q4_.lo, .float .f64 q4_.hi] ∧ CellsL wd111 (g73) 0 [.float .f64 q4_.lo, .float .f64 q4_.hi] := ⟨trivial, (kb K103 D112), (kb K104 D112), (kb K105 D112), (kb K107 D112), (kb K106 D112).cellsL 0 [.float .f64 q4_.lo, .float .f64 q4_.hi] rfl, (kb K108 D112).cellsL 0 [.float .f64 q4_.lo, .float .f64 q4_.hi] rfl⟩
 refine tkL 0 (bm 23 1) ?aq114 rfl (by kernel_rfl) (fun _ _ _ h => h) (by kernel_rfl) rfl rfl (fun _ hS => hS.2.2.2.1) (by rw [info_V3]; rfl) Try.underlying30 rfl ?pq114 hS113 ?rq114
 case pq114 => (go_simp; try with_reducible rfl)
 refine tkL 1 (bm 23 3) ?aq115 rfl (by kernel_rfl) (fun _ _ _ h => h) (by kernel_rfl) rfl rfl (fun _ hS => hS.2.2.2.2.1) (by rw [info_V3]; rfl) Try.underlying30 rfl ?pq115 hS113 ?rq115
 case pq115 => (go_simp; try with_reducible rfl)
 refine wpAnyH_oneN (i := 2) (l' := bm 23 7) rfl (by kernel_rfl) (by kernel_rfl) (by kernel_rfl) (fun K hK => ?_)
 go_simp
 go_at_call 54
 refine (C7.out _).mono ?_
 rintro r w116 ⟨rfl, hb⟩
 dsimp only
 have D117 := ds D112 hb
 clear D112
 clear hb
 have hS118 : True ∧ Blk w116 (w.heap.size) 30 (vc A) ∧ Blk w116 (w.heap.size + 1) 30 (vc B) ∧ Blk w116 (g14) 30 (vc q5_) ∧ Blk w116 (g60) 30 (vc q5_) ∧ CellsL w116 (g24) 0 [.float .f64 q4_.lo, .float .f64 q4_.hi] ∧ CellsL w116 (g73) 0 [.float .f64 q4_.lo, .float .f64 q4_.hi] := ⟨trivial, (kb K103 D117), (kb K104 D117), (kb K105 D117), (kb K107 D117), (kb K106 D117).cellsL 0 [.float .f64 q4_.lo, .float .f64 q4_.hi] rfl, (kb K108 D117).cellsL 0 [.float .f64 q4_.lo, .float .f64 q4_.hi] rfl⟩
 refine hK _ _ hS118 ?_
 clear hK K hS113
 refine tkq 3 (bm 23 15) hS118 ?_
 refine tke 4 (bm 23 31) hS118 ?_
 refine tke 5 (bm 23 63) hS118 ?_
 refine wpAnyH_oneN (i := 6) (l' := bm 23 127) rfl (by kernel_rfl) (by kernel_rfl) (by kernel_rfl) (fun K hK => ?_)
 go_simp
 go_at_call 55
 refine (C8.out _).mono ?_
 rintro r w122 ⟨rfl, hb⟩
 dsimp only
 have D123 := ds D117 hb
 clear D117
 clear hb
 have hS124 : True ∧ Blk w122 (w.heap.size) 30 (vc A) ∧ Blk w122 (w.heap.size + 1) 30 (vc B) ∧ Blk w122 (g14) 30 (vc q5_) ∧ Blk w122 (g60) 30 (vc q5_) ∧ CellsL w122 (g24) 0 [.float .f64 q4_.lo, .float .f64 q4_.hi] ∧ CellsL w122 (g73) 0 [.float .f64 q4_.lo, .float .f64 q4_.hi] := ⟨trivial, (kb K103 D123), (kb K104 D123), (kb K105 D123), (kb K107 D123), (kb K106 D123).cellsL 0 [.float .f64 q4_.lo, .float .f64 q4_.hi] rfl, (kb K108 D123).cellsL 0 [.float .f64 q4_.lo, .float .f64 q4_.hi] rfl⟩
 refine hK _ _ hS124 ?_
 clear hK K hS118
 refine tkq 7 (bm 23 255) hS124 ?_
 refine tkq 8 (bm 23 511) hS124 ?_
 refine tkq 9 (bm 23 1023) hS124 ?_
 refine tkq 10 (bm 23 2047) hS124 ?_
 refine tkq 11 (bm 23 4095) hS124 ?_
 refine tkq 12 (bm 23 8191) hS124 ?_
 refine tkq 13 (bm 23 16383) hS124 ?_
 refine tkL 14 (bm 23 32767) ?aq132 rfl (by kernel_rfl) (fun _ _ _ h => h) (by kernel_rfl) rfl rfl (fun _ hS => hS.2.1) (by rw [info_V3]; rfl) Try.underlying30 rfl ?pq132 hS124 ?rq132
 case pq132 => (go_simp; try with_reducible rfl)
 refine tkL 15 (bm 23 65535) ?aq133 rfl (by kernel_rfl) (fun _ _ _ h => h) (by kernel_rfl) rfl rfl (fun _ hS => hS.2.2.1) (by rw [info_V3]; rfl) Try.underlying30 rfl ?pq133 hS124 ?rq133
 case pq133 => (go_simp; try with_reducible rfl)
 refine tkL 17 (bm 23 196607) ?aq134 rfl (by kernel_rfl) (fun _ _ _ h => h) (by kernel_rfl) rfl rfl (fun _ hS => hS.2.1) (by rw [info_V3]; rfl) Try.underlying30 rfl ?pq134 hS124 ?rq134
 case pq134 => (go_simp; try with_reducible rfl)
 refine tkL 18 (bm 23 458751) ?aq135 rfl (by kernel_rfl) (fun _ _ _ h => h) (by kernel_rfl) rfl rfl (fun _ hS => hS.2.2.1) (by rw [info_V3]; rfl) Try.underlying30 rfl ?pq135 hS124 ?rq135
 case pq135 => (go_simp; try with_reducible rfl)
 refine wpAnyH_oneN (i := 16) (l' := bm 23 524287) rfl (by kernel_rfl) (by kernel_rfl) (by kernel_rfl) (fun K hK => ?_)
 go_simp
 go_at_call 48
 refine (C9.out _).mono ?_
 rintro r w136 ⟨rfl, hb⟩
 dsimp only
 have D137 := ds D123 hb
 clear D123
 clear hb
 have hS138 : True ∧ Blk w136 (w.heap.size) 30 (vc A) ∧ Blk w136 (w.heap.size + 1) 30 (vc B) ∧ Blk w136 (g14) 30 (vc q5_) ∧ Blk w136 (g60) 30 (vc q5_) ∧ CellsL w136 (g24) 0 [.float .f64 q4_.lo, .float .f64 q4_.hi] ∧ CellsL w136 (g73) 0 [.float .f64 q4_.lo, .float .f64 q4_.hi] := ⟨trivial, (kb K103 D137), (kb K104 D137), (kb K105 D137), (kb K107 D137), (kb K106 D137).cellsL 0 [.float .f64 q4_.lo, .float .f64 q4_.hi] rfl, (kb K108 D137).cellsL 0 [.float .f64 q4_.lo, .float .f64 q4_.hi] rfl⟩
 refine hK _ _ hS138 ?_
 clear hK K hS124
 refine wpAnyH_oneN (i := 19) (l' := bm 23 1048575) rfl (by kernel_rfl) (by kernel_rfl) (by kernel_rfl) (fun K hK => ?_)
 go_simp
 go_at_call 56
 refine (C10.out _).mono ?_
 rintro r w139 ⟨rfl, hb⟩
 dsimp only
 have D140 := ds D137 hb
 clear D137
 clear hb
 have hS141 : True ∧ Blk w139 (w.heap.size) 30 (vc A) ∧ Blk w139 (w.heap.size + 1) 30 (vc B) ∧ Blk w139 (g14) 30 (vc q5_) ∧ Blk w139 (g60) 30 (vc q5_) ∧ CellsL w139 (g24) 0 [.float .f64 q4_.lo, .float .f64 q4_.hi] ∧ CellsL w139 (g73) 0 [.float .f64 q4_.lo, .float .f64 q4_.hi] := ⟨trivial, (kb K103 D140), (kb K104 D140), (kb K105 D140), (kb K107 D140), (kb K106 D140).cellsL 0 [.float .f64 q4_.lo, .float .f64 q4_.hi] rfl, (kb K108 D140).cellsL 0 [.float .f64 q4_.lo, .float .f64 q4_.hi] rfl⟩
 refine hK _ _ hS141 ?_
 clear hK K hS138
 refine wpAnyH_oneN (i := 20) (l' := bm 23 2097151) rfl (by kernel_rfl) (by kernel_rfl) (by kernel_rfl) (fun K hK => ?_)
 go_simp
 go_at_call 54
 refine (C11.out _).mono ?_
 rintro r w142 ⟨rfl, hb⟩
 dsimp only
 have D143 := ds D140 hb
 clear D140
 clear hb
 have hS144 : True ∧ Blk w142 (w.heap.size) 30 (vc A) ∧ Blk w142 (w.heap.size + 1) 30 (vc B) ∧ Blk w142 (g14) 30 (vc q5_) ∧ Blk w142 (g60) 30 (vc q5_) ∧ CellsL w142 (g24) 0 [.float .f64 q4_.lo, .float .f64 q4_.hi] ∧ CellsL w142 (g73) 0 [.float .f64 q4_.lo, .float .f64 q4_.hi] := ⟨trivial, (kb K103 D143), (kb K104 D143), (kb K105 D143), (kb K107 D143), (kb K106 D143).cellsL 0 [.float .f64 q4_.lo, .float .f64 q4_.hi] rfl, (kb K108 D143).cellsL 0 [.float .f64 q4_.lo, .float .f64 q4_.hi] rfl⟩
 refine hK _ _ hS144 ?_
 clear hK K hS141
 refine tkq 21 (bm 23 4194303) hS144 ?_
 refine tkq 22 (bm 23 8388607) hS144 ?_
 refine wpAnyH_done (by kernel_rfl) ?_ _
 clear hS144
 go_wp2_with fail
 go_ret
 exact ⟨rfl, below_step HB109.out D143.out⟩
theorem bsdfTurns_2 (A B : V3) (h : posS (bdCos A B) = 2) (w : World) : Calls Try.prog 9 #[Value.agg #[.float .f64 A.x.lo, .float .f64 A.x.hi, .float .f64 A.y.lo, .float .f64 A.y.hi, .float .f64 A.z.lo, .float .f64 A.z.hi], Value.agg #[.float .f64 B.x.lo, .float .f64 B.x.hi, .float .f64 B.y.lo, .float .f64 B.y.hi, .float .f64 B.z.lo, .float .f64 B.z.hi]] w fun r w' => r = .returned (.bool true) ∧ Below w.heap.size w w' := by
 have C0 := Lib.hid (awake12)
 have C1 := Lib.hid (fun w => rvalidV_v A w)
 have C2 := Lib.hid (fun w => rvalidV_v B w)
 have C3 := Lib.hid (fun w => face_2 A B h w)
 obtain ⟨q4_, hq4_⟩ : ∃ z_, bdCos A B = z_ := ⟨_, rfl⟩
 rw [hq4_] at C3
 have C5 := Lib.hid (fun w => rface_2 A B h w)
 rw [hq4_] at C5
 have C6 := Lib.hid (fun w => rsameV_self A w)
 have C7 := Lib.hid (fun w => rsame_sp q4_ w)
 have C8 := Lib.hid (fun w => mirV_any A B w)
 obtain ⟨p8, hp8⟩ : ∃ z_, bdMir A B = z_ := ⟨_, rfl⟩
 rw [hp8] at C8
 have C9 := Lib.hid (fun w => rmirV_any A B w)
 rw [hp8] at C9
 have C10 := Lib.hid (fun w => rsameV_self p8 w)
 clear hq4_ hp8
 go_enter Try.func9, Try.ntmps9
 go_wp2_with fail
 obtain ⟨W, hW, K0, K1, hB, hz⟩ := bx2 w 30 30 (vc A) (vc B)
 rw [← hW]
 have K0 := Lib.hid K0
 have K1 := Lib.hid K1
 have HB := Lib.hid hB
 clear hW hB hz
 have D1 := dr W
 refine (C0.out _).mono ?_
 rintro r w2 ⟨rfl, hb⟩
 have D3 := ds D1 hb
 clear D1
 clear hb
 have f4 := (kb K0 D3)
 go_wp2_with (refine wl_load (by kernel_rfl) rfl rfl f4 (by rw [info_V3]; rfl) Try.underlying30 rfl ?_)
 clear f4
 refine (C1.out _).mono ?_
 rintro r w5 ⟨rfl, hb⟩
 have D6 := ds D3 hb
 clear D3
 clear hb
 have f7 := (kb K1 D6)
 go_wp2_with (refine wl_load (by kernel_rfl) rfl rfl f7 (by rw [info_V3]; rfl) Try.underlying30 rfl ?_)
 clear f7
 refine (C2.out _).mono ?_
 rintro r w8 ⟨rfl, hb⟩
 have D9 := ds D6 hb
 clear D6
 clear hb
 have f10 := (kb K0 D9)
 have f11 := (kb K1 D9)
 go_wp2_with (first | (refine wl_load (by kernel_rfl) rfl rfl f10 (by rw [info_V3]; rfl) Try.underlying30 rfl ?_) | (refine wl_load (by kernel_rfl) rfl rfl f11 (by rw [info_V3]; rfl) Try.underlying30 rfl ?_))
 clear f10 f11
 refine (C3.out _).mono ?_
 rintro r w12 ⟨rfl, hb⟩
 have D13 := ds D9 hb
 clear D9
 clear hb
 obtain ⟨g14, hg16⟩ : ∃ g, w12.heap.size = g := ⟨_, rfl⟩
 have Y18 := Lib.hid (show w.heap.size < g14 ∧ w.heap.size + 1 < g14 by rw [← hg16]; exact ⟨(kb K0 D13).lt, (kb K1 D13).lt⟩)
 obtain ⟨V15, hV17⟩ : ∃ V, w12.alloc (.cells #[.float .f64 0, .float .f64 0, .float .f64 0, .float .f64 0, .float .f64 0, .float .f64 0] 30) = V := ⟨_, rfl⟩
 have K19 := ka hV17 K0 D13
 have K20 := ka hV17 K1 D13
 have K21 := kn hV17 hg16
 have HB22 := hba hV17 HB D13
 have D23 := dr V15
 clear K0 K1 HB D13
 obtain ⟨g24, hg26⟩ : ∃ g, V15.heap.size = g := ⟨_, rfl⟩
 have Y28 := Lib.hid (show w.heap.size < g24 ∧ w.heap.size + 1 < g24 ∧ g14 < g24 by rw [← hg26]; exact ⟨(kb K19 D23).lt, (kb K20 D23).lt, (kb K21 D23).lt⟩)
 obtain ⟨V25, hV27⟩ : ∃ V, V15.alloc (.cells #[.float .f64 0, .float .f64 0] 28) = V := ⟨_, rfl⟩
 have K29 := ka hV27 K19 D23
 have K30 := ka hV27 K20 D23
 have K31 := ka hV27 K21 D23
 have K32 := kn hV27 hg26
 have HB33 := hba hV27 HB22 D23
 have D34 := dr V25
 clear K19 K20 K21 HB22 D23
 have Y35 := Lib.hid (And.intro Y18.out Y28.out)
 clear Y18 Y28
 have f38 := (kb K31 D34)
 obtain ⟨V36, hV37⟩ : ∃ V, World.setRow V25 (g14) (vc A) = V := ⟨_, rfl⟩
 have K39 := kfr hV37 K29 D34 (by have := Y35.out; omega)
 have K40 := kfr hV37 K30 D34 (by have := Y35.out; omega)
 have K41 := ksr hV37 K31 D34
 have K42 := kfr hV37 K32 D34 (by have := Y35.out; omega)
 have HB43 := hbr hV37 HB33 D34 (by have := Y35.out; omega)
 have D44 := dr V36
 clear K29 K30 K31 K32 HB33 D34
 have f47 := (kb K42 D44).cellsL 0 [.float .f64 0, .float .f64 0] rfl
 dsimp only [CellsL, al, vl, Nat.reduceAdd] at f47
 have u48 := (kb K42 D44).unfrozen
 obtain ⟨V45, hV46⟩ : ∃ V, setCells V36 (g24) 0 [.float .f64 q4_.lo, .float .f64 q4_.hi] = V := ⟨_, rfl⟩
 have hv49 := hV46
 simp only [setCells, Nat.reduceAdd] at hv49
 have K50 := kf hV46 K39 D44 (by have := Y35.out; omega)
 have K51 := kf hV46 K40 D44 (by have := Y35.out; omega)
 have K52 := kf hV46 K41 D44 (by have := Y35.out; omega)
 have K53 := Lib.hid (show Blk V45 (g24) 28 #[.float .f64 q4_.lo, .float .f64 q4_.hi] from (ks hV46 K42 D44).out)
 have HB54 := hbs hV46 HB43 D44 (by have := Y35.out; omega)
 have D55 := dr V45
 clear K39 K40 K41 K42 HB43 D44
 have f56 := (kb K50 D55)
 have f57 := (kb K51 D55)
 go_wp2_with (first | (refine wpList_store_row rfl 30 _ _ rfl (g14) (vc A) rfl rfl _ _ f38 (by rw [info_V3]; rfl) rfl (by kernel_rfl) ?_; rw [hV37]) | (refine wl_load (by kernel_rfl) rfl rfl f56 (by rw [info_V3]; rfl) Try.underlying30 rfl ?_) | (refine wl_load (by kernel_rfl) rfl rfl f57 (by rw [info_V3]; rfl) Try.underlying30 rfl ?_))
 clear hg16 hV17 hg26 hV27 hV37 f38 hV46 f47 u48 hv49 f56 f57
 refine (C5.out _).mono ?_
 rintro r w58 ⟨rfl, hb⟩
 have D59 := ds D55 hb
 clear D55
 clear hb
 obtain ⟨g60, hg62⟩ : ∃ g, w58.heap.size = g := ⟨_, rfl⟩
 have Y64 := Lib.hid (show w.heap.size < g60 ∧ w.heap.size + 1 < g60 ∧ g14 < g60 ∧ g24 < g60 by rw [← hg62]; exact ⟨(kb K50 D59).lt, (kb K51 D59).lt, (kb K52 D59).lt, (kb K53 D59).lt⟩)
 obtain ⟨V61, hV63⟩ : ∃ V, w58.alloc (.cells #[.float .f64 0, .float .f64 0, .float .f64 0, .float .f64 0, .float .f64 0, .float .f64 0] 30) = V := ⟨_, rfl⟩
 have K65 := ka hV63 K50 D59
 have K66 := ka hV63 K51 D59
 have K67 := ka hV63 K52 D59
 have K68 := ka hV63 K53 D59
 have K69 := kn hV63 hg62
 have HB70 := hba hV63 HB54 D59
 have D71 := dr V61
 clear K50 K51 K52 K53 HB54 D59
 have Y72 := Lib.hid (And.intro Y35.out Y64.out)
 clear Y35 Y64
 obtain ⟨g73, hg75⟩ : ∃ g, V61.heap.size = g := ⟨_, rfl⟩
 have Y77 := Lib.hid (show w.heap.size < g73 ∧ w.heap.size + 1 < g73 ∧ g14 < g73 ∧ g24 < g73 ∧ g60 < g73 by rw [← hg75]; exact ⟨(kb K65 D71).lt, (kb K66 D71).lt, (kb K67 D71).lt, (kb K68 D71).lt, (kb K69 D71).lt⟩)
 obtain ⟨V74, hV76⟩ : ∃ V, V61.alloc (.cells #[.float .f64 0, .float .f64 0] 28) = V := ⟨_, rfl⟩
 have K78 := ka hV76 K65 D71
 have K79 := ka hV76 K66 D71
 have K80 := ka hV76 K67 D71
 have K81 := ka hV76 K68 D71
 have K82 := ka hV76 K69 D71
 have K83 := kn hV76 hg75
 have HB84 := hba hV76 HB70 D71
 have D85 := dr V74
 clear K65 K66 K67 K68 K69 HB70 D71
 have Y86 := Lib.hid (And.intro Y72.out Y77.out)
 clear Y72 Y77
 have f89 := (kb K82 D85)
 obtain ⟨V87, hV88⟩ : ∃ V, World.setRow V74 (g60) (vc A) = V := ⟨_, rfl⟩
 have K90 := kfr hV88 K78 D85 (by have := Y86.out; omega)
 have K91 := kfr hV88 K79 D85 (by have := Y86.out; omega)
 have K92 := kfr hV88 K80 D85 (by have := Y86.out; omega)
 have K93 := kfr hV88 K81 D85 (by have := Y86.out; omega)
 have K94 := ksr hV88 K82 D85
 have K95 := kfr hV88 K83 D85 (by have := Y86.out; omega)
 have HB96 := hbr hV88 HB84 D85 (by have := Y86.out; omega)
 have D97 := dr V87
 clear K78 K79 K80 K81 K82 K83 HB84 D85
 have f100 := (kb K95 D97).cellsL 0 [.float .f64 0, .float .f64 0] rfl
 dsimp only [CellsL, al, vl, Nat.reduceAdd] at f100
 have u101 := (kb K95 D97).unfrozen
 obtain ⟨V98, hV99⟩ : ∃ V, setCells V87 (g73) 0 [.float .f64 q4_.lo, .float .f64 q4_.hi] = V := ⟨_, rfl⟩
 have hv102 := hV99
 simp only [setCells, Nat.reduceAdd] at hv102
 have K103 := kf hV99 K90 D97 (by have := Y86.out; omega)
 have K104 := kf hV99 K91 D97 (by have := Y86.out; omega)
 have K105 := kf hV99 K92 D97 (by have := Y86.out; omega)
 have K106 := kf hV99 K93 D97 (by have := Y86.out; omega)
 have K107 := kf hV99 K94 D97 (by have := Y86.out; omega)
 have K108 := Lib.hid (show Blk V98 (g73) 28 #[.float .f64 q4_.lo, .float .f64 q4_.hi] from (ks hV99 K95 D97).out)
 have HB109 := hbs hV99 HB96 D97 (by have := Y86.out; omega)
 have D110 := dr V98
 clear K90 K91 K92 K93 K94 K95 HB96 D97
 go_wp2_with (refine wpList_store_row rfl 30 _ _ rfl (g60) (vc A) rfl rfl _ _ f89 (by rw [info_V3]; rfl) rfl (by kernel_rfl) ?_; rw [hV88])
 clear hg62 hV63 hg75 hV76 hV88 f89 hV99 f100 u101 hv102
 refine wp_region_held (S := (fun w' => True ∧ Blk w' (w.heap.size) 30 (vc A) ∧ Blk w' (w.heap.size + 1) 30 (vc B) ∧ Blk w' (g14) 30 (vc A) ∧ Blk w' (g60) 30 (vc A) ∧ CellsL w' (g24) 0 [.float .f64 q4_.lo, .float .f64 q4_.hi] ∧ CellsL w' (g73) 0 [.float .f64 q4_.lo, .float .f64 q4_.hi])) (by kernel_rfl) ?_
 change wpAnyH _ _ _ _ _ _ _ _ (World.drew _)
 obtain ⟨wd111, hwd⟩ : ∃ x, x = World.drew V98 := ⟨_, rfl⟩
 rw [← hwd]
 have D112 := Lib.hid (hwd ▸ Below.drew D110.out : Below V98.heap.size V98 wd111)
 clear D110 hwd
 have hS113 : True ∧ Blk wd111 (w.heap.size) 30 (vc A) ∧ Blk wd111 (w.heap.size + 1) 30 (vc B) ∧ Blk wd111 (g14) 30 (vc A) ∧ Blk wd111 (g60) 30 (vc A) ∧ CellsL wd111 (g24) 0 [.float .f64 q4_.lo, .float .f64 q4_.hi] ∧ CellsL wd111 (g73) 0 [.float .f64 q4_.lo, .float .f64 q4_.hi] := ⟨trivial, (kb K103 D112), (kb K104 D112), (kb K105 D112), (kb K107 D112), (kb K106 D112).cellsL 0 [.float .f64 q4_.lo, .float .f64 q4_.hi] rfl, (kb K108 D112).cellsL 0 [.float .f64 q4_.lo, .float .f64 q4_.hi] rfl⟩
 refine tkL 0 (bm 23 1) ?aq114 rfl (by kernel_rfl) (fun _ _ _ h => h) (by kernel_rfl) rfl rfl (fun _ hS => hS.2.2.2.1) (by rw [info_V3]; rfl) Try.underlying30 rfl ?pq114 hS113 ?rq114
 case pq114 => (go_simp; try with_reducible rfl)
 refine tkL 1 (bm 23 3) ?aq115 rfl (by kernel_rfl) (fun _ _ _ h => h) (by kernel_rfl) rfl rfl (fun _ hS => hS.2.2.2.2.1) (by rw [info_V3]; rfl) Try.underlying30 rfl ?pq115 hS113 ?rq115
 case pq115 => (go_simp; try with_reducible rfl)
 refine wpAnyH_oneN (i := 2) (l' := bm 23 7) rfl (by kernel_rfl) (by kernel_rfl) (by kernel_rfl) (fun K hK => ?_)
 go_simp
 go_at_call 54
 refine (C6.out _).mono ?_
 rintro r w116 ⟨rfl, hb⟩
 dsimp only
 have D117 := ds D112 hb
 clear D112
 clear hb
 have hS118 : True ∧ Blk w116 (w.heap.size) 30 (vc A) ∧ Blk w116 (w.heap.size + 1) 30 (vc B) ∧ Blk w116 (g14) 30 (vc A) ∧ Blk w116 (g60) 30 (vc A) ∧ CellsL w116 (g24) 0 [.float .f64 q4_.lo, .float .f64 q4_.hi] ∧ CellsL w116 (g73) 0 [.float .f64 q4_.lo, .float .f64 q4_.hi] := ⟨trivial, (kb K103 D117), (kb K104 D117), (kb K105 D117), (kb K107 D117), (kb K106 D117).cellsL 0 [.float .f64 q4_.lo, .float .f64 q4_.hi] rfl, (kb K108 D117).cellsL 0 [.float .f64 q4_.lo, .float .f64 q4_.hi] rfl⟩
 refine hK _ _ hS118 ?_
 clear hK K hS113
 refine tkq 3 (bm 23 15) hS118 ?_
 refine tke 4 (bm 23 31) hS118 ?_
 refine tke 5 (bm 23 63) hS118 ?_
 refine wpAnyH_oneN (i := 6) (l' := bm 23 127) rfl (by kernel_rfl) (by kernel_rfl) (by kernel_rfl) (fun K hK => ?_)
 go_simp
 go_at_call 55
 refine (C7.out _).mono ?_
 rintro r w122 ⟨rfl, hb⟩
 dsimp only
 have D123 := ds D117 hb
 clear D117
 clear hb
 have hS124 : True ∧ Blk w122 (w.heap.size) 30 (vc A) ∧ Blk w122 (w.heap.size + 1) 30 (vc B) ∧ Blk w122 (g14) 30 (vc A) ∧ Blk w122 (g60) 30 (vc A) ∧ CellsL w122 (g24) 0 [.float .f64 q4_.lo, .float .f64 q4_.hi] ∧ CellsL w122 (g73) 0 [.float .f64 q4_.lo, .float .f64 q4_.hi] := ⟨trivial, (kb K103 D123), (kb K104 D123), (kb K105 D123), (kb K107 D123), (kb K106 D123).cellsL 0 [.float .f64 q4_.lo, .float .f64 q4_.hi] rfl, (kb K108 D123).cellsL 0 [.float .f64 q4_.lo, .float .f64 q4_.hi] rfl⟩
 refine hK _ _ hS124 ?_
 clear hK K hS118
 refine tkq 7 (bm 23 255) hS124 ?_
 refine tkq 8 (bm 23 511) hS124 ?_
 refine tkq 9 (bm 23 1023) hS124 ?_
 refine tkq 10 (bm 23 2047) hS124 ?_
 refine tkq 11 (bm 23 4095) hS124 ?_
 refine tkq 12 (bm 23 8191) hS124 ?_
 refine tkq 13 (bm 23 16383) hS124 ?_
 refine tkL 14 (bm 23 32767) ?aq132 rfl (by kernel_rfl) (fun _ _ _ h => h) (by kernel_rfl) rfl rfl (fun _ hS => hS.2.1) (by rw [info_V3]; rfl) Try.underlying30 rfl ?pq132 hS124 ?rq132
 case pq132 => (go_simp; try with_reducible rfl)
 refine tkL 15 (bm 23 65535) ?aq133 rfl (by kernel_rfl) (fun _ _ _ h => h) (by kernel_rfl) rfl rfl (fun _ hS => hS.2.2.1) (by rw [info_V3]; rfl) Try.underlying30 rfl ?pq133 hS124 ?rq133
 case pq133 => (go_simp; try with_reducible rfl)
 refine tkL 17 (bm 23 196607) ?aq134 rfl (by kernel_rfl) (fun _ _ _ h => h) (by kernel_rfl) rfl rfl (fun _ hS => hS.2.1) (by rw [info_V3]; rfl) Try.underlying30 rfl ?pq134 hS124 ?rq134
 case pq134 => (go_simp; try with_reducible rfl)
 refine tkL 18 (bm 23 458751) ?aq135 rfl (by kernel_rfl) (fun _ _ _ h => h) (by kernel_rfl) rfl rfl (fun _ hS => hS.2.2.1) (by rw [info_V3]; rfl) Try.underlying30 rfl ?pq135 hS124 ?rq135
 case pq135 => (go_simp; try with_reducible rfl)
 refine wpAnyH_oneN (i := 16) (l' := bm 23 524287) rfl (by kernel_rfl) (by kernel_rfl) (by kernel_rfl) (fun K hK => ?_)
 go_simp
 go_at_call 48
 refine (C8.out _).mono ?_
 rintro r w136 ⟨rfl, hb⟩
 dsimp only
 have D137 := ds D123 hb
 clear D123
 clear hb
 have hS138 : True ∧ Blk w136 (w.heap.size) 30 (vc A) ∧ Blk w136 (w.heap.size + 1) 30 (vc B) ∧ Blk w136 (g14) 30 (vc A) ∧ Blk w136 (g60) 30 (vc A) ∧ CellsL w136 (g24) 0 [.float .f64 q4_.lo, .float .f64 q4_.hi] ∧ CellsL w136 (g73) 0 [.float .f64 q4_.lo, .float .f64 q4_.hi] := ⟨trivial, (kb K103 D137), (kb K104 D137), (kb K105 D137), (kb K107 D137), (kb K106 D137).cellsL 0 [.float .f64 q4_.lo, .float .f64 q4_.hi] rfl, (kb K108 D137).cellsL 0 [.float .f64 q4_.lo, .float .f64 q4_.hi] rfl⟩
 refine hK _ _ hS138 ?_
 clear hK K hS124
 refine wpAnyH_oneN (i := 19) (l' := bm 23 1048575) rfl (by kernel_rfl) (by kernel_rfl) (by kernel_rfl) (fun K hK => ?_)
 go_simp
 go_at_call 56
 refine (C9.out _).mono ?_
 rintro r w139 ⟨rfl, hb⟩
 dsimp only
 have D140 := ds D137 hb
 clear D137
 clear hb
 have hS141 : True ∧ Blk w139 (w.heap.size) 30 (vc A) ∧ Blk w139 (w.heap.size + 1) 30 (vc B) ∧ Blk w139 (g14) 30 (vc A) ∧ Blk w139 (g60) 30 (vc A) ∧ CellsL w139 (g24) 0 [.float .f64 q4_.lo, .float .f64 q4_.hi] ∧ CellsL w139 (g73) 0 [.float .f64 q4_.lo, .float .f64 q4_.hi] := ⟨trivial, (kb K103 D140), (kb K104 D140), (kb K105 D140), (kb K107 D140), (kb K106 D140).cellsL 0 [.float .f64 q4_.lo, .float .f64 q4_.hi] rfl, (kb K108 D140).cellsL 0 [.float .f64 q4_.lo, .float .f64 q4_.hi] rfl⟩
 refine hK _ _ hS141 ?_
 clear hK K hS138
 refine wpAnyH_oneN (i := 20) (l' := bm 23 2097151) rfl (by kernel_rfl) (by kernel_rfl) (by kernel_rfl) (fun K hK => ?_)
 go_simp
 go_at_call 54
 refine (C10.out _).mono ?_
 rintro r w142 ⟨rfl, hb⟩
 dsimp only
 have D143 := ds D140 hb
 clear D140
 clear hb
 have hS144 : True ∧ Blk w142 (w.heap.size) 30 (vc A) ∧ Blk w142 (w.heap.size + 1) 30 (vc B) ∧ Blk w142 (g14) 30 (vc A) ∧ Blk w142 (g60) 30 (vc A) ∧ CellsL w142 (g24) 0 [.float .f64 q4_.lo, .float .f64 q4_.hi] ∧ CellsL w142 (g73) 0 [.float .f64 q4_.lo, .float .f64 q4_.hi] := ⟨trivial, (kb K103 D143), (kb K104 D143), (kb K105 D143), (kb K107 D143), (kb K106 D143).cellsL 0 [.float .f64 q4_.lo, .float .f64 q4_.hi] rfl, (kb K108 D143).cellsL 0 [.float .f64 q4_.lo, .float .f64 q4_.hi] rfl⟩
 refine hK _ _ hS144 ?_
 clear hK K hS141
 refine tkq 21 (bm 23 4194303) hS144 ?_
 refine tkq 22 (bm 23 8388607) hS144 ?_
 refine wpAnyH_done (by kernel_rfl) ?_ _
 clear hS144
 go_wp2_with fail
 go_ret
 exact ⟨rfl, below_step HB109.out D143.out⟩
theorem walk_bsdfTurns (n0 n1 n2 n3 n4 n5 d0 d1 d2 d3 d4 d5 : Nat) (hn0 : n0 < 18446744073709551616) (hn1 : n1 < 18446744073709551616) (hn2 : n2 < 18446744073709551616) (hn3 : n3 < 18446744073709551616) (hn4 : n4 < 18446744073709551616) (hn5 : n5 < 18446744073709551616) (hd0 : d0 < 18446744073709551616) (hd1 : d1 < 18446744073709551616) (hd2 : d2 < 18446744073709551616) (hd3 : d3 < 18446744073709551616) (hd4 : d4 < 18446744073709551616) (hd5 : d5 < 18446744073709551616) (w : World) : Calls Try.prog 9 #[.agg #[.float .f64 n0, .float .f64 n1, .float .f64 n2, .float .f64 n3, .float .f64 n4, .float .f64 n5], .agg #[.float .f64 d0, .float .f64 d1, .float .f64 d2, .float .f64 d3, .float .f64 d4, .float .f64 d5]] w fun r w' => r = .returned (.bool true) ∧ Below w.heap.size w w' := by
 cases v0 : vdV n0 n1 n2 n3 n4 n5
 · exact bsdfTurns_n0 n0 n1 n2 n3 n4 n5 d0 d1 d2 d3 d4 d5 hn0 hn1 hn2 hn3 hn4 hn5 hd0 hd1 hd2 hd3 hd4 hd5 v0 w
 · cases v1 : vdV d0 d1 d2 d3 d4 d5
   · exact bsdfTurns_n1 n0 n1 n2 n3 n4 n5 d0 d1 d2 d3 d4 d5 hn0 hn1 hn2 hn3 hn4 hn5 hd0 hd1 hd2 hd3 hd4 hd5 v0 v1 w
   · obtain ⟨A, rfl, rfl, rfl, rfl, rfl, rfl⟩ := v3_of hn0 hn1 hn2 hn3 hn4 hn5 v0
     obtain ⟨B, rfl, rfl, rfl, rfl, rfl, rfl⟩ := v3_of hd0 hd1 hd2 hd3 hd4 hd5 v1
     have h3 : posS (bdCos A B) = 1 ∨ posS (bdCos A B) = 0 ∨ posS (bdCos A B) = 2 := by unfold posS; split <;> (try split) <;> simp
     rcases h3 with h | h | h
     · exact bsdfTurns_1 A B h w
     · exact bsdfTurns_0 A B h w
     · exact bsdfTurns_2 A B h w
end Go.Proofs.Ytnljfcebmgifdaa
