/- Shaken: Ul. -/
import Derived.Test.YtnljfcebmgifdaaZRab2
import Derived.Test.YtnljfcebmgifdaaZRb1
set_option maxRecDepth 100000
set_option maxHeartbeats 8000000
set_option linter.unusedVariables false
set_option linter.unusedSimpArgs false
namespace Go.Proofs.Ytnljfcebmgifdaa
open Go.RowKit Fl
theorem xformMakes_0 (axis : Int) (p q r c s : Nat) (hp : p < 18446744073709551616) (hq : q < 18446744073709551616) (hr : r < 18446744073709551616) (hc : c < 18446744073709551616) (hs : s < 18446744073709551616) (m : Af) (HT : ∀ w, Calls Try.prog 13 #[.int .i64 axis, .float .f64 c, .float .f64 s] w fun r w' => r = .returned (.tuple #[aval m, .int .i64 0]) ∧ Below w.heap.size w w') (HR : ∀ w, Calls Try.prog 19 #[.int .i64 axis, .float .f64 c, .float .f64 s] w fun r w' => r = .returned (.tuple #[aval m, .int .i64 0]) ∧ Below w.heap.size w w') (w : World) : Calls Try.prog 4 #[Value.agg #[.float .f64 p, .float .f64 q, .float .f64 r], Value.int IntKind.i64 axis, .float .f64 c, .float .f64 s] w fun r w' => r = .returned (.bool true) ∧ Below w.heap.size w w' := by
 have C0 := Lib.hid (awake4)
 have C1 := Lib.hid (HT)
 have C2 := Lib.hid (HR)
 have C3 := Lib.hid (fun w => sameA_any w)
 obtain ⟨p3, hp3⟩ : ∃ z_, afSame = z_ := ⟨_, rfl⟩
 rw [hp3] at C3
 have C4 := Lib.hid (fun w => rsameA_any w)
 rw [hp3] at C4
 have C5 := Lib.hid (fun w => requalA_self p3 w)
 have C6 := Lib.hid (fun w => moveA_any p q r hp hq hr w)
 obtain ⟨p6, hp6⟩ : ∃ z_, afMove p q r = z_ := ⟨_, rfl⟩
 rw [hp6] at C6
 have C7 := Lib.hid (fun w => rmoveA_any p q r hp hq hr w)
 rw [hp6] at C7
 have C8 := Lib.hid (fun w => requalA_self p6 w)
 have C9 := Lib.hid (fun w => stretchA_any p q r hp hq hr w)
 obtain ⟨p9, hp9⟩ : ∃ z_, afStretch p q r = z_ := ⟨_, rfl⟩
 rw [hp9] at C9
 have C10 := Lib.hid (fun w => rstretchA_any p q r hp hq hr w)
 rw [hp9] at C10
 have C11 := Lib.hid (fun w => requalA_self p9 w)
 have C12 := Lib.hid (fun w => requalA_self m w)
 clear hp3 hp6 hp9
 go_enter Try.func4, Try.ntmps4
 go_wp2_with fail
 obtain ⟨W, hW, K0, hB, hz⟩ := bx1 w 24 #[.float .f64 p, .float .f64 q, .float .f64 r]
 rw [← hW]
 have K0 := Lib.hid K0
 have HB := Lib.hid hB
 clear hW hB hz
 have D1 := dr W
 refine (C0.out _).mono ?_
 rintro r w2 ⟨rfl, hb⟩
 have D3 := ds D1 hb
 clear D1
 clear hb
 go_wp2_with fail
 refine (C1.out _).mono ?_
 rintro r w4 ⟨rfl, hb⟩
 have D5 := ds D3 hb
 clear D3
 clear hb
 obtain ⟨g6, hg8⟩ : ∃ g, w4.heap.size = g := ⟨_, rfl⟩
 have Y10 := Lib.hid (show w.heap.size < g6 by rw [← hg8]; exact (kb K0 D5).lt)
 obtain ⟨V7, hV9⟩ : ∃ V, w4.alloc (.cells #[.float .f64 0, .float .f64 0, .float .f64 0, .float .f64 0, .float .f64 0, .float .f64 0, .float .f64 0, .float .f64 0, .float .f64 0, .float .f64 0, .float .f64 0, .float .f64 0, .float .f64 0, .float .f64 0, .float .f64 0, .float .f64 0, .float .f64 0, .float .f64 0, .float .f64 0, .float .f64 0, .float .f64 0, .float .f64 0, .float .f64 0, .float .f64 0] 33) = V := ⟨_, rfl⟩
 have K11 := ka hV9 K0 D5
 have K12 := kn hV9 hg8
 have HB13 := hba hV9 HB D5
 have D14 := dr V7
 clear K0 HB D5
 have f17 := (kb K12 D14)
 obtain ⟨V15, hV16⟩ : ∃ V, World.setRow V7 (g6) (ac m) = V := ⟨_, rfl⟩
 have K18 := kfr hV16 K11 D14 (by have := Y10.out; omega)
 have K19 := ksr hV16 K12 D14
 have HB20 := hbr hV16 HB13 D14 (by have := Y10.out; omega)
 have D21 := dr V15
 clear K11 K12 HB13 D14
 go_wp2_with (refine wpList_store_row rfl 33 _ _ rfl (g6) (ac m) rfl rfl _ _ f17 (by rw [info_Affine]; rfl) rfl (by kernel_rfl) ?_; rw [hV16])
 clear hg8 hV9 hV16 f17
 refine (C2.out _).mono ?_
 rintro r w22 ⟨rfl, hb⟩
 have D23 := ds D21 hb
 clear D21
 clear hb
 obtain ⟨g24, hg26⟩ : ∃ g, w22.heap.size = g := ⟨_, rfl⟩
 have Y28 := Lib.hid (show w.heap.size < g24 ∧ g6 < g24 by rw [← hg26]; exact ⟨(kb K18 D23).lt, (kb K19 D23).lt⟩)
 obtain ⟨V25, hV27⟩ : ∃ V, w22.alloc (.cells #[.float .f64 0, .float .f64 0, .float .f64 0, .float .f64 0, .float .f64 0, .float .f64 0, .float .f64 0, .float .f64 0, .float .f64 0, .float .f64 0, .float .f64 0, .float .f64 0, .float .f64 0, .float .f64 0, .float .f64 0, .float .f64 0, .float .f64 0, .float .f64 0, .float .f64 0, .float .f64 0, .float .f64 0, .float .f64 0, .float .f64 0, .float .f64 0] 33) = V := ⟨_, rfl⟩
 have K29 := ka hV27 K18 D23
 have K30 := ka hV27 K19 D23
 have K31 := kn hV27 hg26
 have HB32 := hba hV27 HB20 D23
 have D33 := dr V25
 clear K18 K19 HB20 D23
 have Y34 := Lib.hid (And.intro Y10.out Y28.out)
 clear Y10 Y28
 have f37 := (kb K31 D33)
 obtain ⟨V35, hV36⟩ : ∃ V, World.setRow V25 (g24) (ac m) = V := ⟨_, rfl⟩
 have K38 := kfr hV36 K29 D33 (by have := Y34.out; omega)
 have K39 := kfr hV36 K30 D33 (by have := Y34.out; omega)
 have K40 := ksr hV36 K31 D33
 have HB41 := hbr hV36 HB32 D33 (by have := Y34.out; omega)
 have D42 := dr V35
 clear K29 K30 K31 HB32 D33
 go_wp2_with (refine wpList_store_row rfl 33 _ _ rfl (g24) (ac m) rfl rfl _ _ f37 (by rw [info_Affine]; rfl) rfl (by kernel_rfl) ?_; rw [hV36])
 clear hg26 hV27 hV36 f37
 refine wp_region_held (S := (fun w' => True ∧ Blk w' (g6) 33 (ac m) ∧ Blk w' (g24) 33 (ac m) ∧ CellsL w' (w.heap.size) 0 [.float .f64 p, .float .f64 q, .float .f64 r])) (by kernel_rfl) ?_
 change wpAnyH _ _ _ _ _ _ _ _ (World.drew _)
 obtain ⟨wd43, hwd⟩ : ∃ x, x = World.drew V35 := ⟨_, rfl⟩
 rw [← hwd]
 have D44 := Lib.hid (hwd ▸ Below.drew D42.out : Below V35.heap.size V35 wd43)
 clear D42 hwd
 have hS45 : True ∧ Blk wd43 (g6) 33 (ac m) ∧ Blk wd43 (g24) 33 (ac m) ∧ CellsL wd43 (w.heap.size) 0 [.float .f64 p, .float .f64 q, .float .f64 r] := ⟨trivial, (kb K39 D44), (kb K40 D44), (kb K38 D44).cellsL 0 [.float .f64 p, .float .f64 q, .float .f64 r] rfl⟩
 refine wpAnyH_oneN (i := 0) (l' := bm 28 1) rfl (by kernel_rfl) (by kernel_rfl) (by kernel_rfl) (fun K hK => ?_)
 go_simp
 go_at_call 20
 refine (C3.out _).mono ?_
 rintro r w46 ⟨rfl, hb⟩
 dsimp only
 have D47 := ds D44 hb
 clear D44
 clear hb
 have hS48 : True ∧ Blk w46 (g6) 33 (ac m) ∧ Blk w46 (g24) 33 (ac m) ∧ CellsL w46 (w.heap.size) 0 [.float .f64 p, .float .f64 q, .float .f64 r] := ⟨trivial, (kb K39 D47), (kb K40 D47), (kb K38 D47).cellsL 0 [.float .f64 p, .float .f64 q, .float .f64 r] rfl⟩
 refine hK _ _ hS48 ?_
 clear hK K hS45
 refine wpAnyH_oneN (i := 1) (l' := bm 28 3) rfl (by kernel_rfl) (by kernel_rfl) (by kernel_rfl) (fun K hK => ?_)
 go_simp
 go_at_call 21
 refine (C4.out _).mono ?_
 rintro r w49 ⟨rfl, hb⟩
 dsimp only
 have D50 := ds D47 hb
 clear D47
 clear hb
 have hS51 : True ∧ Blk w49 (g6) 33 (ac m) ∧ Blk w49 (g24) 33 (ac m) ∧ CellsL w49 (w.heap.size) 0 [.float .f64 p, .float .f64 q, .float .f64 r] := ⟨trivial, (kb K39 D50), (kb K40 D50), (kb K38 D50).cellsL 0 [.float .f64 p, .float .f64 q, .float .f64 r] rfl⟩
 refine hK _ _ hS51 ?_
 clear hK K hS48
 refine wpAnyH_oneN (i := 2) (l' := bm 28 7) rfl (by kernel_rfl) (by kernel_rfl) (by kernel_rfl) (fun K hK => ?_)
 go_simp
 go_at_call 14
 refine (C5.out _).mono ?_
 rintro r w52 ⟨rfl, hb⟩
 dsimp only
 have D53 := ds D50 hb
 clear D50
 clear hb
 have hS54 : True ∧ Blk w52 (g6) 33 (ac m) ∧ Blk w52 (g24) 33 (ac m) ∧ CellsL w52 (w.heap.size) 0 [.float .f64 p, .float .f64 q, .float .f64 r] := ⟨trivial, (kb K39 D53), (kb K40 D53), (kb K38 D53).cellsL 0 [.float .f64 p, .float .f64 q, .float .f64 r] rfl⟩
 refine hK _ _ hS54 ?_
 clear hK K hS51
 refine tkq 3 (bm 28 15) hS54 ?_
 refine tke 4 (bm 28 31) hS54 ?_
 refine tke 6 (bm 28 95) hS54 ?_
 refine wpAnyH_oneN (i := 5) (l' := bm 28 127) rfl (by kernel_rfl) (by kernel_rfl) (by kernel_rfl) (fun K hK => ?_)
 go_simp
 go_at_call 22
 refine (C6.out _).mono ?_
 rintro r w58 ⟨rfl, hb⟩
 dsimp only
 have D59 := ds D53 hb
 clear D53
 clear hb
 have hS60 : True ∧ Blk w58 (g6) 33 (ac m) ∧ Blk w58 (g24) 33 (ac m) ∧ CellsL w58 (w.heap.size) 0 [.float .f64 p, .float .f64 q, .float .f64 r] := ⟨trivial, (kb K39 D59), (kb K40 D59), (kb K38 D59).cellsL 0 [.float .f64 p, .float .f64 q, .float .f64 r] rfl⟩
 refine hK _ _ hS60 ?_
 clear hK K hS54
 refine wpAnyH_oneN (i := 7) (l' := bm 28 255) rfl (by kernel_rfl) (by kernel_rfl) (by kernel_rfl) (fun K hK => ?_)
 go_simp
 go_at_call 23
 refine (C7.out _).mono ?_
 rintro r w61 ⟨rfl, hb⟩
 dsimp only
 have D62 := ds D59 hb
 clear D59
 clear hb
 have hS63 : True ∧ Blk w61 (g6) 33 (ac m) ∧ Blk w61 (g24) 33 (ac m) ∧ CellsL w61 (w.heap.size) 0 [.float .f64 p, .float .f64 q, .float .f64 r] := ⟨trivial, (kb K39 D62), (kb K40 D62), (kb K38 D62).cellsL 0 [.float .f64 p, .float .f64 q, .float .f64 r] rfl⟩
 refine hK _ _ hS63 ?_
 clear hK K hS60
 refine wpAnyH_oneN (i := 8) (l' := bm 28 511) rfl (by kernel_rfl) (by kernel_rfl) (by kernel_rfl) (fun K hK => ?_)
 go_simp
 go_at_call 14
 refine (C8.out _).mono ?_
 rintro r w64 ⟨rfl, hb⟩
 dsimp only
 have D65 := ds D62 hb
 clear D62
 clear hb
 have hS66 : True ∧ Blk w64 (g6) 33 (ac m) ∧ Blk w64 (g24) 33 (ac m) ∧ CellsL w64 (w.heap.size) 0 [.float .f64 p, .float .f64 q, .float .f64 r] := ⟨trivial, (kb K39 D65), (kb K40 D65), (kb K38 D65).cellsL 0 [.float .f64 p, .float .f64 q, .float .f64 r] rfl⟩
 refine hK _ _ hS66 ?_
 clear hK K hS63
 refine tkq 9 (bm 28 1023) hS66 ?_
 refine tkq 10 (bm 28 2047) hS66 ?_
 refine tke 11 (bm 28 4095) hS66 ?_
 refine tke 13 (bm 28 12287) hS66 ?_
 refine wpAnyH_oneN (i := 12) (l' := bm 28 16383) rfl (by kernel_rfl) (by kernel_rfl) (by kernel_rfl) (fun K hK => ?_)
 go_simp
 go_at_call 24
 refine (C9.out _).mono ?_
 rintro r w71 ⟨rfl, hb⟩
 dsimp only
 have D72 := ds D65 hb
 clear D65
 clear hb
 have hS73 : True ∧ Blk w71 (g6) 33 (ac m) ∧ Blk w71 (g24) 33 (ac m) ∧ CellsL w71 (w.heap.size) 0 [.float .f64 p, .float .f64 q, .float .f64 r] := ⟨trivial, (kb K39 D72), (kb K40 D72), (kb K38 D72).cellsL 0 [.float .f64 p, .float .f64 q, .float .f64 r] rfl⟩
 refine hK _ _ hS73 ?_
 clear hK K hS66
 refine wpAnyH_oneN (i := 14) (l' := bm 28 32767) rfl (by kernel_rfl) (by kernel_rfl) (by kernel_rfl) (fun K hK => ?_)
 go_simp
 go_at_call 25
 refine (C10.out _).mono ?_
 rintro r w74 ⟨rfl, hb⟩
 dsimp only
 have D75 := ds D72 hb
 clear D72
 clear hb
 have hS76 : True ∧ Blk w74 (g6) 33 (ac m) ∧ Blk w74 (g24) 33 (ac m) ∧ CellsL w74 (w.heap.size) 0 [.float .f64 p, .float .f64 q, .float .f64 r] := ⟨trivial, (kb K39 D75), (kb K40 D75), (kb K38 D75).cellsL 0 [.float .f64 p, .float .f64 q, .float .f64 r] rfl⟩
 refine hK _ _ hS76 ?_
 clear hK K hS73
 refine wpAnyH_oneN (i := 15) (l' := bm 28 65535) rfl (by kernel_rfl) (by kernel_rfl) (by kernel_rfl) (fun K hK => ?_)
 go_simp
 go_at_call 14
 refine (C11.out _).mono ?_
 rintro r w77 ⟨rfl, hb⟩
 dsimp only
 have D78 := ds D75 hb
 clear D75
 clear hb
 have hS79 : True ∧ Blk w77 (g6) 33 (ac m) ∧ Blk w77 (g24) 33 (ac m) ∧ CellsL w77 (w.heap.size) 0 [.float .f64 p, .float .f64 q, .float .f64 r] := ⟨trivial, (kb K39 D78), (kb K40 D78), (kb K38 D78).cellsL 0 [.float .f64 p, .float .f64 q, .float .f64 r] rfl⟩
 refine hK _ _ hS79 ?_
 clear hK K hS76
 refine tkq 16 (bm 28 131071) hS79 ?_
 refine tkq 17 (bm 28 262143) hS79 ?_
 refine tkL 18 (bm 28 524287) ?aq82 rfl (by kernel_rfl) (fun _ _ _ h => h) (by kernel_rfl) rfl rfl (fun _ hS => hS.2.1) (by rw [info_Affine]; rfl) Try.underlying33 rfl ?pq82 hS79 ?rq82
 case pq82 => (go_simp; try with_reducible rfl)
 refine tkL 19 (bm 28 1048575) ?aq83 rfl (by kernel_rfl) (fun _ _ _ h => h) (by kernel_rfl) rfl rfl (fun _ hS => hS.2.2.1) (by rw [info_Affine]; rfl) Try.underlying33 rfl ?pq83 hS79 ?rq83
 case pq83 => (go_simp; try with_reducible rfl)
 refine wpAnyH_oneN (i := 20) (l' := bm 28 2097151) rfl (by kernel_rfl) (by kernel_rfl) (by kernel_rfl) (fun K hK => ?_)
 go_simp
 go_at_call 14
 refine (C12.out _).mono ?_
 rintro r w84 ⟨rfl, hb⟩
 dsimp only
 have D85 := ds D78 hb
 clear D78
 clear hb
 have hS86 : True ∧ Blk w84 (g6) 33 (ac m) ∧ Blk w84 (g24) 33 (ac m) ∧ CellsL w84 (w.heap.size) 0 [.float .f64 p, .float .f64 q, .float .f64 r] := ⟨trivial, (kb K39 D85), (kb K40 D85), (kb K38 D85).cellsL 0 [.float .f64 p, .float .f64 q, .float .f64 r] rfl⟩
 refine hK _ _ hS86 ?_
 clear hK K hS79
 refine tkq 21 (bm 28 4194303) hS86 ?_
 refine tkq 22 (bm 28 8388607) hS86 ?_
 refine tkq 23 (bm 28 16777215) hS86 ?_
 refine tkq 24 (bm 28 33554431) hS86 ?_
 refine tkq 25 (bm 28 67108863) hS86 ?_
 refine tkq 26 (bm 28 134217727) hS86 ?_
 refine tkq 27 (bm 28 268435455) hS86 ?_
 refine wpAnyH_done (by kernel_rfl) ?_ _
 clear hS86
 go_wp2_with fail
 go_ret
 exact ⟨rfl, below_step HB41.out D85.out⟩
theorem xformMakes_2 (axis : Int) (p q r c s : Nat) (hp : p < 18446744073709551616) (hq : q < 18446744073709551616) (hr : r < 18446744073709551616) (hc : c < 18446744073709551616) (hs : s < 18446744073709551616) (m : Af) (HT : ∀ w, Calls Try.prog 13 #[.int .i64 axis, .float .f64 c, .float .f64 s] w fun r w' => r = .returned (.tuple #[aval m, .int .i64 2]) ∧ Below w.heap.size w w') (HR : ∀ w, Calls Try.prog 19 #[.int .i64 axis, .float .f64 c, .float .f64 s] w fun r w' => r = .returned (.tuple #[aval m, .int .i64 2]) ∧ Below w.heap.size w w') (w : World) : Calls Try.prog 4 #[Value.agg #[.float .f64 p, .float .f64 q, .float .f64 r], Value.int IntKind.i64 axis, .float .f64 c, .float .f64 s] w fun r w' => r = .returned (.bool true) ∧ Below w.heap.size w w' := by
 have C0 := Lib.hid (awake4)
 have C1 := Lib.hid (HT)
 have C2 := Lib.hid (HR)
 have C3 := Lib.hid (fun w => sameA_any w)
 obtain ⟨p3, hp3⟩ : ∃ z_, afSame = z_ := ⟨_, rfl⟩
 rw [hp3] at C3
 have C4 := Lib.hid (fun w => rsameA_any w)
 rw [hp3] at C4
 have C5 := Lib.hid (fun w => requalA_self p3 w)
 have C6 := Lib.hid (fun w => moveA_any p q r hp hq hr w)
 obtain ⟨p6, hp6⟩ : ∃ z_, afMove p q r = z_ := ⟨_, rfl⟩
 rw [hp6] at C6
 have C7 := Lib.hid (fun w => rmoveA_any p q r hp hq hr w)
 rw [hp6] at C7
 have C8 := Lib.hid (fun w => requalA_self p6 w)
 have C9 := Lib.hid (fun w => stretchA_any p q r hp hq hr w)
 obtain ⟨p9, hp9⟩ : ∃ z_, afStretch p q r = z_ := ⟨_, rfl⟩
 rw [hp9] at C9
 have C10 := Lib.hid (fun w => rstretchA_any p q r hp hq hr w)
 rw [hp9] at C10
 have C11 := Lib.hid (fun w => requalA_self p9 w)
 have C12 := Lib.hid (fun w => requalA_self m w)
 clear hp3 hp6 hp9
 go_enter Try.func4, Try.ntmps4
 go_wp2_with fail
 obtain ⟨W, hW, K0, hB, hz⟩ := bx1 w 24 #[.float .f64 p, .float .f64 q, .float .f64 r]
 rw [← hW]
 have K0 := Lib.hid K0
 have HB := Lib.hid hB
 clear hW hB hz
 have D1 := dr W
 refine (C0.out _).mono ?_
 rintro r w2 ⟨rfl, hb⟩
 have D3 := ds D1 hb
 clear D1
 clear hb
 go_wp2_with fail
 refine (C1.out _).mono ?_
 rintro r w4 ⟨rfl, hb⟩
 have D5 := ds D3 hb
 clear D3
 clear hb
 obtain ⟨g6, hg8⟩ : ∃ g, w4.heap.size = g := ⟨_, rfl⟩
 have Y10 := Lib.hid (show w.heap.size < g6 by rw [← hg8]; exact (kb K0 D5).lt)
 obtain ⟨V7, hV9⟩ : ∃ V, w4.alloc (.cells #[.float .f64 0, .float .f64 0, .float .f64 0, .float .f64 0, .float .f64 0, .float .f64 0, .float .f64 0, .float .f64 0, .float .f64 0, .float .f64 0, .float .f64 0, .float .f64 0, .float .f64 0, .float .f64 0, .float .f64 0, .float .f64 0, .float .f64 0, .float .f64 0, .float .f64 0, .float .f64 0, .float .f64 0, .float .f64 0, .float .f64 0, .float .f64 0] 33) = V := ⟨_, rfl⟩
 have K11 := ka hV9 K0 D5
 have K12 := kn hV9 hg8
 have HB13 := hba hV9 HB D5
 have D14 := dr V7
 clear K0 HB D5
 have f17 := (kb K12 D14)
 obtain ⟨V15, hV16⟩ : ∃ V, World.setRow V7 (g6) (ac m) = V := ⟨_, rfl⟩
 have K18 := kfr hV16 K11 D14 (by have := Y10.out; omega)
 have K19 := ksr hV16 K12 D14
 have HB20 := hbr hV16 HB13 D14 (by have := Y10.out; omega)
 have D21 := dr V15
 clear K11 K12 HB13 D14
 go_wp2_with (refine wpList_store_row rfl 33 _ _ rfl (g6) (ac m) rfl rfl _ _ f17 (by rw [info_Affine]; rfl) rfl (by kernel_rfl) ?_; rw [hV16])
 clear hg8 hV9 hV16 f17
 refine (C2.out _).mono ?_
 rintro r w22 ⟨rfl, hb⟩
 have D23 := ds D21 hb
 clear D21
 clear hb
 obtain ⟨g24, hg26⟩ : ∃ g, w22.heap.size = g := ⟨_, rfl⟩
 have Y28 := Lib.hid (show w.heap.size < g24 ∧ g6 < g24 by rw [← hg26]; exact ⟨(kb K18 D23).lt, (kb K19 D23).lt⟩)
 obtain ⟨V25, hV27⟩ : ∃ V, w22.alloc (.cells #[.float .f64 0, .float .f64 0, .float .f64 0, .float .f64 0, .float .f64 0, .float .f64 0, .float .f64 0, .float .f64 0, .float .f64 0, .float .f64 0, .float .f64 0, .float .f64 0, .float .f64 0, .float .f64 0, .float .f64 0, .float .f64 0, .float .f64 0, .float .f64 0, .float .f64 0, .float .f64 0, .float .f64 0, .float .f64 0, .float .f64 0, .float .f64 0] 33) = V := ⟨_, rfl⟩
 have K29 := ka hV27 K18 D23
 have K30 := ka hV27 K19 D23
 have K31 := kn hV27 hg26
 have HB32 := hba hV27 HB20 D23
 have D33 := dr V25
 clear K18 K19 HB20 D23
 have Y34 := Lib.hid (And.intro Y10.out Y28.out)
 clear Y10 Y28
 have f37 := (kb K31 D33)
 obtain ⟨V35, hV36⟩ : ∃ V, World.setRow V25 (g24) (ac m) = V := ⟨_, rfl⟩
 have K38 := kfr hV36 K29 D33 (by have := Y34.out; omega)
 have K39 := kfr hV36 K30 D33 (by have := Y34.out; omega)
 have K40 := ksr hV36 K31 D33
 have HB41 := hbr hV36 HB32 D33 (by have := Y34.out; omega)
 have D42 := dr V35
 clear K29 K30 K31 HB32 D33
 go_wp2_with (refine wpList_store_row rfl 33 _ _ rfl (g24) (ac m) rfl rfl _ _ f37 (by rw [info_Affine]; rfl) rfl (by kernel_rfl) ?_; rw [hV36])
 clear hg26 hV27 hV36 f37
 refine wp_region_held (S := (fun w' => True ∧ Blk w' (g6) 33 (ac m) ∧ Blk w' (g24) 33 (ac m) ∧ CellsL w' (w.heap.size) 0 [.float .f64 p, .float .f64 q, .float .f64 r])) (by kernel_rfl) ?_
 change wpAnyH _ _ _ _ _ _ _ _ (World.drew _)
 obtain ⟨wd43, hwd⟩ : ∃ x, x = World.drew V35 := ⟨_, rfl⟩
 rw [← hwd]
 have D44 := Lib.hid (hwd ▸ Below.drew D42.out : Below V35.heap.size V35 wd43)
 clear D42 hwd
 have hS45 : True ∧ Blk wd43 (g6) 33 (ac m) ∧ Blk wd43 (g24) 33 (ac m) ∧ CellsL wd43 (w.heap.size) 0 [.float .f64 p, .float .f64 q, .float .f64 r] := ⟨trivial, (kb K39 D44), (kb K40 D44), (kb K38 D44).cellsL 0 [.float .f64 p, .float .f64 q, .float .f64 r] rfl⟩
 refine wpAnyH_oneN (i := 0) (l' := bm 28 1) rfl (by kernel_rfl) (by kernel_rfl) (by kernel_rfl) (fun K hK => ?_)
 go_simp
 go_at_call 20
 refine (C3.out _).mono ?_
 rintro r w46 ⟨rfl, hb⟩
 dsimp only
 have D47 := ds D44 hb
 clear D44
 clear hb
 have hS48 : True ∧ Blk w46 (g6) 33 (ac m) ∧ Blk w46 (g24) 33 (ac m) ∧ CellsL w46 (w.heap.size) 0 [.float .f64 p, .float .f64 q, .float .f64 r] := ⟨trivial, (kb K39 D47), (kb K40 D47), (kb K38 D47).cellsL 0 [.float .f64 p, .float .f64 q, .float .f64 r] rfl⟩
 refine hK _ _ hS48 ?_
 clear hK K hS45
 refine wpAnyH_oneN (i := 1) (l' := bm 28 3) rfl (by kernel_rfl) (by kernel_rfl) (by kernel_rfl) (fun K hK => ?_)
 go_simp
 go_at_call 21
 refine (C4.out _).mono ?_
 rintro r w49 ⟨rfl, hb⟩
 dsimp only
 have D50 := ds D47 hb
 clear D47
 clear hb
 have hS51 : True ∧ Blk w49 (g6) 33 (ac m) ∧ Blk w49 (g24) 33 (ac m) ∧ CellsL w49 (w.heap.size) 0 [.float .f64 p, .float .f64 q, .float .f64 r] := ⟨trivial, (kb K39 D50), (kb K40 D50), (kb K38 D50).cellsL 0 [.float .f64 p, .float .f64 q, .float .f64 r] rfl⟩
 refine hK _ _ hS51 ?_
 clear hK K hS48
 refine wpAnyH_oneN (i := 2) (l' := bm 28 7) rfl (by kernel_rfl) (by kernel_rfl) (by kernel_rfl) (fun K hK => ?_)
 go_simp
 go_at_call 14
 refine (C5.out _).mono ?_
 rintro r w52 ⟨rfl, hb⟩
 dsimp only
 have D53 := ds D50 hb
 clear D50
 clear hb
 have hS54 : True ∧ Blk w52 (g6) 33 (ac m) ∧ Blk w52 (g24) 33 (ac m) ∧ CellsL w52 (w.heap.size) 0 [.float .f64 p, .float .f64 q, .float .f64 r] := ⟨trivial, (kb K39 D53), (kb K40 D53), (kb K38 D53).cellsL 0 [.float .f64 p, .float .f64 q, .float .f64 r] rfl⟩
 refine hK _ _ hS54 ?_
 clear hK K hS51
 refine tkq 3 (bm 28 15) hS54 ?_
 refine tke 4 (bm 28 31) hS54 ?_
 refine tke 6 (bm 28 95) hS54 ?_
 refine wpAnyH_oneN (i := 5) (l' := bm 28 127) rfl (by kernel_rfl) (by kernel_rfl) (by kernel_rfl) (fun K hK => ?_)
 go_simp
 go_at_call 22
 refine (C6.out _).mono ?_
 rintro r w58 ⟨rfl, hb⟩
 dsimp only
 have D59 := ds D53 hb
 clear D53
 clear hb
 have hS60 : True ∧ Blk w58 (g6) 33 (ac m) ∧ Blk w58 (g24) 33 (ac m) ∧ CellsL w58 (w.heap.size) 0 [.float .f64 p, .float .f64 q, .float .f64 r] := ⟨trivial, (kb K39 D59), (kb K40 D59), (kb K38 D59).cellsL 0 [.float .f64 p, .float .f64 q, .float .f64 r] rfl⟩
 refine hK _ _ hS60 ?_
 clear hK K hS54
 refine wpAnyH_oneN (i := 7) (l' := bm 28 255) rfl (by kernel_rfl) (by kernel_rfl) (by kernel_rfl) (fun K hK => ?_)
 go_simp
 go_at_call 23
 refine (C7.out _).mono ?_
 rintro r w61 ⟨rfl, hb⟩
 dsimp only
 have D62 := ds D59 hb
 clear D59
 clear hb
 have hS63 : True ∧ Blk w61 (g6) 33 (ac m) ∧ Blk w61 (g24) 33 (ac m) ∧ CellsL w61 (w.heap.size) 0 [.float .f64 p, .float .f64 q, .float .f64 r] := ⟨trivial, (kb K39 D62), (kb K40 D62), (kb K38 D62).cellsL 0 [.float .f64 p, .float .f64 q, .float .f64 r] rfl⟩
 refine hK _ _ hS63 ?_
 clear hK K hS60
 refine wpAnyH_oneN (i := 8) (l' := bm 28 511) rfl (by kernel_rfl) (by kernel_rfl) (by kernel_rfl) (fun K hK => ?_)
 go_simp
 go_at_call 14
 refine (C8.out _).mono ?_
 rintro r w64 ⟨rfl, hb⟩
 dsimp only
 have D65 := ds D62 hb
 clear D62
 clear hb
 have hS66 : True ∧ Blk w64 (g6) 33 (ac m) ∧ Blk w64 (g24) 33 (ac m) ∧ CellsL w64 (w.heap.size) 0 [.float .f64 p, .float .f64 q, .float .f64 r] := ⟨trivial, (kb K39 D65), (kb K40 D65), (kb K38 D65).cellsL 0 [.float .f64 p, .float .f64 q, .float .f64 r] rfl⟩
 refine hK _ _ hS66 ?_
 clear hK K hS63
 refine tkq 9 (bm 28 1023) hS66 ?_
 refine tkq 10 (bm 28 2047) hS66 ?_
 refine tke 11 (bm 28 4095) hS66 ?_
 refine tke 13 (bm 28 12287) hS66 ?_
 refine wpAnyH_oneN (i := 12) (l' := bm 28 16383) rfl (by kernel_rfl) (by kernel_rfl) (by kernel_rfl) (fun K hK => ?_)
 go_simp
 go_at_call 24
 refine (C9.out _).mono ?_
 rintro r w71 ⟨rfl, hb⟩
 dsimp only
 have D72 := ds D65 hb
 clear D65
 clear hb
 have hS73 : True ∧ Blk w71 (g6) 33 (ac m) ∧ Blk w71 (g24) 33 (ac m) ∧ CellsL w71 (w.heap.size) 0 [.float .f64 p, .float .f64 q, .float .f64 r] := ⟨trivial, (kb K39 D72), (kb K40 D72), (kb K38 D72).cellsL 0 [.float .f64 p, .float .f64 q, .float .f64 r] rfl⟩
 refine hK _ _ hS73 ?_
 clear hK K hS66
 refine wpAnyH_oneN (i := 14) (l' := bm 28 32767) rfl (by kernel_rfl) (by kernel_rfl) (by kernel_rfl) (fun K hK => ?_)
 go_simp
 go_at_call 25
 refine (C10.out _).mono ?_
 rintro r w74 ⟨rfl, hb⟩
 dsimp only
 have D75 := ds D72 hb
 clear D72
 clear hb
 have hS76 : True ∧ Blk w74 (g6) 33 (ac m) ∧ Blk w74 (g24) 33 (ac m) ∧ CellsL w74 (w.heap.size) 0 [.float .f64 p, .float .f64 q, .float .f64 r] := ⟨trivial, (kb K39 D75), (kb K40 D75), (kb K38 D75).cellsL 0 [.float .f64 p, .float .f64 q, .float .f64 r] rfl⟩
 refine hK _ _ hS76 ?_
 clear hK K hS73
 refine wpAnyH_oneN (i := 15) (l' := bm 28 65535) rfl (by kernel_rfl) (by kernel_rfl) (by kernel_rfl) (fun K hK => ?_)
 go_simp
 go_at_call 14
 refine (C11.out _).mono ?_
 rintro r w77 ⟨rfl, hb⟩
 dsimp only
 have D78 := ds D75 hb
 clear D75
 clear hb
 have hS79 : True ∧ Blk w77 (g6) 33 (ac m) ∧ Blk w77 (g24) 33 (ac m) ∧ CellsL w77 (w.heap.size) 0 [.float .f64 p, .float .f64 q, .float .f64 r] := ⟨trivial, (kb K39 D78), (kb K40 D78), (kb K38 D78).cellsL 0 [.float .f64 p, .float .f64 q, .float .f64 r] rfl⟩
 refine hK _ _ hS79 ?_
 clear hK K hS76
 refine tkq 16 (bm 28 131071) hS79 ?_
 refine tkq 17 (bm 28 262143) hS79 ?_
 refine tkL 18 (bm 28 524287) ?aq82 rfl (by kernel_rfl) (fun _ _ _ h => h) (by kernel_rfl) rfl rfl (fun _ hS => hS.2.1) (by rw [info_Affine]; rfl) Try.underlying33 rfl ?pq82 hS79 ?rq82
 case pq82 => (go_simp; try with_reducible rfl)
 refine tkL 19 (bm 28 1048575) ?aq83 rfl (by kernel_rfl) (fun _ _ _ h => h) (by kernel_rfl) rfl rfl (fun _ hS => hS.2.2.1) (by rw [info_Affine]; rfl) Try.underlying33 rfl ?pq83 hS79 ?rq83
 case pq83 => (go_simp; try with_reducible rfl)
 refine wpAnyH_oneN (i := 20) (l' := bm 28 2097151) rfl (by kernel_rfl) (by kernel_rfl) (by kernel_rfl) (fun K hK => ?_)
 go_simp
 go_at_call 14
 refine (C12.out _).mono ?_
 rintro r w84 ⟨rfl, hb⟩
 dsimp only
 have D85 := ds D78 hb
 clear D78
 clear hb
 have hS86 : True ∧ Blk w84 (g6) 33 (ac m) ∧ Blk w84 (g24) 33 (ac m) ∧ CellsL w84 (w.heap.size) 0 [.float .f64 p, .float .f64 q, .float .f64 r] := ⟨trivial, (kb K39 D85), (kb K40 D85), (kb K38 D85).cellsL 0 [.float .f64 p, .float .f64 q, .float .f64 r] rfl⟩
 refine hK _ _ hS86 ?_
 clear hK K hS79
 refine tkq 21 (bm 28 4194303) hS86 ?_
 refine tkq 22 (bm 28 8388607) hS86 ?_
 refine tkq 23 (bm 28 16777215) hS86 ?_
 refine tkq 24 (bm 28 33554431) hS86 ?_
 refine tkq 25 (bm 28 67108863) hS86 ?_
 refine tkq 26 (bm 28 134217727) hS86 ?_
 refine tkq 27 (bm 28 268435455) hS86 ?_
 refine wpAnyH_done (by kernel_rfl) ?_ _
 clear hS86
 go_wp2_with fail
 go_ret
 exact ⟨rfl, below_step HB41.out D85.out⟩
theorem xformMakes_11 (axis : Int) (p q r c s : Nat) (hp : p < 18446744073709551616) (hq : q < 18446744073709551616) (hr : r < 18446744073709551616) (hc : c < 18446744073709551616) (hs : s < 18446744073709551616) (m : Af) (HT : ∀ w, Calls Try.prog 13 #[.int .i64 axis, .float .f64 c, .float .f64 s] w fun r w' => r = .returned (.tuple #[aval m, .int .i64 11]) ∧ Below w.heap.size w w') (HR : ∀ w, Calls Try.prog 19 #[.int .i64 axis, .float .f64 c, .float .f64 s] w fun r w' => r = .returned (.tuple #[aval m, .int .i64 11]) ∧ Below w.heap.size w w') (w : World) : Calls Try.prog 4 #[Value.agg #[.float .f64 p, .float .f64 q, .float .f64 r], Value.int IntKind.i64 axis, .float .f64 c, .float .f64 s] w fun r w' => r = .returned (.bool true) ∧ Below w.heap.size w w' := by
 have C0 := Lib.hid (awake4)
 have C1 := Lib.hid (HT)
 have C2 := Lib.hid (HR)
 have C3 := Lib.hid (fun w => sameA_any w)
 obtain ⟨p3, hp3⟩ : ∃ z_, afSame = z_ := ⟨_, rfl⟩
 rw [hp3] at C3
 have C4 := Lib.hid (fun w => rsameA_any w)
 rw [hp3] at C4
 have C5 := Lib.hid (fun w => requalA_self p3 w)
 have C6 := Lib.hid (fun w => moveA_any p q r hp hq hr w)
 obtain ⟨p6, hp6⟩ : ∃ z_, afMove p q r = z_ := ⟨_, rfl⟩
 rw [hp6] at C6
 have C7 := Lib.hid (fun w => rmoveA_any p q r hp hq hr w)
 rw [hp6] at C7
 have C8 := Lib.hid (fun w => requalA_self p6 w)
 have C9 := Lib.hid (fun w => stretchA_any p q r hp hq hr w)
 obtain ⟨p9, hp9⟩ : ∃ z_, afStretch p q r = z_ := ⟨_, rfl⟩
 rw [hp9] at C9
 have C10 := Lib.hid (fun w => rstretchA_any p q r hp hq hr w)
 rw [hp9] at C10
 have C11 := Lib.hid (fun w => requalA_self p9 w)
 have C12 := Lib.hid (fun w => requalA_self m w)
 clear hp3 hp6 hp9
 go_enter Try.func4, Try.ntmps4
 go_wp2_with fail
 obtain ⟨W, hW, K0, hB, hz⟩ := bx1 w 24 #[.float .f64 p, .float .f64 q, .float .f64 r]
 rw [← hW]
 have K0 := Lib.hid K0
 have HB := Lib.hid hB
 clear hW hB hz
 have D1 := dr W
 refine (C0.out _).mono ?_
 rintro r w2 ⟨rfl, hb⟩
 have D3 := ds D1 hb
 clear D1
 clear hb
 go_wp2_with fail
 refine (C1.out _).mono ?_
 rintro r w4 ⟨rfl, hb⟩
 have D5 := ds D3 hb
 clear D3
 clear hb
 obtain ⟨g6, hg8⟩ : ∃ g, w4.heap.size = g := ⟨_, rfl⟩
 have Y10 := Lib.hid (show w.heap.size < g6 by rw [← hg8]; exact (kb K0 D5).lt)
 obtain ⟨V7, hV9⟩ : ∃ V, w4.alloc (.cells #[.float .f64 0, .float .f64 0, .float .f64 0, .float .f64 0, .float .f64 0, .float .f64 0, .float .f64 0, .float .f64 0, .float .f64 0, .float .f64 0, .float .f64 0, .float .f64 0, .float .f64 0, .float .f64 0, .float .f64 0, .float .f64 0, .float .f64 0, .float .f64 0, .float .f64 0, .float .f64 0, .float .f64 0, .float .f64 0, .float .f64 0, .float .f64 0] 33) = V := ⟨_, rfl⟩
 have K11 := ka hV9 K0 D5
 have K12 := kn hV9 hg8
 have HB13 := hba hV9 HB D5
 have D14 := dr V7
 clear K0 HB D5
 have f17 := (kb K12 D14)
 obtain ⟨V15, hV16⟩ : ∃ V, World.setRow V7 (g6) (ac m) = V := ⟨_, rfl⟩
 have K18 := kfr hV16 K11 D14 (by have := Y10.out; omega)
 have K19 := ksr hV16 K12 D14
 have HB20 := hbr hV16 HB13 D14 (by have := Y10.out; omega)
 have D21 := dr V15
 clear K11 K12 HB13 D14
 go_wp2_with (refine wpList_store_row rfl 33 _ _ rfl (g6) (ac m) rfl rfl _ _ f17 (by rw [info_Affine]; rfl) rfl (by kernel_rfl) ?_; rw [hV16])
 clear hg8 hV9 hV16 f17
 refine (C2.out _).mono ?_
 rintro r w22 ⟨rfl, hb⟩
 have D23 := ds D21 hb
 clear D21
 clear hb
 obtain ⟨g24, hg26⟩ : ∃ g, w22.heap.size = g := ⟨_, rfl⟩
 have Y28 := Lib.hid (show w.heap.size < g24 ∧ g6 < g24 by rw [← hg26]; exact ⟨(kb K18 D23).lt, (kb K19 D23).lt⟩)
 obtain ⟨V25, hV27⟩ : ∃ V, w22.alloc (.cells #[.float .f64 0, .float .f64 0, .float .f64 0, .float .f64 0, .float .f64 0, .float .f64 0, .float .f64 0, .float .f64 0, .float .f64 0, .float .f64 0, .float .f64 0, .float .f64 0, .float .f64 0, .float .f64 0, .float .f64 0, .float .f64 0, .float .f64 0, .float .f64 0, .float .f64 0, .float .f64 0, .float .f64 0, .float .f64 0, .float .f64 0, .float .f64 0] 33) = V := ⟨_, rfl⟩
 have K29 := ka hV27 K18 D23
 have K30 := ka hV27 K19 D23
 have K31 := kn hV27 hg26
 have HB32 := hba hV27 HB20 D23
 have D33 := dr V25
 clear K18 K19 HB20 D23
 have Y34 := Lib.hid (And.intro Y10.out Y28.out)
 clear Y10 Y28
 have f37 := (kb K31 D33)
 obtain ⟨V35, hV36⟩ : ∃ V, World.setRow V25 (g24) (ac m) = V := ⟨_, rfl⟩
 have K38 := kfr hV36 K29 D33 (by have := Y34.out; omega)
 have K39 := kfr hV36 K30 D33 (by have := Y34.out; omega)
 have K40 := ksr hV36 K31 D33
 have HB41 := hbr hV36 HB32 D33 (by have := Y34.out; omega)
 have D42 := dr V35
 clear K29 K30 K31 HB32 D33
 go_wp2_with (refine wpList_store_row rfl 33 _ _ rfl (g24) (ac m) rfl rfl _ _ f37 (by rw [info_Affine]; rfl) rfl (by kernel_rfl) ?_; rw [hV36])
 clear hg26 hV27 hV36 f37
 refine wp_region_held (S := (fun w' => True ∧ Blk w' (g6) 33 (ac m) ∧ Blk w' (g24) 33 (ac m) ∧ CellsL w' (w.heap.size) 0 [.float .f64 p, .float .f64 q, .float .f64 r])) (by kernel_rfl) ?_
 change wpAnyH _ _ _ _ _ _ _ _ (World.drew _)
 obtain ⟨wd43, hwd⟩ : ∃ x, x = World.drew V35 := ⟨_, rfl⟩
 rw [← hwd]
 have D44 := Lib.hid (hwd ▸ Below.drew D42.out : Below V35.heap.size V35 wd43)
 clear D42 hwd
 have hS45 : True ∧ Blk wd43 (g6) 33 (ac m) ∧ Blk wd43 (g24) 33 (ac m) ∧ CellsL wd43 (w.heap.size) 0 [.float .f64 p, .float .f64 q, .float .f64 r] := ⟨trivial, (kb K39 D44), (kb K40 D44), (kb K38 D44).cellsL 0 [.float .f64 p, .float .f64 q, .float .f64 r] rfl⟩
 refine wpAnyH_oneN (i := 0) (l' := bm 28 1) rfl (by kernel_rfl) (by kernel_rfl) (by kernel_rfl) (fun K hK => ?_)
 go_simp
 go_at_call 20
 refine (C3.out _).mono ?_
 rintro r w46 ⟨rfl, hb⟩
 dsimp only
 have D47 := ds D44 hb
 clear D44
 clear hb
 have hS48 : True ∧ Blk w46 (g6) 33 (ac m) ∧ Blk w46 (g24) 33 (ac m) ∧ CellsL w46 (w.heap.size) 0 [.float .f64 p, .float .f64 q, .float .f64 r] := ⟨trivial, (kb K39 D47), (kb K40 D47), (kb K38 D47).cellsL 0 [.float .f64 p, .float .f64 q, .float .f64 r] rfl⟩
 refine hK _ _ hS48 ?_
 clear hK K hS45
 refine wpAnyH_oneN (i := 1) (l' := bm 28 3) rfl (by kernel_rfl) (by kernel_rfl) (by kernel_rfl) (fun K hK => ?_)
 go_simp
 go_at_call 21
 refine (C4.out _).mono ?_
 rintro r w49 ⟨rfl, hb⟩
 dsimp only
 have D50 := ds D47 hb
 clear D47
 clear hb
 have hS51 : True ∧ Blk w49 (g6) 33 (ac m) ∧ Blk w49 (g24) 33 (ac m) ∧ CellsL w49 (w.heap.size) 0 [.float .f64 p, .float .f64 q, .float .f64 r] := ⟨trivial, (kb K39 D50), (kb K40 D50), (kb K38 D50).cellsL 0 [.float .f64 p, .float .f64 q, .float .f64 r] rfl⟩
 refine hK _ _ hS51 ?_
 clear hK K hS48
 refine wpAnyH_oneN (i := 2) (l' := bm 28 7) rfl (by kernel_rfl) (by kernel_rfl) (by kernel_rfl) (fun K hK => ?_)
 go_simp
 go_at_call 14
 refine (C5.out _).mono ?_
 rintro r w52 ⟨rfl, hb⟩
 dsimp only
 have D53 := ds D50 hb
 clear D50
 clear hb
 have hS54 : True ∧ Blk w52 (g6) 33 (ac m) ∧ Blk w52 (g24) 33 (ac m) ∧ CellsL w52 (w.heap.size) 0 [.float .f64 p, .float .f64 q, .float .f64 r] := ⟨trivial, (kb K39 D53), (kb K40 D53), (kb K38 D53).cellsL 0 [.float .f64 p, .float .f64 q, .float .f64 r] rfl⟩
 refine hK _ _ hS54 ?_
 clear hK K hS51
 refine tkq 3 (bm 28 15) hS54 ?_
 refine tke 4 (bm 28 31) hS54 ?_
 refine tke 6 (bm 28 95) hS54 ?_
 refine wpAnyH_oneN (i := 5) (l' := bm 28 127) rfl (by kernel_rfl) (by kernel_rfl) (by kernel_rfl) (fun K hK => ?_)
 go_simp
 go_at_call 22
 refine (C6.out _).mono ?_
 rintro r w58 ⟨rfl, hb⟩
 dsimp only
 have D59 := ds D53 hb
 clear D53
 clear hb
 have hS60 : True ∧ Blk w58 (g6) 33 (ac m) ∧ Blk w58 (g24) 33 (ac m) ∧ CellsL w58 (w.heap.size) 0 [.float .f64 p, .float .f64 q, .float .f64 r] := ⟨trivial, (kb K39 D59), (kb K40 D59), (kb K38 D59).cellsL 0 [.float .f64 p, .float .f64 q, .float .f64 r] rfl⟩
 refine hK _ _ hS60 ?_
 clear hK K hS54
 refine wpAnyH_oneN (i := 7) (l' := bm 28 255) rfl (by kernel_rfl) (by kernel_rfl) (by kernel_rfl) (fun K hK => ?_)
 go_simp
 go_at_call 23
 refine (C7.out _).mono ?_
 rintro r w61 ⟨rfl, hb⟩
 dsimp only
 have D62 := ds D59 hb
 clear D59
 clear hb
 have hS63 : True ∧ Blk w61 (g6) 33 (ac m) ∧ Blk w61 (g24) 33 (ac m) ∧ CellsL w61 (w.heap.size) 0 [.float .f64 p, .float .f64 q, .float .f64 r] := ⟨trivial, (kb K39 D62), (kb K40 D62), (kb K38 D62).cellsL 0 [.float .f64 p, .float .f64 q, .float .f64 r] rfl⟩
 refine hK _ _ hS63 ?_
 clear hK K hS60
 refine wpAnyH_oneN (i := 8) (l' := bm 28 511) rfl (by kernel_rfl) (by kernel_rfl) (by kernel_rfl) (fun K hK => ?_)
 go_simp
 go_at_call 14
 refine (C8.out _).mono ?_
 rintro r w64 ⟨rfl, hb⟩
 dsimp only
 have D65 := ds D62 hb
 clear D62
 clear hb
 have hS66 : True ∧ Blk w64 (g6) 33 (ac m) ∧ Blk w64 (g24) 33 (ac m) ∧ CellsL w64 (w.heap.size) 0 [.float .f64 p, .float .f64 q, .float .f64 r] := ⟨trivial, (kb K39 D65), (kb K40 D65), (kb K38 D65).cellsL 0 [.float .f64 p, .float .f64 q, .float .f64 r] rfl⟩
 refine hK _ _ hS66 ?_
 clear hK K hS63
 refine tkq 9 (bm 28 1023) hS66 ?_
 refine tkq 10 (bm 28 2047) hS66 ?_
 refine tke 11 (bm 28 4095) hS66 ?_
 refine tke 13 (bm 28 12287) hS66 ?_
 refine wpAnyH_oneN (i := 12) (l' := bm 28 16383) rfl (by kernel_rfl) (by kernel_rfl) (by kernel_rfl) (fun K hK => ?_)
 go_simp
 go_at_call 24
 refine (C9.out _).mono ?_
 rintro r w71 ⟨rfl, hb⟩
 dsimp only
 have D72 := ds D65 hb
 clear D65
 clear hb
 have hS73 : True ∧ Blk w71 (g6) 33 (ac m) ∧ Blk w71 (g24) 33 (ac m) ∧ CellsL w71 (w.heap.size) 0 [.float .f64 p, .float .f64 q, .float .f64 r] := ⟨trivial, (kb K39 D72), (kb K40 D72), (kb K38 D72).cellsL 0 [.float .f64 p, .float .f64 q, .float .f64 r] rfl⟩
 refine hK _ _ hS73 ?_
 clear hK K hS66
 refine wpAnyH_oneN (i := 14) (l' := bm 28 32767) rfl (by kernel_rfl) (by kernel_rfl) (by kernel_rfl) (fun K hK => ?_)
 go_simp
 go_at_call 25
 refine (C10.out _).mono ?_
 rintro r w74 ⟨rfl, hb⟩
 dsimp only
 have D75 := ds D72 hb
 clear D72
 clear hb
 have hS76 : True ∧ Blk w74 (g6) 33 (ac m) ∧ Blk w74 (g24) 33 (ac m) ∧ CellsL w74 (w.heap.size) 0 [.float .f64 p, .float .f64 q, .float .f64 r] := ⟨trivial, (kb K39 D75), (kb K40 D75), (kb K38 D75).cellsL 0 [.float .f64 p, .float .f64 q, .float .f64 r] rfl⟩
 refine hK _ _ hS76 ?_
 clear hK K hS73
 refine wpAnyH_oneN (i := 15) (l' := bm 28 65535) rfl (by kernel_rfl) (by kernel_rfl) (by kernel_rfl) (fun K hK => ?_)
 go_simp
 go_at_call 14
 refine (C11.out _).mono ?_
 rintro r w77 ⟨rfl, hb⟩
 dsimp only
 have D78 := ds D75 hb
 clear D75
 clear hb
 have hS79 : True ∧ Blk w77 (g6) 33 (ac m) ∧ Blk w77 (g24) 33 (ac m) ∧ CellsL w77 (w.heap.size) 0 [.float .f64 p, .float .f64 q, .float .f64 r] := ⟨trivial, (kb K39 D78), (kb K40 D78), (kb K38 D78).cellsL 0 [.float .f64 p, .float .f64 q, .float .f64 r] rfl⟩
 refine hK _ _ hS79 ?_
 clear hK K hS76
 refine tkq 16 (bm 28 131071) hS79 ?_
 refine tkq 17 (bm 28 262143) hS79 ?_
 refine tkL 18 (bm 28 524287) ?aq82 rfl (by kernel_rfl) (fun _ _ _ h => h) (by kernel_rfl) rfl rfl (fun _ hS => hS.2.1) (by rw [info_Affine]; rfl) Try.underlying33 rfl ?pq82 hS79 ?rq82
 case pq82 => (go_simp; try with_reducible rfl)
 refine tkL 19 (bm 28 1048575) ?aq83 rfl (by kernel_rfl) (fun _ _ _ h => h) (by kernel_rfl) rfl rfl (fun _ hS => hS.2.2.1) (by rw [info_Affine]; rfl) Try.underlying33 rfl ?pq83 hS79 ?rq83
 case pq83 => (go_simp; try with_reducible rfl)
 refine wpAnyH_oneN (i := 20) (l' := bm 28 2097151) rfl (by kernel_rfl) (by kernel_rfl) (by kernel_rfl) (fun K hK => ?_)
 go_simp
 go_at_call 14
 refine (C12.out _).mono ?_
 rintro r w84 ⟨rfl, hb⟩
 dsimp only
 have D85 := ds D78 hb
 clear D78
 clear hb
 have hS86 : True ∧ Blk w84 (g6) 33 (ac m) ∧ Blk w84 (g24) 33 (ac m) ∧ CellsL w84 (w.heap.size) 0 [.float .f64 p, .float .f64 q, .float .f64 r] := ⟨trivial, (kb K39 D85), (kb K40 D85), (kb K38 D85).cellsL 0 [.float .f64 p, .float .f64 q, .float .f64 r] rfl⟩
 refine hK _ _ hS86 ?_
 clear hK K hS79
 refine tkq 21 (bm 28 4194303) hS86 ?_
 refine tkq 22 (bm 28 8388607) hS86 ?_
 refine tkq 23 (bm 28 16777215) hS86 ?_
 refine tkq 24 (bm 28 33554431) hS86 ?_
 refine tkq 25 (bm 28 67108863) hS86 ?_
 refine tkq 26 (bm 28 134217727) hS86 ?_
 refine tkq 27 (bm 28 268435455) hS86 ?_
 refine wpAnyH_done (by kernel_rfl) ?_ _
 clear hS86
 go_wp2_with fail
 go_ret
 exact ⟨rfl, below_step HB41.out D85.out⟩
theorem walk_xformMakes (p q r : Nat) (axis : Int) (c s : Nat) (hp : p < 18446744073709551616) (hq : q < 18446744073709551616) (hr : r < 18446744073709551616) (hc : c < 18446744073709551616) (hs : s < 18446744073709551616) (w : World) : Calls Try.prog 4 #[.agg #[.float .f64 p, .float .f64 q, .float .f64 r], .int .i64 axis, .float .f64 c, .float .f64 s] w fun r w' => r = .returned (.bool true) ∧ Below w.heap.size w w' := by
 by_cases h0 : axis < 0
 · exact xformMakes_2 axis p q r c s hp hq hr hc hs zeroA (fun w => turnA_lo c s axis (decide_eq_true h0) w) (fun w => rturnA_lo c s axis (decide_eq_true h0) w) w
 · by_cases h3 : 2 < axis
   · exact xformMakes_2 axis p q r c s hp hq hr hc hs zeroA (fun w => turnA_hi c s axis (decide_eq_false h0) (decide_eq_true h3) (decide_eq_true h3) w) (fun w => rturnA_hi c s axis (decide_eq_false h0) (decide_eq_true h3) (decide_eq_true h3) w) w
   · by_cases h1 : 0 < Z (tuL c s).lo
     · cases h2 : (tuL c s).wide
       · have h4 : axis = 0 ∨ axis = 1 ∨ axis = 2 := by omega
         rcases h4 with rfl | rfl | rfl
         · exact xformMakes_0 0 p q r c s hp hq hr hc hs _ (fun w => turnA_k0 c s hc hs h1 h2 w) (fun w => rturnA_k0 c s hc hs h1 h2 w) w
         · exact xformMakes_0 1 p q r c s hp hq hr hc hs _ (fun w => turnA_k1 c s hc hs h1 h2 w) (fun w => rturnA_k1 c s hc hs h1 h2 w) w
         · exact xformMakes_0 2 p q r c s hp hq hr hc hs _ (fun w => turnA_k2 c s hc hs h1 h2 w) (fun w => rturnA_k2 c s hc hs h1 h2 w) w
       · exact xformMakes_11 axis p q r c s hp hq hr hc hs zeroA (fun w => turnA_w axis c s (decide_eq_false h0) (decide_eq_false h3) (decide_eq_false h3) hc hs h1 h2 w) (fun w => rturnA_w axis c s (decide_eq_false h0) (decide_eq_false h3) (decide_eq_false h3) hc hs h1 h2 w) w
     · exact xformMakes_11 axis p q r c s hp hq hr hc hs zeroA (fun w => turnA_b axis c s (decide_eq_false h0) (decide_eq_false h3) (decide_eq_false h3) hc hs h1 w) (fun w => rturnA_b axis c s (decide_eq_false h0) (decide_eq_false h3) (decide_eq_false h3) hc hs h1 w) w
end Go.Proofs.Ytnljfcebmgifdaa
