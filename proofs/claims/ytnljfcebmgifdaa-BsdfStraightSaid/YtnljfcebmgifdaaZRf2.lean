/- Shaken: Bs8. -/
import Derived.Test.YtnljfcebmgifdaaZRf1
set_option maxRecDepth 100000
set_option maxHeartbeats 8000000
set_option linter.unusedVariables false
set_option linter.unusedSimpArgs false
namespace Go.Proofs.Ytnljfcebmgifdaa
open Go.RowKit Fl
theorem bsdfStraight_n0 (n0 n1 n2 d0 d1 d2 : Nat) (hn0 : n0 < 18446744073709551616) (hn1 : n1 < 18446744073709551616) (hn2 : n2 < 18446744073709551616) (hd0 : d0 < 18446744073709551616) (hd1 : d1 < 18446744073709551616) (hd2 : d2 < 18446744073709551616) (v0 : nmB n0 n1 n2 = false) (w : World) : Calls Try.prog 10 #[Value.agg #[.float .f64 n0, .float .f64 n1, .float .f64 n2], Value.agg #[.float .f64 d0, .float .f64 d1, .float .f64 d2]] w fun r w' => r = .returned (.bool true) ∧ Below w.heap.size w w' := by
 have C0 := Lib.hid (awake12)
 have C1 := Lib.hid (fun w => rnumbers_any n0 n1 n2 hn0 hn1 hn2 w)
 rw [v0] at C1
 go_enter Try.func10, Try.ntmps10
 go_wp2_with fail
 obtain ⟨W, hW, K0, K1, hB, hz⟩ := bx2 w 24 24 #[.float .f64 n0, .float .f64 n1, .float .f64 n2] #[.float .f64 d0, .float .f64 d1, .float .f64 d2]
 rw [← hW]
 have K0 := Lib.hid K0
 have K1 := Lib.hid K1
 have HB := Lib.hid hB
 clear hW hB hz
 have D1 := dr W
 refine (C0.out _).mono ?_
 rintro r w2 ⟨rfl, hb⟩
 have D3 := ds D1 hb
 clear D1
 clear hb
 have hq4 := (kb K0 D3).cellsL 0 [.float .f64 n0, .float .f64 n1, .float .f64 n2] rfl
 dsimp only [CellsL, al, vl, Nat.reduceAdd] at hq4
 go_wp2_with fail
 clear hq4
 refine (C1.out _).mono ?_
 rintro r w5 ⟨rfl, hb⟩
 have D6 := ds D3 hb
 clear D3
 clear hb
 go_wp2_with fail
 go_ret
 exact ⟨rfl, below_step HB.out D6.out⟩
theorem bsdfStraight_n1 (n0 n1 n2 d0 d1 d2 : Nat) (hn0 : n0 < 18446744073709551616) (hn1 : n1 < 18446744073709551616) (hn2 : n2 < 18446744073709551616) (hd0 : d0 < 18446744073709551616) (hd1 : d1 < 18446744073709551616) (hd2 : d2 < 18446744073709551616) (v0 : nmB n0 n1 n2 = true) (v1 : nmB d0 d1 d2 = false) (w : World) : Calls Try.prog 10 #[Value.agg #[.float .f64 n0, .float .f64 n1, .float .f64 n2], Value.agg #[.float .f64 d0, .float .f64 d1, .float .f64 d2]] w fun r w' => r = .returned (.bool true) ∧ Below w.heap.size w w' := by
 have C0 := Lib.hid (awake12)
 have C1 := Lib.hid (fun w => rnumbers_any n0 n1 n2 hn0 hn1 hn2 w)
 rw [v0] at C1
 have C2 := Lib.hid (fun w => rnumbers_any d0 d1 d2 hd0 hd1 hd2 w)
 rw [v1] at C2
 go_enter Try.func10, Try.ntmps10
 go_wp2_with fail
 obtain ⟨W, hW, K0, K1, hB, hz⟩ := bx2 w 24 24 #[.float .f64 n0, .float .f64 n1, .float .f64 n2] #[.float .f64 d0, .float .f64 d1, .float .f64 d2]
 rw [← hW]
 have K0 := Lib.hid K0
 have K1 := Lib.hid K1
 have HB := Lib.hid hB
 clear hW hB hz
 have D1 := dr W
 refine (C0.out _).mono ?_
 rintro r w2 ⟨rfl, hb⟩
 have D3 := ds D1 hb
 clear D1
 clear hb
 have hq4 := (kb K0 D3).cellsL 0 [.float .f64 n0, .float .f64 n1, .float .f64 n2] rfl
 dsimp only [CellsL, al, vl, Nat.reduceAdd] at hq4
 go_wp2_with fail
 clear hq4
 refine (C1.out _).mono ?_
 rintro r w5 ⟨rfl, hb⟩
 have D6 := ds D3 hb
 clear D3
 clear hb
 have hq7 := (kb K1 D6).cellsL 0 [.float .f64 d0, .float .f64 d1, .float .f64 d2] rfl
 dsimp only [CellsL, al, vl, Nat.reduceAdd] at hq7
 go_wp2_with fail
 clear hq7
 refine (C2.out _).mono ?_
 rintro r w8 ⟨rfl, hb⟩
 have D9 := ds D6 hb
 clear D6
 clear hb
 go_wp2_with fail
 go_ret
 exact ⟨rfl, below_step HB.out D9.out⟩
theorem bsdfStraight_z0 (n0 n1 n2 d0 d1 d2 : Nat) (hn0 : n0 < 18446744073709551616) (hn1 : n1 < 18446744073709551616) (hn2 : n2 < 18446744073709551616) (hd0 : d0 < 18446744073709551616) (hd1 : d1 < 18446744073709551616) (hd2 : d2 < 18446744073709551616) (hnn : nmB n0 n1 n2 = true) (hnd : nmB d0 d1 d2 = true) (g0 : Z (vLen (vOf n0 n1 n2)).lo ≤ 0) (w : World) : Calls Try.prog 10 #[Value.agg #[.float .f64 n0, .float .f64 n1, .float .f64 n2], Value.agg #[.float .f64 d0, .float .f64 d1, .float .f64 d2]] w fun r w' => r = .returned (.bool true) ∧ Below w.heap.size w w' := by
 have C0 := Lib.hid (awake12)
 have C1 := Lib.hid (fun w => rnumbers_any n0 n1 n2 hn0 hn1 hn2 w)
 rw [hnn] at C1
 have C2 := Lib.hid (fun w => rnumbers_any d0 d1 d2 hd0 hd1 hd2 w)
 rw [hnd] at C2
 have C3 := Lib.hid (fun w => rofV_any n0 n1 n2 hn0 hn1 hn2 w)
 obtain ⟨p3, hp3⟩ : ∃ z_, vOf n0 n1 n2 = z_ := ⟨_, rfl⟩
 rw [hp3] at C3
 have C4 := Lib.hid (fun w => runitV_any p3 w)
 obtain ⟨p4, hp4⟩ : ∃ z_, vUnit p3 = z_ := ⟨_, rfl⟩
 rw [hp4] at C4
 obtain ⟨q5_, hq5_⟩ : ∃ z_, vLen p3 = z_ := ⟨_, rfl⟩
 rw [hq5_] at C4
 have C6 := Lib.hid (fun w => rofV_any d0 d1 d2 hd0 hd1 hd2 w)
 obtain ⟨p6, hp6⟩ : ∃ z_, vOf d0 d1 d2 = z_ := ⟨_, rfl⟩
 rw [hp6] at C6
 have C7 := Lib.hid (fun w => runitV_any p6 w)
 obtain ⟨p7, hp7⟩ : ∃ z_, vUnit p6 = z_ := ⟨_, rfl⟩
 rw [hp7] at C7
 obtain ⟨q8_, hq8_⟩ : ∃ z_, vLen p6 = z_ := ⟨_, rfl⟩
 rw [hq8_] at C7
 have e9 : (FloatKind.f64.format.order q5_.lo 0 == some .lt || FloatKind.f64.format.order q5_.lo 0 == some .eq) = true := by
   have hl : Z q5_.lo ≤ 0 := by rw [← hq5_, ← hp3]; exact g0
   rw [le0_gd q5_.vd.l]; exact decide_eq_true hl
 clear hp3 hp4 hq5_ hp6 hp7 hq8_
 go_enter Try.func10, Try.ntmps10
 go_wp2_with fail
 obtain ⟨W, hW, K0, K1, hB, hz⟩ := bx2 w 24 24 #[.float .f64 n0, .float .f64 n1, .float .f64 n2] #[.float .f64 d0, .float .f64 d1, .float .f64 d2]
 rw [← hW]
 have K0 := Lib.hid K0
 have K1 := Lib.hid K1
 have HB := Lib.hid hB
 clear hW hB hz
 have D1 := dr W
 refine (C0.out _).mono ?_
 rintro r w2 ⟨rfl, hb⟩
 have D3 := ds D1 hb
 clear D1
 clear hb
 have hq4 := (kb K0 D3).cellsL 0 [.float .f64 n0, .float .f64 n1, .float .f64 n2] rfl
 dsimp only [CellsL, al, vl, Nat.reduceAdd] at hq4
 go_wp2_with fail
 clear hq4
 refine (C1.out _).mono ?_
 rintro r w5 ⟨rfl, hb⟩
 have D6 := ds D3 hb
 clear D3
 clear hb
 have hq7 := (kb K1 D6).cellsL 0 [.float .f64 d0, .float .f64 d1, .float .f64 d2] rfl
 dsimp only [CellsL, al, vl, Nat.reduceAdd] at hq7
 go_wp2_with fail
 clear hq7
 refine (C2.out _).mono ?_
 rintro r w8 ⟨rfl, hb⟩
 have D9 := ds D6 hb
 clear D6
 clear hb
 have hq10 := (kb K0 D9).cellsL 0 [.float .f64 n0, .float .f64 n1, .float .f64 n2] rfl
 dsimp only [CellsL, al, vl, Nat.reduceAdd] at hq10
 go_wp2_with fail
 clear hq10
 refine (C3.out _).mono ?_
 rintro r w11 ⟨rfl, hb⟩
 have D12 := ds D9 hb
 clear D9
 clear hb
 go_wp2_with fail
 refine (C4.out _).mono ?_
 rintro r w13 ⟨rfl, hb⟩
 have D14 := ds D12 hb
 clear D12
 clear hb
 obtain ⟨g15, hg17⟩ : ∃ g, w13.heap.size = g := ⟨_, rfl⟩
 have Y19 := Lib.hid (show w.heap.size < g15 ∧ w.heap.size + 1 < g15 by rw [← hg17]; exact ⟨(kb K0 D14).lt, (kb K1 D14).lt⟩)
 obtain ⟨V16, hV18⟩ : ∃ V, w13.alloc (.cells #[.float .f64 0, .float .f64 0, .float .f64 0, .float .f64 0, .float .f64 0, .float .f64 0] 30) = V := ⟨_, rfl⟩
 have K20 := ka hV18 K0 D14
 have K21 := ka hV18 K1 D14
 have K22 := kn hV18 hg17
 have HB23 := hba hV18 HB D14
 have D24 := dr V16
 clear K0 K1 HB D14
 obtain ⟨g25, hg27⟩ : ∃ g, V16.heap.size = g := ⟨_, rfl⟩
 have Y29 := Lib.hid (show w.heap.size < g25 ∧ w.heap.size + 1 < g25 ∧ g15 < g25 by rw [← hg27]; exact ⟨(kb K20 D24).lt, (kb K21 D24).lt, (kb K22 D24).lt⟩)
 obtain ⟨V26, hV28⟩ : ∃ V, V16.alloc (.cells #[.float .f64 0, .float .f64 0] 28) = V := ⟨_, rfl⟩
 have K30 := ka hV28 K20 D24
 have K31 := ka hV28 K21 D24
 have K32 := ka hV28 K22 D24
 have K33 := kn hV28 hg27
 have HB34 := hba hV28 HB23 D24
 have D35 := dr V26
 clear K20 K21 K22 HB23 D24
 have Y36 := Lib.hid (And.intro Y19.out Y29.out)
 clear Y19 Y29
 have f39 := (kb K32 D35)
 obtain ⟨V37, hV38⟩ : ∃ V, World.setRow V26 (g15) (vc p4) = V := ⟨_, rfl⟩
 have K40 := kfr hV38 K30 D35 (by have := Y36.out; omega)
 have K41 := kfr hV38 K31 D35 (by have := Y36.out; omega)
 have K42 := ksr hV38 K32 D35
 have K43 := kfr hV38 K33 D35 (by have := Y36.out; omega)
 have HB44 := hbr hV38 HB34 D35 (by have := Y36.out; omega)
 have D45 := dr V37
 clear K30 K31 K32 K33 HB34 D35
 have f48 := (kb K43 D45).cellsL 0 [.float .f64 0, .float .f64 0] rfl
 dsimp only [CellsL, al, vl, Nat.reduceAdd] at f48
 have u49 := (kb K43 D45).unfrozen
 obtain ⟨V46, hV47⟩ : ∃ V, setCells V37 (g25) 0 [.float .f64 q5_.lo, .float .f64 q5_.hi] = V := ⟨_, rfl⟩
 have hv50 := hV47
 simp only [setCells, Nat.reduceAdd] at hv50
 have K51 := kf hV47 K40 D45 (by have := Y36.out; omega)
 have K52 := kf hV47 K41 D45 (by have := Y36.out; omega)
 have K53 := kf hV47 K42 D45 (by have := Y36.out; omega)
 have K54 := Lib.hid (show Blk V46 (g25) 28 #[.float .f64 q5_.lo, .float .f64 q5_.hi] from (ks hV47 K43 D45).out)
 have HB55 := hbs hV47 HB44 D45 (by have := Y36.out; omega)
 have D56 := dr V46
 clear K40 K41 K42 K43 HB44 D45
 have hq57 := (kb K52 D56).cellsL 0 [.float .f64 d0, .float .f64 d1, .float .f64 d2] rfl
 dsimp only [CellsL, al, vl, Nat.reduceAdd] at hq57
 go_wp2_with (refine wpList_store_row rfl 30 _ _ rfl (g15) (vc p4) rfl rfl _ _ f39 (by rw [info_V3]; rfl) rfl (by kernel_rfl) ?_; rw [hV38])
 clear hg17 hV18 hg27 hV28 hV38 f39 hV47 f48 u49 hv50 hq57
 refine (C6.out _).mono ?_
 rintro r w58 ⟨rfl, hb⟩
 have D59 := ds D56 hb
 clear D56
 clear hb
 go_wp2_with fail
 refine (C7.out _).mono ?_
 rintro r w60 ⟨rfl, hb⟩
 have D61 := ds D59 hb
 clear D59
 clear hb
 obtain ⟨g62, hg64⟩ : ∃ g, w60.heap.size = g := ⟨_, rfl⟩
 have Y66 := Lib.hid (show w.heap.size < g62 ∧ w.heap.size + 1 < g62 ∧ g15 < g62 ∧ g25 < g62 by rw [← hg64]; exact ⟨(kb K51 D61).lt, (kb K52 D61).lt, (kb K53 D61).lt, (kb K54 D61).lt⟩)
 obtain ⟨V63, hV65⟩ : ∃ V, w60.alloc (.cells #[.float .f64 0, .float .f64 0, .float .f64 0, .float .f64 0, .float .f64 0, .float .f64 0] 30) = V := ⟨_, rfl⟩
 have K67 := ka hV65 K51 D61
 have K68 := ka hV65 K52 D61
 have K69 := ka hV65 K53 D61
 have K70 := ka hV65 K54 D61
 have K71 := kn hV65 hg64
 have HB72 := hba hV65 HB55 D61
 have D73 := dr V63
 clear K51 K52 K53 K54 HB55 D61
 have Y74 := Lib.hid (And.intro Y36.out Y66.out)
 clear Y36 Y66
 obtain ⟨g75, hg77⟩ : ∃ g, V63.heap.size = g := ⟨_, rfl⟩
 have Y79 := Lib.hid (show w.heap.size < g75 ∧ w.heap.size + 1 < g75 ∧ g15 < g75 ∧ g25 < g75 ∧ g62 < g75 by rw [← hg77]; exact ⟨(kb K67 D73).lt, (kb K68 D73).lt, (kb K69 D73).lt, (kb K70 D73).lt, (kb K71 D73).lt⟩)
 obtain ⟨V76, hV78⟩ : ∃ V, V63.alloc (.cells #[.float .f64 0, .float .f64 0] 28) = V := ⟨_, rfl⟩
 have K80 := ka hV78 K67 D73
 have K81 := ka hV78 K68 D73
 have K82 := ka hV78 K69 D73
 have K83 := ka hV78 K70 D73
 have K84 := ka hV78 K71 D73
 have K85 := kn hV78 hg77
 have HB86 := hba hV78 HB72 D73
 have D87 := dr V76
 clear K67 K68 K69 K70 K71 HB72 D73
 have Y88 := Lib.hid (And.intro Y74.out Y79.out)
 clear Y74 Y79
 have f91 := (kb K84 D87)
 obtain ⟨V89, hV90⟩ : ∃ V, World.setRow V76 (g62) (vc p7) = V := ⟨_, rfl⟩
 have K92 := kfr hV90 K80 D87 (by have := Y88.out; omega)
 have K93 := kfr hV90 K81 D87 (by have := Y88.out; omega)
 have K94 := kfr hV90 K82 D87 (by have := Y88.out; omega)
 have K95 := kfr hV90 K83 D87 (by have := Y88.out; omega)
 have K96 := ksr hV90 K84 D87
 have K97 := kfr hV90 K85 D87 (by have := Y88.out; omega)
 have HB98 := hbr hV90 HB86 D87 (by have := Y88.out; omega)
 have D99 := dr V89
 clear K80 K81 K82 K83 K84 K85 HB86 D87
 have f102 := (kb K97 D99).cellsL 0 [.float .f64 0, .float .f64 0] rfl
 dsimp only [CellsL, al, vl, Nat.reduceAdd] at f102
 have u103 := (kb K97 D99).unfrozen
 obtain ⟨V100, hV101⟩ : ∃ V, setCells V89 (g75) 0 [.float .f64 q8_.lo, .float .f64 q8_.hi] = V := ⟨_, rfl⟩
 have hv104 := hV101
 simp only [setCells, Nat.reduceAdd] at hv104
 have K105 := kf hV101 K92 D99 (by have := Y88.out; omega)
 have K106 := kf hV101 K93 D99 (by have := Y88.out; omega)
 have K107 := kf hV101 K94 D99 (by have := Y88.out; omega)
 have K108 := kf hV101 K95 D99 (by have := Y88.out; omega)
 have K109 := kf hV101 K96 D99 (by have := Y88.out; omega)
 have K110 := Lib.hid (show Blk V100 (g75) 28 #[.float .f64 q8_.lo, .float .f64 q8_.hi] from (ks hV101 K97 D99).out)
 have HB111 := hbs hV101 HB98 D99 (by have := Y88.out; omega)
 have D112 := dr V100
 clear K92 K93 K94 K95 K96 K97 HB98 D99
 have hq113 := (kb K108 D112).cellsL 0 [.float .f64 q5_.lo] rfl
 dsimp only [CellsL, al, vl, Nat.reduceAdd] at hq113
 go_wp2_with (refine wpList_store_row rfl 30 _ _ rfl (g62) (vc p7) rfl rfl _ _ f91 (by rw [info_V3]; rfl) rfl (by kernel_rfl) ?_; rw [hV90])
 clear hg64 hV65 hg77 hV78 hV90 f91 hV101 f102 u103 hv104 hq113
 go_ret
 exact ⟨rfl, below_step HB111.out D112.out⟩
theorem bsdfStraight_z1 (n0 n1 n2 d0 d1 d2 : Nat) (hn0 : n0 < 18446744073709551616) (hn1 : n1 < 18446744073709551616) (hn2 : n2 < 18446744073709551616) (hd0 : d0 < 18446744073709551616) (hd1 : d1 < 18446744073709551616) (hd2 : d2 < 18446744073709551616) (hnn : nmB n0 n1 n2 = true) (hnd : nmB d0 d1 d2 = true) (g0 : 0 < Z (vLen (vOf n0 n1 n2)).lo) (g1 : Z (vLen (vOf d0 d1 d2)).lo ≤ 0) (w : World) : Calls Try.prog 10 #[Value.agg #[.float .f64 n0, .float .f64 n1, .float .f64 n2], Value.agg #[.float .f64 d0, .float .f64 d1, .float .f64 d2]] w fun r w' => r = .returned (.bool true) ∧ Below w.heap.size w w' := by
 have C0 := Lib.hid (awake12)
 have C1 := Lib.hid (fun w => rnumbers_any n0 n1 n2 hn0 hn1 hn2 w)
 rw [hnn] at C1
 have C2 := Lib.hid (fun w => rnumbers_any d0 d1 d2 hd0 hd1 hd2 w)
 rw [hnd] at C2
 have C3 := Lib.hid (fun w => rofV_any n0 n1 n2 hn0 hn1 hn2 w)
 obtain ⟨p3, hp3⟩ : ∃ z_, vOf n0 n1 n2 = z_ := ⟨_, rfl⟩
 rw [hp3] at C3
 have C4 := Lib.hid (fun w => runitV_any p3 w)
 obtain ⟨p4, hp4⟩ : ∃ z_, vUnit p3 = z_ := ⟨_, rfl⟩
 rw [hp4] at C4
 obtain ⟨q5_, hq5_⟩ : ∃ z_, vLen p3 = z_ := ⟨_, rfl⟩
 rw [hq5_] at C4
 have C6 := Lib.hid (fun w => rofV_any d0 d1 d2 hd0 hd1 hd2 w)
 obtain ⟨p6, hp6⟩ : ∃ z_, vOf d0 d1 d2 = z_ := ⟨_, rfl⟩
 rw [hp6] at C6
 have C7 := Lib.hid (fun w => runitV_any p6 w)
 obtain ⟨p7, hp7⟩ : ∃ z_, vUnit p6 = z_ := ⟨_, rfl⟩
 rw [hp7] at C7
 obtain ⟨q8_, hq8_⟩ : ∃ z_, vLen p6 = z_ := ⟨_, rfl⟩
 rw [hq8_] at C7
 have e9 : (FloatKind.f64.format.order q5_.lo 0 == some .lt || FloatKind.f64.format.order q5_.lo 0 == some .eq) = false := by
   have hl : ¬ Z q5_.lo ≤ 0 := by rw [← hq5_, ← hp3]; exact (by omega)
   rw [le0_gd q5_.vd.l]; exact decide_eq_false hl
 have e10 : (FloatKind.f64.format.order q8_.lo 0 == some .lt || FloatKind.f64.format.order q8_.lo 0 == some .eq) = true := by
   have hl : Z q8_.lo ≤ 0 := by rw [← hq8_, ← hp6]; exact g1
   rw [le0_gd q8_.vd.l]; exact decide_eq_true hl
 clear hp3 hp4 hq5_ hp6 hp7 hq8_
 go_enter Try.func10, Try.ntmps10
 go_wp2_with fail
 obtain ⟨W, hW, K0, K1, hB, hz⟩ := bx2 w 24 24 #[.float .f64 n0, .float .f64 n1, .float .f64 n2] #[.float .f64 d0, .float .f64 d1, .float .f64 d2]
 rw [← hW]
 have K0 := Lib.hid K0
 have K1 := Lib.hid K1
 have HB := Lib.hid hB
 clear hW hB hz
 have D1 := dr W
 refine (C0.out _).mono ?_
 rintro r w2 ⟨rfl, hb⟩
 have D3 := ds D1 hb
 clear D1
 clear hb
 have hq4 := (kb K0 D3).cellsL 0 [.float .f64 n0, .float .f64 n1, .float .f64 n2] rfl
 dsimp only [CellsL, al, vl, Nat.reduceAdd] at hq4
 go_wp2_with fail
 clear hq4
 refine (C1.out _).mono ?_
 rintro r w5 ⟨rfl, hb⟩
 have D6 := ds D3 hb
 clear D3
 clear hb
 have hq7 := (kb K1 D6).cellsL 0 [.float .f64 d0, .float .f64 d1, .float .f64 d2] rfl
 dsimp only [CellsL, al, vl, Nat.reduceAdd] at hq7
 go_wp2_with fail
 clear hq7
 refine (C2.out _).mono ?_
 rintro r w8 ⟨rfl, hb⟩
 have D9 := ds D6 hb
 clear D6
 clear hb
 have hq10 := (kb K0 D9).cellsL 0 [.float .f64 n0, .float .f64 n1, .float .f64 n2] rfl
 dsimp only [CellsL, al, vl, Nat.reduceAdd] at hq10
 go_wp2_with fail
 clear hq10
 refine (C3.out _).mono ?_
 rintro r w11 ⟨rfl, hb⟩
 have D12 := ds D9 hb
 clear D9
 clear hb
 go_wp2_with fail
 refine (C4.out _).mono ?_
 rintro r w13 ⟨rfl, hb⟩
 have D14 := ds D12 hb
 clear D12
 clear hb
 obtain ⟨g15, hg17⟩ : ∃ g, w13.heap.size = g := ⟨_, rfl⟩
 have Y19 := Lib.hid (show w.heap.size < g15 ∧ w.heap.size + 1 < g15 by rw [← hg17]; exact ⟨(kb K0 D14).lt, (kb K1 D14).lt⟩)
 obtain ⟨V16, hV18⟩ : ∃ V, w13.alloc (.cells #[.float .f64 0, .float .f64 0, .float .f64 0, .float .f64 0, .float .f64 0, .float .f64 0] 30) = V := ⟨_, rfl⟩
 have K20 := ka hV18 K0 D14
 have K21 := ka hV18 K1 D14
 have K22 := kn hV18 hg17
 have HB23 := hba hV18 HB D14
 have D24 := dr V16
 clear K0 K1 HB D14
 obtain ⟨g25, hg27⟩ : ∃ g, V16.heap.size = g := ⟨_, rfl⟩
 have Y29 := Lib.hid (show w.heap.size < g25 ∧ w.heap.size + 1 < g25 ∧ g15 < g25 by rw [← hg27]; exact ⟨(kb K20 D24).lt, (kb K21 D24).lt, (kb K22 D24).lt⟩)
 obtain ⟨V26, hV28⟩ : ∃ V, V16.alloc (.cells #[.float .f64 0, .float .f64 0] 28) = V := ⟨_, rfl⟩
 have K30 := ka hV28 K20 D24
 have K31 := ka hV28 K21 D24
 have K32 := ka hV28 K22 D24
 have K33 := kn hV28 hg27
 have HB34 := hba hV28 HB23 D24
 have D35 := dr V26
 clear K20 K21 K22 HB23 D24
 have Y36 := Lib.hid (And.intro Y19.out Y29.out)
 clear Y19 Y29
 have f39 := (kb K32 D35)
 obtain ⟨V37, hV38⟩ : ∃ V, World.setRow V26 (g15) (vc p4) = V := ⟨_, rfl⟩
 have K40 := kfr hV38 K30 D35 (by have := Y36.out; omega)
 have K41 := kfr hV38 K31 D35 (by have := Y36.out; omega)
 have K42 := ksr hV38 K32 D35
 have K43 := kfr hV38 K33 D35 (by have := Y36.out; omega)
 have HB44 := hbr hV38 HB34 D35 (by have := Y36.out; omega)
 have D45 := dr V37
 clear K30 K31 K32 K33 HB34 D35
 have f48 := (kb K43 D45).cellsL 0 [.float .f64 0, .float .f64 0] rfl
 dsimp only [CellsL, al, vl, Nat.reduceAdd] at f48
 have u49 := (kb K43 D45).unfrozen
 obtain ⟨V46, hV47⟩ : ∃ V, setCells V37 (g25) 0 [.float .f64 q5_.lo, .float .f64 q5_.hi] = V := ⟨_, rfl⟩
 have hv50 := hV47
 simp only [setCells, Nat.reduceAdd] at hv50
 have K51 := kf hV47 K40 D45 (by have := Y36.out; omega)
 have K52 := kf hV47 K41 D45 (by have := Y36.out; omega)
 have K53 := kf hV47 K42 D45 (by have := Y36.out; omega)
 have K54 := Lib.hid (show Blk V46 (g25) 28 #[.float .f64 q5_.lo, .float .f64 q5_.hi] from (ks hV47 K43 D45).out)
 have HB55 := hbs hV47 HB44 D45 (by have := Y36.out; omega)
 have D56 := dr V46
 clear K40 K41 K42 K43 HB44 D45
 have hq57 := (kb K52 D56).cellsL 0 [.float .f64 d0, .float .f64 d1, .float .f64 d2] rfl
 dsimp only [CellsL, al, vl, Nat.reduceAdd] at hq57
 go_wp2_with (refine wpList_store_row rfl 30 _ _ rfl (g15) (vc p4) rfl rfl _ _ f39 (by rw [info_V3]; rfl) rfl (by kernel_rfl) ?_; rw [hV38])
 clear hg17 hV18 hg27 hV28 hV38 f39 hV47 f48 u49 hv50 hq57
 refine (C6.out _).mono ?_
 rintro r w58 ⟨rfl, hb⟩
 have D59 := ds D56 hb
 clear D56
 clear hb
 go_wp2_with fail
 refine (C7.out _).mono ?_
 rintro r w60 ⟨rfl, hb⟩
 have D61 := ds D59 hb
 clear D59
 clear hb
 obtain ⟨g62, hg64⟩ : ∃ g, w60.heap.size = g := ⟨_, rfl⟩
 have Y66 := Lib.hid (show w.heap.size < g62 ∧ w.heap.size + 1 < g62 ∧ g15 < g62 ∧ g25 < g62 by rw [← hg64]; exact ⟨(kb K51 D61).lt, (kb K52 D61).lt, (kb K53 D61).lt, (kb K54 D61).lt⟩)
 obtain ⟨V63, hV65⟩ : ∃ V, w60.alloc (.cells #[.float .f64 0, .float .f64 0, .float .f64 0, .float .f64 0, .float .f64 0, .float .f64 0] 30) = V := ⟨_, rfl⟩
 have K67 := ka hV65 K51 D61
 have K68 := ka hV65 K52 D61
 have K69 := ka hV65 K53 D61
 have K70 := ka hV65 K54 D61
 have K71 := kn hV65 hg64
 have HB72 := hba hV65 HB55 D61
 have D73 := dr V63
 clear K51 K52 K53 K54 HB55 D61
 have Y74 := Lib.hid (And.intro Y36.out Y66.out)
 clear Y36 Y66
 obtain ⟨g75, hg77⟩ : ∃ g, V63.heap.size = g := ⟨_, rfl⟩
 have Y79 := Lib.hid (show w.heap.size < g75 ∧ w.heap.size + 1 < g75 ∧ g15 < g75 ∧ g25 < g75 ∧ g62 < g75 by rw [← hg77]; exact ⟨(kb K67 D73).lt, (kb K68 D73).lt, (kb K69 D73).lt, (kb K70 D73).lt, (kb K71 D73).lt⟩)
 obtain ⟨V76, hV78⟩ : ∃ V, V63.alloc (.cells #[.float .f64 0, .float .f64 0] 28) = V := ⟨_, rfl⟩
 have K80 := ka hV78 K67 D73
 have K81 := ka hV78 K68 D73
 have K82 := ka hV78 K69 D73
 have K83 := ka hV78 K70 D73
 have K84 := ka hV78 K71 D73
 have K85 := kn hV78 hg77
 have HB86 := hba hV78 HB72 D73
 have D87 := dr V76
 clear K67 K68 K69 K70 K71 HB72 D73
 have Y88 := Lib.hid (And.intro Y74.out Y79.out)
 clear Y74 Y79
 have f91 := (kb K84 D87)
 obtain ⟨V89, hV90⟩ : ∃ V, World.setRow V76 (g62) (vc p7) = V := ⟨_, rfl⟩
 have K92 := kfr hV90 K80 D87 (by have := Y88.out; omega)
 have K93 := kfr hV90 K81 D87 (by have := Y88.out; omega)
 have K94 := kfr hV90 K82 D87 (by have := Y88.out; omega)
 have K95 := kfr hV90 K83 D87 (by have := Y88.out; omega)
 have K96 := ksr hV90 K84 D87
 have K97 := kfr hV90 K85 D87 (by have := Y88.out; omega)
 have HB98 := hbr hV90 HB86 D87 (by have := Y88.out; omega)
 have D99 := dr V89
 clear K80 K81 K82 K83 K84 K85 HB86 D87
 have f102 := (kb K97 D99).cellsL 0 [.float .f64 0, .float .f64 0] rfl
 dsimp only [CellsL, al, vl, Nat.reduceAdd] at f102
 have u103 := (kb K97 D99).unfrozen
 obtain ⟨V100, hV101⟩ : ∃ V, setCells V89 (g75) 0 [.float .f64 q8_.lo, .float .f64 q8_.hi] = V := ⟨_, rfl⟩
 have hv104 := hV101
 simp only [setCells, Nat.reduceAdd] at hv104
 have K105 := kf hV101 K92 D99 (by have := Y88.out; omega)
 have K106 := kf hV101 K93 D99 (by have := Y88.out; omega)
 have K107 := kf hV101 K94 D99 (by have := Y88.out; omega)
 have K108 := kf hV101 K95 D99 (by have := Y88.out; omega)
 have K109 := kf hV101 K96 D99 (by have := Y88.out; omega)
 have K110 := Lib.hid (show Blk V100 (g75) 28 #[.float .f64 q8_.lo, .float .f64 q8_.hi] from (ks hV101 K97 D99).out)
 have HB111 := hbs hV101 HB98 D99 (by have := Y88.out; omega)
 have D112 := dr V100
 clear K92 K93 K94 K95 K96 K97 HB98 D99
 have hq113 := (kb K108 D112).cellsL 0 [.float .f64 q5_.lo] rfl
 dsimp only [CellsL, al, vl, Nat.reduceAdd] at hq113
 have hq114 := (kb K110 D112).cellsL 0 [.float .f64 q8_.lo] rfl
 dsimp only [CellsL, al, vl, Nat.reduceAdd] at hq114
 go_wp2_with (refine wpList_store_row rfl 30 _ _ rfl (g62) (vc p7) rfl rfl _ _ f91 (by rw [info_V3]; rfl) rfl (by kernel_rfl) ?_; rw [hV90])
 clear hg64 hV65 hg77 hV78 hV90 f91 hV101 f102 u103 hv104 hq113 hq114
 go_ret
 exact ⟨rfl, below_step HB111.out D112.out⟩
theorem bsdfStraight_u0 (n0 n1 n2 d0 d1 d2 : Nat) (hn0 : n0 < 18446744073709551616) (hn1 : n1 < 18446744073709551616) (hn2 : n2 < 18446744073709551616) (hd0 : d0 < 18446744073709551616) (hd1 : d1 < 18446744073709551616) (hd2 : d2 < 18446744073709551616) (hnn : nmB n0 n1 n2 = true) (hnd : nmB d0 d1 d2 = true) (g0 : 0 < Z (vLen (vOf n0 n1 n2)).lo) (g1 : 0 < Z (vLen (vOf d0 d1 d2)).lo) (f : V3) (c : Sp) (HF : ∀ w, Calls Try.prog 52 #[vval (vUnit (vOf n0 n1 n2)), vval (vUnit (vOf d0 d1 d2))] w fun r w' => r = .returned (.tuple #[vval f, .agg #[.float .f64 (c).lo, .float .f64 (c).hi], .int .i64 2]) ∧ Below w.heap.size w w') (HB : ∀ w, Calls Try.prog 57 #[vval f, vval (vUnit (vOf d0 d1 d2)), .agg #[.float .f64 (ofS 4607182418800017408).lo, .float .f64 (ofS 4607182418800017408).hi]] w fun r w' => r = .returned (.tuple #[.agg #[.float .f64 0, .float .f64 0, .float .f64 0, .float .f64 0, .float .f64 0, .float .f64 0], .agg #[.float .f64 0, .float .f64 0], .int .i64 0]) ∧ Below w.heap.size w w') (w : World) : Calls Try.prog 10 #[Value.agg #[.float .f64 n0, .float .f64 n1, .float .f64 n2], Value.agg #[.float .f64 d0, .float .f64 d1, .float .f64 d2]] w fun r w' => r = .returned (.bool true) ∧ Below w.heap.size w w' := by
 have C0 := Lib.hid (awake12)
 have C1 := Lib.hid (fun w => rnumbers_any n0 n1 n2 hn0 hn1 hn2 w)
 rw [hnn] at C1
 have C2 := Lib.hid (fun w => rnumbers_any d0 d1 d2 hd0 hd1 hd2 w)
 rw [hnd] at C2
 have C3 := Lib.hid (fun w => rofV_any n0 n1 n2 hn0 hn1 hn2 w)
 obtain ⟨p3, hp3⟩ : ∃ z_, vOf n0 n1 n2 = z_ := ⟨_, rfl⟩
 rw [hp3] at C3
 have C4 := Lib.hid (fun w => runitV_any p3 w)
 obtain ⟨p4, hp4⟩ : ∃ z_, vUnit p3 = z_ := ⟨_, rfl⟩
 rw [hp4] at C4
 obtain ⟨q5_, hq5_⟩ : ∃ z_, vLen p3 = z_ := ⟨_, rfl⟩
 rw [hq5_] at C4
 have C6 := Lib.hid (fun w => rofV_any d0 d1 d2 hd0 hd1 hd2 w)
 obtain ⟨p6, hp6⟩ : ∃ z_, vOf d0 d1 d2 = z_ := ⟨_, rfl⟩
 rw [hp6] at C6
 have C7 := Lib.hid (fun w => runitV_any p6 w)
 obtain ⟨p7, hp7⟩ : ∃ z_, vUnit p6 = z_ := ⟨_, rfl⟩
 rw [hp7] at C7
 obtain ⟨q8_, hq8_⟩ : ∃ z_, vLen p6 = z_ := ⟨_, rfl⟩
 rw [hq8_] at C7
 have e9 : (FloatKind.f64.format.order q5_.lo 0 == some .lt || FloatKind.f64.format.order q5_.lo 0 == some .eq) = false := by
   have hl : ¬ Z q5_.lo ≤ 0 := by rw [← hq5_, ← hp3]; exact (by omega)
   rw [le0_gd q5_.vd.l]; exact decide_eq_false hl
 have e10 : (FloatKind.f64.format.order q8_.lo 0 == some .lt || FloatKind.f64.format.order q8_.lo 0 == some .eq) = false := by
   have hl : ¬ Z q8_.lo ≤ 0 := by rw [← hq8_, ← hp6]; exact (by omega)
   rw [le0_gd q8_.vd.l]; exact decide_eq_false hl
 have C11 := Lib.hid (fun w => rof_sp 4607182418800017408 (by decide) w)
 obtain ⟨p11, hp11⟩ : ∃ z_, ofS 4607182418800017408 = z_ := ⟨_, rfl⟩
 rw [hp11] at C11
 have C12 := Lib.hid (fun w => HF w)
 simp only [hp3, hp4, hq5_, hp6, hp7, hq8_, hp11] at C12
 have C13 := Lib.hid (fun w => HB w)
 simp only [hp3, hp4, hq5_, hp6, hp7, hq8_, hp11] at C13
 clear hp3 hp4 hq5_ hp6 hp7 hq8_ hp11
 go_enter Try.func10, Try.ntmps10
 go_wp2_with fail
 obtain ⟨W, hW, K0, K1, hB, hz⟩ := bx2 w 24 24 #[.float .f64 n0, .float .f64 n1, .float .f64 n2] #[.float .f64 d0, .float .f64 d1, .float .f64 d2]
 rw [← hW]
 have K0 := Lib.hid K0
 have K1 := Lib.hid K1
 have HB := Lib.hid hB
 clear hW hB hz
 have D1 := dr W
 refine (C0.out _).mono ?_
 rintro r w2 ⟨rfl, hb⟩
 have D3 := ds D1 hb
 clear D1
 clear hb
 have hq4 := (kb K0 D3).cellsL 0 [.float .f64 n0, .float .f64 n1, .float .f64 n2] rfl
 dsimp only [CellsL, al, vl, Nat.reduceAdd] at hq4
 go_wp2_with fail
 clear hq4
 refine (C1.out _).mono ?_
 rintro r w5 ⟨rfl, hb⟩
 have D6 := ds D3 hb
 clear D3
 clear hb
 have hq7 := (kb K1 D6).cellsL 0 [.float .f64 d0, .float .f64 d1, .float .f64 d2] rfl
 dsimp only [CellsL, al, vl, Nat.reduceAdd] at hq7
 go_wp2_with fail
 clear hq7
 refine (C2.out _).mono ?_
 rintro r w8 ⟨rfl, hb⟩
 have D9 := ds D6 hb
 clear D6
 clear hb
 have hq10 := (kb K0 D9).cellsL 0 [.float .f64 n0, .float .f64 n1, .float .f64 n2] rfl
 dsimp only [CellsL, al, vl, Nat.reduceAdd] at hq10
 go_wp2_with fail
 clear hq10
 refine (C3.out _).mono ?_
 rintro r w11 ⟨rfl, hb⟩
 have D12 := ds D9 hb
 clear D9
 clear hb
 go_wp2_with fail
 refine (C4.out _).mono ?_
 rintro r w13 ⟨rfl, hb⟩
 have D14 := ds D12 hb
 clear D12
 clear hb
 obtain ⟨g15, hg17⟩ : ∃ g, w13.heap.size = g := ⟨_, rfl⟩
 have Y19 := Lib.hid (show w.heap.size < g15 ∧ w.heap.size + 1 < g15 by rw [← hg17]; exact ⟨(kb K0 D14).lt, (kb K1 D14).lt⟩)
 obtain ⟨V16, hV18⟩ : ∃ V, w13.alloc (.cells #[.float .f64 0, .float .f64 0, .float .f64 0, .float .f64 0, .float .f64 0, .float .f64 0] 30) = V := ⟨_, rfl⟩
 have K20 := ka hV18 K0 D14
 have K21 := ka hV18 K1 D14
 have K22 := kn hV18 hg17
 have HB23 := hba hV18 HB D14
 have D24 := dr V16
 clear K0 K1 HB D14
 obtain ⟨g25, hg27⟩ : ∃ g, V16.heap.size = g := ⟨_, rfl⟩
 have Y29 := Lib.hid (show w.heap.size < g25 ∧ w.heap.size + 1 < g25 ∧ g15 < g25 by rw [← hg27]; exact ⟨(kb K20 D24).lt, (kb K21 D24).lt, (kb K22 D24).lt⟩)
 obtain ⟨V26, hV28⟩ : ∃ V, V16.alloc (.cells #[.float .f64 0, .float .f64 0] 28) = V := ⟨_, rfl⟩
 have K30 := ka hV28 K20 D24
 have K31 := ka hV28 K21 D24
 have K32 := ka hV28 K22 D24
 have K33 := kn hV28 hg27
 have HB34 := hba hV28 HB23 D24
 have D35 := dr V26
 clear K20 K21 K22 HB23 D24
 have Y36 := Lib.hid (And.intro Y19.out Y29.out)
 clear Y19 Y29
 have f39 := (kb K32 D35)
 obtain ⟨V37, hV38⟩ : ∃ V, World.setRow V26 (g15) (vc p4) = V := ⟨_, rfl⟩
 have K40 := kfr hV38 K30 D35 (by have := Y36.out; omega)
 have K41 := kfr hV38 K31 D35 (by have := Y36.out; omega)
 have K42 := ksr hV38 K32 D35
 have K43 := kfr hV38 K33 D35 (by have := Y36.out; omega)
 have HB44 := hbr hV38 HB34 D35 (by have := Y36.out; omega)
 have D45 := dr V37
 clear K30 K31 K32 K33 HB34 D35
 have f48 := (kb K43 D45).cellsL 0 [.float .f64 0, .float .f64 0] rfl
 dsimp only [CellsL, al, vl, Nat.reduceAdd] at f48
 have u49 := (kb K43 D45).unfrozen
 obtain ⟨V46, hV47⟩ : ∃ V, setCells V37 (g25) 0 [.float .f64 q5_.lo, .float .f64 q5_.hi] = V := ⟨_, rfl⟩
 have hv50 := hV47
 simp only [setCells, Nat.reduceAdd] at hv50
 have K51 := kf hV47 K40 D45 (by have := Y36.out; omega)
 have K52 := kf hV47 K41 D45 (by have := Y36.out; omega)
 have K53 := kf hV47 K42 D45 (by have := Y36.out; omega)
 have K54 := Lib.hid (show Blk V46 (g25) 28 #[.float .f64 q5_.lo, .float .f64 q5_.hi] from (ks hV47 K43 D45).out)
 have HB55 := hbs hV47 HB44 D45 (by have := Y36.out; omega)
 have D56 := dr V46
 clear K40 K41 K42 K43 HB44 D45
 have hq57 := (kb K52 D56).cellsL 0 [.float .f64 d0, .float .f64 d1, .float .f64 d2] rfl
 dsimp only [CellsL, al, vl, Nat.reduceAdd] at hq57
 go_wp2_with (refine wpList_store_row rfl 30 _ _ rfl (g15) (vc p4) rfl rfl _ _ f39 (by rw [info_V3]; rfl) rfl (by kernel_rfl) ?_; rw [hV38])
 clear hg17 hV18 hg27 hV28 hV38 f39 hV47 f48 u49 hv50 hq57
 refine (C6.out _).mono ?_
 rintro r w58 ⟨rfl, hb⟩
 have D59 := ds D56 hb
 clear D56
 clear hb
 go_wp2_with fail
 refine (C7.out _).mono ?_
 rintro r w60 ⟨rfl, hb⟩
 have D61 := ds D59 hb
 clear D59
 clear hb
 obtain ⟨g62, hg64⟩ : ∃ g, w60.heap.size = g := ⟨_, rfl⟩
 have Y66 := Lib.hid (show w.heap.size < g62 ∧ w.heap.size + 1 < g62 ∧ g15 < g62 ∧ g25 < g62 by rw [← hg64]; exact ⟨(kb K51 D61).lt, (kb K52 D61).lt, (kb K53 D61).lt, (kb K54 D61).lt⟩)
 obtain ⟨V63, hV65⟩ : ∃ V, w60.alloc (.cells #[.float .f64 0, .float .f64 0, .float .f64 0, .float .f64 0, .float .f64 0, .float .f64 0] 30) = V := ⟨_, rfl⟩
 have K67 := ka hV65 K51 D61
 have K68 := ka hV65 K52 D61
 have K69 := ka hV65 K53 D61
 have K70 := ka hV65 K54 D61
 have K71 := kn hV65 hg64
 have HB72 := hba hV65 HB55 D61
 have D73 := dr V63
 clear K51 K52 K53 K54 HB55 D61
 have Y74 := Lib.hid (And.intro Y36.out Y66.out)
 clear Y36 Y66
 obtain ⟨g75, hg77⟩ : ∃ g, V63.heap.size = g := ⟨_, rfl⟩
 have Y79 := Lib.hid (show w.heap.size < g75 ∧ w.heap.size + 1 < g75 ∧ g15 < g75 ∧ g25 < g75 ∧ g62 < g75 by rw [← hg77]; exact ⟨(kb K67 D73).lt, (kb K68 D73).lt, (kb K69 D73).lt, (kb K70 D73).lt, (kb K71 D73).lt⟩)
 obtain ⟨V76, hV78⟩ : ∃ V, V63.alloc (.cells #[.float .f64 0, .float .f64 0] 28) = V := ⟨_, rfl⟩
 have K80 := ka hV78 K67 D73
 have K81 := ka hV78 K68 D73
 have K82 := ka hV78 K69 D73
 have K83 := ka hV78 K70 D73
 have K84 := ka hV78 K71 D73
 have K85 := kn hV78 hg77
 have HB86 := hba hV78 HB72 D73
 have D87 := dr V76
 clear K67 K68 K69 K70 K71 HB72 D73
 have Y88 := Lib.hid (And.intro Y74.out Y79.out)
 clear Y74 Y79
 have f91 := (kb K84 D87)
 obtain ⟨V89, hV90⟩ : ∃ V, World.setRow V76 (g62) (vc p7) = V := ⟨_, rfl⟩
 have K92 := kfr hV90 K80 D87 (by have := Y88.out; omega)
 have K93 := kfr hV90 K81 D87 (by have := Y88.out; omega)
 have K94 := kfr hV90 K82 D87 (by have := Y88.out; omega)
 have K95 := kfr hV90 K83 D87 (by have := Y88.out; omega)
 have K96 := ksr hV90 K84 D87
 have K97 := kfr hV90 K85 D87 (by have := Y88.out; omega)
 have HB98 := hbr hV90 HB86 D87 (by have := Y88.out; omega)
 have D99 := dr V89
 clear K80 K81 K82 K83 K84 K85 HB86 D87
 have f102 := (kb K97 D99).cellsL 0 [.float .f64 0, .float .f64 0] rfl
 dsimp only [CellsL, al, vl, Nat.reduceAdd] at f102
 have u103 := (kb K97 D99).unfrozen
 obtain ⟨V100, hV101⟩ : ∃ V, setCells V89 (g75) 0 [.float .f64 q8_.lo, .float .f64 q8_.hi] = V := ⟨_, rfl⟩
 have hv104 := hV101
 simp only [setCells, Nat.reduceAdd] at hv104
 have K105 := kf hV101 K92 D99 (by have := Y88.out; omega)
 have K106 := kf hV101 K93 D99 (by have := Y88.out; omega)
 have K107 := kf hV101 K94 D99 (by have := Y88.out; omega)
 have K108 := kf hV101 K95 D99 (by have := Y88.out; omega)
 have K109 := kf hV101 K96 D99 (by have := Y88.out; omega)
 have K110 := Lib.hid (show Blk V100 (g75) 28 #[.float .f64 q8_.lo, .float .f64 q8_.hi] from (ks hV101 K97 D99).out)
 have HB111 := hbs hV101 HB98 D99 (by have := Y88.out; omega)
 have D112 := dr V100
 clear K92 K93 K94 K95 K96 K97 HB98 D99
 have hq113 := (kb K108 D112).cellsL 0 [.float .f64 q5_.lo] rfl
 dsimp only [CellsL, al, vl, Nat.reduceAdd] at hq113
 have hq114 := (kb K110 D112).cellsL 0 [.float .f64 q8_.lo] rfl
 dsimp only [CellsL, al, vl, Nat.reduceAdd] at hq114
 go_wp2_with (refine wpList_store_row rfl 30 _ _ rfl (g62) (vc p7) rfl rfl _ _ f91 (by rw [info_V3]; rfl) rfl (by kernel_rfl) ?_; rw [hV90])
 clear hg64 hV65 hg77 hV78 hV90 f91 hV101 f102 u103 hv104 hq113 hq114
 refine (C11.out _).mono ?_
 rintro r w115 ⟨rfl, hb⟩
 have D116 := ds D112 hb
 clear D112
 clear hb
 obtain ⟨g117, hg119⟩ : ∃ g, w115.heap.size = g := ⟨_, rfl⟩
 have Y121 := Lib.hid (show w.heap.size < g117 ∧ w.heap.size + 1 < g117 ∧ g15 < g117 ∧ g25 < g117 ∧ g62 < g117 ∧ g75 < g117 by rw [← hg119]; exact ⟨(kb K105 D116).lt, (kb K106 D116).lt, (kb K107 D116).lt, (kb K108 D116).lt, (kb K109 D116).lt, (kb K110 D116).lt⟩)
 obtain ⟨V118, hV120⟩ : ∃ V, w115.alloc (.cells #[.float .f64 0, .float .f64 0] 28) = V := ⟨_, rfl⟩
 have K122 := ka hV120 K105 D116
 have K123 := ka hV120 K106 D116
 have K124 := ka hV120 K107 D116
 have K125 := ka hV120 K108 D116
 have K126 := ka hV120 K109 D116
 have K127 := ka hV120 K110 D116
 have K128 := kn hV120 hg119
 have HB129 := hba hV120 HB111 D116
 have D130 := dr V118
 clear K105 K106 K107 K108 K109 K110 HB111 D116
 have Y131 := Lib.hid (And.intro Y88.out Y121.out)
 clear Y88 Y121
 have f134 := (kb K128 D130).cellsL 0 [.float .f64 0, .float .f64 0] rfl
 dsimp only [CellsL, al, vl, Nat.reduceAdd] at f134
 have u135 := (kb K128 D130).unfrozen
 obtain ⟨V132, hV133⟩ : ∃ V, setCells V118 (g117) 0 [.float .f64 p11.lo, .float .f64 p11.hi] = V := ⟨_, rfl⟩
 have hv136 := hV133
 simp only [setCells, Nat.reduceAdd] at hv136
 have K137 := kf hV133 K122 D130 (by have := Y131.out; omega)
 have K138 := kf hV133 K123 D130 (by have := Y131.out; omega)
 have K139 := kf hV133 K124 D130 (by have := Y131.out; omega)
 have K140 := kf hV133 K125 D130 (by have := Y131.out; omega)
 have K141 := kf hV133 K126 D130 (by have := Y131.out; omega)
 have K142 := kf hV133 K127 D130 (by have := Y131.out; omega)
 have K143 := Lib.hid (show Blk V132 (g117) 28 #[.float .f64 p11.lo, .float .f64 p11.hi] from (ks hV133 K128 D130).out)
 have HB144 := hbs hV133 HB129 D130 (by have := Y131.out; omega)
 have D145 := dr V132
 clear K122 K123 K124 K125 K126 K127 K128 HB129 D130
 have f146 := (kb K139 D145)
 have f147 := (kb K141 D145)
 go_wp2_with (first | (refine wl_load (by kernel_rfl) rfl rfl f146 (by rw [info_V3]; rfl) Try.underlying30 rfl ?_) | (refine wl_load (by kernel_rfl) rfl rfl f147 (by rw [info_V3]; rfl) Try.underlying30 rfl ?_))
 clear hg119 hV120 hV133 f134 u135 hv136 f146 f147
 refine (C12.out _).mono ?_
 rintro r w148 ⟨rfl, hb⟩
 have D149 := ds D145 hb
 clear D145
 clear hb
 obtain ⟨g150, hg152⟩ : ∃ g, w148.heap.size = g := ⟨_, rfl⟩
 have Y154 := Lib.hid (show w.heap.size < g150 ∧ w.heap.size + 1 < g150 ∧ g15 < g150 ∧ g25 < g150 ∧ g62 < g150 ∧ g75 < g150 ∧ g117 < g150 by rw [← hg152]; exact ⟨(kb K137 D149).lt, (kb K138 D149).lt, (kb K139 D149).lt, (kb K140 D149).lt, (kb K141 D149).lt, (kb K142 D149).lt, (kb K143 D149).lt⟩)
 obtain ⟨V151, hV153⟩ : ∃ V, w148.alloc (.cells #[.float .f64 0, .float .f64 0, .float .f64 0, .float .f64 0, .float .f64 0, .float .f64 0] 30) = V := ⟨_, rfl⟩
 have K155 := ka hV153 K137 D149
 have K156 := ka hV153 K138 D149
 have K157 := ka hV153 K139 D149
 have K158 := ka hV153 K140 D149
 have K159 := ka hV153 K141 D149
 have K160 := ka hV153 K142 D149
 have K161 := ka hV153 K143 D149
 have K162 := kn hV153 hg152
 have HB163 := hba hV153 HB144 D149
 have D164 := dr V151
 clear K137 K138 K139 K140 K141 K142 K143 HB144 D149
 have Y165 := Lib.hid (And.intro Y131.out Y154.out)
 clear Y131 Y154
 obtain ⟨g166, hg168⟩ : ∃ g, V151.heap.size = g := ⟨_, rfl⟩
 have Y170 := Lib.hid (show w.heap.size < g166 ∧ w.heap.size + 1 < g166 ∧ g15 < g166 ∧ g25 < g166 ∧ g62 < g166 ∧ g75 < g166 ∧ g117 < g166 ∧ g150 < g166 by rw [← hg168]; exact ⟨(kb K155 D164).lt, (kb K156 D164).lt, (kb K157 D164).lt, (kb K158 D164).lt, (kb K159 D164).lt, (kb K160 D164).lt, (kb K161 D164).lt, (kb K162 D164).lt⟩)
 obtain ⟨V167, hV169⟩ : ∃ V, V151.alloc (.cells #[.float .f64 0, .float .f64 0] 28) = V := ⟨_, rfl⟩
 have K171 := ka hV169 K155 D164
 have K172 := ka hV169 K156 D164
 have K173 := ka hV169 K157 D164
 have K174 := ka hV169 K158 D164
 have K175 := ka hV169 K159 D164
 have K176 := ka hV169 K160 D164
 have K177 := ka hV169 K161 D164
 have K178 := ka hV169 K162 D164
 have K179 := kn hV169 hg168
 have HB180 := hba hV169 HB163 D164
 have D181 := dr V167
 clear K155 K156 K157 K158 K159 K160 K161 K162 HB163 D164
 have Y182 := Lib.hid (And.intro Y165.out Y170.out)
 clear Y165 Y170
 have f185 := (kb K178 D181)
 obtain ⟨V183, hV184⟩ : ∃ V, World.setRow V167 (g150) (vc f) = V := ⟨_, rfl⟩
 have K186 := kfr hV184 K171 D181 (by have := Y182.out; omega)
 have K187 := kfr hV184 K172 D181 (by have := Y182.out; omega)
 have K188 := kfr hV184 K173 D181 (by have := Y182.out; omega)
 have K189 := kfr hV184 K174 D181 (by have := Y182.out; omega)
 have K190 := kfr hV184 K175 D181 (by have := Y182.out; omega)
 have K191 := kfr hV184 K176 D181 (by have := Y182.out; omega)
 have K192 := kfr hV184 K177 D181 (by have := Y182.out; omega)
 have K193 := ksr hV184 K178 D181
 have K194 := kfr hV184 K179 D181 (by have := Y182.out; omega)
 have HB195 := hbr hV184 HB180 D181 (by have := Y182.out; omega)
 have D196 := dr V183
 clear K171 K172 K173 K174 K175 K176 K177 K178 K179 HB180 D181
 have f199 := (kb K194 D196).cellsL 0 [.float .f64 0, .float .f64 0] rfl
 dsimp only [CellsL, al, vl, Nat.reduceAdd] at f199
 have u200 := (kb K194 D196).unfrozen
 obtain ⟨V197, hV198⟩ : ∃ V, setCells V183 (g166) 0 [.float .f64 c.lo, .float .f64 c.hi] = V := ⟨_, rfl⟩
 have hv201 := hV198
 simp only [setCells, Nat.reduceAdd] at hv201
 have K202 := kf hV198 K186 D196 (by have := Y182.out; omega)
 have K203 := kf hV198 K187 D196 (by have := Y182.out; omega)
 have K204 := kf hV198 K188 D196 (by have := Y182.out; omega)
 have K205 := kf hV198 K189 D196 (by have := Y182.out; omega)
 have K206 := kf hV198 K190 D196 (by have := Y182.out; omega)
 have K207 := kf hV198 K191 D196 (by have := Y182.out; omega)
 have K208 := kf hV198 K192 D196 (by have := Y182.out; omega)
 have K209 := kf hV198 K193 D196 (by have := Y182.out; omega)
 have K210 := Lib.hid (show Blk V197 (g166) 28 #[.float .f64 c.lo, .float .f64 c.hi] from (ks hV198 K194 D196).out)
 have HB211 := hbs hV198 HB195 D196 (by have := Y182.out; omega)
 have D212 := dr V197
 clear K186 K187 K188 K189 K190 K191 K192 K193 K194 HB195 D196
 have f213 := (kb K206 D212)
 have f214 := (kb K209 D212)
 have hq215 := (kb K208 D212).cellsL 0 [.float .f64 p11.lo, .float .f64 p11.hi] rfl
 dsimp only [CellsL, al, vl, Nat.reduceAdd] at hq215
 go_wp2_with (first | (refine wpList_store_row rfl 30 _ _ rfl (g150) (vc f) rfl rfl _ _ f185 (by rw [info_V3]; rfl) rfl (by kernel_rfl) ?_; rw [hV184]) | (refine wl_load (by kernel_rfl) rfl rfl f213 (by rw [info_V3]; rfl) Try.underlying30 rfl ?_) | (refine wl_load (by kernel_rfl) rfl rfl f214 (by rw [info_V3]; rfl) Try.underlying30 rfl ?_))
 clear hg152 hV153 hg168 hV169 hV184 f185 hV198 f199 u200 hv201 f213 f214 hq215
 refine (C13.out _).mono ?_
 rintro r w216 ⟨rfl, hb⟩
 have D217 := ds D212 hb
 clear D212
 clear hb
 obtain ⟨g218, hg220⟩ : ∃ g, w216.heap.size = g := ⟨_, rfl⟩
 have Y222 := Lib.hid (show w.heap.size < g218 ∧ w.heap.size + 1 < g218 ∧ g15 < g218 ∧ g25 < g218 ∧ g62 < g218 ∧ g75 < g218 ∧ g117 < g218 ∧ g150 < g218 ∧ g166 < g218 by rw [← hg220]; exact ⟨(kb K202 D217).lt, (kb K203 D217).lt, (kb K204 D217).lt, (kb K205 D217).lt, (kb K206 D217).lt, (kb K207 D217).lt, (kb K208 D217).lt, (kb K209 D217).lt, (kb K210 D217).lt⟩)
 obtain ⟨V219, hV221⟩ : ∃ V, w216.alloc (.cells #[.float .f64 0, .float .f64 0, .float .f64 0, .float .f64 0, .float .f64 0, .float .f64 0] 30) = V := ⟨_, rfl⟩
 have K223 := ka hV221 K202 D217
 have K224 := ka hV221 K203 D217
 have K225 := ka hV221 K204 D217
 have K226 := ka hV221 K205 D217
 have K227 := ka hV221 K206 D217
 have K228 := ka hV221 K207 D217
 have K229 := ka hV221 K208 D217
 have K230 := ka hV221 K209 D217
 have K231 := ka hV221 K210 D217
 have K232 := kn hV221 hg220
 have HB233 := hba hV221 HB211 D217
 have D234 := dr V219
 clear K202 K203 K204 K205 K206 K207 K208 K209 K210 HB211 D217
 have Y235 := Lib.hid (And.intro Y182.out Y222.out)
 clear Y182 Y222
 obtain ⟨g236, hg238⟩ : ∃ g, V219.heap.size = g := ⟨_, rfl⟩
 have Y240 := Lib.hid (show w.heap.size < g236 ∧ w.heap.size + 1 < g236 ∧ g15 < g236 ∧ g25 < g236 ∧ g62 < g236 ∧ g75 < g236 ∧ g117 < g236 ∧ g150 < g236 ∧ g166 < g236 ∧ g218 < g236 by rw [← hg238]; exact ⟨(kb K223 D234).lt, (kb K224 D234).lt, (kb K225 D234).lt, (kb K226 D234).lt, (kb K227 D234).lt, (kb K228 D234).lt, (kb K229 D234).lt, (kb K230 D234).lt, (kb K231 D234).lt, (kb K232 D234).lt⟩)
 obtain ⟨V237, hV239⟩ : ∃ V, V219.alloc (.cells #[.float .f64 0, .float .f64 0] 28) = V := ⟨_, rfl⟩
 have K241 := ka hV239 K223 D234
 have K242 := ka hV239 K224 D234
 have K243 := ka hV239 K225 D234
 have K244 := ka hV239 K226 D234
 have K245 := ka hV239 K227 D234
 have K246 := ka hV239 K228 D234
 have K247 := ka hV239 K229 D234
 have K248 := ka hV239 K230 D234
 have K249 := ka hV239 K231 D234
 have K250 := ka hV239 K232 D234
 have K251 := kn hV239 hg238
 have HB252 := hba hV239 HB233 D234
 have D253 := dr V237
 clear K223 K224 K225 K226 K227 K228 K229 K230 K231 K232 HB233 D234
 have Y254 := Lib.hid (And.intro Y235.out Y240.out)
 clear Y235 Y240
 have f257 := (kb K250 D253)
 obtain ⟨V255, hV256⟩ : ∃ V, World.setRow V237 (g218) #[.float .f64 0, .float .f64 0, .float .f64 0, .float .f64 0, .float .f64 0, .float .f64 0] = V := ⟨_, rfl⟩
 have K258 := kfr hV256 K241 D253 (by have := Y254.out; omega)
 have K259 := kfr hV256 K242 D253 (by have := Y254.out; omega)
 have K260 := kfr hV256 K243 D253 (by have := Y254.out; omega)
 have K261 := kfr hV256 K244 D253 (by have := Y254.out; omega)
 have K262 := kfr hV256 K245 D253 (by have := Y254.out; omega)
 have K263 := kfr hV256 K246 D253 (by have := Y254.out; omega)
 have K264 := kfr hV256 K247 D253 (by have := Y254.out; omega)
 have K265 := kfr hV256 K248 D253 (by have := Y254.out; omega)
 have K266 := kfr hV256 K249 D253 (by have := Y254.out; omega)
 have K267 := ksr hV256 K250 D253
 have K268 := kfr hV256 K251 D253 (by have := Y254.out; omega)
 have HB269 := hbr hV256 HB252 D253 (by have := Y254.out; omega)
 have D270 := dr V255
 clear K241 K242 K243 K244 K245 K246 K247 K248 K249 K250 K251 HB252 D253
 have f273 := (kb K268 D270).cellsL 0 [.float .f64 0, .float .f64 0] rfl
 dsimp only [CellsL, al, vl, Nat.reduceAdd] at f273
 have u274 := (kb K268 D270).unfrozen
 obtain ⟨V271, hV272⟩ : ∃ V, setCells V255 (g236) 0 [.float .f64 0, .float .f64 0] = V := ⟨_, rfl⟩
 have hv275 := hV272
 simp only [setCells, Nat.reduceAdd] at hv275
 have K276 := kf hV272 K258 D270 (by have := Y254.out; omega)
 have K277 := kf hV272 K259 D270 (by have := Y254.out; omega)
 have K278 := kf hV272 K260 D270 (by have := Y254.out; omega)
 have K279 := kf hV272 K261 D270 (by have := Y254.out; omega)
 have K280 := kf hV272 K262 D270 (by have := Y254.out; omega)
 have K281 := kf hV272 K263 D270 (by have := Y254.out; omega)
 have K282 := kf hV272 K264 D270 (by have := Y254.out; omega)
 have K283 := kf hV272 K265 D270 (by have := Y254.out; omega)
 have K284 := kf hV272 K266 D270 (by have := Y254.out; omega)
 have K285 := kf hV272 K267 D270 (by have := Y254.out; omega)
 have K286 := Lib.hid (show Blk V271 (g236) 28 #[.float .f64 0, .float .f64 0] from (ks hV272 K268 D270).out)
 have HB287 := hbs hV272 HB269 D270 (by have := Y254.out; omega)
 have D288 := dr V271
 clear K258 K259 K260 K261 K262 K263 K264 K265 K266 K267 K268 HB269 D270
 go_wp2_with (refine wpList_store_row rfl 30 _ _ rfl (g218) #[.float .f64 0, .float .f64 0, .float .f64 0, .float .f64 0, .float .f64 0, .float .f64 0] rfl rfl _ _ f257 (by rw [info_V3]; rfl) rfl (by kernel_rfl) ?_; rw [hV256])
 clear hg220 hV221 hg238 hV239 hV256 f257 hV272 f273 u274 hv275
 go_ret
 exact ⟨rfl, below_step HB287.out D288.out⟩
theorem bsdfStraight_u1 (n0 n1 n2 d0 d1 d2 : Nat) (hn0 : n0 < 18446744073709551616) (hn1 : n1 < 18446744073709551616) (hn2 : n2 < 18446744073709551616) (hd0 : d0 < 18446744073709551616) (hd1 : d1 < 18446744073709551616) (hd2 : d2 < 18446744073709551616) (hnn : nmB n0 n1 n2 = true) (hnd : nmB d0 d1 d2 = true) (g0 : 0 < Z (vLen (vOf n0 n1 n2)).lo) (g1 : 0 < Z (vLen (vOf d0 d1 d2)).lo) (f : V3) (c : Sp) (HF : ∀ w, Calls Try.prog 52 #[vval (vUnit (vOf n0 n1 n2)), vval (vUnit (vOf d0 d1 d2))] w fun r w' => r = .returned (.tuple #[vval f, .agg #[.float .f64 (c).lo, .float .f64 (c).hi], .int .i64 2]) ∧ Below w.heap.size w w') (b : V3) (t : Sp) (HB : ∀ w, Calls Try.prog 57 #[vval f, vval (vUnit (vOf d0 d1 d2)), .agg #[.float .f64 (ofS 4607182418800017408).lo, .float .f64 (ofS 4607182418800017408).hi]] w fun r w' => r = .returned (.tuple #[vval b, .agg #[.float .f64 (t).lo, .float .f64 (t).hi], .int .i64 1]) ∧ Below w.heap.size w w') (w : World) : Calls Try.prog 10 #[Value.agg #[.float .f64 n0, .float .f64 n1, .float .f64 n2], Value.agg #[.float .f64 d0, .float .f64 d1, .float .f64 d2]] w fun r w' => r = .returned (.bool true) ∧ Below w.heap.size w w' := by
 have C0 := Lib.hid (awake12)
 have C1 := Lib.hid (fun w => rnumbers_any n0 n1 n2 hn0 hn1 hn2 w)
 rw [hnn] at C1
 have C2 := Lib.hid (fun w => rnumbers_any d0 d1 d2 hd0 hd1 hd2 w)
 rw [hnd] at C2
 have C3 := Lib.hid (fun w => rofV_any n0 n1 n2 hn0 hn1 hn2 w)
 obtain ⟨p3, hp3⟩ : ∃ z_, vOf n0 n1 n2 = z_ := ⟨_, rfl⟩
 rw [hp3] at C3
 have C4 := Lib.hid (fun w => runitV_any p3 w)
 obtain ⟨p4, hp4⟩ : ∃ z_, vUnit p3 = z_ := ⟨_, rfl⟩
 rw [hp4] at C4
 obtain ⟨q5_, hq5_⟩ : ∃ z_, vLen p3 = z_ := ⟨_, rfl⟩
 rw [hq5_] at C4
 have C6 := Lib.hid (fun w => rofV_any d0 d1 d2 hd0 hd1 hd2 w)
 obtain ⟨p6, hp6⟩ : ∃ z_, vOf d0 d1 d2 = z_ := ⟨_, rfl⟩
 rw [hp6] at C6
 have C7 := Lib.hid (fun w => runitV_any p6 w)
 obtain ⟨p7, hp7⟩ : ∃ z_, vUnit p6 = z_ := ⟨_, rfl⟩
 rw [hp7] at C7
 obtain ⟨q8_, hq8_⟩ : ∃ z_, vLen p6 = z_ := ⟨_, rfl⟩
 rw [hq8_] at C7
 have e9 : (FloatKind.f64.format.order q5_.lo 0 == some .lt || FloatKind.f64.format.order q5_.lo 0 == some .eq) = false := by
   have hl : ¬ Z q5_.lo ≤ 0 := by rw [← hq5_, ← hp3]; exact (by omega)
   rw [le0_gd q5_.vd.l]; exact decide_eq_false hl
 have e10 : (FloatKind.f64.format.order q8_.lo 0 == some .lt || FloatKind.f64.format.order q8_.lo 0 == some .eq) = false := by
   have hl : ¬ Z q8_.lo ≤ 0 := by rw [← hq8_, ← hp6]; exact (by omega)
   rw [le0_gd q8_.vd.l]; exact decide_eq_false hl
 have C11 := Lib.hid (fun w => rof_sp 4607182418800017408 (by decide) w)
 obtain ⟨p11, hp11⟩ : ∃ z_, ofS 4607182418800017408 = z_ := ⟨_, rfl⟩
 rw [hp11] at C11
 have C12 := Lib.hid (fun w => HF w)
 simp only [hp3, hp4, hq5_, hp6, hp7, hq8_, hp11] at C12
 have C13 := Lib.hid (fun w => HB w)
 simp only [hp3, hp4, hq5_, hp6, hp7, hq8_, hp11] at C13
 clear hp3 hp4 hq5_ hp6 hp7 hq8_ hp11
 go_enter Try.func10, Try.ntmps10
 go_wp2_with fail
 obtain ⟨W, hW, K0, K1, hB, hz⟩ := bx2 w 24 24 #[.float .f64 n0, .float .f64 n1, .float .f64 n2] #[.float .f64 d0, .float .f64 d1, .float .f64 d2]
 rw [← hW]
 have K0 := Lib.hid K0
 have K1 := Lib.hid K1
 have HB := Lib.hid hB
 clear hW hB hz
 have D1 := dr W
 refine (C0.out _).mono ?_
 rintro r w2 ⟨rfl, hb⟩
 have D3 := ds D1 hb
 clear D1
 clear hb
 have hq4 := (kb K0 D3).cellsL 0 [.float .f64 n0, .float .f64 n1, .float .f64 n2] rfl
 dsimp only [CellsL, al, vl, Nat.reduceAdd] at hq4
 go_wp2_with fail
 clear hq4
 refine (C1.out _).mono ?_
 rintro r w5 ⟨rfl, hb⟩
 have D6 := ds D3 hb
 clear D3
 clear hb
 have hq7 := (kb K1 D6).cellsL 0 [.float .f64 d0, .float .f64 d1, .float .f64 d2] rfl
 dsimp only [CellsL, al, vl, Nat.reduceAdd] at hq7
 go_wp2_with fail
 clear hq7
 refine (C2.out _).mono ?_
 rintro r w8 ⟨rfl, hb⟩
 have D9 := ds D6 hb
 clear D6
 clear hb
 have hq10 := (kb K0 D9).cellsL 0 [.float .f64 n0, .float .f64 n1, .float .f64 n2] rfl
 dsimp only [CellsL, al, vl, Nat.reduceAdd] at hq10
 go_wp2_with fail
 clear hq10
 refine (C3.out _).mono ?_
 rintro r w11 ⟨rfl, hb⟩
 have D12 := ds D9 hb
 clear D9
 clear hb
 go_wp2_with fail
 refine (C4.out _).mono ?_
 rintro r w13 ⟨rfl, hb⟩
 have D14 := ds D12 hb
 clear D12
 clear hb
 obtain ⟨g15, hg17⟩ : ∃ g, w13.heap.size = g := ⟨_, rfl⟩
 have Y19 := Lib.hid (show w.heap.size < g15 ∧ w.heap.size + 1 < g15 by rw [← hg17]; exact ⟨(kb K0 D14).lt, (kb K1 D14).lt⟩)
 obtain ⟨V16, hV18⟩ : ∃ V, w13.alloc (.cells #[.float .f64 0, .float .f64 0, .float .f64 0, .float .f64 0, .float .f64 0, .float .f64 0] 30) = V := ⟨_, rfl⟩
 have K20 := ka hV18 K0 D14
 have K21 := ka hV18 K1 D14
 have K22 := kn hV18 hg17
 have HB23 := hba hV18 HB D14
 have D24 := dr V16
 clear K0 K1 HB D14
 obtain ⟨g25, hg27⟩ : ∃ g, V16.heap.size = g := ⟨_, rfl⟩
 have Y29 := Lib.hid (show w.heap.size < g25 ∧ w.heap.size + 1 < g25 ∧ g15 < g25 by rw [← hg27]; exact ⟨(kb K20 D24).lt, (kb K21 D24).lt, (kb K22 D24).lt⟩)
 obtain ⟨V26, hV28⟩ : ∃ V, V16.alloc (.cells #[.float .f64 0, .float .f64 0] 28) = V := ⟨_, rfl⟩
 have K30 := ka hV28 K20 D24
 have K31 := ka hV28 K21 D24
 have K32 := ka hV28 K22 D24
 have K33 := kn hV28 hg27
 have HB34 := hba hV28 HB23 D24
 have D35 := dr V26
 clear K20 K21 K22 HB23 D24
 have Y36 := Lib.hid (And.intro Y19.out Y29.out)
 clear Y19 Y29
 have f39 := (kb K32 D35)
 obtain ⟨V37, hV38⟩ : ∃ V, World.setRow V26 (g15) (vc p4) = V := ⟨_, rfl⟩
 have K40 := kfr hV38 K30 D35 (by have := Y36.out; omega)
 have K41 := kfr hV38 K31 D35 (by have := Y36.out; omega)
 have K42 := ksr hV38 K32 D35
 have K43 := kfr hV38 K33 D35 (by have := Y36.out; omega)
 have HB44 := hbr hV38 HB34 D35 (by have := Y36.out; omega)
 have D45 := dr V37
 clear K30 K31 K32 K33 HB34 D35
 have f48 := (kb K43 D45).cellsL 0 [.float .f64 0, .float .f64 0] rfl
 dsimp only [CellsL, al, vl, Nat.reduceAdd] at f48
 have u49 := (kb K43 D45).unfrozen
 obtain ⟨V46, hV47⟩ : ∃ V, setCells V37 (g25) 0 [.float .f64 q5_.lo, .float .f64 q5_.hi] = V := ⟨_, rfl⟩
 have hv50 := hV47
 simp only [setCells, Nat.reduceAdd] at hv50
 have K51 := kf hV47 K40 D45 (by have := Y36.out; omega)
 have K52 := kf hV47 K41 D45 (by have := Y36.out; omega)
 have K53 := kf hV47 K42 D45 (by have := Y36.out; omega)
 have K54 := Lib.hid (show Blk V46 (g25) 28 #[.float .f64 q5_.lo, .float .f64 q5_.hi] from (ks hV47 K43 D45).out)
 have HB55 := hbs hV47 HB44 D45 (by have := Y36.out; omega)
 have D56 := dr V46
 clear K40 K41 K42 K43 HB44 D45
 have hq57 := (kb K52 D56).cellsL 0 [.float .f64 d0, .float .f64 d1, .float .f64 d2] rfl
 dsimp only [CellsL, al, vl, Nat.reduceAdd] at hq57
 go_wp2_with (refine wpList_store_row rfl 30 _ _ rfl (g15) (vc p4) rfl rfl _ _ f39 (by rw [info_V3]; rfl) rfl (by kernel_rfl) ?_; rw [hV38])
 clear hg17 hV18 hg27 hV28 hV38 f39 hV47 f48 u49 hv50 hq57
 refine (C6.out _).mono ?_
 rintro r w58 ⟨rfl, hb⟩
 have D59 := ds D56 hb
 clear D56
 clear hb
 go_wp2_with fail
 refine (C7.out _).mono ?_
 rintro r w60 ⟨rfl, hb⟩
 have D61 := ds D59 hb
 clear D59
 clear hb
 obtain ⟨g62, hg64⟩ : ∃ g, w60.heap.size = g := ⟨_, rfl⟩
 have Y66 := Lib.hid (show w.heap.size < g62 ∧ w.heap.size + 1 < g62 ∧ g15 < g62 ∧ g25 < g62 by rw [← hg64]; exact ⟨(kb K51 D61).lt, (kb K52 D61).lt, (kb K53 D61).lt, (kb K54 D61).lt⟩)
 obtain ⟨V63, hV65⟩ : ∃ V, w60.alloc (.cells #[.float .f64 0, .float .f64 0, .float .f64 0, .float .f64 0, .float .f64 0, .float .f64 0] 30) = V := ⟨_, rfl⟩
 have K67 := ka hV65 K51 D61
 have K68 := ka hV65 K52 D61
 have K69 := ka hV65 K53 D61
 have K70 := ka hV65 K54 D61
 have K71 := kn hV65 hg64
 have HB72 := hba hV65 HB55 D61
 have D73 := dr V63
 clear K51 K52 K53 K54 HB55 D61
 have Y74 := Lib.hid (And.intro Y36.out Y66.out)
 clear Y36 Y66
 obtain ⟨g75, hg77⟩ : ∃ g, V63.heap.size = g := ⟨_, rfl⟩
 have Y79 := Lib.hid (show w.heap.size < g75 ∧ w.heap.size + 1 < g75 ∧ g15 < g75 ∧ g25 < g75 ∧ g62 < g75 by rw [← hg77]; exact ⟨(kb K67 D73).lt, (kb K68 D73).lt, (kb K69 D73).lt, (kb K70 D73).lt, (kb K71 D73).lt⟩)
 obtain ⟨V76, hV78⟩ : ∃ V, V63.alloc (.cells #[.float .f64 0, .float .f64 0] 28) = V := ⟨_, rfl⟩
 have K80 := ka hV78 K67 D73
 have K81 := ka hV78 K68 D73
 have K82 := ka hV78 K69 D73
 have K83 := ka hV78 K70 D73
 have K84 := ka hV78 K71 D73
 have K85 := kn hV78 hg77
 have HB86 := hba hV78 HB72 D73
 have D87 := dr V76
 clear K67 K68 K69 K70 K71 HB72 D73
 have Y88 := Lib.hid (And.intro Y74.out Y79.out)
 clear Y74 Y79
 have f91 := (kb K84 D87)
 obtain ⟨V89, hV90⟩ : ∃ V, World.setRow V76 (g62) (vc p7) = V := ⟨_, rfl⟩
 have K92 := kfr hV90 K80 D87 (by have := Y88.out; omega)
 have K93 := kfr hV90 K81 D87 (by have := Y88.out; omega)
 have K94 := kfr hV90 K82 D87 (by have := Y88.out; omega)
 have K95 := kfr hV90 K83 D87 (by have := Y88.out; omega)
 have K96 := ksr hV90 K84 D87
 have K97 := kfr hV90 K85 D87 (by have := Y88.out; omega)
 have HB98 := hbr hV90 HB86 D87 (by have := Y88.out; omega)
 have D99 := dr V89
 clear K80 K81 K82 K83 K84 K85 HB86 D87
 have f102 := (kb K97 D99).cellsL 0 [.float .f64 0, .float .f64 0] rfl
 dsimp only [CellsL, al, vl, Nat.reduceAdd] at f102
 have u103 := (kb K97 D99).unfrozen
 obtain ⟨V100, hV101⟩ : ∃ V, setCells V89 (g75) 0 [.float .f64 q8_.lo, .float .f64 q8_.hi] = V := ⟨_, rfl⟩
 have hv104 := hV101
 simp only [setCells, Nat.reduceAdd] at hv104
 have K105 := kf hV101 K92 D99 (by have := Y88.out; omega)
 have K106 := kf hV101 K93 D99 (by have := Y88.out; omega)
 have K107 := kf hV101 K94 D99 (by have := Y88.out; omega)
 have K108 := kf hV101 K95 D99 (by have := Y88.out; omega)
 have K109 := kf hV101 K96 D99 (by have := Y88.out; omega)
 have K110 := Lib.hid (show Blk V100 (g75) 28 #[.float .f64 q8_.lo, .float .f64 q8_.hi] from (ks hV101 K97 D99).out)
 have HB111 := hbs hV101 HB98 D99 (by have := Y88.out; omega)
 have D112 := dr V100
 clear K92 K93 K94 K95 K96 K97 HB98 D99
 have hq113 := (kb K108 D112).cellsL 0 [.float .f64 q5_.lo] rfl
 dsimp only [CellsL, al, vl, Nat.reduceAdd] at hq113
 have hq114 := (kb K110 D112).cellsL 0 [.float .f64 q8_.lo] rfl
 dsimp only [CellsL, al, vl, Nat.reduceAdd] at hq114
 go_wp2_with (refine wpList_store_row rfl 30 _ _ rfl (g62) (vc p7) rfl rfl _ _ f91 (by rw [info_V3]; rfl) rfl (by kernel_rfl) ?_; rw [hV90])
 clear hg64 hV65 hg77 hV78 hV90 f91 hV101 f102 u103 hv104 hq113 hq114
 refine (C11.out _).mono ?_
 rintro r w115 ⟨rfl, hb⟩
 have D116 := ds D112 hb
 clear D112
 clear hb
 obtain ⟨g117, hg119⟩ : ∃ g, w115.heap.size = g := ⟨_, rfl⟩
 have Y121 := Lib.hid (show w.heap.size < g117 ∧ w.heap.size + 1 < g117 ∧ g15 < g117 ∧ g25 < g117 ∧ g62 < g117 ∧ g75 < g117 by rw [← hg119]; exact ⟨(kb K105 D116).lt, (kb K106 D116).lt, (kb K107 D116).lt, (kb K108 D116).lt, (kb K109 D116).lt, (kb K110 D116).lt⟩)
 obtain ⟨V118, hV120⟩ : ∃ V, w115.alloc (.cells #[.float .f64 0, .float .f64 0] 28) = V := ⟨_, rfl⟩
 have K122 := ka hV120 K105 D116
 have K123 := ka hV120 K106 D116
 have K124 := ka hV120 K107 D116
 have K125 := ka hV120 K108 D116
 have K126 := ka hV120 K109 D116
 have K127 := ka hV120 K110 D116
 have K128 := kn hV120 hg119
 have HB129 := hba hV120 HB111 D116
 have D130 := dr V118
 clear K105 K106 K107 K108 K109 K110 HB111 D116
 have Y131 := Lib.hid (And.intro Y88.out Y121.out)
 clear Y88 Y121
 have f134 := (kb K128 D130).cellsL 0 [.float .f64 0, .float .f64 0] rfl
 dsimp only [CellsL, al, vl, Nat.reduceAdd] at f134
 have u135 := (kb K128 D130).unfrozen
 obtain ⟨V132, hV133⟩ : ∃ V, setCells V118 (g117) 0 [.float .f64 p11.lo, .float .f64 p11.hi] = V := ⟨_, rfl⟩
 have hv136 := hV133
 simp only [setCells, Nat.reduceAdd] at hv136
 have K137 := kf hV133 K122 D130 (by have := Y131.out; omega)
 have K138 := kf hV133 K123 D130 (by have := Y131.out; omega)
 have K139 := kf hV133 K124 D130 (by have := Y131.out; omega)
 have K140 := kf hV133 K125 D130 (by have := Y131.out; omega)
 have K141 := kf hV133 K126 D130 (by have := Y131.out; omega)
 have K142 := kf hV133 K127 D130 (by have := Y131.out; omega)
 have K143 := Lib.hid (show Blk V132 (g117) 28 #[.float .f64 p11.lo, .float .f64 p11.hi] from (ks hV133 K128 D130).out)
 have HB144 := hbs hV133 HB129 D130 (by have := Y131.out; omega)
 have D145 := dr V132
 clear K122 K123 K124 K125 K126 K127 K128 HB129 D130
 have f146 := (kb K139 D145)
 have f147 := (kb K141 D145)
 go_wp2_with (first | (refine wl_load (by kernel_rfl) rfl rfl f146 (by rw [info_V3]; rfl) Try.underlying30 rfl ?_) | (refine wl_load (by kernel_rfl) rfl rfl f147 (by rw [info_V3]; rfl) Try.underlying30 rfl ?_))
 clear hg119 hV120 hV133 f134 u135 hv136 f146 f147
 refine (C12.out _).mono ?_
 rintro r w148 ⟨rfl, hb⟩
 have D149 := ds D145 hb
 clear D145
 clear hb
 obtain ⟨g150, hg152⟩ : ∃ g, w148.heap.size = g := ⟨_, rfl⟩
 have Y154 := Lib.hid (show w.heap.size < g150 ∧ w.heap.size + 1 < g150 ∧ g15 < g150 ∧ g25 < g150 ∧ g62 < g150 ∧ g75 < g150 ∧ g117 < g150 by rw [← hg152]; exact ⟨(kb K137 D149).lt, (kb K138 D149).lt, (kb K139 D149).lt, (kb K140 D149).lt, (kb K141 D149).lt, (kb K142 D149).lt, (kb K143 D149).lt⟩)
 obtain ⟨V151, hV153⟩ : ∃ V, w148.alloc (.cells #[.float .f64 0, .float .f64 0, .float .f64 0, .float .f64 0, .float .f64 0, .float .f64 0] 30) = V := ⟨_, rfl⟩
 have K155 := ka hV153 K137 D149
 have K156 := ka hV153 K138 D149
 have K157 := ka hV153 K139 D149
 have K158 := ka hV153 K140 D149
 have K159 := ka hV153 K141 D149
 have K160 := ka hV153 K142 D149
 have K161 := ka hV153 K143 D149
 have K162 := kn hV153 hg152
 have HB163 := hba hV153 HB144 D149
 have D164 := dr V151
 clear K137 K138 K139 K140 K141 K142 K143 HB144 D149
 have Y165 := Lib.hid (And.intro Y131.out Y154.out)
 clear Y131 Y154
 obtain ⟨g166, hg168⟩ : ∃ g, V151.heap.size = g := ⟨_, rfl⟩
 have Y170 := Lib.hid (show w.heap.size < g166 ∧ w.heap.size + 1 < g166 ∧ g15 < g166 ∧ g25 < g166 ∧ g62 < g166 ∧ g75 < g166 ∧ g117 < g166 ∧ g150 < g166 by rw [← hg168]; exact ⟨(kb K155 D164).lt, (kb K156 D164).lt, (kb K157 D164).lt, (kb K158 D164).lt, (kb K159 D164).lt, (kb K160 D164).lt, (kb K161 D164).lt, (kb K162 D164).lt⟩)
 obtain ⟨V167, hV169⟩ : ∃ V, V151.alloc (.cells #[.float .f64 0, .float .f64 0] 28) = V := ⟨_, rfl⟩
 have K171 := ka hV169 K155 D164
 have K172 := ka hV169 K156 D164
 have K173 := ka hV169 K157 D164
 have K174 := ka hV169 K158 D164
 have K175 := ka hV169 K159 D164
 have K176 := ka hV169 K160 D164
 have K177 := ka hV169 K161 D164
 have K178 := ka hV169 K162 D164
 have K179 := kn hV169 hg168
 have HB180 := hba hV169 HB163 D164
 have D181 := dr V167
 clear K155 K156 K157 K158 K159 K160 K161 K162 HB163 D164
 have Y182 := Lib.hid (And.intro Y165.out Y170.out)
 clear Y165 Y170
 have f185 := (kb K178 D181)
 obtain ⟨V183, hV184⟩ : ∃ V, World.setRow V167 (g150) (vc f) = V := ⟨_, rfl⟩
 have K186 := kfr hV184 K171 D181 (by have := Y182.out; omega)
 have K187 := kfr hV184 K172 D181 (by have := Y182.out; omega)
 have K188 := kfr hV184 K173 D181 (by have := Y182.out; omega)
 have K189 := kfr hV184 K174 D181 (by have := Y182.out; omega)
 have K190 := kfr hV184 K175 D181 (by have := Y182.out; omega)
 have K191 := kfr hV184 K176 D181 (by have := Y182.out; omega)
 have K192 := kfr hV184 K177 D181 (by have := Y182.out; omega)
 have K193 := ksr hV184 K178 D181
 have K194 := kfr hV184 K179 D181 (by have := Y182.out; omega)
 have HB195 := hbr hV184 HB180 D181 (by have := Y182.out; omega)
 have D196 := dr V183
 clear K171 K172 K173 K174 K175 K176 K177 K178 K179 HB180 D181
 have f199 := (kb K194 D196).cellsL 0 [.float .f64 0, .float .f64 0] rfl
 dsimp only [CellsL, al, vl, Nat.reduceAdd] at f199
 have u200 := (kb K194 D196).unfrozen
 obtain ⟨V197, hV198⟩ : ∃ V, setCells V183 (g166) 0 [.float .f64 c.lo, .float .f64 c.hi] = V := ⟨_, rfl⟩
 have hv201 := hV198
 simp only [setCells, Nat.reduceAdd] at hv201
 have K202 := kf hV198 K186 D196 (by have := Y182.out; omega)
 have K203 := kf hV198 K187 D196 (by have := Y182.out; omega)
 have K204 := kf hV198 K188 D196 (by have := Y182.out; omega)
 have K205 := kf hV198 K189 D196 (by have := Y182.out; omega)
 have K206 := kf hV198 K190 D196 (by have := Y182.out; omega)
 have K207 := kf hV198 K191 D196 (by have := Y182.out; omega)
 have K208 := kf hV198 K192 D196 (by have := Y182.out; omega)
 have K209 := kf hV198 K193 D196 (by have := Y182.out; omega)
 have K210 := Lib.hid (show Blk V197 (g166) 28 #[.float .f64 c.lo, .float .f64 c.hi] from (ks hV198 K194 D196).out)
 have HB211 := hbs hV198 HB195 D196 (by have := Y182.out; omega)
 have D212 := dr V197
 clear K186 K187 K188 K189 K190 K191 K192 K193 K194 HB195 D196
 have f213 := (kb K206 D212)
 have f214 := (kb K209 D212)
 have hq215 := (kb K208 D212).cellsL 0 [.float .f64 p11.lo, .float .f64 p11.hi] rfl
 dsimp only [CellsL, al, vl, Nat.reduceAdd] at hq215
 go_wp2_with (first | (refine wpList_store_row rfl 30 _ _ rfl (g150) (vc f) rfl rfl _ _ f185 (by rw [info_V3]; rfl) rfl (by kernel_rfl) ?_; rw [hV184]) | (refine wl_load (by kernel_rfl) rfl rfl f213 (by rw [info_V3]; rfl) Try.underlying30 rfl ?_) | (refine wl_load (by kernel_rfl) rfl rfl f214 (by rw [info_V3]; rfl) Try.underlying30 rfl ?_))
 clear hg152 hV153 hg168 hV169 hV184 f185 hV198 f199 u200 hv201 f213 f214 hq215
 refine (C13.out _).mono ?_
 rintro r w216 ⟨rfl, hb⟩
 have D217 := ds D212 hb
 clear D212
 clear hb
 obtain ⟨g218, hg220⟩ : ∃ g, w216.heap.size = g := ⟨_, rfl⟩
 have Y222 := Lib.hid (show w.heap.size < g218 ∧ w.heap.size + 1 < g218 ∧ g15 < g218 ∧ g25 < g218 ∧ g62 < g218 ∧ g75 < g218 ∧ g117 < g218 ∧ g150 < g218 ∧ g166 < g218 by rw [← hg220]; exact ⟨(kb K202 D217).lt, (kb K203 D217).lt, (kb K204 D217).lt, (kb K205 D217).lt, (kb K206 D217).lt, (kb K207 D217).lt, (kb K208 D217).lt, (kb K209 D217).lt, (kb K210 D217).lt⟩)
 obtain ⟨V219, hV221⟩ : ∃ V, w216.alloc (.cells #[.float .f64 0, .float .f64 0, .float .f64 0, .float .f64 0, .float .f64 0, .float .f64 0] 30) = V := ⟨_, rfl⟩
 have K223 := ka hV221 K202 D217
 have K224 := ka hV221 K203 D217
 have K225 := ka hV221 K204 D217
 have K226 := ka hV221 K205 D217
 have K227 := ka hV221 K206 D217
 have K228 := ka hV221 K207 D217
 have K229 := ka hV221 K208 D217
 have K230 := ka hV221 K209 D217
 have K231 := ka hV221 K210 D217
 have K232 := kn hV221 hg220
 have HB233 := hba hV221 HB211 D217
 have D234 := dr V219
 clear K202 K203 K204 K205 K206 K207 K208 K209 K210 HB211 D217
 have Y235 := Lib.hid (And.intro Y182.out Y222.out)
 clear Y182 Y222
 obtain ⟨g236, hg238⟩ : ∃ g, V219.heap.size = g := ⟨_, rfl⟩
 have Y240 := Lib.hid (show w.heap.size < g236 ∧ w.heap.size + 1 < g236 ∧ g15 < g236 ∧ g25 < g236 ∧ g62 < g236 ∧ g75 < g236 ∧ g117 < g236 ∧ g150 < g236 ∧ g166 < g236 ∧ g218 < g236 by rw [← hg238]; exact ⟨(kb K223 D234).lt, (kb K224 D234).lt, (kb K225 D234).lt, (kb K226 D234).lt, (kb K227 D234).lt, (kb K228 D234).lt, (kb K229 D234).lt, (kb K230 D234).lt, (kb K231 D234).lt, (kb K232 D234).lt⟩)
 obtain ⟨V237, hV239⟩ : ∃ V, V219.alloc (.cells #[.float .f64 0, .float .f64 0] 28) = V := ⟨_, rfl⟩
 have K241 := ka hV239 K223 D234
 have K242 := ka hV239 K224 D234
 have K243 := ka hV239 K225 D234
 have K244 := ka hV239 K226 D234
 have K245 := ka hV239 K227 D234
 have K246 := ka hV239 K228 D234
 have K247 := ka hV239 K229 D234
 have K248 := ka hV239 K230 D234
 have K249 := ka hV239 K231 D234
 have K250 := ka hV239 K232 D234
 have K251 := kn hV239 hg238
 have HB252 := hba hV239 HB233 D234
 have D253 := dr V237
 clear K223 K224 K225 K226 K227 K228 K229 K230 K231 K232 HB233 D234
 have Y254 := Lib.hid (And.intro Y235.out Y240.out)
 clear Y235 Y240
 have f257 := (kb K250 D253)
 obtain ⟨V255, hV256⟩ : ∃ V, World.setRow V237 (g218) (vc b) = V := ⟨_, rfl⟩
 have K258 := kfr hV256 K241 D253 (by have := Y254.out; omega)
 have K259 := kfr hV256 K242 D253 (by have := Y254.out; omega)
 have K260 := kfr hV256 K243 D253 (by have := Y254.out; omega)
 have K261 := kfr hV256 K244 D253 (by have := Y254.out; omega)
 have K262 := kfr hV256 K245 D253 (by have := Y254.out; omega)
 have K263 := kfr hV256 K246 D253 (by have := Y254.out; omega)
 have K264 := kfr hV256 K247 D253 (by have := Y254.out; omega)
 have K265 := kfr hV256 K248 D253 (by have := Y254.out; omega)
 have K266 := kfr hV256 K249 D253 (by have := Y254.out; omega)
 have K267 := ksr hV256 K250 D253
 have K268 := kfr hV256 K251 D253 (by have := Y254.out; omega)
 have HB269 := hbr hV256 HB252 D253 (by have := Y254.out; omega)
 have D270 := dr V255
 clear K241 K242 K243 K244 K245 K246 K247 K248 K249 K250 K251 HB252 D253
 have f273 := (kb K268 D270).cellsL 0 [.float .f64 0, .float .f64 0] rfl
 dsimp only [CellsL, al, vl, Nat.reduceAdd] at f273
 have u274 := (kb K268 D270).unfrozen
 obtain ⟨V271, hV272⟩ : ∃ V, setCells V255 (g236) 0 [.float .f64 t.lo, .float .f64 t.hi] = V := ⟨_, rfl⟩
 have hv275 := hV272
 simp only [setCells, Nat.reduceAdd] at hv275
 have K276 := kf hV272 K258 D270 (by have := Y254.out; omega)
 have K277 := kf hV272 K259 D270 (by have := Y254.out; omega)
 have K278 := kf hV272 K260 D270 (by have := Y254.out; omega)
 have K279 := kf hV272 K261 D270 (by have := Y254.out; omega)
 have K280 := kf hV272 K262 D270 (by have := Y254.out; omega)
 have K281 := kf hV272 K263 D270 (by have := Y254.out; omega)
 have K282 := kf hV272 K264 D270 (by have := Y254.out; omega)
 have K283 := kf hV272 K265 D270 (by have := Y254.out; omega)
 have K284 := kf hV272 K266 D270 (by have := Y254.out; omega)
 have K285 := kf hV272 K267 D270 (by have := Y254.out; omega)
 have K286 := Lib.hid (show Blk V271 (g236) 28 #[.float .f64 t.lo, .float .f64 t.hi] from (ks hV272 K268 D270).out)
 have HB287 := hbs hV272 HB269 D270 (by have := Y254.out; omega)
 have D288 := dr V271
 clear K258 K259 K260 K261 K262 K263 K264 K265 K266 K267 K268 HB269 D270
 go_wp2_with (refine wpList_store_row rfl 30 _ _ rfl (g218) (vc b) rfl rfl _ _ f257 (by rw [info_V3]; rfl) rfl (by kernel_rfl) ?_; rw [hV256])
 clear hg220 hV221 hg238 hV239 hV256 f257 hV272 f273 u274 hv275
 go_ret
 exact ⟨rfl, below_step HB287.out D288.out⟩
theorem bsdfStraight_u2 (n0 n1 n2 d0 d1 d2 : Nat) (hn0 : n0 < 18446744073709551616) (hn1 : n1 < 18446744073709551616) (hn2 : n2 < 18446744073709551616) (hd0 : d0 < 18446744073709551616) (hd1 : d1 < 18446744073709551616) (hd2 : d2 < 18446744073709551616) (hnn : nmB n0 n1 n2 = true) (hnd : nmB d0 d1 d2 = true) (g0 : 0 < Z (vLen (vOf n0 n1 n2)).lo) (g1 : 0 < Z (vLen (vOf d0 d1 d2)).lo) (f : V3) (c : Sp) (HF : ∀ w, Calls Try.prog 52 #[vval (vUnit (vOf n0 n1 n2)), vval (vUnit (vOf d0 d1 d2))] w fun r w' => r = .returned (.tuple #[vval f, .agg #[.float .f64 (c).lo, .float .f64 (c).hi], .int .i64 2]) ∧ Below w.heap.size w w') (HB : ∀ w, Calls Try.prog 57 #[vval f, vval (vUnit (vOf d0 d1 d2)), .agg #[.float .f64 (ofS 4607182418800017408).lo, .float .f64 (ofS 4607182418800017408).hi]] w fun r w' => r = .returned (.tuple #[.agg #[.float .f64 0, .float .f64 0, .float .f64 0, .float .f64 0, .float .f64 0, .float .f64 0], .agg #[.float .f64 0, .float .f64 0], .int .i64 2]) ∧ Below w.heap.size w w') (w : World) : Calls Try.prog 10 #[Value.agg #[.float .f64 n0, .float .f64 n1, .float .f64 n2], Value.agg #[.float .f64 d0, .float .f64 d1, .float .f64 d2]] w fun r w' => r = .returned (.bool true) ∧ Below w.heap.size w w' := by
 have C0 := Lib.hid (awake12)
 have C1 := Lib.hid (fun w => rnumbers_any n0 n1 n2 hn0 hn1 hn2 w)
 rw [hnn] at C1
 have C2 := Lib.hid (fun w => rnumbers_any d0 d1 d2 hd0 hd1 hd2 w)
 rw [hnd] at C2
 have C3 := Lib.hid (fun w => rofV_any n0 n1 n2 hn0 hn1 hn2 w)
 obtain ⟨p3, hp3⟩ : ∃ z_, vOf n0 n1 n2 = z_ := ⟨_, rfl⟩
 rw [hp3] at C3
 have C4 := Lib.hid (fun w => runitV_any p3 w)
 obtain ⟨p4, hp4⟩ : ∃ z_, vUnit p3 = z_ := ⟨_, rfl⟩
 rw [hp4] at C4
 obtain ⟨q5_, hq5_⟩ : ∃ z_, vLen p3 = z_ := ⟨_, rfl⟩
 rw [hq5_] at C4
 have C6 := Lib.hid (fun w => rofV_any d0 d1 d2 hd0 hd1 hd2 w)
 obtain ⟨p6, hp6⟩ : ∃ z_, vOf d0 d1 d2 = z_ := ⟨_, rfl⟩
 rw [hp6] at C6
 have C7 := Lib.hid (fun w => runitV_any p6 w)
 obtain ⟨p7, hp7⟩ : ∃ z_, vUnit p6 = z_ := ⟨_, rfl⟩
 rw [hp7] at C7
 obtain ⟨q8_, hq8_⟩ : ∃ z_, vLen p6 = z_ := ⟨_, rfl⟩
 rw [hq8_] at C7
 have e9 : (FloatKind.f64.format.order q5_.lo 0 == some .lt || FloatKind.f64.format.order q5_.lo 0 == some .eq) = false := by
   have hl : ¬ Z q5_.lo ≤ 0 := by rw [← hq5_, ← hp3]; exact (by omega)
   rw [le0_gd q5_.vd.l]; exact decide_eq_false hl
 have e10 : (FloatKind.f64.format.order q8_.lo 0 == some .lt || FloatKind.f64.format.order q8_.lo 0 == some .eq) = false := by
   have hl : ¬ Z q8_.lo ≤ 0 := by rw [← hq8_, ← hp6]; exact (by omega)
   rw [le0_gd q8_.vd.l]; exact decide_eq_false hl
 have C11 := Lib.hid (fun w => rof_sp 4607182418800017408 (by decide) w)
 obtain ⟨p11, hp11⟩ : ∃ z_, ofS 4607182418800017408 = z_ := ⟨_, rfl⟩
 rw [hp11] at C11
 have C12 := Lib.hid (fun w => HF w)
 simp only [hp3, hp4, hq5_, hp6, hp7, hq8_, hp11] at C12
 have C13 := Lib.hid (fun w => HB w)
 simp only [hp3, hp4, hq5_, hp6, hp7, hq8_, hp11] at C13
 clear hp3 hp4 hq5_ hp6 hp7 hq8_ hp11
 go_enter Try.func10, Try.ntmps10
 go_wp2_with fail
 obtain ⟨W, hW, K0, K1, hB, hz⟩ := bx2 w 24 24 #[.float .f64 n0, .float .f64 n1, .float .f64 n2] #[.float .f64 d0, .float .f64 d1, .float .f64 d2]
 rw [← hW]
 have K0 := Lib.hid K0
 have K1 := Lib.hid K1
 have HB := Lib.hid hB
 clear hW hB hz
 have D1 := dr W
 refine (C0.out _).mono ?_
 rintro r w2 ⟨rfl, hb⟩
 have D3 := ds D1 hb
 clear D1
 clear hb
 have hq4 := (kb K0 D3).cellsL 0 [.float .f64 n0, .float .f64 n1, .float .f64 n2] rfl
 dsimp only [CellsL, al, vl, Nat.reduceAdd] at hq4
 go_wp2_with fail
 clear hq4
 refine (C1.out _).mono ?_
 rintro r w5 ⟨rfl, hb⟩
 have D6 := ds D3 hb
 clear D3
 clear hb
 have hq7 := (kb K1 D6).cellsL 0 [.float .f64 d0, .float .f64 d1, .float .f64 d2] rfl
 dsimp only [CellsL, al, vl, Nat.reduceAdd] at hq7
 go_wp2_with fail
 clear hq7
 refine (C2.out _).mono ?_
 rintro r w8 ⟨rfl, hb⟩
 have D9 := ds D6 hb
 clear D6
 clear hb
 have hq10 := (kb K0 D9).cellsL 0 [.float .f64 n0, .float .f64 n1, .float .f64 n2] rfl
 dsimp only [CellsL, al, vl, Nat.reduceAdd] at hq10
 go_wp2_with fail
 clear hq10
 refine (C3.out _).mono ?_
 rintro r w11 ⟨rfl, hb⟩
 have D12 := ds D9 hb
 clear D9
 clear hb
 go_wp2_with fail
 refine (C4.out _).mono ?_
 rintro r w13 ⟨rfl, hb⟩
 have D14 := ds D12 hb
 clear D12
 clear hb
 obtain ⟨g15, hg17⟩ : ∃ g, w13.heap.size = g := ⟨_, rfl⟩
 have Y19 := Lib.hid (show w.heap.size < g15 ∧ w.heap.size + 1 < g15 by rw [← hg17]; exact ⟨(kb K0 D14).lt, (kb K1 D14).lt⟩)
 obtain ⟨V16, hV18⟩ : ∃ V, w13.alloc (.cells #[.float .f64 0, .float .f64 0, .float .f64 0, .float .f64 0, .float .f64 0, .float .f64 0] 30) = V := ⟨_, rfl⟩
 have K20 := ka hV18 K0 D14
 have K21 := ka hV18 K1 D14
 have K22 := kn hV18 hg17
 have HB23 := hba hV18 HB D14
 have D24 := dr V16
 clear K0 K1 HB D14
 obtain ⟨g25, hg27⟩ : ∃ g, V16.heap.size = g := ⟨_, rfl⟩
 have Y29 := Lib.hid (show w.heap.size < g25 ∧ w.heap.size + 1 < g25 ∧ g15 < g25 by rw [← hg27]; exact ⟨(kb K20 D24).lt, (kb K21 D24).lt, (kb K22 D24).lt⟩)
 obtain ⟨V26, hV28⟩ : ∃ V, V16.alloc (.cells #[.float .f64 0, .float .f64 0] 28) = V := ⟨_, rfl⟩
 have K30 := ka hV28 K20 D24
 have K31 := ka hV28 K21 D24
 have K32 := ka hV28 K22 D24
 have K33 := kn hV28 hg27
 have HB34 := hba hV28 HB23 D24
 have D35 := dr V26
 clear K20 K21 K22 HB23 D24
 have Y36 := Lib.hid (And.intro Y19.out Y29.out)
 clear Y19 Y29
 have f39 := (kb K32 D35)
 obtain ⟨V37, hV38⟩ : ∃ V, World.setRow V26 (g15) (vc p4) = V := ⟨_, rfl⟩
 have K40 := kfr hV38 K30 D35 (by have := Y36.out; omega)
 have K41 := kfr hV38 K31 D35 (by have := Y36.out; omega)
 have K42 := ksr hV38 K32 D35
 have K43 := kfr hV38 K33 D35 (by have := Y36.out; omega)
 have HB44 := hbr hV38 HB34 D35 (by have := Y36.out; omega)
 have D45 := dr V37
 clear K30 K31 K32 K33 HB34 D35
 have f48 := (kb K43 D45).cellsL 0 [.float .f64 0, .float .f64 0] rfl
 dsimp only [CellsL, al, vl, Nat.reduceAdd] at f48
 have u49 := (kb K43 D45).unfrozen
 obtain ⟨V46, hV47⟩ : ∃ V, setCells V37 (g25) 0 [.float .f64 q5_.lo, .float .f64 q5_.hi] = V := ⟨_, rfl⟩
 have hv50 := hV47
 simp only [setCells, Nat.reduceAdd] at hv50
 have K51 := kf hV47 K40 D45 (by have := Y36.out; omega)
 have K52 := kf hV47 K41 D45 (by have := Y36.out; omega)
 have K53 := kf hV47 K42 D45 (by have := Y36.out; omega)
 have K54 := Lib.hid (show Blk V46 (g25) 28 #[.float .f64 q5_.lo, .float .f64 q5_.hi] from (ks hV47 K43 D45).out)
 have HB55 := hbs hV47 HB44 D45 (by have := Y36.out; omega)
 have D56 := dr V46
 clear K40 K41 K42 K43 HB44 D45
 have hq57 := (kb K52 D56).cellsL 0 [.float .f64 d0, .float .f64 d1, .float .f64 d2] rfl
 dsimp only [CellsL, al, vl, Nat.reduceAdd] at hq57
 go_wp2_with (refine wpList_store_row rfl 30 _ _ rfl (g15) (vc p4) rfl rfl _ _ f39 (by rw [info_V3]; rfl) rfl (by kernel_rfl) ?_; rw [hV38])
 clear hg17 hV18 hg27 hV28 hV38 f39 hV47 f48 u49 hv50 hq57
 refine (C6.out _).mono ?_
 rintro r w58 ⟨rfl, hb⟩
 have D59 := ds D56 hb
 clear D56
 clear hb
 go_wp2_with fail
 refine (C7.out _).mono ?_
 rintro r w60 ⟨rfl, hb⟩
 have D61 := ds D59 hb
 clear D59
 clear hb
 obtain ⟨g62, hg64⟩ : ∃ g, w60.heap.size = g := ⟨_, rfl⟩
 have Y66 := Lib.hid (show w.heap.size < g62 ∧ w.heap.size + 1 < g62 ∧ g15 < g62 ∧ g25 < g62 by rw [← hg64]; exact ⟨(kb K51 D61).lt, (kb K52 D61).lt, (kb K53 D61).lt, (kb K54 D61).lt⟩)
 obtain ⟨V63, hV65⟩ : ∃ V, w60.alloc (.cells #[.float .f64 0, .float .f64 0, .float .f64 0, .float .f64 0, .float .f64 0, .float .f64 0] 30) = V := ⟨_, rfl⟩
 have K67 := ka hV65 K51 D61
 have K68 := ka hV65 K52 D61
 have K69 := ka hV65 K53 D61
 have K70 := ka hV65 K54 D61
 have K71 := kn hV65 hg64
 have HB72 := hba hV65 HB55 D61
 have D73 := dr V63
 clear K51 K52 K53 K54 HB55 D61
 have Y74 := Lib.hid (And.intro Y36.out Y66.out)
 clear Y36 Y66
 obtain ⟨g75, hg77⟩ : ∃ g, V63.heap.size = g := ⟨_, rfl⟩
 have Y79 := Lib.hid (show w.heap.size < g75 ∧ w.heap.size + 1 < g75 ∧ g15 < g75 ∧ g25 < g75 ∧ g62 < g75 by rw [← hg77]; exact ⟨(kb K67 D73).lt, (kb K68 D73).lt, (kb K69 D73).lt, (kb K70 D73).lt, (kb K71 D73).lt⟩)
 obtain ⟨V76, hV78⟩ : ∃ V, V63.alloc (.cells #[.float .f64 0, .float .f64 0] 28) = V := ⟨_, rfl⟩
 have K80 := ka hV78 K67 D73
 have K81 := ka hV78 K68 D73
 have K82 := ka hV78 K69 D73
 have K83 := ka hV78 K70 D73
 have K84 := ka hV78 K71 D73
 have K85 := kn hV78 hg77
 have HB86 := hba hV78 HB72 D73
 have D87 := dr V76
 clear K67 K68 K69 K70 K71 HB72 D73
 have Y88 := Lib.hid (And.intro Y74.out Y79.out)
 clear Y74 Y79
 have f91 := (kb K84 D87)
 obtain ⟨V89, hV90⟩ : ∃ V, World.setRow V76 (g62) (vc p7) = V := ⟨_, rfl⟩
 have K92 := kfr hV90 K80 D87 (by have := Y88.out; omega)
 have K93 := kfr hV90 K81 D87 (by have := Y88.out; omega)
 have K94 := kfr hV90 K82 D87 (by have := Y88.out; omega)
 have K95 := kfr hV90 K83 D87 (by have := Y88.out; omega)
 have K96 := ksr hV90 K84 D87
 have K97 := kfr hV90 K85 D87 (by have := Y88.out; omega)
 have HB98 := hbr hV90 HB86 D87 (by have := Y88.out; omega)
 have D99 := dr V89
 clear K80 K81 K82 K83 K84 K85 HB86 D87
 have f102 := (kb K97 D99).cellsL 0 [.float .f64 0, .float .f64 0] rfl
 dsimp only [CellsL, al, vl, Nat.reduceAdd] at f102
 have u103 := (kb K97 D99).unfrozen
 obtain ⟨V100, hV101⟩ : ∃ V, setCells V89 (g75) 0 [.float .f64 q8_.lo, .float .f64 q8_.hi] = V := ⟨_, rfl⟩
 have hv104 := hV101
 simp only [setCells, Nat.reduceAdd] at hv104
 have K105 := kf hV101 K92 D99 (by have := Y88.out; omega)
 have K106 := kf hV101 K93 D99 (by have := Y88.out; omega)
 have K107 := kf hV101 K94 D99 (by have := Y88.out; omega)
 have K108 := kf hV101 K95 D99 (by have := Y88.out; omega)
 have K109 := kf hV101 K96 D99 (by have := Y88.out; omega)
 have K110 := Lib.hid (show Blk V100 (g75) 28 #[.float .f64 q8_.lo, .float .f64 q8_.hi] from (ks hV101 K97 D99).out)
 have HB111 := hbs hV101 HB98 D99 (by have := Y88.out; omega)
 have D112 := dr V100
 clear K92 K93 K94 K95 K96 K97 HB98 D99
 have hq113 := (kb K108 D112).cellsL 0 [.float .f64 q5_.lo] rfl
 dsimp only [CellsL, al, vl, Nat.reduceAdd] at hq113
 have hq114 := (kb K110 D112).cellsL 0 [.float .f64 q8_.lo] rfl
 dsimp only [CellsL, al, vl, Nat.reduceAdd] at hq114
 go_wp2_with (refine wpList_store_row rfl 30 _ _ rfl (g62) (vc p7) rfl rfl _ _ f91 (by rw [info_V3]; rfl) rfl (by kernel_rfl) ?_; rw [hV90])
 clear hg64 hV65 hg77 hV78 hV90 f91 hV101 f102 u103 hv104 hq113 hq114
 refine (C11.out _).mono ?_
 rintro r w115 ⟨rfl, hb⟩
 have D116 := ds D112 hb
 clear D112
 clear hb
 obtain ⟨g117, hg119⟩ : ∃ g, w115.heap.size = g := ⟨_, rfl⟩
 have Y121 := Lib.hid (show w.heap.size < g117 ∧ w.heap.size + 1 < g117 ∧ g15 < g117 ∧ g25 < g117 ∧ g62 < g117 ∧ g75 < g117 by rw [← hg119]; exact ⟨(kb K105 D116).lt, (kb K106 D116).lt, (kb K107 D116).lt, (kb K108 D116).lt, (kb K109 D116).lt, (kb K110 D116).lt⟩)
 obtain ⟨V118, hV120⟩ : ∃ V, w115.alloc (.cells #[.float .f64 0, .float .f64 0] 28) = V := ⟨_, rfl⟩
 have K122 := ka hV120 K105 D116
 have K123 := ka hV120 K106 D116
 have K124 := ka hV120 K107 D116
 have K125 := ka hV120 K108 D116
 have K126 := ka hV120 K109 D116
 have K127 := ka hV120 K110 D116
 have K128 := kn hV120 hg119
 have HB129 := hba hV120 HB111 D116
 have D130 := dr V118
 clear K105 K106 K107 K108 K109 K110 HB111 D116
 have Y131 := Lib.hid (And.intro Y88.out Y121.out)
 clear Y88 Y121
 have f134 := (kb K128 D130).cellsL 0 [.float .f64 0, .float .f64 0] rfl
 dsimp only [CellsL, al, vl, Nat.reduceAdd] at f134
 have u135 := (kb K128 D130).unfrozen
 obtain ⟨V132, hV133⟩ : ∃ V, setCells V118 (g117) 0 [.float .f64 p11.lo, .float .f64 p11.hi] = V := ⟨_, rfl⟩
 have hv136 := hV133
 simp only [setCells, Nat.reduceAdd] at hv136
 have K137 := kf hV133 K122 D130 (by have := Y131.out; omega)
 have K138 := kf hV133 K123 D130 (by have := Y131.out; omega)
 have K139 := kf hV133 K124 D130 (by have := Y131.out; omega)
 have K140 := kf hV133 K125 D130 (by have := Y131.out; omega)
 have K141 := kf hV133 K126 D130 (by have := Y131.out; omega)
 have K142 := kf hV133 K127 D130 (by have := Y131.out; omega)
 have K143 := Lib.hid (show Blk V132 (g117) 28 #[.float .f64 p11.lo, .float .f64 p11.hi] from (ks hV133 K128 D130).out)
 have HB144 := hbs hV133 HB129 D130 (by have := Y131.out; omega)
 have D145 := dr V132
 clear K122 K123 K124 K125 K126 K127 K128 HB129 D130
 have f146 := (kb K139 D145)
 have f147 := (kb K141 D145)
 go_wp2_with (first | (refine wl_load (by kernel_rfl) rfl rfl f146 (by rw [info_V3]; rfl) Try.underlying30 rfl ?_) | (refine wl_load (by kernel_rfl) rfl rfl f147 (by rw [info_V3]; rfl) Try.underlying30 rfl ?_))
 clear hg119 hV120 hV133 f134 u135 hv136 f146 f147
 refine (C12.out _).mono ?_
 rintro r w148 ⟨rfl, hb⟩
 have D149 := ds D145 hb
 clear D145
 clear hb
 obtain ⟨g150, hg152⟩ : ∃ g, w148.heap.size = g := ⟨_, rfl⟩
 have Y154 := Lib.hid (show w.heap.size < g150 ∧ w.heap.size + 1 < g150 ∧ g15 < g150 ∧ g25 < g150 ∧ g62 < g150 ∧ g75 < g150 ∧ g117 < g150 by rw [← hg152]; exact ⟨(kb K137 D149).lt, (kb K138 D149).lt, (kb K139 D149).lt, (kb K140 D149).lt, (kb K141 D149).lt, (kb K142 D149).lt, (kb K143 D149).lt⟩)
 obtain ⟨V151, hV153⟩ : ∃ V, w148.alloc (.cells #[.float .f64 0, .float .f64 0, .float .f64 0, .float .f64 0, .float .f64 0, .float .f64 0] 30) = V := ⟨_, rfl⟩
 have K155 := ka hV153 K137 D149
 have K156 := ka hV153 K138 D149
 have K157 := ka hV153 K139 D149
 have K158 := ka hV153 K140 D149
 have K159 := ka hV153 K141 D149
 have K160 := ka hV153 K142 D149
 have K161 := ka hV153 K143 D149
 have K162 := kn hV153 hg152
 have HB163 := hba hV153 HB144 D149
 have D164 := dr V151
 clear K137 K138 K139 K140 K141 K142 K143 HB144 D149
 have Y165 := Lib.hid (And.intro Y131.out Y154.out)
 clear Y131 Y154
 obtain ⟨g166, hg168⟩ : ∃ g, V151.heap.size = g := ⟨_, rfl⟩
 have Y170 := Lib.hid (show w.heap.size < g166 ∧ w.heap.size + 1 < g166 ∧ g15 < g166 ∧ g25 < g166 ∧ g62 < g166 ∧ g75 < g166 ∧ g117 < g166 ∧ g150 < g166 by rw [← hg168]; exact ⟨(kb K155 D164).lt, (kb K156 D164).lt, (kb K157 D164).lt, (kb K158 D164).lt, (kb K159 D164).lt, (kb K160 D164).lt, (kb K161 D164).lt, (kb K162 D164).lt⟩)
 obtain ⟨V167, hV169⟩ : ∃ V, V151.alloc (.cells #[.float .f64 0, .float .f64 0] 28) = V := ⟨_, rfl⟩
 have K171 := ka hV169 K155 D164
 have K172 := ka hV169 K156 D164
 have K173 := ka hV169 K157 D164
 have K174 := ka hV169 K158 D164
 have K175 := ka hV169 K159 D164
 have K176 := ka hV169 K160 D164
 have K177 := ka hV169 K161 D164
 have K178 := ka hV169 K162 D164
 have K179 := kn hV169 hg168
 have HB180 := hba hV169 HB163 D164
 have D181 := dr V167
 clear K155 K156 K157 K158 K159 K160 K161 K162 HB163 D164
 have Y182 := Lib.hid (And.intro Y165.out Y170.out)
 clear Y165 Y170
 have f185 := (kb K178 D181)
 obtain ⟨V183, hV184⟩ : ∃ V, World.setRow V167 (g150) (vc f) = V := ⟨_, rfl⟩
 have K186 := kfr hV184 K171 D181 (by have := Y182.out; omega)
 have K187 := kfr hV184 K172 D181 (by have := Y182.out; omega)
 have K188 := kfr hV184 K173 D181 (by have := Y182.out; omega)
 have K189 := kfr hV184 K174 D181 (by have := Y182.out; omega)
 have K190 := kfr hV184 K175 D181 (by have := Y182.out; omega)
 have K191 := kfr hV184 K176 D181 (by have := Y182.out; omega)
 have K192 := kfr hV184 K177 D181 (by have := Y182.out; omega)
 have K193 := ksr hV184 K178 D181
 have K194 := kfr hV184 K179 D181 (by have := Y182.out; omega)
 have HB195 := hbr hV184 HB180 D181 (by have := Y182.out; omega)
 have D196 := dr V183
 clear K171 K172 K173 K174 K175 K176 K177 K178 K179 HB180 D181
 have f199 := (kb K194 D196).cellsL 0 [.float .f64 0, .float .f64 0] rfl
 dsimp only [CellsL, al, vl, Nat.reduceAdd] at f199
 have u200 := (kb K194 D196).unfrozen
 obtain ⟨V197, hV198⟩ : ∃ V, setCells V183 (g166) 0 [.float .f64 c.lo, .float .f64 c.hi] = V := ⟨_, rfl⟩
 have hv201 := hV198
 simp only [setCells, Nat.reduceAdd] at hv201
 have K202 := kf hV198 K186 D196 (by have := Y182.out; omega)
 have K203 := kf hV198 K187 D196 (by have := Y182.out; omega)
 have K204 := kf hV198 K188 D196 (by have := Y182.out; omega)
 have K205 := kf hV198 K189 D196 (by have := Y182.out; omega)
 have K206 := kf hV198 K190 D196 (by have := Y182.out; omega)
 have K207 := kf hV198 K191 D196 (by have := Y182.out; omega)
 have K208 := kf hV198 K192 D196 (by have := Y182.out; omega)
 have K209 := kf hV198 K193 D196 (by have := Y182.out; omega)
 have K210 := Lib.hid (show Blk V197 (g166) 28 #[.float .f64 c.lo, .float .f64 c.hi] from (ks hV198 K194 D196).out)
 have HB211 := hbs hV198 HB195 D196 (by have := Y182.out; omega)
 have D212 := dr V197
 clear K186 K187 K188 K189 K190 K191 K192 K193 K194 HB195 D196
 have f213 := (kb K206 D212)
 have f214 := (kb K209 D212)
 have hq215 := (kb K208 D212).cellsL 0 [.float .f64 p11.lo, .float .f64 p11.hi] rfl
 dsimp only [CellsL, al, vl, Nat.reduceAdd] at hq215
 go_wp2_with (first | (refine wpList_store_row rfl 30 _ _ rfl (g150) (vc f) rfl rfl _ _ f185 (by rw [info_V3]; rfl) rfl (by kernel_rfl) ?_; rw [hV184]) | (refine wl_load (by kernel_rfl) rfl rfl f213 (by rw [info_V3]; rfl) Try.underlying30 rfl ?_) | (refine wl_load (by kernel_rfl) rfl rfl f214 (by rw [info_V3]; rfl) Try.underlying30 rfl ?_))
 clear hg152 hV153 hg168 hV169 hV184 f185 hV198 f199 u200 hv201 f213 f214 hq215
 refine (C13.out _).mono ?_
 rintro r w216 ⟨rfl, hb⟩
 have D217 := ds D212 hb
 clear D212
 clear hb
 obtain ⟨g218, hg220⟩ : ∃ g, w216.heap.size = g := ⟨_, rfl⟩
 have Y222 := Lib.hid (show w.heap.size < g218 ∧ w.heap.size + 1 < g218 ∧ g15 < g218 ∧ g25 < g218 ∧ g62 < g218 ∧ g75 < g218 ∧ g117 < g218 ∧ g150 < g218 ∧ g166 < g218 by rw [← hg220]; exact ⟨(kb K202 D217).lt, (kb K203 D217).lt, (kb K204 D217).lt, (kb K205 D217).lt, (kb K206 D217).lt, (kb K207 D217).lt, (kb K208 D217).lt, (kb K209 D217).lt, (kb K210 D217).lt⟩)
 obtain ⟨V219, hV221⟩ : ∃ V, w216.alloc (.cells #[.float .f64 0, .float .f64 0, .float .f64 0, .float .f64 0, .float .f64 0, .float .f64 0] 30) = V := ⟨_, rfl⟩
 have K223 := ka hV221 K202 D217
 have K224 := ka hV221 K203 D217
 have K225 := ka hV221 K204 D217
 have K226 := ka hV221 K205 D217
 have K227 := ka hV221 K206 D217
 have K228 := ka hV221 K207 D217
 have K229 := ka hV221 K208 D217
 have K230 := ka hV221 K209 D217
 have K231 := ka hV221 K210 D217
 have K232 := kn hV221 hg220
 have HB233 := hba hV221 HB211 D217
 have D234 := dr V219
 clear K202 K203 K204 K205 K206 K207 K208 K209 K210 HB211 D217
 have Y235 := Lib.hid (And.intro Y182.out Y222.out)
 clear Y182 Y222
 obtain ⟨g236, hg238⟩ : ∃ g, V219.heap.size = g := ⟨_, rfl⟩
 have Y240 := Lib.hid (show w.heap.size < g236 ∧ w.heap.size + 1 < g236 ∧ g15 < g236 ∧ g25 < g236 ∧ g62 < g236 ∧ g75 < g236 ∧ g117 < g236 ∧ g150 < g236 ∧ g166 < g236 ∧ g218 < g236 by rw [← hg238]; exact ⟨(kb K223 D234).lt, (kb K224 D234).lt, (kb K225 D234).lt, (kb K226 D234).lt, (kb K227 D234).lt, (kb K228 D234).lt, (kb K229 D234).lt, (kb K230 D234).lt, (kb K231 D234).lt, (kb K232 D234).lt⟩)
 obtain ⟨V237, hV239⟩ : ∃ V, V219.alloc (.cells #[.float .f64 0, .float .f64 0] 28) = V := ⟨_, rfl⟩
 have K241 := ka hV239 K223 D234
 have K242 := ka hV239 K224 D234
 have K243 := ka hV239 K225 D234
 have K244 := ka hV239 K226 D234
 have K245 := ka hV239 K227 D234
 have K246 := ka hV239 K228 D234
 have K247 := ka hV239 K229 D234
 have K248 := ka hV239 K230 D234
 have K249 := ka hV239 K231 D234
 have K250 := ka hV239 K232 D234
 have K251 := kn hV239 hg238
 have HB252 := hba hV239 HB233 D234
 have D253 := dr V237
 clear K223 K224 K225 K226 K227 K228 K229 K230 K231 K232 HB233 D234
 have Y254 := Lib.hid (And.intro Y235.out Y240.out)
 clear Y235 Y240
 have f257 := (kb K250 D253)
 obtain ⟨V255, hV256⟩ : ∃ V, World.setRow V237 (g218) #[.float .f64 0, .float .f64 0, .float .f64 0, .float .f64 0, .float .f64 0, .float .f64 0] = V := ⟨_, rfl⟩
 have K258 := kfr hV256 K241 D253 (by have := Y254.out; omega)
 have K259 := kfr hV256 K242 D253 (by have := Y254.out; omega)
 have K260 := kfr hV256 K243 D253 (by have := Y254.out; omega)
 have K261 := kfr hV256 K244 D253 (by have := Y254.out; omega)
 have K262 := kfr hV256 K245 D253 (by have := Y254.out; omega)
 have K263 := kfr hV256 K246 D253 (by have := Y254.out; omega)
 have K264 := kfr hV256 K247 D253 (by have := Y254.out; omega)
 have K265 := kfr hV256 K248 D253 (by have := Y254.out; omega)
 have K266 := kfr hV256 K249 D253 (by have := Y254.out; omega)
 have K267 := ksr hV256 K250 D253
 have K268 := kfr hV256 K251 D253 (by have := Y254.out; omega)
 have HB269 := hbr hV256 HB252 D253 (by have := Y254.out; omega)
 have D270 := dr V255
 clear K241 K242 K243 K244 K245 K246 K247 K248 K249 K250 K251 HB252 D253
 have f273 := (kb K268 D270).cellsL 0 [.float .f64 0, .float .f64 0] rfl
 dsimp only [CellsL, al, vl, Nat.reduceAdd] at f273
 have u274 := (kb K268 D270).unfrozen
 obtain ⟨V271, hV272⟩ : ∃ V, setCells V255 (g236) 0 [.float .f64 0, .float .f64 0] = V := ⟨_, rfl⟩
 have hv275 := hV272
 simp only [setCells, Nat.reduceAdd] at hv275
 have K276 := kf hV272 K258 D270 (by have := Y254.out; omega)
 have K277 := kf hV272 K259 D270 (by have := Y254.out; omega)
 have K278 := kf hV272 K260 D270 (by have := Y254.out; omega)
 have K279 := kf hV272 K261 D270 (by have := Y254.out; omega)
 have K280 := kf hV272 K262 D270 (by have := Y254.out; omega)
 have K281 := kf hV272 K263 D270 (by have := Y254.out; omega)
 have K282 := kf hV272 K264 D270 (by have := Y254.out; omega)
 have K283 := kf hV272 K265 D270 (by have := Y254.out; omega)
 have K284 := kf hV272 K266 D270 (by have := Y254.out; omega)
 have K285 := kf hV272 K267 D270 (by have := Y254.out; omega)
 have K286 := Lib.hid (show Blk V271 (g236) 28 #[.float .f64 0, .float .f64 0] from (ks hV272 K268 D270).out)
 have HB287 := hbs hV272 HB269 D270 (by have := Y254.out; omega)
 have D288 := dr V271
 clear K258 K259 K260 K261 K262 K263 K264 K265 K266 K267 K268 HB269 D270
 go_wp2_with (refine wpList_store_row rfl 30 _ _ rfl (g218) #[.float .f64 0, .float .f64 0, .float .f64 0, .float .f64 0, .float .f64 0, .float .f64 0] rfl rfl _ _ f257 (by rw [info_V3]; rfl) rfl (by kernel_rfl) ?_; rw [hV256])
 clear hg220 hV221 hg238 hV239 hV256 f257 hV272 f273 u274 hv275
 go_ret
 exact ⟨rfl, below_step HB287.out D288.out⟩
theorem bsdfStraight_b2 (n0 n1 n2 d0 d1 d2 : Nat) (hn0 : n0 < 18446744073709551616) (hn1 : n1 < 18446744073709551616) (hn2 : n2 < 18446744073709551616) (hd0 : d0 < 18446744073709551616) (hd1 : d1 < 18446744073709551616) (hd2 : d2 < 18446744073709551616) (hnn : nmB n0 n1 n2 = true) (hnd : nmB d0 d1 d2 = true) (g0 : 0 < Z (vLen (vOf n0 n1 n2)).lo) (g1 : 0 < Z (vLen (vOf d0 d1 d2)).lo) (f : V3) (c : Sp) (HF : ∀ w, Calls Try.prog 52 #[vval (vUnit (vOf n0 n1 n2)), vval (vUnit (vOf d0 d1 d2))] w fun r w' => r = .returned (.tuple #[vval f, .agg #[.float .f64 (c).lo, .float .f64 (c).hi], .int .i64 1]) ∧ Below w.heap.size w w') (HB : ∀ w, Calls Try.prog 57 #[vval f, vval (vUnit (vOf d0 d1 d2)), .agg #[.float .f64 (ofS 4607182418800017408).lo, .float .f64 (ofS 4607182418800017408).hi]] w fun r w' => r = .returned (.tuple #[.agg #[.float .f64 0, .float .f64 0, .float .f64 0, .float .f64 0, .float .f64 0, .float .f64 0], .agg #[.float .f64 0, .float .f64 0], .int .i64 2]) ∧ Below w.heap.size w w') (w : World) : Calls Try.prog 10 #[Value.agg #[.float .f64 n0, .float .f64 n1, .float .f64 n2], Value.agg #[.float .f64 d0, .float .f64 d1, .float .f64 d2]] w fun r w' => r = .returned (.bool true) ∧ Below w.heap.size w w' := by
 have C0 := Lib.hid (awake12)
 have C1 := Lib.hid (fun w => rnumbers_any n0 n1 n2 hn0 hn1 hn2 w)
 rw [hnn] at C1
 have C2 := Lib.hid (fun w => rnumbers_any d0 d1 d2 hd0 hd1 hd2 w)
 rw [hnd] at C2
 have C3 := Lib.hid (fun w => rofV_any n0 n1 n2 hn0 hn1 hn2 w)
 obtain ⟨p3, hp3⟩ : ∃ z_, vOf n0 n1 n2 = z_ := ⟨_, rfl⟩
 rw [hp3] at C3
 have C4 := Lib.hid (fun w => runitV_any p3 w)
 obtain ⟨p4, hp4⟩ : ∃ z_, vUnit p3 = z_ := ⟨_, rfl⟩
 rw [hp4] at C4
 obtain ⟨q5_, hq5_⟩ : ∃ z_, vLen p3 = z_ := ⟨_, rfl⟩
 rw [hq5_] at C4
 have C6 := Lib.hid (fun w => rofV_any d0 d1 d2 hd0 hd1 hd2 w)
 obtain ⟨p6, hp6⟩ : ∃ z_, vOf d0 d1 d2 = z_ := ⟨_, rfl⟩
 rw [hp6] at C6
 have C7 := Lib.hid (fun w => runitV_any p6 w)
 obtain ⟨p7, hp7⟩ : ∃ z_, vUnit p6 = z_ := ⟨_, rfl⟩
 rw [hp7] at C7
 obtain ⟨q8_, hq8_⟩ : ∃ z_, vLen p6 = z_ := ⟨_, rfl⟩
 rw [hq8_] at C7
 have e9 : (FloatKind.f64.format.order q5_.lo 0 == some .lt || FloatKind.f64.format.order q5_.lo 0 == some .eq) = false := by
   have hl : ¬ Z q5_.lo ≤ 0 := by rw [← hq5_, ← hp3]; exact (by omega)
   rw [le0_gd q5_.vd.l]; exact decide_eq_false hl
 have e10 : (FloatKind.f64.format.order q8_.lo 0 == some .lt || FloatKind.f64.format.order q8_.lo 0 == some .eq) = false := by
   have hl : ¬ Z q8_.lo ≤ 0 := by rw [← hq8_, ← hp6]; exact (by omega)
   rw [le0_gd q8_.vd.l]; exact decide_eq_false hl
 have C11 := Lib.hid (fun w => rof_sp 4607182418800017408 (by decide) w)
 obtain ⟨p11, hp11⟩ : ∃ z_, ofS 4607182418800017408 = z_ := ⟨_, rfl⟩
 rw [hp11] at C11
 have C12 := Lib.hid (fun w => HF w)
 simp only [hp3, hp4, hq5_, hp6, hp7, hq8_, hp11] at C12
 have C13 := Lib.hid (fun w => HB w)
 simp only [hp3, hp4, hq5_, hp6, hp7, hq8_, hp11] at C13
 clear hp3 hp4 hq5_ hp6 hp7 hq8_ hp11
 go_enter Try.func10, Try.ntmps10
 go_wp2_with fail
 obtain ⟨W, hW, K0, K1, hB, hz⟩ := bx2 w 24 24 #[.float .f64 n0, .float .f64 n1, .float .f64 n2] #[.float .f64 d0, .float .f64 d1, .float .f64 d2]
 rw [← hW]
 have K0 := Lib.hid K0
 have K1 := Lib.hid K1
 have HB := Lib.hid hB
 clear hW hB hz
 have D1 := dr W
 refine (C0.out _).mono ?_
 rintro r w2 ⟨rfl, hb⟩
 have D3 := ds D1 hb
 clear D1
 clear hb
 have hq4 := (kb K0 D3).cellsL 0 [.float .f64 n0, .float .f64 n1, .float .f64 n2] rfl
 dsimp only [CellsL, al, vl, Nat.reduceAdd] at hq4
 go_wp2_with fail
 clear hq4
 refine (C1.out _).mono ?_
 rintro r w5 ⟨rfl, hb⟩
 have D6 := ds D3 hb
 clear D3
 clear hb
 have hq7 := (kb K1 D6).cellsL 0 [.float .f64 d0, .float .f64 d1, .float .f64 d2] rfl
 dsimp only [CellsL, al, vl, Nat.reduceAdd] at hq7
 go_wp2_with fail
 clear hq7
 refine (C2.out _).mono ?_
 rintro r w8 ⟨rfl, hb⟩
 have D9 := ds D6 hb
 clear D6
 clear hb
 have hq10 := (kb K0 D9).cellsL 0 [.float .f64 n0, .float .f64 n1, .float .f64 n2] rfl
 dsimp only [CellsL, al, vl, Nat.reduceAdd] at hq10
 go_wp2_with fail
 clear hq10
 refine (C3.out _).mono ?_
 rintro r w11 ⟨rfl, hb⟩
 have D12 := ds D9 hb
 clear D9
 clear hb
 go_wp2_with fail
 refine (C4.out _).mono ?_
 rintro r w13 ⟨rfl, hb⟩
 have D14 := ds D12 hb
 clear D12
 clear hb
 obtain ⟨g15, hg17⟩ : ∃ g, w13.heap.size = g := ⟨_, rfl⟩
 have Y19 := Lib.hid (show w.heap.size < g15 ∧ w.heap.size + 1 < g15 by rw [← hg17]; exact ⟨(kb K0 D14).lt, (kb K1 D14).lt⟩)
 obtain ⟨V16, hV18⟩ : ∃ V, w13.alloc (.cells #[.float .f64 0, .float .f64 0, .float .f64 0, .float .f64 0, .float .f64 0, .float .f64 0] 30) = V := ⟨_, rfl⟩
 have K20 := ka hV18 K0 D14
 have K21 := ka hV18 K1 D14
 have K22 := kn hV18 hg17
 have HB23 := hba hV18 HB D14
 have D24 := dr V16
 clear K0 K1 HB D14
 obtain ⟨g25, hg27⟩ : ∃ g, V16.heap.size = g := ⟨_, rfl⟩
 have Y29 := Lib.hid (show w.heap.size < g25 ∧ w.heap.size + 1 < g25 ∧ g15 < g25 by rw [← hg27]; exact ⟨(kb K20 D24).lt, (kb K21 D24).lt, (kb K22 D24).lt⟩)
 obtain ⟨V26, hV28⟩ : ∃ V, V16.alloc (.cells #[.float .f64 0, .float .f64 0] 28) = V := ⟨_, rfl⟩
 have K30 := ka hV28 K20 D24
 have K31 := ka hV28 K21 D24
 have K32 := ka hV28 K22 D24
 have K33 := kn hV28 hg27
 have HB34 := hba hV28 HB23 D24
 have D35 := dr V26
 clear K20 K21 K22 HB23 D24
 have Y36 := Lib.hid (And.intro Y19.out Y29.out)
 clear Y19 Y29
 have f39 := (kb K32 D35)
 obtain ⟨V37, hV38⟩ : ∃ V, World.setRow V26 (g15) (vc p4) = V := ⟨_, rfl⟩
 have K40 := kfr hV38 K30 D35 (by have := Y36.out; omega)
 have K41 := kfr hV38 K31 D35 (by have := Y36.out; omega)
 have K42 := ksr hV38 K32 D35
 have K43 := kfr hV38 K33 D35 (by have := Y36.out; omega)
 have HB44 := hbr hV38 HB34 D35 (by have := Y36.out; omega)
 have D45 := dr V37
 clear K30 K31 K32 K33 HB34 D35
 have f48 := (kb K43 D45).cellsL 0 [.float .f64 0, .float .f64 0] rfl
 dsimp only [CellsL, al, vl, Nat.reduceAdd] at f48
 have u49 := (kb K43 D45).unfrozen
 obtain ⟨V46, hV47⟩ : ∃ V, setCells V37 (g25) 0 [.float .f64 q5_.lo, .float .f64 q5_.hi] = V := ⟨_, rfl⟩
 have hv50 := hV47
 simp only [setCells, Nat.reduceAdd] at hv50
 have K51 := kf hV47 K40 D45 (by have := Y36.out; omega)
 have K52 := kf hV47 K41 D45 (by have := Y36.out; omega)
 have K53 := kf hV47 K42 D45 (by have := Y36.out; omega)
 have K54 := Lib.hid (show Blk V46 (g25) 28 #[.float .f64 q5_.lo, .float .f64 q5_.hi] from (ks hV47 K43 D45).out)
 have HB55 := hbs hV47 HB44 D45 (by have := Y36.out; omega)
 have D56 := dr V46
 clear K40 K41 K42 K43 HB44 D45
 have hq57 := (kb K52 D56).cellsL 0 [.float .f64 d0, .float .f64 d1, .float .f64 d2] rfl
 dsimp only [CellsL, al, vl, Nat.reduceAdd] at hq57
 go_wp2_with (refine wpList_store_row rfl 30 _ _ rfl (g15) (vc p4) rfl rfl _ _ f39 (by rw [info_V3]; rfl) rfl (by kernel_rfl) ?_; rw [hV38])
 clear hg17 hV18 hg27 hV28 hV38 f39 hV47 f48 u49 hv50 hq57
 refine (C6.out _).mono ?_
 rintro r w58 ⟨rfl, hb⟩
 have D59 := ds D56 hb
 clear D56
 clear hb
 go_wp2_with fail
 refine (C7.out _).mono ?_
 rintro r w60 ⟨rfl, hb⟩
 have D61 := ds D59 hb
 clear D59
 clear hb
 obtain ⟨g62, hg64⟩ : ∃ g, w60.heap.size = g := ⟨_, rfl⟩
 have Y66 := Lib.hid (show w.heap.size < g62 ∧ w.heap.size + 1 < g62 ∧ g15 < g62 ∧ g25 < g62 by rw [← hg64]; exact ⟨(kb K51 D61).lt, (kb K52 D61).lt, (kb K53 D61).lt, (kb K54 D61).lt⟩)
 obtain ⟨V63, hV65⟩ : ∃ V, w60.alloc (.cells #[.float .f64 0, .float .f64 0, .float .f64 0, .float .f64 0, .float .f64 0, .float .f64 0] 30) = V := ⟨_, rfl⟩
 have K67 := ka hV65 K51 D61
 have K68 := ka hV65 K52 D61
 have K69 := ka hV65 K53 D61
 have K70 := ka hV65 K54 D61
 have K71 := kn hV65 hg64
 have HB72 := hba hV65 HB55 D61
 have D73 := dr V63
 clear K51 K52 K53 K54 HB55 D61
 have Y74 := Lib.hid (And.intro Y36.out Y66.out)
 clear Y36 Y66
 obtain ⟨g75, hg77⟩ : ∃ g, V63.heap.size = g := ⟨_, rfl⟩
 have Y79 := Lib.hid (show w.heap.size < g75 ∧ w.heap.size + 1 < g75 ∧ g15 < g75 ∧ g25 < g75 ∧ g62 < g75 by rw [← hg77]; exact ⟨(kb K67 D73).lt, (kb K68 D73).lt, (kb K69 D73).lt, (kb K70 D73).lt, (kb K71 D73).lt⟩)
 obtain ⟨V76, hV78⟩ : ∃ V, V63.alloc (.cells #[.float .f64 0, .float .f64 0] 28) = V := ⟨_, rfl⟩
 have K80 := ka hV78 K67 D73
 have K81 := ka hV78 K68 D73
 have K82 := ka hV78 K69 D73
 have K83 := ka hV78 K70 D73
 have K84 := ka hV78 K71 D73
 have K85 := kn hV78 hg77
 have HB86 := hba hV78 HB72 D73
 have D87 := dr V76
 clear K67 K68 K69 K70 K71 HB72 D73
 have Y88 := Lib.hid (And.intro Y74.out Y79.out)
 clear Y74 Y79
 have f91 := (kb K84 D87)
 obtain ⟨V89, hV90⟩ : ∃ V, World.setRow V76 (g62) (vc p7) = V := ⟨_, rfl⟩
 have K92 := kfr hV90 K80 D87 (by have := Y88.out; omega)
 have K93 := kfr hV90 K81 D87 (by have := Y88.out; omega)
 have K94 := kfr hV90 K82 D87 (by have := Y88.out; omega)
 have K95 := kfr hV90 K83 D87 (by have := Y88.out; omega)
 have K96 := ksr hV90 K84 D87
 have K97 := kfr hV90 K85 D87 (by have := Y88.out; omega)
 have HB98 := hbr hV90 HB86 D87 (by have := Y88.out; omega)
 have D99 := dr V89
 clear K80 K81 K82 K83 K84 K85 HB86 D87
 have f102 := (kb K97 D99).cellsL 0 [.float .f64 0, .float .f64 0] rfl
 dsimp only [CellsL, al, vl, Nat.reduceAdd] at f102
 have u103 := (kb K97 D99).unfrozen
 obtain ⟨V100, hV101⟩ : ∃ V, setCells V89 (g75) 0 [.float .f64 q8_.lo, .float .f64 q8_.hi] = V := ⟨_, rfl⟩
 have hv104 := hV101
 simp only [setCells, Nat.reduceAdd] at hv104
 have K105 := kf hV101 K92 D99 (by have := Y88.out; omega)
 have K106 := kf hV101 K93 D99 (by have := Y88.out; omega)
 have K107 := kf hV101 K94 D99 (by have := Y88.out; omega)
 have K108 := kf hV101 K95 D99 (by have := Y88.out; omega)
 have K109 := kf hV101 K96 D99 (by have := Y88.out; omega)
 have K110 := Lib.hid (show Blk V100 (g75) 28 #[.float .f64 q8_.lo, .float .f64 q8_.hi] from (ks hV101 K97 D99).out)
 have HB111 := hbs hV101 HB98 D99 (by have := Y88.out; omega)
 have D112 := dr V100
 clear K92 K93 K94 K95 K96 K97 HB98 D99
 have hq113 := (kb K108 D112).cellsL 0 [.float .f64 q5_.lo] rfl
 dsimp only [CellsL, al, vl, Nat.reduceAdd] at hq113
 have hq114 := (kb K110 D112).cellsL 0 [.float .f64 q8_.lo] rfl
 dsimp only [CellsL, al, vl, Nat.reduceAdd] at hq114
 go_wp2_with (refine wpList_store_row rfl 30 _ _ rfl (g62) (vc p7) rfl rfl _ _ f91 (by rw [info_V3]; rfl) rfl (by kernel_rfl) ?_; rw [hV90])
 clear hg64 hV65 hg77 hV78 hV90 f91 hV101 f102 u103 hv104 hq113 hq114
 refine (C11.out _).mono ?_
 rintro r w115 ⟨rfl, hb⟩
 have D116 := ds D112 hb
 clear D112
 clear hb
 obtain ⟨g117, hg119⟩ : ∃ g, w115.heap.size = g := ⟨_, rfl⟩
 have Y121 := Lib.hid (show w.heap.size < g117 ∧ w.heap.size + 1 < g117 ∧ g15 < g117 ∧ g25 < g117 ∧ g62 < g117 ∧ g75 < g117 by rw [← hg119]; exact ⟨(kb K105 D116).lt, (kb K106 D116).lt, (kb K107 D116).lt, (kb K108 D116).lt, (kb K109 D116).lt, (kb K110 D116).lt⟩)
 obtain ⟨V118, hV120⟩ : ∃ V, w115.alloc (.cells #[.float .f64 0, .float .f64 0] 28) = V := ⟨_, rfl⟩
 have K122 := ka hV120 K105 D116
 have K123 := ka hV120 K106 D116
 have K124 := ka hV120 K107 D116
 have K125 := ka hV120 K108 D116
 have K126 := ka hV120 K109 D116
 have K127 := ka hV120 K110 D116
 have K128 := kn hV120 hg119
 have HB129 := hba hV120 HB111 D116
 have D130 := dr V118
 clear K105 K106 K107 K108 K109 K110 HB111 D116
 have Y131 := Lib.hid (And.intro Y88.out Y121.out)
 clear Y88 Y121
 have f134 := (kb K128 D130).cellsL 0 [.float .f64 0, .float .f64 0] rfl
 dsimp only [CellsL, al, vl, Nat.reduceAdd] at f134
 have u135 := (kb K128 D130).unfrozen
 obtain ⟨V132, hV133⟩ : ∃ V, setCells V118 (g117) 0 [.float .f64 p11.lo, .float .f64 p11.hi] = V := ⟨_, rfl⟩
 have hv136 := hV133
 simp only [setCells, Nat.reduceAdd] at hv136
 have K137 := kf hV133 K122 D130 (by have := Y131.out; omega)
 have K138 := kf hV133 K123 D130 (by have := Y131.out; omega)
 have K139 := kf hV133 K124 D130 (by have := Y131.out; omega)
 have K140 := kf hV133 K125 D130 (by have := Y131.out; omega)
 have K141 := kf hV133 K126 D130 (by have := Y131.out; omega)
 have K142 := kf hV133 K127 D130 (by have := Y131.out; omega)
 have K143 := Lib.hid (show Blk V132 (g117) 28 #[.float .f64 p11.lo, .float .f64 p11.hi] from (ks hV133 K128 D130).out)
 have HB144 := hbs hV133 HB129 D130 (by have := Y131.out; omega)
 have D145 := dr V132
 clear K122 K123 K124 K125 K126 K127 K128 HB129 D130
 have f146 := (kb K139 D145)
 have f147 := (kb K141 D145)
 go_wp2_with (first | (refine wl_load (by kernel_rfl) rfl rfl f146 (by rw [info_V3]; rfl) Try.underlying30 rfl ?_) | (refine wl_load (by kernel_rfl) rfl rfl f147 (by rw [info_V3]; rfl) Try.underlying30 rfl ?_))
 clear hg119 hV120 hV133 f134 u135 hv136 f146 f147
 refine (C12.out _).mono ?_
 rintro r w148 ⟨rfl, hb⟩
 have D149 := ds D145 hb
 clear D145
 clear hb
 obtain ⟨g150, hg152⟩ : ∃ g, w148.heap.size = g := ⟨_, rfl⟩
 have Y154 := Lib.hid (show w.heap.size < g150 ∧ w.heap.size + 1 < g150 ∧ g15 < g150 ∧ g25 < g150 ∧ g62 < g150 ∧ g75 < g150 ∧ g117 < g150 by rw [← hg152]; exact ⟨(kb K137 D149).lt, (kb K138 D149).lt, (kb K139 D149).lt, (kb K140 D149).lt, (kb K141 D149).lt, (kb K142 D149).lt, (kb K143 D149).lt⟩)
 obtain ⟨V151, hV153⟩ : ∃ V, w148.alloc (.cells #[.float .f64 0, .float .f64 0, .float .f64 0, .float .f64 0, .float .f64 0, .float .f64 0] 30) = V := ⟨_, rfl⟩
 have K155 := ka hV153 K137 D149
 have K156 := ka hV153 K138 D149
 have K157 := ka hV153 K139 D149
 have K158 := ka hV153 K140 D149
 have K159 := ka hV153 K141 D149
 have K160 := ka hV153 K142 D149
 have K161 := ka hV153 K143 D149
 have K162 := kn hV153 hg152
 have HB163 := hba hV153 HB144 D149
 have D164 := dr V151
 clear K137 K138 K139 K140 K141 K142 K143 HB144 D149
 have Y165 := Lib.hid (And.intro Y131.out Y154.out)
 clear Y131 Y154
 obtain ⟨g166, hg168⟩ : ∃ g, V151.heap.size = g := ⟨_, rfl⟩
 have Y170 := Lib.hid (show w.heap.size < g166 ∧ w.heap.size + 1 < g166 ∧ g15 < g166 ∧ g25 < g166 ∧ g62 < g166 ∧ g75 < g166 ∧ g117 < g166 ∧ g150 < g166 by rw [← hg168]; exact ⟨(kb K155 D164).lt, (kb K156 D164).lt, (kb K157 D164).lt, (kb K158 D164).lt, (kb K159 D164).lt, (kb K160 D164).lt, (kb K161 D164).lt, (kb K162 D164).lt⟩)
 obtain ⟨V167, hV169⟩ : ∃ V, V151.alloc (.cells #[.float .f64 0, .float .f64 0] 28) = V := ⟨_, rfl⟩
 have K171 := ka hV169 K155 D164
 have K172 := ka hV169 K156 D164
 have K173 := ka hV169 K157 D164
 have K174 := ka hV169 K158 D164
 have K175 := ka hV169 K159 D164
 have K176 := ka hV169 K160 D164
 have K177 := ka hV169 K161 D164
 have K178 := ka hV169 K162 D164
 have K179 := kn hV169 hg168
 have HB180 := hba hV169 HB163 D164
 have D181 := dr V167
 clear K155 K156 K157 K158 K159 K160 K161 K162 HB163 D164
 have Y182 := Lib.hid (And.intro Y165.out Y170.out)
 clear Y165 Y170
 have f185 := (kb K178 D181)
 obtain ⟨V183, hV184⟩ : ∃ V, World.setRow V167 (g150) (vc f) = V := ⟨_, rfl⟩
 have K186 := kfr hV184 K171 D181 (by have := Y182.out; omega)
 have K187 := kfr hV184 K172 D181 (by have := Y182.out; omega)
 have K188 := kfr hV184 K173 D181 (by have := Y182.out; omega)
 have K189 := kfr hV184 K174 D181 (by have := Y182.out; omega)
 have K190 := kfr hV184 K175 D181 (by have := Y182.out; omega)
 have K191 := kfr hV184 K176 D181 (by have := Y182.out; omega)
 have K192 := kfr hV184 K177 D181 (by have := Y182.out; omega)
 have K193 := ksr hV184 K178 D181
 have K194 := kfr hV184 K179 D181 (by have := Y182.out; omega)
 have HB195 := hbr hV184 HB180 D181 (by have := Y182.out; omega)
 have D196 := dr V183
 clear K171 K172 K173 K174 K175 K176 K177 K178 K179 HB180 D181
 have f199 := (kb K194 D196).cellsL 0 [.float .f64 0, .float .f64 0] rfl
 dsimp only [CellsL, al, vl, Nat.reduceAdd] at f199
 have u200 := (kb K194 D196).unfrozen
 obtain ⟨V197, hV198⟩ : ∃ V, setCells V183 (g166) 0 [.float .f64 c.lo, .float .f64 c.hi] = V := ⟨_, rfl⟩
 have hv201 := hV198
 simp only [setCells, Nat.reduceAdd] at hv201
 have K202 := kf hV198 K186 D196 (by have := Y182.out; omega)
 have K203 := kf hV198 K187 D196 (by have := Y182.out; omega)
 have K204 := kf hV198 K188 D196 (by have := Y182.out; omega)
 have K205 := kf hV198 K189 D196 (by have := Y182.out; omega)
 have K206 := kf hV198 K190 D196 (by have := Y182.out; omega)
 have K207 := kf hV198 K191 D196 (by have := Y182.out; omega)
 have K208 := kf hV198 K192 D196 (by have := Y182.out; omega)
 have K209 := kf hV198 K193 D196 (by have := Y182.out; omega)
 have K210 := Lib.hid (show Blk V197 (g166) 28 #[.float .f64 c.lo, .float .f64 c.hi] from (ks hV198 K194 D196).out)
 have HB211 := hbs hV198 HB195 D196 (by have := Y182.out; omega)
 have D212 := dr V197
 clear K186 K187 K188 K189 K190 K191 K192 K193 K194 HB195 D196
 have f213 := (kb K206 D212)
 have f214 := (kb K209 D212)
 have hq215 := (kb K208 D212).cellsL 0 [.float .f64 p11.lo, .float .f64 p11.hi] rfl
 dsimp only [CellsL, al, vl, Nat.reduceAdd] at hq215
 go_wp2_with (first | (refine wpList_store_row rfl 30 _ _ rfl (g150) (vc f) rfl rfl _ _ f185 (by rw [info_V3]; rfl) rfl (by kernel_rfl) ?_; rw [hV184]) | (refine wl_load (by kernel_rfl) rfl rfl f213 (by rw [info_V3]; rfl) Try.underlying30 rfl ?_) | (refine wl_load (by kernel_rfl) rfl rfl f214 (by rw [info_V3]; rfl) Try.underlying30 rfl ?_))
 clear hg152 hV153 hg168 hV169 hV184 f185 hV198 f199 u200 hv201 f213 f214 hq215
 refine (C13.out _).mono ?_
 rintro r w216 ⟨rfl, hb⟩
 have D217 := ds D212 hb
 clear D212
 clear hb
 obtain ⟨g218, hg220⟩ : ∃ g, w216.heap.size = g := ⟨_, rfl⟩
 have Y222 := Lib.hid (show w.heap.size < g218 ∧ w.heap.size + 1 < g218 ∧ g15 < g218 ∧ g25 < g218 ∧ g62 < g218 ∧ g75 < g218 ∧ g117 < g218 ∧ g150 < g218 ∧ g166 < g218 by rw [← hg220]; exact ⟨(kb K202 D217).lt, (kb K203 D217).lt, (kb K204 D217).lt, (kb K205 D217).lt, (kb K206 D217).lt, (kb K207 D217).lt, (kb K208 D217).lt, (kb K209 D217).lt, (kb K210 D217).lt⟩)
 obtain ⟨V219, hV221⟩ : ∃ V, w216.alloc (.cells #[.float .f64 0, .float .f64 0, .float .f64 0, .float .f64 0, .float .f64 0, .float .f64 0] 30) = V := ⟨_, rfl⟩
 have K223 := ka hV221 K202 D217
 have K224 := ka hV221 K203 D217
 have K225 := ka hV221 K204 D217
 have K226 := ka hV221 K205 D217
 have K227 := ka hV221 K206 D217
 have K228 := ka hV221 K207 D217
 have K229 := ka hV221 K208 D217
 have K230 := ka hV221 K209 D217
 have K231 := ka hV221 K210 D217
 have K232 := kn hV221 hg220
 have HB233 := hba hV221 HB211 D217
 have D234 := dr V219
 clear K202 K203 K204 K205 K206 K207 K208 K209 K210 HB211 D217
 have Y235 := Lib.hid (And.intro Y182.out Y222.out)
 clear Y182 Y222
 obtain ⟨g236, hg238⟩ : ∃ g, V219.heap.size = g := ⟨_, rfl⟩
 have Y240 := Lib.hid (show w.heap.size < g236 ∧ w.heap.size + 1 < g236 ∧ g15 < g236 ∧ g25 < g236 ∧ g62 < g236 ∧ g75 < g236 ∧ g117 < g236 ∧ g150 < g236 ∧ g166 < g236 ∧ g218 < g236 by rw [← hg238]; exact ⟨(kb K223 D234).lt, (kb K224 D234).lt, (kb K225 D234).lt, (kb K226 D234).lt, (kb K227 D234).lt, (kb K228 D234).lt, (kb K229 D234).lt, (kb K230 D234).lt, (kb K231 D234).lt, (kb K232 D234).lt⟩)
 obtain ⟨V237, hV239⟩ : ∃ V, V219.alloc (.cells #[.float .f64 0, .float .f64 0] 28) = V := ⟨_, rfl⟩
 have K241 := ka hV239 K223 D234
 have K242 := ka hV239 K224 D234
 have K243 := ka hV239 K225 D234
 have K244 := ka hV239 K226 D234
 have K245 := ka hV239 K227 D234
 have K246 := ka hV239 K228 D234
 have K247 := ka hV239 K229 D234
 have K248 := ka hV239 K230 D234
 have K249 := ka hV239 K231 D234
 have K250 := ka hV239 K232 D234
 have K251 := kn hV239 hg238
 have HB252 := hba hV239 HB233 D234
 have D253 := dr V237
 clear K223 K224 K225 K226 K227 K228 K229 K230 K231 K232 HB233 D234
 have Y254 := Lib.hid (And.intro Y235.out Y240.out)
 clear Y235 Y240
 have f257 := (kb K250 D253)
 obtain ⟨V255, hV256⟩ : ∃ V, World.setRow V237 (g218) #[.float .f64 0, .float .f64 0, .float .f64 0, .float .f64 0, .float .f64 0, .float .f64 0] = V := ⟨_, rfl⟩
 have K258 := kfr hV256 K241 D253 (by have := Y254.out; omega)
 have K259 := kfr hV256 K242 D253 (by have := Y254.out; omega)
 have K260 := kfr hV256 K243 D253 (by have := Y254.out; omega)
 have K261 := kfr hV256 K244 D253 (by have := Y254.out; omega)
 have K262 := kfr hV256 K245 D253 (by have := Y254.out; omega)
 have K263 := kfr hV256 K246 D253 (by have := Y254.out; omega)
 have K264 := kfr hV256 K247 D253 (by have := Y254.out; omega)
 have K265 := kfr hV256 K248 D253 (by have := Y254.out; omega)
 have K266 := kfr hV256 K249 D253 (by have := Y254.out; omega)
 have K267 := ksr hV256 K250 D253
 have K268 := kfr hV256 K251 D253 (by have := Y254.out; omega)
 have HB269 := hbr hV256 HB252 D253 (by have := Y254.out; omega)
 have D270 := dr V255
 clear K241 K242 K243 K244 K245 K246 K247 K248 K249 K250 K251 HB252 D253
 have f273 := (kb K268 D270).cellsL 0 [.float .f64 0, .float .f64 0] rfl
 dsimp only [CellsL, al, vl, Nat.reduceAdd] at f273
 have u274 := (kb K268 D270).unfrozen
 obtain ⟨V271, hV272⟩ : ∃ V, setCells V255 (g236) 0 [.float .f64 0, .float .f64 0] = V := ⟨_, rfl⟩
 have hv275 := hV272
 simp only [setCells, Nat.reduceAdd] at hv275
 have K276 := kf hV272 K258 D270 (by have := Y254.out; omega)
 have K277 := kf hV272 K259 D270 (by have := Y254.out; omega)
 have K278 := kf hV272 K260 D270 (by have := Y254.out; omega)
 have K279 := kf hV272 K261 D270 (by have := Y254.out; omega)
 have K280 := kf hV272 K262 D270 (by have := Y254.out; omega)
 have K281 := kf hV272 K263 D270 (by have := Y254.out; omega)
 have K282 := kf hV272 K264 D270 (by have := Y254.out; omega)
 have K283 := kf hV272 K265 D270 (by have := Y254.out; omega)
 have K284 := kf hV272 K266 D270 (by have := Y254.out; omega)
 have K285 := kf hV272 K267 D270 (by have := Y254.out; omega)
 have K286 := Lib.hid (show Blk V271 (g236) 28 #[.float .f64 0, .float .f64 0] from (ks hV272 K268 D270).out)
 have HB287 := hbs hV272 HB269 D270 (by have := Y254.out; omega)
 have D288 := dr V271
 clear K258 K259 K260 K261 K262 K263 K264 K265 K266 K267 K268 HB269 D270
 go_wp2_with (refine wpList_store_row rfl 30 _ _ rfl (g218) #[.float .f64 0, .float .f64 0, .float .f64 0, .float .f64 0, .float .f64 0, .float .f64 0] rfl rfl _ _ f257 (by rw [info_V3]; rfl) rfl (by kernel_rfl) ?_; rw [hV256])
 clear hg220 hV221 hg238 hV239 hV256 f257 hV272 f273 u274 hv275
 go_ret
 exact ⟨rfl, below_step HB287.out D288.out⟩
theorem bsdfStraight_b0 (n0 n1 n2 d0 d1 d2 : Nat) (hn0 : n0 < 18446744073709551616) (hn1 : n1 < 18446744073709551616) (hn2 : n2 < 18446744073709551616) (hd0 : d0 < 18446744073709551616) (hd1 : d1 < 18446744073709551616) (hd2 : d2 < 18446744073709551616) (hnn : nmB n0 n1 n2 = true) (hnd : nmB d0 d1 d2 = true) (g0 : 0 < Z (vLen (vOf n0 n1 n2)).lo) (g1 : 0 < Z (vLen (vOf d0 d1 d2)).lo) (f : V3) (c : Sp) (HF : ∀ w, Calls Try.prog 52 #[vval (vUnit (vOf n0 n1 n2)), vval (vUnit (vOf d0 d1 d2))] w fun r w' => r = .returned (.tuple #[vval f, .agg #[.float .f64 (c).lo, .float .f64 (c).hi], .int .i64 1]) ∧ Below w.heap.size w w') (HB : ∀ w, Calls Try.prog 57 #[vval f, vval (vUnit (vOf d0 d1 d2)), .agg #[.float .f64 (ofS 4607182418800017408).lo, .float .f64 (ofS 4607182418800017408).hi]] w fun r w' => r = .returned (.tuple #[.agg #[.float .f64 0, .float .f64 0, .float .f64 0, .float .f64 0, .float .f64 0, .float .f64 0], .agg #[.float .f64 0, .float .f64 0], .int .i64 0]) ∧ Below w.heap.size w w') (hc : Z c.lo ≤ 0) (w : World) : Calls Try.prog 10 #[Value.agg #[.float .f64 n0, .float .f64 n1, .float .f64 n2], Value.agg #[.float .f64 d0, .float .f64 d1, .float .f64 d2]] w fun r w' => r = .returned (.bool true) ∧ Below w.heap.size w w' := by
 have C0 := Lib.hid (awake12)
 have C1 := Lib.hid (fun w => rnumbers_any n0 n1 n2 hn0 hn1 hn2 w)
 rw [hnn] at C1
 have C2 := Lib.hid (fun w => rnumbers_any d0 d1 d2 hd0 hd1 hd2 w)
 rw [hnd] at C2
 have C3 := Lib.hid (fun w => rofV_any n0 n1 n2 hn0 hn1 hn2 w)
 obtain ⟨p3, hp3⟩ : ∃ z_, vOf n0 n1 n2 = z_ := ⟨_, rfl⟩
 rw [hp3] at C3
 have C4 := Lib.hid (fun w => runitV_any p3 w)
 obtain ⟨p4, hp4⟩ : ∃ z_, vUnit p3 = z_ := ⟨_, rfl⟩
 rw [hp4] at C4
 obtain ⟨q5_, hq5_⟩ : ∃ z_, vLen p3 = z_ := ⟨_, rfl⟩
 rw [hq5_] at C4
 have C6 := Lib.hid (fun w => rofV_any d0 d1 d2 hd0 hd1 hd2 w)
 obtain ⟨p6, hp6⟩ : ∃ z_, vOf d0 d1 d2 = z_ := ⟨_, rfl⟩
 rw [hp6] at C6
 have C7 := Lib.hid (fun w => runitV_any p6 w)
 obtain ⟨p7, hp7⟩ : ∃ z_, vUnit p6 = z_ := ⟨_, rfl⟩
 rw [hp7] at C7
 obtain ⟨q8_, hq8_⟩ : ∃ z_, vLen p6 = z_ := ⟨_, rfl⟩
 rw [hq8_] at C7
 have e9 : (FloatKind.f64.format.order q5_.lo 0 == some .lt || FloatKind.f64.format.order q5_.lo 0 == some .eq) = false := by
   have hl : ¬ Z q5_.lo ≤ 0 := by rw [← hq5_, ← hp3]; exact (by omega)
   rw [le0_gd q5_.vd.l]; exact decide_eq_false hl
 have e10 : (FloatKind.f64.format.order q8_.lo 0 == some .lt || FloatKind.f64.format.order q8_.lo 0 == some .eq) = false := by
   have hl : ¬ Z q8_.lo ≤ 0 := by rw [← hq8_, ← hp6]; exact (by omega)
   rw [le0_gd q8_.vd.l]; exact decide_eq_false hl
 have C11 := Lib.hid (fun w => rof_sp 4607182418800017408 (by decide) w)
 obtain ⟨p11, hp11⟩ : ∃ z_, ofS 4607182418800017408 = z_ := ⟨_, rfl⟩
 rw [hp11] at C11
 have C12 := Lib.hid (fun w => HF w)
 simp only [hp3, hp4, hq5_, hp6, hp7, hq8_, hp11] at C12
 have C13 := Lib.hid (fun w => HB w)
 simp only [hp3, hp4, hq5_, hp6, hp7, hq8_, hp11] at C13
 have ec : (FloatKind.f64.format.order c.lo 0 == some .lt || FloatKind.f64.format.order c.lo 0 == some .eq) = true := by rw [le0_gd c.vd.l]; exact decide_eq_true hc
 clear hp3 hp4 hq5_ hp6 hp7 hq8_ hp11
 go_enter Try.func10, Try.ntmps10
 go_wp2_with fail
 obtain ⟨W, hW, K0, K1, hB, hz⟩ := bx2 w 24 24 #[.float .f64 n0, .float .f64 n1, .float .f64 n2] #[.float .f64 d0, .float .f64 d1, .float .f64 d2]
 rw [← hW]
 have K0 := Lib.hid K0
 have K1 := Lib.hid K1
 have HB := Lib.hid hB
 clear hW hB hz
 have D1 := dr W
 refine (C0.out _).mono ?_
 rintro r w2 ⟨rfl, hb⟩
 have D3 := ds D1 hb
 clear D1
 clear hb
 have hq4 := (kb K0 D3).cellsL 0 [.float .f64 n0, .float .f64 n1, .float .f64 n2] rfl
 dsimp only [CellsL, al, vl, Nat.reduceAdd] at hq4
 go_wp2_with fail
 clear hq4
 refine (C1.out _).mono ?_
 rintro r w5 ⟨rfl, hb⟩
 have D6 := ds D3 hb
 clear D3
 clear hb
 have hq7 := (kb K1 D6).cellsL 0 [.float .f64 d0, .float .f64 d1, .float .f64 d2] rfl
 dsimp only [CellsL, al, vl, Nat.reduceAdd] at hq7
 go_wp2_with fail
 clear hq7
 refine (C2.out _).mono ?_
 rintro r w8 ⟨rfl, hb⟩
 have D9 := ds D6 hb
 clear D6
 clear hb
 have hq10 := (kb K0 D9).cellsL 0 [.float .f64 n0, .float .f64 n1, .float .f64 n2] rfl
 dsimp only [CellsL, al, vl, Nat.reduceAdd] at hq10
 go_wp2_with fail
 clear hq10
 refine (C3.out _).mono ?_
 rintro r w11 ⟨rfl, hb⟩
 have D12 := ds D9 hb
 clear D9
 clear hb
 go_wp2_with fail
 refine (C4.out _).mono ?_
 rintro r w13 ⟨rfl, hb⟩
 have D14 := ds D12 hb
 clear D12
 clear hb
 obtain ⟨g15, hg17⟩ : ∃ g, w13.heap.size = g := ⟨_, rfl⟩
 have Y19 := Lib.hid (show w.heap.size < g15 ∧ w.heap.size + 1 < g15 by rw [← hg17]; exact ⟨(kb K0 D14).lt, (kb K1 D14).lt⟩)
 obtain ⟨V16, hV18⟩ : ∃ V, w13.alloc (.cells #[.float .f64 0, .float .f64 0, .float .f64 0, .float .f64 0, .float .f64 0, .float .f64 0] 30) = V := ⟨_, rfl⟩
 have K20 := ka hV18 K0 D14
 have K21 := ka hV18 K1 D14
 have K22 := kn hV18 hg17
 have HB23 := hba hV18 HB D14
 have D24 := dr V16
 clear K0 K1 HB D14
 obtain ⟨g25, hg27⟩ : ∃ g, V16.heap.size = g := ⟨_, rfl⟩
 have Y29 := Lib.hid (show w.heap.size < g25 ∧ w.heap.size + 1 < g25 ∧ g15 < g25 by rw [← hg27]; exact ⟨(kb K20 D24).lt, (kb K21 D24).lt, (kb K22 D24).lt⟩)
 obtain ⟨V26, hV28⟩ : ∃ V, V16.alloc (.cells #[.float .f64 0, .float .f64 0] 28) = V := ⟨_, rfl⟩
 have K30 := ka hV28 K20 D24
 have K31 := ka hV28 K21 D24
 have K32 := ka hV28 K22 D24
 have K33 := kn hV28 hg27
 have HB34 := hba hV28 HB23 D24
 have D35 := dr V26
 clear K20 K21 K22 HB23 D24
 have Y36 := Lib.hid (And.intro Y19.out Y29.out)
 clear Y19 Y29
 have f39 := (kb K32 D35)
 obtain ⟨V37, hV38⟩ : ∃ V, World.setRow V26 (g15) (vc p4) = V := ⟨_, rfl⟩
 have K40 := kfr hV38 K30 D35 (by have := Y36.out; omega)
 have K41 := kfr hV38 K31 D35 (by have := Y36.out; omega)
 have K42 := ksr hV38 K32 D35
 have K43 := kfr hV38 K33 D35 (by have := Y36.out; omega)
 have HB44 := hbr hV38 HB34 D35 (by have := Y36.out; omega)
 have D45 := dr V37
 clear K30 K31 K32 K33 HB34 D35
 have f48 := (kb K43 D45).cellsL 0 [.float .f64 0, .float .f64 0] rfl
 dsimp only [CellsL, al, vl, Nat.reduceAdd] at f48
 have u49 := (kb K43 D45).unfrozen
 obtain ⟨V46, hV47⟩ : ∃ V, setCells V37 (g25) 0 [.float .f64 q5_.lo, .float .f64 q5_.hi] = V := ⟨_, rfl⟩
 have hv50 := hV47
 simp only [setCells, Nat.reduceAdd] at hv50
 have K51 := kf hV47 K40 D45 (by have := Y36.out; omega)
 have K52 := kf hV47 K41 D45 (by have := Y36.out; omega)
 have K53 := kf hV47 K42 D45 (by have := Y36.out; omega)
 have K54 := Lib.hid (show Blk V46 (g25) 28 #[.float .f64 q5_.lo, .float .f64 q5_.hi] from (ks hV47 K43 D45).out)
 have HB55 := hbs hV47 HB44 D45 (by have := Y36.out; omega)
 have D56 := dr V46
 clear K40 K41 K42 K43 HB44 D45
 have hq57 := (kb K52 D56).cellsL 0 [.float .f64 d0, .float .f64 d1, .float .f64 d2] rfl
 dsimp only [CellsL, al, vl, Nat.reduceAdd] at hq57
 go_wp2_with (refine wpList_store_row rfl 30 _ _ rfl (g15) (vc p4) rfl rfl _ _ f39 (by rw [info_V3]; rfl) rfl (by kernel_rfl) ?_; rw [hV38])
 clear hg17 hV18 hg27 hV28 hV38 f39 hV47 f48 u49 hv50 hq57
 refine (C6.out _).mono ?_
 rintro r w58 ⟨rfl, hb⟩
 have D59 := ds D56 hb
 clear D56
 clear hb
 go_wp2_with fail
 refine (C7.out _).mono ?_
 rintro r w60 ⟨rfl, hb⟩
 have D61 := ds D59 hb
 clear D59
 clear hb
 obtain ⟨g62, hg64⟩ : ∃ g, w60.heap.size = g := ⟨_, rfl⟩
 have Y66 := Lib.hid (show w.heap.size < g62 ∧ w.heap.size + 1 < g62 ∧ g15 < g62 ∧ g25 < g62 by rw [← hg64]; exact ⟨(kb K51 D61).lt, (kb K52 D61).lt, (kb K53 D61).lt, (kb K54 D61).lt⟩)
 obtain ⟨V63, hV65⟩ : ∃ V, w60.alloc (.cells #[.float .f64 0, .float .f64 0, .float .f64 0, .float .f64 0, .float .f64 0, .float .f64 0] 30) = V := ⟨_, rfl⟩
 have K67 := ka hV65 K51 D61
 have K68 := ka hV65 K52 D61
 have K69 := ka hV65 K53 D61
 have K70 := ka hV65 K54 D61
 have K71 := kn hV65 hg64
 have HB72 := hba hV65 HB55 D61
 have D73 := dr V63
 clear K51 K52 K53 K54 HB55 D61
 have Y74 := Lib.hid (And.intro Y36.out Y66.out)
 clear Y36 Y66
 obtain ⟨g75, hg77⟩ : ∃ g, V63.heap.size = g := ⟨_, rfl⟩
 have Y79 := Lib.hid (show w.heap.size < g75 ∧ w.heap.size + 1 < g75 ∧ g15 < g75 ∧ g25 < g75 ∧ g62 < g75 by rw [← hg77]; exact ⟨(kb K67 D73).lt, (kb K68 D73).lt, (kb K69 D73).lt, (kb K70 D73).lt, (kb K71 D73).lt⟩)
 obtain ⟨V76, hV78⟩ : ∃ V, V63.alloc (.cells #[.float .f64 0, .float .f64 0] 28) = V := ⟨_, rfl⟩
 have K80 := ka hV78 K67 D73
 have K81 := ka hV78 K68 D73
 have K82 := ka hV78 K69 D73
 have K83 := ka hV78 K70 D73
 have K84 := ka hV78 K71 D73
 have K85 := kn hV78 hg77
 have HB86 := hba hV78 HB72 D73
 have D87 := dr V76
 clear K67 K68 K69 K70 K71 HB72 D73
 have Y88 := Lib.hid (And.intro Y74.out Y79.out)
 clear Y74 Y79
 have f91 := (kb K84 D87)
 obtain ⟨V89, hV90⟩ : ∃ V, World.setRow V76 (g62) (vc p7) = V := ⟨_, rfl⟩
 have K92 := kfr hV90 K80 D87 (by have := Y88.out; omega)
 have K93 := kfr hV90 K81 D87 (by have := Y88.out; omega)
 have K94 := kfr hV90 K82 D87 (by have := Y88.out; omega)
 have K95 := kfr hV90 K83 D87 (by have := Y88.out; omega)
 have K96 := ksr hV90 K84 D87
 have K97 := kfr hV90 K85 D87 (by have := Y88.out; omega)
 have HB98 := hbr hV90 HB86 D87 (by have := Y88.out; omega)
 have D99 := dr V89
 clear K80 K81 K82 K83 K84 K85 HB86 D87
 have f102 := (kb K97 D99).cellsL 0 [.float .f64 0, .float .f64 0] rfl
 dsimp only [CellsL, al, vl, Nat.reduceAdd] at f102
 have u103 := (kb K97 D99).unfrozen
 obtain ⟨V100, hV101⟩ : ∃ V, setCells V89 (g75) 0 [.float .f64 q8_.lo, .float .f64 q8_.hi] = V := ⟨_, rfl⟩
 have hv104 := hV101
 simp only [setCells, Nat.reduceAdd] at hv104
 have K105 := kf hV101 K92 D99 (by have := Y88.out; omega)
 have K106 := kf hV101 K93 D99 (by have := Y88.out; omega)
 have K107 := kf hV101 K94 D99 (by have := Y88.out; omega)
 have K108 := kf hV101 K95 D99 (by have := Y88.out; omega)
 have K109 := kf hV101 K96 D99 (by have := Y88.out; omega)
 have K110 := Lib.hid (show Blk V100 (g75) 28 #[.float .f64 q8_.lo, .float .f64 q8_.hi] from (ks hV101 K97 D99).out)
 have HB111 := hbs hV101 HB98 D99 (by have := Y88.out; omega)
 have D112 := dr V100
 clear K92 K93 K94 K95 K96 K97 HB98 D99
 have hq113 := (kb K108 D112).cellsL 0 [.float .f64 q5_.lo] rfl
 dsimp only [CellsL, al, vl, Nat.reduceAdd] at hq113
 have hq114 := (kb K110 D112).cellsL 0 [.float .f64 q8_.lo] rfl
 dsimp only [CellsL, al, vl, Nat.reduceAdd] at hq114
 go_wp2_with (refine wpList_store_row rfl 30 _ _ rfl (g62) (vc p7) rfl rfl _ _ f91 (by rw [info_V3]; rfl) rfl (by kernel_rfl) ?_; rw [hV90])
 clear hg64 hV65 hg77 hV78 hV90 f91 hV101 f102 u103 hv104 hq113 hq114
 refine (C11.out _).mono ?_
 rintro r w115 ⟨rfl, hb⟩
 have D116 := ds D112 hb
 clear D112
 clear hb
 obtain ⟨g117, hg119⟩ : ∃ g, w115.heap.size = g := ⟨_, rfl⟩
 have Y121 := Lib.hid (show w.heap.size < g117 ∧ w.heap.size + 1 < g117 ∧ g15 < g117 ∧ g25 < g117 ∧ g62 < g117 ∧ g75 < g117 by rw [← hg119]; exact ⟨(kb K105 D116).lt, (kb K106 D116).lt, (kb K107 D116).lt, (kb K108 D116).lt, (kb K109 D116).lt, (kb K110 D116).lt⟩)
 obtain ⟨V118, hV120⟩ : ∃ V, w115.alloc (.cells #[.float .f64 0, .float .f64 0] 28) = V := ⟨_, rfl⟩
 have K122 := ka hV120 K105 D116
 have K123 := ka hV120 K106 D116
 have K124 := ka hV120 K107 D116
 have K125 := ka hV120 K108 D116
 have K126 := ka hV120 K109 D116
 have K127 := ka hV120 K110 D116
 have K128 := kn hV120 hg119
 have HB129 := hba hV120 HB111 D116
 have D130 := dr V118
 clear K105 K106 K107 K108 K109 K110 HB111 D116
 have Y131 := Lib.hid (And.intro Y88.out Y121.out)
 clear Y88 Y121
 have f134 := (kb K128 D130).cellsL 0 [.float .f64 0, .float .f64 0] rfl
 dsimp only [CellsL, al, vl, Nat.reduceAdd] at f134
 have u135 := (kb K128 D130).unfrozen
 obtain ⟨V132, hV133⟩ : ∃ V, setCells V118 (g117) 0 [.float .f64 p11.lo, .float .f64 p11.hi] = V := ⟨_, rfl⟩
 have hv136 := hV133
 simp only [setCells, Nat.reduceAdd] at hv136
 have K137 := kf hV133 K122 D130 (by have := Y131.out; omega)
 have K138 := kf hV133 K123 D130 (by have := Y131.out; omega)
 have K139 := kf hV133 K124 D130 (by have := Y131.out; omega)
 have K140 := kf hV133 K125 D130 (by have := Y131.out; omega)
 have K141 := kf hV133 K126 D130 (by have := Y131.out; omega)
 have K142 := kf hV133 K127 D130 (by have := Y131.out; omega)
 have K143 := Lib.hid (show Blk V132 (g117) 28 #[.float .f64 p11.lo, .float .f64 p11.hi] from (ks hV133 K128 D130).out)
 have HB144 := hbs hV133 HB129 D130 (by have := Y131.out; omega)
 have D145 := dr V132
 clear K122 K123 K124 K125 K126 K127 K128 HB129 D130
 have f146 := (kb K139 D145)
 have f147 := (kb K141 D145)
 go_wp2_with (first | (refine wl_load (by kernel_rfl) rfl rfl f146 (by rw [info_V3]; rfl) Try.underlying30 rfl ?_) | (refine wl_load (by kernel_rfl) rfl rfl f147 (by rw [info_V3]; rfl) Try.underlying30 rfl ?_))
 clear hg119 hV120 hV133 f134 u135 hv136 f146 f147
 refine (C12.out _).mono ?_
 rintro r w148 ⟨rfl, hb⟩
 have D149 := ds D145 hb
 clear D145
 clear hb
 obtain ⟨g150, hg152⟩ : ∃ g, w148.heap.size = g := ⟨_, rfl⟩
 have Y154 := Lib.hid (show w.heap.size < g150 ∧ w.heap.size + 1 < g150 ∧ g15 < g150 ∧ g25 < g150 ∧ g62 < g150 ∧ g75 < g150 ∧ g117 < g150 by rw [← hg152]; exact ⟨(kb K137 D149).lt, (kb K138 D149).lt, (kb K139 D149).lt, (kb K140 D149).lt, (kb K141 D149).lt, (kb K142 D149).lt, (kb K143 D149).lt⟩)
 obtain ⟨V151, hV153⟩ : ∃ V, w148.alloc (.cells #[.float .f64 0, .float .f64 0, .float .f64 0, .float .f64 0, .float .f64 0, .float .f64 0] 30) = V := ⟨_, rfl⟩
 have K155 := ka hV153 K137 D149
 have K156 := ka hV153 K138 D149
 have K157 := ka hV153 K139 D149
 have K158 := ka hV153 K140 D149
 have K159 := ka hV153 K141 D149
 have K160 := ka hV153 K142 D149
 have K161 := ka hV153 K143 D149
 have K162 := kn hV153 hg152
 have HB163 := hba hV153 HB144 D149
 have D164 := dr V151
 clear K137 K138 K139 K140 K141 K142 K143 HB144 D149
 have Y165 := Lib.hid (And.intro Y131.out Y154.out)
 clear Y131 Y154
 obtain ⟨g166, hg168⟩ : ∃ g, V151.heap.size = g := ⟨_, rfl⟩
 have Y170 := Lib.hid (show w.heap.size < g166 ∧ w.heap.size + 1 < g166 ∧ g15 < g166 ∧ g25 < g166 ∧ g62 < g166 ∧ g75 < g166 ∧ g117 < g166 ∧ g150 < g166 by rw [← hg168]; exact ⟨(kb K155 D164).lt, (kb K156 D164).lt, (kb K157 D164).lt, (kb K158 D164).lt, (kb K159 D164).lt, (kb K160 D164).lt, (kb K161 D164).lt, (kb K162 D164).lt⟩)
 obtain ⟨V167, hV169⟩ : ∃ V, V151.alloc (.cells #[.float .f64 0, .float .f64 0] 28) = V := ⟨_, rfl⟩
 have K171 := ka hV169 K155 D164
 have K172 := ka hV169 K156 D164
 have K173 := ka hV169 K157 D164
 have K174 := ka hV169 K158 D164
 have K175 := ka hV169 K159 D164
 have K176 := ka hV169 K160 D164
 have K177 := ka hV169 K161 D164
 have K178 := ka hV169 K162 D164
 have K179 := kn hV169 hg168
 have HB180 := hba hV169 HB163 D164
 have D181 := dr V167
 clear K155 K156 K157 K158 K159 K160 K161 K162 HB163 D164
 have Y182 := Lib.hid (And.intro Y165.out Y170.out)
 clear Y165 Y170
 have f185 := (kb K178 D181)
 obtain ⟨V183, hV184⟩ : ∃ V, World.setRow V167 (g150) (vc f) = V := ⟨_, rfl⟩
 have K186 := kfr hV184 K171 D181 (by have := Y182.out; omega)
 have K187 := kfr hV184 K172 D181 (by have := Y182.out; omega)
 have K188 := kfr hV184 K173 D181 (by have := Y182.out; omega)
 have K189 := kfr hV184 K174 D181 (by have := Y182.out; omega)
 have K190 := kfr hV184 K175 D181 (by have := Y182.out; omega)
 have K191 := kfr hV184 K176 D181 (by have := Y182.out; omega)
 have K192 := kfr hV184 K177 D181 (by have := Y182.out; omega)
 have K193 := ksr hV184 K178 D181
 have K194 := kfr hV184 K179 D181 (by have := Y182.out; omega)
 have HB195 := hbr hV184 HB180 D181 (by have := Y182.out; omega)
 have D196 := dr V183
 clear K171 K172 K173 K174 K175 K176 K177 K178 K179 HB180 D181
 have f199 := (kb K194 D196).cellsL 0 [.float .f64 0, .float .f64 0] rfl
 dsimp only [CellsL, al, vl, Nat.reduceAdd] at f199
 have u200 := (kb K194 D196).unfrozen
 obtain ⟨V197, hV198⟩ : ∃ V, setCells V183 (g166) 0 [.float .f64 c.lo, .float .f64 c.hi] = V := ⟨_, rfl⟩
 have hv201 := hV198
 simp only [setCells, Nat.reduceAdd] at hv201
 have K202 := kf hV198 K186 D196 (by have := Y182.out; omega)
 have K203 := kf hV198 K187 D196 (by have := Y182.out; omega)
 have K204 := kf hV198 K188 D196 (by have := Y182.out; omega)
 have K205 := kf hV198 K189 D196 (by have := Y182.out; omega)
 have K206 := kf hV198 K190 D196 (by have := Y182.out; omega)
 have K207 := kf hV198 K191 D196 (by have := Y182.out; omega)
 have K208 := kf hV198 K192 D196 (by have := Y182.out; omega)
 have K209 := kf hV198 K193 D196 (by have := Y182.out; omega)
 have K210 := Lib.hid (show Blk V197 (g166) 28 #[.float .f64 c.lo, .float .f64 c.hi] from (ks hV198 K194 D196).out)
 have HB211 := hbs hV198 HB195 D196 (by have := Y182.out; omega)
 have D212 := dr V197
 clear K186 K187 K188 K189 K190 K191 K192 K193 K194 HB195 D196
 have f213 := (kb K206 D212)
 have f214 := (kb K209 D212)
 have hq215 := (kb K208 D212).cellsL 0 [.float .f64 p11.lo, .float .f64 p11.hi] rfl
 dsimp only [CellsL, al, vl, Nat.reduceAdd] at hq215
 go_wp2_with (first | (refine wpList_store_row rfl 30 _ _ rfl (g150) (vc f) rfl rfl _ _ f185 (by rw [info_V3]; rfl) rfl (by kernel_rfl) ?_; rw [hV184]) | (refine wl_load (by kernel_rfl) rfl rfl f213 (by rw [info_V3]; rfl) Try.underlying30 rfl ?_) | (refine wl_load (by kernel_rfl) rfl rfl f214 (by rw [info_V3]; rfl) Try.underlying30 rfl ?_))
 clear hg152 hV153 hg168 hV169 hV184 f185 hV198 f199 u200 hv201 f213 f214 hq215
 refine (C13.out _).mono ?_
 rintro r w216 ⟨rfl, hb⟩
 have D217 := ds D212 hb
 clear D212
 clear hb
 obtain ⟨g218, hg220⟩ : ∃ g, w216.heap.size = g := ⟨_, rfl⟩
 have Y222 := Lib.hid (show w.heap.size < g218 ∧ w.heap.size + 1 < g218 ∧ g15 < g218 ∧ g25 < g218 ∧ g62 < g218 ∧ g75 < g218 ∧ g117 < g218 ∧ g150 < g218 ∧ g166 < g218 by rw [← hg220]; exact ⟨(kb K202 D217).lt, (kb K203 D217).lt, (kb K204 D217).lt, (kb K205 D217).lt, (kb K206 D217).lt, (kb K207 D217).lt, (kb K208 D217).lt, (kb K209 D217).lt, (kb K210 D217).lt⟩)
 obtain ⟨V219, hV221⟩ : ∃ V, w216.alloc (.cells #[.float .f64 0, .float .f64 0, .float .f64 0, .float .f64 0, .float .f64 0, .float .f64 0] 30) = V := ⟨_, rfl⟩
 have K223 := ka hV221 K202 D217
 have K224 := ka hV221 K203 D217
 have K225 := ka hV221 K204 D217
 have K226 := ka hV221 K205 D217
 have K227 := ka hV221 K206 D217
 have K228 := ka hV221 K207 D217
 have K229 := ka hV221 K208 D217
 have K230 := ka hV221 K209 D217
 have K231 := ka hV221 K210 D217
 have K232 := kn hV221 hg220
 have HB233 := hba hV221 HB211 D217
 have D234 := dr V219
 clear K202 K203 K204 K205 K206 K207 K208 K209 K210 HB211 D217
 have Y235 := Lib.hid (And.intro Y182.out Y222.out)
 clear Y182 Y222
 obtain ⟨g236, hg238⟩ : ∃ g, V219.heap.size = g := ⟨_, rfl⟩
 have Y240 := Lib.hid (show w.heap.size < g236 ∧ w.heap.size + 1 < g236 ∧ g15 < g236 ∧ g25 < g236 ∧ g62 < g236 ∧ g75 < g236 ∧ g117 < g236 ∧ g150 < g236 ∧ g166 < g236 ∧ g218 < g236 by rw [← hg238]; exact ⟨(kb K223 D234).lt, (kb K224 D234).lt, (kb K225 D234).lt, (kb K226 D234).lt, (kb K227 D234).lt, (kb K228 D234).lt, (kb K229 D234).lt, (kb K230 D234).lt, (kb K231 D234).lt, (kb K232 D234).lt⟩)
 obtain ⟨V237, hV239⟩ : ∃ V, V219.alloc (.cells #[.float .f64 0, .float .f64 0] 28) = V := ⟨_, rfl⟩
 have K241 := ka hV239 K223 D234
 have K242 := ka hV239 K224 D234
 have K243 := ka hV239 K225 D234
 have K244 := ka hV239 K226 D234
 have K245 := ka hV239 K227 D234
 have K246 := ka hV239 K228 D234
 have K247 := ka hV239 K229 D234
 have K248 := ka hV239 K230 D234
 have K249 := ka hV239 K231 D234
 have K250 := ka hV239 K232 D234
 have K251 := kn hV239 hg238
 have HB252 := hba hV239 HB233 D234
 have D253 := dr V237
 clear K223 K224 K225 K226 K227 K228 K229 K230 K231 K232 HB233 D234
 have Y254 := Lib.hid (And.intro Y235.out Y240.out)
 clear Y235 Y240
 have f257 := (kb K250 D253)
 obtain ⟨V255, hV256⟩ : ∃ V, World.setRow V237 (g218) #[.float .f64 0, .float .f64 0, .float .f64 0, .float .f64 0, .float .f64 0, .float .f64 0] = V := ⟨_, rfl⟩
 have K258 := kfr hV256 K241 D253 (by have := Y254.out; omega)
 have K259 := kfr hV256 K242 D253 (by have := Y254.out; omega)
 have K260 := kfr hV256 K243 D253 (by have := Y254.out; omega)
 have K261 := kfr hV256 K244 D253 (by have := Y254.out; omega)
 have K262 := kfr hV256 K245 D253 (by have := Y254.out; omega)
 have K263 := kfr hV256 K246 D253 (by have := Y254.out; omega)
 have K264 := kfr hV256 K247 D253 (by have := Y254.out; omega)
 have K265 := kfr hV256 K248 D253 (by have := Y254.out; omega)
 have K266 := kfr hV256 K249 D253 (by have := Y254.out; omega)
 have K267 := ksr hV256 K250 D253
 have K268 := kfr hV256 K251 D253 (by have := Y254.out; omega)
 have HB269 := hbr hV256 HB252 D253 (by have := Y254.out; omega)
 have D270 := dr V255
 clear K241 K242 K243 K244 K245 K246 K247 K248 K249 K250 K251 HB252 D253
 have f273 := (kb K268 D270).cellsL 0 [.float .f64 0, .float .f64 0] rfl
 dsimp only [CellsL, al, vl, Nat.reduceAdd] at f273
 have u274 := (kb K268 D270).unfrozen
 obtain ⟨V271, hV272⟩ : ∃ V, setCells V255 (g236) 0 [.float .f64 0, .float .f64 0] = V := ⟨_, rfl⟩
 have hv275 := hV272
 simp only [setCells, Nat.reduceAdd] at hv275
 have K276 := kf hV272 K258 D270 (by have := Y254.out; omega)
 have K277 := kf hV272 K259 D270 (by have := Y254.out; omega)
 have K278 := kf hV272 K260 D270 (by have := Y254.out; omega)
 have K279 := kf hV272 K261 D270 (by have := Y254.out; omega)
 have K280 := kf hV272 K262 D270 (by have := Y254.out; omega)
 have K281 := kf hV272 K263 D270 (by have := Y254.out; omega)
 have K282 := kf hV272 K264 D270 (by have := Y254.out; omega)
 have K283 := kf hV272 K265 D270 (by have := Y254.out; omega)
 have K284 := kf hV272 K266 D270 (by have := Y254.out; omega)
 have K285 := kf hV272 K267 D270 (by have := Y254.out; omega)
 have K286 := Lib.hid (show Blk V271 (g236) 28 #[.float .f64 0, .float .f64 0] from (ks hV272 K268 D270).out)
 have HB287 := hbs hV272 HB269 D270 (by have := Y254.out; omega)
 have D288 := dr V271
 clear K258 K259 K260 K261 K262 K263 K264 K265 K266 K267 K268 HB269 D270
 have hq289 := (kb K284 D288).cellsL 0 [.float .f64 c.lo] rfl
 dsimp only [CellsL, al, vl, Nat.reduceAdd] at hq289
 go_wp2_with (refine wpList_store_row rfl 30 _ _ rfl (g218) #[.float .f64 0, .float .f64 0, .float .f64 0, .float .f64 0, .float .f64 0, .float .f64 0] rfl rfl _ _ f257 (by rw [info_V3]; rfl) rfl (by kernel_rfl) ?_; rw [hV256])
 clear hg220 hV221 hg238 hV239 hV256 f257 hV272 f273 u274 hv275 hq289
 go_ret
 exact ⟨rfl, below_step HB287.out D288.out⟩
theorem bsdfStraight_k (n0 n1 n2 d0 d1 d2 : Nat) (hn0 : n0 < 18446744073709551616) (hn1 : n1 < 18446744073709551616) (hn2 : n2 < 18446744073709551616) (hd0 : d0 < 18446744073709551616) (hd1 : d1 < 18446744073709551616) (hd2 : d2 < 18446744073709551616) (hnn : nmB n0 n1 n2 = true) (hnd : nmB d0 d1 d2 = true) (g0 : 0 < Z (vLen (vOf n0 n1 n2)).lo) (g1 : 0 < Z (vLen (vOf d0 d1 d2)).lo) (f : V3) (c : Sp) (HF : ∀ w, Calls Try.prog 52 #[vval (vUnit (vOf n0 n1 n2)), vval (vUnit (vOf d0 d1 d2))] w fun r w' => r = .returned (.tuple #[vval f, .agg #[.float .f64 (c).lo, .float .f64 (c).hi], .int .i64 1]) ∧ Below w.heap.size w w') (b : V3) (t : Sp) (HB : ∀ w, Calls Try.prog 57 #[vval f, vval (vUnit (vOf d0 d1 d2)), .agg #[.float .f64 (ofS 4607182418800017408).lo, .float .f64 (ofS 4607182418800017408).hi]] w fun r w' => r = .returned (.tuple #[vval b, .agg #[.float .f64 (t).lo, .float .f64 (t).hi], .int .i64 1]) ∧ Below w.heap.size w w') (hs : ShV b (vUnit (vOf d0 d1 d2))) (hz : Z (bdFr c t (ofS 4607182418800017408)).lo ≤ 0 ∧ 0 ≤ Z (bdFr c t (ofS 4607182418800017408)).hi) (w : World) : Calls Try.prog 10 #[Value.agg #[.float .f64 n0, .float .f64 n1, .float .f64 n2], Value.agg #[.float .f64 d0, .float .f64 d1, .float .f64 d2]] w fun r w' => r = .returned (.bool true) ∧ Below w.heap.size w w' := by
 have C0 := Lib.hid (awake12)
 have C1 := Lib.hid (fun w => rnumbers_any n0 n1 n2 hn0 hn1 hn2 w)
 rw [hnn] at C1
 have C2 := Lib.hid (fun w => rnumbers_any d0 d1 d2 hd0 hd1 hd2 w)
 rw [hnd] at C2
 have C3 := Lib.hid (fun w => rofV_any n0 n1 n2 hn0 hn1 hn2 w)
 obtain ⟨p3, hp3⟩ : ∃ z_, vOf n0 n1 n2 = z_ := ⟨_, rfl⟩
 rw [hp3] at C3
 have C4 := Lib.hid (fun w => runitV_any p3 w)
 obtain ⟨p4, hp4⟩ : ∃ z_, vUnit p3 = z_ := ⟨_, rfl⟩
 rw [hp4] at C4
 obtain ⟨q5_, hq5_⟩ : ∃ z_, vLen p3 = z_ := ⟨_, rfl⟩
 rw [hq5_] at C4
 have C6 := Lib.hid (fun w => rofV_any d0 d1 d2 hd0 hd1 hd2 w)
 obtain ⟨p6, hp6⟩ : ∃ z_, vOf d0 d1 d2 = z_ := ⟨_, rfl⟩
 rw [hp6] at C6
 have C7 := Lib.hid (fun w => runitV_any p6 w)
 obtain ⟨p7, hp7⟩ : ∃ z_, vUnit p6 = z_ := ⟨_, rfl⟩
 rw [hp7] at C7
 obtain ⟨q8_, hq8_⟩ : ∃ z_, vLen p6 = z_ := ⟨_, rfl⟩
 rw [hq8_] at C7
 have e9 : (FloatKind.f64.format.order q5_.lo 0 == some .lt || FloatKind.f64.format.order q5_.lo 0 == some .eq) = false := by
   have hl : ¬ Z q5_.lo ≤ 0 := by rw [← hq5_, ← hp3]; exact (by omega)
   rw [le0_gd q5_.vd.l]; exact decide_eq_false hl
 have e10 : (FloatKind.f64.format.order q8_.lo 0 == some .lt || FloatKind.f64.format.order q8_.lo 0 == some .eq) = false := by
   have hl : ¬ Z q8_.lo ≤ 0 := by rw [← hq8_, ← hp6]; exact (by omega)
   rw [le0_gd q8_.vd.l]; exact decide_eq_false hl
 have C11 := Lib.hid (fun w => rof_sp 4607182418800017408 (by decide) w)
 obtain ⟨p11, hp11⟩ : ∃ z_, ofS 4607182418800017408 = z_ := ⟨_, rfl⟩
 rw [hp11] at C11
 have C12 := Lib.hid (fun w => HF w)
 simp only [hp3, hp4, hq5_, hp6, hp7, hq8_, hp11] at C12
 have C13 := Lib.hid (fun w => HB w)
 simp only [hp3, hp4, hq5_, hp6, hp7, hq8_, hp11] at C13
 have e14 : (FloatKind.f64.format.order b.x.lo p7.x.hi == some .gt) = false := gt_no b.x.vd.l p7.x.vd.h (by rw [← hp7, ← hp6]; exact hs.x1)
 have e15 : (FloatKind.f64.format.order p7.x.lo b.x.hi == some .gt) = false := gt_no p7.x.vd.l b.x.vd.h (by rw [← hp7, ← hp6]; exact hs.x2)
 have e16 : (FloatKind.f64.format.order b.y.lo p7.y.hi == some .gt) = false := gt_no b.y.vd.l p7.y.vd.h (by rw [← hp7, ← hp6]; exact hs.y1)
 have e17 : (FloatKind.f64.format.order p7.y.lo b.y.hi == some .gt) = false := gt_no p7.y.vd.l b.y.vd.h (by rw [← hp7, ← hp6]; exact hs.y2)
 have e18 : (FloatKind.f64.format.order b.z.lo p7.z.hi == some .gt) = false := gt_no b.z.vd.l p7.z.vd.h (by rw [← hp7, ← hp6]; exact hs.z1)
 have e19 : (FloatKind.f64.format.order p7.z.lo b.z.hi == some .gt) = false := gt_no p7.z.vd.l b.z.vd.h (by rw [← hp7, ← hp6]; exact hs.z2)
 have C20 := Lib.hid (fun w => fresnel_any c t p11 w)
 obtain ⟨p20, hp20⟩ : ∃ z_, bdFr c t p11 = z_ := ⟨_, rfl⟩
 rw [hp20] at C20
 have e21 : (FloatKind.f64.format.order p20.lo 0 == some .lt || FloatKind.f64.format.order p20.lo 0 == some .eq) = true := by
   have hl : Z p20.lo ≤ 0 := by rw [← hp20, ← hp11]; exact hz.1
   rw [le0_gd p20.vd.l]; exact decide_eq_true hl
 have zg : 0 ≤ Z p20.hi := by rw [← hp20, ← hp11]; exact hz.2
 have eg : (FloatKind.f64.format.order p20.hi 0 == some .gt || FloatKind.f64.format.order p20.hi 0 == some .eq) = true := by rw [ge0_gd p20.vd.h]; exact decide_eq_true zg
 clear hp3 hp4 hq5_ hp6 hp7 hq8_ hp11 hp20
 go_enter Try.func10, Try.ntmps10
 go_wp2_with fail
 obtain ⟨W, hW, K0, K1, hB, hz⟩ := bx2 w 24 24 #[.float .f64 n0, .float .f64 n1, .float .f64 n2] #[.float .f64 d0, .float .f64 d1, .float .f64 d2]
 rw [← hW]
 have K0 := Lib.hid K0
 have K1 := Lib.hid K1
 have HB := Lib.hid hB
 clear hW hB hz
 have D1 := dr W
 refine (C0.out _).mono ?_
 rintro r w2 ⟨rfl, hb⟩
 have D3 := ds D1 hb
 clear D1
 clear hb
 have hq4 := (kb K0 D3).cellsL 0 [.float .f64 n0, .float .f64 n1, .float .f64 n2] rfl
 dsimp only [CellsL, al, vl, Nat.reduceAdd] at hq4
 go_wp2_with fail
 clear hq4
 refine (C1.out _).mono ?_
 rintro r w5 ⟨rfl, hb⟩
 have D6 := ds D3 hb
 clear D3
 clear hb
 have hq7 := (kb K1 D6).cellsL 0 [.float .f64 d0, .float .f64 d1, .float .f64 d2] rfl
 dsimp only [CellsL, al, vl, Nat.reduceAdd] at hq7
 go_wp2_with fail
 clear hq7
 refine (C2.out _).mono ?_
 rintro r w8 ⟨rfl, hb⟩
 have D9 := ds D6 hb
 clear D6
 clear hb
 have hq10 := (kb K0 D9).cellsL 0 [.float .f64 n0, .float .f64 n1, .float .f64 n2] rfl
 dsimp only [CellsL, al, vl, Nat.reduceAdd] at hq10
 go_wp2_with fail
 clear hq10
 refine (C3.out _).mono ?_
 rintro r w11 ⟨rfl, hb⟩
 have D12 := ds D9 hb
 clear D9
 clear hb
 go_wp2_with fail
 refine (C4.out _).mono ?_
 rintro r w13 ⟨rfl, hb⟩
 have D14 := ds D12 hb
 clear D12
 clear hb
 obtain ⟨g15, hg17⟩ : ∃ g, w13.heap.size = g := ⟨_, rfl⟩
 have Y19 := Lib.hid (show w.heap.size < g15 ∧ w.heap.size + 1 < g15 by rw [← hg17]; exact ⟨(kb K0 D14).lt, (kb K1 D14).lt⟩)
 obtain ⟨V16, hV18⟩ : ∃ V, w13.alloc (.cells #[.float .f64 0, .float .f64 0, .float .f64 0, .float .f64 0, .float .f64 0, .float .f64 0] 30) = V := ⟨_, rfl⟩
 have K20 := ka hV18 K0 D14
 have K21 := ka hV18 K1 D14
 have K22 := kn hV18 hg17
 have HB23 := hba hV18 HB D14
 have D24 := dr V16
 clear K0 K1 HB D14
 obtain ⟨g25, hg27⟩ : ∃ g, V16.heap.size = g := ⟨_, rfl⟩
 have Y29 := Lib.hid (show w.heap.size < g25 ∧ w.heap.size + 1 < g25 ∧ g15 < g25 by rw [← hg27]; exact ⟨(kb K20 D24).lt, (kb K21 D24).lt, (kb K22 D24).lt⟩)
 obtain ⟨V26, hV28⟩ : ∃ V, V16.alloc (.cells #[.float .f64 0, .float .f64 0] 28) = V := ⟨_, rfl⟩
 have K30 := ka hV28 K20 D24
 have K31 := ka hV28 K21 D24
 have K32 := ka hV28 K22 D24
 have K33 := kn hV28 hg27
 have HB34 := hba hV28 HB23 D24
 have D35 := dr V26
 clear K20 K21 K22 HB23 D24
 have Y36 := Lib.hid (And.intro Y19.out Y29.out)
 clear Y19 Y29
 have f39 := (kb K32 D35)
 obtain ⟨V37, hV38⟩ : ∃ V, World.setRow V26 (g15) (vc p4) = V := ⟨_, rfl⟩
 have K40 := kfr hV38 K30 D35 (by have := Y36.out; omega)
 have K41 := kfr hV38 K31 D35 (by have := Y36.out; omega)
 have K42 := ksr hV38 K32 D35
 have K43 := kfr hV38 K33 D35 (by have := Y36.out; omega)
 have HB44 := hbr hV38 HB34 D35 (by have := Y36.out; omega)
 have D45 := dr V37
 clear K30 K31 K32 K33 HB34 D35
 have f48 := (kb K43 D45).cellsL 0 [.float .f64 0, .float .f64 0] rfl
 dsimp only [CellsL, al, vl, Nat.reduceAdd] at f48
 have u49 := (kb K43 D45).unfrozen
 obtain ⟨V46, hV47⟩ : ∃ V, setCells V37 (g25) 0 [.float .f64 q5_.lo, .float .f64 q5_.hi] = V := ⟨_, rfl⟩
 have hv50 := hV47
 simp only [setCells, Nat.reduceAdd] at hv50
 have K51 := kf hV47 K40 D45 (by have := Y36.out; omega)
 have K52 := kf hV47 K41 D45 (by have := Y36.out; omega)
 have K53 := kf hV47 K42 D45 (by have := Y36.out; omega)
 have K54 := Lib.hid (show Blk V46 (g25) 28 #[.float .f64 q5_.lo, .float .f64 q5_.hi] from (ks hV47 K43 D45).out)
 have HB55 := hbs hV47 HB44 D45 (by have := Y36.out; omega)
 have D56 := dr V46
 clear K40 K41 K42 K43 HB44 D45
 have hq57 := (kb K52 D56).cellsL 0 [.float .f64 d0, .float .f64 d1, .float .f64 d2] rfl
 dsimp only [CellsL, al, vl, Nat.reduceAdd] at hq57
 go_wp2_with (refine wpList_store_row rfl 30 _ _ rfl (g15) (vc p4) rfl rfl _ _ f39 (by rw [info_V3]; rfl) rfl (by kernel_rfl) ?_; rw [hV38])
 clear hg17 hV18 hg27 hV28 hV38 f39 hV47 f48 u49 hv50 hq57
 refine (C6.out _).mono ?_
 rintro r w58 ⟨rfl, hb⟩
 have D59 := ds D56 hb
 clear D56
 clear hb
 go_wp2_with fail
 refine (C7.out _).mono ?_
 rintro r w60 ⟨rfl, hb⟩
 have D61 := ds D59 hb
 clear D59
 clear hb
 obtain ⟨g62, hg64⟩ : ∃ g, w60.heap.size = g := ⟨_, rfl⟩
 have Y66 := Lib.hid (show w.heap.size < g62 ∧ w.heap.size + 1 < g62 ∧ g15 < g62 ∧ g25 < g62 by rw [← hg64]; exact ⟨(kb K51 D61).lt, (kb K52 D61).lt, (kb K53 D61).lt, (kb K54 D61).lt⟩)
 obtain ⟨V63, hV65⟩ : ∃ V, w60.alloc (.cells #[.float .f64 0, .float .f64 0, .float .f64 0, .float .f64 0, .float .f64 0, .float .f64 0] 30) = V := ⟨_, rfl⟩
 have K67 := ka hV65 K51 D61
 have K68 := ka hV65 K52 D61
 have K69 := ka hV65 K53 D61
 have K70 := ka hV65 K54 D61
 have K71 := kn hV65 hg64
 have HB72 := hba hV65 HB55 D61
 have D73 := dr V63
 clear K51 K52 K53 K54 HB55 D61
 have Y74 := Lib.hid (And.intro Y36.out Y66.out)
 clear Y36 Y66
 obtain ⟨g75, hg77⟩ : ∃ g, V63.heap.size = g := ⟨_, rfl⟩
 have Y79 := Lib.hid (show w.heap.size < g75 ∧ w.heap.size + 1 < g75 ∧ g15 < g75 ∧ g25 < g75 ∧ g62 < g75 by rw [← hg77]; exact ⟨(kb K67 D73).lt, (kb K68 D73).lt, (kb K69 D73).lt, (kb K70 D73).lt, (kb K71 D73).lt⟩)
 obtain ⟨V76, hV78⟩ : ∃ V, V63.alloc (.cells #[.float .f64 0, .float .f64 0] 28) = V := ⟨_, rfl⟩
 have K80 := ka hV78 K67 D73
 have K81 := ka hV78 K68 D73
 have K82 := ka hV78 K69 D73
 have K83 := ka hV78 K70 D73
 have K84 := ka hV78 K71 D73
 have K85 := kn hV78 hg77
 have HB86 := hba hV78 HB72 D73
 have D87 := dr V76
 clear K67 K68 K69 K70 K71 HB72 D73
 have Y88 := Lib.hid (And.intro Y74.out Y79.out)
 clear Y74 Y79
 have f91 := (kb K84 D87)
 obtain ⟨V89, hV90⟩ : ∃ V, World.setRow V76 (g62) (vc p7) = V := ⟨_, rfl⟩
 have K92 := kfr hV90 K80 D87 (by have := Y88.out; omega)
 have K93 := kfr hV90 K81 D87 (by have := Y88.out; omega)
 have K94 := kfr hV90 K82 D87 (by have := Y88.out; omega)
 have K95 := kfr hV90 K83 D87 (by have := Y88.out; omega)
 have K96 := ksr hV90 K84 D87
 have K97 := kfr hV90 K85 D87 (by have := Y88.out; omega)
 have HB98 := hbr hV90 HB86 D87 (by have := Y88.out; omega)
 have D99 := dr V89
 clear K80 K81 K82 K83 K84 K85 HB86 D87
 have f102 := (kb K97 D99).cellsL 0 [.float .f64 0, .float .f64 0] rfl
 dsimp only [CellsL, al, vl, Nat.reduceAdd] at f102
 have u103 := (kb K97 D99).unfrozen
 obtain ⟨V100, hV101⟩ : ∃ V, setCells V89 (g75) 0 [.float .f64 q8_.lo, .float .f64 q8_.hi] = V := ⟨_, rfl⟩
 have hv104 := hV101
 simp only [setCells, Nat.reduceAdd] at hv104
 have K105 := kf hV101 K92 D99 (by have := Y88.out; omega)
 have K106 := kf hV101 K93 D99 (by have := Y88.out; omega)
 have K107 := kf hV101 K94 D99 (by have := Y88.out; omega)
 have K108 := kf hV101 K95 D99 (by have := Y88.out; omega)
 have K109 := kf hV101 K96 D99 (by have := Y88.out; omega)
 have K110 := Lib.hid (show Blk V100 (g75) 28 #[.float .f64 q8_.lo, .float .f64 q8_.hi] from (ks hV101 K97 D99).out)
 have HB111 := hbs hV101 HB98 D99 (by have := Y88.out; omega)
 have D112 := dr V100
 clear K92 K93 K94 K95 K96 K97 HB98 D99
 have hq113 := (kb K108 D112).cellsL 0 [.float .f64 q5_.lo] rfl
 dsimp only [CellsL, al, vl, Nat.reduceAdd] at hq113
 have hq114 := (kb K110 D112).cellsL 0 [.float .f64 q8_.lo] rfl
 dsimp only [CellsL, al, vl, Nat.reduceAdd] at hq114
 go_wp2_with (refine wpList_store_row rfl 30 _ _ rfl (g62) (vc p7) rfl rfl _ _ f91 (by rw [info_V3]; rfl) rfl (by kernel_rfl) ?_; rw [hV90])
 clear hg64 hV65 hg77 hV78 hV90 f91 hV101 f102 u103 hv104 hq113 hq114
 refine (C11.out _).mono ?_
 rintro r w115 ⟨rfl, hb⟩
 have D116 := ds D112 hb
 clear D112
 clear hb
 obtain ⟨g117, hg119⟩ : ∃ g, w115.heap.size = g := ⟨_, rfl⟩
 have Y121 := Lib.hid (show w.heap.size < g117 ∧ w.heap.size + 1 < g117 ∧ g15 < g117 ∧ g25 < g117 ∧ g62 < g117 ∧ g75 < g117 by rw [← hg119]; exact ⟨(kb K105 D116).lt, (kb K106 D116).lt, (kb K107 D116).lt, (kb K108 D116).lt, (kb K109 D116).lt, (kb K110 D116).lt⟩)
 obtain ⟨V118, hV120⟩ : ∃ V, w115.alloc (.cells #[.float .f64 0, .float .f64 0] 28) = V := ⟨_, rfl⟩
 have K122 := ka hV120 K105 D116
 have K123 := ka hV120 K106 D116
 have K124 := ka hV120 K107 D116
 have K125 := ka hV120 K108 D116
 have K126 := ka hV120 K109 D116
 have K127 := ka hV120 K110 D116
 have K128 := kn hV120 hg119
 have HB129 := hba hV120 HB111 D116
 have D130 := dr V118
 clear K105 K106 K107 K108 K109 K110 HB111 D116
 have Y131 := Lib.hid (And.intro Y88.out Y121.out)
 clear Y88 Y121
 have f134 := (kb K128 D130).cellsL 0 [.float .f64 0, .float .f64 0] rfl
 dsimp only [CellsL, al, vl, Nat.reduceAdd] at f134
 have u135 := (kb K128 D130).unfrozen
 obtain ⟨V132, hV133⟩ : ∃ V, setCells V118 (g117) 0 [.float .f64 p11.lo, .float .f64 p11.hi] = V := ⟨_, rfl⟩
 have hv136 := hV133
 simp only [setCells, Nat.reduceAdd] at hv136
 have K137 := kf hV133 K122 D130 (by have := Y131.out; omega)
 have K138 := kf hV133 K123 D130 (by have := Y131.out; omega)
 have K139 := kf hV133 K124 D130 (by have := Y131.out; omega)
 have K140 := kf hV133 K125 D130 (by have := Y131.out; omega)
 have K141 := kf hV133 K126 D130 (by have := Y131.out; omega)
 have K142 := kf hV133 K127 D130 (by have := Y131.out; omega)
 have K143 := Lib.hid (show Blk V132 (g117) 28 #[.float .f64 p11.lo, .float .f64 p11.hi] from (ks hV133 K128 D130).out)
 have HB144 := hbs hV133 HB129 D130 (by have := Y131.out; omega)
 have D145 := dr V132
 clear K122 K123 K124 K125 K126 K127 K128 HB129 D130
 have f146 := (kb K139 D145)
 have f147 := (kb K141 D145)
 go_wp2_with (first | (refine wl_load (by kernel_rfl) rfl rfl f146 (by rw [info_V3]; rfl) Try.underlying30 rfl ?_) | (refine wl_load (by kernel_rfl) rfl rfl f147 (by rw [info_V3]; rfl) Try.underlying30 rfl ?_))
 clear hg119 hV120 hV133 f134 u135 hv136 f146 f147
 refine (C12.out _).mono ?_
 rintro r w148 ⟨rfl, hb⟩
 have D149 := ds D145 hb
 clear D145
 clear hb
 obtain ⟨g150, hg152⟩ : ∃ g, w148.heap.size = g := ⟨_, rfl⟩
 have Y154 := Lib.hid (show w.heap.size < g150 ∧ w.heap.size + 1 < g150 ∧ g15 < g150 ∧ g25 < g150 ∧ g62 < g150 ∧ g75 < g150 ∧ g117 < g150 by rw [← hg152]; exact ⟨(kb K137 D149).lt, (kb K138 D149).lt, (kb K139 D149).lt, (kb K140 D149).lt, (kb K141 D149).lt, (kb K142 D149).lt, (kb K143 D149).lt⟩)
 obtain ⟨V151, hV153⟩ : ∃ V, w148.alloc (.cells #[.float .f64 0, .float .f64 0, .float .f64 0, .float .f64 0, .float .f64 0, .float .f64 0] 30) = V := ⟨_, rfl⟩
 have K155 := ka hV153 K137 D149
 have K156 := ka hV153 K138 D149
 have K157 := ka hV153 K139 D149
 have K158 := ka hV153 K140 D149
 have K159 := ka hV153 K141 D149
 have K160 := ka hV153 K142 D149
 have K161 := ka hV153 K143 D149
 have K162 := kn hV153 hg152
 have HB163 := hba hV153 HB144 D149
 have D164 := dr V151
 clear K137 K138 K139 K140 K141 K142 K143 HB144 D149
 have Y165 := Lib.hid (And.intro Y131.out Y154.out)
 clear Y131 Y154
 obtain ⟨g166, hg168⟩ : ∃ g, V151.heap.size = g := ⟨_, rfl⟩
 have Y170 := Lib.hid (show w.heap.size < g166 ∧ w.heap.size + 1 < g166 ∧ g15 < g166 ∧ g25 < g166 ∧ g62 < g166 ∧ g75 < g166 ∧ g117 < g166 ∧ g150 < g166 by rw [← hg168]; exact ⟨(kb K155 D164).lt, (kb K156 D164).lt, (kb K157 D164).lt, (kb K158 D164).lt, (kb K159 D164).lt, (kb K160 D164).lt, (kb K161 D164).lt, (kb K162 D164).lt⟩)
 obtain ⟨V167, hV169⟩ : ∃ V, V151.alloc (.cells #[.float .f64 0, .float .f64 0] 28) = V := ⟨_, rfl⟩
 have K171 := ka hV169 K155 D164
 have K172 := ka hV169 K156 D164
 have K173 := ka hV169 K157 D164
 have K174 := ka hV169 K158 D164
 have K175 := ka hV169 K159 D164
 have K176 := ka hV169 K160 D164
 have K177 := ka hV169 K161 D164
 have K178 := ka hV169 K162 D164
 have K179 := kn hV169 hg168
 have HB180 := hba hV169 HB163 D164
 have D181 := dr V167
 clear K155 K156 K157 K158 K159 K160 K161 K162 HB163 D164
 have Y182 := Lib.hid (And.intro Y165.out Y170.out)
 clear Y165 Y170
 have f185 := (kb K178 D181)
 obtain ⟨V183, hV184⟩ : ∃ V, World.setRow V167 (g150) (vc f) = V := ⟨_, rfl⟩
 have K186 := kfr hV184 K171 D181 (by have := Y182.out; omega)
 have K187 := kfr hV184 K172 D181 (by have := Y182.out; omega)
 have K188 := kfr hV184 K173 D181 (by have := Y182.out; omega)
 have K189 := kfr hV184 K174 D181 (by have := Y182.out; omega)
 have K190 := kfr hV184 K175 D181 (by have := Y182.out; omega)
 have K191 := kfr hV184 K176 D181 (by have := Y182.out; omega)
 have K192 := kfr hV184 K177 D181 (by have := Y182.out; omega)
 have K193 := ksr hV184 K178 D181
 have K194 := kfr hV184 K179 D181 (by have := Y182.out; omega)
 have HB195 := hbr hV184 HB180 D181 (by have := Y182.out; omega)
 have D196 := dr V183
 clear K171 K172 K173 K174 K175 K176 K177 K178 K179 HB180 D181
 have f199 := (kb K194 D196).cellsL 0 [.float .f64 0, .float .f64 0] rfl
 dsimp only [CellsL, al, vl, Nat.reduceAdd] at f199
 have u200 := (kb K194 D196).unfrozen
 obtain ⟨V197, hV198⟩ : ∃ V, setCells V183 (g166) 0 [.float .f64 c.lo, .float .f64 c.hi] = V := ⟨_, rfl⟩
 have hv201 := hV198
 simp only [setCells, Nat.reduceAdd] at hv201
 have K202 := kf hV198 K186 D196 (by have := Y182.out; omega)
 have K203 := kf hV198 K187 D196 (by have := Y182.out; omega)
 have K204 := kf hV198 K188 D196 (by have := Y182.out; omega)
 have K205 := kf hV198 K189 D196 (by have := Y182.out; omega)
 have K206 := kf hV198 K190 D196 (by have := Y182.out; omega)
 have K207 := kf hV198 K191 D196 (by have := Y182.out; omega)
 have K208 := kf hV198 K192 D196 (by have := Y182.out; omega)
 have K209 := kf hV198 K193 D196 (by have := Y182.out; omega)
 have K210 := Lib.hid (show Blk V197 (g166) 28 #[.float .f64 c.lo, .float .f64 c.hi] from (ks hV198 K194 D196).out)
 have HB211 := hbs hV198 HB195 D196 (by have := Y182.out; omega)
 have D212 := dr V197
 clear K186 K187 K188 K189 K190 K191 K192 K193 K194 HB195 D196
 have f213 := (kb K206 D212)
 have f214 := (kb K209 D212)
 have hq215 := (kb K208 D212).cellsL 0 [.float .f64 p11.lo, .float .f64 p11.hi] rfl
 dsimp only [CellsL, al, vl, Nat.reduceAdd] at hq215
 go_wp2_with (first | (refine wpList_store_row rfl 30 _ _ rfl (g150) (vc f) rfl rfl _ _ f185 (by rw [info_V3]; rfl) rfl (by kernel_rfl) ?_; rw [hV184]) | (refine wl_load (by kernel_rfl) rfl rfl f213 (by rw [info_V3]; rfl) Try.underlying30 rfl ?_) | (refine wl_load (by kernel_rfl) rfl rfl f214 (by rw [info_V3]; rfl) Try.underlying30 rfl ?_))
 clear hg152 hV153 hg168 hV169 hV184 f185 hV198 f199 u200 hv201 f213 f214 hq215
 refine (C13.out _).mono ?_
 rintro r w216 ⟨rfl, hb⟩
 have D217 := ds D212 hb
 clear D212
 clear hb
 obtain ⟨g218, hg220⟩ : ∃ g, w216.heap.size = g := ⟨_, rfl⟩
 have Y222 := Lib.hid (show w.heap.size < g218 ∧ w.heap.size + 1 < g218 ∧ g15 < g218 ∧ g25 < g218 ∧ g62 < g218 ∧ g75 < g218 ∧ g117 < g218 ∧ g150 < g218 ∧ g166 < g218 by rw [← hg220]; exact ⟨(kb K202 D217).lt, (kb K203 D217).lt, (kb K204 D217).lt, (kb K205 D217).lt, (kb K206 D217).lt, (kb K207 D217).lt, (kb K208 D217).lt, (kb K209 D217).lt, (kb K210 D217).lt⟩)
 obtain ⟨V219, hV221⟩ : ∃ V, w216.alloc (.cells #[.float .f64 0, .float .f64 0, .float .f64 0, .float .f64 0, .float .f64 0, .float .f64 0] 30) = V := ⟨_, rfl⟩
 have K223 := ka hV221 K202 D217
 have K224 := ka hV221 K203 D217
 have K225 := ka hV221 K204 D217
 have K226 := ka hV221 K205 D217
 have K227 := ka hV221 K206 D217
 have K228 := ka hV221 K207 D217
 have K229 := ka hV221 K208 D217
 have K230 := ka hV221 K209 D217
 have K231 := ka hV221 K210 D217
 have K232 := kn hV221 hg220
 have HB233 := hba hV221 HB211 D217
 have D234 := dr V219
 clear K202 K203 K204 K205 K206 K207 K208 K209 K210 HB211 D217
 have Y235 := Lib.hid (And.intro Y182.out Y222.out)
 clear Y182 Y222
 obtain ⟨g236, hg238⟩ : ∃ g, V219.heap.size = g := ⟨_, rfl⟩
 have Y240 := Lib.hid (show w.heap.size < g236 ∧ w.heap.size + 1 < g236 ∧ g15 < g236 ∧ g25 < g236 ∧ g62 < g236 ∧ g75 < g236 ∧ g117 < g236 ∧ g150 < g236 ∧ g166 < g236 ∧ g218 < g236 by rw [← hg238]; exact ⟨(kb K223 D234).lt, (kb K224 D234).lt, (kb K225 D234).lt, (kb K226 D234).lt, (kb K227 D234).lt, (kb K228 D234).lt, (kb K229 D234).lt, (kb K230 D234).lt, (kb K231 D234).lt, (kb K232 D234).lt⟩)
 obtain ⟨V237, hV239⟩ : ∃ V, V219.alloc (.cells #[.float .f64 0, .float .f64 0] 28) = V := ⟨_, rfl⟩
 have K241 := ka hV239 K223 D234
 have K242 := ka hV239 K224 D234
 have K243 := ka hV239 K225 D234
 have K244 := ka hV239 K226 D234
 have K245 := ka hV239 K227 D234
 have K246 := ka hV239 K228 D234
 have K247 := ka hV239 K229 D234
 have K248 := ka hV239 K230 D234
 have K249 := ka hV239 K231 D234
 have K250 := ka hV239 K232 D234
 have K251 := kn hV239 hg238
 have HB252 := hba hV239 HB233 D234
 have D253 := dr V237
 clear K223 K224 K225 K226 K227 K228 K229 K230 K231 K232 HB233 D234
 have Y254 := Lib.hid (And.intro Y235.out Y240.out)
 clear Y235 Y240
 have f257 := (kb K250 D253)
 obtain ⟨V255, hV256⟩ : ∃ V, World.setRow V237 (g218) (vc b) = V := ⟨_, rfl⟩
 have K258 := kfr hV256 K241 D253 (by have := Y254.out; omega)
 have K259 := kfr hV256 K242 D253 (by have := Y254.out; omega)
 have K260 := kfr hV256 K243 D253 (by have := Y254.out; omega)
 have K261 := kfr hV256 K244 D253 (by have := Y254.out; omega)
 have K262 := kfr hV256 K245 D253 (by have := Y254.out; omega)
 have K263 := kfr hV256 K246 D253 (by have := Y254.out; omega)
 have K264 := kfr hV256 K247 D253 (by have := Y254.out; omega)
 have K265 := kfr hV256 K248 D253 (by have := Y254.out; omega)
 have K266 := kfr hV256 K249 D253 (by have := Y254.out; omega)
 have K267 := ksr hV256 K250 D253
 have K268 := kfr hV256 K251 D253 (by have := Y254.out; omega)
 have HB269 := hbr hV256 HB252 D253 (by have := Y254.out; omega)
 have D270 := dr V255
 clear K241 K242 K243 K244 K245 K246 K247 K248 K249 K250 K251 HB252 D253
 have f273 := (kb K268 D270).cellsL 0 [.float .f64 0, .float .f64 0] rfl
 dsimp only [CellsL, al, vl, Nat.reduceAdd] at f273
 have u274 := (kb K268 D270).unfrozen
 obtain ⟨V271, hV272⟩ : ∃ V, setCells V255 (g236) 0 [.float .f64 t.lo, .float .f64 t.hi] = V := ⟨_, rfl⟩
 have hv275 := hV272
 simp only [setCells, Nat.reduceAdd] at hv275
 have K276 := kf hV272 K258 D270 (by have := Y254.out; omega)
 have K277 := kf hV272 K259 D270 (by have := Y254.out; omega)
 have K278 := kf hV272 K260 D270 (by have := Y254.out; omega)
 have K279 := kf hV272 K261 D270 (by have := Y254.out; omega)
 have K280 := kf hV272 K262 D270 (by have := Y254.out; omega)
 have K281 := kf hV272 K263 D270 (by have := Y254.out; omega)
 have K282 := kf hV272 K264 D270 (by have := Y254.out; omega)
 have K283 := kf hV272 K265 D270 (by have := Y254.out; omega)
 have K284 := kf hV272 K266 D270 (by have := Y254.out; omega)
 have K285 := kf hV272 K267 D270 (by have := Y254.out; omega)
 have K286 := Lib.hid (show Blk V271 (g236) 28 #[.float .f64 t.lo, .float .f64 t.hi] from (ks hV272 K268 D270).out)
 have HB287 := hbs hV272 HB269 D270 (by have := Y254.out; omega)
 have D288 := dr V271
 clear K258 K259 K260 K261 K262 K263 K264 K265 K266 K267 K268 HB269 D270
 go_wp2_with (refine wpList_store_row rfl 30 _ _ rfl (g218) (vc b) rfl rfl _ _ f257 (by rw [info_V3]; rfl) rfl (by kernel_rfl) ?_; rw [hV256])
 clear hg220 hV221 hg238 hV239 hV256 f257 hV272 f273 u274 hv275
 refine wp_loop_rounds 4 ?_
 rw [rounds_succ]
 go_wp2_with fail
 refine wp_region_held (S := (fun w' => True ∧ CellsL w' (g62) 0 [.float .f64 p7.x.lo, .float .f64 p7.x.hi] ∧ CellsL w' (g218) 0 [.float .f64 b.x.lo, .float .f64 b.x.hi])) (by kernel_rfl) ?_
 change wpAnyH _ _ _ _ _ _ _ _ (World.drew _)
 obtain ⟨wd289, hwd⟩ : ∃ x, x = World.drew V271 := ⟨_, rfl⟩
 rw [← hwd]
 have D290 := Lib.hid (hwd ▸ Below.drew D288.out : Below V271.heap.size V271 wd289)
 clear D288 hwd
 have hS291 : True ∧ CellsL wd289 (g62) 0 [.float .f64 p7.x.lo, .float .f64 p7.x.hi] ∧ CellsL wd289 (g218) 0 [.float .f64 b.x.lo, .float .f64 b.x.hi] := ⟨trivial, (kb K280 D290).cellsL 0 [.float .f64 p7.x.lo, .float .f64 p7.x.hi] rfl, (kb K285 D290).cellsL 0 [.float .f64 b.x.lo, .float .f64 b.x.hi] rfl⟩
 refine tkq 0 (bm 20 1) hS291 ?_
 refine tkq 1 (bm 20 3) hS291 ?_
 refine tkq 2 (bm 20 7) hS291 ?_
 refine tke 3 (bm 20 15) hS291 ?_
 refine tkq 4 (bm 20 31) hS291 ?_
 refine tkq 5 (bm 20 63) hS291 ?_
 refine tkq 6 (bm 20 127) hS291 ?_
 refine tke 7 (bm 20 255) hS291 ?_
 refine tkq 8 (bm 20 511) hS291 ?_
 refine tkq 9 (bm 20 1023) hS291 ?_
 refine tkq 10 (bm 20 2047) hS291 ?_
 refine tkq 11 (bm 20 4095) hS291 ?_
 refine tkq 12 (bm 20 8191) hS291 ?_
 refine tke 13 (bm 20 16383) hS291 ?_
 refine tkq 14 (bm 20 32767) hS291 ?_
 refine tkq 15 (bm 20 65535) hS291 ?_
 refine tkq 16 (bm 20 131071) hS291 ?_
 refine tke 17 (bm 20 262143) hS291 ?_
 refine tkq 18 (bm 20 524287) hS291 ?_
 refine tkq 19 (bm 20 1048575) hS291 ?_
 refine wpAnyH_done (by kernel_rfl) ?_ _
 clear hS291
 go_wp2_with fail
 rw [rounds_succ]
 go_wp2_with fail
 refine wp_region_held (S := (fun w' => True ∧ CellsL w' (g62) 2 [.float .f64 p7.y.lo, .float .f64 p7.y.hi] ∧ CellsL w' (g218) 2 [.float .f64 b.y.lo, .float .f64 b.y.hi])) (by kernel_rfl) ?_
 change wpAnyH _ _ _ _ _ _ _ _ (World.drew _)
 obtain ⟨wd312, hwd⟩ : ∃ x, x = World.drew wd289 := ⟨_, rfl⟩
 rw [← hwd]
 have D313 := Lib.hid (hwd ▸ Below.drew D290.out : Below V271.heap.size V271 wd312)
 clear D290 hwd
 have hS314 : True ∧ CellsL wd312 (g62) 2 [.float .f64 p7.y.lo, .float .f64 p7.y.hi] ∧ CellsL wd312 (g218) 2 [.float .f64 b.y.lo, .float .f64 b.y.hi] := ⟨trivial, (kb K280 D313).cellsL 2 [.float .f64 p7.y.lo, .float .f64 p7.y.hi] rfl, (kb K285 D313).cellsL 2 [.float .f64 b.y.lo, .float .f64 b.y.hi] rfl⟩
 refine tkq 0 (bm 20 1) hS314 ?_
 refine tkq 1 (bm 20 3) hS314 ?_
 refine tkq 2 (bm 20 7) hS314 ?_
 refine tke 3 (bm 20 15) hS314 ?_
 refine tkq 4 (bm 20 31) hS314 ?_
 refine tkq 5 (bm 20 63) hS314 ?_
 refine tkq 6 (bm 20 127) hS314 ?_
 refine tke 7 (bm 20 255) hS314 ?_
 refine tkq 8 (bm 20 511) hS314 ?_
 refine tkq 9 (bm 20 1023) hS314 ?_
 refine tkq 10 (bm 20 2047) hS314 ?_
 refine tkq 11 (bm 20 4095) hS314 ?_
 refine tkq 12 (bm 20 8191) hS314 ?_
 refine tke 13 (bm 20 16383) hS314 ?_
 refine tkq 14 (bm 20 32767) hS314 ?_
 refine tkq 15 (bm 20 65535) hS314 ?_
 refine tkq 16 (bm 20 131071) hS314 ?_
 refine tke 17 (bm 20 262143) hS314 ?_
 refine tkq 18 (bm 20 524287) hS314 ?_
 refine tkq 19 (bm 20 1048575) hS314 ?_
 refine wpAnyH_done (by kernel_rfl) ?_ _
 clear hS314
 go_wp2_with fail
 rw [rounds_succ]
 go_wp2_with fail
 refine wp_region_held (S := (fun w' => True ∧ CellsL w' (g62) 4 [.float .f64 p7.z.lo, .float .f64 p7.z.hi] ∧ CellsL w' (g218) 4 [.float .f64 b.z.lo, .float .f64 b.z.hi])) (by kernel_rfl) ?_
 change wpAnyH _ _ _ _ _ _ _ _ (World.drew _)
 obtain ⟨wd335, hwd⟩ : ∃ x, x = World.drew wd312 := ⟨_, rfl⟩
 rw [← hwd]
 have D336 := Lib.hid (hwd ▸ Below.drew D313.out : Below V271.heap.size V271 wd335)
 clear D313 hwd
 have hS337 : True ∧ CellsL wd335 (g62) 4 [.float .f64 p7.z.lo, .float .f64 p7.z.hi] ∧ CellsL wd335 (g218) 4 [.float .f64 b.z.lo, .float .f64 b.z.hi] := ⟨trivial, (kb K280 D336).cellsL 4 [.float .f64 p7.z.lo, .float .f64 p7.z.hi] rfl, (kb K285 D336).cellsL 4 [.float .f64 b.z.lo, .float .f64 b.z.hi] rfl⟩
 refine tkq 0 (bm 20 1) hS337 ?_
 refine tkq 1 (bm 20 3) hS337 ?_
 refine tkq 2 (bm 20 7) hS337 ?_
 refine tke 3 (bm 20 15) hS337 ?_
 refine tkq 4 (bm 20 31) hS337 ?_
 refine tkq 5 (bm 20 63) hS337 ?_
 refine tkq 6 (bm 20 127) hS337 ?_
 refine tke 7 (bm 20 255) hS337 ?_
 refine tkq 8 (bm 20 511) hS337 ?_
 refine tkq 9 (bm 20 1023) hS337 ?_
 refine tkq 10 (bm 20 2047) hS337 ?_
 refine tkq 11 (bm 20 4095) hS337 ?_
 refine tkq 12 (bm 20 8191) hS337 ?_
 refine tke 13 (bm 20 16383) hS337 ?_
 refine tkq 14 (bm 20 32767) hS337 ?_
 refine tkq 15 (bm 20 65535) hS337 ?_
 refine tkq 16 (bm 20 131071) hS337 ?_
 refine tke 17 (bm 20 262143) hS337 ?_
 refine tkq 18 (bm 20 524287) hS337 ?_
 refine tkq 19 (bm 20 1048575) hS337 ?_
 refine wpAnyH_done (by kernel_rfl) ?_ _
 clear hS337
 go_wp2_with fail
 rw [rounds_succ]
 have hq358 := (kb K282 D336).cellsL 0 [.float .f64 p11.lo, .float .f64 p11.hi] rfl
 dsimp only [CellsL, al, vl, Nat.reduceAdd] at hq358
 have hq359 := (kb K284 D336).cellsL 0 [.float .f64 c.lo, .float .f64 c.hi] rfl
 dsimp only [CellsL, al, vl, Nat.reduceAdd] at hq359
 have hq360 := (kb K286 D336).cellsL 0 [.float .f64 t.lo, .float .f64 t.hi] rfl
 dsimp only [CellsL, al, vl, Nat.reduceAdd] at hq360
 go_wp2_with fail
 clear hq358 hq359 hq360
 refine (C20.out _).mono ?_
 rintro r w361 ⟨rfl, hb⟩
 have D362 := ds D336 hb
 clear D336
 clear hb
 obtain ⟨g363, hg365⟩ : ∃ g, w361.heap.size = g := ⟨_, rfl⟩
 have Y367 := Lib.hid (show w.heap.size < g363 ∧ w.heap.size + 1 < g363 ∧ g15 < g363 ∧ g25 < g363 ∧ g62 < g363 ∧ g75 < g363 ∧ g117 < g363 ∧ g150 < g363 ∧ g166 < g363 ∧ g218 < g363 ∧ g236 < g363 by rw [← hg365]; exact ⟨(kb K276 D362).lt, (kb K277 D362).lt, (kb K278 D362).lt, (kb K279 D362).lt, (kb K280 D362).lt, (kb K281 D362).lt, (kb K282 D362).lt, (kb K283 D362).lt, (kb K284 D362).lt, (kb K285 D362).lt, (kb K286 D362).lt⟩)
 obtain ⟨V364, hV366⟩ : ∃ V, w361.alloc (.cells #[.float .f64 0, .float .f64 0] 28) = V := ⟨_, rfl⟩
 have K368 := ka hV366 K276 D362
 have K369 := ka hV366 K277 D362
 have K370 := ka hV366 K278 D362
 have K371 := ka hV366 K279 D362
 have K372 := ka hV366 K280 D362
 have K373 := ka hV366 K281 D362
 have K374 := ka hV366 K282 D362
 have K375 := ka hV366 K283 D362
 have K376 := ka hV366 K284 D362
 have K377 := ka hV366 K285 D362
 have K378 := ka hV366 K286 D362
 have K379 := kn hV366 hg365
 have HB380 := hba hV366 HB287 D362
 have D381 := dr V364
 clear K276 K277 K278 K279 K280 K281 K282 K283 K284 K285 K286 HB287 D362
 have Y382 := Lib.hid (And.intro Y254.out Y367.out)
 clear Y254 Y367
 have f385 := (kb K379 D381).cellsL 0 [.float .f64 0, .float .f64 0] rfl
 dsimp only [CellsL, al, vl, Nat.reduceAdd] at f385
 have u386 := (kb K379 D381).unfrozen
 obtain ⟨V383, hV384⟩ : ∃ V, setCells V364 (g363) 0 [.float .f64 p20.lo, .float .f64 p20.hi] = V := ⟨_, rfl⟩
 have hv387 := hV384
 simp only [setCells, Nat.reduceAdd] at hv387
 have K388 := kf hV384 K368 D381 (by have := Y382.out; omega)
 have K389 := kf hV384 K369 D381 (by have := Y382.out; omega)
 have K390 := kf hV384 K370 D381 (by have := Y382.out; omega)
 have K391 := kf hV384 K371 D381 (by have := Y382.out; omega)
 have K392 := kf hV384 K372 D381 (by have := Y382.out; omega)
 have K393 := kf hV384 K373 D381 (by have := Y382.out; omega)
 have K394 := kf hV384 K374 D381 (by have := Y382.out; omega)
 have K395 := kf hV384 K375 D381 (by have := Y382.out; omega)
 have K396 := kf hV384 K376 D381 (by have := Y382.out; omega)
 have K397 := kf hV384 K377 D381 (by have := Y382.out; omega)
 have K398 := kf hV384 K378 D381 (by have := Y382.out; omega)
 have K399 := Lib.hid (show Blk V383 (g363) 28 #[.float .f64 p20.lo, .float .f64 p20.hi] from (ks hV384 K379 D381).out)
 have HB400 := hbs hV384 HB380 D381 (by have := Y382.out; omega)
 have D401 := dr V383
 clear K368 K369 K370 K371 K372 K373 K374 K375 K376 K377 K378 K379 HB380 D381
 have hq402 := (kb K399 D401).cellsL 0 [.float .f64 p20.lo, .float .f64 p20.hi] rfl
 dsimp only [CellsL, al, vl, Nat.reduceAdd] at hq402
 go_wp2_with fail
 clear hg365 hV366 hV384 f385 u386 hv387 hq402
 go_ret
 exact ⟨rfl, below_step HB400.out D401.out⟩
theorem pos3 (a : Sp) : posS a = 1 ∨ posS a = 0 ∨ posS a = 2 := by unfold posS; split <;> (try split) <;> simp
theorem walk_bsdfStraight (n0 n1 n2 d0 d1 d2 : Nat) (hn0 : n0 < 18446744073709551616) (hn1 : n1 < 18446744073709551616) (hn2 : n2 < 18446744073709551616) (hd0 : d0 < 18446744073709551616) (hd1 : d1 < 18446744073709551616) (hd2 : d2 < 18446744073709551616) (w : World) : Calls Try.prog 10 #[.agg #[.float .f64 n0, .float .f64 n1, .float .f64 n2], .agg #[.float .f64 d0, .float .f64 d1, .float .f64 d2]] w fun r w' => r = .returned (.bool true) ∧ Below w.heap.size w w' := by
 cases v0 : nmB n0 n1 n2
 · exact bsdfStraight_n0 n0 n1 n2 d0 d1 d2 hn0 hn1 hn2 hd0 hd1 hd2 v0 w
 · cases v1 : nmB d0 d1 d2
   · exact bsdfStraight_n1 n0 n1 n2 d0 d1 d2 hn0 hn1 hn2 hd0 hd1 hd2 v0 v1 w
   · by_cases g0 : Z (vLen (vOf n0 n1 n2)).lo ≤ 0
     · exact bsdfStraight_z0 n0 n1 n2 d0 d1 d2 hn0 hn1 hn2 hd0 hd1 hd2 v0 v1 g0 w
     · have g0' : 0 < Z (vLen (vOf n0 n1 n2)).lo := by omega
       by_cases g1 : Z (vLen (vOf d0 d1 d2)).lo ≤ 0
       · exact bsdfStraight_z1 n0 n1 n2 d0 d1 d2 hn0 hn1 hn2 hd0 hd1 hd2 v0 v1 g0' g1 w
       · have g1' : 0 < Z (vLen (vOf d0 d1 d2)).lo := by omega
         have hf := face_of (n0 := n0) (n1 := n1) (n2 := n2) (d0 := d0) (d1 := d1) (d2 := d2) g0' g1'
         rcases pos3 (bdCos (vUnit (vOf n0 n1 n2)) (vUnit (vOf d0 d1 d2))) with h | h | h
         · rcases pos3 (bdRest (ofS 4607182418800017408) (bdCos (vUnit (vOf n0 n1 n2)) (vUnit (vOf d0 d1 d2)))) with m | m | m
           · have hy := straight_yes (hf.1 h)
             exact bsdfStraight_k n0 n1 n2 d0 d1 d2 hn0 hn1 hn2 hd0 hd1 hd2 v0 v1 g0' g1' (vUnit (vOf n0 n1 n2)) (bdCos (vUnit (vOf n0 n1 n2)) (vUnit (vOf d0 d1 d2))) (fun w => face_1 _ _ h w) _ _ (fun w => bent_1 (vUnit (vOf n0 n1 n2)) (vUnit (vOf d0 d1 d2)) _ m w) hy.1 (InS.wi (x := 0) (by rw [fv0]; exact hy.2) (by decide)) w
           · exact bsdfStraight_b0 n0 n1 n2 d0 d1 d2 hn0 hn1 hn2 hd0 hd1 hd2 v0 v1 g0' g1' (vUnit (vOf n0 n1 n2)) (bdCos (vUnit (vOf n0 n1 n2)) (vUnit (vOf d0 d1 d2))) (fun w => face_1 _ _ h w) (fun w => bent_0 (vUnit (vOf n0 n1 n2)) (vUnit (vOf d0 d1 d2)) _ m w) (straight_no (hf.1 h) m) w
           · exact bsdfStraight_b2 n0 n1 n2 d0 d1 d2 hn0 hn1 hn2 hd0 hd1 hd2 v0 v1 g0' g1' (vUnit (vOf n0 n1 n2)) (bdCos (vUnit (vOf n0 n1 n2)) (vUnit (vOf d0 d1 d2))) (fun w => face_1 _ _ h w) (fun w => bent_2 (vUnit (vOf n0 n1 n2)) (vUnit (vOf d0 d1 d2)) _ m w) w
         · rcases pos3 (bdRest (ofS 4607182418800017408) (bdCos (vNeg (vUnit (vOf n0 n1 n2))) (vUnit (vOf d0 d1 d2)))) with m | m | m
           · have hy := straight_yes (hf.2 h)
             exact bsdfStraight_k n0 n1 n2 d0 d1 d2 hn0 hn1 hn2 hd0 hd1 hd2 v0 v1 g0' g1' (vNeg (vUnit (vOf n0 n1 n2))) (negS (bdCos (vUnit (vOf n0 n1 n2)) (vUnit (vOf d0 d1 d2)))) (fun w => face_0 _ _ h w) _ _ (fun w => bent_1 (vNeg (vUnit (vOf n0 n1 n2))) (vUnit (vOf d0 d1 d2)) _ m w) hy.1 (InS.wi (x := 0) (by rw [fv0]; exact hy.2) (by decide)) w
           · exact bsdfStraight_b0 n0 n1 n2 d0 d1 d2 hn0 hn1 hn2 hd0 hd1 hd2 v0 v1 g0' g1' (vNeg (vUnit (vOf n0 n1 n2))) (negS (bdCos (vUnit (vOf n0 n1 n2)) (vUnit (vOf d0 d1 d2)))) (fun w => face_0 _ _ h w) (fun w => bent_0 (vNeg (vUnit (vOf n0 n1 n2))) (vUnit (vOf d0 d1 d2)) _ m w) (straight_no (hf.2 h) m) w
           · exact bsdfStraight_b2 n0 n1 n2 d0 d1 d2 hn0 hn1 hn2 hd0 hd1 hd2 v0 v1 g0' g1' (vNeg (vUnit (vOf n0 n1 n2))) (negS (bdCos (vUnit (vOf n0 n1 n2)) (vUnit (vOf d0 d1 d2)))) (fun w => face_0 _ _ h w) (fun w => bent_2 (vNeg (vUnit (vOf n0 n1 n2))) (vUnit (vOf d0 d1 d2)) _ m w) w
         · rcases pos3 (bdRest (ofS 4607182418800017408) (bdCos (vUnit (vOf n0 n1 n2)) (vUnit (vOf d0 d1 d2)))) with m | m | m
           · exact bsdfStraight_u1 n0 n1 n2 d0 d1 d2 hn0 hn1 hn2 hd0 hd1 hd2 v0 v1 g0' g1' (vUnit (vOf n0 n1 n2)) (bdCos (vUnit (vOf n0 n1 n2)) (vUnit (vOf d0 d1 d2))) (fun w => face_2 _ _ h w) _ _ (fun w => bent_1 (vUnit (vOf n0 n1 n2)) (vUnit (vOf d0 d1 d2)) _ m w) w
           · exact bsdfStraight_u0 n0 n1 n2 d0 d1 d2 hn0 hn1 hn2 hd0 hd1 hd2 v0 v1 g0' g1' (vUnit (vOf n0 n1 n2)) (bdCos (vUnit (vOf n0 n1 n2)) (vUnit (vOf d0 d1 d2))) (fun w => face_2 _ _ h w) (fun w => bent_0 (vUnit (vOf n0 n1 n2)) (vUnit (vOf d0 d1 d2)) _ m w) w
           · exact bsdfStraight_u2 n0 n1 n2 d0 d1 d2 hn0 hn1 hn2 hd0 hd1 hd2 v0 v1 g0' g1' (vUnit (vOf n0 n1 n2)) (bdCos (vUnit (vOf n0 n1 n2)) (vUnit (vOf d0 d1 d2))) (fun w => face_2 _ _ h w) (fun w => bent_2 (vUnit (vOf n0 n1 n2)) (vUnit (vOf d0 d1 d2)) _ m w) w
end Go.Proofs.Ytnljfcebmgifdaa
