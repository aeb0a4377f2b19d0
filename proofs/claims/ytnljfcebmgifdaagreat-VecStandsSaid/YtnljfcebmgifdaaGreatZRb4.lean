/- Shaken: Te Zd. -/
import Derived.Test.YtnljfcebmgifdaaGreatZTd
import Derived.Test.YtnljfcebmgifdaaGreatZYe
import Derived.Test.YtnljfcebmgifdaaGreatZRb2
import Derived.Test.YtnljfcebmgifdaaGreatZRb3
set_option maxRecDepth 100000
set_option maxHeartbeats 8000000
set_option linter.unusedVariables false
set_option linter.unusedSimpArgs false
namespace Go.Proofs.YtnljfcebmgifdaaGreat
open Go.RowKit Fl
theorem info_Ray : (Tryz.prog.info? 52).map (·.size) = some 12 := by kernel_rfl
theorem awake3  (w : World) : Calls Tryz.prog 22 #[] w fun r w' => r = .returned (.bool true) ∧ Below w.heap.size w w' := by
 have C0 := Lib.hid (fun w => ofV_any 4607182418800017408 0 0 (by decide) (by decide) (by decide) w)
 obtain ⟨p0, hp0⟩ : ∃ z_, vOf 4607182418800017408 0 0 = z_ := ⟨_, rfl⟩
 rw [hp0] at C0
 have C1 := Lib.hid (fun w => ofV_any 0 4607182418800017408 0 (by decide) (by decide) (by decide) w)
 obtain ⟨p1, hp1⟩ : ∃ z_, vOf 0 4607182418800017408 0 = z_ := ⟨_, rfl⟩
 rw [hp1] at C1
 have C2 := Lib.hid (fun w => ofV_any 4613937818241073152 0 4616189618054758400 (by decide) (by decide) (by decide) w)
 obtain ⟨p2, hp2⟩ : ∃ z_, vOf 4613937818241073152 0 4616189618054758400 = z_ := ⟨_, rfl⟩
 rw [hp2] at C2
 have C3 := Lib.hid (fun w => unitV_any p2 w)
 have hl : vLen p2 = fiveS := by rw [← hp2]; exact len34
 rw [hl] at C3
 clear hl
 simp only [fiveS_lo, fiveS_hi] at C3
 obtain ⟨p3, hp3⟩ : ∃ z_, vUnit p2 = z_ := ⟨_, rfl⟩
 rw [hp3] at C3
 have C4 := Lib.hid (fun w => crossV_any p0 p1 w)
 have hl : vCross p0 p1 = vOf 0 0 4607182418800017408 := by rw [← hp0, ← hp1]; exact cross_xy
 rw [hl] at C4
 clear hl
 obtain ⟨p4, hp4⟩ : ∃ z_, vOf 0 0 4607182418800017408 = z_ := ⟨_, rfl⟩
 rw [hp4] at C4
 have C5 := Lib.hid (fun w => ofV_any 0 0 4607182418800017408 (by decide) (by decide) (by decide) w)
 rw [hp4] at C5
 have C6 := Lib.hid (fun w => dotV_any p0 p1 w)
 have hl : vDot p0 p1 = zeroS := by rw [← hp0, ← hp1]; exact dot_xy
 rw [hl] at C6
 clear hl
 simp only [zeroS_lo, zeroS_hi] at C6
 clear hp0 hp1 hp2 hp3 hp4
 have eq_0 := order_self p4.x.vd.l
 have eq_1 := order_self p4.x.vd.h
 have eq_2 := order_self p4.y.vd.l
 have eq_3 := order_self p4.y.vd.h
 have eq_4 := order_self p4.z.vd.l
 have eq_5 := order_self p4.z.vd.h
 have z00 := isZW00
 have eq00 := eq00
 have eq55 := eq55
 go_enter Tryz.func22, Tryz.ntmps22
 go_wp2_with fail
 obtain ⟨W, hW⟩ : ∃ W, W = w := ⟨_, rfl⟩
 rw [← hW]
 have HB := Lib.hid (hW ▸ Below.refl w.heap.size w : Below w.heap.size w W)
 clear hW
 have D1 := dr W
 refine (C0.out _).mono ?_
 rintro r w2 ⟨rfl, hb⟩
 have D3 := ds D1 hb
 clear D1
 clear hb
 go_wp2_with fail
 refine (C1.out _).mono ?_
 rintro r w4 ⟨rfl, hb⟩
 have D5 := ds D3 hb
 clear D3
 clear hb
 obtain ⟨g6, hg8⟩ : ∃ g, w4.heap.size = g := ⟨_, rfl⟩
 have Y10 := Lib.hid (show w.heap.size ≤ g6 by rw [← hg8]; exact (below_step HB.out D5.out).size)
 obtain ⟨V7, hV9⟩ : ∃ V, w4.alloc (.cells #[.float .f64 0, .float .f64 0, .float .f64 0, .float .f64 0, .float .f64 0, .float .f64 0] 26) = V := ⟨_, rfl⟩
 have K11 := kn hV9 hg8
 have HB12 := hba hV9 HB D5
 have D13 := dr V7
 clear  HB D5
 obtain ⟨g14, hg16⟩ : ∃ g, V7.heap.size = g := ⟨_, rfl⟩
 have Y18 := Lib.hid (show g6 < g14 by rw [← hg16]; exact (kb K11 D13).lt)
 obtain ⟨V15, hV17⟩ : ∃ V, V7.alloc (.cells #[.float .f64 0, .float .f64 0, .float .f64 0, .float .f64 0, .float .f64 0, .float .f64 0] 26) = V := ⟨_, rfl⟩
 have K19 := ka hV17 K11 D13
 have K20 := kn hV17 hg16
 have HB21 := hba hV17 HB12 D13
 have D22 := dr V15
 clear K11 HB12 D13
 have Y23 := Lib.hid (And.intro Y10.out Y18.out)
 clear Y10 Y18
 have f26 := (kb K19 D22)
 obtain ⟨V24, hV25⟩ : ∃ V, World.setRow V15 (g6) (vc p0) = V := ⟨_, rfl⟩
 have K27 := ksr hV25 K19 D22
 have K28 := kfr hV25 K20 D22 (by have := Y23.out; omega)
 have HB29 := hbr hV25 HB21 D22 (by have := Y23.out; omega)
 have D30 := dr V24
 clear K19 K20 HB21 D22
 have f33 := (kb K28 D30)
 obtain ⟨V31, hV32⟩ : ∃ V, World.setRow V24 (g14) (vc p1) = V := ⟨_, rfl⟩
 have K34 := kfr hV32 K27 D30 (by have := Y23.out; omega)
 have K35 := ksr hV32 K28 D30
 have HB36 := hbr hV32 HB29 D30 (by have := Y23.out; omega)
 have D37 := dr V31
 clear K27 K28 HB29 D30
 go_wp2_with (first | (refine wpList_store_row rfl 26 _ _ rfl (g6) (vc p0) rfl rfl _ _ f26 (by rw [info_V3]; rfl) rfl (by kernel_rfl) ?_; rw [hV25]) | (refine wpList_store_row rfl 26 _ _ rfl (g14) (vc p1) rfl rfl _ _ f33 (by rw [info_V3]; rfl) rfl (by kernel_rfl) ?_; rw [hV32]))
 clear hg8 hV9 hg16 hV17 hV25 f26 hV32 f33
 refine (C2.out _).mono ?_
 rintro r w38 ⟨rfl, hb⟩
 have D39 := ds D37 hb
 clear D37
 clear hb
 go_wp2_with fail
 refine (C3.out _).mono ?_
 rintro r w40 ⟨rfl, hb⟩
 have D41 := ds D39 hb
 clear D39
 clear hb
 obtain ⟨g42, hg44⟩ : ∃ g, w40.heap.size = g := ⟨_, rfl⟩
 have Y46 := Lib.hid (show g14 < g42 by rw [← hg44]; exact (kb K35 D41).lt)
 obtain ⟨V43, hV45⟩ : ∃ V, w40.alloc (.cells #[.float .f64 0, .float .f64 0, .float .f64 0, .float .f64 0, .float .f64 0, .float .f64 0] 26) = V := ⟨_, rfl⟩
 have K47 := ka hV45 K34 D41
 have K48 := ka hV45 K35 D41
 have K49 := kn hV45 hg44
 have HB50 := hba hV45 HB36 D41
 have D51 := dr V43
 clear K34 K35 HB36 D41
 have Y52 := Lib.hid (And.intro Y23.out Y46.out)
 clear Y23 Y46
 obtain ⟨g53, hg55⟩ : ∃ g, V43.heap.size = g := ⟨_, rfl⟩
 have Y57 := Lib.hid (show g42 < g53 by rw [← hg55]; exact (kb K49 D51).lt)
 obtain ⟨V54, hV56⟩ : ∃ V, V43.alloc (.cells #[.float .f64 0, .float .f64 0] 24) = V := ⟨_, rfl⟩
 have K58 := ka hV56 K47 D51
 have K59 := ka hV56 K48 D51
 have K60 := ka hV56 K49 D51
 have K61 := kn hV56 hg55
 have HB62 := hba hV56 HB50 D51
 have D63 := dr V54
 clear K47 K48 K49 HB50 D51
 have Y64 := Lib.hid (And.intro Y52.out Y57.out)
 clear Y52 Y57
 have f67 := (kb K60 D63)
 obtain ⟨V65, hV66⟩ : ∃ V, World.setRow V54 (g42) (vc p3) = V := ⟨_, rfl⟩
 have K68 := kfr hV66 K58 D63 (by have := Y64.out; omega)
 have K69 := kfr hV66 K59 D63 (by have := Y64.out; omega)
 have K70 := ksr hV66 K60 D63
 have K71 := kfr hV66 K61 D63 (by have := Y64.out; omega)
 have HB72 := hbr hV66 HB62 D63 (by have := Y64.out; omega)
 have D73 := dr V65
 clear K58 K59 K60 K61 HB62 D63
 have f76 := (kb K71 D73).cellsL 0 [.float .f64 0, .float .f64 0] rfl
 dsimp only [CellsL, al, vl, Nat.reduceAdd] at f76
 have u77 := (kb K71 D73).unfrozen
 obtain ⟨V74, hV75⟩ : ∃ V, setCells V65 (g53) 0 [.float .f64 4617315517961601024, .float .f64 4617315517961601024] = V := ⟨_, rfl⟩
 have hv78 := hV75
 simp only [setCells, Nat.reduceAdd] at hv78
 have K79 := kf hV75 K68 D73 (by have := Y64.out; omega)
 have K80 := kf hV75 K69 D73 (by have := Y64.out; omega)
 have K81 := kf hV75 K70 D73 (by have := Y64.out; omega)
 have K82 := Lib.hid (show Blk V74 (g53) 24 #[.float .f64 4617315517961601024, .float .f64 4617315517961601024] from (ks hV75 K71 D73).out)
 have HB83 := hbs hV75 HB72 D73 (by have := Y64.out; omega)
 have D84 := dr V74
 clear K68 K69 K70 K71 HB72 D73
 have f85 := (kb K79 D84)
 have f86 := (kb K80 D84)
 go_wp2_with (first | (refine wpList_store_row rfl 26 _ _ rfl (g42) (vc p3) rfl rfl _ _ f67 (by rw [info_V3]; rfl) rfl (by kernel_rfl) ?_; rw [hV66]) | (refine wl_load (by kernel_rfl) rfl rfl f85 (by rw [info_V3]; rfl) Tryz.underlying26 rfl ?_) | (refine wl_load (by kernel_rfl) rfl rfl f86 (by rw [info_V3]; rfl) Tryz.underlying26 rfl ?_))
 clear hg44 hV45 hg55 hV56 hV66 f67 hV75 f76 u77 hv78 f85 f86
 refine (C4.out _).mono ?_
 rintro r w87 ⟨rfl, hb⟩
 have D88 := ds D84 hb
 clear D84
 clear hb
 go_wp2_with fail
 refine (C5.out _).mono ?_
 rintro r w89 ⟨rfl, hb⟩
 have D90 := ds D88 hb
 clear D88
 clear hb
 have f91 := (kb K79 D90)
 have f92 := (kb K80 D90)
 go_wp2_with (first | (refine wl_load (by kernel_rfl) rfl rfl f91 (by rw [info_V3]; rfl) Tryz.underlying26 rfl ?_) | (refine wl_load (by kernel_rfl) rfl rfl f92 (by rw [info_V3]; rfl) Tryz.underlying26 rfl ?_))
 clear f91 f92
 refine (C6.out _).mono ?_
 rintro r w93 ⟨rfl, hb⟩
 have D94 := ds D90 hb
 clear D90
 clear hb
 have hq95 := (kb K82 D94).cellsL 0 [.float .f64 4617315517961601024, .float .f64 4617315517961601024] rfl
 dsimp only [CellsL, al, vl, Nat.reduceAdd] at hq95
 go_wp2_with fail
 clear hq95
 go_ret
 exact ⟨rfl, below_step HB83.out D94.out⟩
end Go.Proofs.YtnljfcebmgifdaaGreat
set_option linter.unusedVariables false
set_option linter.unusedSimpArgs false
namespace Go.Proofs.YtnljfcebmgifdaaGreat
open Go.RowKit Fl
theorem vecStands_n0 (a0 a1 a2 a3 a4 a5 b0 b1 b2 b3 b4 b5 s0 s1 : Nat) (ha0 : a0 < 18446744073709551616) (ha1 : a1 < 18446744073709551616) (ha2 : a2 < 18446744073709551616) (ha3 : a3 < 18446744073709551616) (ha4 : a4 < 18446744073709551616) (ha5 : a5 < 18446744073709551616) (hb0 : b0 < 18446744073709551616) (hb1 : b1 < 18446744073709551616) (hb2 : b2 < 18446744073709551616) (hb3 : b3 < 18446744073709551616) (hb4 : b4 < 18446744073709551616) (hb5 : b5 < 18446744073709551616) (hs0 : s0 < 18446744073709551616) (hs1 : s1 < 18446744073709551616) (v0 : vdV a0 a1 a2 a3 a4 a5 = false) (w : World) : Calls Tryz.prog 4 #[Value.agg #[.float .f64 a0, .float .f64 a1, .float .f64 a2, .float .f64 a3, .float .f64 a4, .float .f64 a5], Value.agg #[.float .f64 b0, .float .f64 b1, .float .f64 b2, .float .f64 b3, .float .f64 b4, .float .f64 b5], Value.agg #[.float .f64 s0, .float .f64 s1]] w fun r w' => r = .returned (.bool true) ∧ Below w.heap.size w w' := by
 have C0 := Lib.hid (awake3)
 have C1 := Lib.hid (fun w => rvalidV_any a0 a1 a2 a3 a4 a5 ha0 ha1 ha2 ha3 ha4 ha5 w)
 rw [v0] at C1
 go_enter Tryz.func4, Tryz.ntmps4
 go_wp2_with fail
 obtain ⟨W, hW, K0, K1, K2, hB, hz⟩ := bx3 w 26 26 24 #[.float .f64 a0, .float .f64 a1, .float .f64 a2, .float .f64 a3, .float .f64 a4, .float .f64 a5] #[.float .f64 b0, .float .f64 b1, .float .f64 b2, .float .f64 b3, .float .f64 b4, .float .f64 b5] #[.float .f64 s0, .float .f64 s1]
 rw [← hW]
 have K0 := Lib.hid K0
 have K1 := Lib.hid K1
 have K2 := Lib.hid K2
 have HB := Lib.hid hB
 clear hW hB hz
 have D1 := dr W
 refine (C0.out _).mono ?_
 rintro r w2 ⟨rfl, hb⟩
 have D3 := ds D1 hb
 clear D1
 clear hb
 have f4 := (kb K0 D3)
 go_wp2_with (refine wl_load (by kernel_rfl) rfl rfl f4 (by rw [info_V3]; rfl) Tryz.underlying26 rfl ?_)
 clear f4
 refine (C1.out _).mono ?_
 rintro r w5 ⟨rfl, hb⟩
 have D6 := ds D3 hb
 clear D3
 clear hb
 go_wp2_with fail
 go_ret
 exact ⟨rfl, below_step HB.out D6.out⟩
theorem vecStands_n1 (a0 a1 a2 a3 a4 a5 b0 b1 b2 b3 b4 b5 s0 s1 : Nat) (ha0 : a0 < 18446744073709551616) (ha1 : a1 < 18446744073709551616) (ha2 : a2 < 18446744073709551616) (ha3 : a3 < 18446744073709551616) (ha4 : a4 < 18446744073709551616) (ha5 : a5 < 18446744073709551616) (hb0 : b0 < 18446744073709551616) (hb1 : b1 < 18446744073709551616) (hb2 : b2 < 18446744073709551616) (hb3 : b3 < 18446744073709551616) (hb4 : b4 < 18446744073709551616) (hb5 : b5 < 18446744073709551616) (hs0 : s0 < 18446744073709551616) (hs1 : s1 < 18446744073709551616) (v0 : vdV a0 a1 a2 a3 a4 a5 = true) (v1 : vdV b0 b1 b2 b3 b4 b5 = false) (w : World) : Calls Tryz.prog 4 #[Value.agg #[.float .f64 a0, .float .f64 a1, .float .f64 a2, .float .f64 a3, .float .f64 a4, .float .f64 a5], Value.agg #[.float .f64 b0, .float .f64 b1, .float .f64 b2, .float .f64 b3, .float .f64 b4, .float .f64 b5], Value.agg #[.float .f64 s0, .float .f64 s1]] w fun r w' => r = .returned (.bool true) ∧ Below w.heap.size w w' := by
 have C0 := Lib.hid (awake3)
 have C1 := Lib.hid (fun w => rvalidV_any a0 a1 a2 a3 a4 a5 ha0 ha1 ha2 ha3 ha4 ha5 w)
 rw [v0] at C1
 have C2 := Lib.hid (fun w => rvalidV_any b0 b1 b2 b3 b4 b5 hb0 hb1 hb2 hb3 hb4 hb5 w)
 rw [v1] at C2
 go_enter Tryz.func4, Tryz.ntmps4
 go_wp2_with fail
 obtain ⟨W, hW, K0, K1, K2, hB, hz⟩ := bx3 w 26 26 24 #[.float .f64 a0, .float .f64 a1, .float .f64 a2, .float .f64 a3, .float .f64 a4, .float .f64 a5] #[.float .f64 b0, .float .f64 b1, .float .f64 b2, .float .f64 b3, .float .f64 b4, .float .f64 b5] #[.float .f64 s0, .float .f64 s1]
 rw [← hW]
 have K0 := Lib.hid K0
 have K1 := Lib.hid K1
 have K2 := Lib.hid K2
 have HB := Lib.hid hB
 clear hW hB hz
 have D1 := dr W
 refine (C0.out _).mono ?_
 rintro r w2 ⟨rfl, hb⟩
 have D3 := ds D1 hb
 clear D1
 clear hb
 have f4 := (kb K0 D3)
 go_wp2_with (refine wl_load (by kernel_rfl) rfl rfl f4 (by rw [info_V3]; rfl) Tryz.underlying26 rfl ?_)
 clear f4
 refine (C1.out _).mono ?_
 rintro r w5 ⟨rfl, hb⟩
 have D6 := ds D3 hb
 clear D3
 clear hb
 have f7 := (kb K1 D6)
 go_wp2_with (refine wl_load (by kernel_rfl) rfl rfl f7 (by rw [info_V3]; rfl) Tryz.underlying26 rfl ?_)
 clear f7
 refine (C2.out _).mono ?_
 rintro r w8 ⟨rfl, hb⟩
 have D9 := ds D6 hb
 clear D6
 clear hb
 go_wp2_with fail
 go_ret
 exact ⟨rfl, below_step HB.out D9.out⟩
theorem vecStands_n2 (a0 a1 a2 a3 a4 a5 b0 b1 b2 b3 b4 b5 s0 s1 : Nat) (ha0 : a0 < 18446744073709551616) (ha1 : a1 < 18446744073709551616) (ha2 : a2 < 18446744073709551616) (ha3 : a3 < 18446744073709551616) (ha4 : a4 < 18446744073709551616) (ha5 : a5 < 18446744073709551616) (hb0 : b0 < 18446744073709551616) (hb1 : b1 < 18446744073709551616) (hb2 : b2 < 18446744073709551616) (hb3 : b3 < 18446744073709551616) (hb4 : b4 < 18446744073709551616) (hb5 : b5 < 18446744073709551616) (hs0 : s0 < 18446744073709551616) (hs1 : s1 < 18446744073709551616) (v0 : vdV a0 a1 a2 a3 a4 a5 = true) (v1 : vdV b0 b1 b2 b3 b4 b5 = true) (v2 : vdB s0 s1 = false) (w : World) : Calls Tryz.prog 4 #[Value.agg #[.float .f64 a0, .float .f64 a1, .float .f64 a2, .float .f64 a3, .float .f64 a4, .float .f64 a5], Value.agg #[.float .f64 b0, .float .f64 b1, .float .f64 b2, .float .f64 b3, .float .f64 b4, .float .f64 b5], Value.agg #[.float .f64 s0, .float .f64 s1]] w fun r w' => r = .returned (.bool true) ∧ Below w.heap.size w w' := by
 have C0 := Lib.hid (awake3)
 have C1 := Lib.hid (fun w => rvalidV_any a0 a1 a2 a3 a4 a5 ha0 ha1 ha2 ha3 ha4 ha5 w)
 rw [v0] at C1
 have C2 := Lib.hid (fun w => rvalidV_any b0 b1 b2 b3 b4 b5 hb0 hb1 hb2 hb3 hb4 hb5 w)
 rw [v1] at C2
 have C3 := Lib.hid (fun w => rvalid_any s0 s1 hs0 hs1 w)
 rw [v2] at C3
 go_enter Tryz.func4, Tryz.ntmps4
 go_wp2_with fail
 obtain ⟨W, hW, K0, K1, K2, hB, hz⟩ := bx3 w 26 26 24 #[.float .f64 a0, .float .f64 a1, .float .f64 a2, .float .f64 a3, .float .f64 a4, .float .f64 a5] #[.float .f64 b0, .float .f64 b1, .float .f64 b2, .float .f64 b3, .float .f64 b4, .float .f64 b5] #[.float .f64 s0, .float .f64 s1]
 rw [← hW]
 have K0 := Lib.hid K0
 have K1 := Lib.hid K1
 have K2 := Lib.hid K2
 have HB := Lib.hid hB
 clear hW hB hz
 have D1 := dr W
 refine (C0.out _).mono ?_
 rintro r w2 ⟨rfl, hb⟩
 have D3 := ds D1 hb
 clear D1
 clear hb
 have f4 := (kb K0 D3)
 go_wp2_with (refine wl_load (by kernel_rfl) rfl rfl f4 (by rw [info_V3]; rfl) Tryz.underlying26 rfl ?_)
 clear f4
 refine (C1.out _).mono ?_
 rintro r w5 ⟨rfl, hb⟩
 have D6 := ds D3 hb
 clear D3
 clear hb
 have f7 := (kb K1 D6)
 go_wp2_with (refine wl_load (by kernel_rfl) rfl rfl f7 (by rw [info_V3]; rfl) Tryz.underlying26 rfl ?_)
 clear f7
 refine (C2.out _).mono ?_
 rintro r w8 ⟨rfl, hb⟩
 have D9 := ds D6 hb
 clear D6
 clear hb
 have hq10 := (kb K2 D9).cellsL 0 [.float .f64 s0, .float .f64 s1] rfl
 dsimp only [CellsL, al, vl, Nat.reduceAdd] at hq10
 go_wp2_with fail
 clear hq10
 refine (C3.out _).mono ?_
 rintro r w11 ⟨rfl, hb⟩
 have D12 := ds D9 hb
 clear D9
 clear hb
 go_wp2_with fail
 go_ret
 exact ⟨rfl, below_step HB.out D12.out⟩
theorem vecStands_y (A B : V3) (S : Sp) (hw : A.wide = true) (q : Int) (hq : (frQ A : Int) = q) (w : World) : Calls Tryz.prog 4 #[Value.agg #[.float .f64 A.x.lo, .float .f64 A.x.hi, .float .f64 A.y.lo, .float .f64 A.y.hi, .float .f64 A.z.lo, .float .f64 A.z.hi], Value.agg #[.float .f64 B.x.lo, .float .f64 B.x.hi, .float .f64 B.y.lo, .float .f64 B.y.hi, .float .f64 B.z.lo, .float .f64 B.z.hi], Value.agg #[.float .f64 S.lo, .float .f64 S.hi]] w fun r w' => r = .returned (.bool true) ∧ Below w.heap.size w w' := by
 have C0 := Lib.hid (awake3)
 have C1 := Lib.hid (fun w => rvalidV_v A w)
 have C2 := Lib.hid (fun w => rvalidV_v B w)
 have C3 := Lib.hid (fun w => rvalid_any S.lo S.hi S.vd.l.lt S.vd.h.lt w)
 rw [vdB_of S.vd] at C3
 have C4 := Lib.hid (fun w => unitV_any A w)
 obtain ⟨p4, hp4⟩ : ∃ z_, vUnit A = z_ := ⟨_, rfl⟩
 rw [hp4] at C4
 obtain ⟨p5_2, hp5_2⟩ : ∃ z_, vLen A = z_ := ⟨_, rfl⟩
 rw [hp5_2] at C4
 have C5 := Lib.hid (fun w => runitV_any A w)
 rw [hp4] at C5
 rw [hp5_2] at C5
 have C6 := Lib.hid (fun w => frame_any A w)
 obtain ⟨p6, hp6⟩ : ∃ z_, frT (frS A) A = z_ := ⟨_, rfl⟩
 rw [hp6] at C6
 obtain ⟨p7_2, hp7_2⟩ : ∃ z_, frU (frS A) A = z_ := ⟨_, rfl⟩
 rw [hp7_2] at C6
 rw [hq] at C6
 have C7 := Lib.hid (fun w => rframe_any A w)
 rw [hp6] at C7
 rw [hp7_2] at C7
 rw [hq] at C7
 have C8 := Lib.hid (fun w => rsameV_self p4 w)
 have C9 := Lib.hid (fun w => rsame_sp p5_2 w)
 have C10 := Lib.hid (fun w => rsameV_self p6 w)
 have C11 := Lib.hid (fun w => rsameV_self p7_2 w)
 have C12 := Lib.hid (fun w => swideV_any A w)
 rw [hw] at C12
 have C13 := Lib.hid (fun w => srwideV_any A w)
 rw [hw] at C13
 have C14 := Lib.hid (fun w => mostV_any A w)
 obtain ⟨p14, hp14⟩ : ∃ z_, vMost A = z_ := ⟨_, rfl⟩
 rw [hp14] at C14
 have C15 := Lib.hid (fun w => rmostV_any A w)
 rw [hp14] at C15
 have C16 := Lib.hid (fun w => rsame_sp p14 w)
 have C17 := Lib.hid (fun w => atV_any A B S w)
 obtain ⟨p17, hp17⟩ : ∃ z_, vAt A B S = z_ := ⟨_, rfl⟩
 rw [hp17] at C17
 have C18 := Lib.hid (fun w => ratV_any A B S w)
 rw [hp17] at C18
 have C19 := Lib.hid (fun w => rsameV_self p17 w)
 clear hp4 hp5_2 hp6 hp7_2 hp14 hp17
 go_enter Tryz.func4, Tryz.ntmps4
 go_wp2_with fail
 obtain ⟨W, hW, K0, K1, K2, hB, hz⟩ := bx3 w 26 26 24 (vc A) (vc B) #[.float .f64 S.lo, .float .f64 S.hi]
 rw [← hW]
 have K0 := Lib.hid K0
 have K1 := Lib.hid K1
 have K2 := Lib.hid K2
 have HB := Lib.hid hB
 clear hW hB hz
 have D1 := dr W
 refine (C0.out _).mono ?_
 rintro r w2 ⟨rfl, hb⟩
 have D3 := ds D1 hb
 clear D1
 clear hb
 have f4 := (kb K0 D3)
 go_wp2_with (refine wl_load (by kernel_rfl) rfl rfl f4 (by rw [info_V3]; rfl) Tryz.underlying26 rfl ?_)
 clear f4
 refine (C1.out _).mono ?_
 rintro r w5 ⟨rfl, hb⟩
 have D6 := ds D3 hb
 clear D3
 clear hb
 have f7 := (kb K1 D6)
 go_wp2_with (refine wl_load (by kernel_rfl) rfl rfl f7 (by rw [info_V3]; rfl) Tryz.underlying26 rfl ?_)
 clear f7
 refine (C2.out _).mono ?_
 rintro r w8 ⟨rfl, hb⟩
 have D9 := ds D6 hb
 clear D6
 clear hb
 have hq10 := (kb K2 D9).cellsL 0 [.float .f64 S.lo, .float .f64 S.hi] rfl
 dsimp only [CellsL, al, vl, Nat.reduceAdd] at hq10
 go_wp2_with fail
 clear hq10
 refine (C3.out _).mono ?_
 rintro r w11 ⟨rfl, hb⟩
 have D12 := ds D9 hb
 clear D9
 clear hb
 have f13 := (kb K0 D12)
 go_wp2_with (refine wl_load (by kernel_rfl) rfl rfl f13 (by rw [info_V3]; rfl) Tryz.underlying26 rfl ?_)
 clear f13
 refine (C4.out _).mono ?_
 rintro r w14 ⟨rfl, hb⟩
 have D15 := ds D12 hb
 clear D12
 clear hb
 obtain ⟨g16, hg18⟩ : ∃ g, w14.heap.size = g := ⟨_, rfl⟩
 have Y20 := Lib.hid (show w.heap.size < g16 ∧ w.heap.size + 1 < g16 ∧ w.heap.size + 1 + 1 < g16 by rw [← hg18]; exact ⟨(kb K0 D15).lt, (kb K1 D15).lt, (kb K2 D15).lt⟩)
 obtain ⟨V17, hV19⟩ : ∃ V, w14.alloc (.cells #[.float .f64 0, .float .f64 0, .float .f64 0, .float .f64 0, .float .f64 0, .float .f64 0] 26) = V := ⟨_, rfl⟩
 have K21 := ka hV19 K0 D15
 have K22 := ka hV19 K1 D15
 have K23 := ka hV19 K2 D15
 have K24 := kn hV19 hg18
 have HB25 := hba hV19 HB D15
 have D26 := dr V17
 clear K0 K1 K2 HB D15
 obtain ⟨g27, hg29⟩ : ∃ g, V17.heap.size = g := ⟨_, rfl⟩
 have Y31 := Lib.hid (show w.heap.size < g27 ∧ w.heap.size + 1 < g27 ∧ w.heap.size + 1 + 1 < g27 ∧ g16 < g27 by rw [← hg29]; exact ⟨(kb K21 D26).lt, (kb K22 D26).lt, (kb K23 D26).lt, (kb K24 D26).lt⟩)
 obtain ⟨V28, hV30⟩ : ∃ V, V17.alloc (.cells #[.float .f64 0, .float .f64 0] 24) = V := ⟨_, rfl⟩
 have K32 := ka hV30 K21 D26
 have K33 := ka hV30 K22 D26
 have K34 := ka hV30 K23 D26
 have K35 := ka hV30 K24 D26
 have K36 := kn hV30 hg29
 have HB37 := hba hV30 HB25 D26
 have D38 := dr V28
 clear K21 K22 K23 K24 HB25 D26
 have Y39 := Lib.hid (And.intro Y20.out Y31.out)
 clear Y20 Y31
 have f42 := (kb K35 D38)
 obtain ⟨V40, hV41⟩ : ∃ V, World.setRow V28 (g16) (vc p4) = V := ⟨_, rfl⟩
 have K43 := kfr hV41 K32 D38 (by have := Y39.out; omega)
 have K44 := kfr hV41 K33 D38 (by have := Y39.out; omega)
 have K45 := kfr hV41 K34 D38 (by have := Y39.out; omega)
 have K46 := ksr hV41 K35 D38
 have K47 := kfr hV41 K36 D38 (by have := Y39.out; omega)
 have HB48 := hbr hV41 HB37 D38 (by have := Y39.out; omega)
 have D49 := dr V40
 clear K32 K33 K34 K35 K36 HB37 D38
 have f52 := (kb K47 D49).cellsL 0 [.float .f64 0, .float .f64 0] rfl
 dsimp only [CellsL, al, vl, Nat.reduceAdd] at f52
 have u53 := (kb K47 D49).unfrozen
 obtain ⟨V50, hV51⟩ : ∃ V, setCells V40 (g27) 0 [.float .f64 p5_2.lo, .float .f64 p5_2.hi] = V := ⟨_, rfl⟩
 have hv54 := hV51
 simp only [setCells, Nat.reduceAdd] at hv54
 have K55 := kf hV51 K43 D49 (by have := Y39.out; omega)
 have K56 := kf hV51 K44 D49 (by have := Y39.out; omega)
 have K57 := kf hV51 K45 D49 (by have := Y39.out; omega)
 have K58 := kf hV51 K46 D49 (by have := Y39.out; omega)
 have K59 := Lib.hid (show Blk V50 (g27) 24 #[.float .f64 p5_2.lo, .float .f64 p5_2.hi] from (ks hV51 K47 D49).out)
 have HB60 := hbs hV51 HB48 D49 (by have := Y39.out; omega)
 have D61 := dr V50
 clear K43 K44 K45 K46 K47 HB48 D49
 have f62 := (kb K55 D61)
 go_wp2_with (first | (refine wpList_store_row rfl 26 _ _ rfl (g16) (vc p4) rfl rfl _ _ f42 (by rw [info_V3]; rfl) rfl (by kernel_rfl) ?_; rw [hV41]) | (refine wl_load (by kernel_rfl) rfl rfl f62 (by rw [info_V3]; rfl) Tryz.underlying26 rfl ?_))
 clear hg18 hV19 hg29 hV30 hV41 f42 hV51 f52 u53 hv54 f62
 refine (C5.out _).mono ?_
 rintro r w63 ⟨rfl, hb⟩
 have D64 := ds D61 hb
 clear D61
 clear hb
 obtain ⟨g65, hg67⟩ : ∃ g, w63.heap.size = g := ⟨_, rfl⟩
 have Y69 := Lib.hid (show w.heap.size < g65 ∧ w.heap.size + 1 < g65 ∧ w.heap.size + 1 + 1 < g65 ∧ g16 < g65 ∧ g27 < g65 by rw [← hg67]; exact ⟨(kb K55 D64).lt, (kb K56 D64).lt, (kb K57 D64).lt, (kb K58 D64).lt, (kb K59 D64).lt⟩)
 obtain ⟨V66, hV68⟩ : ∃ V, w63.alloc (.cells #[.float .f64 0, .float .f64 0, .float .f64 0, .float .f64 0, .float .f64 0, .float .f64 0] 26) = V := ⟨_, rfl⟩
 have K70 := ka hV68 K55 D64
 have K71 := ka hV68 K56 D64
 have K72 := ka hV68 K57 D64
 have K73 := ka hV68 K58 D64
 have K74 := ka hV68 K59 D64
 have K75 := kn hV68 hg67
 have HB76 := hba hV68 HB60 D64
 have D77 := dr V66
 clear K55 K56 K57 K58 K59 HB60 D64
 have Y78 := Lib.hid (And.intro Y39.out Y69.out)
 clear Y39 Y69
 obtain ⟨g79, hg81⟩ : ∃ g, V66.heap.size = g := ⟨_, rfl⟩
 have Y83 := Lib.hid (show w.heap.size < g79 ∧ w.heap.size + 1 < g79 ∧ w.heap.size + 1 + 1 < g79 ∧ g16 < g79 ∧ g27 < g79 ∧ g65 < g79 by rw [← hg81]; exact ⟨(kb K70 D77).lt, (kb K71 D77).lt, (kb K72 D77).lt, (kb K73 D77).lt, (kb K74 D77).lt, (kb K75 D77).lt⟩)
 obtain ⟨V80, hV82⟩ : ∃ V, V66.alloc (.cells #[.float .f64 0, .float .f64 0] 24) = V := ⟨_, rfl⟩
 have K84 := ka hV82 K70 D77
 have K85 := ka hV82 K71 D77
 have K86 := ka hV82 K72 D77
 have K87 := ka hV82 K73 D77
 have K88 := ka hV82 K74 D77
 have K89 := ka hV82 K75 D77
 have K90 := kn hV82 hg81
 have HB91 := hba hV82 HB76 D77
 have D92 := dr V80
 clear K70 K71 K72 K73 K74 K75 HB76 D77
 have Y93 := Lib.hid (And.intro Y78.out Y83.out)
 clear Y78 Y83
 have f96 := (kb K89 D92)
 obtain ⟨V94, hV95⟩ : ∃ V, World.setRow V80 (g65) (vc p4) = V := ⟨_, rfl⟩
 have K97 := kfr hV95 K84 D92 (by have := Y93.out; omega)
 have K98 := kfr hV95 K85 D92 (by have := Y93.out; omega)
 have K99 := kfr hV95 K86 D92 (by have := Y93.out; omega)
 have K100 := kfr hV95 K87 D92 (by have := Y93.out; omega)
 have K101 := kfr hV95 K88 D92 (by have := Y93.out; omega)
 have K102 := ksr hV95 K89 D92
 have K103 := kfr hV95 K90 D92 (by have := Y93.out; omega)
 have HB104 := hbr hV95 HB91 D92 (by have := Y93.out; omega)
 have D105 := dr V94
 clear K84 K85 K86 K87 K88 K89 K90 HB91 D92
 have f108 := (kb K103 D105).cellsL 0 [.float .f64 0, .float .f64 0] rfl
 dsimp only [CellsL, al, vl, Nat.reduceAdd] at f108
 have u109 := (kb K103 D105).unfrozen
 obtain ⟨V106, hV107⟩ : ∃ V, setCells V94 (g79) 0 [.float .f64 p5_2.lo, .float .f64 p5_2.hi] = V := ⟨_, rfl⟩
 have hv110 := hV107
 simp only [setCells, Nat.reduceAdd] at hv110
 have K111 := kf hV107 K97 D105 (by have := Y93.out; omega)
 have K112 := kf hV107 K98 D105 (by have := Y93.out; omega)
 have K113 := kf hV107 K99 D105 (by have := Y93.out; omega)
 have K114 := kf hV107 K100 D105 (by have := Y93.out; omega)
 have K115 := kf hV107 K101 D105 (by have := Y93.out; omega)
 have K116 := kf hV107 K102 D105 (by have := Y93.out; omega)
 have K117 := Lib.hid (show Blk V106 (g79) 24 #[.float .f64 p5_2.lo, .float .f64 p5_2.hi] from (ks hV107 K103 D105).out)
 have HB118 := hbs hV107 HB104 D105 (by have := Y93.out; omega)
 have D119 := dr V106
 clear K97 K98 K99 K100 K101 K102 K103 HB104 D105
 have f120 := (kb K111 D119)
 go_wp2_with (first | (refine wpList_store_row rfl 26 _ _ rfl (g65) (vc p4) rfl rfl _ _ f96 (by rw [info_V3]; rfl) rfl (by kernel_rfl) ?_; rw [hV95]) | (refine wl_load (by kernel_rfl) rfl rfl f120 (by rw [info_V3]; rfl) Tryz.underlying26 rfl ?_))
 clear hg67 hV68 hg81 hV82 hV95 f96 hV107 f108 u109 hv110 f120
 refine (C6.out _).mono ?_
 rintro r w121 ⟨rfl, hb⟩
 have D122 := ds D119 hb
 clear D119
 clear hb
 obtain ⟨g123, hg125⟩ : ∃ g, w121.heap.size = g := ⟨_, rfl⟩
 have Y127 := Lib.hid (show w.heap.size < g123 ∧ w.heap.size + 1 < g123 ∧ w.heap.size + 1 + 1 < g123 ∧ g16 < g123 ∧ g27 < g123 ∧ g65 < g123 ∧ g79 < g123 by rw [← hg125]; exact ⟨(kb K111 D122).lt, (kb K112 D122).lt, (kb K113 D122).lt, (kb K114 D122).lt, (kb K115 D122).lt, (kb K116 D122).lt, (kb K117 D122).lt⟩)
 obtain ⟨V124, hV126⟩ : ∃ V, w121.alloc (.cells #[.float .f64 0, .float .f64 0, .float .f64 0, .float .f64 0, .float .f64 0, .float .f64 0] 26) = V := ⟨_, rfl⟩
 have K128 := ka hV126 K111 D122
 have K129 := ka hV126 K112 D122
 have K130 := ka hV126 K113 D122
 have K131 := ka hV126 K114 D122
 have K132 := ka hV126 K115 D122
 have K133 := ka hV126 K116 D122
 have K134 := ka hV126 K117 D122
 have K135 := kn hV126 hg125
 have HB136 := hba hV126 HB118 D122
 have D137 := dr V124
 clear K111 K112 K113 K114 K115 K116 K117 HB118 D122
 have Y138 := Lib.hid (And.intro Y93.out Y127.out)
 clear Y93 Y127
 obtain ⟨g139, hg141⟩ : ∃ g, V124.heap.size = g := ⟨_, rfl⟩
 have Y143 := Lib.hid (show w.heap.size < g139 ∧ w.heap.size + 1 < g139 ∧ w.heap.size + 1 + 1 < g139 ∧ g16 < g139 ∧ g27 < g139 ∧ g65 < g139 ∧ g79 < g139 ∧ g123 < g139 by rw [← hg141]; exact ⟨(kb K128 D137).lt, (kb K129 D137).lt, (kb K130 D137).lt, (kb K131 D137).lt, (kb K132 D137).lt, (kb K133 D137).lt, (kb K134 D137).lt, (kb K135 D137).lt⟩)
 obtain ⟨V140, hV142⟩ : ∃ V, V124.alloc (.cells #[.float .f64 0, .float .f64 0, .float .f64 0, .float .f64 0, .float .f64 0, .float .f64 0] 26) = V := ⟨_, rfl⟩
 have K144 := ka hV142 K128 D137
 have K145 := ka hV142 K129 D137
 have K146 := ka hV142 K130 D137
 have K147 := ka hV142 K131 D137
 have K148 := ka hV142 K132 D137
 have K149 := ka hV142 K133 D137
 have K150 := ka hV142 K134 D137
 have K151 := ka hV142 K135 D137
 have K152 := kn hV142 hg141
 have HB153 := hba hV142 HB136 D137
 have D154 := dr V140
 clear K128 K129 K130 K131 K132 K133 K134 K135 HB136 D137
 have Y155 := Lib.hid (And.intro Y138.out Y143.out)
 clear Y138 Y143
 have f158 := (kb K151 D154)
 obtain ⟨V156, hV157⟩ : ∃ V, World.setRow V140 (g123) (vc p6) = V := ⟨_, rfl⟩
 have K159 := kfr hV157 K144 D154 (by have := Y155.out; omega)
 have K160 := kfr hV157 K145 D154 (by have := Y155.out; omega)
 have K161 := kfr hV157 K146 D154 (by have := Y155.out; omega)
 have K162 := kfr hV157 K147 D154 (by have := Y155.out; omega)
 have K163 := kfr hV157 K148 D154 (by have := Y155.out; omega)
 have K164 := kfr hV157 K149 D154 (by have := Y155.out; omega)
 have K165 := kfr hV157 K150 D154 (by have := Y155.out; omega)
 have K166 := ksr hV157 K151 D154
 have K167 := kfr hV157 K152 D154 (by have := Y155.out; omega)
 have HB168 := hbr hV157 HB153 D154 (by have := Y155.out; omega)
 have D169 := dr V156
 clear K144 K145 K146 K147 K148 K149 K150 K151 K152 HB153 D154
 have f172 := (kb K167 D169)
 obtain ⟨V170, hV171⟩ : ∃ V, World.setRow V156 (g139) (vc p7_2) = V := ⟨_, rfl⟩
 have K173 := kfr hV171 K159 D169 (by have := Y155.out; omega)
 have K174 := kfr hV171 K160 D169 (by have := Y155.out; omega)
 have K175 := kfr hV171 K161 D169 (by have := Y155.out; omega)
 have K176 := kfr hV171 K162 D169 (by have := Y155.out; omega)
 have K177 := kfr hV171 K163 D169 (by have := Y155.out; omega)
 have K178 := kfr hV171 K164 D169 (by have := Y155.out; omega)
 have K179 := kfr hV171 K165 D169 (by have := Y155.out; omega)
 have K180 := kfr hV171 K166 D169 (by have := Y155.out; omega)
 have K181 := ksr hV171 K167 D169
 have HB182 := hbr hV171 HB168 D169 (by have := Y155.out; omega)
 have D183 := dr V170
 clear K159 K160 K161 K162 K163 K164 K165 K166 K167 HB168 D169
 have f184 := (kb K173 D183)
 go_wp2_with (first | (refine wpList_store_row rfl 26 _ _ rfl (g123) (vc p6) rfl rfl _ _ f158 (by rw [info_V3]; rfl) rfl (by kernel_rfl) ?_; rw [hV157]) | (refine wpList_store_row rfl 26 _ _ rfl (g139) (vc p7_2) rfl rfl _ _ f172 (by rw [info_V3]; rfl) rfl (by kernel_rfl) ?_; rw [hV171]) | (refine wl_load (by kernel_rfl) rfl rfl f184 (by rw [info_V3]; rfl) Tryz.underlying26 rfl ?_))
 clear hg125 hV126 hg141 hV142 hV157 f158 hV171 f172 f184
 refine (C7.out _).mono ?_
 rintro r w185 ⟨rfl, hb⟩
 have D186 := ds D183 hb
 clear D183
 clear hb
 obtain ⟨g187, hg189⟩ : ∃ g, w185.heap.size = g := ⟨_, rfl⟩
 have Y191 := Lib.hid (show w.heap.size < g187 ∧ w.heap.size + 1 < g187 ∧ w.heap.size + 1 + 1 < g187 ∧ g16 < g187 ∧ g27 < g187 ∧ g65 < g187 ∧ g79 < g187 ∧ g123 < g187 ∧ g139 < g187 by rw [← hg189]; exact ⟨(kb K173 D186).lt, (kb K174 D186).lt, (kb K175 D186).lt, (kb K176 D186).lt, (kb K177 D186).lt, (kb K178 D186).lt, (kb K179 D186).lt, (kb K180 D186).lt, (kb K181 D186).lt⟩)
 obtain ⟨V188, hV190⟩ : ∃ V, w185.alloc (.cells #[.float .f64 0, .float .f64 0, .float .f64 0, .float .f64 0, .float .f64 0, .float .f64 0] 26) = V := ⟨_, rfl⟩
 have K192 := ka hV190 K173 D186
 have K193 := ka hV190 K174 D186
 have K194 := ka hV190 K175 D186
 have K195 := ka hV190 K176 D186
 have K196 := ka hV190 K177 D186
 have K197 := ka hV190 K178 D186
 have K198 := ka hV190 K179 D186
 have K199 := ka hV190 K180 D186
 have K200 := ka hV190 K181 D186
 have K201 := kn hV190 hg189
 have HB202 := hba hV190 HB182 D186
 have D203 := dr V188
 clear K173 K174 K175 K176 K177 K178 K179 K180 K181 HB182 D186
 have Y204 := Lib.hid (And.intro Y155.out Y191.out)
 clear Y155 Y191
 obtain ⟨g205, hg207⟩ : ∃ g, V188.heap.size = g := ⟨_, rfl⟩
 have Y209 := Lib.hid (show w.heap.size < g205 ∧ w.heap.size + 1 < g205 ∧ w.heap.size + 1 + 1 < g205 ∧ g16 < g205 ∧ g27 < g205 ∧ g65 < g205 ∧ g79 < g205 ∧ g123 < g205 ∧ g139 < g205 ∧ g187 < g205 by rw [← hg207]; exact ⟨(kb K192 D203).lt, (kb K193 D203).lt, (kb K194 D203).lt, (kb K195 D203).lt, (kb K196 D203).lt, (kb K197 D203).lt, (kb K198 D203).lt, (kb K199 D203).lt, (kb K200 D203).lt, (kb K201 D203).lt⟩)
 obtain ⟨V206, hV208⟩ : ∃ V, V188.alloc (.cells #[.float .f64 0, .float .f64 0, .float .f64 0, .float .f64 0, .float .f64 0, .float .f64 0] 26) = V := ⟨_, rfl⟩
 have K210 := ka hV208 K192 D203
 have K211 := ka hV208 K193 D203
 have K212 := ka hV208 K194 D203
 have K213 := ka hV208 K195 D203
 have K214 := ka hV208 K196 D203
 have K215 := ka hV208 K197 D203
 have K216 := ka hV208 K198 D203
 have K217 := ka hV208 K199 D203
 have K218 := ka hV208 K200 D203
 have K219 := ka hV208 K201 D203
 have K220 := kn hV208 hg207
 have HB221 := hba hV208 HB202 D203
 have D222 := dr V206
 clear K192 K193 K194 K195 K196 K197 K198 K199 K200 K201 HB202 D203
 have Y223 := Lib.hid (And.intro Y204.out Y209.out)
 clear Y204 Y209
 have f226 := (kb K219 D222)
 obtain ⟨V224, hV225⟩ : ∃ V, World.setRow V206 (g187) (vc p6) = V := ⟨_, rfl⟩
 have K227 := kfr hV225 K210 D222 (by have := Y223.out; omega)
 have K228 := kfr hV225 K211 D222 (by have := Y223.out; omega)
 have K229 := kfr hV225 K212 D222 (by have := Y223.out; omega)
 have K230 := kfr hV225 K213 D222 (by have := Y223.out; omega)
 have K231 := kfr hV225 K214 D222 (by have := Y223.out; omega)
 have K232 := kfr hV225 K215 D222 (by have := Y223.out; omega)
 have K233 := kfr hV225 K216 D222 (by have := Y223.out; omega)
 have K234 := kfr hV225 K217 D222 (by have := Y223.out; omega)
 have K235 := kfr hV225 K218 D222 (by have := Y223.out; omega)
 have K236 := ksr hV225 K219 D222
 have K237 := kfr hV225 K220 D222 (by have := Y223.out; omega)
 have HB238 := hbr hV225 HB221 D222 (by have := Y223.out; omega)
 have D239 := dr V224
 clear K210 K211 K212 K213 K214 K215 K216 K217 K218 K219 K220 HB221 D222
 have f242 := (kb K237 D239)
 obtain ⟨V240, hV241⟩ : ∃ V, World.setRow V224 (g205) (vc p7_2) = V := ⟨_, rfl⟩
 have K243 := kfr hV241 K227 D239 (by have := Y223.out; omega)
 have K244 := kfr hV241 K228 D239 (by have := Y223.out; omega)
 have K245 := kfr hV241 K229 D239 (by have := Y223.out; omega)
 have K246 := kfr hV241 K230 D239 (by have := Y223.out; omega)
 have K247 := kfr hV241 K231 D239 (by have := Y223.out; omega)
 have K248 := kfr hV241 K232 D239 (by have := Y223.out; omega)
 have K249 := kfr hV241 K233 D239 (by have := Y223.out; omega)
 have K250 := kfr hV241 K234 D239 (by have := Y223.out; omega)
 have K251 := kfr hV241 K235 D239 (by have := Y223.out; omega)
 have K252 := kfr hV241 K236 D239 (by have := Y223.out; omega)
 have K253 := ksr hV241 K237 D239
 have HB254 := hbr hV241 HB238 D239 (by have := Y223.out; omega)
 have D255 := dr V240
 clear K227 K228 K229 K230 K231 K232 K233 K234 K235 K236 K237 HB238 D239
 have f256 := (kb K243 D255)
 have f257 := (kb K244 D255)
 obtain ⟨g258, hg260⟩ : ∃ g, V240.heap.size = g := ⟨_, rfl⟩
 have Y262 := Lib.hid (show w.heap.size < g258 ∧ w.heap.size + 1 < g258 ∧ w.heap.size + 1 + 1 < g258 ∧ g16 < g258 ∧ g27 < g258 ∧ g65 < g258 ∧ g79 < g258 ∧ g123 < g258 ∧ g139 < g258 ∧ g187 < g258 ∧ g205 < g258 by rw [← hg260]; exact ⟨(kb K243 D255).lt, (kb K244 D255).lt, (kb K245 D255).lt, (kb K246 D255).lt, (kb K247 D255).lt, (kb K248 D255).lt, (kb K249 D255).lt, (kb K250 D255).lt, (kb K251 D255).lt, (kb K252 D255).lt, (kb K253 D255).lt⟩)
 obtain ⟨V259, hV261⟩ : ∃ V, V240.alloc (.cells #[.float .f64 0, .float .f64 0, .float .f64 0, .float .f64 0, .float .f64 0, .float .f64 0, .float .f64 0, .float .f64 0, .float .f64 0, .float .f64 0, .float .f64 0, .float .f64 0] 52) = V := ⟨_, rfl⟩
 have K263 := ka hV261 K243 D255
 have K264 := ka hV261 K244 D255
 have K265 := ka hV261 K245 D255
 have K266 := ka hV261 K246 D255
 have K267 := ka hV261 K247 D255
 have K268 := ka hV261 K248 D255
 have K269 := ka hV261 K249 D255
 have K270 := ka hV261 K250 D255
 have K271 := ka hV261 K251 D255
 have K272 := ka hV261 K252 D255
 have K273 := ka hV261 K253 D255
 have K274 := kn hV261 hg260
 have HB275 := hba hV261 HB254 D255
 have D276 := dr V259
 clear K243 K244 K245 K246 K247 K248 K249 K250 K251 K252 K253 HB254 D255
 have Y277 := Lib.hid (And.intro Y223.out Y262.out)
 clear Y223 Y262
 have f280 := (kb K274 D276)
 obtain ⟨V278, hV279⟩ : ∃ V, World.setRow V259 (g258) #[.float .f64 A.x.lo, .float .f64 A.x.hi, .float .f64 A.y.lo, .float .f64 A.y.hi, .float .f64 A.z.lo, .float .f64 A.z.hi, .float .f64 B.x.lo, .float .f64 B.x.hi, .float .f64 B.y.lo, .float .f64 B.y.hi, .float .f64 B.z.lo, .float .f64 B.z.hi] = V := ⟨_, rfl⟩
 have K281 := kfr hV279 K263 D276 (by have := Y277.out; omega)
 have K282 := kfr hV279 K264 D276 (by have := Y277.out; omega)
 have K283 := kfr hV279 K265 D276 (by have := Y277.out; omega)
 have K284 := kfr hV279 K266 D276 (by have := Y277.out; omega)
 have K285 := kfr hV279 K267 D276 (by have := Y277.out; omega)
 have K286 := kfr hV279 K268 D276 (by have := Y277.out; omega)
 have K287 := kfr hV279 K269 D276 (by have := Y277.out; omega)
 have K288 := kfr hV279 K270 D276 (by have := Y277.out; omega)
 have K289 := kfr hV279 K271 D276 (by have := Y277.out; omega)
 have K290 := kfr hV279 K272 D276 (by have := Y277.out; omega)
 have K291 := kfr hV279 K273 D276 (by have := Y277.out; omega)
 have K292 := ksr hV279 K274 D276
 have HB293 := hbr hV279 HB275 D276 (by have := Y277.out; omega)
 have D294 := dr V278
 clear K263 K264 K265 K266 K267 K268 K269 K270 K271 K272 K273 K274 HB275 D276
 go_wp2_with (first | (refine wpList_store_row rfl 26 _ _ rfl (g187) (vc p6) rfl rfl _ _ f226 (by rw [info_V3]; rfl) rfl (by kernel_rfl) ?_; rw [hV225]) | (refine wpList_store_row rfl 26 _ _ rfl (g205) (vc p7_2) rfl rfl _ _ f242 (by rw [info_V3]; rfl) rfl (by kernel_rfl) ?_; rw [hV241]) | (refine wpList_store_row rfl 52 _ _ rfl (g258) #[.float .f64 A.x.lo, .float .f64 A.x.hi, .float .f64 A.y.lo, .float .f64 A.y.hi, .float .f64 A.z.lo, .float .f64 A.z.hi, .float .f64 B.x.lo, .float .f64 B.x.hi, .float .f64 B.y.lo, .float .f64 B.y.hi, .float .f64 B.z.lo, .float .f64 B.z.hi] rfl rfl _ _ f280 (by rw [info_Ray]; rfl) rfl (by kernel_rfl) ?_; rw [hV279]) | (refine wl_load (by kernel_rfl) rfl rfl f256 (by rw [info_V3]; rfl) Tryz.underlying26 rfl ?_) | (refine wl_load (by kernel_rfl) rfl rfl f257 (by rw [info_V3]; rfl) Tryz.underlying26 rfl ?_))
 clear hg189 hV190 hg207 hV208 hV225 f226 hV241 f242 f256 f257 hg260 hV261 hV279 f280
 refine wp_region_held (S := (fun w' => True ∧ Blk w' (w.heap.size) 26 (vc A) ∧ Blk w' (g16) 26 (vc p4) ∧ Blk w' (g65) 26 (vc p4) ∧ Blk w' (g123) 26 (vc p6) ∧ Blk w' (g139) 26 (vc p7_2) ∧ Blk w' (g187) 26 (vc p6) ∧ Blk w' (g205) 26 (vc p7_2) ∧ Blk w' (g258) 52 #[.float .f64 A.x.lo, .float .f64 A.x.hi, .float .f64 A.y.lo, .float .f64 A.y.hi, .float .f64 A.z.lo, .float .f64 A.z.hi, .float .f64 B.x.lo, .float .f64 B.x.hi, .float .f64 B.y.lo, .float .f64 B.y.hi, .float .f64 B.z.lo, .float .f64 B.z.hi] ∧ CellsL w' (w.heap.size + 1 + 1) 0 [.float .f64 S.lo, .float .f64 S.hi] ∧ CellsL w' (g27) 0 [.float .f64 p5_2.lo, .float .f64 p5_2.hi] ∧ CellsL w' (g79) 0 [.float .f64 p5_2.lo, .float .f64 p5_2.hi])) (by kernel_rfl) ?_
 change wpAnyH _ _ _ _ _ _ _ _ (World.drew _)
 obtain ⟨wd295, hwd⟩ : ∃ x, x = World.drew V278 := ⟨_, rfl⟩
 rw [← hwd]
 have D296 := Lib.hid (hwd ▸ Below.drew D294.out : Below V278.heap.size V278 wd295)
 clear D294 hwd
 have HS298 := Lib.hid (show ∀ w', Below V278.heap.size V278 w' → (True ∧ Blk w' (w.heap.size) 26 (vc A) ∧ Blk w' (g16) 26 (vc p4) ∧ Blk w' (g65) 26 (vc p4) ∧ Blk w' (g123) 26 (vc p6) ∧ Blk w' (g139) 26 (vc p7_2) ∧ Blk w' (g187) 26 (vc p6) ∧ Blk w' (g205) 26 (vc p7_2) ∧ Blk w' (g258) 52 #[.float .f64 A.x.lo, .float .f64 A.x.hi, .float .f64 A.y.lo, .float .f64 A.y.hi, .float .f64 A.z.lo, .float .f64 A.z.hi, .float .f64 B.x.lo, .float .f64 B.x.hi, .float .f64 B.y.lo, .float .f64 B.y.hi, .float .f64 B.z.lo, .float .f64 B.z.hi] ∧ CellsL w' (w.heap.size + 1 + 1) 0 [.float .f64 S.lo, .float .f64 S.hi] ∧ CellsL w' (g27) 0 [.float .f64 p5_2.lo, .float .f64 p5_2.hi] ∧ CellsL w' (g79) 0 [.float .f64 p5_2.lo, .float .f64 p5_2.hi]) from fun w' b => ⟨trivial, (K281.out.below b K281.out.lt), (K284.out.below b K284.out.lt), (K286.out.below b K286.out.lt), (K288.out.below b K288.out.lt), (K289.out.below b K289.out.lt), (K290.out.below b K290.out.lt), (K291.out.below b K291.out.lt), (K292.out.below b K292.out.lt), (K283.out.below b K283.out.lt).cellsL 0 [.float .f64 S.lo, .float .f64 S.hi] rfl, (K285.out.below b K285.out.lt).cellsL 0 [.float .f64 p5_2.lo, .float .f64 p5_2.hi] rfl, (K287.out.below b K287.out.lt).cellsL 0 [.float .f64 p5_2.lo, .float .f64 p5_2.hi] rfl⟩)
 have hS297 := HS298.out _ D296.out
 refine tkL 0 (bm 47 1) ?aq299 rfl (by kernel_rfl) (fun _ _ _ h => h) (by kernel_rfl) rfl rfl (fun _ hS => hS.2.2.1) (by rw [info_V3]; rfl) Tryz.underlying26 rfl ?pq299 hS297 ?rq299
 case pq299 => (go_simp; try with_reducible rfl)
 refine tkL 1 (bm 47 3) ?aq300 rfl (by kernel_rfl) (fun _ _ _ h => h) (by kernel_rfl) rfl rfl (fun _ hS => hS.2.2.2.1) (by rw [info_V3]; rfl) Tryz.underlying26 rfl ?pq300 hS297 ?rq300
 case pq300 => (go_simp; try with_reducible rfl)
 refine wpAnyH_oneN (i := 2) (l' := bm 47 7) rfl (by kernel_rfl) (by kernel_rfl) (by kernel_rfl) (fun K hK => ?_)
 go_simp
 go_at_call 11
 refine (C8.out _).mono ?_
 rintro r w301 ⟨rfl, hb⟩
 dsimp only
 have D302 := ds D296 hb
 clear D296
 clear hb
 have hS303 := HS298.out _ D302.out
 refine hK _ _ hS303 ?_
 clear hK K hS297
 refine tkq 3 (bm 47 15) hS303 ?_
 refine tke 4 (bm 47 31) hS303 ?_
 refine tke 5 (bm 47 63) hS303 ?_
 refine wpAnyH_oneN (i := 6) (l' := bm 47 127) rfl (by kernel_rfl) (by kernel_rfl) (by kernel_rfl) (fun K hK => ?_)
 go_simp
 go_at_call 19
 refine (C9.out _).mono ?_
 rintro r w307 ⟨rfl, hb⟩
 dsimp only
 have D308 := ds D302 hb
 clear D302
 clear hb
 have hS309 := HS298.out _ D308.out
 refine hK _ _ hS309 ?_
 clear hK K hS303
 refine tkq 7 (bm 47 255) hS309 ?_
 refine tkq 8 (bm 47 511) hS309 ?_
 refine tkL 9 (bm 47 1023) ?aq312 rfl (by kernel_rfl) (fun _ _ _ h => h) (by kernel_rfl) rfl rfl (fun _ hS => hS.2.2.2.2.1) (by rw [info_V3]; rfl) Tryz.underlying26 rfl ?pq312 hS309 ?rq312
 case pq312 => (go_simp; try with_reducible rfl)
 refine tkL 10 (bm 47 2047) ?aq313 rfl (by kernel_rfl) (fun _ _ _ h => h) (by kernel_rfl) rfl rfl (fun _ hS => hS.2.2.2.2.2.2.1) (by rw [info_V3]; rfl) Tryz.underlying26 rfl ?pq313 hS309 ?rq313
 case pq313 => (go_simp; try with_reducible rfl)
 refine wpAnyH_oneN (i := 11) (l' := bm 47 4095) rfl (by kernel_rfl) (by kernel_rfl) (by kernel_rfl) (fun K hK => ?_)
 go_simp
 go_at_call 11
 refine (C10.out _).mono ?_
 rintro r w314 ⟨rfl, hb⟩
 dsimp only
 have D315 := ds D308 hb
 clear D308
 clear hb
 have hS316 := HS298.out _ D315.out
 refine hK _ _ hS316 ?_
 clear hK K hS309
 refine tkq 12 (bm 47 8191) hS316 ?_
 refine tkq 13 (bm 47 16383) hS316 ?_
 refine tkL 14 (bm 47 32767) ?aq319 rfl (by kernel_rfl) (fun _ _ _ h => h) (by kernel_rfl) rfl rfl (fun _ hS => hS.2.2.2.2.2.1) (by rw [info_V3]; rfl) Tryz.underlying26 rfl ?pq319 hS316 ?rq319
 case pq319 => (go_simp; try with_reducible rfl)
 refine tkL 15 (bm 47 65535) ?aq320 rfl (by kernel_rfl) (fun _ _ _ h => h) (by kernel_rfl) rfl rfl (fun _ hS => hS.2.2.2.2.2.2.2.1) (by rw [info_V3]; rfl) Tryz.underlying26 rfl ?pq320 hS316 ?rq320
 case pq320 => (go_simp; try with_reducible rfl)
 refine wpAnyH_oneN (i := 16) (l' := bm 47 131071) rfl (by kernel_rfl) (by kernel_rfl) (by kernel_rfl) (fun K hK => ?_)
 go_simp
 go_at_call 11
 refine (C11.out _).mono ?_
 rintro r w321 ⟨rfl, hb⟩
 dsimp only
 have D322 := ds D315 hb
 clear D315
 clear hb
 have hS323 := HS298.out _ D322.out
 refine hK _ _ hS323 ?_
 clear hK K hS316
 refine tkq 17 (bm 47 262143) hS323 ?_
 refine tkq 18 (bm 47 524287) hS323 ?_
 refine tkq 19 (bm 47 1048575) hS323 ?_
 refine tkq 20 (bm 47 2097151) hS323 ?_
 refine tkq 21 (bm 47 4194303) hS323 ?_
 refine tkq 22 (bm 47 8388607) hS323 ?_
 refine tkq 23 (bm 47 16777215) hS323 ?_
 refine tkL 24 (bm 47 33554431) ?aq331 rfl (by kernel_rfl) (fun _ _ _ h => h) (by kernel_rfl) rfl rfl (fun _ hS => hS.2.1) (by rw [info_V3]; rfl) Tryz.underlying26 rfl ?pq331 hS323 ?rq331
 case pq331 => (go_simp; try with_reducible rfl)
 refine tkL 26 (bm 47 100663295) ?aq332 rfl (by kernel_rfl) (fun _ _ _ h => h) (by kernel_rfl) rfl rfl (fun _ hS => hS.2.1) (by rw [info_V3]; rfl) Tryz.underlying26 rfl ?pq332 hS323 ?rq332
 case pq332 => (go_simp; try with_reducible rfl)
 refine wpAnyH_oneN (i := 25) (l' := bm 47 134217727) rfl (by kernel_rfl) (by kernel_rfl) (by kernel_rfl) (fun K hK => ?_)
 go_simp
 go_at_call 28
 refine (C12.out _).mono ?_
 rintro r w333 ⟨rfl, hb⟩
 dsimp only
 have D334 := ds D322 hb
 clear D322
 clear hb
 have hS335 := HS298.out _ D334.out
 refine hK _ _ hS335 ?_
 clear hK K hS323
 refine wpAnyH_oneN (i := 27) (l' := bm 47 268435455) rfl (by kernel_rfl) (by kernel_rfl) (by kernel_rfl) (fun K hK => ?_)
 go_simp
 go_at_call 29
 refine (C13.out _).mono ?_
 rintro r w336 ⟨rfl, hb⟩
 dsimp only
 have D337 := ds D334 hb
 clear D334
 clear hb
 have hS338 := HS298.out _ D337.out
 refine hK _ _ hS338 ?_
 clear hK K hS335
 refine tkq 28 (bm 47 536870911) hS338 ?_
 refine tkq 29 (bm 47 1073741823) hS338 ?_
 refine tkq 30 (bm 47 2147483647) hS338 ?_
 refine tkL 31 (bm 47 4294967295) ?aq342 rfl (by kernel_rfl) (fun _ _ _ h => h) (by kernel_rfl) rfl rfl (fun _ hS => hS.2.1) (by rw [info_V3]; rfl) Tryz.underlying26 rfl ?pq342 hS338 ?rq342
 case pq342 => (go_simp; try with_reducible rfl)
 refine tkL 33 (bm 47 12884901887) ?aq343 rfl (by kernel_rfl) (fun _ _ _ h => h) (by kernel_rfl) rfl rfl (fun _ hS => hS.2.1) (by rw [info_V3]; rfl) Tryz.underlying26 rfl ?pq343 hS338 ?rq343
 case pq343 => (go_simp; try with_reducible rfl)
 refine wpAnyH_oneN (i := 32) (l' := bm 47 17179869183) rfl (by kernel_rfl) (by kernel_rfl) (by kernel_rfl) (fun K hK => ?_)
 go_simp
 go_at_call 30
 refine (C14.out _).mono ?_
 rintro r w344 ⟨rfl, hb⟩
 dsimp only
 have D345 := ds D337 hb
 clear D337
 clear hb
 have hS346 := HS298.out _ D345.out
 refine hK _ _ hS346 ?_
 clear hK K hS338
 refine wpAnyH_oneN (i := 34) (l' := bm 47 34359738367) rfl (by kernel_rfl) (by kernel_rfl) (by kernel_rfl) (fun K hK => ?_)
 go_simp
 go_at_call 31
 refine (C15.out _).mono ?_
 rintro r w347 ⟨rfl, hb⟩
 dsimp only
 have D348 := ds D345 hb
 clear D345
 clear hb
 have hS349 := HS298.out _ D348.out
 refine hK _ _ hS349 ?_
 clear hK K hS346
 refine wpAnyH_oneN (i := 35) (l' := bm 47 68719476735) rfl (by kernel_rfl) (by kernel_rfl) (by kernel_rfl) (fun K hK => ?_)
 go_simp
 go_at_call 19
 refine (C16.out _).mono ?_
 rintro r w350 ⟨rfl, hb⟩
 dsimp only
 have D351 := ds D348 hb
 clear D348
 clear hb
 have hS352 := HS298.out _ D351.out
 refine hK _ _ hS352 ?_
 clear hK K hS349
 refine tkq 36 (bm 47 137438953471) hS352 ?_
 refine tkq 37 (bm 47 274877906943) hS352 ?_
 refine tkL 38 (bm 47 549755813887) ?aq355 rfl (by kernel_rfl) (fun _ _ _ h => h) (by kernel_rfl) rfl rfl (fun _ hS => hS.2.2.2.2.2.2.2.2.1) (by rw [info_Ray]; rfl) Tryz.underlying52 rfl ?pq355 hS352 ?rq355
 case pq355 => (go_simp; try with_reducible rfl)
 refine tke 39 (bm 47 1099511627775) hS352 ?_
 refine tkL 41 (bm 47 3298534883327) ?aq357 rfl (by kernel_rfl) (fun _ _ _ h => h) (by kernel_rfl) rfl rfl (fun _ hS => hS.2.2.2.2.2.2.2.2.1) (by rw [info_Ray]; rfl) Tryz.underlying52 rfl ?pq357 hS352 ?rq357
 case pq357 => (go_simp; try with_reducible rfl)
 refine tke 42 (bm 47 7696581394431) hS352 ?_
 refine wpAnyH_oneN (i := 40) (l' := bm 47 8796093022207) rfl (by kernel_rfl) (by kernel_rfl) (by kernel_rfl) (fun K hK => ?_)
 go_simp
 go_at_call 32
 refine (C17.out _).mono ?_
 rintro r w359 ⟨rfl, hb⟩
 dsimp only
 have D360 := ds D351 hb
 clear D351
 clear hb
 have hS361 := HS298.out _ D360.out
 refine hK _ _ hS361 ?_
 clear hK K hS352
 refine wpAnyH_oneN (i := 43) (l' := bm 47 17592186044415) rfl (by kernel_rfl) (by kernel_rfl) (by kernel_rfl) (fun K hK => ?_)
 go_simp
 go_at_call 33
 refine (C18.out _).mono ?_
 rintro r w362 ⟨rfl, hb⟩
 dsimp only
 have D363 := ds D360 hb
 clear D360
 clear hb
 have hS364 := HS298.out _ D363.out
 refine hK _ _ hS364 ?_
 clear hK K hS361
 refine wpAnyH_oneN (i := 44) (l' := bm 47 35184372088831) rfl (by kernel_rfl) (by kernel_rfl) (by kernel_rfl) (fun K hK => ?_)
 go_simp
 go_at_call 11
 refine (C19.out _).mono ?_
 rintro r w365 ⟨rfl, hb⟩
 dsimp only
 have D366 := ds D363 hb
 clear D363
 clear hb
 have hS367 := HS298.out _ D366.out
 refine hK _ _ hS367 ?_
 clear hK K hS364
 refine tkq 45 (bm 47 70368744177663) hS367 ?_
 refine tkq 46 (bm 47 140737488355327) hS367 ?_
 refine wpAnyH_done (by kernel_rfl) ?_ _
 clear hS367
 go_wp2_with fail
 go_ret
 exact ⟨rfl, below_step HB293.out D366.out⟩
theorem vecStands_z (A B : V3) (S : Sp) (hw : A.wide = false) (q : Int) (hq : (frQ A : Int) = q) (w : World) : Calls Tryz.prog 4 #[Value.agg #[.float .f64 A.x.lo, .float .f64 A.x.hi, .float .f64 A.y.lo, .float .f64 A.y.hi, .float .f64 A.z.lo, .float .f64 A.z.hi], Value.agg #[.float .f64 B.x.lo, .float .f64 B.x.hi, .float .f64 B.y.lo, .float .f64 B.y.hi, .float .f64 B.z.lo, .float .f64 B.z.hi], Value.agg #[.float .f64 S.lo, .float .f64 S.hi]] w fun r w' => r = .returned (.bool true) ∧ Below w.heap.size w w' := by
 have C0 := Lib.hid (awake3)
 have C1 := Lib.hid (fun w => rvalidV_v A w)
 have C2 := Lib.hid (fun w => rvalidV_v B w)
 have C3 := Lib.hid (fun w => rvalid_any S.lo S.hi S.vd.l.lt S.vd.h.lt w)
 rw [vdB_of S.vd] at C3
 have C4 := Lib.hid (fun w => unitV_any A w)
 obtain ⟨p4, hp4⟩ : ∃ z_, vUnit A = z_ := ⟨_, rfl⟩
 rw [hp4] at C4
 obtain ⟨p5_2, hp5_2⟩ : ∃ z_, vLen A = z_ := ⟨_, rfl⟩
 rw [hp5_2] at C4
 have C5 := Lib.hid (fun w => runitV_any A w)
 rw [hp4] at C5
 rw [hp5_2] at C5
 have C6 := Lib.hid (fun w => frame_any A w)
 obtain ⟨p6, hp6⟩ : ∃ z_, frT (frS A) A = z_ := ⟨_, rfl⟩
 rw [hp6] at C6
 obtain ⟨p7_2, hp7_2⟩ : ∃ z_, frU (frS A) A = z_ := ⟨_, rfl⟩
 rw [hp7_2] at C6
 rw [hq] at C6
 have C7 := Lib.hid (fun w => rframe_any A w)
 rw [hp6] at C7
 rw [hp7_2] at C7
 rw [hq] at C7
 have C8 := Lib.hid (fun w => rsameV_self p4 w)
 have C9 := Lib.hid (fun w => rsame_sp p5_2 w)
 have C10 := Lib.hid (fun w => rsameV_self p6 w)
 have C11 := Lib.hid (fun w => rsameV_self p7_2 w)
 have C12 := Lib.hid (fun w => swideV_any A w)
 rw [hw] at C12
 have C13 := Lib.hid (fun w => srwideV_any A w)
 rw [hw] at C13
 have C14 := Lib.hid (fun w => mostV_any A w)
 obtain ⟨p14, hp14⟩ : ∃ z_, vMost A = z_ := ⟨_, rfl⟩
 rw [hp14] at C14
 have C15 := Lib.hid (fun w => rmostV_any A w)
 rw [hp14] at C15
 have C16 := Lib.hid (fun w => rsame_sp p14 w)
 have C17 := Lib.hid (fun w => atV_any A B S w)
 obtain ⟨p17, hp17⟩ : ∃ z_, vAt A B S = z_ := ⟨_, rfl⟩
 rw [hp17] at C17
 have C18 := Lib.hid (fun w => ratV_any A B S w)
 rw [hp17] at C18
 have C19 := Lib.hid (fun w => rsameV_self p17 w)
 clear hp4 hp5_2 hp6 hp7_2 hp14 hp17
 go_enter Tryz.func4, Tryz.ntmps4
 go_wp2_with fail
 obtain ⟨W, hW, K0, K1, K2, hB, hz⟩ := bx3 w 26 26 24 (vc A) (vc B) #[.float .f64 S.lo, .float .f64 S.hi]
 rw [← hW]
 have K0 := Lib.hid K0
 have K1 := Lib.hid K1
 have K2 := Lib.hid K2
 have HB := Lib.hid hB
 clear hW hB hz
 have D1 := dr W
 refine (C0.out _).mono ?_
 rintro r w2 ⟨rfl, hb⟩
 have D3 := ds D1 hb
 clear D1
 clear hb
 have f4 := (kb K0 D3)
 go_wp2_with (refine wl_load (by kernel_rfl) rfl rfl f4 (by rw [info_V3]; rfl) Tryz.underlying26 rfl ?_)
 clear f4
 refine (C1.out _).mono ?_
 rintro r w5 ⟨rfl, hb⟩
 have D6 := ds D3 hb
 clear D3
 clear hb
 have f7 := (kb K1 D6)
 go_wp2_with (refine wl_load (by kernel_rfl) rfl rfl f7 (by rw [info_V3]; rfl) Tryz.underlying26 rfl ?_)
 clear f7
 refine (C2.out _).mono ?_
 rintro r w8 ⟨rfl, hb⟩
 have D9 := ds D6 hb
 clear D6
 clear hb
 have hq10 := (kb K2 D9).cellsL 0 [.float .f64 S.lo, .float .f64 S.hi] rfl
 dsimp only [CellsL, al, vl, Nat.reduceAdd] at hq10
 go_wp2_with fail
 clear hq10
 refine (C3.out _).mono ?_
 rintro r w11 ⟨rfl, hb⟩
 have D12 := ds D9 hb
 clear D9
 clear hb
 have f13 := (kb K0 D12)
 go_wp2_with (refine wl_load (by kernel_rfl) rfl rfl f13 (by rw [info_V3]; rfl) Tryz.underlying26 rfl ?_)
 clear f13
 refine (C4.out _).mono ?_
 rintro r w14 ⟨rfl, hb⟩
 have D15 := ds D12 hb
 clear D12
 clear hb
 obtain ⟨g16, hg18⟩ : ∃ g, w14.heap.size = g := ⟨_, rfl⟩
 have Y20 := Lib.hid (show w.heap.size < g16 ∧ w.heap.size + 1 < g16 ∧ w.heap.size + 1 + 1 < g16 by rw [← hg18]; exact ⟨(kb K0 D15).lt, (kb K1 D15).lt, (kb K2 D15).lt⟩)
 obtain ⟨V17, hV19⟩ : ∃ V, w14.alloc (.cells #[.float .f64 0, .float .f64 0, .float .f64 0, .float .f64 0, .float .f64 0, .float .f64 0] 26) = V := ⟨_, rfl⟩
 have K21 := ka hV19 K0 D15
 have K22 := ka hV19 K1 D15
 have K23 := ka hV19 K2 D15
 have K24 := kn hV19 hg18
 have HB25 := hba hV19 HB D15
 have D26 := dr V17
 clear K0 K1 K2 HB D15
 obtain ⟨g27, hg29⟩ : ∃ g, V17.heap.size = g := ⟨_, rfl⟩
 have Y31 := Lib.hid (show w.heap.size < g27 ∧ w.heap.size + 1 < g27 ∧ w.heap.size + 1 + 1 < g27 ∧ g16 < g27 by rw [← hg29]; exact ⟨(kb K21 D26).lt, (kb K22 D26).lt, (kb K23 D26).lt, (kb K24 D26).lt⟩)
 obtain ⟨V28, hV30⟩ : ∃ V, V17.alloc (.cells #[.float .f64 0, .float .f64 0] 24) = V := ⟨_, rfl⟩
 have K32 := ka hV30 K21 D26
 have K33 := ka hV30 K22 D26
 have K34 := ka hV30 K23 D26
 have K35 := ka hV30 K24 D26
 have K36 := kn hV30 hg29
 have HB37 := hba hV30 HB25 D26
 have D38 := dr V28
 clear K21 K22 K23 K24 HB25 D26
 have Y39 := Lib.hid (And.intro Y20.out Y31.out)
 clear Y20 Y31
 have f42 := (kb K35 D38)
 obtain ⟨V40, hV41⟩ : ∃ V, World.setRow V28 (g16) (vc p4) = V := ⟨_, rfl⟩
 have K43 := kfr hV41 K32 D38 (by have := Y39.out; omega)
 have K44 := kfr hV41 K33 D38 (by have := Y39.out; omega)
 have K45 := kfr hV41 K34 D38 (by have := Y39.out; omega)
 have K46 := ksr hV41 K35 D38
 have K47 := kfr hV41 K36 D38 (by have := Y39.out; omega)
 have HB48 := hbr hV41 HB37 D38 (by have := Y39.out; omega)
 have D49 := dr V40
 clear K32 K33 K34 K35 K36 HB37 D38
 have f52 := (kb K47 D49).cellsL 0 [.float .f64 0, .float .f64 0] rfl
 dsimp only [CellsL, al, vl, Nat.reduceAdd] at f52
 have u53 := (kb K47 D49).unfrozen
 obtain ⟨V50, hV51⟩ : ∃ V, setCells V40 (g27) 0 [.float .f64 p5_2.lo, .float .f64 p5_2.hi] = V := ⟨_, rfl⟩
 have hv54 := hV51
 simp only [setCells, Nat.reduceAdd] at hv54
 have K55 := kf hV51 K43 D49 (by have := Y39.out; omega)
 have K56 := kf hV51 K44 D49 (by have := Y39.out; omega)
 have K57 := kf hV51 K45 D49 (by have := Y39.out; omega)
 have K58 := kf hV51 K46 D49 (by have := Y39.out; omega)
 have K59 := Lib.hid (show Blk V50 (g27) 24 #[.float .f64 p5_2.lo, .float .f64 p5_2.hi] from (ks hV51 K47 D49).out)
 have HB60 := hbs hV51 HB48 D49 (by have := Y39.out; omega)
 have D61 := dr V50
 clear K43 K44 K45 K46 K47 HB48 D49
 have f62 := (kb K55 D61)
 go_wp2_with (first | (refine wpList_store_row rfl 26 _ _ rfl (g16) (vc p4) rfl rfl _ _ f42 (by rw [info_V3]; rfl) rfl (by kernel_rfl) ?_; rw [hV41]) | (refine wl_load (by kernel_rfl) rfl rfl f62 (by rw [info_V3]; rfl) Tryz.underlying26 rfl ?_))
 clear hg18 hV19 hg29 hV30 hV41 f42 hV51 f52 u53 hv54 f62
 refine (C5.out _).mono ?_
 rintro r w63 ⟨rfl, hb⟩
 have D64 := ds D61 hb
 clear D61
 clear hb
 obtain ⟨g65, hg67⟩ : ∃ g, w63.heap.size = g := ⟨_, rfl⟩
 have Y69 := Lib.hid (show w.heap.size < g65 ∧ w.heap.size + 1 < g65 ∧ w.heap.size + 1 + 1 < g65 ∧ g16 < g65 ∧ g27 < g65 by rw [← hg67]; exact ⟨(kb K55 D64).lt, (kb K56 D64).lt, (kb K57 D64).lt, (kb K58 D64).lt, (kb K59 D64).lt⟩)
 obtain ⟨V66, hV68⟩ : ∃ V, w63.alloc (.cells #[.float .f64 0, .float .f64 0, .float .f64 0, .float .f64 0, .float .f64 0, .float .f64 0] 26) = V := ⟨_, rfl⟩
 have K70 := ka hV68 K55 D64
 have K71 := ka hV68 K56 D64
 have K72 := ka hV68 K57 D64
 have K73 := ka hV68 K58 D64
 have K74 := ka hV68 K59 D64
 have K75 := kn hV68 hg67
 have HB76 := hba hV68 HB60 D64
 have D77 := dr V66
 clear K55 K56 K57 K58 K59 HB60 D64
 have Y78 := Lib.hid (And.intro Y39.out Y69.out)
 clear Y39 Y69
 obtain ⟨g79, hg81⟩ : ∃ g, V66.heap.size = g := ⟨_, rfl⟩
 have Y83 := Lib.hid (show w.heap.size < g79 ∧ w.heap.size + 1 < g79 ∧ w.heap.size + 1 + 1 < g79 ∧ g16 < g79 ∧ g27 < g79 ∧ g65 < g79 by rw [← hg81]; exact ⟨(kb K70 D77).lt, (kb K71 D77).lt, (kb K72 D77).lt, (kb K73 D77).lt, (kb K74 D77).lt, (kb K75 D77).lt⟩)
 obtain ⟨V80, hV82⟩ : ∃ V, V66.alloc (.cells #[.float .f64 0, .float .f64 0] 24) = V := ⟨_, rfl⟩
 have K84 := ka hV82 K70 D77
 have K85 := ka hV82 K71 D77
 have K86 := ka hV82 K72 D77
 have K87 := ka hV82 K73 D77
 have K88 := ka hV82 K74 D77
 have K89 := ka hV82 K75 D77
 have K90 := kn hV82 hg81
 have HB91 := hba hV82 HB76 D77
 have D92 := dr V80
 clear K70 K71 K72 K73 K74 K75 HB76 D77
 have Y93 := Lib.hid (And.intro Y78.out Y83.out)
 clear Y78 Y83
 have f96 := (kb K89 D92)
 obtain ⟨V94, hV95⟩ : ∃ V, World.setRow V80 (g65) (vc p4) = V := ⟨_, rfl⟩
 have K97 := kfr hV95 K84 D92 (by have := Y93.out; omega)
 have K98 := kfr hV95 K85 D92 (by have := Y93.out; omega)
 have K99 := kfr hV95 K86 D92 (by have := Y93.out; omega)
 have K100 := kfr hV95 K87 D92 (by have := Y93.out; omega)
 have K101 := kfr hV95 K88 D92 (by have := Y93.out; omega)
 have K102 := ksr hV95 K89 D92
 have K103 := kfr hV95 K90 D92 (by have := Y93.out; omega)
 have HB104 := hbr hV95 HB91 D92 (by have := Y93.out; omega)
 have D105 := dr V94
 clear K84 K85 K86 K87 K88 K89 K90 HB91 D92
 have f108 := (kb K103 D105).cellsL 0 [.float .f64 0, .float .f64 0] rfl
 dsimp only [CellsL, al, vl, Nat.reduceAdd] at f108
 have u109 := (kb K103 D105).unfrozen
 obtain ⟨V106, hV107⟩ : ∃ V, setCells V94 (g79) 0 [.float .f64 p5_2.lo, .float .f64 p5_2.hi] = V := ⟨_, rfl⟩
 have hv110 := hV107
 simp only [setCells, Nat.reduceAdd] at hv110
 have K111 := kf hV107 K97 D105 (by have := Y93.out; omega)
 have K112 := kf hV107 K98 D105 (by have := Y93.out; omega)
 have K113 := kf hV107 K99 D105 (by have := Y93.out; omega)
 have K114 := kf hV107 K100 D105 (by have := Y93.out; omega)
 have K115 := kf hV107 K101 D105 (by have := Y93.out; omega)
 have K116 := kf hV107 K102 D105 (by have := Y93.out; omega)
 have K117 := Lib.hid (show Blk V106 (g79) 24 #[.float .f64 p5_2.lo, .float .f64 p5_2.hi] from (ks hV107 K103 D105).out)
 have HB118 := hbs hV107 HB104 D105 (by have := Y93.out; omega)
 have D119 := dr V106
 clear K97 K98 K99 K100 K101 K102 K103 HB104 D105
 have f120 := (kb K111 D119)
 go_wp2_with (first | (refine wpList_store_row rfl 26 _ _ rfl (g65) (vc p4) rfl rfl _ _ f96 (by rw [info_V3]; rfl) rfl (by kernel_rfl) ?_; rw [hV95]) | (refine wl_load (by kernel_rfl) rfl rfl f120 (by rw [info_V3]; rfl) Tryz.underlying26 rfl ?_))
 clear hg67 hV68 hg81 hV82 hV95 f96 hV107 f108 u109 hv110 f120
 refine (C6.out _).mono ?_
 rintro r w121 ⟨rfl, hb⟩
 have D122 := ds D119 hb
 clear D119
 clear hb
 obtain ⟨g123, hg125⟩ : ∃ g, w121.heap.size = g := ⟨_, rfl⟩
 have Y127 := Lib.hid (show w.heap.size < g123 ∧ w.heap.size + 1 < g123 ∧ w.heap.size + 1 + 1 < g123 ∧ g16 < g123 ∧ g27 < g123 ∧ g65 < g123 ∧ g79 < g123 by rw [← hg125]; exact ⟨(kb K111 D122).lt, (kb K112 D122).lt, (kb K113 D122).lt, (kb K114 D122).lt, (kb K115 D122).lt, (kb K116 D122).lt, (kb K117 D122).lt⟩)
 obtain ⟨V124, hV126⟩ : ∃ V, w121.alloc (.cells #[.float .f64 0, .float .f64 0, .float .f64 0, .float .f64 0, .float .f64 0, .float .f64 0] 26) = V := ⟨_, rfl⟩
 have K128 := ka hV126 K111 D122
 have K129 := ka hV126 K112 D122
 have K130 := ka hV126 K113 D122
 have K131 := ka hV126 K114 D122
 have K132 := ka hV126 K115 D122
 have K133 := ka hV126 K116 D122
 have K134 := ka hV126 K117 D122
 have K135 := kn hV126 hg125
 have HB136 := hba hV126 HB118 D122
 have D137 := dr V124
 clear K111 K112 K113 K114 K115 K116 K117 HB118 D122
 have Y138 := Lib.hid (And.intro Y93.out Y127.out)
 clear Y93 Y127
 obtain ⟨g139, hg141⟩ : ∃ g, V124.heap.size = g := ⟨_, rfl⟩
 have Y143 := Lib.hid (show w.heap.size < g139 ∧ w.heap.size + 1 < g139 ∧ w.heap.size + 1 + 1 < g139 ∧ g16 < g139 ∧ g27 < g139 ∧ g65 < g139 ∧ g79 < g139 ∧ g123 < g139 by rw [← hg141]; exact ⟨(kb K128 D137).lt, (kb K129 D137).lt, (kb K130 D137).lt, (kb K131 D137).lt, (kb K132 D137).lt, (kb K133 D137).lt, (kb K134 D137).lt, (kb K135 D137).lt⟩)
 obtain ⟨V140, hV142⟩ : ∃ V, V124.alloc (.cells #[.float .f64 0, .float .f64 0, .float .f64 0, .float .f64 0, .float .f64 0, .float .f64 0] 26) = V := ⟨_, rfl⟩
 have K144 := ka hV142 K128 D137
 have K145 := ka hV142 K129 D137
 have K146 := ka hV142 K130 D137
 have K147 := ka hV142 K131 D137
 have K148 := ka hV142 K132 D137
 have K149 := ka hV142 K133 D137
 have K150 := ka hV142 K134 D137
 have K151 := ka hV142 K135 D137
 have K152 := kn hV142 hg141
 have HB153 := hba hV142 HB136 D137
 have D154 := dr V140
 clear K128 K129 K130 K131 K132 K133 K134 K135 HB136 D137
 have Y155 := Lib.hid (And.intro Y138.out Y143.out)
 clear Y138 Y143
 have f158 := (kb K151 D154)
 obtain ⟨V156, hV157⟩ : ∃ V, World.setRow V140 (g123) (vc p6) = V := ⟨_, rfl⟩
 have K159 := kfr hV157 K144 D154 (by have := Y155.out; omega)
 have K160 := kfr hV157 K145 D154 (by have := Y155.out; omega)
 have K161 := kfr hV157 K146 D154 (by have := Y155.out; omega)
 have K162 := kfr hV157 K147 D154 (by have := Y155.out; omega)
 have K163 := kfr hV157 K148 D154 (by have := Y155.out; omega)
 have K164 := kfr hV157 K149 D154 (by have := Y155.out; omega)
 have K165 := kfr hV157 K150 D154 (by have := Y155.out; omega)
 have K166 := ksr hV157 K151 D154
 have K167 := kfr hV157 K152 D154 (by have := Y155.out; omega)
 have HB168 := hbr hV157 HB153 D154 (by have := Y155.out; omega)
 have D169 := dr V156
 clear K144 K145 K146 K147 K148 K149 K150 K151 K152 HB153 D154
 have f172 := (kb K167 D169)
 obtain ⟨V170, hV171⟩ : ∃ V, World.setRow V156 (g139) (vc p7_2) = V := ⟨_, rfl⟩
 have K173 := kfr hV171 K159 D169 (by have := Y155.out; omega)
 have K174 := kfr hV171 K160 D169 (by have := Y155.out; omega)
 have K175 := kfr hV171 K161 D169 (by have := Y155.out; omega)
 have K176 := kfr hV171 K162 D169 (by have := Y155.out; omega)
 have K177 := kfr hV171 K163 D169 (by have := Y155.out; omega)
 have K178 := kfr hV171 K164 D169 (by have := Y155.out; omega)
 have K179 := kfr hV171 K165 D169 (by have := Y155.out; omega)
 have K180 := kfr hV171 K166 D169 (by have := Y155.out; omega)
 have K181 := ksr hV171 K167 D169
 have HB182 := hbr hV171 HB168 D169 (by have := Y155.out; omega)
 have D183 := dr V170
 clear K159 K160 K161 K162 K163 K164 K165 K166 K167 HB168 D169
 have f184 := (kb K173 D183)
 go_wp2_with (first | (refine wpList_store_row rfl 26 _ _ rfl (g123) (vc p6) rfl rfl _ _ f158 (by rw [info_V3]; rfl) rfl (by kernel_rfl) ?_; rw [hV157]) | (refine wpList_store_row rfl 26 _ _ rfl (g139) (vc p7_2) rfl rfl _ _ f172 (by rw [info_V3]; rfl) rfl (by kernel_rfl) ?_; rw [hV171]) | (refine wl_load (by kernel_rfl) rfl rfl f184 (by rw [info_V3]; rfl) Tryz.underlying26 rfl ?_))
 clear hg125 hV126 hg141 hV142 hV157 f158 hV171 f172 f184
 refine (C7.out _).mono ?_
 rintro r w185 ⟨rfl, hb⟩
 have D186 := ds D183 hb
 clear D183
 clear hb
 obtain ⟨g187, hg189⟩ : ∃ g, w185.heap.size = g := ⟨_, rfl⟩
 have Y191 := Lib.hid (show w.heap.size < g187 ∧ w.heap.size + 1 < g187 ∧ w.heap.size + 1 + 1 < g187 ∧ g16 < g187 ∧ g27 < g187 ∧ g65 < g187 ∧ g79 < g187 ∧ g123 < g187 ∧ g139 < g187 by rw [← hg189]; exact ⟨(kb K173 D186).lt, (kb K174 D186).lt, (kb K175 D186).lt, (kb K176 D186).lt, (kb K177 D186).lt, (kb K178 D186).lt, (kb K179 D186).lt, (kb K180 D186).lt, (kb K181 D186).lt⟩)
 obtain ⟨V188, hV190⟩ : ∃ V, w185.alloc (.cells #[.float .f64 0, .float .f64 0, .float .f64 0, .float .f64 0, .float .f64 0, .float .f64 0] 26) = V := ⟨_, rfl⟩
 have K192 := ka hV190 K173 D186
 have K193 := ka hV190 K174 D186
 have K194 := ka hV190 K175 D186
 have K195 := ka hV190 K176 D186
 have K196 := ka hV190 K177 D186
 have K197 := ka hV190 K178 D186
 have K198 := ka hV190 K179 D186
 have K199 := ka hV190 K180 D186
 have K200 := ka hV190 K181 D186
 have K201 := kn hV190 hg189
 have HB202 := hba hV190 HB182 D186
 have D203 := dr V188
 clear K173 K174 K175 K176 K177 K178 K179 K180 K181 HB182 D186
 have Y204 := Lib.hid (And.intro Y155.out Y191.out)
 clear Y155 Y191
 obtain ⟨g205, hg207⟩ : ∃ g, V188.heap.size = g := ⟨_, rfl⟩
 have Y209 := Lib.hid (show w.heap.size < g205 ∧ w.heap.size + 1 < g205 ∧ w.heap.size + 1 + 1 < g205 ∧ g16 < g205 ∧ g27 < g205 ∧ g65 < g205 ∧ g79 < g205 ∧ g123 < g205 ∧ g139 < g205 ∧ g187 < g205 by rw [← hg207]; exact ⟨(kb K192 D203).lt, (kb K193 D203).lt, (kb K194 D203).lt, (kb K195 D203).lt, (kb K196 D203).lt, (kb K197 D203).lt, (kb K198 D203).lt, (kb K199 D203).lt, (kb K200 D203).lt, (kb K201 D203).lt⟩)
 obtain ⟨V206, hV208⟩ : ∃ V, V188.alloc (.cells #[.float .f64 0, .float .f64 0, .float .f64 0, .float .f64 0, .float .f64 0, .float .f64 0] 26) = V := ⟨_, rfl⟩
 have K210 := ka hV208 K192 D203
 have K211 := ka hV208 K193 D203
 have K212 := ka hV208 K194 D203
 have K213 := ka hV208 K195 D203
 have K214 := ka hV208 K196 D203
 have K215 := ka hV208 K197 D203
 have K216 := ka hV208 K198 D203
 have K217 := ka hV208 K199 D203
 have K218 := ka hV208 K200 D203
 have K219 := ka hV208 K201 D203
 have K220 := kn hV208 hg207
 have HB221 := hba hV208 HB202 D203
 have D222 := dr V206
 clear K192 K193 K194 K195 K196 K197 K198 K199 K200 K201 HB202 D203
 have Y223 := Lib.hid (And.intro Y204.out Y209.out)
 clear Y204 Y209
 have f226 := (kb K219 D222)
 obtain ⟨V224, hV225⟩ : ∃ V, World.setRow V206 (g187) (vc p6) = V := ⟨_, rfl⟩
 have K227 := kfr hV225 K210 D222 (by have := Y223.out; omega)
 have K228 := kfr hV225 K211 D222 (by have := Y223.out; omega)
 have K229 := kfr hV225 K212 D222 (by have := Y223.out; omega)
 have K230 := kfr hV225 K213 D222 (by have := Y223.out; omega)
 have K231 := kfr hV225 K214 D222 (by have := Y223.out; omega)
 have K232 := kfr hV225 K215 D222 (by have := Y223.out; omega)
 have K233 := kfr hV225 K216 D222 (by have := Y223.out; omega)
 have K234 := kfr hV225 K217 D222 (by have := Y223.out; omega)
 have K235 := kfr hV225 K218 D222 (by have := Y223.out; omega)
 have K236 := ksr hV225 K219 D222
 have K237 := kfr hV225 K220 D222 (by have := Y223.out; omega)
 have HB238 := hbr hV225 HB221 D222 (by have := Y223.out; omega)
 have D239 := dr V224
 clear K210 K211 K212 K213 K214 K215 K216 K217 K218 K219 K220 HB221 D222
 have f242 := (kb K237 D239)
 obtain ⟨V240, hV241⟩ : ∃ V, World.setRow V224 (g205) (vc p7_2) = V := ⟨_, rfl⟩
 have K243 := kfr hV241 K227 D239 (by have := Y223.out; omega)
 have K244 := kfr hV241 K228 D239 (by have := Y223.out; omega)
 have K245 := kfr hV241 K229 D239 (by have := Y223.out; omega)
 have K246 := kfr hV241 K230 D239 (by have := Y223.out; omega)
 have K247 := kfr hV241 K231 D239 (by have := Y223.out; omega)
 have K248 := kfr hV241 K232 D239 (by have := Y223.out; omega)
 have K249 := kfr hV241 K233 D239 (by have := Y223.out; omega)
 have K250 := kfr hV241 K234 D239 (by have := Y223.out; omega)
 have K251 := kfr hV241 K235 D239 (by have := Y223.out; omega)
 have K252 := kfr hV241 K236 D239 (by have := Y223.out; omega)
 have K253 := ksr hV241 K237 D239
 have HB254 := hbr hV241 HB238 D239 (by have := Y223.out; omega)
 have D255 := dr V240
 clear K227 K228 K229 K230 K231 K232 K233 K234 K235 K236 K237 HB238 D239
 have f256 := (kb K243 D255)
 have f257 := (kb K244 D255)
 obtain ⟨g258, hg260⟩ : ∃ g, V240.heap.size = g := ⟨_, rfl⟩
 have Y262 := Lib.hid (show w.heap.size < g258 ∧ w.heap.size + 1 < g258 ∧ w.heap.size + 1 + 1 < g258 ∧ g16 < g258 ∧ g27 < g258 ∧ g65 < g258 ∧ g79 < g258 ∧ g123 < g258 ∧ g139 < g258 ∧ g187 < g258 ∧ g205 < g258 by rw [← hg260]; exact ⟨(kb K243 D255).lt, (kb K244 D255).lt, (kb K245 D255).lt, (kb K246 D255).lt, (kb K247 D255).lt, (kb K248 D255).lt, (kb K249 D255).lt, (kb K250 D255).lt, (kb K251 D255).lt, (kb K252 D255).lt, (kb K253 D255).lt⟩)
 obtain ⟨V259, hV261⟩ : ∃ V, V240.alloc (.cells #[.float .f64 0, .float .f64 0, .float .f64 0, .float .f64 0, .float .f64 0, .float .f64 0, .float .f64 0, .float .f64 0, .float .f64 0, .float .f64 0, .float .f64 0, .float .f64 0] 52) = V := ⟨_, rfl⟩
 have K263 := ka hV261 K243 D255
 have K264 := ka hV261 K244 D255
 have K265 := ka hV261 K245 D255
 have K266 := ka hV261 K246 D255
 have K267 := ka hV261 K247 D255
 have K268 := ka hV261 K248 D255
 have K269 := ka hV261 K249 D255
 have K270 := ka hV261 K250 D255
 have K271 := ka hV261 K251 D255
 have K272 := ka hV261 K252 D255
 have K273 := ka hV261 K253 D255
 have K274 := kn hV261 hg260
 have HB275 := hba hV261 HB254 D255
 have D276 := dr V259
 clear K243 K244 K245 K246 K247 K248 K249 K250 K251 K252 K253 HB254 D255
 have Y277 := Lib.hid (And.intro Y223.out Y262.out)
 clear Y223 Y262
 have f280 := (kb K274 D276)
 obtain ⟨V278, hV279⟩ : ∃ V, World.setRow V259 (g258) #[.float .f64 A.x.lo, .float .f64 A.x.hi, .float .f64 A.y.lo, .float .f64 A.y.hi, .float .f64 A.z.lo, .float .f64 A.z.hi, .float .f64 B.x.lo, .float .f64 B.x.hi, .float .f64 B.y.lo, .float .f64 B.y.hi, .float .f64 B.z.lo, .float .f64 B.z.hi] = V := ⟨_, rfl⟩
 have K281 := kfr hV279 K263 D276 (by have := Y277.out; omega)
 have K282 := kfr hV279 K264 D276 (by have := Y277.out; omega)
 have K283 := kfr hV279 K265 D276 (by have := Y277.out; omega)
 have K284 := kfr hV279 K266 D276 (by have := Y277.out; omega)
 have K285 := kfr hV279 K267 D276 (by have := Y277.out; omega)
 have K286 := kfr hV279 K268 D276 (by have := Y277.out; omega)
 have K287 := kfr hV279 K269 D276 (by have := Y277.out; omega)
 have K288 := kfr hV279 K270 D276 (by have := Y277.out; omega)
 have K289 := kfr hV279 K271 D276 (by have := Y277.out; omega)
 have K290 := kfr hV279 K272 D276 (by have := Y277.out; omega)
 have K291 := kfr hV279 K273 D276 (by have := Y277.out; omega)
 have K292 := ksr hV279 K274 D276
 have HB293 := hbr hV279 HB275 D276 (by have := Y277.out; omega)
 have D294 := dr V278
 clear K263 K264 K265 K266 K267 K268 K269 K270 K271 K272 K273 K274 HB275 D276
 go_wp2_with (first | (refine wpList_store_row rfl 26 _ _ rfl (g187) (vc p6) rfl rfl _ _ f226 (by rw [info_V3]; rfl) rfl (by kernel_rfl) ?_; rw [hV225]) | (refine wpList_store_row rfl 26 _ _ rfl (g205) (vc p7_2) rfl rfl _ _ f242 (by rw [info_V3]; rfl) rfl (by kernel_rfl) ?_; rw [hV241]) | (refine wpList_store_row rfl 52 _ _ rfl (g258) #[.float .f64 A.x.lo, .float .f64 A.x.hi, .float .f64 A.y.lo, .float .f64 A.y.hi, .float .f64 A.z.lo, .float .f64 A.z.hi, .float .f64 B.x.lo, .float .f64 B.x.hi, .float .f64 B.y.lo, .float .f64 B.y.hi, .float .f64 B.z.lo, .float .f64 B.z.hi] rfl rfl _ _ f280 (by rw [info_Ray]; rfl) rfl (by kernel_rfl) ?_; rw [hV279]) | (refine wl_load (by kernel_rfl) rfl rfl f256 (by rw [info_V3]; rfl) Tryz.underlying26 rfl ?_) | (refine wl_load (by kernel_rfl) rfl rfl f257 (by rw [info_V3]; rfl) Tryz.underlying26 rfl ?_))
 clear hg189 hV190 hg207 hV208 hV225 f226 hV241 f242 f256 f257 hg260 hV261 hV279 f280
 refine wp_region_held (S := (fun w' => True ∧ Blk w' (w.heap.size) 26 (vc A) ∧ Blk w' (g16) 26 (vc p4) ∧ Blk w' (g65) 26 (vc p4) ∧ Blk w' (g123) 26 (vc p6) ∧ Blk w' (g139) 26 (vc p7_2) ∧ Blk w' (g187) 26 (vc p6) ∧ Blk w' (g205) 26 (vc p7_2) ∧ Blk w' (g258) 52 #[.float .f64 A.x.lo, .float .f64 A.x.hi, .float .f64 A.y.lo, .float .f64 A.y.hi, .float .f64 A.z.lo, .float .f64 A.z.hi, .float .f64 B.x.lo, .float .f64 B.x.hi, .float .f64 B.y.lo, .float .f64 B.y.hi, .float .f64 B.z.lo, .float .f64 B.z.hi] ∧ CellsL w' (w.heap.size + 1 + 1) 0 [.float .f64 S.lo, .float .f64 S.hi] ∧ CellsL w' (g27) 0 [.float .f64 p5_2.lo, .float .f64 p5_2.hi] ∧ CellsL w' (g79) 0 [.float .f64 p5_2.lo, .float .f64 p5_2.hi])) (by kernel_rfl) ?_
 change wpAnyH _ _ _ _ _ _ _ _ (World.drew _)
 obtain ⟨wd295, hwd⟩ : ∃ x, x = World.drew V278 := ⟨_, rfl⟩
 rw [← hwd]
 have D296 := Lib.hid (hwd ▸ Below.drew D294.out : Below V278.heap.size V278 wd295)
 clear D294 hwd
 have HS298 := Lib.hid (show ∀ w', Below V278.heap.size V278 w' → (True ∧ Blk w' (w.heap.size) 26 (vc A) ∧ Blk w' (g16) 26 (vc p4) ∧ Blk w' (g65) 26 (vc p4) ∧ Blk w' (g123) 26 (vc p6) ∧ Blk w' (g139) 26 (vc p7_2) ∧ Blk w' (g187) 26 (vc p6) ∧ Blk w' (g205) 26 (vc p7_2) ∧ Blk w' (g258) 52 #[.float .f64 A.x.lo, .float .f64 A.x.hi, .float .f64 A.y.lo, .float .f64 A.y.hi, .float .f64 A.z.lo, .float .f64 A.z.hi, .float .f64 B.x.lo, .float .f64 B.x.hi, .float .f64 B.y.lo, .float .f64 B.y.hi, .float .f64 B.z.lo, .float .f64 B.z.hi] ∧ CellsL w' (w.heap.size + 1 + 1) 0 [.float .f64 S.lo, .float .f64 S.hi] ∧ CellsL w' (g27) 0 [.float .f64 p5_2.lo, .float .f64 p5_2.hi] ∧ CellsL w' (g79) 0 [.float .f64 p5_2.lo, .float .f64 p5_2.hi]) from fun w' b => ⟨trivial, (K281.out.below b K281.out.lt), (K284.out.below b K284.out.lt), (K286.out.below b K286.out.lt), (K288.out.below b K288.out.lt), (K289.out.below b K289.out.lt), (K290.out.below b K290.out.lt), (K291.out.below b K291.out.lt), (K292.out.below b K292.out.lt), (K283.out.below b K283.out.lt).cellsL 0 [.float .f64 S.lo, .float .f64 S.hi] rfl, (K285.out.below b K285.out.lt).cellsL 0 [.float .f64 p5_2.lo, .float .f64 p5_2.hi] rfl, (K287.out.below b K287.out.lt).cellsL 0 [.float .f64 p5_2.lo, .float .f64 p5_2.hi] rfl⟩)
 have hS297 := HS298.out _ D296.out
 refine tkL 0 (bm 47 1) ?aq299 rfl (by kernel_rfl) (fun _ _ _ h => h) (by kernel_rfl) rfl rfl (fun _ hS => hS.2.2.1) (by rw [info_V3]; rfl) Tryz.underlying26 rfl ?pq299 hS297 ?rq299
 case pq299 => (go_simp; try with_reducible rfl)
 refine tkL 1 (bm 47 3) ?aq300 rfl (by kernel_rfl) (fun _ _ _ h => h) (by kernel_rfl) rfl rfl (fun _ hS => hS.2.2.2.1) (by rw [info_V3]; rfl) Tryz.underlying26 rfl ?pq300 hS297 ?rq300
 case pq300 => (go_simp; try with_reducible rfl)
 refine wpAnyH_oneN (i := 2) (l' := bm 47 7) rfl (by kernel_rfl) (by kernel_rfl) (by kernel_rfl) (fun K hK => ?_)
 go_simp
 go_at_call 11
 refine (C8.out _).mono ?_
 rintro r w301 ⟨rfl, hb⟩
 dsimp only
 have D302 := ds D296 hb
 clear D296
 clear hb
 have hS303 := HS298.out _ D302.out
 refine hK _ _ hS303 ?_
 clear hK K hS297
 refine tkq 3 (bm 47 15) hS303 ?_
 refine tke 4 (bm 47 31) hS303 ?_
 refine tke 5 (bm 47 63) hS303 ?_
 refine wpAnyH_oneN (i := 6) (l' := bm 47 127) rfl (by kernel_rfl) (by kernel_rfl) (by kernel_rfl) (fun K hK => ?_)
 go_simp
 go_at_call 19
 refine (C9.out _).mono ?_
 rintro r w307 ⟨rfl, hb⟩
 dsimp only
 have D308 := ds D302 hb
 clear D302
 clear hb
 have hS309 := HS298.out _ D308.out
 refine hK _ _ hS309 ?_
 clear hK K hS303
 refine tkq 7 (bm 47 255) hS309 ?_
 refine tkq 8 (bm 47 511) hS309 ?_
 refine tkL 9 (bm 47 1023) ?aq312 rfl (by kernel_rfl) (fun _ _ _ h => h) (by kernel_rfl) rfl rfl (fun _ hS => hS.2.2.2.2.1) (by rw [info_V3]; rfl) Tryz.underlying26 rfl ?pq312 hS309 ?rq312
 case pq312 => (go_simp; try with_reducible rfl)
 refine tkL 10 (bm 47 2047) ?aq313 rfl (by kernel_rfl) (fun _ _ _ h => h) (by kernel_rfl) rfl rfl (fun _ hS => hS.2.2.2.2.2.2.1) (by rw [info_V3]; rfl) Tryz.underlying26 rfl ?pq313 hS309 ?rq313
 case pq313 => (go_simp; try with_reducible rfl)
 refine wpAnyH_oneN (i := 11) (l' := bm 47 4095) rfl (by kernel_rfl) (by kernel_rfl) (by kernel_rfl) (fun K hK => ?_)
 go_simp
 go_at_call 11
 refine (C10.out _).mono ?_
 rintro r w314 ⟨rfl, hb⟩
 dsimp only
 have D315 := ds D308 hb
 clear D308
 clear hb
 have hS316 := HS298.out _ D315.out
 refine hK _ _ hS316 ?_
 clear hK K hS309
 refine tkq 12 (bm 47 8191) hS316 ?_
 refine tkq 13 (bm 47 16383) hS316 ?_
 refine tkL 14 (bm 47 32767) ?aq319 rfl (by kernel_rfl) (fun _ _ _ h => h) (by kernel_rfl) rfl rfl (fun _ hS => hS.2.2.2.2.2.1) (by rw [info_V3]; rfl) Tryz.underlying26 rfl ?pq319 hS316 ?rq319
 case pq319 => (go_simp; try with_reducible rfl)
 refine tkL 15 (bm 47 65535) ?aq320 rfl (by kernel_rfl) (fun _ _ _ h => h) (by kernel_rfl) rfl rfl (fun _ hS => hS.2.2.2.2.2.2.2.1) (by rw [info_V3]; rfl) Tryz.underlying26 rfl ?pq320 hS316 ?rq320
 case pq320 => (go_simp; try with_reducible rfl)
 refine wpAnyH_oneN (i := 16) (l' := bm 47 131071) rfl (by kernel_rfl) (by kernel_rfl) (by kernel_rfl) (fun K hK => ?_)
 go_simp
 go_at_call 11
 refine (C11.out _).mono ?_
 rintro r w321 ⟨rfl, hb⟩
 dsimp only
 have D322 := ds D315 hb
 clear D315
 clear hb
 have hS323 := HS298.out _ D322.out
 refine hK _ _ hS323 ?_
 clear hK K hS316
 refine tkq 17 (bm 47 262143) hS323 ?_
 refine tkq 18 (bm 47 524287) hS323 ?_
 refine tkq 19 (bm 47 1048575) hS323 ?_
 refine tkq 20 (bm 47 2097151) hS323 ?_
 refine tkq 21 (bm 47 4194303) hS323 ?_
 refine tkq 22 (bm 47 8388607) hS323 ?_
 refine tkq 23 (bm 47 16777215) hS323 ?_
 refine tkL 24 (bm 47 33554431) ?aq331 rfl (by kernel_rfl) (fun _ _ _ h => h) (by kernel_rfl) rfl rfl (fun _ hS => hS.2.1) (by rw [info_V3]; rfl) Tryz.underlying26 rfl ?pq331 hS323 ?rq331
 case pq331 => (go_simp; try with_reducible rfl)
 refine tkL 26 (bm 47 100663295) ?aq332 rfl (by kernel_rfl) (fun _ _ _ h => h) (by kernel_rfl) rfl rfl (fun _ hS => hS.2.1) (by rw [info_V3]; rfl) Tryz.underlying26 rfl ?pq332 hS323 ?rq332
 case pq332 => (go_simp; try with_reducible rfl)
 refine wpAnyH_oneN (i := 25) (l' := bm 47 134217727) rfl (by kernel_rfl) (by kernel_rfl) (by kernel_rfl) (fun K hK => ?_)
 go_simp
 go_at_call 28
 refine (C12.out _).mono ?_
 rintro r w333 ⟨rfl, hb⟩
 dsimp only
 have D334 := ds D322 hb
 clear D322
 clear hb
 have hS335 := HS298.out _ D334.out
 refine hK _ _ hS335 ?_
 clear hK K hS323
 refine wpAnyH_oneN (i := 27) (l' := bm 47 268435455) rfl (by kernel_rfl) (by kernel_rfl) (by kernel_rfl) (fun K hK => ?_)
 go_simp
 go_at_call 29
 refine (C13.out _).mono ?_
 rintro r w336 ⟨rfl, hb⟩
 dsimp only
 have D337 := ds D334 hb
 clear D334
 clear hb
 have hS338 := HS298.out _ D337.out
 refine hK _ _ hS338 ?_
 clear hK K hS335
 refine tkq 28 (bm 47 536870911) hS338 ?_
 refine tkq 29 (bm 47 1073741823) hS338 ?_
 refine tkq 30 (bm 47 2147483647) hS338 ?_
 refine tkL 31 (bm 47 4294967295) ?aq342 rfl (by kernel_rfl) (fun _ _ _ h => h) (by kernel_rfl) rfl rfl (fun _ hS => hS.2.1) (by rw [info_V3]; rfl) Tryz.underlying26 rfl ?pq342 hS338 ?rq342
 case pq342 => (go_simp; try with_reducible rfl)
 refine tkL 33 (bm 47 12884901887) ?aq343 rfl (by kernel_rfl) (fun _ _ _ h => h) (by kernel_rfl) rfl rfl (fun _ hS => hS.2.1) (by rw [info_V3]; rfl) Tryz.underlying26 rfl ?pq343 hS338 ?rq343
 case pq343 => (go_simp; try with_reducible rfl)
 refine wpAnyH_oneN (i := 32) (l' := bm 47 17179869183) rfl (by kernel_rfl) (by kernel_rfl) (by kernel_rfl) (fun K hK => ?_)
 go_simp
 go_at_call 30
 refine (C14.out _).mono ?_
 rintro r w344 ⟨rfl, hb⟩
 dsimp only
 have D345 := ds D337 hb
 clear D337
 clear hb
 have hS346 := HS298.out _ D345.out
 refine hK _ _ hS346 ?_
 clear hK K hS338
 refine wpAnyH_oneN (i := 34) (l' := bm 47 34359738367) rfl (by kernel_rfl) (by kernel_rfl) (by kernel_rfl) (fun K hK => ?_)
 go_simp
 go_at_call 31
 refine (C15.out _).mono ?_
 rintro r w347 ⟨rfl, hb⟩
 dsimp only
 have D348 := ds D345 hb
 clear D345
 clear hb
 have hS349 := HS298.out _ D348.out
 refine hK _ _ hS349 ?_
 clear hK K hS346
 refine wpAnyH_oneN (i := 35) (l' := bm 47 68719476735) rfl (by kernel_rfl) (by kernel_rfl) (by kernel_rfl) (fun K hK => ?_)
 go_simp
 go_at_call 19
 refine (C16.out _).mono ?_
 rintro r w350 ⟨rfl, hb⟩
 dsimp only
 have D351 := ds D348 hb
 clear D348
 clear hb
 have hS352 := HS298.out _ D351.out
 refine hK _ _ hS352 ?_
 clear hK K hS349
 refine tkq 36 (bm 47 137438953471) hS352 ?_
 refine tkq 37 (bm 47 274877906943) hS352 ?_
 refine tkL 38 (bm 47 549755813887) ?aq355 rfl (by kernel_rfl) (fun _ _ _ h => h) (by kernel_rfl) rfl rfl (fun _ hS => hS.2.2.2.2.2.2.2.2.1) (by rw [info_Ray]; rfl) Tryz.underlying52 rfl ?pq355 hS352 ?rq355
 case pq355 => (go_simp; try with_reducible rfl)
 refine tke 39 (bm 47 1099511627775) hS352 ?_
 refine tkL 41 (bm 47 3298534883327) ?aq357 rfl (by kernel_rfl) (fun _ _ _ h => h) (by kernel_rfl) rfl rfl (fun _ hS => hS.2.2.2.2.2.2.2.2.1) (by rw [info_Ray]; rfl) Tryz.underlying52 rfl ?pq357 hS352 ?rq357
 case pq357 => (go_simp; try with_reducible rfl)
 refine tke 42 (bm 47 7696581394431) hS352 ?_
 refine wpAnyH_oneN (i := 40) (l' := bm 47 8796093022207) rfl (by kernel_rfl) (by kernel_rfl) (by kernel_rfl) (fun K hK => ?_)
 go_simp
 go_at_call 32
 refine (C17.out _).mono ?_
 rintro r w359 ⟨rfl, hb⟩
 dsimp only
 have D360 := ds D351 hb
 clear D351
 clear hb
 have hS361 := HS298.out _ D360.out
 refine hK _ _ hS361 ?_
 clear hK K hS352
 refine wpAnyH_oneN (i := 43) (l' := bm 47 17592186044415) rfl (by kernel_rfl) (by kernel_rfl) (by kernel_rfl) (fun K hK => ?_)
 go_simp
 go_at_call 33
 refine (C18.out _).mono ?_
 rintro r w362 ⟨rfl, hb⟩
 dsimp only
 have D363 := ds D360 hb
 clear D360
 clear hb
 have hS364 := HS298.out _ D363.out
 refine hK _ _ hS364 ?_
 clear hK K hS361
 refine wpAnyH_oneN (i := 44) (l' := bm 47 35184372088831) rfl (by kernel_rfl) (by kernel_rfl) (by kernel_rfl) (fun K hK => ?_)
 go_simp
 go_at_call 11
 refine (C19.out _).mono ?_
 rintro r w365 ⟨rfl, hb⟩
 dsimp only
 have D366 := ds D363 hb
 clear D363
 clear hb
 have hS367 := HS298.out _ D366.out
 refine hK _ _ hS367 ?_
 clear hK K hS364
 refine tkq 45 (bm 47 70368744177663) hS367 ?_
 refine tkq 46 (bm 47 140737488355327) hS367 ?_
 refine wpAnyH_done (by kernel_rfl) ?_ _
 clear hS367
 go_wp2_with fail
 go_ret
 exact ⟨rfl, below_step HB293.out D366.out⟩
theorem walk_vecStands (a0 a1 a2 a3 a4 a5 b0 b1 b2 b3 b4 b5 s0 s1 : Nat) (ha0 : a0 < 18446744073709551616) (ha1 : a1 < 18446744073709551616) (ha2 : a2 < 18446744073709551616) (ha3 : a3 < 18446744073709551616) (ha4 : a4 < 18446744073709551616) (ha5 : a5 < 18446744073709551616) (hb0 : b0 < 18446744073709551616) (hb1 : b1 < 18446744073709551616) (hb2 : b2 < 18446744073709551616) (hb3 : b3 < 18446744073709551616) (hb4 : b4 < 18446744073709551616) (hb5 : b5 < 18446744073709551616) (hs0 : s0 < 18446744073709551616) (hs1 : s1 < 18446744073709551616) (w : World) : Calls Tryz.prog 4 #[.agg #[.float .f64 a0, .float .f64 a1, .float .f64 a2, .float .f64 a3, .float .f64 a4, .float .f64 a5], .agg #[.float .f64 b0, .float .f64 b1, .float .f64 b2, .float .f64 b3, .float .f64 b4, .float .f64 b5], .agg #[.float .f64 s0, .float .f64 s1]] w fun r w' => r = .returned (.bool true) ∧ Below w.heap.size w w' := by
 cases v0 : vdV a0 a1 a2 a3 a4 a5
 · exact vecStands_n0 a0 a1 a2 a3 a4 a5 b0 b1 b2 b3 b4 b5 s0 s1 ha0 ha1 ha2 ha3 ha4 ha5 hb0 hb1 hb2 hb3 hb4 hb5 hs0 hs1 v0 w
 · cases v1 : vdV b0 b1 b2 b3 b4 b5
   · exact vecStands_n1 a0 a1 a2 a3 a4 a5 b0 b1 b2 b3 b4 b5 s0 s1 ha0 ha1 ha2 ha3 ha4 ha5 hb0 hb1 hb2 hb3 hb4 hb5 hs0 hs1 v0 v1 w
   · cases v2 : vdB s0 s1
     · exact vecStands_n2 a0 a1 a2 a3 a4 a5 b0 b1 b2 b3 b4 b5 s0 s1 ha0 ha1 ha2 ha3 ha4 ha5 hb0 hb1 hb2 hb3 hb4 hb5 hs0 hs1 v0 v1 v2 w
     · obtain ⟨A, rfl, rfl, rfl, rfl, rfl, rfl⟩ := v3_of ha0 ha1 ha2 ha3 ha4 ha5 v0
       obtain ⟨B, rfl, rfl, rfl, rfl, rfl, rfl⟩ := v3_of hb0 hb1 hb2 hb3 hb4 hb5 v1
       cases hw : A.wide
       · exact vecStands_z A B ⟨s0, s1, vdB_true hs0 hs1 v2⟩ hw _ rfl w
       · exact vecStands_y A B ⟨s0, s1, vdB_true hs0 hs1 v2⟩ hw _ rfl w
end Go.Proofs.YtnljfcebmgifdaaGreat
