/- The fixed facts of layer 3 (gen_te.py). -/
import Derived.Test.YtdgaaceebghcpaaZTb
import Derived.Test.YtdgaaceebghcpaaZTd
import Derived.Test.YtdgaaceebghcpaaZYe
set_option linter.unusedVariables false
set_option linter.unusedSimpArgs false
namespace Go.Proofs.Ytdgaaceebghcpaa
open Go.RowKit Fl

set_option maxRecDepth 100000 in
set_option maxHeartbeats 8000000 in
theorem awake3  (w : World) : Calls Try.prog 29 #[] w fun r w' => r = .returned (.bool true) ∧ Below w.heap.size w w' := by
  have C0 := Lib.hid (fun w => ofV_any 4607182418800017408 0 0 (by decide) (by decide) (by decide) w)
  obtain ⟨p0, hp0⟩ : ∃ z_, vOf 4607182418800017408 0 0 = z_ := ⟨_, rfl⟩
  rw [hp0] at C0
  have C1 := Lib.hid (fun w => ofV_any 0 4607182418800017408 0 (by decide) (by decide) (by decide) w)
  obtain ⟨p1, hp1⟩ : ∃ z_, vOf 0 4607182418800017408 0 = z_ := ⟨_, rfl⟩
  rw [hp1] at C1
  have C2 := Lib.hid (fun w => ofV_any 4613937818241073152 0 4616189618054758400 (by decide) (by decide) (by decide) w)
  obtain ⟨p2, hp2⟩ : ∃ z_, vOf 4613937818241073152 0 4616189618054758400 = z_ := ⟨_, rfl⟩
  rw [hp2] at C2
  have C3 := Lib.hid (fun w => unitV_any p2 w)
  have hl : vLen p2 = fiveS := by rw [← hp2]; exact len34
  rw [hl] at C3
  clear hl
  simp only [fiveS_lo, fiveS_hi] at C3
  obtain ⟨p3, hp3⟩ : ∃ z_, vUnit p2 = z_ := ⟨_, rfl⟩
  rw [hp3] at C3
  have C4 := Lib.hid (fun w => crossV_any p0 p1 w)
  have hl : vCross p0 p1 = vOf 0 0 4607182418800017408 := by rw [← hp0, ← hp1]; exact cross_xy
  rw [hl] at C4
  clear hl
  obtain ⟨p4, hp4⟩ : ∃ z_, vOf 0 0 4607182418800017408 = z_ := ⟨_, rfl⟩
  rw [hp4] at C4
  have C5 := Lib.hid (fun w => ofV_any 0 0 4607182418800017408 (by decide) (by decide) (by decide) w)
  rw [hp4] at C5
  have C6 := Lib.hid (fun w => dotV_any p0 p1 w)
  have hl : vDot p0 p1 = zeroS := by rw [← hp0, ← hp1]; exact dot_xy
  rw [hl] at C6
  clear hl
  simp only [zeroS_lo, zeroS_hi] at C6
  clear hp0 hp1 hp2 hp3 hp4
  have eq_0 := order_self p4.x.vd.l
  have eq_1 := order_self p4.x.vd.h
  have eq_2 := order_self p4.y.vd.l
  have eq_3 := order_self p4.y.vd.h
  have eq_4 := order_self p4.z.vd.l
  have eq_5 := order_self p4.z.vd.h
  have z00 := isZW00
  have eq00 := eq00
  have eq55 := eq55
  go_enter Try.func29, Try.ntmps29
  go_wp2_with fail
  obtain ⟨W, hW⟩ : ∃ W, W = w := ⟨_, rfl⟩
  rw [← hW]
  have HB := Lib.hid (hW ▸ Below.refl w.heap.size w : Below w.heap.size w W)
  clear hW
  have D1 := dr W
  refine (C0.out _).mono ?_
  rintro r w2 ⟨rfl, hb⟩
  have D3 := ds D1 hb
  clear D1
  clear hb
  go_wp2_with fail
  refine (C1.out _).mono ?_
  rintro r w4 ⟨rfl, hb⟩
  have D5 := ds D3 hb
  clear D3
  clear hb
  obtain ⟨g6, hg8⟩ : ∃ g, w4.heap.size = g := ⟨_, rfl⟩
  have Y10 := Lib.hid (show w.heap.size ≤ g6 by rw [← hg8]; exact (below_step HB.out D5.out).size)
  obtain ⟨V7, hV9⟩ : ∃ V, w4.alloc (.cells #[.float .f64 0, .float .f64 0, .float .f64 0, .float .f64 0, .float .f64 0, .float .f64 0] 26) = V := ⟨_, rfl⟩
  have K11 := kn hV9 hg8
  have HB12 := hba hV9 HB D5
  have D13 := dr V7
  clear  HB D5
  obtain ⟨g14, hg16⟩ : ∃ g, V7.heap.size = g := ⟨_, rfl⟩
  have Y18 := Lib.hid (show g6 < g14 by rw [← hg16]; exact (kb K11 D13).lt)
  obtain ⟨V15, hV17⟩ : ∃ V, V7.alloc (.cells #[.float .f64 0, .float .f64 0, .float .f64 0, .float .f64 0, .float .f64 0, .float .f64 0] 26) = V := ⟨_, rfl⟩
  have K19 := ka hV17 K11 D13
  have K20 := kn hV17 hg16
  have HB21 := hba hV17 HB12 D13
  have D22 := dr V15
  clear K11 HB12 D13
  have Y23 := Lib.hid (And.intro Y10.out Y18.out)
  clear Y10 Y18
  have f26 := (kb K19 D22)
  obtain ⟨V24, hV25⟩ : ∃ V, World.setRow V15 (g6) (vc p0) = V := ⟨_, rfl⟩
  have K27 := ksr hV25 K19 D22
  have K28 := kfr hV25 K20 D22 (by have := Y23.out; omega)
  have HB29 := hbr hV25 HB21 D22 (by have := Y23.out; omega)
  have D30 := dr V24
  clear K19 K20 HB21 D22
  have f33 := (kb K28 D30)
  obtain ⟨V31, hV32⟩ : ∃ V, World.setRow V24 (g14) (vc p1) = V := ⟨_, rfl⟩
  have K34 := kfr hV32 K27 D30 (by have := Y23.out; omega)
  have K35 := ksr hV32 K28 D30
  have HB36 := hbr hV32 HB29 D30 (by have := Y23.out; omega)
  have D37 := dr V31
  clear K27 K28 HB29 D30
  go_wp2_with (first | (refine wpList_store_row rfl 26 _ _ rfl (g6) (vc p0) rfl rfl _ _ f26 (by rw [info_V3]; rfl) rfl (by kernel_rfl) ?_; rw [hV25]) | (refine wpList_store_row rfl 26 _ _ rfl (g14) (vc p1) rfl rfl _ _ f33 (by rw [info_V3]; rfl) rfl (by kernel_rfl) ?_; rw [hV32]))
  clear hg8 hV9 hg16 hV17 hV25 f26 hV32 f33
  refine (C2.out _).mono ?_
  rintro r w38 ⟨rfl, hb⟩
  have D39 := ds D37 hb
  clear D37
  clear hb
  go_wp2_with fail
  refine (C3.out _).mono ?_
  rintro r w40 ⟨rfl, hb⟩
  have D41 := ds D39 hb
  clear D39
  clear hb
  obtain ⟨g42, hg44⟩ : ∃ g, w40.heap.size = g := ⟨_, rfl⟩
  have Y46 := Lib.hid (show g14 < g42 by rw [← hg44]; exact (kb K35 D41).lt)
  obtain ⟨V43, hV45⟩ : ∃ V, w40.alloc (.cells #[.float .f64 0, .float .f64 0, .float .f64 0, .float .f64 0, .float .f64 0, .float .f64 0] 26) = V := ⟨_, rfl⟩
  have K47 := ka hV45 K34 D41
  have K48 := ka hV45 K35 D41
  have K49 := kn hV45 hg44
  have HB50 := hba hV45 HB36 D41
  have D51 := dr V43
  clear K34 K35 HB36 D41
  have Y52 := Lib.hid (And.intro Y23.out Y46.out)
  clear Y23 Y46
  obtain ⟨g53, hg55⟩ : ∃ g, V43.heap.size = g := ⟨_, rfl⟩
  have Y57 := Lib.hid (show g42 < g53 by rw [← hg55]; exact (kb K49 D51).lt)
  obtain ⟨V54, hV56⟩ : ∃ V, V43.alloc (.cells #[.float .f64 0, .float .f64 0] 24) = V := ⟨_, rfl⟩
  have K58 := ka hV56 K47 D51
  have K59 := ka hV56 K48 D51
  have K60 := ka hV56 K49 D51
  have K61 := kn hV56 hg55
  have HB62 := hba hV56 HB50 D51
  have D63 := dr V54
  clear K47 K48 K49 HB50 D51
  have Y64 := Lib.hid (And.intro Y52.out Y57.out)
  clear Y52 Y57
  have f67 := (kb K60 D63)
  obtain ⟨V65, hV66⟩ : ∃ V, World.setRow V54 (g42) (vc p3) = V := ⟨_, rfl⟩
  have K68 := kfr hV66 K58 D63 (by have := Y64.out; omega)
  have K69 := kfr hV66 K59 D63 (by have := Y64.out; omega)
  have K70 := ksr hV66 K60 D63
  have K71 := kfr hV66 K61 D63 (by have := Y64.out; omega)
  have HB72 := hbr hV66 HB62 D63 (by have := Y64.out; omega)
  have D73 := dr V65
  clear K58 K59 K60 K61 HB62 D63
  have f76 := (kb K71 D73).cellsL 0 [.float .f64 0, .float .f64 0] rfl
  dsimp only [CellsL, al, vl, Nat.reduceAdd] at f76
  have u77 := (kb K71 D73).unfrozen
  obtain ⟨V74, hV75⟩ : ∃ V, setCells V65 (g53) 0 [.float .f64 4617315517961601024, .float .f64 4617315517961601024] = V := ⟨_, rfl⟩
  have hv78 := hV75
  simp only [setCells, Nat.reduceAdd] at hv78
  have K79 := kf hV75 K68 D73 (by have := Y64.out; omega)
  have K80 := kf hV75 K69 D73 (by have := Y64.out; omega)
  have K81 := kf hV75 K70 D73 (by have := Y64.out; omega)
  have K82 := Lib.hid (show Blk V74 (g53) 24 #[.float .f64 4617315517961601024, .float .f64 4617315517961601024] from (ks hV75 K71 D73).out)
  have HB83 := hbs hV75 HB72 D73 (by have := Y64.out; omega)
  have D84 := dr V74
  clear K68 K69 K70 K71 HB72 D73
  have f85 := (kb K79 D84)
  have f86 := (kb K80 D84)
  go_wp2_with (first | (refine wpList_store_row rfl 26 _ _ rfl (g42) (vc p3) rfl rfl _ _ f67 (by rw [info_V3]; rfl) rfl (by kernel_rfl) ?_; rw [hV66]) | (refine wl_load (by kernel_rfl) rfl rfl f85 (by rw [info_V3]; rfl) Try.underlying26 rfl ?_) | (refine wl_load (by kernel_rfl) rfl rfl f86 (by rw [info_V3]; rfl) Try.underlying26 rfl ?_))
  clear hg44 hV45 hg55 hV56 hV66 f67 hV75 f76 u77 hv78 f85 f86
  refine (C4.out _).mono ?_
  rintro r w87 ⟨rfl, hb⟩
  have D88 := ds D84 hb
  clear D84
  clear hb
  go_wp2_with fail
  refine (C5.out _).mono ?_
  rintro r w89 ⟨rfl, hb⟩
  have D90 := ds D88 hb
  clear D88
  clear hb
  have f91 := (kb K79 D90)
  have f92 := (kb K80 D90)
  go_wp2_with (first | (refine wl_load (by kernel_rfl) rfl rfl f91 (by rw [info_V3]; rfl) Try.underlying26 rfl ?_) | (refine wl_load (by kernel_rfl) rfl rfl f92 (by rw [info_V3]; rfl) Try.underlying26 rfl ?_))
  clear f91 f92
  refine (C6.out _).mono ?_
  rintro r w93 ⟨rfl, hb⟩
  have D94 := ds D90 hb
  clear D90
  clear hb
  have hq95 := (kb K82 D94).cellsL 0 [.float .f64 4617315517961601024, .float .f64 4617315517961601024] rfl
  dsimp only [CellsL, al, vl, Nat.reduceAdd] at hq95
  go_wp2_with fail
  clear hq95
  go_ret
  exact ⟨rfl, below_step HB83.out D94.out⟩
end Go.Proofs.Ytdgaaceebghcpaa
