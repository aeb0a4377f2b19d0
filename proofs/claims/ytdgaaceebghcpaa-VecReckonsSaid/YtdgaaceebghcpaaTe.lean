/- The fixed facts of layer 3 (gen_te.py). -/
import Derived.Test.YtdgaaceebghcpaaTd
set_option linter.unusedVariables false
set_option linter.unusedSimpArgs false
namespace Go.Proofs.Ytdgaaceebghcpaa
open Go.RowKit Fl

set_option maxRecDepth 100000 in
set_option maxHeartbeats 8000000 in
theorem awake3  (w : World) : Calls Try.prog 29 #[] w fun r w' => r = .returned (.bool true) ∧ Below w.heap.size w w' := by
  have C0 := Lib.hid (fun w => ofV_any 4607182418800017408 0 0 (by decide) (by decide) (by decide) w)
  obtain ⟨p0, hp0⟩ : ∃ p, vOf 4607182418800017408 0 0 = p := ⟨_, rfl⟩
  rw [hp0] at C0
  have C1 := Lib.hid (fun w => ofV_any 0 4607182418800017408 0 (by decide) (by decide) (by decide) w)
  obtain ⟨p1, hp1⟩ : ∃ p, vOf 0 4607182418800017408 0 = p := ⟨_, rfl⟩
  rw [hp1] at C1
  have C2 := Lib.hid (fun w => ofV_any 4613937818241073152 0 4616189618054758400 (by decide) (by decide) (by decide) w)
  obtain ⟨p2, hp2⟩ : ∃ p, vOf 4613937818241073152 0 4616189618054758400 = p := ⟨_, rfl⟩
  rw [hp2] at C2
  have C3 := Lib.hid (fun w => unitV_any p2 w)
  have hl : vLen p2 = fiveS := by rw [← hp2]; exact len34
  rw [hl] at C3
  clear hl
  simp only [fiveS_lo, fiveS_hi] at C3
  obtain ⟨p3, hp3⟩ : ∃ p, vUnit p2 = p := ⟨_, rfl⟩
  rw [hp3] at C3
  have C4 := Lib.hid (fun w => crossV_any p0 p1 w)
  have hl : vCross p0 p1 = vOf 0 0 4607182418800017408 := by rw [← hp0, ← hp1]; exact cross_xy
  rw [hl] at C4
  clear hl
  obtain ⟨p4, hp4⟩ : ∃ p, vOf 0 0 4607182418800017408 = p := ⟨_, rfl⟩
  rw [hp4] at C4
  have C5 := Lib.hid (fun w => ofV_any 0 0 4607182418800017408 (by decide) (by decide) (by decide) w)
  rw [hp4] at C5
  have C6 := Lib.hid (fun w => dotV_any p0 p1 w)
  have hl : vDot p0 p1 = zeroS := by rw [← hp0, ← hp1]; exact dot_xy
  rw [hl] at C6
  clear hl
  simp only [zeroS_lo, zeroS_hi] at C6
  clear hp0 hp1 hp2 hp3 hp4
  have eq_0 := order_self p4.x.vd.l
  have eq_1 := order_self p4.x.vd.h
  have eq_2 := order_self p4.y.vd.l
  have eq_3 := order_self p4.y.vd.h
  have eq_4 := order_self p4.z.vd.l
  have eq_5 := order_self p4.z.vd.h
  have z00 := isZW00
  have eq00 := eq00
  have eq55 := eq55
  go_enter Try.func29, Try.ntmps29
  go_wp2_with fail
  obtain ⟨W, hW⟩ : ∃ W, W = w := ⟨_, rfl⟩
  rw [← hW]
  have HB := Lib.hid (hW ▸ Below.refl w.heap.size w : Below w.heap.size w W)
  clear hW
  have D1 := Lib.hid (Below.refl W.heap.size W)
  refine (C0.out _).mono ?_
  rintro r w2 ⟨rfl, hb⟩
  have D3 := Lib.hid (below_step D1.out hb)
  clear D1
  clear hb
  go_wp2_with fail
  refine (C1.out _).mono ?_
  rintro r w4 ⟨rfl, hb⟩
  have D5 := Lib.hid (below_step D3.out hb)
  clear D3
  clear hb
  obtain ⟨g6, hg8⟩ : ∃ g, w4.heap.size = g := ⟨_, rfl⟩
  have Y10 := Lib.hid (show w.heap.size ≤ g6 by rw [← hg8]; exact (below_step HB.out D5.out).size)
  obtain ⟨V7, hV9⟩ : ∃ V, w4.alloc (.cells #[.float .f64 0, .float .f64 0, .float .f64 0, .float .f64 0, .float .f64 0, .float .f64 0] 26) = V := ⟨_, rfl⟩
  have K11 := Lib.hid (by rw [← hV9, ← hg8]; exact Blk.new_at _ _ _ rfl : Blk V7 (g6) 26 #[.float .f64 0, .float .f64 0, .float .f64 0, .float .f64 0, .float .f64 0, .float .f64 0])
  have HB12 := Lib.hid (hV9 ▸ below_more (below_step HB.out D5.out) _ : Below w.heap.size w V7)
  have D13 := Lib.hid (Below.refl V7.heap.size V7)
  clear  HB D5
  obtain ⟨g14, hg16⟩ : ∃ g, V7.heap.size = g := ⟨_, rfl⟩
  have Y18 := Lib.hid (show g6 < g14 by rw [← hg16]; exact (K11.out.below D13.out K11.out.lt).lt)
  obtain ⟨V15, hV17⟩ : ∃ V, V7.alloc (.cells #[.float .f64 0, .float .f64 0, .float .f64 0, .float .f64 0, .float .f64 0, .float .f64 0] 26) = V := ⟨_, rfl⟩
  have K19 := Lib.hid (hV17 ▸ Blk.alloc (K11.out.below D13.out K11.out.lt) _ : Blk V15 (g6) 26 #[.float .f64 0, .float .f64 0, .float .f64 0, .float .f64 0, .float .f64 0, .float .f64 0])
  have K20 := Lib.hid (by rw [← hV17, ← hg16]; exact Blk.new_at _ _ _ rfl : Blk V15 (g14) 26 #[.float .f64 0, .float .f64 0, .float .f64 0, .float .f64 0, .float .f64 0, .float .f64 0])
  have HB21 := Lib.hid (hV17 ▸ below_more (below_step HB12.out D13.out) _ : Below w.heap.size w V15)
  have D22 := Lib.hid (Below.refl V15.heap.size V15)
  clear K11 HB12 D13
  have Y23 := Lib.hid (And.intro Y10.out Y18.out)
  clear Y10 Y18
  have f26 := (K19.out.below D22.out K19.out.lt).cells 0 6 (Nat.le_of_ble_eq_true rfl)
  have u27 := (K19.out.below D22.out K19.out.lt).unfrozen
  simp only [CellsAt, ac, vc, Nat.reduceAdd, List.size_toArray, List.getElem?_toArray, List.getElem?_cons_succ, List.getElem?_cons_zero] at f26
  obtain ⟨V24, hV25⟩ : ∃ V, setCells V15 (g6) 0 [.float .f64 p0.x.lo, .float .f64 p0.x.hi, .float .f64 p0.y.lo, .float .f64 p0.y.hi, .float .f64 p0.z.lo, .float .f64 p0.z.hi] = V := ⟨_, rfl⟩
  have hv28 := hV25
  simp only [setCells, Nat.reduceAdd] at hv28
  have K29 := Lib.hid (hV25 ▸ (Blk.setL (K19.out.below D22.out K19.out.lt) 0 _) : Blk V24 (g6) 26 (vc p0))
  have K30 := Lib.hid (hV25 ▸ (Blk.farL (K20.out.below D22.out K20.out.lt) (by show g14 ≠ g6; have := Y23.out; omega) _ _) : Blk V24 (g14) 26 #[.float .f64 0, .float .f64 0, .float .f64 0, .float .f64 0, .float .f64 0, .float .f64 0])
  have HB31 := Lib.hid (hV25 ▸ (Below.setL (below_step HB21.out D22.out) (by show w.heap.size ≤ g6; have := Y23.out; omega) _ _) : Below w.heap.size w V24)
  have D32 := Lib.hid (Below.refl V24.heap.size V24)
  clear K19 K20 HB21 D22
  have f35 := (K30.out.below D32.out K30.out.lt).cells 0 6 (Nat.le_of_ble_eq_true rfl)
  have u36 := (K30.out.below D32.out K30.out.lt).unfrozen
  simp only [CellsAt, ac, vc, Nat.reduceAdd, List.size_toArray, List.getElem?_toArray, List.getElem?_cons_succ, List.getElem?_cons_zero] at f35
  obtain ⟨V33, hV34⟩ : ∃ V, setCells V24 (g14) 0 [.float .f64 p1.x.lo, .float .f64 p1.x.hi, .float .f64 p1.y.lo, .float .f64 p1.y.hi, .float .f64 p1.z.lo, .float .f64 p1.z.hi] = V := ⟨_, rfl⟩
  have hv37 := hV34
  simp only [setCells, Nat.reduceAdd] at hv37
  have K38 := Lib.hid (hV34 ▸ (Blk.farL (K29.out.below D32.out K29.out.lt) (by show g6 ≠ g14; have := Y23.out; omega) _ _) : Blk V33 (g6) 26 (vc p0))
  have K39 := Lib.hid (hV34 ▸ (Blk.setL (K30.out.below D32.out K30.out.lt) 0 _) : Blk V33 (g14) 26 (vc p1))
  have HB40 := Lib.hid (hV34 ▸ (Below.setL (below_step HB31.out D32.out) (by show w.heap.size ≤ g14; have := Y23.out; omega) _ _) : Below w.heap.size w V33)
  have D41 := Lib.hid (Below.refl V33.heap.size V33)
  clear K29 K30 HB31 D32
  go_wp2_with fail
  clear hg8 hV9 hg16 hV17 hV25 f26 u27 hv28 hV34 f35 u36 hv37
  refine (C2.out _).mono ?_
  rintro r w42 ⟨rfl, hb⟩
  have D43 := Lib.hid (below_step D41.out hb)
  clear D41
  clear hb
  go_wp2_with fail
  refine (C3.out _).mono ?_
  rintro r w44 ⟨rfl, hb⟩
  have D45 := Lib.hid (below_step D43.out hb)
  clear D43
  clear hb
  obtain ⟨g46, hg48⟩ : ∃ g, w44.heap.size = g := ⟨_, rfl⟩
  have Y50 := Lib.hid (show g14 < g46 by rw [← hg48]; exact (K39.out.below D45.out K39.out.lt).lt)
  obtain ⟨V47, hV49⟩ : ∃ V, w44.alloc (.cells #[.float .f64 0, .float .f64 0, .float .f64 0, .float .f64 0, .float .f64 0, .float .f64 0] 26) = V := ⟨_, rfl⟩
  have K51 := Lib.hid (hV49 ▸ Blk.alloc (K38.out.below D45.out K38.out.lt) _ : Blk V47 (g6) 26 (vc p0))
  have K52 := Lib.hid (hV49 ▸ Blk.alloc (K39.out.below D45.out K39.out.lt) _ : Blk V47 (g14) 26 (vc p1))
  have K53 := Lib.hid (by rw [← hV49, ← hg48]; exact Blk.new_at _ _ _ rfl : Blk V47 (g46) 26 #[.float .f64 0, .float .f64 0, .float .f64 0, .float .f64 0, .float .f64 0, .float .f64 0])
  have HB54 := Lib.hid (hV49 ▸ below_more (below_step HB40.out D45.out) _ : Below w.heap.size w V47)
  have D55 := Lib.hid (Below.refl V47.heap.size V47)
  clear K38 K39 HB40 D45
  have Y56 := Lib.hid (And.intro Y23.out Y50.out)
  clear Y23 Y50
  obtain ⟨g57, hg59⟩ : ∃ g, V47.heap.size = g := ⟨_, rfl⟩
  have Y61 := Lib.hid (show g46 < g57 by rw [← hg59]; exact (K53.out.below D55.out K53.out.lt).lt)
  obtain ⟨V58, hV60⟩ : ∃ V, V47.alloc (.cells #[.float .f64 0, .float .f64 0] 24) = V := ⟨_, rfl⟩
  have K62 := Lib.hid (hV60 ▸ Blk.alloc (K51.out.below D55.out K51.out.lt) _ : Blk V58 (g6) 26 (vc p0))
  have K63 := Lib.hid (hV60 ▸ Blk.alloc (K52.out.below D55.out K52.out.lt) _ : Blk V58 (g14) 26 (vc p1))
  have K64 := Lib.hid (hV60 ▸ Blk.alloc (K53.out.below D55.out K53.out.lt) _ : Blk V58 (g46) 26 #[.float .f64 0, .float .f64 0, .float .f64 0, .float .f64 0, .float .f64 0, .float .f64 0])
  have K65 := Lib.hid (by rw [← hV60, ← hg59]; exact Blk.new_at _ _ _ rfl : Blk V58 (g57) 24 #[.float .f64 0, .float .f64 0])
  have HB66 := Lib.hid (hV60 ▸ below_more (below_step HB54.out D55.out) _ : Below w.heap.size w V58)
  have D67 := Lib.hid (Below.refl V58.heap.size V58)
  clear K51 K52 K53 HB54 D55
  have Y68 := Lib.hid (And.intro Y56.out Y61.out)
  clear Y56 Y61
  have f71 := (K64.out.below D67.out K64.out.lt).cells 0 6 (Nat.le_of_ble_eq_true rfl)
  have u72 := (K64.out.below D67.out K64.out.lt).unfrozen
  simp only [CellsAt, ac, vc, Nat.reduceAdd, List.size_toArray, List.getElem?_toArray, List.getElem?_cons_succ, List.getElem?_cons_zero] at f71
  obtain ⟨V69, hV70⟩ : ∃ V, setCells V58 (g46) 0 [.float .f64 p3.x.lo, .float .f64 p3.x.hi, .float .f64 p3.y.lo, .float .f64 p3.y.hi, .float .f64 p3.z.lo, .float .f64 p3.z.hi] = V := ⟨_, rfl⟩
  have hv73 := hV70
  simp only [setCells, Nat.reduceAdd] at hv73
  have K74 := Lib.hid (hV70 ▸ (Blk.farL (K62.out.below D67.out K62.out.lt) (by show g6 ≠ g46; have := Y68.out; omega) _ _) : Blk V69 (g6) 26 (vc p0))
  have K75 := Lib.hid (hV70 ▸ (Blk.farL (K63.out.below D67.out K63.out.lt) (by show g14 ≠ g46; have := Y68.out; omega) _ _) : Blk V69 (g14) 26 (vc p1))
  have K76 := Lib.hid (hV70 ▸ (Blk.setL (K64.out.below D67.out K64.out.lt) 0 _) : Blk V69 (g46) 26 (vc p3))
  have K77 := Lib.hid (hV70 ▸ (Blk.farL (K65.out.below D67.out K65.out.lt) (by show g57 ≠ g46; have := Y68.out; omega) _ _) : Blk V69 (g57) 24 #[.float .f64 0, .float .f64 0])
  have HB78 := Lib.hid (hV70 ▸ (Below.setL (below_step HB66.out D67.out) (by show w.heap.size ≤ g46; have := Y68.out; omega) _ _) : Below w.heap.size w V69)
  have D79 := Lib.hid (Below.refl V69.heap.size V69)
  clear K62 K63 K64 K65 HB66 D67
  have f82 := (K77.out.below D79.out K77.out.lt).cell 0
  have u83 := (K77.out.below D79.out K77.out.lt).unfrozen 0
  have f84 := (K77.out.below D79.out K77.out.lt).cell 1
  have u85 := (K77.out.below D79.out K77.out.lt).unfrozen 1
  obtain ⟨V80, hV81⟩ : ∃ V, setCells V69 (g57) 0 [.float .f64 4617315517961601024, .float .f64 4617315517961601024] = V := ⟨_, rfl⟩
  have hv86 := hV81
  simp only [setCells, Nat.reduceAdd] at hv86
  have K87 := Lib.hid (hV81 ▸ (Blk.farL (K74.out.below D79.out K74.out.lt) (by show g6 ≠ g57; have := Y68.out; omega) _ _) : Blk V80 (g6) 26 (vc p0))
  have K88 := Lib.hid (hV81 ▸ (Blk.farL (K75.out.below D79.out K75.out.lt) (by show g14 ≠ g57; have := Y68.out; omega) _ _) : Blk V80 (g14) 26 (vc p1))
  have K89 := Lib.hid (hV81 ▸ (Blk.farL (K76.out.below D79.out K76.out.lt) (by show g46 ≠ g57; have := Y68.out; omega) _ _) : Blk V80 (g46) 26 (vc p3))
  have K90 := Lib.hid (hV81 ▸ (Blk.setL (K77.out.below D79.out K77.out.lt) 0 _) : Blk V80 (g57) 24 #[.float .f64 4617315517961601024, .float .f64 4617315517961601024])
  have HB91 := Lib.hid (hV81 ▸ (Below.setL (below_step HB78.out D79.out) (by show w.heap.size ≤ g57; have := Y68.out; omega) _ _) : Below w.heap.size w V80)
  have D92 := Lib.hid (Below.refl V80.heap.size V80)
  clear K74 K75 K76 K77 HB78 D79
  have hq93 := (K87.out.below D92.out K87.out.lt).cells 0 6 (Nat.le_of_ble_eq_true rfl)
  simp only [CellsAt, ac, vc, Nat.reduceAdd, List.size_toArray, List.getElem?_toArray, List.getElem?_cons_succ, List.getElem?_cons_zero] at hq93
  have hq94 := (K88.out.below D92.out K88.out.lt).cells 0 6 (Nat.le_of_ble_eq_true rfl)
  simp only [CellsAt, ac, vc, Nat.reduceAdd, List.size_toArray, List.getElem?_toArray, List.getElem?_cons_succ, List.getElem?_cons_zero] at hq94
  go_wp2_with fail
  clear hg48 hV49 hg59 hV60 hV70 f71 u72 hv73 hV81 f82 u83 f84 u85 hv86 hq93 hq94
  refine (C4.out _).mono ?_
  rintro r w95 ⟨rfl, hb⟩
  have D96 := Lib.hid (below_step D92.out hb)
  clear D92
  clear hb
  go_wp2_with fail
  refine (C5.out _).mono ?_
  rintro r w97 ⟨rfl, hb⟩
  have D98 := Lib.hid (below_step D96.out hb)
  clear D96
  clear hb
  have hq99 := (K87.out.below D98.out K87.out.lt).cells 0 6 (Nat.le_of_ble_eq_true rfl)
  simp only [CellsAt, ac, vc, Nat.reduceAdd, List.size_toArray, List.getElem?_toArray, List.getElem?_cons_succ, List.getElem?_cons_zero] at hq99
  have hq100 := (K88.out.below D98.out K88.out.lt).cells 0 6 (Nat.le_of_ble_eq_true rfl)
  simp only [CellsAt, ac, vc, Nat.reduceAdd, List.size_toArray, List.getElem?_toArray, List.getElem?_cons_succ, List.getElem?_cons_zero] at hq100
  go_wp2_with fail
  clear hq99 hq100
  refine (C6.out _).mono ?_
  rintro r w101 ⟨rfl, hb⟩
  have D102 := Lib.hid (below_step D98.out hb)
  clear D98
  clear hb
  have hq103 := (K90.out.below D102.out K90.out.lt).cells 0 2 (Nat.le_of_ble_eq_true rfl)
  simp only [CellsAt, ac, vc, Nat.reduceAdd, List.size_toArray, List.getElem?_toArray, List.getElem?_cons_succ, List.getElem?_cons_zero] at hq103
  go_wp2_with fail
  clear hq103
  go_ret
  exact ⟨rfl, below_step HB91.out D102.out⟩
end Go.Proofs.Ytdgaaceebghcpaa
