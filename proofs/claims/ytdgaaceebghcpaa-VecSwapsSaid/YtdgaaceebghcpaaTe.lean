/- The fixed facts of layer 3 (gen_te.py). -/
import Derived.Test.YtdgaaceebghcpaaTd
set_option linter.unusedVariables false
set_option linter.unusedSimpArgs false
namespace Go.Proofs.Ytdgaaceebghcpaa
open Go.RowKit Fl

set_option maxRecDepth 100000 in
set_option maxHeartbeats 8000000 in
theorem awake3  (w : World) : Calls Try.prog 29 #[] w fun r w' => r = .returned (.bool true) ∧ Below w.heap.size w w' := by
  have C0 := Lib.hid (fun w => ofV_any 4607182418800017408 0 0 (by decide) (by decide) (by decide) w)
  obtain ⟨p0, hp0⟩ : ∃ p, vOf 4607182418800017408 0 0 = p := ⟨_, rfl⟩
  rw [hp0] at C0
  have C1 := Lib.hid (fun w => ofV_any 0 4607182418800017408 0 (by decide) (by decide) (by decide) w)
  obtain ⟨p1, hp1⟩ : ∃ p, vOf 0 4607182418800017408 0 = p := ⟨_, rfl⟩
  rw [hp1] at C1
  have C2 := Lib.hid (fun w => ofV_any 4613937818241073152 0 4616189618054758400 (by decide) (by decide) (by decide) w)
  obtain ⟨p2, hp2⟩ : ∃ p, vOf 4613937818241073152 0 4616189618054758400 = p := ⟨_, rfl⟩
  rw [hp2] at C2
  have C3 := Lib.hid (fun w => unitV_any p2 w)
  have hl : vLen p2 = fiveS := by rw [← hp2]; exact len34
  rw [hl] at C3
  clear hl
  simp only [fiveS_lo, fiveS_hi] at C3
  obtain ⟨p3, hp3⟩ : ∃ p, vUnit p2 = p := ⟨_, rfl⟩
  rw [hp3] at C3
  have C4 := Lib.hid (fun w => crossV_any p0 p1 w)
  have hl : vCross p0 p1 = vOf 0 0 4607182418800017408 := by rw [← hp0, ← hp1]; exact cross_xy
  rw [hl] at C4
  clear hl
  obtain ⟨p4, hp4⟩ : ∃ p, vOf 0 0 4607182418800017408 = p := ⟨_, rfl⟩
  rw [hp4] at C4
  have C5 := Lib.hid (fun w => ofV_any 0 0 4607182418800017408 (by decide) (by decide) (by decide) w)
  rw [hp4] at C5
  have C6 := Lib.hid (fun w => dotV_any p0 p1 w)
  have hl : vDot p0 p1 = zeroS := by rw [← hp0, ← hp1]; exact dot_xy
  rw [hl] at C6
  clear hl
  simp only [zeroS_lo, zeroS_hi] at C6
  clear hp0 hp1 hp2 hp3 hp4
  have eq_0 := order_self p4.x.vd.l
  have eq_1 := order_self p4.x.vd.h
  have eq_2 := order_self p4.y.vd.l
  have eq_3 := order_self p4.y.vd.h
  have eq_4 := order_self p4.z.vd.l
  have eq_5 := order_self p4.z.vd.h
  have z00 := isZW00
  have eq00 := eq00
  have eq55 := eq55
  go_enter Try.func29, Try.ntmps29
  go_wp2_with fail
  obtain ⟨W, hW⟩ : ∃ W, W = w := ⟨_, rfl⟩
  rw [← hW]
  have HB := Lib.hid (hW ▸ Below.refl w.heap.size w : Below w.heap.size w W)
  clear hW
  have D1 := Lib.hid (Below.refl W.heap.size W)
  refine (C0.out _).mono ?_
  rintro r w2 ⟨rfl, hb⟩
  have D3 := Lib.hid (below_step D1.out hb)
  clear D1
  clear hb
  go_wp2_with fail
  refine (C1.out _).mono ?_
  rintro r w4 ⟨rfl, hb⟩
  have D5 := Lib.hid (below_step D3.out hb)
  clear D3
  clear hb
  obtain ⟨g6, hg8⟩ : ∃ g, w4.heap.size = g := ⟨_, rfl⟩
  have Y10 := Lib.hid (show w.heap.size ≤ g6 by rw [← hg8]; exact (below_step HB.out D5.out).size)
  obtain ⟨V7, hV9⟩ : ∃ V, w4.alloc (.cells #[.float .f64 0, .float .f64 0, .float .f64 0, .float .f64 0, .float .f64 0, .float .f64 0] 26) = V := ⟨_, rfl⟩
  have K11 := Lib.hid (by rw [← hV9, ← hg8]; exact Blk.new_at _ _ _ rfl : Blk V7 (g6) 26 #[.float .f64 0, .float .f64 0, .float .f64 0, .float .f64 0, .float .f64 0, .float .f64 0])
  have HB12 := Lib.hid (hV9 ▸ below_more (below_step HB.out D5.out) _ : Below w.heap.size w V7)
  have D13 := Lib.hid (Below.refl V7.heap.size V7)
  clear  HB D5
  obtain ⟨g14, hg16⟩ : ∃ g, V7.heap.size = g := ⟨_, rfl⟩
  have Y18 := Lib.hid (show g6 < g14 by rw [← hg16]; exact (K11.out.below D13.out K11.out.lt).lt)
  obtain ⟨V15, hV17⟩ : ∃ V, V7.alloc (.cells #[.float .f64 0, .float .f64 0, .float .f64 0, .float .f64 0, .float .f64 0, .float .f64 0] 26) = V := ⟨_, rfl⟩
  have K19 := Lib.hid (hV17 ▸ Blk.alloc (K11.out.below D13.out K11.out.lt) _ : Blk V15 (g6) 26 #[.float .f64 0, .float .f64 0, .float .f64 0, .float .f64 0, .float .f64 0, .float .f64 0])
  have K20 := Lib.hid (by rw [← hV17, ← hg16]; exact Blk.new_at _ _ _ rfl : Blk V15 (g14) 26 #[.float .f64 0, .float .f64 0, .float .f64 0, .float .f64 0, .float .f64 0, .float .f64 0])
  have HB21 := Lib.hid (hV17 ▸ below_more (below_step HB12.out D13.out) _ : Below w.heap.size w V15)
  have D22 := Lib.hid (Below.refl V15.heap.size V15)
  clear K11 HB12 D13
  have f25 := (K19.out.below D22.out K19.out.lt).cell 0
  have u26 := (K19.out.below D22.out K19.out.lt).unfrozen 0
  have f27 := (K19.out.below D22.out K19.out.lt).cell 1
  have u28 := (K19.out.below D22.out K19.out.lt).unfrozen 1
  have f29 := (K19.out.below D22.out K19.out.lt).cell 2
  have u30 := (K19.out.below D22.out K19.out.lt).unfrozen 2
  have f31 := (K19.out.below D22.out K19.out.lt).cell 3
  have u32 := (K19.out.below D22.out K19.out.lt).unfrozen 3
  have f33 := (K19.out.below D22.out K19.out.lt).cell 4
  have u34 := (K19.out.below D22.out K19.out.lt).unfrozen 4
  have f35 := (K19.out.below D22.out K19.out.lt).cell 5
  have u36 := (K19.out.below D22.out K19.out.lt).unfrozen 5
  obtain ⟨V23, hV24⟩ : ∃ V, ((((((V15.setCell ⟨g6, 0, none⟩ (.float .f64 p0.x.lo)).setCell ⟨g6, 1, none⟩ (.float .f64 p0.x.hi)).setCell ⟨g6, 2, none⟩ (.float .f64 p0.y.lo)).setCell ⟨g6, 3, none⟩ (.float .f64 p0.y.hi)).setCell ⟨g6, 4, none⟩ (.float .f64 p0.z.lo)).setCell ⟨g6, 5, none⟩ (.float .f64 p0.z.hi)) = V := ⟨_, rfl⟩
  have K37 := Lib.hid (hV24 ▸ (Blk.set_ (Blk.set_ (Blk.set_ (Blk.set_ (Blk.set_ (Blk.set_ ((K19.out.below D22.out K19.out.lt)) 0 _) 1 _) 2 _) 3 _) 4 _) 5 _) : Blk V23 (g6) 26 (vc p0))
  have K38 := Lib.hid (hV24 ▸ (Blk.far (Blk.far (Blk.far (Blk.far (Blk.far (Blk.far ((K20.out.below D22.out K20.out.lt)) (p := ⟨g6, 0, none⟩) (by show g14 ≠ g6; have := Y10.out; have := Y18.out; omega) _) (p := ⟨g6, 1, none⟩) (by show g14 ≠ g6; have := Y10.out; have := Y18.out; omega) _) (p := ⟨g6, 2, none⟩) (by show g14 ≠ g6; have := Y10.out; have := Y18.out; omega) _) (p := ⟨g6, 3, none⟩) (by show g14 ≠ g6; have := Y10.out; have := Y18.out; omega) _) (p := ⟨g6, 4, none⟩) (by show g14 ≠ g6; have := Y10.out; have := Y18.out; omega) _) (p := ⟨g6, 5, none⟩) (by show g14 ≠ g6; have := Y10.out; have := Y18.out; omega) _) : Blk V23 (g14) 26 #[.float .f64 0, .float .f64 0, .float .f64 0, .float .f64 0, .float .f64 0, .float .f64 0])
  have HB39 := Lib.hid (hV24 ▸ (Below.setCell (Below.setCell (Below.setCell (Below.setCell (Below.setCell (Below.setCell (below_step HB21.out D22.out) (p := ⟨g6, 0, none⟩) (by show w.heap.size ≤ g6; have := Y10.out; have := Y18.out; omega) _) (p := ⟨g6, 1, none⟩) (by show w.heap.size ≤ g6; have := Y10.out; have := Y18.out; omega) _) (p := ⟨g6, 2, none⟩) (by show w.heap.size ≤ g6; have := Y10.out; have := Y18.out; omega) _) (p := ⟨g6, 3, none⟩) (by show w.heap.size ≤ g6; have := Y10.out; have := Y18.out; omega) _) (p := ⟨g6, 4, none⟩) (by show w.heap.size ≤ g6; have := Y10.out; have := Y18.out; omega) _) (p := ⟨g6, 5, none⟩) (by show w.heap.size ≤ g6; have := Y10.out; have := Y18.out; omega) _) : Below w.heap.size w V23)
  have D40 := Lib.hid (Below.refl V23.heap.size V23)
  clear K19 K20 HB21 D22
  have f43 := (K38.out.below D40.out K38.out.lt).cell 0
  have u44 := (K38.out.below D40.out K38.out.lt).unfrozen 0
  have f45 := (K38.out.below D40.out K38.out.lt).cell 1
  have u46 := (K38.out.below D40.out K38.out.lt).unfrozen 1
  have f47 := (K38.out.below D40.out K38.out.lt).cell 2
  have u48 := (K38.out.below D40.out K38.out.lt).unfrozen 2
  have f49 := (K38.out.below D40.out K38.out.lt).cell 3
  have u50 := (K38.out.below D40.out K38.out.lt).unfrozen 3
  have f51 := (K38.out.below D40.out K38.out.lt).cell 4
  have u52 := (K38.out.below D40.out K38.out.lt).unfrozen 4
  have f53 := (K38.out.below D40.out K38.out.lt).cell 5
  have u54 := (K38.out.below D40.out K38.out.lt).unfrozen 5
  obtain ⟨V41, hV42⟩ : ∃ V, ((((((V23.setCell ⟨g14, 0, none⟩ (.float .f64 p1.x.lo)).setCell ⟨g14, 1, none⟩ (.float .f64 p1.x.hi)).setCell ⟨g14, 2, none⟩ (.float .f64 p1.y.lo)).setCell ⟨g14, 3, none⟩ (.float .f64 p1.y.hi)).setCell ⟨g14, 4, none⟩ (.float .f64 p1.z.lo)).setCell ⟨g14, 5, none⟩ (.float .f64 p1.z.hi)) = V := ⟨_, rfl⟩
  have K55 := Lib.hid (hV42 ▸ (Blk.far (Blk.far (Blk.far (Blk.far (Blk.far (Blk.far ((K37.out.below D40.out K37.out.lt)) (p := ⟨g14, 0, none⟩) (by show g6 ≠ g14; have := Y10.out; have := Y18.out; omega) _) (p := ⟨g14, 1, none⟩) (by show g6 ≠ g14; have := Y10.out; have := Y18.out; omega) _) (p := ⟨g14, 2, none⟩) (by show g6 ≠ g14; have := Y10.out; have := Y18.out; omega) _) (p := ⟨g14, 3, none⟩) (by show g6 ≠ g14; have := Y10.out; have := Y18.out; omega) _) (p := ⟨g14, 4, none⟩) (by show g6 ≠ g14; have := Y10.out; have := Y18.out; omega) _) (p := ⟨g14, 5, none⟩) (by show g6 ≠ g14; have := Y10.out; have := Y18.out; omega) _) : Blk V41 (g6) 26 (vc p0))
  have K56 := Lib.hid (hV42 ▸ (Blk.set_ (Blk.set_ (Blk.set_ (Blk.set_ (Blk.set_ (Blk.set_ ((K38.out.below D40.out K38.out.lt)) 0 _) 1 _) 2 _) 3 _) 4 _) 5 _) : Blk V41 (g14) 26 (vc p1))
  have HB57 := Lib.hid (hV42 ▸ (Below.setCell (Below.setCell (Below.setCell (Below.setCell (Below.setCell (Below.setCell (below_step HB39.out D40.out) (p := ⟨g14, 0, none⟩) (by show w.heap.size ≤ g14; have := Y10.out; have := Y18.out; omega) _) (p := ⟨g14, 1, none⟩) (by show w.heap.size ≤ g14; have := Y10.out; have := Y18.out; omega) _) (p := ⟨g14, 2, none⟩) (by show w.heap.size ≤ g14; have := Y10.out; have := Y18.out; omega) _) (p := ⟨g14, 3, none⟩) (by show w.heap.size ≤ g14; have := Y10.out; have := Y18.out; omega) _) (p := ⟨g14, 4, none⟩) (by show w.heap.size ≤ g14; have := Y10.out; have := Y18.out; omega) _) (p := ⟨g14, 5, none⟩) (by show w.heap.size ≤ g14; have := Y10.out; have := Y18.out; omega) _) : Below w.heap.size w V41)
  have D58 := Lib.hid (Below.refl V41.heap.size V41)
  clear K37 K38 HB39 D40
  go_wp2_with fail
  clear hg8 hV9 hg16 hV17 hV24 f25 u26 f27 u28 f29 u30 f31 u32 f33 u34 f35 u36 hV42 f43 u44 f45 u46 f47 u48 f49 u50 f51 u52 f53 u54
  refine (C2.out _).mono ?_
  rintro r w59 ⟨rfl, hb⟩
  have D60 := Lib.hid (below_step D58.out hb)
  clear D58
  clear hb
  go_wp2_with fail
  refine (C3.out _).mono ?_
  rintro r w61 ⟨rfl, hb⟩
  have D62 := Lib.hid (below_step D60.out hb)
  clear D60
  clear hb
  obtain ⟨g63, hg65⟩ : ∃ g, w61.heap.size = g := ⟨_, rfl⟩
  have Y67 := Lib.hid (show g14 < g63 by rw [← hg65]; exact (K56.out.below D62.out K56.out.lt).lt)
  obtain ⟨V64, hV66⟩ : ∃ V, w61.alloc (.cells #[.float .f64 0, .float .f64 0, .float .f64 0, .float .f64 0, .float .f64 0, .float .f64 0] 26) = V := ⟨_, rfl⟩
  have K68 := Lib.hid (hV66 ▸ Blk.alloc (K55.out.below D62.out K55.out.lt) _ : Blk V64 (g6) 26 (vc p0))
  have K69 := Lib.hid (hV66 ▸ Blk.alloc (K56.out.below D62.out K56.out.lt) _ : Blk V64 (g14) 26 (vc p1))
  have K70 := Lib.hid (by rw [← hV66, ← hg65]; exact Blk.new_at _ _ _ rfl : Blk V64 (g63) 26 #[.float .f64 0, .float .f64 0, .float .f64 0, .float .f64 0, .float .f64 0, .float .f64 0])
  have HB71 := Lib.hid (hV66 ▸ below_more (below_step HB57.out D62.out) _ : Below w.heap.size w V64)
  have D72 := Lib.hid (Below.refl V64.heap.size V64)
  clear K55 K56 HB57 D62
  obtain ⟨g73, hg75⟩ : ∃ g, V64.heap.size = g := ⟨_, rfl⟩
  have Y77 := Lib.hid (show g63 < g73 by rw [← hg75]; exact (K70.out.below D72.out K70.out.lt).lt)
  obtain ⟨V74, hV76⟩ : ∃ V, V64.alloc (.cells #[.float .f64 0, .float .f64 0] 24) = V := ⟨_, rfl⟩
  have K78 := Lib.hid (hV76 ▸ Blk.alloc (K68.out.below D72.out K68.out.lt) _ : Blk V74 (g6) 26 (vc p0))
  have K79 := Lib.hid (hV76 ▸ Blk.alloc (K69.out.below D72.out K69.out.lt) _ : Blk V74 (g14) 26 (vc p1))
  have K80 := Lib.hid (hV76 ▸ Blk.alloc (K70.out.below D72.out K70.out.lt) _ : Blk V74 (g63) 26 #[.float .f64 0, .float .f64 0, .float .f64 0, .float .f64 0, .float .f64 0, .float .f64 0])
  have K81 := Lib.hid (by rw [← hV76, ← hg75]; exact Blk.new_at _ _ _ rfl : Blk V74 (g73) 24 #[.float .f64 0, .float .f64 0])
  have HB82 := Lib.hid (hV76 ▸ below_more (below_step HB71.out D72.out) _ : Below w.heap.size w V74)
  have D83 := Lib.hid (Below.refl V74.heap.size V74)
  clear K68 K69 K70 HB71 D72
  have f86 := (K80.out.below D83.out K80.out.lt).cell 0
  have u87 := (K80.out.below D83.out K80.out.lt).unfrozen 0
  have f88 := (K80.out.below D83.out K80.out.lt).cell 1
  have u89 := (K80.out.below D83.out K80.out.lt).unfrozen 1
  have f90 := (K80.out.below D83.out K80.out.lt).cell 2
  have u91 := (K80.out.below D83.out K80.out.lt).unfrozen 2
  have f92 := (K80.out.below D83.out K80.out.lt).cell 3
  have u93 := (K80.out.below D83.out K80.out.lt).unfrozen 3
  have f94 := (K80.out.below D83.out K80.out.lt).cell 4
  have u95 := (K80.out.below D83.out K80.out.lt).unfrozen 4
  have f96 := (K80.out.below D83.out K80.out.lt).cell 5
  have u97 := (K80.out.below D83.out K80.out.lt).unfrozen 5
  obtain ⟨V84, hV85⟩ : ∃ V, ((((((V74.setCell ⟨g63, 0, none⟩ (.float .f64 p3.x.lo)).setCell ⟨g63, 1, none⟩ (.float .f64 p3.x.hi)).setCell ⟨g63, 2, none⟩ (.float .f64 p3.y.lo)).setCell ⟨g63, 3, none⟩ (.float .f64 p3.y.hi)).setCell ⟨g63, 4, none⟩ (.float .f64 p3.z.lo)).setCell ⟨g63, 5, none⟩ (.float .f64 p3.z.hi)) = V := ⟨_, rfl⟩
  have K98 := Lib.hid (hV85 ▸ (Blk.far (Blk.far (Blk.far (Blk.far (Blk.far (Blk.far ((K78.out.below D83.out K78.out.lt)) (p := ⟨g63, 0, none⟩) (by show g6 ≠ g63; have := Y10.out; have := Y18.out; have := Y67.out; have := Y77.out; omega) _) (p := ⟨g63, 1, none⟩) (by show g6 ≠ g63; have := Y10.out; have := Y18.out; have := Y67.out; have := Y77.out; omega) _) (p := ⟨g63, 2, none⟩) (by show g6 ≠ g63; have := Y10.out; have := Y18.out; have := Y67.out; have := Y77.out; omega) _) (p := ⟨g63, 3, none⟩) (by show g6 ≠ g63; have := Y10.out; have := Y18.out; have := Y67.out; have := Y77.out; omega) _) (p := ⟨g63, 4, none⟩) (by show g6 ≠ g63; have := Y10.out; have := Y18.out; have := Y67.out; have := Y77.out; omega) _) (p := ⟨g63, 5, none⟩) (by show g6 ≠ g63; have := Y10.out; have := Y18.out; have := Y67.out; have := Y77.out; omega) _) : Blk V84 (g6) 26 (vc p0))
  have K99 := Lib.hid (hV85 ▸ (Blk.far (Blk.far (Blk.far (Blk.far (Blk.far (Blk.far ((K79.out.below D83.out K79.out.lt)) (p := ⟨g63, 0, none⟩) (by show g14 ≠ g63; have := Y10.out; have := Y18.out; have := Y67.out; have := Y77.out; omega) _) (p := ⟨g63, 1, none⟩) (by show g14 ≠ g63; have := Y10.out; have := Y18.out; have := Y67.out; have := Y77.out; omega) _) (p := ⟨g63, 2, none⟩) (by show g14 ≠ g63; have := Y10.out; have := Y18.out; have := Y67.out; have := Y77.out; omega) _) (p := ⟨g63, 3, none⟩) (by show g14 ≠ g63; have := Y10.out; have := Y18.out; have := Y67.out; have := Y77.out; omega) _) (p := ⟨g63, 4, none⟩) (by show g14 ≠ g63; have := Y10.out; have := Y18.out; have := Y67.out; have := Y77.out; omega) _) (p := ⟨g63, 5, none⟩) (by show g14 ≠ g63; have := Y10.out; have := Y18.out; have := Y67.out; have := Y77.out; omega) _) : Blk V84 (g14) 26 (vc p1))
  have K100 := Lib.hid (hV85 ▸ (Blk.set_ (Blk.set_ (Blk.set_ (Blk.set_ (Blk.set_ (Blk.set_ ((K80.out.below D83.out K80.out.lt)) 0 _) 1 _) 2 _) 3 _) 4 _) 5 _) : Blk V84 (g63) 26 (vc p3))
  have K101 := Lib.hid (hV85 ▸ (Blk.far (Blk.far (Blk.far (Blk.far (Blk.far (Blk.far ((K81.out.below D83.out K81.out.lt)) (p := ⟨g63, 0, none⟩) (by show g73 ≠ g63; have := Y10.out; have := Y18.out; have := Y67.out; have := Y77.out; omega) _) (p := ⟨g63, 1, none⟩) (by show g73 ≠ g63; have := Y10.out; have := Y18.out; have := Y67.out; have := Y77.out; omega) _) (p := ⟨g63, 2, none⟩) (by show g73 ≠ g63; have := Y10.out; have := Y18.out; have := Y67.out; have := Y77.out; omega) _) (p := ⟨g63, 3, none⟩) (by show g73 ≠ g63; have := Y10.out; have := Y18.out; have := Y67.out; have := Y77.out; omega) _) (p := ⟨g63, 4, none⟩) (by show g73 ≠ g63; have := Y10.out; have := Y18.out; have := Y67.out; have := Y77.out; omega) _) (p := ⟨g63, 5, none⟩) (by show g73 ≠ g63; have := Y10.out; have := Y18.out; have := Y67.out; have := Y77.out; omega) _) : Blk V84 (g73) 24 #[.float .f64 0, .float .f64 0])
  have HB102 := Lib.hid (hV85 ▸ (Below.setCell (Below.setCell (Below.setCell (Below.setCell (Below.setCell (Below.setCell (below_step HB82.out D83.out) (p := ⟨g63, 0, none⟩) (by show w.heap.size ≤ g63; have := Y10.out; have := Y18.out; have := Y67.out; have := Y77.out; omega) _) (p := ⟨g63, 1, none⟩) (by show w.heap.size ≤ g63; have := Y10.out; have := Y18.out; have := Y67.out; have := Y77.out; omega) _) (p := ⟨g63, 2, none⟩) (by show w.heap.size ≤ g63; have := Y10.out; have := Y18.out; have := Y67.out; have := Y77.out; omega) _) (p := ⟨g63, 3, none⟩) (by show w.heap.size ≤ g63; have := Y10.out; have := Y18.out; have := Y67.out; have := Y77.out; omega) _) (p := ⟨g63, 4, none⟩) (by show w.heap.size ≤ g63; have := Y10.out; have := Y18.out; have := Y67.out; have := Y77.out; omega) _) (p := ⟨g63, 5, none⟩) (by show w.heap.size ≤ g63; have := Y10.out; have := Y18.out; have := Y67.out; have := Y77.out; omega) _) : Below w.heap.size w V84)
  have D103 := Lib.hid (Below.refl V84.heap.size V84)
  clear K78 K79 K80 K81 HB82 D83
  have f106 := (K101.out.below D103.out K101.out.lt).cell 0
  have u107 := (K101.out.below D103.out K101.out.lt).unfrozen 0
  have f108 := (K101.out.below D103.out K101.out.lt).cell 1
  have u109 := (K101.out.below D103.out K101.out.lt).unfrozen 1
  obtain ⟨V104, hV105⟩ : ∃ V, ((V84.setCell ⟨g73, 0, none⟩ (.float .f64 4617315517961601024)).setCell ⟨g73, 1, none⟩ (.float .f64 4617315517961601024)) = V := ⟨_, rfl⟩
  have K110 := Lib.hid (hV105 ▸ (Blk.far (Blk.far ((K98.out.below D103.out K98.out.lt)) (p := ⟨g73, 0, none⟩) (by show g6 ≠ g73; have := Y10.out; have := Y18.out; have := Y67.out; have := Y77.out; omega) _) (p := ⟨g73, 1, none⟩) (by show g6 ≠ g73; have := Y10.out; have := Y18.out; have := Y67.out; have := Y77.out; omega) _) : Blk V104 (g6) 26 (vc p0))
  have K111 := Lib.hid (hV105 ▸ (Blk.far (Blk.far ((K99.out.below D103.out K99.out.lt)) (p := ⟨g73, 0, none⟩) (by show g14 ≠ g73; have := Y10.out; have := Y18.out; have := Y67.out; have := Y77.out; omega) _) (p := ⟨g73, 1, none⟩) (by show g14 ≠ g73; have := Y10.out; have := Y18.out; have := Y67.out; have := Y77.out; omega) _) : Blk V104 (g14) 26 (vc p1))
  have K112 := Lib.hid (hV105 ▸ (Blk.far (Blk.far ((K100.out.below D103.out K100.out.lt)) (p := ⟨g73, 0, none⟩) (by show g63 ≠ g73; have := Y10.out; have := Y18.out; have := Y67.out; have := Y77.out; omega) _) (p := ⟨g73, 1, none⟩) (by show g63 ≠ g73; have := Y10.out; have := Y18.out; have := Y67.out; have := Y77.out; omega) _) : Blk V104 (g63) 26 (vc p3))
  have K113 := Lib.hid (hV105 ▸ (Blk.set_ (Blk.set_ ((K101.out.below D103.out K101.out.lt)) 0 _) 1 _) : Blk V104 (g73) 24 #[.float .f64 4617315517961601024, .float .f64 4617315517961601024])
  have HB114 := Lib.hid (hV105 ▸ (Below.setCell (Below.setCell (below_step HB102.out D103.out) (p := ⟨g73, 0, none⟩) (by show w.heap.size ≤ g73; have := Y10.out; have := Y18.out; have := Y67.out; have := Y77.out; omega) _) (p := ⟨g73, 1, none⟩) (by show w.heap.size ≤ g73; have := Y10.out; have := Y18.out; have := Y67.out; have := Y77.out; omega) _) : Below w.heap.size w V104)
  have D115 := Lib.hid (Below.refl V104.heap.size V104)
  clear K98 K99 K100 K101 HB102 D103
  have hq116 : V104.cell? ⟨g6, 0, none⟩ = some (.float .f64 p0.x.lo) ∧ V104.cell? ⟨g6, 1, none⟩ = some (.float .f64 p0.x.hi) ∧ V104.cell? ⟨g6, 2, none⟩ = some (.float .f64 p0.y.lo) ∧ V104.cell? ⟨g6, 3, none⟩ = some (.float .f64 p0.y.hi) ∧ V104.cell? ⟨g6, 4, none⟩ = some (.float .f64 p0.z.lo) ∧ V104.cell? ⟨g6, 5, none⟩ = some (.float .f64 p0.z.hi) ∧ V104.cell? ⟨g14, 0, none⟩ = some (.float .f64 p1.x.lo) ∧ V104.cell? ⟨g14, 1, none⟩ = some (.float .f64 p1.x.hi) ∧ V104.cell? ⟨g14, 2, none⟩ = some (.float .f64 p1.y.lo) ∧ V104.cell? ⟨g14, 3, none⟩ = some (.float .f64 p1.y.hi) ∧ V104.cell? ⟨g14, 4, none⟩ = some (.float .f64 p1.z.lo) ∧ V104.cell? ⟨g14, 5, none⟩ = some (.float .f64 p1.z.hi) := ⟨(K110.out.below D115.out K110.out.lt).cell 0, (K110.out.below D115.out K110.out.lt).cell 1, (K110.out.below D115.out K110.out.lt).cell 2, (K110.out.below D115.out K110.out.lt).cell 3, (K110.out.below D115.out K110.out.lt).cell 4, (K110.out.below D115.out K110.out.lt).cell 5, (K111.out.below D115.out K111.out.lt).cell 0, (K111.out.below D115.out K111.out.lt).cell 1, (K111.out.below D115.out K111.out.lt).cell 2, (K111.out.below D115.out K111.out.lt).cell 3, (K111.out.below D115.out K111.out.lt).cell 4, (K111.out.below D115.out K111.out.lt).cell 5⟩
  go_wp2_with fail
  clear hg65 hV66 hg75 hV76 hV85 f86 u87 f88 u89 f90 u91 f92 u93 f94 u95 f96 u97 hV105 f106 u107 f108 u109 hq116
  refine (C4.out _).mono ?_
  rintro r w117 ⟨rfl, hb⟩
  have D118 := Lib.hid (below_step D115.out hb)
  clear D115
  clear hb
  go_wp2_with fail
  refine (C5.out _).mono ?_
  rintro r w119 ⟨rfl, hb⟩
  have D120 := Lib.hid (below_step D118.out hb)
  clear D118
  clear hb
  have hq121 : w119.cell? ⟨g6, 0, none⟩ = some (.float .f64 p0.x.lo) ∧ w119.cell? ⟨g6, 1, none⟩ = some (.float .f64 p0.x.hi) ∧ w119.cell? ⟨g6, 2, none⟩ = some (.float .f64 p0.y.lo) ∧ w119.cell? ⟨g6, 3, none⟩ = some (.float .f64 p0.y.hi) ∧ w119.cell? ⟨g6, 4, none⟩ = some (.float .f64 p0.z.lo) ∧ w119.cell? ⟨g6, 5, none⟩ = some (.float .f64 p0.z.hi) ∧ w119.cell? ⟨g14, 0, none⟩ = some (.float .f64 p1.x.lo) ∧ w119.cell? ⟨g14, 1, none⟩ = some (.float .f64 p1.x.hi) ∧ w119.cell? ⟨g14, 2, none⟩ = some (.float .f64 p1.y.lo) ∧ w119.cell? ⟨g14, 3, none⟩ = some (.float .f64 p1.y.hi) ∧ w119.cell? ⟨g14, 4, none⟩ = some (.float .f64 p1.z.lo) ∧ w119.cell? ⟨g14, 5, none⟩ = some (.float .f64 p1.z.hi) := ⟨(K110.out.below D120.out K110.out.lt).cell 0, (K110.out.below D120.out K110.out.lt).cell 1, (K110.out.below D120.out K110.out.lt).cell 2, (K110.out.below D120.out K110.out.lt).cell 3, (K110.out.below D120.out K110.out.lt).cell 4, (K110.out.below D120.out K110.out.lt).cell 5, (K111.out.below D120.out K111.out.lt).cell 0, (K111.out.below D120.out K111.out.lt).cell 1, (K111.out.below D120.out K111.out.lt).cell 2, (K111.out.below D120.out K111.out.lt).cell 3, (K111.out.below D120.out K111.out.lt).cell 4, (K111.out.below D120.out K111.out.lt).cell 5⟩
  go_wp2_with fail
  clear hq121
  refine (C6.out _).mono ?_
  rintro r w122 ⟨rfl, hb⟩
  have D123 := Lib.hid (below_step D120.out hb)
  clear D120
  clear hb
  have hq124 : w122.cell? ⟨g73, 0, none⟩ = some (.float .f64 4617315517961601024) ∧ w122.cell? ⟨g73, 1, none⟩ = some (.float .f64 4617315517961601024) := ⟨(K113.out.below D123.out K113.out.lt).cell 0, (K113.out.below D123.out K113.out.lt).cell 1⟩
  go_wp2_with fail
  clear hq124
  go_ret
  exact ⟨rfl, below_step HB114.out D123.out⟩
end Go.Proofs.Ytdgaaceebghcpaa
