/- The walk of VecUpright (gen_tk.py). -/
import Derived.Test.YtdgaaceebghcpaaZTl0
set_option linter.unusedVariables false
set_option linter.unusedSimpArgs false
namespace Go.Proofs.Ytdgaaceebghcpaa
open Go.RowKit Fl

set_option maxRecDepth 100000 in
set_option maxHeartbeats 8000000 in
theorem vecUpright_z (t0 t1 t2 : Nat) (ht0 : t0 < 18446744073709551616) (ht1 : t1 < 18446744073709551616) (ht2 : t2 < 18446744073709551616) (h0 : Z (vLen (vOf (fitW t0) (fitW t1) (fitW t2))).lo ≤ 0) (w : World) : Calls Try.prog 9 #[Value.agg #[.float .f64 t0, .float .f64 t1, .float .f64 t2]] w fun r w' => r = .returned (.bool true) ∧ Below w.heap.size w w' := by
  have C0 := Lib.hid (awake3)
  have C1 := Lib.hid (fun w => fit_any t0 ht0 w)
  have C2 := Lib.hid (fun w => fit_any t1 ht1 w)
  have C3 := Lib.hid (fun w => fit_any t2 ht2 w)
  have C4 := Lib.hid (fun w => ofV_any (fitW t0) (fitW t1) (fitW t2) (fitW_lt ht0) (fitW_lt ht1) (fitW_lt ht2) w)
  obtain ⟨p4, hp4⟩ : ∃ z_, vOf (fitW t0) (fitW t1) (fitW t2) = z_ := ⟨_, rfl⟩
  rw [hp4] at C4
  have C5 := Lib.hid (fun w => unitV_any p4 w)
  obtain ⟨p5, hp5⟩ : ∃ z_, vUnit p4 = z_ := ⟨_, rfl⟩
  rw [hp5] at C5
  obtain ⟨q5, hq5⟩ : ∃ z_, vLen p4 = z_ := ⟨_, rfl⟩
  rw [hq5] at C5
  have e1 : (FloatKind.f64.format.order q5.lo 0 == some .lt || FloatKind.f64.format.order q5.lo 0 == some .eq) = true := by
    have hl : Z q5.lo ≤ 0 := by rw [← hq5, ← hp4]; exact h0
    rw [le0_gd q5.vd.l]; exact decide_eq_true hl
  clear hp4 hp5 hq5
  go_enter Try.func9, Try.ntmps9
  go_wp2_with fail
  obtain ⟨W, hW, K0, hB, hz⟩ := bx1 w 38 #[.float .f64 t0, .float .f64 t1, .float .f64 t2]
  rw [← hW]
  have K0 := Lib.hid K0
  have HB := Lib.hid hB
  clear hW hB hz
  have D1 := dr W
  refine (C0.out _).mono ?_
  rintro r w2 ⟨rfl, hb⟩
  have D3 := ds D1 hb
  clear D1
  clear hb
  go_wp2_with fail
  refine wp_loop_rounds 4 ?_
  rw [rounds_succ]
  have hq4 := (kb K0 D3).cellsL 0 [.float .f64 t0] rfl
  dsimp only [CellsL, al, vl, Nat.reduceAdd] at hq4
  go_wp2_with fail
  clear hq4
  refine (C1.out _).mono ?_
  rintro r w5 ⟨rfl, hb⟩
  have D6 := ds D3 hb
  clear D3
  clear hb
  have f9 := (kb K0 D6).cellsL 0 [.float .f64 t0] rfl
  dsimp only [CellsL, al, vl, Nat.reduceAdd] at f9
  have u10 := (kb K0 D6).unfrozen
  obtain ⟨V7, hV8⟩ : ∃ V, setCells w5 (w.heap.size) 0 [.float .f64 (fitW t0)] = V := ⟨_, rfl⟩
  have hv11 := hV8
  simp only [setCells, Nat.reduceAdd] at hv11
  have K12 := Lib.hid (show Blk V7 (w.heap.size) 38 #[.float .f64 (fitW t0), .float .f64 t1, .float .f64 t2] from (ks hV8 K0 D6).out)
  have HB13 := hbs hV8 HB D6 (by omega)
  have D14 := dr V7
  clear K0 HB D6
  go_wp2_with fail
  clear hV8 f9 u10 hv11
  rw [rounds_succ]
  have hq15 := (kb K12 D14).cellsL 1 [.float .f64 t1] rfl
  dsimp only [CellsL, al, vl, Nat.reduceAdd] at hq15
  go_wp2_with fail
  clear hq15
  refine (C2.out _).mono ?_
  rintro r w16 ⟨rfl, hb⟩
  have D17 := ds D14 hb
  clear D14
  clear hb
  have f20 := (kb K12 D17).cellsL 1 [.float .f64 t1] rfl
  dsimp only [CellsL, al, vl, Nat.reduceAdd] at f20
  have u21 := (kb K12 D17).unfrozen
  obtain ⟨V18, hV19⟩ : ∃ V, setCells w16 (w.heap.size) 1 [.float .f64 (fitW t1)] = V := ⟨_, rfl⟩
  have hv22 := hV19
  simp only [setCells, Nat.reduceAdd] at hv22
  have K23 := Lib.hid (show Blk V18 (w.heap.size) 38 #[.float .f64 (fitW t0), .float .f64 (fitW t1), .float .f64 t2] from (ks hV19 K12 D17).out)
  have HB24 := hbs hV19 HB13 D17 (by omega)
  have D25 := dr V18
  clear K12 HB13 D17
  go_wp2_with fail
  clear hV19 f20 u21 hv22
  rw [rounds_succ]
  have hq26 := (kb K23 D25).cellsL 2 [.float .f64 t2] rfl
  dsimp only [CellsL, al, vl, Nat.reduceAdd] at hq26
  go_wp2_with fail
  clear hq26
  refine (C3.out _).mono ?_
  rintro r w27 ⟨rfl, hb⟩
  have D28 := ds D25 hb
  clear D25
  clear hb
  have f31 := (kb K23 D28).cellsL 2 [.float .f64 t2] rfl
  dsimp only [CellsL, al, vl, Nat.reduceAdd] at f31
  have u32 := (kb K23 D28).unfrozen
  obtain ⟨V29, hV30⟩ : ∃ V, setCells w27 (w.heap.size) 2 [.float .f64 (fitW t2)] = V := ⟨_, rfl⟩
  have hv33 := hV30
  simp only [setCells, Nat.reduceAdd] at hv33
  have K34 := Lib.hid (show Blk V29 (w.heap.size) 38 #[.float .f64 (fitW t0), .float .f64 (fitW t1), .float .f64 (fitW t2)] from (ks hV30 K23 D28).out)
  have HB35 := hbs hV30 HB24 D28 (by omega)
  have D36 := dr V29
  clear K23 HB24 D28
  go_wp2_with fail
  clear hV30 f31 u32 hv33
  rw [rounds_succ]
  have hq37 := (kb K34 D36).cellsL 0 [.float .f64 (fitW t0), .float .f64 (fitW t1), .float .f64 (fitW t2)] rfl
  dsimp only [CellsL, al, vl, Nat.reduceAdd] at hq37
  go_wp2_with fail
  clear hq37
  refine (C4.out _).mono ?_
  rintro r w38 ⟨rfl, hb⟩
  have D39 := ds D36 hb
  clear D36
  clear hb
  go_wp2_with fail
  refine (C5.out _).mono ?_
  rintro r w40 ⟨rfl, hb⟩
  have D41 := ds D39 hb
  clear D39
  clear hb
  obtain ⟨g42, hg44⟩ : ∃ g, w40.heap.size = g := ⟨_, rfl⟩
  have Y46 := Lib.hid (show w.heap.size < g42 by rw [← hg44]; exact (kb K34 D41).lt)
  obtain ⟨V43, hV45⟩ : ∃ V, w40.alloc (.cells #[.float .f64 0, .float .f64 0, .float .f64 0, .float .f64 0, .float .f64 0, .float .f64 0] 26) = V := ⟨_, rfl⟩
  have K47 := ka hV45 K34 D41
  have K48 := kn hV45 hg44
  have HB49 := hba hV45 HB35 D41
  have D50 := dr V43
  clear K34 HB35 D41
  obtain ⟨g51, hg53⟩ : ∃ g, V43.heap.size = g := ⟨_, rfl⟩
  have Y55 := Lib.hid (show w.heap.size < g51 ∧ g42 < g51 by rw [← hg53]; exact ⟨(kb K47 D50).lt, (kb K48 D50).lt⟩)
  obtain ⟨V52, hV54⟩ : ∃ V, V43.alloc (.cells #[.float .f64 0, .float .f64 0] 24) = V := ⟨_, rfl⟩
  have K56 := ka hV54 K47 D50
  have K57 := ka hV54 K48 D50
  have K58 := kn hV54 hg53
  have HB59 := hba hV54 HB49 D50
  have D60 := dr V52
  clear K47 K48 HB49 D50
  have Y61 := Lib.hid (And.intro Y46.out Y55.out)
  clear Y46 Y55
  have f64 := (kb K57 D60)
  obtain ⟨V62, hV63⟩ : ∃ V, World.setRow V52 (g42) (vc p5) = V := ⟨_, rfl⟩
  have K65 := kfr hV63 K56 D60 (by have := Y61.out; omega)
  have K66 := ksr hV63 K57 D60
  have K67 := kfr hV63 K58 D60 (by have := Y61.out; omega)
  have HB68 := hbr hV63 HB59 D60 (by have := Y61.out; omega)
  have D69 := dr V62
  clear K56 K57 K58 HB59 D60
  have f72 := (kb K67 D69).cellsL 0 [.float .f64 0, .float .f64 0] rfl
  dsimp only [CellsL, al, vl, Nat.reduceAdd] at f72
  have u73 := (kb K67 D69).unfrozen
  obtain ⟨V70, hV71⟩ : ∃ V, setCells V62 (g51) 0 [.float .f64 q5.lo, .float .f64 q5.hi] = V := ⟨_, rfl⟩
  have hv74 := hV71
  simp only [setCells, Nat.reduceAdd] at hv74
  have K75 := kf hV71 K65 D69 (by have := Y61.out; omega)
  have K76 := kf hV71 K66 D69 (by have := Y61.out; omega)
  have K77 := Lib.hid (show Blk V70 (g51) 24 #[.float .f64 q5.lo, .float .f64 q5.hi] from (ks hV71 K67 D69).out)
  have HB78 := hbs hV71 HB68 D69 (by have := Y61.out; omega)
  have D79 := dr V70
  clear K65 K66 K67 HB68 D69
  have hq80 := (kb K77 D79).cellsL 0 [.float .f64 q5.lo] rfl
  dsimp only [CellsL, al, vl, Nat.reduceAdd] at hq80
  go_wp2_with (refine wpList_store_row rfl 26 _ _ rfl (g42) (vc p5) rfl rfl _ _ f64 (by rw [info_V3]; rfl) rfl (by kernel_rfl) ?_; rw [hV63])
  clear hg44 hV45 hg53 hV54 hV63 f64 hV71 f72 u73 hv74 hq80
  go_ret
  exact ⟨rfl, below_step HB78.out D79.out⟩
set_option maxRecDepth 100000 in
set_option maxHeartbeats 8000000 in
theorem vecUpright_q (t0 t1 t2 : Nat) (ht0 : t0 < 18446744073709551616) (ht1 : t1 < 18446744073709551616) (ht2 : t2 < 18446744073709551616) (h0 : ¬ Z (vLen (vOf (fitW t0) (fitW t1) (fitW t2))).lo ≤ 0) (hq : frQ (vUnit (vOf (fitW t0) (fitW t1) (fitW t2))) = 2) (w : World) : Calls Try.prog 9 #[Value.agg #[.float .f64 t0, .float .f64 t1, .float .f64 t2]] w fun r w' => r = .returned (.bool true) ∧ Below w.heap.size w w' := by
  have C0 := Lib.hid (awake3)
  have C1 := Lib.hid (fun w => fit_any t0 ht0 w)
  have C2 := Lib.hid (fun w => fit_any t1 ht1 w)
  have C3 := Lib.hid (fun w => fit_any t2 ht2 w)
  have C4 := Lib.hid (fun w => ofV_any (fitW t0) (fitW t1) (fitW t2) (fitW_lt ht0) (fitW_lt ht1) (fitW_lt ht2) w)
  obtain ⟨p4, hp4⟩ : ∃ z_, vOf (fitW t0) (fitW t1) (fitW t2) = z_ := ⟨_, rfl⟩
  rw [hp4] at C4
  have C5 := Lib.hid (fun w => unitV_any p4 w)
  obtain ⟨p5, hp5⟩ : ∃ z_, vUnit p4 = z_ := ⟨_, rfl⟩
  rw [hp5] at C5
  obtain ⟨q5, hq5⟩ : ∃ z_, vLen p4 = z_ := ⟨_, rfl⟩
  rw [hq5] at C5
  have e1 : (FloatKind.f64.format.order q5.lo 0 == some .lt || FloatKind.f64.format.order q5.lo 0 == some .eq) = false := by
    have hl : ¬ Z q5.lo ≤ 0 := by rw [← hq5, ← hp4]; exact h0
    rw [le0_gd q5.vd.l]; exact decide_eq_false hl
  have C6 := Lib.hid (fun w => frame_any p5 w)
  obtain ⟨t6_, ht6_⟩ : ∃ z_, frT (frS p5) p5 = z_ := ⟨_, rfl⟩
  rw [ht6_] at C6
  obtain ⟨u6_, hu6_⟩ : ∃ z_, frU (frS p5) p5 = z_ := ⟨_, rfl⟩
  rw [hu6_] at C6
  have hl : frQ p5 = 2 := by rw [← hp5, ← hp4]; exact hq
  rw [hl] at C6
  clear hl
  clear hp4 hp5 hq5 ht6_ hu6_
  go_enter Try.func9, Try.ntmps9
  go_wp2_with fail
  obtain ⟨W, hW, K0, hB, hz⟩ := bx1 w 38 #[.float .f64 t0, .float .f64 t1, .float .f64 t2]
  rw [← hW]
  have K0 := Lib.hid K0
  have HB := Lib.hid hB
  clear hW hB hz
  have D1 := dr W
  refine (C0.out _).mono ?_
  rintro r w2 ⟨rfl, hb⟩
  have D3 := ds D1 hb
  clear D1
  clear hb
  go_wp2_with fail
  refine wp_loop_rounds 4 ?_
  rw [rounds_succ]
  have hq4 := (kb K0 D3).cellsL 0 [.float .f64 t0] rfl
  dsimp only [CellsL, al, vl, Nat.reduceAdd] at hq4
  go_wp2_with fail
  clear hq4
  refine (C1.out _).mono ?_
  rintro r w5 ⟨rfl, hb⟩
  have D6 := ds D3 hb
  clear D3
  clear hb
  have f9 := (kb K0 D6).cellsL 0 [.float .f64 t0] rfl
  dsimp only [CellsL, al, vl, Nat.reduceAdd] at f9
  have u10 := (kb K0 D6).unfrozen
  obtain ⟨V7, hV8⟩ : ∃ V, setCells w5 (w.heap.size) 0 [.float .f64 (fitW t0)] = V := ⟨_, rfl⟩
  have hv11 := hV8
  simp only [setCells, Nat.reduceAdd] at hv11
  have K12 := Lib.hid (show Blk V7 (w.heap.size) 38 #[.float .f64 (fitW t0), .float .f64 t1, .float .f64 t2] from (ks hV8 K0 D6).out)
  have HB13 := hbs hV8 HB D6 (by omega)
  have D14 := dr V7
  clear K0 HB D6
  go_wp2_with fail
  clear hV8 f9 u10 hv11
  rw [rounds_succ]
  have hq15 := (kb K12 D14).cellsL 1 [.float .f64 t1] rfl
  dsimp only [CellsL, al, vl, Nat.reduceAdd] at hq15
  go_wp2_with fail
  clear hq15
  refine (C2.out _).mono ?_
  rintro r w16 ⟨rfl, hb⟩
  have D17 := ds D14 hb
  clear D14
  clear hb
  have f20 := (kb K12 D17).cellsL 1 [.float .f64 t1] rfl
  dsimp only [CellsL, al, vl, Nat.reduceAdd] at f20
  have u21 := (kb K12 D17).unfrozen
  obtain ⟨V18, hV19⟩ : ∃ V, setCells w16 (w.heap.size) 1 [.float .f64 (fitW t1)] = V := ⟨_, rfl⟩
  have hv22 := hV19
  simp only [setCells, Nat.reduceAdd] at hv22
  have K23 := Lib.hid (show Blk V18 (w.heap.size) 38 #[.float .f64 (fitW t0), .float .f64 (fitW t1), .float .f64 t2] from (ks hV19 K12 D17).out)
  have HB24 := hbs hV19 HB13 D17 (by omega)
  have D25 := dr V18
  clear K12 HB13 D17
  go_wp2_with fail
  clear hV19 f20 u21 hv22
  rw [rounds_succ]
  have hq26 := (kb K23 D25).cellsL 2 [.float .f64 t2] rfl
  dsimp only [CellsL, al, vl, Nat.reduceAdd] at hq26
  go_wp2_with fail
  clear hq26
  refine (C3.out _).mono ?_
  rintro r w27 ⟨rfl, hb⟩
  have D28 := ds D25 hb
  clear D25
  clear hb
  have f31 := (kb K23 D28).cellsL 2 [.float .f64 t2] rfl
  dsimp only [CellsL, al, vl, Nat.reduceAdd] at f31
  have u32 := (kb K23 D28).unfrozen
  obtain ⟨V29, hV30⟩ : ∃ V, setCells w27 (w.heap.size) 2 [.float .f64 (fitW t2)] = V := ⟨_, rfl⟩
  have hv33 := hV30
  simp only [setCells, Nat.reduceAdd] at hv33
  have K34 := Lib.hid (show Blk V29 (w.heap.size) 38 #[.float .f64 (fitW t0), .float .f64 (fitW t1), .float .f64 (fitW t2)] from (ks hV30 K23 D28).out)
  have HB35 := hbs hV30 HB24 D28 (by omega)
  have D36 := dr V29
  clear K23 HB24 D28
  go_wp2_with fail
  clear hV30 f31 u32 hv33
  rw [rounds_succ]
  have hq37 := (kb K34 D36).cellsL 0 [.float .f64 (fitW t0), .float .f64 (fitW t1), .float .f64 (fitW t2)] rfl
  dsimp only [CellsL, al, vl, Nat.reduceAdd] at hq37
  go_wp2_with fail
  clear hq37
  refine (C4.out _).mono ?_
  rintro r w38 ⟨rfl, hb⟩
  have D39 := ds D36 hb
  clear D36
  clear hb
  go_wp2_with fail
  refine (C5.out _).mono ?_
  rintro r w40 ⟨rfl, hb⟩
  have D41 := ds D39 hb
  clear D39
  clear hb
  obtain ⟨g42, hg44⟩ : ∃ g, w40.heap.size = g := ⟨_, rfl⟩
  have Y46 := Lib.hid (show w.heap.size < g42 by rw [← hg44]; exact (kb K34 D41).lt)
  obtain ⟨V43, hV45⟩ : ∃ V, w40.alloc (.cells #[.float .f64 0, .float .f64 0, .float .f64 0, .float .f64 0, .float .f64 0, .float .f64 0] 26) = V := ⟨_, rfl⟩
  have K47 := ka hV45 K34 D41
  have K48 := kn hV45 hg44
  have HB49 := hba hV45 HB35 D41
  have D50 := dr V43
  clear K34 HB35 D41
  obtain ⟨g51, hg53⟩ : ∃ g, V43.heap.size = g := ⟨_, rfl⟩
  have Y55 := Lib.hid (show w.heap.size < g51 ∧ g42 < g51 by rw [← hg53]; exact ⟨(kb K47 D50).lt, (kb K48 D50).lt⟩)
  obtain ⟨V52, hV54⟩ : ∃ V, V43.alloc (.cells #[.float .f64 0, .float .f64 0] 24) = V := ⟨_, rfl⟩
  have K56 := ka hV54 K47 D50
  have K57 := ka hV54 K48 D50
  have K58 := kn hV54 hg53
  have HB59 := hba hV54 HB49 D50
  have D60 := dr V52
  clear K47 K48 HB49 D50
  have Y61 := Lib.hid (And.intro Y46.out Y55.out)
  clear Y46 Y55
  have f64 := (kb K57 D60)
  obtain ⟨V62, hV63⟩ : ∃ V, World.setRow V52 (g42) (vc p5) = V := ⟨_, rfl⟩
  have K65 := kfr hV63 K56 D60 (by have := Y61.out; omega)
  have K66 := ksr hV63 K57 D60
  have K67 := kfr hV63 K58 D60 (by have := Y61.out; omega)
  have HB68 := hbr hV63 HB59 D60 (by have := Y61.out; omega)
  have D69 := dr V62
  clear K56 K57 K58 HB59 D60
  have f72 := (kb K67 D69).cellsL 0 [.float .f64 0, .float .f64 0] rfl
  dsimp only [CellsL, al, vl, Nat.reduceAdd] at f72
  have u73 := (kb K67 D69).unfrozen
  obtain ⟨V70, hV71⟩ : ∃ V, setCells V62 (g51) 0 [.float .f64 q5.lo, .float .f64 q5.hi] = V := ⟨_, rfl⟩
  have hv74 := hV71
  simp only [setCells, Nat.reduceAdd] at hv74
  have K75 := kf hV71 K65 D69 (by have := Y61.out; omega)
  have K76 := kf hV71 K66 D69 (by have := Y61.out; omega)
  have K77 := Lib.hid (show Blk V70 (g51) 24 #[.float .f64 q5.lo, .float .f64 q5.hi] from (ks hV71 K67 D69).out)
  have HB78 := hbs hV71 HB68 D69 (by have := Y61.out; omega)
  have D79 := dr V70
  clear K65 K66 K67 HB68 D69
  have f80 := (kb K76 D79)
  have hq81 := (kb K77 D79).cellsL 0 [.float .f64 q5.lo] rfl
  dsimp only [CellsL, al, vl, Nat.reduceAdd] at hq81
  go_wp2_with (first | (refine wpList_store_row rfl 26 _ _ rfl (g42) (vc p5) rfl rfl _ _ f64 (by rw [info_V3]; rfl) rfl (by kernel_rfl) ?_; rw [hV63]) | (refine wl_load (by kernel_rfl) rfl rfl f80 (by rw [info_V3]; rfl) Try.underlying26 rfl ?_))
  clear hg44 hV45 hg53 hV54 hV63 f64 hV71 f72 u73 hv74 f80 hq81
  refine (C6.out _).mono ?_
  rintro r w82 ⟨rfl, hb⟩
  have D83 := ds D79 hb
  clear D79
  clear hb
  obtain ⟨g84, hg86⟩ : ∃ g, w82.heap.size = g := ⟨_, rfl⟩
  have Y88 := Lib.hid (show w.heap.size < g84 ∧ g42 < g84 ∧ g51 < g84 by rw [← hg86]; exact ⟨(kb K75 D83).lt, (kb K76 D83).lt, (kb K77 D83).lt⟩)
  obtain ⟨V85, hV87⟩ : ∃ V, w82.alloc (.cells #[.float .f64 0, .float .f64 0, .float .f64 0, .float .f64 0, .float .f64 0, .float .f64 0] 26) = V := ⟨_, rfl⟩
  have K89 := ka hV87 K75 D83
  have K90 := ka hV87 K76 D83
  have K91 := ka hV87 K77 D83
  have K92 := kn hV87 hg86
  have HB93 := hba hV87 HB78 D83
  have D94 := dr V85
  clear K75 K76 K77 HB78 D83
  have Y95 := Lib.hid (And.intro Y61.out Y88.out)
  clear Y61 Y88
  obtain ⟨g96, hg98⟩ : ∃ g, V85.heap.size = g := ⟨_, rfl⟩
  have Y100 := Lib.hid (show w.heap.size < g96 ∧ g42 < g96 ∧ g51 < g96 ∧ g84 < g96 by rw [← hg98]; exact ⟨(kb K89 D94).lt, (kb K90 D94).lt, (kb K91 D94).lt, (kb K92 D94).lt⟩)
  obtain ⟨V97, hV99⟩ : ∃ V, V85.alloc (.cells #[.float .f64 0, .float .f64 0, .float .f64 0, .float .f64 0, .float .f64 0, .float .f64 0] 26) = V := ⟨_, rfl⟩
  have K101 := ka hV99 K89 D94
  have K102 := ka hV99 K90 D94
  have K103 := ka hV99 K91 D94
  have K104 := ka hV99 K92 D94
  have K105 := kn hV99 hg98
  have HB106 := hba hV99 HB93 D94
  have D107 := dr V97
  clear K89 K90 K91 K92 HB93 D94
  have Y108 := Lib.hid (And.intro Y95.out Y100.out)
  clear Y95 Y100
  have f111 := (kb K104 D107)
  obtain ⟨V109, hV110⟩ : ∃ V, World.setRow V97 (g84) (vc t6_) = V := ⟨_, rfl⟩
  have K112 := kfr hV110 K101 D107 (by have := Y108.out; omega)
  have K113 := kfr hV110 K102 D107 (by have := Y108.out; omega)
  have K114 := kfr hV110 K103 D107 (by have := Y108.out; omega)
  have K115 := ksr hV110 K104 D107
  have K116 := kfr hV110 K105 D107 (by have := Y108.out; omega)
  have HB117 := hbr hV110 HB106 D107 (by have := Y108.out; omega)
  have D118 := dr V109
  clear K101 K102 K103 K104 K105 HB106 D107
  have f121 := (kb K116 D118)
  obtain ⟨V119, hV120⟩ : ∃ V, World.setRow V109 (g96) (vc u6_) = V := ⟨_, rfl⟩
  have K122 := kfr hV120 K112 D118 (by have := Y108.out; omega)
  have K123 := kfr hV120 K113 D118 (by have := Y108.out; omega)
  have K124 := kfr hV120 K114 D118 (by have := Y108.out; omega)
  have K125 := kfr hV120 K115 D118 (by have := Y108.out; omega)
  have K126 := ksr hV120 K116 D118
  have HB127 := hbr hV120 HB117 D118 (by have := Y108.out; omega)
  have D128 := dr V119
  clear K112 K113 K114 K115 K116 HB117 D118
  go_wp2_with (first | (refine wpList_store_row rfl 26 _ _ rfl (g84) (vc t6_) rfl rfl _ _ f111 (by rw [info_V3]; rfl) rfl (by kernel_rfl) ?_; rw [hV110]) | (refine wpList_store_row rfl 26 _ _ rfl (g96) (vc u6_) rfl rfl _ _ f121 (by rw [info_V3]; rfl) rfl (by kernel_rfl) ?_; rw [hV120]))
  clear hg86 hV87 hg98 hV99 hV110 f111 hV120 f121
  go_ret
  exact ⟨rfl, below_step HB127.out D128.out⟩
end Go.Proofs.Ytdgaaceebghcpaa
