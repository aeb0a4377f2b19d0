/- The walk of VecUpright (gen_tk.py). -/
import Derived.Test.YtdgaaceebghcpaaZTl0
set_option linter.unusedVariables false
set_option linter.unusedSimpArgs false
namespace Go.Proofs.Ytdgaaceebghcpaa
open Go.RowKit Fl

set_option maxRecDepth 100000 in
set_option maxHeartbeats 8000000 in
theorem vecUpright_k (t0 t1 t2 : Nat) (ht0 : t0 < 18446744073709551616) (ht1 : t1 < 18446744073709551616) (ht2 : t2 < 18446744073709551616) (h0 : ¬ Z (vLen (vOf (fitW t0) (fitW t1) (fitW t2))).lo ≤ 0) (hq : frQ (vUnit (vOf (fitW t0) (fitW t1) (fitW t2))) = 1) (hu : Up (vUnit (vOf (fitW t0) (fitW t1) (fitW t2)))) (w : World) : Calls Try.prog 9 #[Value.agg #[.float .f64 t0, .float .f64 t1, .float .f64 t2]] w fun r w' => r = .returned (.bool true) ∧ Below w.heap.size w w' := by
  have C0 := Lib.hid (awake3)
  have C1 := Lib.hid (fun w => fit_any t0 ht0 w)
  have C2 := Lib.hid (fun w => fit_any t1 ht1 w)
  have C3 := Lib.hid (fun w => fit_any t2 ht2 w)
  have C4 := Lib.hid (fun w => ofV_any (fitW t0) (fitW t1) (fitW t2) (fitW_lt ht0) (fitW_lt ht1) (fitW_lt ht2) w)
  obtain ⟨p4, hp4⟩ : ∃ z_, vOf (fitW t0) (fitW t1) (fitW t2) = z_ := ⟨_, rfl⟩
  rw [hp4] at C4
  have C5 := Lib.hid (fun w => unitV_any p4 w)
  obtain ⟨p5, hp5⟩ : ∃ z_, vUnit p4 = z_ := ⟨_, rfl⟩
  rw [hp5] at C5
  obtain ⟨q5, hq5⟩ : ∃ z_, vLen p4 = z_ := ⟨_, rfl⟩
  rw [hq5] at C5
  have e1 : (FloatKind.f64.format.order q5.lo 0 == some .lt || FloatKind.f64.format.order q5.lo 0 == some .eq) = false := by
    have hl : ¬ Z q5.lo ≤ 0 := by rw [← hq5, ← hp4]; exact h0
    rw [le0_gd q5.vd.l]; exact decide_eq_false hl
  have C6 := Lib.hid (fun w => frame_any p5 w)
  obtain ⟨t6_, ht6_⟩ : ∃ z_, frT (frS p5) p5 = z_ := ⟨_, rfl⟩
  rw [ht6_] at C6
  obtain ⟨u6_, hu6_⟩ : ∃ z_, frU (frS p5) p5 = z_ := ⟨_, rfl⟩
  rw [hu6_] at C6
  have hl : frQ p5 = 1 := by rw [← hp5, ← hp4]; exact hq
  rw [hl] at C6
  clear hl
  have C7 := Lib.hid (fun w => dotV_any t6_ p5 w)
  obtain ⟨p7, hp7⟩ : ∃ z_, vDot t6_ p5 = z_ := ⟨_, rfl⟩
  rw [hp7] at C7
  have C8 := Lib.hid (fun w => share_at (d := p7) (x := 0) gd0 (by rw [← hp7, ← ht6_, ← hp5, ← hp4]; exact hu.tn.zero_wi) w)
  have C9 := Lib.hid (fun w => dotV_any u6_ p5 w)
  obtain ⟨p9, hp9⟩ : ∃ z_, vDot u6_ p5 = z_ := ⟨_, rfl⟩
  rw [hp9] at C9
  have C10 := Lib.hid (fun w => share_at (d := p9) (x := 0) gd0 (by rw [← hp9, ← hu6_, ← hp5, ← hp4]; exact hu.un.zero_wi) w)
  have C11 := Lib.hid (fun w => dotV_any t6_ u6_ w)
  obtain ⟨p11, hp11⟩ : ∃ z_, vDot t6_ u6_ = z_ := ⟨_, rfl⟩
  rw [hp11] at C11
  have C12 := Lib.hid (fun w => share_at (d := p11) (x := 0) gd0 (by rw [← hp11, ← hu6_, ← ht6_, ← hp5, ← hp4]; exact hu.tu.zero_wi) w)
  have C13 := Lib.hid (fun w => sqrV_any t6_ w)
  obtain ⟨p13, hp13⟩ : ∃ z_, vSqr t6_ = z_ := ⟨_, rfl⟩
  rw [hp13] at C13
  have C14 := Lib.hid (fun w => share_at (d := p13) (x := 4607182418800017408) gdOne (by rw [← hp13, ← ht6_, ← hp5, ← hp4]; exact hu.tt.one_wi) w)
  have C15 := Lib.hid (fun w => sqrV_any u6_ w)
  obtain ⟨p15, hp15⟩ : ∃ z_, vSqr u6_ = z_ := ⟨_, rfl⟩
  rw [hp15] at C15
  have C16 := Lib.hid (fun w => share_at (d := p15) (x := 4607182418800017408) gdOne (by rw [← hp15, ← hu6_, ← hp5, ← hp4]; exact hu.uu.one_wi) w)
  have C17 := Lib.hid (fun w => sqrV_any p5 w)
  obtain ⟨p17, hp17⟩ : ∃ z_, vSqr p5 = z_ := ⟨_, rfl⟩
  rw [hp17] at C17
  have C18 := Lib.hid (fun w => share_at (d := p17) (x := 4607182418800017408) gdOne (by rw [← hp17, ← hp5, ← hp4]; exact hu.nn.one_wi) w)
  clear hp4 hp5 hq5 ht6_ hu6_ hp7 hp9 hp11 hp13 hp15 hp17
  go_enter Try.func9, Try.ntmps9
  go_wp2_with fail
  obtain ⟨W, hW, K0, hB, hz⟩ := bx1 w 38 #[.float .f64 t0, .float .f64 t1, .float .f64 t2]
  rw [← hW]
  have K0 := Lib.hid K0
  have HB := Lib.hid hB
  clear hW hB hz
  have D1 := dr W
  refine (C0.out _).mono ?_
  rintro r w2 ⟨rfl, hb⟩
  have D3 := ds D1 hb
  clear D1
  clear hb
  go_wp2_with fail
  refine wp_loop_rounds 4 ?_
  rw [rounds_succ]
  have hq4 := (kb K0 D3).cellsL 0 [.float .f64 t0] rfl
  dsimp only [CellsL, al, vl, Nat.reduceAdd] at hq4
  go_wp2_with fail
  clear hq4
  refine (C1.out _).mono ?_
  rintro r w5 ⟨rfl, hb⟩
  have D6 := ds D3 hb
  clear D3
  clear hb
  have f9 := (kb K0 D6).cellsL 0 [.float .f64 t0] rfl
  dsimp only [CellsL, al, vl, Nat.reduceAdd] at f9
  have u10 := (kb K0 D6).unfrozen
  obtain ⟨V7, hV8⟩ : ∃ V, setCells w5 (w.heap.size) 0 [.float .f64 (fitW t0)] = V := ⟨_, rfl⟩
  have hv11 := hV8
  simp only [setCells, Nat.reduceAdd] at hv11
  have K12 := Lib.hid (show Blk V7 (w.heap.size) 38 #[.float .f64 (fitW t0), .float .f64 t1, .float .f64 t2] from (ks hV8 K0 D6).out)
  have HB13 := hbs hV8 HB D6 (by omega)
  have D14 := dr V7
  clear K0 HB D6
  go_wp2_with fail
  clear hV8 f9 u10 hv11
  rw [rounds_succ]
  have hq15 := (kb K12 D14).cellsL 1 [.float .f64 t1] rfl
  dsimp only [CellsL, al, vl, Nat.reduceAdd] at hq15
  go_wp2_with fail
  clear hq15
  refine (C2.out _).mono ?_
  rintro r w16 ⟨rfl, hb⟩
  have D17 := ds D14 hb
  clear D14
  clear hb
  have f20 := (kb K12 D17).cellsL 1 [.float .f64 t1] rfl
  dsimp only [CellsL, al, vl, Nat.reduceAdd] at f20
  have u21 := (kb K12 D17).unfrozen
  obtain ⟨V18, hV19⟩ : ∃ V, setCells w16 (w.heap.size) 1 [.float .f64 (fitW t1)] = V := ⟨_, rfl⟩
  have hv22 := hV19
  simp only [setCells, Nat.reduceAdd] at hv22
  have K23 := Lib.hid (show Blk V18 (w.heap.size) 38 #[.float .f64 (fitW t0), .float .f64 (fitW t1), .float .f64 t2] from (ks hV19 K12 D17).out)
  have HB24 := hbs hV19 HB13 D17 (by omega)
  have D25 := dr V18
  clear K12 HB13 D17
  go_wp2_with fail
  clear hV19 f20 u21 hv22
  rw [rounds_succ]
  have hq26 := (kb K23 D25).cellsL 2 [.float .f64 t2] rfl
  dsimp only [CellsL, al, vl, Nat.reduceAdd] at hq26
  go_wp2_with fail
  clear hq26
  refine (C3.out _).mono ?_
  rintro r w27 ⟨rfl, hb⟩
  have D28 := ds D25 hb
  clear D25
  clear hb
  have f31 := (kb K23 D28).cellsL 2 [.float .f64 t2] rfl
  dsimp only [CellsL, al, vl, Nat.reduceAdd] at f31
  have u32 := (kb K23 D28).unfrozen
  obtain ⟨V29, hV30⟩ : ∃ V, setCells w27 (w.heap.size) 2 [.float .f64 (fitW t2)] = V := ⟨_, rfl⟩
  have hv33 := hV30
  simp only [setCells, Nat.reduceAdd] at hv33
  have K34 := Lib.hid (show Blk V29 (w.heap.size) 38 #[.float .f64 (fitW t0), .float .f64 (fitW t1), .float .f64 (fitW t2)] from (ks hV30 K23 D28).out)
  have HB35 := hbs hV30 HB24 D28 (by omega)
  have D36 := dr V29
  clear K23 HB24 D28
  go_wp2_with fail
  clear hV30 f31 u32 hv33
  rw [rounds_succ]
  have hq37 := (kb K34 D36).cellsL 0 [.float .f64 (fitW t0), .float .f64 (fitW t1), .float .f64 (fitW t2)] rfl
  dsimp only [CellsL, al, vl, Nat.reduceAdd] at hq37
  go_wp2_with fail
  clear hq37
  refine (C4.out _).mono ?_
  rintro r w38 ⟨rfl, hb⟩
  have D39 := ds D36 hb
  clear D36
  clear hb
  go_wp2_with fail
  refine (C5.out _).mono ?_
  rintro r w40 ⟨rfl, hb⟩
  have D41 := ds D39 hb
  clear D39
  clear hb
  obtain ⟨g42, hg44⟩ : ∃ g, w40.heap.size = g := ⟨_, rfl⟩
  have Y46 := Lib.hid (show w.heap.size < g42 by rw [← hg44]; exact (kb K34 D41).lt)
  obtain ⟨V43, hV45⟩ : ∃ V, w40.alloc (.cells #[.float .f64 0, .float .f64 0, .float .f64 0, .float .f64 0, .float .f64 0, .float .f64 0] 26) = V := ⟨_, rfl⟩
  have K47 := ka hV45 K34 D41
  have K48 := kn hV45 hg44
  have HB49 := hba hV45 HB35 D41
  have D50 := dr V43
  clear K34 HB35 D41
  obtain ⟨g51, hg53⟩ : ∃ g, V43.heap.size = g := ⟨_, rfl⟩
  have Y55 := Lib.hid (show w.heap.size < g51 ∧ g42 < g51 by rw [← hg53]; exact ⟨(kb K47 D50).lt, (kb K48 D50).lt⟩)
  obtain ⟨V52, hV54⟩ : ∃ V, V43.alloc (.cells #[.float .f64 0, .float .f64 0] 24) = V := ⟨_, rfl⟩
  have K56 := ka hV54 K47 D50
  have K57 := ka hV54 K48 D50
  have K58 := kn hV54 hg53
  have HB59 := hba hV54 HB49 D50
  have D60 := dr V52
  clear K47 K48 HB49 D50
  have Y61 := Lib.hid (And.intro Y46.out Y55.out)
  clear Y46 Y55
  have f64 := (kb K57 D60)
  obtain ⟨V62, hV63⟩ : ∃ V, World.setRow V52 (g42) (vc p5) = V := ⟨_, rfl⟩
  have K65 := kfr hV63 K56 D60 (by have := Y61.out; omega)
  have K66 := ksr hV63 K57 D60
  have K67 := kfr hV63 K58 D60 (by have := Y61.out; omega)
  have HB68 := hbr hV63 HB59 D60 (by have := Y61.out; omega)
  have D69 := dr V62
  clear K56 K57 K58 HB59 D60
  have f72 := (kb K67 D69).cellsL 0 [.float .f64 0, .float .f64 0] rfl
  dsimp only [CellsL, al, vl, Nat.reduceAdd] at f72
  have u73 := (kb K67 D69).unfrozen
  obtain ⟨V70, hV71⟩ : ∃ V, setCells V62 (g51) 0 [.float .f64 q5.lo, .float .f64 q5.hi] = V := ⟨_, rfl⟩
  have hv74 := hV71
  simp only [setCells, Nat.reduceAdd] at hv74
  have K75 := kf hV71 K65 D69 (by have := Y61.out; omega)
  have K76 := kf hV71 K66 D69 (by have := Y61.out; omega)
  have K77 := Lib.hid (show Blk V70 (g51) 24 #[.float .f64 q5.lo, .float .f64 q5.hi] from (ks hV71 K67 D69).out)
  have HB78 := hbs hV71 HB68 D69 (by have := Y61.out; omega)
  have D79 := dr V70
  clear K65 K66 K67 HB68 D69
  have f80 := (kb K76 D79)
  have hq81 := (kb K77 D79).cellsL 0 [.float .f64 q5.lo] rfl
  dsimp only [CellsL, al, vl, Nat.reduceAdd] at hq81
  go_wp2_with (first | (refine wpList_store_row rfl 26 _ _ rfl (g42) (vc p5) rfl rfl _ _ f64 (by rw [info_V3]; rfl) rfl (by kernel_rfl) ?_; rw [hV63]) | (refine wl_load (by kernel_rfl) rfl rfl f80 (by rw [info_V3]; rfl) Try.underlying26 rfl ?_))
  clear hg44 hV45 hg53 hV54 hV63 f64 hV71 f72 u73 hv74 f80 hq81
  refine (C6.out _).mono ?_
  rintro r w82 ⟨rfl, hb⟩
  have D83 := ds D79 hb
  clear D79
  clear hb
  obtain ⟨g84, hg86⟩ : ∃ g, w82.heap.size = g := ⟨_, rfl⟩
  have Y88 := Lib.hid (show w.heap.size < g84 ∧ g42 < g84 ∧ g51 < g84 by rw [← hg86]; exact ⟨(kb K75 D83).lt, (kb K76 D83).lt, (kb K77 D83).lt⟩)
  obtain ⟨V85, hV87⟩ : ∃ V, w82.alloc (.cells #[.float .f64 0, .float .f64 0, .float .f64 0, .float .f64 0, .float .f64 0, .float .f64 0] 26) = V := ⟨_, rfl⟩
  have K89 := ka hV87 K75 D83
  have K90 := ka hV87 K76 D83
  have K91 := ka hV87 K77 D83
  have K92 := kn hV87 hg86
  have HB93 := hba hV87 HB78 D83
  have D94 := dr V85
  clear K75 K76 K77 HB78 D83
  have Y95 := Lib.hid (And.intro Y61.out Y88.out)
  clear Y61 Y88
  obtain ⟨g96, hg98⟩ : ∃ g, V85.heap.size = g := ⟨_, rfl⟩
  have Y100 := Lib.hid (show w.heap.size < g96 ∧ g42 < g96 ∧ g51 < g96 ∧ g84 < g96 by rw [← hg98]; exact ⟨(kb K89 D94).lt, (kb K90 D94).lt, (kb K91 D94).lt, (kb K92 D94).lt⟩)
  obtain ⟨V97, hV99⟩ : ∃ V, V85.alloc (.cells #[.float .f64 0, .float .f64 0, .float .f64 0, .float .f64 0, .float .f64 0, .float .f64 0] 26) = V := ⟨_, rfl⟩
  have K101 := ka hV99 K89 D94
  have K102 := ka hV99 K90 D94
  have K103 := ka hV99 K91 D94
  have K104 := ka hV99 K92 D94
  have K105 := kn hV99 hg98
  have HB106 := hba hV99 HB93 D94
  have D107 := dr V97
  clear K89 K90 K91 K92 HB93 D94
  have Y108 := Lib.hid (And.intro Y95.out Y100.out)
  clear Y95 Y100
  have f111 := (kb K104 D107)
  obtain ⟨V109, hV110⟩ : ∃ V, World.setRow V97 (g84) (vc t6_) = V := ⟨_, rfl⟩
  have K112 := kfr hV110 K101 D107 (by have := Y108.out; omega)
  have K113 := kfr hV110 K102 D107 (by have := Y108.out; omega)
  have K114 := kfr hV110 K103 D107 (by have := Y108.out; omega)
  have K115 := ksr hV110 K104 D107
  have K116 := kfr hV110 K105 D107 (by have := Y108.out; omega)
  have HB117 := hbr hV110 HB106 D107 (by have := Y108.out; omega)
  have D118 := dr V109
  clear K101 K102 K103 K104 K105 HB106 D107
  have f121 := (kb K116 D118)
  obtain ⟨V119, hV120⟩ : ∃ V, World.setRow V109 (g96) (vc u6_) = V := ⟨_, rfl⟩
  have K122 := kfr hV120 K112 D118 (by have := Y108.out; omega)
  have K123 := kfr hV120 K113 D118 (by have := Y108.out; omega)
  have K124 := kfr hV120 K114 D118 (by have := Y108.out; omega)
  have K125 := kfr hV120 K115 D118 (by have := Y108.out; omega)
  have K126 := ksr hV120 K116 D118
  have HB127 := hbr hV120 HB117 D118 (by have := Y108.out; omega)
  have D128 := dr V119
  clear K112 K113 K114 K115 K116 HB117 D118
  obtain ⟨g129, hg131⟩ : ∃ g, V119.heap.size = g := ⟨_, rfl⟩
  have Y133 := Lib.hid (show w.heap.size < g129 ∧ g42 < g129 ∧ g51 < g129 ∧ g84 < g129 ∧ g96 < g129 by rw [← hg131]; exact ⟨(kb K122 D128).lt, (kb K123 D128).lt, (kb K124 D128).lt, (kb K125 D128).lt, (kb K126 D128).lt⟩)
  obtain ⟨V130, hV132⟩ : ∃ V, V119.alloc (.cells #[.float .f64 0, .float .f64 0] 24) = V := ⟨_, rfl⟩
  have K134 := ka hV132 K122 D128
  have K135 := ka hV132 K123 D128
  have K136 := ka hV132 K124 D128
  have K137 := ka hV132 K125 D128
  have K138 := ka hV132 K126 D128
  have K139 := kn hV132 hg131
  have HB140 := hba hV132 HB127 D128
  have D141 := dr V130
  clear K122 K123 K124 K125 K126 HB127 D128
  have Y142 := Lib.hid (And.intro Y108.out Y133.out)
  clear Y108 Y133
  obtain ⟨g143, hg145⟩ : ∃ g, V130.heap.size = g := ⟨_, rfl⟩
  have Y147 := Lib.hid (show w.heap.size < g143 ∧ g42 < g143 ∧ g51 < g143 ∧ g84 < g143 ∧ g96 < g143 ∧ g129 < g143 by rw [← hg145]; exact ⟨(kb K134 D141).lt, (kb K135 D141).lt, (kb K136 D141).lt, (kb K137 D141).lt, (kb K138 D141).lt, (kb K139 D141).lt⟩)
  obtain ⟨V144, hV146⟩ : ∃ V, V130.alloc (.cells #[.float .f64 0, .float .f64 0] 24) = V := ⟨_, rfl⟩
  have K148 := ka hV146 K134 D141
  have K149 := ka hV146 K135 D141
  have K150 := ka hV146 K136 D141
  have K151 := ka hV146 K137 D141
  have K152 := ka hV146 K138 D141
  have K153 := ka hV146 K139 D141
  have K154 := kn hV146 hg145
  have HB155 := hba hV146 HB140 D141
  have D156 := dr V144
  clear K134 K135 K136 K137 K138 K139 HB140 D141
  have Y157 := Lib.hid (And.intro Y142.out Y147.out)
  clear Y142 Y147
  have f160 := (kb K153 D156).cellsL 0 [.float .f64 0, .float .f64 0] rfl
  dsimp only [CellsL, al, vl, Nat.reduceAdd] at f160
  have u161 := (kb K153 D156).unfrozen
  obtain ⟨V158, hV159⟩ : ∃ V, setCells V144 (g129) 0 [.float .f64 4607182418800017408, .float .f64 4607182418800017408] = V := ⟨_, rfl⟩
  have hv162 := hV159
  simp only [setCells, Nat.reduceAdd] at hv162
  have K163 := kf hV159 K148 D156 (by have := Y157.out; omega)
  have K164 := kf hV159 K149 D156 (by have := Y157.out; omega)
  have K165 := kf hV159 K150 D156 (by have := Y157.out; omega)
  have K166 := kf hV159 K151 D156 (by have := Y157.out; omega)
  have K167 := kf hV159 K152 D156 (by have := Y157.out; omega)
  have K168 := Lib.hid (show Blk V158 (g129) 24 #[.float .f64 4607182418800017408, .float .f64 4607182418800017408] from (ks hV159 K153 D156).out)
  have K169 := kf hV159 K154 D156 (by have := Y157.out; omega)
  have HB170 := hbs hV159 HB155 D156 (by have := Y157.out; omega)
  have D171 := dr V158
  clear K148 K149 K150 K151 K152 K153 K154 HB155 D156
  have f174 := (kb K169 D171).cellsL 0 [.float .f64 0, .float .f64 0] rfl
  dsimp only [CellsL, al, vl, Nat.reduceAdd] at f174
  have u175 := (kb K169 D171).unfrozen
  obtain ⟨V172, hV173⟩ : ∃ V, setCells V158 (g143) 0 [.float .f64 0, .float .f64 0] = V := ⟨_, rfl⟩
  have hv176 := hV173
  simp only [setCells, Nat.reduceAdd] at hv176
  have K177 := kf hV173 K163 D171 (by have := Y157.out; omega)
  have K178 := kf hV173 K164 D171 (by have := Y157.out; omega)
  have K179 := kf hV173 K165 D171 (by have := Y157.out; omega)
  have K180 := kf hV173 K166 D171 (by have := Y157.out; omega)
  have K181 := kf hV173 K167 D171 (by have := Y157.out; omega)
  have K182 := kf hV173 K168 D171 (by have := Y157.out; omega)
  have K183 := Lib.hid (show Blk V172 (g143) 24 #[.float .f64 0, .float .f64 0] from (ks hV173 K169 D171).out)
  have HB184 := hbs hV173 HB170 D171 (by have := Y157.out; omega)
  have D185 := dr V172
  clear K163 K164 K165 K166 K167 K168 K169 HB170 D171
  go_wp2_with (first | (refine wpList_store_row rfl 26 _ _ rfl (g84) (vc t6_) rfl rfl _ _ f111 (by rw [info_V3]; rfl) rfl (by kernel_rfl) ?_; rw [hV110]) | (refine wpList_store_row rfl 26 _ _ rfl (g96) (vc u6_) rfl rfl _ _ f121 (by rw [info_V3]; rfl) rfl (by kernel_rfl) ?_; rw [hV120]))
  clear hg86 hV87 hg98 hV99 hV110 f111 hV120 f121 hg131 hV132 hg145 hV146 hV159 f160 u161 hv162 hV173 f174 u175 hv176
  refine wp_region_held (S := (fun w' => True ∧ Blk w' (g42) 26 (vc p5) ∧ Blk w' (g84) 26 (vc t6_) ∧ Blk w' (g96) 26 (vc u6_) ∧ CellsL w' (g129) 0 [.float .f64 4607182418800017408, .float .f64 4607182418800017408] ∧ CellsL w' (g143) 0 [.float .f64 0, .float .f64 0])) (by kernel_rfl) ?_
  change wpAnyH _ _ _ _ _ _ _ _ (World.drew _)
  obtain ⟨wd186, hwd⟩ : ∃ x, x = World.drew V172 := ⟨_, rfl⟩
  rw [← hwd]
  have D187 := Lib.hid (hwd ▸ Below.drew D185.out : Below V172.heap.size V172 wd186)
  clear D185 hwd
  have hS188 : True ∧ Blk wd186 (g42) 26 (vc p5) ∧ Blk wd186 (g84) 26 (vc t6_) ∧ Blk wd186 (g96) 26 (vc u6_) ∧ CellsL wd186 (g129) 0 [.float .f64 4607182418800017408, .float .f64 4607182418800017408] ∧ CellsL wd186 (g143) 0 [.float .f64 0, .float .f64 0] := ⟨trivial, (kb K178 D187), (kb K180 D187), (kb K181 D187), (kb K182 D187).cellsL 0 [.float .f64 4607182418800017408, .float .f64 4607182418800017408] rfl, (kb K183 D187).cellsL 0 [.float .f64 0, .float .f64 0] rfl⟩
  refine tkL 0 (bm 38 1) ?aq189 rfl (by kernel_rfl) (fun _ _ _ h => h) (by kernel_rfl) rfl rfl (fun _ hS => hS.2.2.1) (by rw [info_V3]; rfl) Try.underlying26 rfl ?pq189 hS188 ?rq189
  case pq189 => (go_simp; try with_reducible rfl)
  refine tkL 1 (bm 38 3) ?aq190 rfl (by kernel_rfl) (fun _ _ _ h => h) (by kernel_rfl) rfl rfl (fun _ hS => hS.2.1) (by rw [info_V3]; rfl) Try.underlying26 rfl ?pq190 hS188 ?rq190
  case pq190 => (go_simp; try with_reducible rfl)
  refine tk 3 (bm 38 11) ?vq191 ?aq191 rfl (by kernel_rfl) (fun _ _ _ h => h) (by kernel_rfl) ?hq191 ?pq191 hS188 ?rq191
  case hq191 => (intro w hS; dsimp only [CellsL, al, vl, Nat.reduceAdd] at hS; go_simp; try with_reducible rfl)
  case pq191 => (go_simp; try with_reducible rfl)
  refine wpAnyH_oneN (i := 2) (l' := bm 38 15) rfl (by kernel_rfl) (by kernel_rfl) (by kernel_rfl) (fun K hK => ?_)
  go_simp
  go_at_call 32
  refine (C7.out _).mono ?_
  rintro r w192 ⟨rfl, hb⟩
  dsimp only
  have D193 := ds D187 hb
  clear D187
  clear hb
  have hS194 : True ∧ Blk w192 (g42) 26 (vc p5) ∧ Blk w192 (g84) 26 (vc t6_) ∧ Blk w192 (g96) 26 (vc u6_) ∧ CellsL w192 (g129) 0 [.float .f64 4607182418800017408, .float .f64 4607182418800017408] ∧ CellsL w192 (g143) 0 [.float .f64 0, .float .f64 0] := ⟨trivial, (kb K178 D193), (kb K180 D193), (kb K181 D193), (kb K182 D193).cellsL 0 [.float .f64 4607182418800017408, .float .f64 4607182418800017408] rfl, (kb K183 D193).cellsL 0 [.float .f64 0, .float .f64 0] rfl⟩
  refine hK _ _ hS194 ?_
  clear hK K hS188
  refine wpAnyH_oneN (i := 4) (l' := bm 38 31) rfl (by kernel_rfl) (by kernel_rfl) (by kernel_rfl) (fun K hK => ?_)
  go_simp
  go_at_call 55
  refine (C8.out _).mono ?_
  rintro r w195 ⟨rfl, hb⟩
  dsimp only
  have D196 := ds D193 hb
  clear D193
  clear hb
  have hS197 : True ∧ Blk w195 (g42) 26 (vc p5) ∧ Blk w195 (g84) 26 (vc t6_) ∧ Blk w195 (g96) 26 (vc u6_) ∧ CellsL w195 (g129) 0 [.float .f64 4607182418800017408, .float .f64 4607182418800017408] ∧ CellsL w195 (g143) 0 [.float .f64 0, .float .f64 0] := ⟨trivial, (kb K178 D196), (kb K180 D196), (kb K181 D196), (kb K182 D196).cellsL 0 [.float .f64 4607182418800017408, .float .f64 4607182418800017408] rfl, (kb K183 D196).cellsL 0 [.float .f64 0, .float .f64 0] rfl⟩
  refine hK _ _ hS197 ?_
  clear hK K hS194
  refine tk 5 (bm 38 63) ?vq198 ?aq198 rfl (by kernel_rfl) (fun _ _ _ h => h) (by kernel_rfl) ?hq198 ?pq198 hS197 ?rq198
  case hq198 => (intro w hS; go_simp; try with_reducible rfl)
  case pq198 => (go_simp; try with_reducible rfl)
  refine tkL 6 (bm 38 127) ?aq199 rfl (by kernel_rfl) (fun _ _ _ h => h) (by kernel_rfl) rfl rfl (fun _ hS => hS.2.2.2.1) (by rw [info_V3]; rfl) Try.underlying26 rfl ?pq199 hS197 ?rq199
  case pq199 => (go_simp; try with_reducible rfl)
  refine tkL 7 (bm 38 255) ?aq200 rfl (by kernel_rfl) (fun _ _ _ h => h) (by kernel_rfl) rfl rfl (fun _ hS => hS.2.1) (by rw [info_V3]; rfl) Try.underlying26 rfl ?pq200 hS197 ?rq200
  case pq200 => (go_simp; try with_reducible rfl)
  refine tk 9 (bm 38 767) ?vq201 ?aq201 rfl (by kernel_rfl) (fun _ _ _ h => h) (by kernel_rfl) ?hq201 ?pq201 hS197 ?rq201
  case hq201 => (intro w hS; dsimp only [CellsL, al, vl, Nat.reduceAdd] at hS; go_simp; try with_reducible rfl)
  case pq201 => (go_simp; try with_reducible rfl)
  refine wpAnyH_oneN (i := 8) (l' := bm 38 1023) rfl (by kernel_rfl) (by kernel_rfl) (by kernel_rfl) (fun K hK => ?_)
  go_simp
  go_at_call 32
  refine (C9.out _).mono ?_
  rintro r w202 ⟨rfl, hb⟩
  dsimp only
  have D203 := ds D196 hb
  clear D196
  clear hb
  have hS204 : True ∧ Blk w202 (g42) 26 (vc p5) ∧ Blk w202 (g84) 26 (vc t6_) ∧ Blk w202 (g96) 26 (vc u6_) ∧ CellsL w202 (g129) 0 [.float .f64 4607182418800017408, .float .f64 4607182418800017408] ∧ CellsL w202 (g143) 0 [.float .f64 0, .float .f64 0] := ⟨trivial, (kb K178 D203), (kb K180 D203), (kb K181 D203), (kb K182 D203).cellsL 0 [.float .f64 4607182418800017408, .float .f64 4607182418800017408] rfl, (kb K183 D203).cellsL 0 [.float .f64 0, .float .f64 0] rfl⟩
  refine hK _ _ hS204 ?_
  clear hK K hS197
  refine wpAnyH_oneN (i := 10) (l' := bm 38 2047) rfl (by kernel_rfl) (by kernel_rfl) (by kernel_rfl) (fun K hK => ?_)
  go_simp
  go_at_call 55
  refine (C10.out _).mono ?_
  rintro r w205 ⟨rfl, hb⟩
  dsimp only
  have D206 := ds D203 hb
  clear D203
  clear hb
  have hS207 : True ∧ Blk w205 (g42) 26 (vc p5) ∧ Blk w205 (g84) 26 (vc t6_) ∧ Blk w205 (g96) 26 (vc u6_) ∧ CellsL w205 (g129) 0 [.float .f64 4607182418800017408, .float .f64 4607182418800017408] ∧ CellsL w205 (g143) 0 [.float .f64 0, .float .f64 0] := ⟨trivial, (kb K178 D206), (kb K180 D206), (kb K181 D206), (kb K182 D206).cellsL 0 [.float .f64 4607182418800017408, .float .f64 4607182418800017408] rfl, (kb K183 D206).cellsL 0 [.float .f64 0, .float .f64 0] rfl⟩
  refine hK _ _ hS207 ?_
  clear hK K hS204
  refine tk 11 (bm 38 4095) ?vq208 ?aq208 rfl (by kernel_rfl) (fun _ _ _ h => h) (by kernel_rfl) ?hq208 ?pq208 hS207 ?rq208
  case hq208 => (intro w hS; go_simp; try with_reducible rfl)
  case pq208 => (go_simp; try with_reducible rfl)
  refine tk 12 (bm 38 8191) ?vq209 ?aq209 rfl (by kernel_rfl) (fun _ _ _ h => h) (by kernel_rfl) ?hq209 ?pq209 hS207 ?rq209
  case hq209 => (intro w hS; go_simp; try with_reducible rfl)
  case pq209 => (go_simp; try with_reducible rfl)
  refine tkL 13 (bm 38 16383) ?aq210 rfl (by kernel_rfl) (fun _ _ _ h => h) (by kernel_rfl) rfl rfl (fun _ hS => hS.2.2.1) (by rw [info_V3]; rfl) Try.underlying26 rfl ?pq210 hS207 ?rq210
  case pq210 => (go_simp; try with_reducible rfl)
  refine tkL 14 (bm 38 32767) ?aq211 rfl (by kernel_rfl) (fun _ _ _ h => h) (by kernel_rfl) rfl rfl (fun _ hS => hS.2.2.2.1) (by rw [info_V3]; rfl) Try.underlying26 rfl ?pq211 hS207 ?rq211
  case pq211 => (go_simp; try with_reducible rfl)
  refine tk 16 (bm 38 98303) ?vq212 ?aq212 rfl (by kernel_rfl) (fun _ _ _ h => h) (by kernel_rfl) ?hq212 ?pq212 hS207 ?rq212
  case hq212 => (intro w hS; dsimp only [CellsL, al, vl, Nat.reduceAdd] at hS; go_simp; try with_reducible rfl)
  case pq212 => (go_simp; try with_reducible rfl)
  refine wpAnyH_oneN (i := 15) (l' := bm 38 131071) rfl (by kernel_rfl) (by kernel_rfl) (by kernel_rfl) (fun K hK => ?_)
  go_simp
  go_at_call 32
  refine (C11.out _).mono ?_
  rintro r w213 ⟨rfl, hb⟩
  dsimp only
  have D214 := ds D206 hb
  clear D206
  clear hb
  have hS215 : True ∧ Blk w213 (g42) 26 (vc p5) ∧ Blk w213 (g84) 26 (vc t6_) ∧ Blk w213 (g96) 26 (vc u6_) ∧ CellsL w213 (g129) 0 [.float .f64 4607182418800017408, .float .f64 4607182418800017408] ∧ CellsL w213 (g143) 0 [.float .f64 0, .float .f64 0] := ⟨trivial, (kb K178 D214), (kb K180 D214), (kb K181 D214), (kb K182 D214).cellsL 0 [.float .f64 4607182418800017408, .float .f64 4607182418800017408] rfl, (kb K183 D214).cellsL 0 [.float .f64 0, .float .f64 0] rfl⟩
  refine hK _ _ hS215 ?_
  clear hK K hS207
  refine wpAnyH_oneN (i := 17) (l' := bm 38 262143) rfl (by kernel_rfl) (by kernel_rfl) (by kernel_rfl) (fun K hK => ?_)
  go_simp
  go_at_call 55
  refine (C12.out _).mono ?_
  rintro r w216 ⟨rfl, hb⟩
  dsimp only
  have D217 := ds D214 hb
  clear D214
  clear hb
  have hS218 : True ∧ Blk w216 (g42) 26 (vc p5) ∧ Blk w216 (g84) 26 (vc t6_) ∧ Blk w216 (g96) 26 (vc u6_) ∧ CellsL w216 (g129) 0 [.float .f64 4607182418800017408, .float .f64 4607182418800017408] ∧ CellsL w216 (g143) 0 [.float .f64 0, .float .f64 0] := ⟨trivial, (kb K178 D217), (kb K180 D217), (kb K181 D217), (kb K182 D217).cellsL 0 [.float .f64 4607182418800017408, .float .f64 4607182418800017408] rfl, (kb K183 D217).cellsL 0 [.float .f64 0, .float .f64 0] rfl⟩
  refine hK _ _ hS218 ?_
  clear hK K hS215
  refine tk 18 (bm 38 524287) ?vq219 ?aq219 rfl (by kernel_rfl) (fun _ _ _ h => h) (by kernel_rfl) ?hq219 ?pq219 hS218 ?rq219
  case hq219 => (intro w hS; go_simp; try with_reducible rfl)
  case pq219 => (go_simp; try with_reducible rfl)
  refine tk 19 (bm 38 1048575) ?vq220 ?aq220 rfl (by kernel_rfl) (fun _ _ _ h => h) (by kernel_rfl) ?hq220 ?pq220 hS218 ?rq220
  case hq220 => (intro w hS; go_simp; try with_reducible rfl)
  case pq220 => (go_simp; try with_reducible rfl)
  refine tkL 20 (bm 38 2097151) ?aq221 rfl (by kernel_rfl) (fun _ _ _ h => h) (by kernel_rfl) rfl rfl (fun _ hS => hS.2.2.1) (by rw [info_V3]; rfl) Try.underlying26 rfl ?pq221 hS218 ?rq221
  case pq221 => (go_simp; try with_reducible rfl)
  refine tk 22 (bm 38 6291455) ?vq222 ?aq222 rfl (by kernel_rfl) (fun _ _ _ h => h) (by kernel_rfl) ?hq222 ?pq222 hS218 ?rq222
  case hq222 => (intro w hS; dsimp only [CellsL, al, vl, Nat.reduceAdd] at hS; go_simp; try with_reducible rfl)
  case pq222 => (go_simp; try with_reducible rfl)
  refine wpAnyH_oneN (i := 21) (l' := bm 38 8388607) rfl (by kernel_rfl) (by kernel_rfl) (by kernel_rfl) (fun K hK => ?_)
  go_simp
  go_at_call 51
  refine (C13.out _).mono ?_
  rintro r w223 ⟨rfl, hb⟩
  dsimp only
  have D224 := ds D217 hb
  clear D217
  clear hb
  have hS225 : True ∧ Blk w223 (g42) 26 (vc p5) ∧ Blk w223 (g84) 26 (vc t6_) ∧ Blk w223 (g96) 26 (vc u6_) ∧ CellsL w223 (g129) 0 [.float .f64 4607182418800017408, .float .f64 4607182418800017408] ∧ CellsL w223 (g143) 0 [.float .f64 0, .float .f64 0] := ⟨trivial, (kb K178 D224), (kb K180 D224), (kb K181 D224), (kb K182 D224).cellsL 0 [.float .f64 4607182418800017408, .float .f64 4607182418800017408] rfl, (kb K183 D224).cellsL 0 [.float .f64 0, .float .f64 0] rfl⟩
  refine hK _ _ hS225 ?_
  clear hK K hS218
  refine wpAnyH_oneN (i := 23) (l' := bm 38 16777215) rfl (by kernel_rfl) (by kernel_rfl) (by kernel_rfl) (fun K hK => ?_)
  go_simp
  go_at_call 55
  refine (C14.out _).mono ?_
  rintro r w226 ⟨rfl, hb⟩
  dsimp only
  have D227 := ds D224 hb
  clear D224
  clear hb
  have hS228 : True ∧ Blk w226 (g42) 26 (vc p5) ∧ Blk w226 (g84) 26 (vc t6_) ∧ Blk w226 (g96) 26 (vc u6_) ∧ CellsL w226 (g129) 0 [.float .f64 4607182418800017408, .float .f64 4607182418800017408] ∧ CellsL w226 (g143) 0 [.float .f64 0, .float .f64 0] := ⟨trivial, (kb K178 D227), (kb K180 D227), (kb K181 D227), (kb K182 D227).cellsL 0 [.float .f64 4607182418800017408, .float .f64 4607182418800017408] rfl, (kb K183 D227).cellsL 0 [.float .f64 0, .float .f64 0] rfl⟩
  refine hK _ _ hS228 ?_
  clear hK K hS225
  refine tk 24 (bm 38 33554431) ?vq229 ?aq229 rfl (by kernel_rfl) (fun _ _ _ h => h) (by kernel_rfl) ?hq229 ?pq229 hS228 ?rq229
  case hq229 => (intro w hS; go_simp; try with_reducible rfl)
  case pq229 => (go_simp; try with_reducible rfl)
  refine tk 25 (bm 38 67108863) ?vq230 ?aq230 rfl (by kernel_rfl) (fun _ _ _ h => h) (by kernel_rfl) ?hq230 ?pq230 hS228 ?rq230
  case hq230 => (intro w hS; go_simp; try with_reducible rfl)
  case pq230 => (go_simp; try with_reducible rfl)
  refine tkL 26 (bm 38 134217727) ?aq231 rfl (by kernel_rfl) (fun _ _ _ h => h) (by kernel_rfl) rfl rfl (fun _ hS => hS.2.2.2.1) (by rw [info_V3]; rfl) Try.underlying26 rfl ?pq231 hS228 ?rq231
  case pq231 => (go_simp; try with_reducible rfl)
  refine tk 28 (bm 38 402653183) ?vq232 ?aq232 rfl (by kernel_rfl) (fun _ _ _ h => h) (by kernel_rfl) ?hq232 ?pq232 hS228 ?rq232
  case hq232 => (intro w hS; dsimp only [CellsL, al, vl, Nat.reduceAdd] at hS; go_simp; try with_reducible rfl)
  case pq232 => (go_simp; try with_reducible rfl)
  refine wpAnyH_oneN (i := 27) (l' := bm 38 536870911) rfl (by kernel_rfl) (by kernel_rfl) (by kernel_rfl) (fun K hK => ?_)
  go_simp
  go_at_call 51
  refine (C15.out _).mono ?_
  rintro r w233 ⟨rfl, hb⟩
  dsimp only
  have D234 := ds D227 hb
  clear D227
  clear hb
  have hS235 : True ∧ Blk w233 (g42) 26 (vc p5) ∧ Blk w233 (g84) 26 (vc t6_) ∧ Blk w233 (g96) 26 (vc u6_) ∧ CellsL w233 (g129) 0 [.float .f64 4607182418800017408, .float .f64 4607182418800017408] ∧ CellsL w233 (g143) 0 [.float .f64 0, .float .f64 0] := ⟨trivial, (kb K178 D234), (kb K180 D234), (kb K181 D234), (kb K182 D234).cellsL 0 [.float .f64 4607182418800017408, .float .f64 4607182418800017408] rfl, (kb K183 D234).cellsL 0 [.float .f64 0, .float .f64 0] rfl⟩
  refine hK _ _ hS235 ?_
  clear hK K hS228
  refine wpAnyH_oneN (i := 29) (l' := bm 38 1073741823) rfl (by kernel_rfl) (by kernel_rfl) (by kernel_rfl) (fun K hK => ?_)
  go_simp
  go_at_call 55
  refine (C16.out _).mono ?_
  rintro r w236 ⟨rfl, hb⟩
  dsimp only
  have D237 := ds D234 hb
  clear D234
  clear hb
  have hS238 : True ∧ Blk w236 (g42) 26 (vc p5) ∧ Blk w236 (g84) 26 (vc t6_) ∧ Blk w236 (g96) 26 (vc u6_) ∧ CellsL w236 (g129) 0 [.float .f64 4607182418800017408, .float .f64 4607182418800017408] ∧ CellsL w236 (g143) 0 [.float .f64 0, .float .f64 0] := ⟨trivial, (kb K178 D237), (kb K180 D237), (kb K181 D237), (kb K182 D237).cellsL 0 [.float .f64 4607182418800017408, .float .f64 4607182418800017408] rfl, (kb K183 D237).cellsL 0 [.float .f64 0, .float .f64 0] rfl⟩
  refine hK _ _ hS238 ?_
  clear hK K hS235
  refine tk 30 (bm 38 2147483647) ?vq239 ?aq239 rfl (by kernel_rfl) (fun _ _ _ h => h) (by kernel_rfl) ?hq239 ?pq239 hS238 ?rq239
  case hq239 => (intro w hS; go_simp; try with_reducible rfl)
  case pq239 => (go_simp; try with_reducible rfl)
  refine tk 31 (bm 38 4294967295) ?vq240 ?aq240 rfl (by kernel_rfl) (fun _ _ _ h => h) (by kernel_rfl) ?hq240 ?pq240 hS238 ?rq240
  case hq240 => (intro w hS; go_simp; try with_reducible rfl)
  case pq240 => (go_simp; try with_reducible rfl)
  refine tkL 32 (bm 38 8589934591) ?aq241 rfl (by kernel_rfl) (fun _ _ _ h => h) (by kernel_rfl) rfl rfl (fun _ hS => hS.2.1) (by rw [info_V3]; rfl) Try.underlying26 rfl ?pq241 hS238 ?rq241
  case pq241 => (go_simp; try with_reducible rfl)
  refine tk 34 (bm 38 25769803775) ?vq242 ?aq242 rfl (by kernel_rfl) (fun _ _ _ h => h) (by kernel_rfl) ?hq242 ?pq242 hS238 ?rq242
  case hq242 => (intro w hS; dsimp only [CellsL, al, vl, Nat.reduceAdd] at hS; go_simp; try with_reducible rfl)
  case pq242 => (go_simp; try with_reducible rfl)
  refine wpAnyH_oneN (i := 33) (l' := bm 38 34359738367) rfl (by kernel_rfl) (by kernel_rfl) (by kernel_rfl) (fun K hK => ?_)
  go_simp
  go_at_call 51
  refine (C17.out _).mono ?_
  rintro r w243 ⟨rfl, hb⟩
  dsimp only
  have D244 := ds D237 hb
  clear D237
  clear hb
  have hS245 : True ∧ Blk w243 (g42) 26 (vc p5) ∧ Blk w243 (g84) 26 (vc t6_) ∧ Blk w243 (g96) 26 (vc u6_) ∧ CellsL w243 (g129) 0 [.float .f64 4607182418800017408, .float .f64 4607182418800017408] ∧ CellsL w243 (g143) 0 [.float .f64 0, .float .f64 0] := ⟨trivial, (kb K178 D244), (kb K180 D244), (kb K181 D244), (kb K182 D244).cellsL 0 [.float .f64 4607182418800017408, .float .f64 4607182418800017408] rfl, (kb K183 D244).cellsL 0 [.float .f64 0, .float .f64 0] rfl⟩
  refine hK _ _ hS245 ?_
  clear hK K hS238
  refine wpAnyH_oneN (i := 35) (l' := bm 38 68719476735) rfl (by kernel_rfl) (by kernel_rfl) (by kernel_rfl) (fun K hK => ?_)
  go_simp
  go_at_call 55
  refine (C18.out _).mono ?_
  rintro r w246 ⟨rfl, hb⟩
  dsimp only
  have D247 := ds D244 hb
  clear D244
  clear hb
  have hS248 : True ∧ Blk w246 (g42) 26 (vc p5) ∧ Blk w246 (g84) 26 (vc t6_) ∧ Blk w246 (g96) 26 (vc u6_) ∧ CellsL w246 (g129) 0 [.float .f64 4607182418800017408, .float .f64 4607182418800017408] ∧ CellsL w246 (g143) 0 [.float .f64 0, .float .f64 0] := ⟨trivial, (kb K178 D247), (kb K180 D247), (kb K181 D247), (kb K182 D247).cellsL 0 [.float .f64 4607182418800017408, .float .f64 4607182418800017408] rfl, (kb K183 D247).cellsL 0 [.float .f64 0, .float .f64 0] rfl⟩
  refine hK _ _ hS248 ?_
  clear hK K hS245
  refine tk 36 (bm 38 137438953471) ?vq249 ?aq249 rfl (by kernel_rfl) (fun _ _ _ h => h) (by kernel_rfl) ?hq249 ?pq249 hS248 ?rq249
  case hq249 => (intro w hS; go_simp; try with_reducible rfl)
  case pq249 => (go_simp; try with_reducible rfl)
  refine tk 37 (bm 38 274877906943) ?vq250 ?aq250 rfl (by kernel_rfl) (fun _ _ _ h => h) (by kernel_rfl) ?hq250 ?pq250 hS248 ?rq250
  case hq250 => (intro w hS; go_simp; try with_reducible rfl)
  case pq250 => (go_simp; try with_reducible rfl)
  refine wpAnyH_done (by kernel_rfl) ?_ _
  clear hS248
  go_wp2_with fail
  go_ret
  exact ⟨rfl, below_step HB184.out D247.out⟩
end Go.Proofs.Ytdgaaceebghcpaa
