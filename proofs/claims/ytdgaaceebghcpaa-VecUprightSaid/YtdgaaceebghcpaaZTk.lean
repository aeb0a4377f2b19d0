/- The walks of vec.Most, vec.Frame (gen_tk.py). -/
import Derived.Test.YtdgaaceebghcpaaZTe
set_option linter.unusedVariables false
set_option linter.unusedSimpArgs false
namespace Go.Proofs.Ytdgaaceebghcpaa
open Go.RowKit Fl

theorem pos_lit {a : Sp} {k : Nat} (h : posS a = k) (w : World) : Calls Try.prog 96 #[.agg #[.float .f64 a.lo, .float .f64 a.hi]] w fun r w' => r = .returned (.int .i64 (k : Nat)) ∧ Below w.heap.size w w' := h ▸ pos_sp a w
set_option maxRecDepth 100000 in
set_option maxHeartbeats 8000000 in
theorem frame_1 (n : V3) (h : posS (negS n.z) = 1) (w : World) : Calls Try.prog 54 #[Value.agg #[.float .f64 n.x.lo, .float .f64 n.x.hi, .float .f64 n.y.lo, .float .f64 n.y.hi, .float .f64 n.z.lo, .float .f64 n.z.hi]] w fun r w' => r = .returned (.tuple #[vval (frT (ofS 13830554455654793216) n), vval (frU (ofS 13830554455654793216) n), .int .i64 1]) ∧ Below w.heap.size w w' := by
  have C0 := Lib.hid (fun w => neg_sp n.z w)
  obtain ⟨p0, hp0⟩ : ∃ z_, negS n.z = z_ := ⟨_, rfl⟩
  rw [hp0] at C0
  have hl : posS p0 = 1 := by rw [← hp0]; exact h
  clear h
  have C1 := Lib.hid (fun w => pos_lit hl w)
  have C2 := Lib.hid (fun w => of_sp 13830554455654793216 (by decide) w)
  obtain ⟨p2, hp2⟩ : ∃ z_, ofS 13830554455654793216 = z_ := ⟨_, rfl⟩
  rw [hp2] at C2
  have C3 := Lib.hid (fun w => of_sp 4607182418800017408 (by decide) w)
  obtain ⟨p3, hp3⟩ : ∃ z_, ofS 4607182418800017408 = z_ := ⟨_, rfl⟩
  rw [hp3] at C3
  have C4 := Lib.hid (fun w => add_sp p2 n.z w)
  obtain ⟨p4, hp4⟩ : ∃ z_, addS p2 n.z = z_ := ⟨_, rfl⟩
  rw [hp4] at C4
  have C5 := Lib.hid (fun w => div_sp p3 p4 w)
  obtain ⟨p5, hp5⟩ : ∃ z_, divS p3 p4 = z_ := ⟨_, rfl⟩
  rw [hp5] at C5
  have C6 := Lib.hid (fun w => neg_sp p5 w)
  obtain ⟨p6, hp6⟩ : ∃ z_, negS p5 = z_ := ⟨_, rfl⟩
  rw [hp6] at C6
  have C7 := Lib.hid (fun w => mul_sp n.x n.y w)
  obtain ⟨p7, hp7⟩ : ∃ z_, mulS n.x n.y = z_ := ⟨_, rfl⟩
  rw [hp7] at C7
  have C8 := Lib.hid (fun w => mul_sp p7 p6 w)
  obtain ⟨p8, hp8⟩ : ∃ z_, mulS p7 p6 = z_ := ⟨_, rfl⟩
  rw [hp8] at C8
  have C9 := Lib.hid (fun w => of_sp 4607182418800017408 (by decide) w)
  rw [hp3] at C9
  have C10 := Lib.hid (fun w => sqr_sp n.x w)
  obtain ⟨p10, hp10⟩ : ∃ z_, sqrS n.x = z_ := ⟨_, rfl⟩
  rw [hp10] at C10
  have C11 := Lib.hid (fun w => mul_sp p2 p10 w)
  obtain ⟨p11, hp11⟩ : ∃ z_, mulS p2 p10 = z_ := ⟨_, rfl⟩
  rw [hp11] at C11
  have C12 := Lib.hid (fun w => mul_sp p11 p6 w)
  obtain ⟨p12, hp12⟩ : ∃ z_, mulS p11 p6 = z_ := ⟨_, rfl⟩
  rw [hp12] at C12
  have C13 := Lib.hid (fun w => add_sp p3 p12 w)
  obtain ⟨p13, hp13⟩ : ∃ z_, addS p3 p12 = z_ := ⟨_, rfl⟩
  rw [hp13] at C13
  have C14 := Lib.hid (fun w => mul_sp p2 p8 w)
  obtain ⟨p14, hp14⟩ : ∃ z_, mulS p2 p8 = z_ := ⟨_, rfl⟩
  rw [hp14] at C14
  have C15 := Lib.hid (fun w => mul_sp p2 n.x w)
  obtain ⟨p15, hp15⟩ : ∃ z_, mulS p2 n.x = z_ := ⟨_, rfl⟩
  rw [hp15] at C15
  have C16 := Lib.hid (fun w => neg_sp p15 w)
  obtain ⟨p16, hp16⟩ : ∃ z_, negS p15 = z_ := ⟨_, rfl⟩
  rw [hp16] at C16
  have C17 := Lib.hid (fun w => sqr_sp n.y w)
  obtain ⟨p17, hp17⟩ : ∃ z_, sqrS n.y = z_ := ⟨_, rfl⟩
  rw [hp17] at C17
  have C18 := Lib.hid (fun w => mul_sp p17 p6 w)
  obtain ⟨p18, hp18⟩ : ∃ z_, mulS p17 p6 = z_ := ⟨_, rfl⟩
  rw [hp18] at C18
  have C19 := Lib.hid (fun w => add_sp p2 p18 w)
  obtain ⟨p19, hp19⟩ : ∃ z_, addS p2 p18 = z_ := ⟨_, rfl⟩
  rw [hp19] at C19
  have C20 := Lib.hid (fun w => neg_sp n.y w)
  obtain ⟨p20, hp20⟩ : ∃ z_, negS n.y = z_ := ⟨_, rfl⟩
  rw [hp20] at C20
  have hT0 : frT (ofS 13830554455654793216) n = (⟨p13, p14, p16⟩ : V3) := by
    subst hp0 hp2 hp3 hp4 hp5 hp6 hp7 hp8 hp10 hp11 hp12 hp13 hp14 hp15 hp16 hp17 hp18 hp19 hp20; rfl
  have hT1 : frU (ofS 13830554455654793216) n = (⟨p8, p19, p20⟩ : V3) := by
    subst hp0 hp2 hp3 hp4 hp5 hp6 hp7 hp8 hp10 hp11 hp12 hp13 hp14 hp15 hp16 hp17 hp18 hp19 hp20; rfl
  rw [hT0, hT1]
  clear hT0 hT1
  clear hp0 hp2 hp3 hp4 hp5 hp6 hp7 hp8 hp10 hp11 hp12 hp13 hp14 hp15 hp16 hp17 hp18 hp19 hp20
  go_enter Try.func54, Try.ntmps54
  go_wp2_with fail
  obtain ⟨W, hW, K0, K1, K2, hB, hz⟩ := bx3 w 26 26 26 (vc n) #[.float .f64 0, .float .f64 0, .float .f64 0, .float .f64 0, .float .f64 0, .float .f64 0] #[.float .f64 0, .float .f64 0, .float .f64 0, .float .f64 0, .float .f64 0, .float .f64 0]
  rw [← hW]
  have K0 := Lib.hid K0
  have K1 := Lib.hid K1
  have K2 := Lib.hid K2
  have HB := Lib.hid hB
  clear hW hB hz
  have D1 := dr W
  refine (C0.out _).mono ?_
  rintro r w2 ⟨rfl, hb⟩
  have D3 := ds D1 hb
  clear D1
  clear hb
  go_wp2_with fail
  refine (C1.out _).mono ?_
  rintro r w4 ⟨rfl, hb⟩
  have D5 := ds D3 hb
  clear D3
  clear hb
  go_wp2_with fail
  refine (C2.out _).mono ?_
  rintro r w6 ⟨rfl, hb⟩
  have D7 := ds D5 hb
  clear D5
  clear hb
  obtain ⟨g8, hg10⟩ : ∃ g, w6.heap.size = g := ⟨_, rfl⟩
  have Y12 := Lib.hid (show w.heap.size < g8 ∧ w.heap.size + 1 < g8 ∧ w.heap.size + 1 + 1 < g8 by rw [← hg10]; exact ⟨(kb K0 D7).lt, (kb K1 D7).lt, (kb K2 D7).lt⟩)
  obtain ⟨V9, hV11⟩ : ∃ V, w6.alloc (.cells #[.float .f64 0, .float .f64 0] 24) = V := ⟨_, rfl⟩
  have K13 := ka hV11 K0 D7
  have K14 := ka hV11 K1 D7
  have K15 := ka hV11 K2 D7
  have K16 := kn hV11 hg10
  have HB17 := hba hV11 HB D7
  have D18 := dr V9
  clear K0 K1 K2 HB D7
  have f21 := (kb K16 D18).cellsL 0 [.float .f64 0, .float .f64 0] rfl
  dsimp only [CellsL, al, vl, Nat.reduceAdd] at f21
  have u22 := (kb K16 D18).unfrozen
  obtain ⟨V19, hV20⟩ : ∃ V, setCells V9 (g8) 0 [.float .f64 p2.lo, .float .f64 p2.hi] = V := ⟨_, rfl⟩
  have hv23 := hV20
  simp only [setCells, Nat.reduceAdd] at hv23
  have K24 := kf hV20 K13 D18 (by have := Y12.out; omega)
  have K25 := kf hV20 K14 D18 (by have := Y12.out; omega)
  have K26 := kf hV20 K15 D18 (by have := Y12.out; omega)
  have K27 := Lib.hid (show Blk V19 (g8) 24 #[.float .f64 p2.lo, .float .f64 p2.hi] from (ks hV20 K16 D18).out)
  have HB28 := hbs hV20 HB17 D18 (by have := Y12.out; omega)
  have D29 := dr V19
  clear K13 K14 K15 K16 HB17 D18
  go_wp2_with fail
  clear hg10 hV11 hV20 f21 u22 hv23
  refine wp_region_held (S := (fun w' => True ∧ CellsL w' (w.heap.size) 4 [.float .f64 n.z.lo, .float .f64 n.z.hi] ∧ CellsL w' (g8) 0 [.float .f64 p2.lo, .float .f64 p2.hi])) (by kernel_rfl) ?_
  change wpAnyH _ _ _ _ _ _ _ _ (World.drew _)
  obtain ⟨wd30, hwd⟩ : ∃ x, x = World.drew V19 := ⟨_, rfl⟩
  rw [← hwd]
  have D31 := Lib.hid (hwd ▸ Below.drew D29.out : Below V19.heap.size V19 wd30)
  clear D29 hwd
  have hS32 : True ∧ CellsL wd30 (w.heap.size) 4 [.float .f64 n.z.lo, .float .f64 n.z.hi] ∧ CellsL wd30 (g8) 0 [.float .f64 p2.lo, .float .f64 p2.hi] := ⟨trivial, (kb K24 D31).cellsL 4 [.float .f64 n.z.lo, .float .f64 n.z.hi] rfl, (kb K27 D31).cellsL 0 [.float .f64 p2.lo, .float .f64 p2.hi] rfl⟩
  refine tk 1 (bm 9 2) ?vq33 ?aq33 rfl (by kernel_rfl) (fun _ _ _ h => h) (by kernel_rfl) ?hq33 ?pq33 hS32 ?rq33
  case hq33 => (intro w hS; dsimp only [CellsL, al, vl, Nat.reduceAdd] at hS; go_simp; try with_reducible rfl)
  case pq33 => (go_simp; try with_reducible rfl)
  refine tk 2 (bm 9 6) ?vq34 ?aq34 rfl (by kernel_rfl) (fun _ _ _ h => h) (by kernel_rfl) ?hq34 ?pq34 hS32 ?rq34
  case hq34 => (intro w hS; go_simp; try with_reducible rfl)
  case pq34 => (go_simp; try with_reducible rfl)
  refine tk 3 (bm 9 14) ?vq35 ?aq35 rfl (by kernel_rfl) (fun _ _ _ h => h) (by kernel_rfl) ?hq35 ?pq35 hS32 ?rq35
  case hq35 => (intro w hS; dsimp only [CellsL, al, vl, Nat.reduceAdd] at hS; go_simp; try with_reducible rfl)
  case pq35 => (go_simp; try with_reducible rfl)
  have HS36 := Lib.hid (show ∀ w', Below V19.heap.size V19 w' → (True ∧ CellsL w' (w.heap.size) 4 [.float .f64 n.z.lo, .float .f64 n.z.hi] ∧ CellsL w' (g8) 0 [.float .f64 p2.lo, .float .f64 p2.hi]) from fun w' b => ⟨trivial, (K24.out.below b K24.out.lt).cellsL 4 [.float .f64 n.z.lo, .float .f64 n.z.hi] rfl, (K27.out.below b K27.out.lt).cellsL 0 [.float .f64 p2.lo, .float .f64 p2.hi] rfl⟩)
  refine wpAnyH_sets2 (N := 9) (stop := 255) (F := 1) (m := 14) (R := [0, 4, 5, 6, 7]) (M := [14, 15, 142, 31, 143, 63, 159, 127, 191, 255]) (fun i => if i = 0 then 0 else if i = 4 then 11 else if i = 5 then 17 else if i = 6 then 32 else if i = 7 then 0 else 0) (fun a0 m a w9 => ∃ (v0 v4 v5 v6 p7_ : Value) (g7_ : Nat), a = (((((a0.put (some 22) v0).put (some 26) v4).put (some 27) v5).put (some 28) v6).put (some 8) p7_) ∧ Below V19.heap.size V19 w9 ∧ (m.testBit 0 = true → v0 = Value.agg #[.float .f64 p3.lo, .float .f64 p3.hi]) ∧ (m.testBit 4 = true → v4 = Value.agg #[.float .f64 p4.lo, .float .f64 p4.hi]) ∧ (m.testBit 5 = true → v5 = Value.agg #[.float .f64 p5.lo, .float .f64 p5.hi]) ∧ (m.testBit 6 = true → v6 = Value.agg #[.float .f64 p6.lo, .float .f64 p6.hi]) ∧ (m.testBit 7 = true → p7_ = .pointer (some ⟨g7_, 0, none⟩) ∧ Blk w9 g7_ 24 #[.float .f64 0, .float .f64 0] ∧ V19.heap.size ≤ g7_)) (by kernel_rfl) (by kernel_rfl) (by kernel_rfl) (by kernel_rfl) ?st9 ?sp9 ?re9
  case st9 =>
    exact ⟨undef, undef, undef, undef, undef, 0, by go_simp, D31.out, fun h => absurd h (by decide), fun h => absurd h (by decide), fun h => absurd h (by decide), fun h => absurd h (by decide), fun h => absurd h (by decide)⟩
  case sp9 =>
    intro m a' w9 i hi hm hd hJ
    obtain ⟨v0, v4, v5, v6, p7_, g7_, rfl, hb0, cl0, cl4, cl5, cl6, ql7⟩ := hJ
    have CL0 := Lib.hid cl0
    have CL4 := Lib.hid cl4
    have CL5 := Lib.hid cl5
    have CL6 := Lib.hid cl6
    have QL7 := Lib.hid ql7
    have HB0 := Lib.hid hb0
    clear cl0 cl4 cl5 cl6 ql7 hb0 hS32
    simp only [List.mem_cons, List.not_mem_nil, or_false] at hi
    rcases hi with rfl | rfl | rfl | rfl | rfl
    · refine wpOp_at rfl (by kernel_rfl) (fun K hK => ?_)
      have hd := fun j => @tb_of _ _ j hd
      go_simp
      go_at_call 76
      refine (C3.out _).mono ?_
      rintro r w10 ⟨rfl, hb⟩
      dsimp only
      have hb1 := below_step HB0.out hb
      exact hK _ _ ⟨HS36.out _ hb1, _, v4, v5, v6, p7_, g7_, by go_simp, hb1, fun _ => rfl, fun h => CL4.out (by rwa [tb_ne (by decide)] at h), fun h => CL5.out (by rwa [tb_ne (by decide)] at h), fun h => CL6.out (by rwa [tb_ne (by decide)] at h), fun h => ⟨(QL7.out (by rwa [tb_ne (by decide)] at h)).1, (QL7.out (by rwa [tb_ne (by decide)] at h)).2.1.below hb (QL7.out (by rwa [tb_ne (by decide)] at h)).2.1.lt, (QL7.out (by rwa [tb_ne (by decide)] at h)).2.2⟩⟩
    · refine wpOp_at rfl (by kernel_rfl) (fun K hK => ?_)
      have hd := fun j => @tb_of _ _ j hd
      obtain rfl := CL0.out (hd _ (by decide))
      go_simp
      go_at_call 75
      refine (C4.out _).mono ?_
      rintro r w10 ⟨rfl, hb⟩
      dsimp only
      have hb1 := below_step HB0.out hb
      exact hK _ _ ⟨HS36.out _ hb1, _, _, v5, v6, p7_, g7_, by go_simp, hb1, fun _ => rfl, fun _ => rfl, fun h => CL5.out (by rwa [tb_ne (by decide)] at h), fun h => CL6.out (by rwa [tb_ne (by decide)] at h), fun h => ⟨(QL7.out (by rwa [tb_ne (by decide)] at h)).1, (QL7.out (by rwa [tb_ne (by decide)] at h)).2.1.below hb (QL7.out (by rwa [tb_ne (by decide)] at h)).2.1.lt, (QL7.out (by rwa [tb_ne (by decide)] at h)).2.2⟩⟩
    · refine wpOp_at rfl (by kernel_rfl) (fun K hK => ?_)
      have hd := fun j => @tb_of _ _ j hd
      obtain rfl := CL0.out (hd _ (by decide))
      obtain rfl := CL4.out (hd _ (by decide))
      go_simp
      go_at_call 71
      refine (C5.out _).mono ?_
      rintro r w10 ⟨rfl, hb⟩
      dsimp only
      have hb1 := below_step HB0.out hb
      exact hK _ _ ⟨HS36.out _ hb1, _, _, _, v6, p7_, g7_, by go_simp, hb1, fun _ => rfl, fun _ => rfl, fun _ => rfl, fun h => CL6.out (by rwa [tb_ne (by decide)] at h), fun h => ⟨(QL7.out (by rwa [tb_ne (by decide)] at h)).1, (QL7.out (by rwa [tb_ne (by decide)] at h)).2.1.below hb (QL7.out (by rwa [tb_ne (by decide)] at h)).2.1.lt, (QL7.out (by rwa [tb_ne (by decide)] at h)).2.2⟩⟩
    · refine wpOp_at rfl (by kernel_rfl) (fun K hK => ?_)
      have hd := fun j => @tb_of _ _ j hd
      obtain rfl := CL5.out (hd _ (by decide))
      go_simp
      go_at_call 83
      refine (C6.out _).mono ?_
      rintro r w10 ⟨rfl, hb⟩
      dsimp only
      have hb1 := below_step HB0.out hb
      exact hK _ _ ⟨HS36.out _ hb1, v0, v4, _, _, p7_, g7_, by go_simp, hb1, fun h => CL0.out (by rwa [tb_ne (by decide)] at h), fun h => CL4.out (by rwa [tb_ne (by decide)] at h), fun _ => rfl, fun _ => rfl, fun h => ⟨(QL7.out (by rwa [tb_ne (by decide)] at h)).1, (QL7.out (by rwa [tb_ne (by decide)] at h)).2.1.below hb (QL7.out (by rwa [tb_ne (by decide)] at h)).2.1.lt, (QL7.out (by rwa [tb_ne (by decide)] at h)).2.2⟩⟩
    · refine wpOp_at rfl (by kernel_rfl) (fun K hK => ?_)
      have hd := fun j => @tb_of _ _ j hd
      go_simp
      have hb1 := below_more HB0.out (.cells #[.float .f64 0, .float .f64 0] 24)
      exact hK _ _ ⟨HS36.out _ hb1, v0, v4, v5, v6, .pointer (some ⟨w9.heap.size, 0, none⟩), w9.heap.size, by go_simp, hb1, fun h => CL0.out (by rwa [tb_ne (by decide)] at h), fun h => CL4.out (by rwa [tb_ne (by decide)] at h), fun h => CL5.out (by rwa [tb_ne (by decide)] at h), fun h => CL6.out (by rwa [tb_ne (by decide)] at h), fun _ => ⟨rfl, Blk.new_at _ _ _ rfl, HB0.out.size⟩⟩
  clear hS32 D31 HS36
  intro a' W50 hJ
  obtain ⟨v0, v4, v5, v6, p7_, g51, rfl, hb0, cl0, cl4, cl5, cl6, ql7⟩ := hJ
  obtain rfl := cl0 (by decide)
  obtain rfl := cl4 (by decide)
  obtain rfl := cl5 (by decide)
  obtain rfl := cl6 (by decide)
  obtain ⟨rfl, kk7, ll7⟩ := ql7 (by decide)
  have D39 := Lib.hid hb0
  clear hb0
  refine wpAnyH_frame (a' := ?frq38) ?feq38 ?fgq38
  case feq38 => (go_simp; try with_reducible rfl)
  have K41 := Lib.hid ((kb K24 D39) : Blk W50 (w.heap.size) 26 (vc n))
  have K42 := Lib.hid ((kb K25 D39) : Blk W50 (w.heap.size + 1) 26 #[.float .f64 0, .float .f64 0, .float .f64 0, .float .f64 0, .float .f64 0, .float .f64 0])
  have K43 := Lib.hid ((kb K26 D39) : Blk W50 (w.heap.size + 1 + 1) 26 #[.float .f64 0, .float .f64 0, .float .f64 0, .float .f64 0, .float .f64 0, .float .f64 0])
  have K44 := Lib.hid ((kb K27 D39) : Blk W50 (g8) 24 #[.float .f64 p2.lo, .float .f64 p2.hi])
  have K45 := Lib.hid kk7
  clear kk7
  have HB48 := Lib.hid (below_step HB28.out D39.out)
  have Y47 := Lib.hid (show w.heap.size ≤ g51 ∧ w.heap.size < g51 ∧ w.heap.size + 1 < g51 ∧ w.heap.size + 1 + 1 < g51 ∧ g8 < g51 from ⟨Nat.le_trans HB28.out.size ll7, Nat.lt_of_lt_of_le K24.out.lt ll7, Nat.lt_of_lt_of_le K25.out.lt ll7, Nat.lt_of_lt_of_le K26.out.lt ll7, Nat.lt_of_lt_of_le K27.out.lt ll7⟩)
  have Y49 := Lib.hid (And.intro Y12.out Y47.out)
  clear Y12 Y47
  clear K24 K25 K26 K27 ll7 HB28
  have D52 := Lib.hid (Below.refl W50.heap.size W50)
  clear D39
  have hS53 : True ∧ CellsL W50 (w.heap.size) 4 [.float .f64 n.z.lo, .float .f64 n.z.hi] ∧ CellsL W50 (g8) 0 [.float .f64 p2.lo, .float .f64 p2.hi] := ⟨trivial, (kb K41 D52).cellsL 4 [.float .f64 n.z.lo, .float .f64 n.z.hi] rfl, (kb K44 D52).cellsL 0 [.float .f64 p2.lo, .float .f64 p2.hi] rfl⟩
  refine wpAnyH_oneM (i := 8) (l' := bm 9 511) rfl (by kernel_rfl) (by kernel_rfl) (by kernel_rfl) (fun K hK => ?_)
  have f56 := (kb K45 D52).cellsL 0 [.float .f64 0, .float .f64 0] rfl
  dsimp only [CellsL, al, vl, Nat.reduceAdd] at f56
  have u57 := (kb K45 D52).unfrozen
  obtain ⟨V54, hV55⟩ : ∃ V, setCells W50 (g51) 0 [.float .f64 p6.lo, .float .f64 p6.hi] = V := ⟨_, rfl⟩
  have hv58 := hV55
  simp only [setCells, Nat.reduceAdd] at hv58
  have K59 := kf hV55 K41 D52 (by have := Y49.out; omega)
  have K60 := kf hV55 K42 D52 (by have := Y49.out; omega)
  have K61 := kf hV55 K43 D52 (by have := Y49.out; omega)
  have K62 := kf hV55 K44 D52 (by have := Y49.out; omega)
  have K63 := Lib.hid (show Blk V54 (g51) 24 #[.float .f64 p6.lo, .float .f64 p6.hi] from (ks hV55 K45 D52).out)
  have HB64 := hbs hV55 HB48 D52 (by have := Y49.out; omega)
  have D65 := dr V54
  clear K41 K42 K43 K44 K45 HB48 D52
  go_simp
  clear hV55 f56 u57 hv58
  have hS66 : True ∧ CellsL V54 (w.heap.size) 4 [.float .f64 n.z.lo, .float .f64 n.z.hi] ∧ CellsL V54 (g8) 0 [.float .f64 p2.lo, .float .f64 p2.hi] := ⟨trivial, (kb K59 D65).cellsL 4 [.float .f64 n.z.lo, .float .f64 n.z.hi] rfl, (kb K62 D65).cellsL 0 [.float .f64 p2.lo, .float .f64 p2.hi] rfl⟩
  refine hK _ _ hS66 ?_
  clear hK K hS53
  refine wpAnyH_done (by kernel_rfl) ?_ _
  clear hS66
  go_wp2_with fail
  refine wp_region_held (S := (fun w' => True ∧ CellsL w' (w.heap.size) 0 [.float .f64 n.x.lo, .float .f64 n.x.hi, .float .f64 n.y.lo, .float .f64 n.y.hi] ∧ CellsL w' (g51) 0 [.float .f64 p6.lo, .float .f64 p6.hi])) (by kernel_rfl) ?_
  change wpAnyH _ _ _ _ _ _ _ _ (World.drew _)
  obtain ⟨wd67, hwd⟩ : ∃ x, x = World.drew V54 := ⟨_, rfl⟩
  rw [← hwd]
  have D68 := Lib.hid (hwd ▸ Below.drew D65.out : Below V54.heap.size V54 wd67)
  clear D65 hwd
  have hS69 : True ∧ CellsL wd67 (w.heap.size) 0 [.float .f64 n.x.lo, .float .f64 n.x.hi, .float .f64 n.y.lo, .float .f64 n.y.hi] ∧ CellsL wd67 (g51) 0 [.float .f64 p6.lo, .float .f64 p6.hi] := ⟨trivial, (kb K59 D68).cellsL 0 [.float .f64 n.x.lo, .float .f64 n.x.hi, .float .f64 n.y.lo, .float .f64 n.y.hi] rfl, (kb K63 D68).cellsL 0 [.float .f64 p6.lo, .float .f64 p6.hi] rfl⟩
  refine tk 0 (bm 9 1) ?vq70 ?aq70 rfl (by kernel_rfl) (fun _ _ _ h => h) (by kernel_rfl) ?hq70 ?pq70 hS69 ?rq70
  case hq70 => (intro w hS; go_simp; try with_reducible rfl)
  case pq70 => (go_simp; try with_reducible rfl)
  refine tk 1 (bm 9 3) ?vq71 ?aq71 rfl (by kernel_rfl) (fun _ _ _ h => h) (by kernel_rfl) ?hq71 ?pq71 hS69 ?rq71
  case hq71 => (intro w hS; dsimp only [CellsL, al, vl, Nat.reduceAdd] at hS; go_simp; try with_reducible rfl)
  case pq71 => (go_simp; try with_reducible rfl)
  refine tk 2 (bm 9 7) ?vq72 ?aq72 rfl (by kernel_rfl) (fun _ _ _ h => h) (by kernel_rfl) ?hq72 ?pq72 hS69 ?rq72
  case hq72 => (intro w hS; go_simp; try with_reducible rfl)
  case pq72 => (go_simp; try with_reducible rfl)
  refine tk 3 (bm 9 15) ?vq73 ?aq73 rfl (by kernel_rfl) (fun _ _ _ h => h) (by kernel_rfl) ?hq73 ?pq73 hS69 ?rq73
  case hq73 => (intro w hS; dsimp only [CellsL, al, vl, Nat.reduceAdd] at hS; go_simp; try with_reducible rfl)
  case pq73 => (go_simp; try with_reducible rfl)
  refine tk 5 (bm 9 47) ?vq74 ?aq74 rfl (by kernel_rfl) (fun _ _ _ h => h) (by kernel_rfl) ?hq74 ?pq74 hS69 ?rq74
  case hq74 => (intro w hS; dsimp only [CellsL, al, vl, Nat.reduceAdd] at hS; go_simp; try with_reducible rfl)
  case pq74 => (go_simp; try with_reducible rfl)
  have HS75 := Lib.hid (show ∀ w', Below V54.heap.size V54 w' → (True ∧ CellsL w' (w.heap.size) 0 [.float .f64 n.x.lo, .float .f64 n.x.hi, .float .f64 n.y.lo, .float .f64 n.y.hi] ∧ CellsL w' (g51) 0 [.float .f64 p6.lo, .float .f64 p6.hi]) from fun w' b => ⟨trivial, (K59.out.below b K59.out.lt).cellsL 0 [.float .f64 n.x.lo, .float .f64 n.x.hi, .float .f64 n.y.lo, .float .f64 n.y.hi] rfl, (K63.out.below b K63.out.lt).cellsL 0 [.float .f64 p6.lo, .float .f64 p6.hi] rfl⟩)
  refine wpAnyH_sets2 (N := 9) (stop := 255) (F := 1) (m := 47) (R := [4, 6, 7]) (M := [47, 63, 175, 127, 191, 255]) (fun i => if i = 4 then 10 else if i = 6 then 48 else if i = 7 then 0 else 0) (fun a0 m a w9 => ∃ (v4 v6 p7_ : Value) (g7_ : Nat), a = (((a0.put (some 33) v4).put (some 35) v6).put (some 9) p7_) ∧ Below V54.heap.size V54 w9 ∧ (m.testBit 4 = true → v4 = Value.agg #[.float .f64 p7.lo, .float .f64 p7.hi]) ∧ (m.testBit 6 = true → v6 = Value.agg #[.float .f64 p8.lo, .float .f64 p8.hi]) ∧ (m.testBit 7 = true → p7_ = .pointer (some ⟨g7_, 0, none⟩) ∧ Blk w9 g7_ 24 #[.float .f64 0, .float .f64 0] ∧ V54.heap.size ≤ g7_)) (by kernel_rfl) (by kernel_rfl) (by kernel_rfl) (by kernel_rfl) ?st10 ?sp10 ?re10
  case st10 =>
    exact ⟨undef, undef, undef, 0, by go_simp, D68.out, fun h => absurd h (by decide), fun h => absurd h (by decide), fun h => absurd h (by decide)⟩
  case sp10 =>
    intro m a' w9 i hi hm hd hJ
    obtain ⟨v4, v6, p7_, g7_, rfl, hb0, cl4, cl6, ql7⟩ := hJ
    have CL4 := Lib.hid cl4
    have CL6 := Lib.hid cl6
    have QL7 := Lib.hid ql7
    have HB0 := Lib.hid hb0
    clear cl4 cl6 ql7 hb0 hS69
    simp only [List.mem_cons, List.not_mem_nil, or_false] at hi
    rcases hi with rfl | rfl | rfl
    · refine wpOp_at rfl (by kernel_rfl) (fun K hK => ?_)
      have hd := fun j => @tb_of _ _ j hd
      go_simp
      go_at_call 78
      refine (C7.out _).mono ?_
      rintro r w10 ⟨rfl, hb⟩
      dsimp only
      have hb1 := below_step HB0.out hb
      exact hK _ _ ⟨HS75.out _ hb1, _, v6, p7_, g7_, by go_simp, hb1, fun _ => rfl, fun h => CL6.out (by rwa [tb_ne (by decide)] at h), fun h => ⟨(QL7.out (by rwa [tb_ne (by decide)] at h)).1, (QL7.out (by rwa [tb_ne (by decide)] at h)).2.1.below hb (QL7.out (by rwa [tb_ne (by decide)] at h)).2.1.lt, (QL7.out (by rwa [tb_ne (by decide)] at h)).2.2⟩⟩
    · refine wpOp_at rfl (by kernel_rfl) (fun K hK => ?_)
      have hd := fun j => @tb_of _ _ j hd
      obtain rfl := CL4.out (hd _ (by decide))
      go_simp
      go_at_call 78
      refine (C8.out _).mono ?_
      rintro r w10 ⟨rfl, hb⟩
      dsimp only
      have hb1 := below_step HB0.out hb
      exact hK _ _ ⟨HS75.out _ hb1, _, _, p7_, g7_, by go_simp, hb1, fun _ => rfl, fun _ => rfl, fun h => ⟨(QL7.out (by rwa [tb_ne (by decide)] at h)).1, (QL7.out (by rwa [tb_ne (by decide)] at h)).2.1.below hb (QL7.out (by rwa [tb_ne (by decide)] at h)).2.1.lt, (QL7.out (by rwa [tb_ne (by decide)] at h)).2.2⟩⟩
    · refine wpOp_at rfl (by kernel_rfl) (fun K hK => ?_)
      have hd := fun j => @tb_of _ _ j hd
      go_simp
      have hb1 := below_more HB0.out (.cells #[.float .f64 0, .float .f64 0] 24)
      exact hK _ _ ⟨HS75.out _ hb1, v4, v6, .pointer (some ⟨w9.heap.size, 0, none⟩), w9.heap.size, by go_simp, hb1, fun h => CL4.out (by rwa [tb_ne (by decide)] at h), fun h => CL6.out (by rwa [tb_ne (by decide)] at h), fun _ => ⟨rfl, Blk.new_at _ _ _ rfl, HB0.out.size⟩⟩
  clear hS69 D68 HS75
  intro a' W90 hJ
  obtain ⟨v4, v6, p7_, g91, rfl, hb0, cl4, cl6, ql7⟩ := hJ
  obtain rfl := cl4 (by decide)
  obtain rfl := cl6 (by decide)
  obtain ⟨rfl, kk7, ll7⟩ := ql7 (by decide)
  have D78 := Lib.hid hb0
  clear hb0
  refine wpAnyH_frame (a' := ?frq77) ?feq77 ?fgq77
  case feq77 => (go_simp; try with_reducible rfl)
  have K80 := Lib.hid ((kb K59 D78) : Blk W90 (w.heap.size) 26 (vc n))
  have K81 := Lib.hid ((kb K60 D78) : Blk W90 (w.heap.size + 1) 26 #[.float .f64 0, .float .f64 0, .float .f64 0, .float .f64 0, .float .f64 0, .float .f64 0])
  have K82 := Lib.hid ((kb K61 D78) : Blk W90 (w.heap.size + 1 + 1) 26 #[.float .f64 0, .float .f64 0, .float .f64 0, .float .f64 0, .float .f64 0, .float .f64 0])
  have K83 := Lib.hid ((kb K62 D78) : Blk W90 (g8) 24 #[.float .f64 p2.lo, .float .f64 p2.hi])
  have K84 := Lib.hid ((kb K63 D78) : Blk W90 (g51) 24 #[.float .f64 p6.lo, .float .f64 p6.hi])
  have K85 := Lib.hid kk7
  clear kk7
  have HB88 := Lib.hid (below_step HB64.out D78.out)
  have Y87 := Lib.hid (show w.heap.size ≤ g91 ∧ w.heap.size < g91 ∧ w.heap.size + 1 < g91 ∧ w.heap.size + 1 + 1 < g91 ∧ g8 < g91 ∧ g51 < g91 from ⟨Nat.le_trans HB64.out.size ll7, Nat.lt_of_lt_of_le K59.out.lt ll7, Nat.lt_of_lt_of_le K60.out.lt ll7, Nat.lt_of_lt_of_le K61.out.lt ll7, Nat.lt_of_lt_of_le K62.out.lt ll7, Nat.lt_of_lt_of_le K63.out.lt ll7⟩)
  have Y89 := Lib.hid (And.intro Y49.out Y87.out)
  clear Y49 Y87
  clear K59 K60 K61 K62 K63 ll7 HB64
  have D92 := Lib.hid (Below.refl W90.heap.size W90)
  clear D78
  have hS93 : True ∧ CellsL W90 (w.heap.size) 0 [.float .f64 n.x.lo, .float .f64 n.x.hi, .float .f64 n.y.lo, .float .f64 n.y.hi] ∧ CellsL W90 (g51) 0 [.float .f64 p6.lo, .float .f64 p6.hi] := ⟨trivial, (kb K80 D92).cellsL 0 [.float .f64 n.x.lo, .float .f64 n.x.hi, .float .f64 n.y.lo, .float .f64 n.y.hi] rfl, (kb K84 D92).cellsL 0 [.float .f64 p6.lo, .float .f64 p6.hi] rfl⟩
  refine wpAnyH_oneM (i := 8) (l' := bm 9 511) rfl (by kernel_rfl) (by kernel_rfl) (by kernel_rfl) (fun K hK => ?_)
  have f96 := (kb K85 D92).cellsL 0 [.float .f64 0, .float .f64 0] rfl
  dsimp only [CellsL, al, vl, Nat.reduceAdd] at f96
  have u97 := (kb K85 D92).unfrozen
  obtain ⟨V94, hV95⟩ : ∃ V, setCells W90 (g91) 0 [.float .f64 p8.lo, .float .f64 p8.hi] = V := ⟨_, rfl⟩
  have hv98 := hV95
  simp only [setCells, Nat.reduceAdd] at hv98
  have K99 := kf hV95 K80 D92 (by have := Y89.out; omega)
  have K100 := kf hV95 K81 D92 (by have := Y89.out; omega)
  have K101 := kf hV95 K82 D92 (by have := Y89.out; omega)
  have K102 := kf hV95 K83 D92 (by have := Y89.out; omega)
  have K103 := kf hV95 K84 D92 (by have := Y89.out; omega)
  have K104 := Lib.hid (show Blk V94 (g91) 24 #[.float .f64 p8.lo, .float .f64 p8.hi] from (ks hV95 K85 D92).out)
  have HB105 := hbs hV95 HB88 D92 (by have := Y89.out; omega)
  have D106 := dr V94
  clear K80 K81 K82 K83 K84 K85 HB88 D92
  go_simp
  clear hV95 f96 u97 hv98
  have hS107 : True ∧ CellsL V94 (w.heap.size) 0 [.float .f64 n.x.lo, .float .f64 n.x.hi, .float .f64 n.y.lo, .float .f64 n.y.hi] ∧ CellsL V94 (g51) 0 [.float .f64 p6.lo, .float .f64 p6.hi] := ⟨trivial, (kb K99 D106).cellsL 0 [.float .f64 n.x.lo, .float .f64 n.x.hi, .float .f64 n.y.lo, .float .f64 n.y.hi] rfl, (kb K103 D106).cellsL 0 [.float .f64 p6.lo, .float .f64 p6.hi] rfl⟩
  refine hK _ _ hS107 ?_
  clear hK K hS93
  refine wpAnyH_done (by kernel_rfl) ?_ _
  clear hS107
  go_wp2_with fail
  refine wp_region_held (S := (fun w' => True ∧ CellsL w' (w.heap.size) 0 [.float .f64 n.x.lo, .float .f64 n.x.hi] ∧ CellsL w' (g8) 0 [.float .f64 p2.lo, .float .f64 p2.hi] ∧ CellsL w' (g51) 0 [.float .f64 p6.lo, .float .f64 p6.hi] ∧ CellsL w' (g91) 0 [.float .f64 p8.lo, .float .f64 p8.hi])) (by kernel_rfl) ?_
  change wpAnyH _ _ _ _ _ _ _ _ (World.drew _)
  obtain ⟨wd108, hwd⟩ : ∃ x, x = World.drew V94 := ⟨_, rfl⟩
  rw [← hwd]
  have D109 := Lib.hid (hwd ▸ Below.drew D106.out : Below V94.heap.size V94 wd108)
  clear D106 hwd
  have hS110 : True ∧ CellsL wd108 (w.heap.size) 0 [.float .f64 n.x.lo, .float .f64 n.x.hi] ∧ CellsL wd108 (g8) 0 [.float .f64 p2.lo, .float .f64 p2.hi] ∧ CellsL wd108 (g51) 0 [.float .f64 p6.lo, .float .f64 p6.hi] ∧ CellsL wd108 (g91) 0 [.float .f64 p8.lo, .float .f64 p8.hi] := ⟨trivial, (kb K99 D109).cellsL 0 [.float .f64 n.x.lo, .float .f64 n.x.hi] rfl, (kb K102 D109).cellsL 0 [.float .f64 p2.lo, .float .f64 p2.hi] rfl, (kb K103 D109).cellsL 0 [.float .f64 p6.lo, .float .f64 p6.hi] rfl, (kb K104 D109).cellsL 0 [.float .f64 p8.lo, .float .f64 p8.hi] rfl⟩
  refine tk 1 (bm 20 2) ?vq111 ?aq111 rfl (by kernel_rfl) (fun _ _ _ h => h) (by kernel_rfl) ?hq111 ?pq111 hS110 ?rq111
  case hq111 => (intro w hS; dsimp only [CellsL, al, vl, Nat.reduceAdd] at hS; go_simp; try with_reducible rfl)
  case pq111 => (go_simp; try with_reducible rfl)
  refine tk 2 (bm 20 6) ?vq112 ?aq112 rfl (by kernel_rfl) (fun _ _ _ h => h) (by kernel_rfl) ?hq112 ?pq112 hS110 ?rq112
  case hq112 => (intro w hS; go_simp; try with_reducible rfl)
  case pq112 => (go_simp; try with_reducible rfl)
  refine tk 3 (bm 20 14) ?vq113 ?aq113 rfl (by kernel_rfl) (fun _ _ _ h => h) (by kernel_rfl) ?hq113 ?pq113 hS110 ?rq113
  case hq113 => (intro w hS; dsimp only [CellsL, al, vl, Nat.reduceAdd] at hS; go_simp; try with_reducible rfl)
  case pq113 => (go_simp; try with_reducible rfl)
  refine tk 6 (bm 20 78) ?vq114 ?aq114 rfl (by kernel_rfl) (fun _ _ _ h => h) (by kernel_rfl) ?hq114 ?pq114 hS110 ?rq114
  case hq114 => (intro w hS; dsimp only [CellsL, al, vl, Nat.reduceAdd] at hS; go_simp; try with_reducible rfl)
  case pq114 => (go_simp; try with_reducible rfl)
  refine tk 9 (bm 20 590) ?vq115 ?aq115 rfl (by kernel_rfl) (fun _ _ _ h => h) (by kernel_rfl) ?hq115 ?pq115 hS110 ?rq115
  case hq115 => (intro w hS; dsimp only [CellsL, al, vl, Nat.reduceAdd] at hS; go_simp; try with_reducible rfl)
  case pq115 => (go_simp; try with_reducible rfl)
  refine tk 10 (bm 20 1614) ?vq116 ?aq116 rfl (by kernel_rfl) (fun _ _ _ h => h) (by kernel_rfl) ?hq116 ?pq116 hS110 ?rq116
  case hq116 => (intro w hS; dsimp only [CellsL, al, vl, Nat.reduceAdd] at hS; go_simp; try with_reducible rfl)
  case pq116 => (go_simp; try with_reducible rfl)
  refine tk 12 (bm 20 5710) ?vq117 ?aq117 rfl (by kernel_rfl) (fun _ _ _ h => h) (by kernel_rfl) ?hq117 ?pq117 hS110 ?rq117
  case hq117 => (intro w hS; dsimp only [CellsL, al, vl, Nat.reduceAdd] at hS; go_simp; try with_reducible rfl)
  case pq117 => (go_simp; try with_reducible rfl)
  refine tk 13 (bm 20 13902) ?vq118 ?aq118 rfl (by kernel_rfl) (fun _ _ _ h => h) (by kernel_rfl) ?hq118 ?pq118 hS110 ?rq118
  case hq118 => (intro w hS; go_simp; try with_reducible rfl)
  case pq118 => (go_simp; try with_reducible rfl)
  refine tk 14 (bm 20 30286) ?vq119 ?aq119 rfl (by kernel_rfl) (fun _ _ _ h => h) (by kernel_rfl) ?hq119 ?pq119 hS110 ?rq119
  case hq119 => (intro w hS; dsimp only [CellsL, al, vl, Nat.reduceAdd] at hS; go_simp; try with_reducible rfl)
  case pq119 => (go_simp; try with_reducible rfl)
  have HS120 := Lib.hid (show ∀ w', Below V94.heap.size V94 w' → (True ∧ CellsL w' (w.heap.size) 0 [.float .f64 n.x.lo, .float .f64 n.x.hi] ∧ CellsL w' (g8) 0 [.float .f64 p2.lo, .float .f64 p2.hi] ∧ CellsL w' (g51) 0 [.float .f64 p6.lo, .float .f64 p6.hi] ∧ CellsL w' (g91) 0 [.float .f64 p8.lo, .float .f64 p8.hi]) from fun w' b => ⟨trivial, (K99.out.below b K99.out.lt).cellsL 0 [.float .f64 n.x.lo, .float .f64 n.x.hi] rfl, (K102.out.below b K102.out.lt).cellsL 0 [.float .f64 p2.lo, .float .f64 p2.hi] rfl, (K103.out.below b K103.out.lt).cellsL 0 [.float .f64 p6.lo, .float .f64 p6.hi] rfl, (K104.out.below b K104.out.lt).cellsL 0 [.float .f64 p8.lo, .float .f64 p8.hi] rfl⟩)
  refine wpAnyH_sets2 (N := 20) (stop := 524287) (F := 1) (m := 30286) (R := [0, 4, 5, 7, 8, 11, 15, 16, 17, 18]) (M := [30286, 30287, 292430, 30303, 292431, 30335, 292447, 30463, 292479, 30719, 292607, 32767, 292863, 65535, 294911, 131071, 327679, 262143, 393215, 524287]) (fun i => if i = 0 then 0 else if i = 4 then 9 else if i = 5 then 18 else if i = 7 then 96 else if i = 8 then 129 else if i = 11 then 1792 else if i = 15 then 22528 else if i = 16 then 32768 else if i = 17 then 67840 else if i = 18 then 0 else 0) (fun a0 m a w9 => ∃ (v0 v4 v5 v7 v8 v11 v15 v16 v17 p18_ : Value) (g18_ : Nat), a = ((((((((((a0.put (some 36) v0).put (some 40) v4).put (some 41) v5).put (some 43) v7).put (some 44) v8).put (some 47) v11).put (some 51) v15).put (some 52) v16).put (some 53) v17).put (some 10) p18_) ∧ Below V94.heap.size V94 w9 ∧ (m.testBit 0 = true → v0 = Value.agg #[.float .f64 p3.lo, .float .f64 p3.hi]) ∧ (m.testBit 4 = true → v4 = Value.agg #[.float .f64 p10.lo, .float .f64 p10.hi]) ∧ (m.testBit 5 = true → v5 = Value.agg #[.float .f64 p11.lo, .float .f64 p11.hi]) ∧ (m.testBit 7 = true → v7 = Value.agg #[.float .f64 p12.lo, .float .f64 p12.hi]) ∧ (m.testBit 8 = true → v8 = Value.agg #[.float .f64 p13.lo, .float .f64 p13.hi]) ∧ (m.testBit 11 = true → v11 = Value.agg #[.float .f64 p14.lo, .float .f64 p14.hi]) ∧ (m.testBit 15 = true → v15 = Value.agg #[.float .f64 p15.lo, .float .f64 p15.hi]) ∧ (m.testBit 16 = true → v16 = Value.agg #[.float .f64 p16.lo, .float .f64 p16.hi]) ∧ (m.testBit 17 = true → v17 = Value.agg #[.float .f64 p13.lo, .float .f64 p13.hi, .float .f64 p14.lo, .float .f64 p14.hi, .float .f64 p16.lo, .float .f64 p16.hi]) ∧ (m.testBit 18 = true → p18_ = .pointer (some ⟨g18_, 0, none⟩) ∧ Blk w9 g18_ 26 #[.float .f64 0, .float .f64 0, .float .f64 0, .float .f64 0, .float .f64 0, .float .f64 0] ∧ V94.heap.size ≤ g18_)) (by kernel_rfl) (by kernel_rfl) (by kernel_rfl) (by kernel_rfl) ?st11 ?sp11 ?re11
  case st11 =>
    exact ⟨undef, undef, undef, undef, undef, undef, undef, undef, undef, undef, 0, by go_simp, D109.out, fun h => absurd h (by decide), fun h => absurd h (by decide), fun h => absurd h (by decide), fun h => absurd h (by decide), fun h => absurd h (by decide), fun h => absurd h (by decide), fun h => absurd h (by decide), fun h => absurd h (by decide), fun h => absurd h (by decide), fun h => absurd h (by decide)⟩
  case sp11 =>
    intro m a' w9 i hi hm hd hJ
    obtain ⟨v0, v4, v5, v7, v8, v11, v15, v16, v17, p18_, g18_, rfl, hb0, cl0, cl4, cl5, cl7, cl8, cl11, cl15, cl16, cl17, ql18⟩ := hJ
    have CL0 := Lib.hid cl0
    have CL4 := Lib.hid cl4
    have CL5 := Lib.hid cl5
    have CL7 := Lib.hid cl7
    have CL8 := Lib.hid cl8
    have CL11 := Lib.hid cl11
    have CL15 := Lib.hid cl15
    have CL16 := Lib.hid cl16
    have CL17 := Lib.hid cl17
    have QL18 := Lib.hid ql18
    have HB0 := Lib.hid hb0
    clear cl0 cl4 cl5 cl7 cl8 cl11 cl15 cl16 cl17 ql18 hb0 hS110
    simp only [List.mem_cons, List.not_mem_nil, or_false] at hi
    rcases hi with rfl | rfl | rfl | rfl | rfl | rfl | rfl | rfl | rfl | rfl
    · refine wpOp_at rfl (by kernel_rfl) (fun K hK => ?_)
      have hd := fun j => @tb_of _ _ j hd
      go_simp
      go_at_call 76
      refine (C9.out _).mono ?_
      rintro r w10 ⟨rfl, hb⟩
      dsimp only
      have hb1 := below_step HB0.out hb
      exact hK _ _ ⟨HS120.out _ hb1, _, v4, v5, v7, v8, v11, v15, v16, v17, p18_, g18_, by go_simp, hb1, fun _ => rfl, fun h => CL4.out (by rwa [tb_ne (by decide)] at h), fun h => CL5.out (by rwa [tb_ne (by decide)] at h), fun h => CL7.out (by rwa [tb_ne (by decide)] at h), fun h => CL8.out (by rwa [tb_ne (by decide)] at h), fun h => CL11.out (by rwa [tb_ne (by decide)] at h), fun h => CL15.out (by rwa [tb_ne (by decide)] at h), fun h => CL16.out (by rwa [tb_ne (by decide)] at h), fun h => CL17.out (by rwa [tb_ne (by decide)] at h), fun h => ⟨(QL18.out (by rwa [tb_ne (by decide)] at h)).1, (QL18.out (by rwa [tb_ne (by decide)] at h)).2.1.below hb (QL18.out (by rwa [tb_ne (by decide)] at h)).2.1.lt, (QL18.out (by rwa [tb_ne (by decide)] at h)).2.2⟩⟩
    · refine wpOp_at rfl (by kernel_rfl) (fun K hK => ?_)
      have hd := fun j => @tb_of _ _ j hd
      obtain rfl := CL0.out (hd _ (by decide))
      go_simp
      go_at_call 93
      refine (C10.out _).mono ?_
      rintro r w10 ⟨rfl, hb⟩
      dsimp only
      have hb1 := below_step HB0.out hb
      exact hK _ _ ⟨HS120.out _ hb1, _, _, v5, v7, v8, v11, v15, v16, v17, p18_, g18_, by go_simp, hb1, fun _ => rfl, fun _ => rfl, fun h => CL5.out (by rwa [tb_ne (by decide)] at h), fun h => CL7.out (by rwa [tb_ne (by decide)] at h), fun h => CL8.out (by rwa [tb_ne (by decide)] at h), fun h => CL11.out (by rwa [tb_ne (by decide)] at h), fun h => CL15.out (by rwa [tb_ne (by decide)] at h), fun h => CL16.out (by rwa [tb_ne (by decide)] at h), fun h => CL17.out (by rwa [tb_ne (by decide)] at h), fun h => ⟨(QL18.out (by rwa [tb_ne (by decide)] at h)).1, (QL18.out (by rwa [tb_ne (by decide)] at h)).2.1.below hb (QL18.out (by rwa [tb_ne (by decide)] at h)).2.1.lt, (QL18.out (by rwa [tb_ne (by decide)] at h)).2.2⟩⟩
    · refine wpOp_at rfl (by kernel_rfl) (fun K hK => ?_)
      have hd := fun j => @tb_of _ _ j hd
      obtain rfl := CL4.out (hd _ (by decide))
      go_simp
      go_at_call 78
      refine (C11.out _).mono ?_
      rintro r w10 ⟨rfl, hb⟩
      dsimp only
      have hb1 := below_step HB0.out hb
      exact hK _ _ ⟨HS120.out _ hb1, v0, _, _, v7, v8, v11, v15, v16, v17, p18_, g18_, by go_simp, hb1, fun h => CL0.out (by rwa [tb_ne (by decide)] at h), fun _ => rfl, fun _ => rfl, fun h => CL7.out (by rwa [tb_ne (by decide)] at h), fun h => CL8.out (by rwa [tb_ne (by decide)] at h), fun h => CL11.out (by rwa [tb_ne (by decide)] at h), fun h => CL15.out (by rwa [tb_ne (by decide)] at h), fun h => CL16.out (by rwa [tb_ne (by decide)] at h), fun h => CL17.out (by rwa [tb_ne (by decide)] at h), fun h => ⟨(QL18.out (by rwa [tb_ne (by decide)] at h)).1, (QL18.out (by rwa [tb_ne (by decide)] at h)).2.1.below hb (QL18.out (by rwa [tb_ne (by decide)] at h)).2.1.lt, (QL18.out (by rwa [tb_ne (by decide)] at h)).2.2⟩⟩
    · refine wpOp_at rfl (by kernel_rfl) (fun K hK => ?_)
      have hd := fun j => @tb_of _ _ j hd
      obtain rfl := CL5.out (hd _ (by decide))
      go_simp
      go_at_call 78
      refine (C12.out _).mono ?_
      rintro r w10 ⟨rfl, hb⟩
      dsimp only
      have hb1 := below_step HB0.out hb
      exact hK _ _ ⟨HS120.out _ hb1, v0, v4, _, _, v8, v11, v15, v16, v17, p18_, g18_, by go_simp, hb1, fun h => CL0.out (by rwa [tb_ne (by decide)] at h), fun h => CL4.out (by rwa [tb_ne (by decide)] at h), fun _ => rfl, fun _ => rfl, fun h => CL8.out (by rwa [tb_ne (by decide)] at h), fun h => CL11.out (by rwa [tb_ne (by decide)] at h), fun h => CL15.out (by rwa [tb_ne (by decide)] at h), fun h => CL16.out (by rwa [tb_ne (by decide)] at h), fun h => CL17.out (by rwa [tb_ne (by decide)] at h), fun h => ⟨(QL18.out (by rwa [tb_ne (by decide)] at h)).1, (QL18.out (by rwa [tb_ne (by decide)] at h)).2.1.below hb (QL18.out (by rwa [tb_ne (by decide)] at h)).2.1.lt, (QL18.out (by rwa [tb_ne (by decide)] at h)).2.2⟩⟩
    · refine wpOp_at rfl (by kernel_rfl) (fun K hK => ?_)
      have hd := fun j => @tb_of _ _ j hd
      obtain rfl := CL0.out (hd _ (by decide))
      obtain rfl := CL7.out (hd _ (by decide))
      go_simp
      go_at_call 75
      refine (C13.out _).mono ?_
      rintro r w10 ⟨rfl, hb⟩
      dsimp only
      have hb1 := below_step HB0.out hb
      exact hK _ _ ⟨HS120.out _ hb1, _, v4, v5, _, _, v11, v15, v16, v17, p18_, g18_, by go_simp, hb1, fun _ => rfl, fun h => CL4.out (by rwa [tb_ne (by decide)] at h), fun h => CL5.out (by rwa [tb_ne (by decide)] at h), fun _ => rfl, fun _ => rfl, fun h => CL11.out (by rwa [tb_ne (by decide)] at h), fun h => CL15.out (by rwa [tb_ne (by decide)] at h), fun h => CL16.out (by rwa [tb_ne (by decide)] at h), fun h => CL17.out (by rwa [tb_ne (by decide)] at h), fun h => ⟨(QL18.out (by rwa [tb_ne (by decide)] at h)).1, (QL18.out (by rwa [tb_ne (by decide)] at h)).2.1.below hb (QL18.out (by rwa [tb_ne (by decide)] at h)).2.1.lt, (QL18.out (by rwa [tb_ne (by decide)] at h)).2.2⟩⟩
    · refine wpOp_at rfl (by kernel_rfl) (fun K hK => ?_)
      have hd := fun j => @tb_of _ _ j hd
      obtain rfl := CL8.out (hd _ (by decide))
      go_simp
      go_at_call 78
      refine (C14.out _).mono ?_
      rintro r w10 ⟨rfl, hb⟩
      dsimp only
      have hb1 := below_step HB0.out hb
      exact hK _ _ ⟨HS120.out _ hb1, v0, v4, v5, v7, _, _, v15, v16, v17, p18_, g18_, by go_simp, hb1, fun h => CL0.out (by rwa [tb_ne (by decide)] at h), fun h => CL4.out (by rwa [tb_ne (by decide)] at h), fun h => CL5.out (by rwa [tb_ne (by decide)] at h), fun h => CL7.out (by rwa [tb_ne (by decide)] at h), fun _ => rfl, fun _ => rfl, fun h => CL15.out (by rwa [tb_ne (by decide)] at h), fun h => CL16.out (by rwa [tb_ne (by decide)] at h), fun h => CL17.out (by rwa [tb_ne (by decide)] at h), fun h => ⟨(QL18.out (by rwa [tb_ne (by decide)] at h)).1, (QL18.out (by rwa [tb_ne (by decide)] at h)).2.1.below hb (QL18.out (by rwa [tb_ne (by decide)] at h)).2.1.lt, (QL18.out (by rwa [tb_ne (by decide)] at h)).2.2⟩⟩
    · refine wpOp_at rfl (by kernel_rfl) (fun K hK => ?_)
      have hd := fun j => @tb_of _ _ j hd
      obtain rfl := CL11.out (hd _ (by decide))
      go_simp
      go_at_call 78
      refine (C15.out _).mono ?_
      rintro r w10 ⟨rfl, hb⟩
      dsimp only
      have hb1 := below_step HB0.out hb
      exact hK _ _ ⟨HS120.out _ hb1, v0, v4, v5, v7, v8, _, _, v16, v17, p18_, g18_, by go_simp, hb1, fun h => CL0.out (by rwa [tb_ne (by decide)] at h), fun h => CL4.out (by rwa [tb_ne (by decide)] at h), fun h => CL5.out (by rwa [tb_ne (by decide)] at h), fun h => CL7.out (by rwa [tb_ne (by decide)] at h), fun h => CL8.out (by rwa [tb_ne (by decide)] at h), fun _ => rfl, fun _ => rfl, fun h => CL16.out (by rwa [tb_ne (by decide)] at h), fun h => CL17.out (by rwa [tb_ne (by decide)] at h), fun h => ⟨(QL18.out (by rwa [tb_ne (by decide)] at h)).1, (QL18.out (by rwa [tb_ne (by decide)] at h)).2.1.below hb (QL18.out (by rwa [tb_ne (by decide)] at h)).2.1.lt, (QL18.out (by rwa [tb_ne (by decide)] at h)).2.2⟩⟩
    · refine wpOp_at rfl (by kernel_rfl) (fun K hK => ?_)
      have hd := fun j => @tb_of _ _ j hd
      obtain rfl := CL15.out (hd _ (by decide))
      go_simp
      go_at_call 83
      refine (C16.out _).mono ?_
      rintro r w10 ⟨rfl, hb⟩
      dsimp only
      have hb1 := below_step HB0.out hb
      exact hK _ _ ⟨HS120.out _ hb1, v0, v4, v5, v7, v8, v11, _, _, v17, p18_, g18_, by go_simp, hb1, fun h => CL0.out (by rwa [tb_ne (by decide)] at h), fun h => CL4.out (by rwa [tb_ne (by decide)] at h), fun h => CL5.out (by rwa [tb_ne (by decide)] at h), fun h => CL7.out (by rwa [tb_ne (by decide)] at h), fun h => CL8.out (by rwa [tb_ne (by decide)] at h), fun h => CL11.out (by rwa [tb_ne (by decide)] at h), fun _ => rfl, fun _ => rfl, fun h => CL17.out (by rwa [tb_ne (by decide)] at h), fun h => ⟨(QL18.out (by rwa [tb_ne (by decide)] at h)).1, (QL18.out (by rwa [tb_ne (by decide)] at h)).2.1.below hb (QL18.out (by rwa [tb_ne (by decide)] at h)).2.1.lt, (QL18.out (by rwa [tb_ne (by decide)] at h)).2.2⟩⟩
    · refine wpOp_at rfl (by kernel_rfl) (fun K hK => ?_)
      have hd := fun j => @tb_of _ _ j hd
      obtain rfl := CL8.out (hd _ (by decide))
      obtain rfl := CL11.out (hd _ (by decide))
      obtain rfl := CL16.out (hd _ (by decide))
      have hb1 := HB0.out
      go_simp
      exact hK _ _ ⟨HS120.out _ hb1, v0, v4, v5, v7, _, _, v15, _, _, p18_, g18_, by go_simp, hb1, fun h => CL0.out (by rwa [tb_ne (by decide)] at h), fun h => CL4.out (by rwa [tb_ne (by decide)] at h), fun h => CL5.out (by rwa [tb_ne (by decide)] at h), fun h => CL7.out (by rwa [tb_ne (by decide)] at h), fun _ => rfl, fun _ => rfl, fun h => CL15.out (by rwa [tb_ne (by decide)] at h), fun _ => rfl, fun _ => rfl, fun h => ⟨(QL18.out (by rwa [tb_ne (by decide)] at h)).1, (QL18.out (by rwa [tb_ne (by decide)] at h)).2.1, (QL18.out (by rwa [tb_ne (by decide)] at h)).2.2⟩⟩
    · refine wpOp_at rfl (by kernel_rfl) (fun K hK => ?_)
      have hd := fun j => @tb_of _ _ j hd
      go_simp
      have hb1 := below_more HB0.out (.cells #[.float .f64 0, .float .f64 0, .float .f64 0, .float .f64 0, .float .f64 0, .float .f64 0] 26)
      exact hK _ _ ⟨HS120.out _ hb1, v0, v4, v5, v7, v8, v11, v15, v16, v17, .pointer (some ⟨w9.heap.size, 0, none⟩), w9.heap.size, by go_simp, hb1, fun h => CL0.out (by rwa [tb_ne (by decide)] at h), fun h => CL4.out (by rwa [tb_ne (by decide)] at h), fun h => CL5.out (by rwa [tb_ne (by decide)] at h), fun h => CL7.out (by rwa [tb_ne (by decide)] at h), fun h => CL8.out (by rwa [tb_ne (by decide)] at h), fun h => CL11.out (by rwa [tb_ne (by decide)] at h), fun h => CL15.out (by rwa [tb_ne (by decide)] at h), fun h => CL16.out (by rwa [tb_ne (by decide)] at h), fun h => CL17.out (by rwa [tb_ne (by decide)] at h), fun _ => ⟨rfl, Blk.new_at _ _ _ rfl, HB0.out.size⟩⟩
  clear hS110 D109 HS120
  intro a' W136 hJ
  obtain ⟨v0, v4, v5, v7, v8, v11, v15, v16, v17, p18_, g137, rfl, hb0, cl0, cl4, cl5, cl7, cl8, cl11, cl15, cl16, cl17, ql18⟩ := hJ
  obtain rfl := cl0 (by decide)
  obtain rfl := cl4 (by decide)
  obtain rfl := cl5 (by decide)
  obtain rfl := cl7 (by decide)
  obtain rfl := cl8 (by decide)
  obtain rfl := cl11 (by decide)
  obtain rfl := cl15 (by decide)
  obtain rfl := cl16 (by decide)
  obtain rfl := cl17 (by decide)
  obtain ⟨rfl, kk18, ll18⟩ := ql18 (by decide)
  have D123 := Lib.hid hb0
  clear hb0
  refine wpAnyH_frame (a' := ?frq122) ?feq122 ?fgq122
  case feq122 => (go_simp; try with_reducible rfl)
  have K125 := Lib.hid ((kb K99 D123) : Blk W136 (w.heap.size) 26 (vc n))
  have K126 := Lib.hid ((kb K100 D123) : Blk W136 (w.heap.size + 1) 26 #[.float .f64 0, .float .f64 0, .float .f64 0, .float .f64 0, .float .f64 0, .float .f64 0])
  have K127 := Lib.hid ((kb K101 D123) : Blk W136 (w.heap.size + 1 + 1) 26 #[.float .f64 0, .float .f64 0, .float .f64 0, .float .f64 0, .float .f64 0, .float .f64 0])
  have K128 := Lib.hid ((kb K102 D123) : Blk W136 (g8) 24 #[.float .f64 p2.lo, .float .f64 p2.hi])
  have K129 := Lib.hid ((kb K103 D123) : Blk W136 (g51) 24 #[.float .f64 p6.lo, .float .f64 p6.hi])
  have K130 := Lib.hid ((kb K104 D123) : Blk W136 (g91) 24 #[.float .f64 p8.lo, .float .f64 p8.hi])
  have K131 := Lib.hid kk18
  clear kk18
  have HB134 := Lib.hid (below_step HB105.out D123.out)
  have Y133 := Lib.hid (show w.heap.size ≤ g137 ∧ w.heap.size < g137 ∧ w.heap.size + 1 < g137 ∧ w.heap.size + 1 + 1 < g137 ∧ g8 < g137 ∧ g51 < g137 ∧ g91 < g137 from ⟨Nat.le_trans HB105.out.size ll18, Nat.lt_of_lt_of_le K99.out.lt ll18, Nat.lt_of_lt_of_le K100.out.lt ll18, Nat.lt_of_lt_of_le K101.out.lt ll18, Nat.lt_of_lt_of_le K102.out.lt ll18, Nat.lt_of_lt_of_le K103.out.lt ll18, Nat.lt_of_lt_of_le K104.out.lt ll18⟩)
  have Y135 := Lib.hid (And.intro Y89.out Y133.out)
  clear Y89 Y133
  clear K99 K100 K101 K102 K103 K104 ll18 HB105
  have D138 := Lib.hid (Below.refl W136.heap.size W136)
  clear D123
  have hS139 : True ∧ CellsL W136 (w.heap.size) 0 [.float .f64 n.x.lo, .float .f64 n.x.hi] ∧ CellsL W136 (g8) 0 [.float .f64 p2.lo, .float .f64 p2.hi] ∧ CellsL W136 (g51) 0 [.float .f64 p6.lo, .float .f64 p6.hi] ∧ CellsL W136 (g91) 0 [.float .f64 p8.lo, .float .f64 p8.hi] := ⟨trivial, (kb K125 D138).cellsL 0 [.float .f64 n.x.lo, .float .f64 n.x.hi] rfl, (kb K128 D138).cellsL 0 [.float .f64 p2.lo, .float .f64 p2.hi] rfl, (kb K129 D138).cellsL 0 [.float .f64 p6.lo, .float .f64 p6.hi] rfl, (kb K130 D138).cellsL 0 [.float .f64 p8.lo, .float .f64 p8.hi] rfl⟩
  refine wpAnyH_oneM (i := 19) (l' := bm 20 1048575) rfl (by kernel_rfl) (by kernel_rfl) (by kernel_rfl) (fun K hK => ?_)
  have f142 := (kb K131 D138)
  obtain ⟨V140, hV141⟩ : ∃ V, World.setRow W136 (g137) #[.float .f64 p13.lo, .float .f64 p13.hi, .float .f64 p14.lo, .float .f64 p14.hi, .float .f64 p16.lo, .float .f64 p16.hi] = V := ⟨_, rfl⟩
  have K143 := kfr hV141 K125 D138 (by have := Y135.out; omega)
  have K144 := kfr hV141 K126 D138 (by have := Y135.out; omega)
  have K145 := kfr hV141 K127 D138 (by have := Y135.out; omega)
  have K146 := kfr hV141 K128 D138 (by have := Y135.out; omega)
  have K147 := kfr hV141 K129 D138 (by have := Y135.out; omega)
  have K148 := kfr hV141 K130 D138 (by have := Y135.out; omega)
  have K149 := ksr hV141 K131 D138
  have HB150 := hbr hV141 HB134 D138 (by have := Y135.out; omega)
  have D151 := dr V140
  clear K125 K126 K127 K128 K129 K130 K131 HB134 D138
  refine wp_store_row 26 _ _ rfl (g137) #[.float .f64 p13.lo, .float .f64 p13.hi, .float .f64 p14.lo, .float .f64 p14.hi, .float .f64 p16.lo, .float .f64 p16.hi] rfl rfl _ _ f142 (by rw [info_V3]; rfl) rfl (by kernel_rfl) ?_
  rw [hV141]
  go_simp
  clear hV141 f142
  have hS152 : True ∧ CellsL V140 (w.heap.size) 0 [.float .f64 n.x.lo, .float .f64 n.x.hi] ∧ CellsL V140 (g8) 0 [.float .f64 p2.lo, .float .f64 p2.hi] ∧ CellsL V140 (g51) 0 [.float .f64 p6.lo, .float .f64 p6.hi] ∧ CellsL V140 (g91) 0 [.float .f64 p8.lo, .float .f64 p8.hi] := ⟨trivial, (kb K143 D151).cellsL 0 [.float .f64 n.x.lo, .float .f64 n.x.hi] rfl, (kb K146 D151).cellsL 0 [.float .f64 p2.lo, .float .f64 p2.hi] rfl, (kb K147 D151).cellsL 0 [.float .f64 p6.lo, .float .f64 p6.hi] rfl, (kb K148 D151).cellsL 0 [.float .f64 p8.lo, .float .f64 p8.hi] rfl⟩
  refine hK _ _ hS152 ?_
  clear hK K hS139
  refine wpAnyH_done (by kernel_rfl) ?_ _
  clear hS152
  go_wp2_with fail
  refine wp_region_held (S := (fun w' => True ∧ CellsL w' (w.heap.size) 2 [.float .f64 n.y.lo, .float .f64 n.y.hi] ∧ CellsL w' (g8) 0 [.float .f64 p2.lo, .float .f64 p2.hi] ∧ CellsL w' (g51) 0 [.float .f64 p6.lo, .float .f64 p6.hi] ∧ CellsL w' (g91) 0 [.float .f64 p8.lo, .float .f64 p8.hi])) (by kernel_rfl) ?_
  change wpAnyH _ _ _ _ _ _ _ _ (World.drew _)
  obtain ⟨wd153, hwd⟩ : ∃ x, x = World.drew V140 := ⟨_, rfl⟩
  rw [← hwd]
  have D154 := Lib.hid (hwd ▸ Below.drew D151.out : Below V140.heap.size V140 wd153)
  clear D151 hwd
  have hS155 : True ∧ CellsL wd153 (w.heap.size) 2 [.float .f64 n.y.lo, .float .f64 n.y.hi] ∧ CellsL wd153 (g8) 0 [.float .f64 p2.lo, .float .f64 p2.hi] ∧ CellsL wd153 (g51) 0 [.float .f64 p6.lo, .float .f64 p6.hi] ∧ CellsL wd153 (g91) 0 [.float .f64 p8.lo, .float .f64 p8.hi] := ⟨trivial, (kb K143 D154).cellsL 2 [.float .f64 n.y.lo, .float .f64 n.y.hi] rfl, (kb K146 D154).cellsL 0 [.float .f64 p2.lo, .float .f64 p2.hi] rfl, (kb K147 D154).cellsL 0 [.float .f64 p6.lo, .float .f64 p6.hi] rfl, (kb K148 D154).cellsL 0 [.float .f64 p8.lo, .float .f64 p8.hi] rfl⟩
  refine tk 0 (bm 14 1) ?vq156 ?aq156 rfl (by kernel_rfl) (fun _ _ _ h => h) (by kernel_rfl) ?hq156 ?pq156 hS155 ?rq156
  case hq156 => (intro w hS; dsimp only [CellsL, al, vl, Nat.reduceAdd] at hS; go_simp; try with_reducible rfl)
  case pq156 => (go_simp; try with_reducible rfl)
  refine tk 1 (bm 14 3) ?vq157 ?aq157 rfl (by kernel_rfl) (fun _ _ _ h => h) (by kernel_rfl) ?hq157 ?pq157 hS155 ?rq157
  case hq157 => (intro w hS; dsimp only [CellsL, al, vl, Nat.reduceAdd] at hS; go_simp; try with_reducible rfl)
  case pq157 => (go_simp; try with_reducible rfl)
  refine tk 2 (bm 14 7) ?vq158 ?aq158 rfl (by kernel_rfl) (fun _ _ _ h => h) (by kernel_rfl) ?hq158 ?pq158 hS155 ?rq158
  case hq158 => (intro w hS; go_simp; try with_reducible rfl)
  case pq158 => (go_simp; try with_reducible rfl)
  refine tk 3 (bm 14 15) ?vq159 ?aq159 rfl (by kernel_rfl) (fun _ _ _ h => h) (by kernel_rfl) ?hq159 ?pq159 hS155 ?rq159
  case hq159 => (intro w hS; dsimp only [CellsL, al, vl, Nat.reduceAdd] at hS; go_simp; try with_reducible rfl)
  case pq159 => (go_simp; try with_reducible rfl)
  refine tk 5 (bm 14 47) ?vq160 ?aq160 rfl (by kernel_rfl) (fun _ _ _ h => h) (by kernel_rfl) ?hq160 ?pq160 hS155 ?rq160
  case hq160 => (intro w hS; dsimp only [CellsL, al, vl, Nat.reduceAdd] at hS; go_simp; try with_reducible rfl)
  case pq160 => (go_simp; try with_reducible rfl)
  refine tk 8 (bm 14 303) ?vq161 ?aq161 rfl (by kernel_rfl) (fun _ _ _ h => h) (by kernel_rfl) ?hq161 ?pq161 hS155 ?rq161
  case hq161 => (intro w hS; go_simp; try with_reducible rfl)
  case pq161 => (go_simp; try with_reducible rfl)
  refine tk 9 (bm 14 815) ?vq162 ?aq162 rfl (by kernel_rfl) (fun _ _ _ h => h) (by kernel_rfl) ?hq162 ?pq162 hS155 ?rq162
  case hq162 => (intro w hS; dsimp only [CellsL, al, vl, Nat.reduceAdd] at hS; go_simp; try with_reducible rfl)
  case pq162 => (go_simp; try with_reducible rfl)
  have HS163 := Lib.hid (show ∀ w', Below V140.heap.size V140 w' → (True ∧ CellsL w' (w.heap.size) 2 [.float .f64 n.y.lo, .float .f64 n.y.hi] ∧ CellsL w' (g8) 0 [.float .f64 p2.lo, .float .f64 p2.hi] ∧ CellsL w' (g51) 0 [.float .f64 p6.lo, .float .f64 p6.hi] ∧ CellsL w' (g91) 0 [.float .f64 p8.lo, .float .f64 p8.hi]) from fun w' b => ⟨trivial, (K143.out.below b K143.out.lt).cellsL 2 [.float .f64 n.y.lo, .float .f64 n.y.hi] rfl, (K146.out.below b K146.out.lt).cellsL 0 [.float .f64 p2.lo, .float .f64 p2.hi] rfl, (K147.out.below b K147.out.lt).cellsL 0 [.float .f64 p6.lo, .float .f64 p6.hi] rfl, (K148.out.below b K148.out.lt).cellsL 0 [.float .f64 p8.lo, .float .f64 p8.hi] rfl⟩)
  refine wpAnyH_sets2 (N := 14) (stop := 8191) (F := 1) (m := 815) (R := [4, 6, 7, 10, 11, 12]) (M := [815, 831, 4911, 895, 4927, 1023, 4991, 2047, 5119, 4095, 6143, 8191]) (fun i => if i = 4 then 8 else if i = 6 then 48 else if i = 7 then 66 else if i = 10 then 640 else if i = 11 then 1153 else if i = 12 then 0 else 0) (fun a0 m a w9 => ∃ (v4 v6 v7 v10 v11 p12_ : Value) (g12_ : Nat), a = ((((((a0.put (some 58) v4).put (some 60) v6).put (some 61) v7).put (some 64) v10).put (some 65) v11).put (some 11) p12_) ∧ Below V140.heap.size V140 w9 ∧ (m.testBit 4 = true → v4 = Value.agg #[.float .f64 p17.lo, .float .f64 p17.hi]) ∧ (m.testBit 6 = true → v6 = Value.agg #[.float .f64 p18.lo, .float .f64 p18.hi]) ∧ (m.testBit 7 = true → v7 = Value.agg #[.float .f64 p19.lo, .float .f64 p19.hi]) ∧ (m.testBit 10 = true → v10 = Value.agg #[.float .f64 p20.lo, .float .f64 p20.hi]) ∧ (m.testBit 11 = true → v11 = Value.agg #[.float .f64 p8.lo, .float .f64 p8.hi, .float .f64 p19.lo, .float .f64 p19.hi, .float .f64 p20.lo, .float .f64 p20.hi]) ∧ (m.testBit 12 = true → p12_ = .pointer (some ⟨g12_, 0, none⟩) ∧ Blk w9 g12_ 26 #[.float .f64 0, .float .f64 0, .float .f64 0, .float .f64 0, .float .f64 0, .float .f64 0] ∧ V140.heap.size ≤ g12_)) (by kernel_rfl) (by kernel_rfl) (by kernel_rfl) (by kernel_rfl) ?st12 ?sp12 ?re12
  case st12 =>
    exact ⟨undef, undef, undef, undef, undef, undef, 0, by go_simp, D154.out, fun h => absurd h (by decide), fun h => absurd h (by decide), fun h => absurd h (by decide), fun h => absurd h (by decide), fun h => absurd h (by decide), fun h => absurd h (by decide)⟩
  case sp12 =>
    intro m a' w9 i hi hm hd hJ
    obtain ⟨v4, v6, v7, v10, v11, p12_, g12_, rfl, hb0, cl4, cl6, cl7, cl10, cl11, ql12⟩ := hJ
    have CL4 := Lib.hid cl4
    have CL6 := Lib.hid cl6
    have CL7 := Lib.hid cl7
    have CL10 := Lib.hid cl10
    have CL11 := Lib.hid cl11
    have QL12 := Lib.hid ql12
    have HB0 := Lib.hid hb0
    clear cl4 cl6 cl7 cl10 cl11 ql12 hb0 hS155
    simp only [List.mem_cons, List.not_mem_nil, or_false] at hi
    rcases hi with rfl | rfl | rfl | rfl | rfl | rfl
    · refine wpOp_at rfl (by kernel_rfl) (fun K hK => ?_)
      have hd := fun j => @tb_of _ _ j hd
      go_simp
      go_at_call 93
      refine (C17.out _).mono ?_
      rintro r w10 ⟨rfl, hb⟩
      dsimp only
      have hb1 := below_step HB0.out hb
      exact hK _ _ ⟨HS163.out _ hb1, _, v6, v7, v10, v11, p12_, g12_, by go_simp, hb1, fun _ => rfl, fun h => CL6.out (by rwa [tb_ne (by decide)] at h), fun h => CL7.out (by rwa [tb_ne (by decide)] at h), fun h => CL10.out (by rwa [tb_ne (by decide)] at h), fun h => CL11.out (by rwa [tb_ne (by decide)] at h), fun h => ⟨(QL12.out (by rwa [tb_ne (by decide)] at h)).1, (QL12.out (by rwa [tb_ne (by decide)] at h)).2.1.below hb (QL12.out (by rwa [tb_ne (by decide)] at h)).2.1.lt, (QL12.out (by rwa [tb_ne (by decide)] at h)).2.2⟩⟩
    · refine wpOp_at rfl (by kernel_rfl) (fun K hK => ?_)
      have hd := fun j => @tb_of _ _ j hd
      obtain rfl := CL4.out (hd _ (by decide))
      go_simp
      go_at_call 78
      refine (C18.out _).mono ?_
      rintro r w10 ⟨rfl, hb⟩
      dsimp only
      have hb1 := below_step HB0.out hb
      exact hK _ _ ⟨HS163.out _ hb1, _, _, v7, v10, v11, p12_, g12_, by go_simp, hb1, fun _ => rfl, fun _ => rfl, fun h => CL7.out (by rwa [tb_ne (by decide)] at h), fun h => CL10.out (by rwa [tb_ne (by decide)] at h), fun h => CL11.out (by rwa [tb_ne (by decide)] at h), fun h => ⟨(QL12.out (by rwa [tb_ne (by decide)] at h)).1, (QL12.out (by rwa [tb_ne (by decide)] at h)).2.1.below hb (QL12.out (by rwa [tb_ne (by decide)] at h)).2.1.lt, (QL12.out (by rwa [tb_ne (by decide)] at h)).2.2⟩⟩
    · refine wpOp_at rfl (by kernel_rfl) (fun K hK => ?_)
      have hd := fun j => @tb_of _ _ j hd
      obtain rfl := CL6.out (hd _ (by decide))
      go_simp
      go_at_call 75
      refine (C19.out _).mono ?_
      rintro r w10 ⟨rfl, hb⟩
      dsimp only
      have hb1 := below_step HB0.out hb
      exact hK _ _ ⟨HS163.out _ hb1, v4, _, _, v10, v11, p12_, g12_, by go_simp, hb1, fun h => CL4.out (by rwa [tb_ne (by decide)] at h), fun _ => rfl, fun _ => rfl, fun h => CL10.out (by rwa [tb_ne (by decide)] at h), fun h => CL11.out (by rwa [tb_ne (by decide)] at h), fun h => ⟨(QL12.out (by rwa [tb_ne (by decide)] at h)).1, (QL12.out (by rwa [tb_ne (by decide)] at h)).2.1.below hb (QL12.out (by rwa [tb_ne (by decide)] at h)).2.1.lt, (QL12.out (by rwa [tb_ne (by decide)] at h)).2.2⟩⟩
    · refine wpOp_at rfl (by kernel_rfl) (fun K hK => ?_)
      have hd := fun j => @tb_of _ _ j hd
      obtain rfl := CL7.out (hd _ (by decide))
      go_simp
      go_at_call 83
      refine (C20.out _).mono ?_
      rintro r w10 ⟨rfl, hb⟩
      dsimp only
      have hb1 := below_step HB0.out hb
      exact hK _ _ ⟨HS163.out _ hb1, v4, v6, _, _, v11, p12_, g12_, by go_simp, hb1, fun h => CL4.out (by rwa [tb_ne (by decide)] at h), fun h => CL6.out (by rwa [tb_ne (by decide)] at h), fun _ => rfl, fun _ => rfl, fun h => CL11.out (by rwa [tb_ne (by decide)] at h), fun h => ⟨(QL12.out (by rwa [tb_ne (by decide)] at h)).1, (QL12.out (by rwa [tb_ne (by decide)] at h)).2.1.below hb (QL12.out (by rwa [tb_ne (by decide)] at h)).2.1.lt, (QL12.out (by rwa [tb_ne (by decide)] at h)).2.2⟩⟩
    · refine wpOp_at rfl (by kernel_rfl) (fun K hK => ?_)
      have hd := fun j => @tb_of _ _ j hd
      obtain rfl := CL7.out (hd _ (by decide))
      obtain rfl := CL10.out (hd _ (by decide))
      have hb1 := HB0.out
      go_simp
      exact hK _ _ ⟨HS163.out _ hb1, v4, v6, _, _, _, p12_, g12_, by go_simp, hb1, fun h => CL4.out (by rwa [tb_ne (by decide)] at h), fun h => CL6.out (by rwa [tb_ne (by decide)] at h), fun _ => rfl, fun _ => rfl, fun _ => rfl, fun h => ⟨(QL12.out (by rwa [tb_ne (by decide)] at h)).1, (QL12.out (by rwa [tb_ne (by decide)] at h)).2.1, (QL12.out (by rwa [tb_ne (by decide)] at h)).2.2⟩⟩
    · refine wpOp_at rfl (by kernel_rfl) (fun K hK => ?_)
      have hd := fun j => @tb_of _ _ j hd
      go_simp
      have hb1 := below_more HB0.out (.cells #[.float .f64 0, .float .f64 0, .float .f64 0, .float .f64 0, .float .f64 0, .float .f64 0] 26)
      exact hK _ _ ⟨HS163.out _ hb1, v4, v6, v7, v10, v11, .pointer (some ⟨w9.heap.size, 0, none⟩), w9.heap.size, by go_simp, hb1, fun h => CL4.out (by rwa [tb_ne (by decide)] at h), fun h => CL6.out (by rwa [tb_ne (by decide)] at h), fun h => CL7.out (by rwa [tb_ne (by decide)] at h), fun h => CL10.out (by rwa [tb_ne (by decide)] at h), fun h => CL11.out (by rwa [tb_ne (by decide)] at h), fun _ => ⟨rfl, Blk.new_at _ _ _ rfl, HB0.out.size⟩⟩
  clear hS155 D154 HS163
  intro a' W180 hJ
  obtain ⟨v4, v6, v7, v10, v11, p12_, g181, rfl, hb0, cl4, cl6, cl7, cl10, cl11, ql12⟩ := hJ
  obtain rfl := cl4 (by decide)
  obtain rfl := cl6 (by decide)
  obtain rfl := cl7 (by decide)
  obtain rfl := cl10 (by decide)
  obtain rfl := cl11 (by decide)
  obtain ⟨rfl, kk12, ll12⟩ := ql12 (by decide)
  have D166 := Lib.hid hb0
  clear hb0
  refine wpAnyH_frame (a' := ?frq165) ?feq165 ?fgq165
  case feq165 => (go_simp; try with_reducible rfl)
  have K168 := Lib.hid ((kb K143 D166) : Blk W180 (w.heap.size) 26 (vc n))
  have K169 := Lib.hid ((kb K144 D166) : Blk W180 (w.heap.size + 1) 26 #[.float .f64 0, .float .f64 0, .float .f64 0, .float .f64 0, .float .f64 0, .float .f64 0])
  have K170 := Lib.hid ((kb K145 D166) : Blk W180 (w.heap.size + 1 + 1) 26 #[.float .f64 0, .float .f64 0, .float .f64 0, .float .f64 0, .float .f64 0, .float .f64 0])
  have K171 := Lib.hid ((kb K146 D166) : Blk W180 (g8) 24 #[.float .f64 p2.lo, .float .f64 p2.hi])
  have K172 := Lib.hid ((kb K147 D166) : Blk W180 (g51) 24 #[.float .f64 p6.lo, .float .f64 p6.hi])
  have K173 := Lib.hid ((kb K148 D166) : Blk W180 (g91) 24 #[.float .f64 p8.lo, .float .f64 p8.hi])
  have K174 := Lib.hid ((kb K149 D166) : Blk W180 (g137) 26 #[.float .f64 p13.lo, .float .f64 p13.hi, .float .f64 p14.lo, .float .f64 p14.hi, .float .f64 p16.lo, .float .f64 p16.hi])
  have K175 := Lib.hid kk12
  clear kk12
  have HB178 := Lib.hid (below_step HB150.out D166.out)
  have Y177 := Lib.hid (show w.heap.size ≤ g181 ∧ w.heap.size < g181 ∧ w.heap.size + 1 < g181 ∧ w.heap.size + 1 + 1 < g181 ∧ g8 < g181 ∧ g51 < g181 ∧ g91 < g181 ∧ g137 < g181 from ⟨Nat.le_trans HB150.out.size ll12, Nat.lt_of_lt_of_le K143.out.lt ll12, Nat.lt_of_lt_of_le K144.out.lt ll12, Nat.lt_of_lt_of_le K145.out.lt ll12, Nat.lt_of_lt_of_le K146.out.lt ll12, Nat.lt_of_lt_of_le K147.out.lt ll12, Nat.lt_of_lt_of_le K148.out.lt ll12, Nat.lt_of_lt_of_le K149.out.lt ll12⟩)
  have Y179 := Lib.hid (And.intro Y135.out Y177.out)
  clear Y135 Y177
  clear K143 K144 K145 K146 K147 K148 K149 ll12 HB150
  have D182 := Lib.hid (Below.refl W180.heap.size W180)
  clear D166
  have hS183 : True ∧ CellsL W180 (w.heap.size) 2 [.float .f64 n.y.lo, .float .f64 n.y.hi] ∧ CellsL W180 (g8) 0 [.float .f64 p2.lo, .float .f64 p2.hi] ∧ CellsL W180 (g51) 0 [.float .f64 p6.lo, .float .f64 p6.hi] ∧ CellsL W180 (g91) 0 [.float .f64 p8.lo, .float .f64 p8.hi] := ⟨trivial, (kb K168 D182).cellsL 2 [.float .f64 n.y.lo, .float .f64 n.y.hi] rfl, (kb K171 D182).cellsL 0 [.float .f64 p2.lo, .float .f64 p2.hi] rfl, (kb K172 D182).cellsL 0 [.float .f64 p6.lo, .float .f64 p6.hi] rfl, (kb K173 D182).cellsL 0 [.float .f64 p8.lo, .float .f64 p8.hi] rfl⟩
  refine wpAnyH_oneM (i := 13) (l' := bm 14 16383) rfl (by kernel_rfl) (by kernel_rfl) (by kernel_rfl) (fun K hK => ?_)
  have f186 := (kb K175 D182)
  obtain ⟨V184, hV185⟩ : ∃ V, World.setRow W180 (g181) #[.float .f64 p8.lo, .float .f64 p8.hi, .float .f64 p19.lo, .float .f64 p19.hi, .float .f64 p20.lo, .float .f64 p20.hi] = V := ⟨_, rfl⟩
  have K187 := kfr hV185 K168 D182 (by have := Y179.out; omega)
  have K188 := kfr hV185 K169 D182 (by have := Y179.out; omega)
  have K189 := kfr hV185 K170 D182 (by have := Y179.out; omega)
  have K190 := kfr hV185 K171 D182 (by have := Y179.out; omega)
  have K191 := kfr hV185 K172 D182 (by have := Y179.out; omega)
  have K192 := kfr hV185 K173 D182 (by have := Y179.out; omega)
  have K193 := kfr hV185 K174 D182 (by have := Y179.out; omega)
  have K194 := ksr hV185 K175 D182
  have HB195 := hbr hV185 HB178 D182 (by have := Y179.out; omega)
  have D196 := dr V184
  clear K168 K169 K170 K171 K172 K173 K174 K175 HB178 D182
  refine wp_store_row 26 _ _ rfl (g181) #[.float .f64 p8.lo, .float .f64 p8.hi, .float .f64 p19.lo, .float .f64 p19.hi, .float .f64 p20.lo, .float .f64 p20.hi] rfl rfl _ _ f186 (by rw [info_V3]; rfl) rfl (by kernel_rfl) ?_
  rw [hV185]
  go_simp
  clear hV185 f186
  have hS197 : True ∧ CellsL V184 (w.heap.size) 2 [.float .f64 n.y.lo, .float .f64 n.y.hi] ∧ CellsL V184 (g8) 0 [.float .f64 p2.lo, .float .f64 p2.hi] ∧ CellsL V184 (g51) 0 [.float .f64 p6.lo, .float .f64 p6.hi] ∧ CellsL V184 (g91) 0 [.float .f64 p8.lo, .float .f64 p8.hi] := ⟨trivial, (kb K187 D196).cellsL 2 [.float .f64 n.y.lo, .float .f64 n.y.hi] rfl, (kb K190 D196).cellsL 0 [.float .f64 p2.lo, .float .f64 p2.hi] rfl, (kb K191 D196).cellsL 0 [.float .f64 p6.lo, .float .f64 p6.hi] rfl, (kb K192 D196).cellsL 0 [.float .f64 p8.lo, .float .f64 p8.hi] rfl⟩
  refine hK _ _ hS197 ?_
  clear hK K hS183
  refine wpAnyH_done (by kernel_rfl) ?_ _
  clear hS197
  go_wp2_with fail
  refine wp_region_held (S := (fun w' => True ∧ Blk w' (g137) 26 #[.float .f64 p13.lo, .float .f64 p13.hi, .float .f64 p14.lo, .float .f64 p14.hi, .float .f64 p16.lo, .float .f64 p16.hi] ∧ Blk w' (g181) 26 #[.float .f64 p8.lo, .float .f64 p8.hi, .float .f64 p19.lo, .float .f64 p19.hi, .float .f64 p20.lo, .float .f64 p20.hi])) (by kernel_rfl) ?_
  change wpAnyH _ _ _ _ _ _ _ _ (World.drew _)
  obtain ⟨wd198, hwd⟩ : ∃ x, x = World.drew V184 := ⟨_, rfl⟩
  rw [← hwd]
  have D199 := Lib.hid (hwd ▸ Below.drew D196.out : Below V184.heap.size V184 wd198)
  clear D196 hwd
  have hS200 : True ∧ Blk wd198 (g137) 26 #[.float .f64 p13.lo, .float .f64 p13.hi, .float .f64 p14.lo, .float .f64 p14.hi, .float .f64 p16.lo, .float .f64 p16.hi] ∧ Blk wd198 (g181) 26 #[.float .f64 p8.lo, .float .f64 p8.hi, .float .f64 p19.lo, .float .f64 p19.hi, .float .f64 p20.lo, .float .f64 p20.hi] := ⟨trivial, (kb K193 D199), (kb K194 D199)⟩
  refine tkL 0 (bm 6 1) ?aq201 rfl (by kernel_rfl) (fun _ _ _ h => h) (by kernel_rfl) rfl rfl (fun _ hS => hS.2.1) (by rw [info_V3]; rfl) Try.underlying26 rfl ?pq201 hS200 ?rq201
  case pq201 => (go_simp; try with_reducible rfl)
  refine tkL 1 (bm 6 3) ?aq202 rfl (by kernel_rfl) (fun _ _ _ h => h) (by kernel_rfl) rfl rfl (fun _ hS => hS.2.2) (by rw [info_V3]; rfl) Try.underlying26 rfl ?pq202 hS200 ?rq202
  case pq202 => (go_simp; try with_reducible rfl)
  refine tk 2 (bm 6 7) ?vq203 ?aq203 rfl (by kernel_rfl) (fun _ _ _ h => h) (by kernel_rfl) ?hq203 ?pq203 hS200 ?rq203
  case hq203 => (intro w hS; go_simp; try with_reducible rfl)
  case pq203 => (go_simp; try with_reducible rfl)
  refine wpAnyH_oneN (i := 3) (l' := bm 6 15) rfl (by kernel_rfl) (by kernel_rfl) (by kernel_rfl) (fun K hK => ?_)
  have f206 := (kb K188 D199)
  obtain ⟨V204, hV205⟩ : ∃ V, World.setRow wd198 (w.heap.size + 1) #[.float .f64 p13.lo, .float .f64 p13.hi, .float .f64 p14.lo, .float .f64 p14.hi, .float .f64 p16.lo, .float .f64 p16.hi] = V := ⟨_, rfl⟩
  have K207 := kfr hV205 K187 D199 (by have := Y179.out; omega)
  have K208 := ksr hV205 K188 D199
  have K209 := kfr hV205 K189 D199 (by have := Y179.out; omega)
  have K210 := kfr hV205 K190 D199 (by have := Y179.out; omega)
  have K211 := kfr hV205 K191 D199 (by have := Y179.out; omega)
  have K212 := kfr hV205 K192 D199 (by have := Y179.out; omega)
  have K213 := kfr hV205 K193 D199 (by have := Y179.out; omega)
  have K214 := kfr hV205 K194 D199 (by have := Y179.out; omega)
  have HB215 := hbr hV205 HB195 D199 (by have := Y179.out; omega)
  have D216 := dr V204
  clear K187 K188 K189 K190 K191 K192 K193 K194 HB195 D199
  refine wp_store_row 26 _ _ rfl (w.heap.size + 1) #[.float .f64 p13.lo, .float .f64 p13.hi, .float .f64 p14.lo, .float .f64 p14.hi, .float .f64 p16.lo, .float .f64 p16.hi] rfl rfl _ _ f206 (by rw [info_V3]; rfl) rfl (by kernel_rfl) ?_
  rw [hV205]
  go_simp
  clear hV205 f206
  have hS217 : True ∧ Blk V204 (g137) 26 #[.float .f64 p13.lo, .float .f64 p13.hi, .float .f64 p14.lo, .float .f64 p14.hi, .float .f64 p16.lo, .float .f64 p16.hi] ∧ Blk V204 (g181) 26 #[.float .f64 p8.lo, .float .f64 p8.hi, .float .f64 p19.lo, .float .f64 p19.hi, .float .f64 p20.lo, .float .f64 p20.hi] := ⟨trivial, (kb K213 D216), (kb K214 D216)⟩
  refine hK _ _ hS217 ?_
  clear hK K hS200
  refine wpAnyH_oneN (i := 4) (l' := bm 6 31) rfl (by kernel_rfl) (by kernel_rfl) (by kernel_rfl) (fun K hK => ?_)
  have f220 := (kb K209 D216)
  obtain ⟨V218, hV219⟩ : ∃ V, World.setRow V204 (w.heap.size + 1 + 1) #[.float .f64 p8.lo, .float .f64 p8.hi, .float .f64 p19.lo, .float .f64 p19.hi, .float .f64 p20.lo, .float .f64 p20.hi] = V := ⟨_, rfl⟩
  have K221 := kfr hV219 K207 D216 (by have := Y179.out; omega)
  have K222 := kfr hV219 K208 D216 (by have := Y179.out; omega)
  have K223 := ksr hV219 K209 D216
  have K224 := kfr hV219 K210 D216 (by have := Y179.out; omega)
  have K225 := kfr hV219 K211 D216 (by have := Y179.out; omega)
  have K226 := kfr hV219 K212 D216 (by have := Y179.out; omega)
  have K227 := kfr hV219 K213 D216 (by have := Y179.out; omega)
  have K228 := kfr hV219 K214 D216 (by have := Y179.out; omega)
  have HB229 := hbr hV219 HB215 D216 (by have := Y179.out; omega)
  have D230 := dr V218
  clear K207 K208 K209 K210 K211 K212 K213 K214 HB215 D216
  refine wp_store_row 26 _ _ rfl (w.heap.size + 1 + 1) #[.float .f64 p8.lo, .float .f64 p8.hi, .float .f64 p19.lo, .float .f64 p19.hi, .float .f64 p20.lo, .float .f64 p20.hi] rfl rfl _ _ f220 (by rw [info_V3]; rfl) rfl (by kernel_rfl) ?_
  rw [hV219]
  go_simp
  clear hV219 f220
  have hS231 : True ∧ Blk V218 (g137) 26 #[.float .f64 p13.lo, .float .f64 p13.hi, .float .f64 p14.lo, .float .f64 p14.hi, .float .f64 p16.lo, .float .f64 p16.hi] ∧ Blk V218 (g181) 26 #[.float .f64 p8.lo, .float .f64 p8.hi, .float .f64 p19.lo, .float .f64 p19.hi, .float .f64 p20.lo, .float .f64 p20.hi] := ⟨trivial, (kb K227 D230), (kb K228 D230)⟩
  refine hK _ _ hS231 ?_
  clear hK K hS217
  refine tk 5 (bm 6 63) ?vq232 ?aq232 rfl (by kernel_rfl) (fun _ _ _ h => h) (by kernel_rfl) ?hq232 ?pq232 hS231 ?rq232
  case hq232 => (intro w hS; go_simp; try with_reducible rfl)
  case pq232 => (go_simp; try with_reducible rfl)
  refine wpAnyH_done (by kernel_rfl) ?_ _
  clear hS231
  go_wp2_with fail
  (try simp only [Exit.inBlock, Exit.then])
  exact bodyPost_ret (res_cct rfl _ _ (w.heap.size + 1) #[.float .f64 p13.lo, .float .f64 p13.hi, .float .f64 p14.lo, .float .f64 p14.hi, .float .f64 p16.lo, .float .f64 p16.hi] (w.heap.size + 1 + 1) #[.float .f64 p8.lo, .float .f64 p8.hi, .float .f64 p19.lo, .float .f64 p19.hi, .float .f64 p20.lo, .float .f64 p20.hi] rfl (kb K222 D230) (by rw [info_V3]; rfl) Try.underlying26 rfl rfl (kb K223 D230) (by rw [info_V3]; rfl) Try.underlying26 rfl) rfl ⟨rfl, below_step HB229.out D230.out⟩
set_option maxRecDepth 100000 in
set_option maxHeartbeats 8000000 in
theorem frame_0 (n : V3) (h : posS (negS n.z) = 0) (w : World) : Calls Try.prog 54 #[Value.agg #[.float .f64 n.x.lo, .float .f64 n.x.hi, .float .f64 n.y.lo, .float .f64 n.y.hi, .float .f64 n.z.lo, .float .f64 n.z.hi]] w fun r w' => r = .returned (.tuple #[vval (frT (ofS 4607182418800017408) n), vval (frU (ofS 4607182418800017408) n), .int .i64 1]) ∧ Below w.heap.size w w' := by
  have C0 := Lib.hid (fun w => neg_sp n.z w)
  obtain ⟨p0, hp0⟩ : ∃ z_, negS n.z = z_ := ⟨_, rfl⟩
  rw [hp0] at C0
  have hl : posS p0 = 0 := by rw [← hp0]; exact h
  clear h
  have C1 := Lib.hid (fun w => pos_lit hl w)
  have C2 := Lib.hid (fun w => of_sp 4607182418800017408 (by decide) w)
  obtain ⟨p2, hp2⟩ : ∃ z_, ofS 4607182418800017408 = z_ := ⟨_, rfl⟩
  rw [hp2] at C2
  have C3 := Lib.hid (fun w => of_sp 4607182418800017408 (by decide) w)
  rw [hp2] at C3
  have C4 := Lib.hid (fun w => add_sp p2 n.z w)
  obtain ⟨p4, hp4⟩ : ∃ z_, addS p2 n.z = z_ := ⟨_, rfl⟩
  rw [hp4] at C4
  have C5 := Lib.hid (fun w => div_sp p2 p4 w)
  obtain ⟨p5, hp5⟩ : ∃ z_, divS p2 p4 = z_ := ⟨_, rfl⟩
  rw [hp5] at C5
  have C6 := Lib.hid (fun w => neg_sp p5 w)
  obtain ⟨p6, hp6⟩ : ∃ z_, negS p5 = z_ := ⟨_, rfl⟩
  rw [hp6] at C6
  have C7 := Lib.hid (fun w => mul_sp n.x n.y w)
  obtain ⟨p7, hp7⟩ : ∃ z_, mulS n.x n.y = z_ := ⟨_, rfl⟩
  rw [hp7] at C7
  have C8 := Lib.hid (fun w => mul_sp p7 p6 w)
  obtain ⟨p8, hp8⟩ : ∃ z_, mulS p7 p6 = z_ := ⟨_, rfl⟩
  rw [hp8] at C8
  have C9 := Lib.hid (fun w => of_sp 4607182418800017408 (by decide) w)
  rw [hp2] at C9
  have C10 := Lib.hid (fun w => sqr_sp n.x w)
  obtain ⟨p10, hp10⟩ : ∃ z_, sqrS n.x = z_ := ⟨_, rfl⟩
  rw [hp10] at C10
  have C11 := Lib.hid (fun w => mul_sp p2 p10 w)
  obtain ⟨p11, hp11⟩ : ∃ z_, mulS p2 p10 = z_ := ⟨_, rfl⟩
  rw [hp11] at C11
  have C12 := Lib.hid (fun w => mul_sp p11 p6 w)
  obtain ⟨p12, hp12⟩ : ∃ z_, mulS p11 p6 = z_ := ⟨_, rfl⟩
  rw [hp12] at C12
  have C13 := Lib.hid (fun w => add_sp p2 p12 w)
  obtain ⟨p13, hp13⟩ : ∃ z_, addS p2 p12 = z_ := ⟨_, rfl⟩
  rw [hp13] at C13
  have C14 := Lib.hid (fun w => mul_sp p2 p8 w)
  obtain ⟨p14, hp14⟩ : ∃ z_, mulS p2 p8 = z_ := ⟨_, rfl⟩
  rw [hp14] at C14
  have C15 := Lib.hid (fun w => mul_sp p2 n.x w)
  obtain ⟨p15, hp15⟩ : ∃ z_, mulS p2 n.x = z_ := ⟨_, rfl⟩
  rw [hp15] at C15
  have C16 := Lib.hid (fun w => neg_sp p15 w)
  obtain ⟨p16, hp16⟩ : ∃ z_, negS p15 = z_ := ⟨_, rfl⟩
  rw [hp16] at C16
  have C17 := Lib.hid (fun w => sqr_sp n.y w)
  obtain ⟨p17, hp17⟩ : ∃ z_, sqrS n.y = z_ := ⟨_, rfl⟩
  rw [hp17] at C17
  have C18 := Lib.hid (fun w => mul_sp p17 p6 w)
  obtain ⟨p18, hp18⟩ : ∃ z_, mulS p17 p6 = z_ := ⟨_, rfl⟩
  rw [hp18] at C18
  have C19 := Lib.hid (fun w => add_sp p2 p18 w)
  obtain ⟨p19, hp19⟩ : ∃ z_, addS p2 p18 = z_ := ⟨_, rfl⟩
  rw [hp19] at C19
  have C20 := Lib.hid (fun w => neg_sp n.y w)
  obtain ⟨p20, hp20⟩ : ∃ z_, negS n.y = z_ := ⟨_, rfl⟩
  rw [hp20] at C20
  have hT0 : frT (ofS 4607182418800017408) n = (⟨p13, p14, p16⟩ : V3) := by
    subst hp0 hp2 hp4 hp5 hp6 hp7 hp8 hp10 hp11 hp12 hp13 hp14 hp15 hp16 hp17 hp18 hp19 hp20; rfl
  have hT1 : frU (ofS 4607182418800017408) n = (⟨p8, p19, p20⟩ : V3) := by
    subst hp0 hp2 hp4 hp5 hp6 hp7 hp8 hp10 hp11 hp12 hp13 hp14 hp15 hp16 hp17 hp18 hp19 hp20; rfl
  rw [hT0, hT1]
  clear hT0 hT1
  clear hp0 hp2 hp4 hp5 hp6 hp7 hp8 hp10 hp11 hp12 hp13 hp14 hp15 hp16 hp17 hp18 hp19 hp20
  go_enter Try.func54, Try.ntmps54
  go_wp2_with fail
  obtain ⟨W, hW, K0, K1, K2, hB, hz⟩ := bx3 w 26 26 26 (vc n) #[.float .f64 0, .float .f64 0, .float .f64 0, .float .f64 0, .float .f64 0, .float .f64 0] #[.float .f64 0, .float .f64 0, .float .f64 0, .float .f64 0, .float .f64 0, .float .f64 0]
  rw [← hW]
  have K0 := Lib.hid K0
  have K1 := Lib.hid K1
  have K2 := Lib.hid K2
  have HB := Lib.hid hB
  clear hW hB hz
  have D1 := dr W
  refine (C0.out _).mono ?_
  rintro r w2 ⟨rfl, hb⟩
  have D3 := ds D1 hb
  clear D1
  clear hb
  go_wp2_with fail
  refine (C1.out _).mono ?_
  rintro r w4 ⟨rfl, hb⟩
  have D5 := ds D3 hb
  clear D3
  clear hb
  go_wp2_with fail
  refine (C2.out _).mono ?_
  rintro r w6 ⟨rfl, hb⟩
  have D7 := ds D5 hb
  clear D5
  clear hb
  obtain ⟨g8, hg10⟩ : ∃ g, w6.heap.size = g := ⟨_, rfl⟩
  have Y12 := Lib.hid (show w.heap.size < g8 ∧ w.heap.size + 1 < g8 ∧ w.heap.size + 1 + 1 < g8 by rw [← hg10]; exact ⟨(kb K0 D7).lt, (kb K1 D7).lt, (kb K2 D7).lt⟩)
  obtain ⟨V9, hV11⟩ : ∃ V, w6.alloc (.cells #[.float .f64 0, .float .f64 0] 24) = V := ⟨_, rfl⟩
  have K13 := ka hV11 K0 D7
  have K14 := ka hV11 K1 D7
  have K15 := ka hV11 K2 D7
  have K16 := kn hV11 hg10
  have HB17 := hba hV11 HB D7
  have D18 := dr V9
  clear K0 K1 K2 HB D7
  have f21 := (kb K16 D18).cellsL 0 [.float .f64 0, .float .f64 0] rfl
  dsimp only [CellsL, al, vl, Nat.reduceAdd] at f21
  have u22 := (kb K16 D18).unfrozen
  obtain ⟨V19, hV20⟩ : ∃ V, setCells V9 (g8) 0 [.float .f64 p2.lo, .float .f64 p2.hi] = V := ⟨_, rfl⟩
  have hv23 := hV20
  simp only [setCells, Nat.reduceAdd] at hv23
  have K24 := kf hV20 K13 D18 (by have := Y12.out; omega)
  have K25 := kf hV20 K14 D18 (by have := Y12.out; omega)
  have K26 := kf hV20 K15 D18 (by have := Y12.out; omega)
  have K27 := Lib.hid (show Blk V19 (g8) 24 #[.float .f64 p2.lo, .float .f64 p2.hi] from (ks hV20 K16 D18).out)
  have HB28 := hbs hV20 HB17 D18 (by have := Y12.out; omega)
  have D29 := dr V19
  clear K13 K14 K15 K16 HB17 D18
  go_wp2_with fail
  clear hg10 hV11 hV20 f21 u22 hv23
  refine wp_region_held (S := (fun w' => True ∧ CellsL w' (w.heap.size) 4 [.float .f64 n.z.lo, .float .f64 n.z.hi] ∧ CellsL w' (g8) 0 [.float .f64 p2.lo, .float .f64 p2.hi])) (by kernel_rfl) ?_
  change wpAnyH _ _ _ _ _ _ _ _ (World.drew _)
  obtain ⟨wd30, hwd⟩ : ∃ x, x = World.drew V19 := ⟨_, rfl⟩
  rw [← hwd]
  have D31 := Lib.hid (hwd ▸ Below.drew D29.out : Below V19.heap.size V19 wd30)
  clear D29 hwd
  have hS32 : True ∧ CellsL wd30 (w.heap.size) 4 [.float .f64 n.z.lo, .float .f64 n.z.hi] ∧ CellsL wd30 (g8) 0 [.float .f64 p2.lo, .float .f64 p2.hi] := ⟨trivial, (kb K24 D31).cellsL 4 [.float .f64 n.z.lo, .float .f64 n.z.hi] rfl, (kb K27 D31).cellsL 0 [.float .f64 p2.lo, .float .f64 p2.hi] rfl⟩
  refine tk 1 (bm 9 2) ?vq33 ?aq33 rfl (by kernel_rfl) (fun _ _ _ h => h) (by kernel_rfl) ?hq33 ?pq33 hS32 ?rq33
  case hq33 => (intro w hS; dsimp only [CellsL, al, vl, Nat.reduceAdd] at hS; go_simp; try with_reducible rfl)
  case pq33 => (go_simp; try with_reducible rfl)
  refine tk 2 (bm 9 6) ?vq34 ?aq34 rfl (by kernel_rfl) (fun _ _ _ h => h) (by kernel_rfl) ?hq34 ?pq34 hS32 ?rq34
  case hq34 => (intro w hS; go_simp; try with_reducible rfl)
  case pq34 => (go_simp; try with_reducible rfl)
  refine tk 3 (bm 9 14) ?vq35 ?aq35 rfl (by kernel_rfl) (fun _ _ _ h => h) (by kernel_rfl) ?hq35 ?pq35 hS32 ?rq35
  case hq35 => (intro w hS; dsimp only [CellsL, al, vl, Nat.reduceAdd] at hS; go_simp; try with_reducible rfl)
  case pq35 => (go_simp; try with_reducible rfl)
  have HS36 := Lib.hid (show ∀ w', Below V19.heap.size V19 w' → (True ∧ CellsL w' (w.heap.size) 4 [.float .f64 n.z.lo, .float .f64 n.z.hi] ∧ CellsL w' (g8) 0 [.float .f64 p2.lo, .float .f64 p2.hi]) from fun w' b => ⟨trivial, (K24.out.below b K24.out.lt).cellsL 4 [.float .f64 n.z.lo, .float .f64 n.z.hi] rfl, (K27.out.below b K27.out.lt).cellsL 0 [.float .f64 p2.lo, .float .f64 p2.hi] rfl⟩)
  refine wpAnyH_sets2 (N := 9) (stop := 255) (F := 1) (m := 14) (R := [0, 4, 5, 6, 7]) (M := [14, 15, 142, 31, 143, 63, 159, 127, 191, 255]) (fun i => if i = 0 then 0 else if i = 4 then 11 else if i = 5 then 17 else if i = 6 then 32 else if i = 7 then 0 else 0) (fun a0 m a w9 => ∃ (v0 v4 v5 v6 p7_ : Value) (g7_ : Nat), a = (((((a0.put (some 22) v0).put (some 26) v4).put (some 27) v5).put (some 28) v6).put (some 8) p7_) ∧ Below V19.heap.size V19 w9 ∧ (m.testBit 0 = true → v0 = Value.agg #[.float .f64 p2.lo, .float .f64 p2.hi]) ∧ (m.testBit 4 = true → v4 = Value.agg #[.float .f64 p4.lo, .float .f64 p4.hi]) ∧ (m.testBit 5 = true → v5 = Value.agg #[.float .f64 p5.lo, .float .f64 p5.hi]) ∧ (m.testBit 6 = true → v6 = Value.agg #[.float .f64 p6.lo, .float .f64 p6.hi]) ∧ (m.testBit 7 = true → p7_ = .pointer (some ⟨g7_, 0, none⟩) ∧ Blk w9 g7_ 24 #[.float .f64 0, .float .f64 0] ∧ V19.heap.size ≤ g7_)) (by kernel_rfl) (by kernel_rfl) (by kernel_rfl) (by kernel_rfl) ?st9 ?sp9 ?re9
  case st9 =>
    exact ⟨undef, undef, undef, undef, undef, 0, by go_simp, D31.out, fun h => absurd h (by decide), fun h => absurd h (by decide), fun h => absurd h (by decide), fun h => absurd h (by decide), fun h => absurd h (by decide)⟩
  case sp9 =>
    intro m a' w9 i hi hm hd hJ
    obtain ⟨v0, v4, v5, v6, p7_, g7_, rfl, hb0, cl0, cl4, cl5, cl6, ql7⟩ := hJ
    have CL0 := Lib.hid cl0
    have CL4 := Lib.hid cl4
    have CL5 := Lib.hid cl5
    have CL6 := Lib.hid cl6
    have QL7 := Lib.hid ql7
    have HB0 := Lib.hid hb0
    clear cl0 cl4 cl5 cl6 ql7 hb0 hS32
    simp only [List.mem_cons, List.not_mem_nil, or_false] at hi
    rcases hi with rfl | rfl | rfl | rfl | rfl
    · refine wpOp_at rfl (by kernel_rfl) (fun K hK => ?_)
      have hd := fun j => @tb_of _ _ j hd
      go_simp
      go_at_call 76
      refine (C3.out _).mono ?_
      rintro r w10 ⟨rfl, hb⟩
      dsimp only
      have hb1 := below_step HB0.out hb
      exact hK _ _ ⟨HS36.out _ hb1, _, v4, v5, v6, p7_, g7_, by go_simp, hb1, fun _ => rfl, fun h => CL4.out (by rwa [tb_ne (by decide)] at h), fun h => CL5.out (by rwa [tb_ne (by decide)] at h), fun h => CL6.out (by rwa [tb_ne (by decide)] at h), fun h => ⟨(QL7.out (by rwa [tb_ne (by decide)] at h)).1, (QL7.out (by rwa [tb_ne (by decide)] at h)).2.1.below hb (QL7.out (by rwa [tb_ne (by decide)] at h)).2.1.lt, (QL7.out (by rwa [tb_ne (by decide)] at h)).2.2⟩⟩
    · refine wpOp_at rfl (by kernel_rfl) (fun K hK => ?_)
      have hd := fun j => @tb_of _ _ j hd
      obtain rfl := CL0.out (hd _ (by decide))
      go_simp
      go_at_call 75
      refine (C4.out _).mono ?_
      rintro r w10 ⟨rfl, hb⟩
      dsimp only
      have hb1 := below_step HB0.out hb
      exact hK _ _ ⟨HS36.out _ hb1, _, _, v5, v6, p7_, g7_, by go_simp, hb1, fun _ => rfl, fun _ => rfl, fun h => CL5.out (by rwa [tb_ne (by decide)] at h), fun h => CL6.out (by rwa [tb_ne (by decide)] at h), fun h => ⟨(QL7.out (by rwa [tb_ne (by decide)] at h)).1, (QL7.out (by rwa [tb_ne (by decide)] at h)).2.1.below hb (QL7.out (by rwa [tb_ne (by decide)] at h)).2.1.lt, (QL7.out (by rwa [tb_ne (by decide)] at h)).2.2⟩⟩
    · refine wpOp_at rfl (by kernel_rfl) (fun K hK => ?_)
      have hd := fun j => @tb_of _ _ j hd
      obtain rfl := CL0.out (hd _ (by decide))
      obtain rfl := CL4.out (hd _ (by decide))
      go_simp
      go_at_call 71
      refine (C5.out _).mono ?_
      rintro r w10 ⟨rfl, hb⟩
      dsimp only
      have hb1 := below_step HB0.out hb
      exact hK _ _ ⟨HS36.out _ hb1, _, _, _, v6, p7_, g7_, by go_simp, hb1, fun _ => rfl, fun _ => rfl, fun _ => rfl, fun h => CL6.out (by rwa [tb_ne (by decide)] at h), fun h => ⟨(QL7.out (by rwa [tb_ne (by decide)] at h)).1, (QL7.out (by rwa [tb_ne (by decide)] at h)).2.1.below hb (QL7.out (by rwa [tb_ne (by decide)] at h)).2.1.lt, (QL7.out (by rwa [tb_ne (by decide)] at h)).2.2⟩⟩
    · refine wpOp_at rfl (by kernel_rfl) (fun K hK => ?_)
      have hd := fun j => @tb_of _ _ j hd
      obtain rfl := CL5.out (hd _ (by decide))
      go_simp
      go_at_call 83
      refine (C6.out _).mono ?_
      rintro r w10 ⟨rfl, hb⟩
      dsimp only
      have hb1 := below_step HB0.out hb
      exact hK _ _ ⟨HS36.out _ hb1, v0, v4, _, _, p7_, g7_, by go_simp, hb1, fun h => CL0.out (by rwa [tb_ne (by decide)] at h), fun h => CL4.out (by rwa [tb_ne (by decide)] at h), fun _ => rfl, fun _ => rfl, fun h => ⟨(QL7.out (by rwa [tb_ne (by decide)] at h)).1, (QL7.out (by rwa [tb_ne (by decide)] at h)).2.1.below hb (QL7.out (by rwa [tb_ne (by decide)] at h)).2.1.lt, (QL7.out (by rwa [tb_ne (by decide)] at h)).2.2⟩⟩
    · refine wpOp_at rfl (by kernel_rfl) (fun K hK => ?_)
      have hd := fun j => @tb_of _ _ j hd
      go_simp
      have hb1 := below_more HB0.out (.cells #[.float .f64 0, .float .f64 0] 24)
      exact hK _ _ ⟨HS36.out _ hb1, v0, v4, v5, v6, .pointer (some ⟨w9.heap.size, 0, none⟩), w9.heap.size, by go_simp, hb1, fun h => CL0.out (by rwa [tb_ne (by decide)] at h), fun h => CL4.out (by rwa [tb_ne (by decide)] at h), fun h => CL5.out (by rwa [tb_ne (by decide)] at h), fun h => CL6.out (by rwa [tb_ne (by decide)] at h), fun _ => ⟨rfl, Blk.new_at _ _ _ rfl, HB0.out.size⟩⟩
  clear hS32 D31 HS36
  intro a' W50 hJ
  obtain ⟨v0, v4, v5, v6, p7_, g51, rfl, hb0, cl0, cl4, cl5, cl6, ql7⟩ := hJ
  obtain rfl := cl0 (by decide)
  obtain rfl := cl4 (by decide)
  obtain rfl := cl5 (by decide)
  obtain rfl := cl6 (by decide)
  obtain ⟨rfl, kk7, ll7⟩ := ql7 (by decide)
  have D39 := Lib.hid hb0
  clear hb0
  refine wpAnyH_frame (a' := ?frq38) ?feq38 ?fgq38
  case feq38 => (go_simp; try with_reducible rfl)
  have K41 := Lib.hid ((kb K24 D39) : Blk W50 (w.heap.size) 26 (vc n))
  have K42 := Lib.hid ((kb K25 D39) : Blk W50 (w.heap.size + 1) 26 #[.float .f64 0, .float .f64 0, .float .f64 0, .float .f64 0, .float .f64 0, .float .f64 0])
  have K43 := Lib.hid ((kb K26 D39) : Blk W50 (w.heap.size + 1 + 1) 26 #[.float .f64 0, .float .f64 0, .float .f64 0, .float .f64 0, .float .f64 0, .float .f64 0])
  have K44 := Lib.hid ((kb K27 D39) : Blk W50 (g8) 24 #[.float .f64 p2.lo, .float .f64 p2.hi])
  have K45 := Lib.hid kk7
  clear kk7
  have HB48 := Lib.hid (below_step HB28.out D39.out)
  have Y47 := Lib.hid (show w.heap.size ≤ g51 ∧ w.heap.size < g51 ∧ w.heap.size + 1 < g51 ∧ w.heap.size + 1 + 1 < g51 ∧ g8 < g51 from ⟨Nat.le_trans HB28.out.size ll7, Nat.lt_of_lt_of_le K24.out.lt ll7, Nat.lt_of_lt_of_le K25.out.lt ll7, Nat.lt_of_lt_of_le K26.out.lt ll7, Nat.lt_of_lt_of_le K27.out.lt ll7⟩)
  have Y49 := Lib.hid (And.intro Y12.out Y47.out)
  clear Y12 Y47
  clear K24 K25 K26 K27 ll7 HB28
  have D52 := Lib.hid (Below.refl W50.heap.size W50)
  clear D39
  have hS53 : True ∧ CellsL W50 (w.heap.size) 4 [.float .f64 n.z.lo, .float .f64 n.z.hi] ∧ CellsL W50 (g8) 0 [.float .f64 p2.lo, .float .f64 p2.hi] := ⟨trivial, (kb K41 D52).cellsL 4 [.float .f64 n.z.lo, .float .f64 n.z.hi] rfl, (kb K44 D52).cellsL 0 [.float .f64 p2.lo, .float .f64 p2.hi] rfl⟩
  refine wpAnyH_oneM (i := 8) (l' := bm 9 511) rfl (by kernel_rfl) (by kernel_rfl) (by kernel_rfl) (fun K hK => ?_)
  have f56 := (kb K45 D52).cellsL 0 [.float .f64 0, .float .f64 0] rfl
  dsimp only [CellsL, al, vl, Nat.reduceAdd] at f56
  have u57 := (kb K45 D52).unfrozen
  obtain ⟨V54, hV55⟩ : ∃ V, setCells W50 (g51) 0 [.float .f64 p6.lo, .float .f64 p6.hi] = V := ⟨_, rfl⟩
  have hv58 := hV55
  simp only [setCells, Nat.reduceAdd] at hv58
  have K59 := kf hV55 K41 D52 (by have := Y49.out; omega)
  have K60 := kf hV55 K42 D52 (by have := Y49.out; omega)
  have K61 := kf hV55 K43 D52 (by have := Y49.out; omega)
  have K62 := kf hV55 K44 D52 (by have := Y49.out; omega)
  have K63 := Lib.hid (show Blk V54 (g51) 24 #[.float .f64 p6.lo, .float .f64 p6.hi] from (ks hV55 K45 D52).out)
  have HB64 := hbs hV55 HB48 D52 (by have := Y49.out; omega)
  have D65 := dr V54
  clear K41 K42 K43 K44 K45 HB48 D52
  go_simp
  clear hV55 f56 u57 hv58
  have hS66 : True ∧ CellsL V54 (w.heap.size) 4 [.float .f64 n.z.lo, .float .f64 n.z.hi] ∧ CellsL V54 (g8) 0 [.float .f64 p2.lo, .float .f64 p2.hi] := ⟨trivial, (kb K59 D65).cellsL 4 [.float .f64 n.z.lo, .float .f64 n.z.hi] rfl, (kb K62 D65).cellsL 0 [.float .f64 p2.lo, .float .f64 p2.hi] rfl⟩
  refine hK _ _ hS66 ?_
  clear hK K hS53
  refine wpAnyH_done (by kernel_rfl) ?_ _
  clear hS66
  go_wp2_with fail
  refine wp_region_held (S := (fun w' => True ∧ CellsL w' (w.heap.size) 0 [.float .f64 n.x.lo, .float .f64 n.x.hi, .float .f64 n.y.lo, .float .f64 n.y.hi] ∧ CellsL w' (g51) 0 [.float .f64 p6.lo, .float .f64 p6.hi])) (by kernel_rfl) ?_
  change wpAnyH _ _ _ _ _ _ _ _ (World.drew _)
  obtain ⟨wd67, hwd⟩ : ∃ x, x = World.drew V54 := ⟨_, rfl⟩
  rw [← hwd]
  have D68 := Lib.hid (hwd ▸ Below.drew D65.out : Below V54.heap.size V54 wd67)
  clear D65 hwd
  have hS69 : True ∧ CellsL wd67 (w.heap.size) 0 [.float .f64 n.x.lo, .float .f64 n.x.hi, .float .f64 n.y.lo, .float .f64 n.y.hi] ∧ CellsL wd67 (g51) 0 [.float .f64 p6.lo, .float .f64 p6.hi] := ⟨trivial, (kb K59 D68).cellsL 0 [.float .f64 n.x.lo, .float .f64 n.x.hi, .float .f64 n.y.lo, .float .f64 n.y.hi] rfl, (kb K63 D68).cellsL 0 [.float .f64 p6.lo, .float .f64 p6.hi] rfl⟩
  refine tk 0 (bm 9 1) ?vq70 ?aq70 rfl (by kernel_rfl) (fun _ _ _ h => h) (by kernel_rfl) ?hq70 ?pq70 hS69 ?rq70
  case hq70 => (intro w hS; go_simp; try with_reducible rfl)
  case pq70 => (go_simp; try with_reducible rfl)
  refine tk 1 (bm 9 3) ?vq71 ?aq71 rfl (by kernel_rfl) (fun _ _ _ h => h) (by kernel_rfl) ?hq71 ?pq71 hS69 ?rq71
  case hq71 => (intro w hS; dsimp only [CellsL, al, vl, Nat.reduceAdd] at hS; go_simp; try with_reducible rfl)
  case pq71 => (go_simp; try with_reducible rfl)
  refine tk 2 (bm 9 7) ?vq72 ?aq72 rfl (by kernel_rfl) (fun _ _ _ h => h) (by kernel_rfl) ?hq72 ?pq72 hS69 ?rq72
  case hq72 => (intro w hS; go_simp; try with_reducible rfl)
  case pq72 => (go_simp; try with_reducible rfl)
  refine tk 3 (bm 9 15) ?vq73 ?aq73 rfl (by kernel_rfl) (fun _ _ _ h => h) (by kernel_rfl) ?hq73 ?pq73 hS69 ?rq73
  case hq73 => (intro w hS; dsimp only [CellsL, al, vl, Nat.reduceAdd] at hS; go_simp; try with_reducible rfl)
  case pq73 => (go_simp; try with_reducible rfl)
  refine tk 5 (bm 9 47) ?vq74 ?aq74 rfl (by kernel_rfl) (fun _ _ _ h => h) (by kernel_rfl) ?hq74 ?pq74 hS69 ?rq74
  case hq74 => (intro w hS; dsimp only [CellsL, al, vl, Nat.reduceAdd] at hS; go_simp; try with_reducible rfl)
  case pq74 => (go_simp; try with_reducible rfl)
  have HS75 := Lib.hid (show ∀ w', Below V54.heap.size V54 w' → (True ∧ CellsL w' (w.heap.size) 0 [.float .f64 n.x.lo, .float .f64 n.x.hi, .float .f64 n.y.lo, .float .f64 n.y.hi] ∧ CellsL w' (g51) 0 [.float .f64 p6.lo, .float .f64 p6.hi]) from fun w' b => ⟨trivial, (K59.out.below b K59.out.lt).cellsL 0 [.float .f64 n.x.lo, .float .f64 n.x.hi, .float .f64 n.y.lo, .float .f64 n.y.hi] rfl, (K63.out.below b K63.out.lt).cellsL 0 [.float .f64 p6.lo, .float .f64 p6.hi] rfl⟩)
  refine wpAnyH_sets2 (N := 9) (stop := 255) (F := 1) (m := 47) (R := [4, 6, 7]) (M := [47, 63, 175, 127, 191, 255]) (fun i => if i = 4 then 10 else if i = 6 then 48 else if i = 7 then 0 else 0) (fun a0 m a w9 => ∃ (v4 v6 p7_ : Value) (g7_ : Nat), a = (((a0.put (some 33) v4).put (some 35) v6).put (some 9) p7_) ∧ Below V54.heap.size V54 w9 ∧ (m.testBit 4 = true → v4 = Value.agg #[.float .f64 p7.lo, .float .f64 p7.hi]) ∧ (m.testBit 6 = true → v6 = Value.agg #[.float .f64 p8.lo, .float .f64 p8.hi]) ∧ (m.testBit 7 = true → p7_ = .pointer (some ⟨g7_, 0, none⟩) ∧ Blk w9 g7_ 24 #[.float .f64 0, .float .f64 0] ∧ V54.heap.size ≤ g7_)) (by kernel_rfl) (by kernel_rfl) (by kernel_rfl) (by kernel_rfl) ?st10 ?sp10 ?re10
  case st10 =>
    exact ⟨undef, undef, undef, 0, by go_simp, D68.out, fun h => absurd h (by decide), fun h => absurd h (by decide), fun h => absurd h (by decide)⟩
  case sp10 =>
    intro m a' w9 i hi hm hd hJ
    obtain ⟨v4, v6, p7_, g7_, rfl, hb0, cl4, cl6, ql7⟩ := hJ
    have CL4 := Lib.hid cl4
    have CL6 := Lib.hid cl6
    have QL7 := Lib.hid ql7
    have HB0 := Lib.hid hb0
    clear cl4 cl6 ql7 hb0 hS69
    simp only [List.mem_cons, List.not_mem_nil, or_false] at hi
    rcases hi with rfl | rfl | rfl
    · refine wpOp_at rfl (by kernel_rfl) (fun K hK => ?_)
      have hd := fun j => @tb_of _ _ j hd
      go_simp
      go_at_call 78
      refine (C7.out _).mono ?_
      rintro r w10 ⟨rfl, hb⟩
      dsimp only
      have hb1 := below_step HB0.out hb
      exact hK _ _ ⟨HS75.out _ hb1, _, v6, p7_, g7_, by go_simp, hb1, fun _ => rfl, fun h => CL6.out (by rwa [tb_ne (by decide)] at h), fun h => ⟨(QL7.out (by rwa [tb_ne (by decide)] at h)).1, (QL7.out (by rwa [tb_ne (by decide)] at h)).2.1.below hb (QL7.out (by rwa [tb_ne (by decide)] at h)).2.1.lt, (QL7.out (by rwa [tb_ne (by decide)] at h)).2.2⟩⟩
    · refine wpOp_at rfl (by kernel_rfl) (fun K hK => ?_)
      have hd := fun j => @tb_of _ _ j hd
      obtain rfl := CL4.out (hd _ (by decide))
      go_simp
      go_at_call 78
      refine (C8.out _).mono ?_
      rintro r w10 ⟨rfl, hb⟩
      dsimp only
      have hb1 := below_step HB0.out hb
      exact hK _ _ ⟨HS75.out _ hb1, _, _, p7_, g7_, by go_simp, hb1, fun _ => rfl, fun _ => rfl, fun h => ⟨(QL7.out (by rwa [tb_ne (by decide)] at h)).1, (QL7.out (by rwa [tb_ne (by decide)] at h)).2.1.below hb (QL7.out (by rwa [tb_ne (by decide)] at h)).2.1.lt, (QL7.out (by rwa [tb_ne (by decide)] at h)).2.2⟩⟩
    · refine wpOp_at rfl (by kernel_rfl) (fun K hK => ?_)
      have hd := fun j => @tb_of _ _ j hd
      go_simp
      have hb1 := below_more HB0.out (.cells #[.float .f64 0, .float .f64 0] 24)
      exact hK _ _ ⟨HS75.out _ hb1, v4, v6, .pointer (some ⟨w9.heap.size, 0, none⟩), w9.heap.size, by go_simp, hb1, fun h => CL4.out (by rwa [tb_ne (by decide)] at h), fun h => CL6.out (by rwa [tb_ne (by decide)] at h), fun _ => ⟨rfl, Blk.new_at _ _ _ rfl, HB0.out.size⟩⟩
  clear hS69 D68 HS75
  intro a' W90 hJ
  obtain ⟨v4, v6, p7_, g91, rfl, hb0, cl4, cl6, ql7⟩ := hJ
  obtain rfl := cl4 (by decide)
  obtain rfl := cl6 (by decide)
  obtain ⟨rfl, kk7, ll7⟩ := ql7 (by decide)
  have D78 := Lib.hid hb0
  clear hb0
  refine wpAnyH_frame (a' := ?frq77) ?feq77 ?fgq77
  case feq77 => (go_simp; try with_reducible rfl)
  have K80 := Lib.hid ((kb K59 D78) : Blk W90 (w.heap.size) 26 (vc n))
  have K81 := Lib.hid ((kb K60 D78) : Blk W90 (w.heap.size + 1) 26 #[.float .f64 0, .float .f64 0, .float .f64 0, .float .f64 0, .float .f64 0, .float .f64 0])
  have K82 := Lib.hid ((kb K61 D78) : Blk W90 (w.heap.size + 1 + 1) 26 #[.float .f64 0, .float .f64 0, .float .f64 0, .float .f64 0, .float .f64 0, .float .f64 0])
  have K83 := Lib.hid ((kb K62 D78) : Blk W90 (g8) 24 #[.float .f64 p2.lo, .float .f64 p2.hi])
  have K84 := Lib.hid ((kb K63 D78) : Blk W90 (g51) 24 #[.float .f64 p6.lo, .float .f64 p6.hi])
  have K85 := Lib.hid kk7
  clear kk7
  have HB88 := Lib.hid (below_step HB64.out D78.out)
  have Y87 := Lib.hid (show w.heap.size ≤ g91 ∧ w.heap.size < g91 ∧ w.heap.size + 1 < g91 ∧ w.heap.size + 1 + 1 < g91 ∧ g8 < g91 ∧ g51 < g91 from ⟨Nat.le_trans HB64.out.size ll7, Nat.lt_of_lt_of_le K59.out.lt ll7, Nat.lt_of_lt_of_le K60.out.lt ll7, Nat.lt_of_lt_of_le K61.out.lt ll7, Nat.lt_of_lt_of_le K62.out.lt ll7, Nat.lt_of_lt_of_le K63.out.lt ll7⟩)
  have Y89 := Lib.hid (And.intro Y49.out Y87.out)
  clear Y49 Y87
  clear K59 K60 K61 K62 K63 ll7 HB64
  have D92 := Lib.hid (Below.refl W90.heap.size W90)
  clear D78
  have hS93 : True ∧ CellsL W90 (w.heap.size) 0 [.float .f64 n.x.lo, .float .f64 n.x.hi, .float .f64 n.y.lo, .float .f64 n.y.hi] ∧ CellsL W90 (g51) 0 [.float .f64 p6.lo, .float .f64 p6.hi] := ⟨trivial, (kb K80 D92).cellsL 0 [.float .f64 n.x.lo, .float .f64 n.x.hi, .float .f64 n.y.lo, .float .f64 n.y.hi] rfl, (kb K84 D92).cellsL 0 [.float .f64 p6.lo, .float .f64 p6.hi] rfl⟩
  refine wpAnyH_oneM (i := 8) (l' := bm 9 511) rfl (by kernel_rfl) (by kernel_rfl) (by kernel_rfl) (fun K hK => ?_)
  have f96 := (kb K85 D92).cellsL 0 [.float .f64 0, .float .f64 0] rfl
  dsimp only [CellsL, al, vl, Nat.reduceAdd] at f96
  have u97 := (kb K85 D92).unfrozen
  obtain ⟨V94, hV95⟩ : ∃ V, setCells W90 (g91) 0 [.float .f64 p8.lo, .float .f64 p8.hi] = V := ⟨_, rfl⟩
  have hv98 := hV95
  simp only [setCells, Nat.reduceAdd] at hv98
  have K99 := kf hV95 K80 D92 (by have := Y89.out; omega)
  have K100 := kf hV95 K81 D92 (by have := Y89.out; omega)
  have K101 := kf hV95 K82 D92 (by have := Y89.out; omega)
  have K102 := kf hV95 K83 D92 (by have := Y89.out; omega)
  have K103 := kf hV95 K84 D92 (by have := Y89.out; omega)
  have K104 := Lib.hid (show Blk V94 (g91) 24 #[.float .f64 p8.lo, .float .f64 p8.hi] from (ks hV95 K85 D92).out)
  have HB105 := hbs hV95 HB88 D92 (by have := Y89.out; omega)
  have D106 := dr V94
  clear K80 K81 K82 K83 K84 K85 HB88 D92
  go_simp
  clear hV95 f96 u97 hv98
  have hS107 : True ∧ CellsL V94 (w.heap.size) 0 [.float .f64 n.x.lo, .float .f64 n.x.hi, .float .f64 n.y.lo, .float .f64 n.y.hi] ∧ CellsL V94 (g51) 0 [.float .f64 p6.lo, .float .f64 p6.hi] := ⟨trivial, (kb K99 D106).cellsL 0 [.float .f64 n.x.lo, .float .f64 n.x.hi, .float .f64 n.y.lo, .float .f64 n.y.hi] rfl, (kb K103 D106).cellsL 0 [.float .f64 p6.lo, .float .f64 p6.hi] rfl⟩
  refine hK _ _ hS107 ?_
  clear hK K hS93
  refine wpAnyH_done (by kernel_rfl) ?_ _
  clear hS107
  go_wp2_with fail
  refine wp_region_held (S := (fun w' => True ∧ CellsL w' (w.heap.size) 0 [.float .f64 n.x.lo, .float .f64 n.x.hi] ∧ CellsL w' (g8) 0 [.float .f64 p2.lo, .float .f64 p2.hi] ∧ CellsL w' (g51) 0 [.float .f64 p6.lo, .float .f64 p6.hi] ∧ CellsL w' (g91) 0 [.float .f64 p8.lo, .float .f64 p8.hi])) (by kernel_rfl) ?_
  change wpAnyH _ _ _ _ _ _ _ _ (World.drew _)
  obtain ⟨wd108, hwd⟩ : ∃ x, x = World.drew V94 := ⟨_, rfl⟩
  rw [← hwd]
  have D109 := Lib.hid (hwd ▸ Below.drew D106.out : Below V94.heap.size V94 wd108)
  clear D106 hwd
  have hS110 : True ∧ CellsL wd108 (w.heap.size) 0 [.float .f64 n.x.lo, .float .f64 n.x.hi] ∧ CellsL wd108 (g8) 0 [.float .f64 p2.lo, .float .f64 p2.hi] ∧ CellsL wd108 (g51) 0 [.float .f64 p6.lo, .float .f64 p6.hi] ∧ CellsL wd108 (g91) 0 [.float .f64 p8.lo, .float .f64 p8.hi] := ⟨trivial, (kb K99 D109).cellsL 0 [.float .f64 n.x.lo, .float .f64 n.x.hi] rfl, (kb K102 D109).cellsL 0 [.float .f64 p2.lo, .float .f64 p2.hi] rfl, (kb K103 D109).cellsL 0 [.float .f64 p6.lo, .float .f64 p6.hi] rfl, (kb K104 D109).cellsL 0 [.float .f64 p8.lo, .float .f64 p8.hi] rfl⟩
  refine tk 1 (bm 20 2) ?vq111 ?aq111 rfl (by kernel_rfl) (fun _ _ _ h => h) (by kernel_rfl) ?hq111 ?pq111 hS110 ?rq111
  case hq111 => (intro w hS; dsimp only [CellsL, al, vl, Nat.reduceAdd] at hS; go_simp; try with_reducible rfl)
  case pq111 => (go_simp; try with_reducible rfl)
  refine tk 2 (bm 20 6) ?vq112 ?aq112 rfl (by kernel_rfl) (fun _ _ _ h => h) (by kernel_rfl) ?hq112 ?pq112 hS110 ?rq112
  case hq112 => (intro w hS; go_simp; try with_reducible rfl)
  case pq112 => (go_simp; try with_reducible rfl)
  refine tk 3 (bm 20 14) ?vq113 ?aq113 rfl (by kernel_rfl) (fun _ _ _ h => h) (by kernel_rfl) ?hq113 ?pq113 hS110 ?rq113
  case hq113 => (intro w hS; dsimp only [CellsL, al, vl, Nat.reduceAdd] at hS; go_simp; try with_reducible rfl)
  case pq113 => (go_simp; try with_reducible rfl)
  refine tk 6 (bm 20 78) ?vq114 ?aq114 rfl (by kernel_rfl) (fun _ _ _ h => h) (by kernel_rfl) ?hq114 ?pq114 hS110 ?rq114
  case hq114 => (intro w hS; dsimp only [CellsL, al, vl, Nat.reduceAdd] at hS; go_simp; try with_reducible rfl)
  case pq114 => (go_simp; try with_reducible rfl)
  refine tk 9 (bm 20 590) ?vq115 ?aq115 rfl (by kernel_rfl) (fun _ _ _ h => h) (by kernel_rfl) ?hq115 ?pq115 hS110 ?rq115
  case hq115 => (intro w hS; dsimp only [CellsL, al, vl, Nat.reduceAdd] at hS; go_simp; try with_reducible rfl)
  case pq115 => (go_simp; try with_reducible rfl)
  refine tk 10 (bm 20 1614) ?vq116 ?aq116 rfl (by kernel_rfl) (fun _ _ _ h => h) (by kernel_rfl) ?hq116 ?pq116 hS110 ?rq116
  case hq116 => (intro w hS; dsimp only [CellsL, al, vl, Nat.reduceAdd] at hS; go_simp; try with_reducible rfl)
  case pq116 => (go_simp; try with_reducible rfl)
  refine tk 12 (bm 20 5710) ?vq117 ?aq117 rfl (by kernel_rfl) (fun _ _ _ h => h) (by kernel_rfl) ?hq117 ?pq117 hS110 ?rq117
  case hq117 => (intro w hS; dsimp only [CellsL, al, vl, Nat.reduceAdd] at hS; go_simp; try with_reducible rfl)
  case pq117 => (go_simp; try with_reducible rfl)
  refine tk 13 (bm 20 13902) ?vq118 ?aq118 rfl (by kernel_rfl) (fun _ _ _ h => h) (by kernel_rfl) ?hq118 ?pq118 hS110 ?rq118
  case hq118 => (intro w hS; go_simp; try with_reducible rfl)
  case pq118 => (go_simp; try with_reducible rfl)
  refine tk 14 (bm 20 30286) ?vq119 ?aq119 rfl (by kernel_rfl) (fun _ _ _ h => h) (by kernel_rfl) ?hq119 ?pq119 hS110 ?rq119
  case hq119 => (intro w hS; dsimp only [CellsL, al, vl, Nat.reduceAdd] at hS; go_simp; try with_reducible rfl)
  case pq119 => (go_simp; try with_reducible rfl)
  have HS120 := Lib.hid (show ∀ w', Below V94.heap.size V94 w' → (True ∧ CellsL w' (w.heap.size) 0 [.float .f64 n.x.lo, .float .f64 n.x.hi] ∧ CellsL w' (g8) 0 [.float .f64 p2.lo, .float .f64 p2.hi] ∧ CellsL w' (g51) 0 [.float .f64 p6.lo, .float .f64 p6.hi] ∧ CellsL w' (g91) 0 [.float .f64 p8.lo, .float .f64 p8.hi]) from fun w' b => ⟨trivial, (K99.out.below b K99.out.lt).cellsL 0 [.float .f64 n.x.lo, .float .f64 n.x.hi] rfl, (K102.out.below b K102.out.lt).cellsL 0 [.float .f64 p2.lo, .float .f64 p2.hi] rfl, (K103.out.below b K103.out.lt).cellsL 0 [.float .f64 p6.lo, .float .f64 p6.hi] rfl, (K104.out.below b K104.out.lt).cellsL 0 [.float .f64 p8.lo, .float .f64 p8.hi] rfl⟩)
  refine wpAnyH_sets2 (N := 20) (stop := 524287) (F := 1) (m := 30286) (R := [0, 4, 5, 7, 8, 11, 15, 16, 17, 18]) (M := [30286, 30287, 292430, 30303, 292431, 30335, 292447, 30463, 292479, 30719, 292607, 32767, 292863, 65535, 294911, 131071, 327679, 262143, 393215, 524287]) (fun i => if i = 0 then 0 else if i = 4 then 9 else if i = 5 then 18 else if i = 7 then 96 else if i = 8 then 129 else if i = 11 then 1792 else if i = 15 then 22528 else if i = 16 then 32768 else if i = 17 then 67840 else if i = 18 then 0 else 0) (fun a0 m a w9 => ∃ (v0 v4 v5 v7 v8 v11 v15 v16 v17 p18_ : Value) (g18_ : Nat), a = ((((((((((a0.put (some 36) v0).put (some 40) v4).put (some 41) v5).put (some 43) v7).put (some 44) v8).put (some 47) v11).put (some 51) v15).put (some 52) v16).put (some 53) v17).put (some 10) p18_) ∧ Below V94.heap.size V94 w9 ∧ (m.testBit 0 = true → v0 = Value.agg #[.float .f64 p2.lo, .float .f64 p2.hi]) ∧ (m.testBit 4 = true → v4 = Value.agg #[.float .f64 p10.lo, .float .f64 p10.hi]) ∧ (m.testBit 5 = true → v5 = Value.agg #[.float .f64 p11.lo, .float .f64 p11.hi]) ∧ (m.testBit 7 = true → v7 = Value.agg #[.float .f64 p12.lo, .float .f64 p12.hi]) ∧ (m.testBit 8 = true → v8 = Value.agg #[.float .f64 p13.lo, .float .f64 p13.hi]) ∧ (m.testBit 11 = true → v11 = Value.agg #[.float .f64 p14.lo, .float .f64 p14.hi]) ∧ (m.testBit 15 = true → v15 = Value.agg #[.float .f64 p15.lo, .float .f64 p15.hi]) ∧ (m.testBit 16 = true → v16 = Value.agg #[.float .f64 p16.lo, .float .f64 p16.hi]) ∧ (m.testBit 17 = true → v17 = Value.agg #[.float .f64 p13.lo, .float .f64 p13.hi, .float .f64 p14.lo, .float .f64 p14.hi, .float .f64 p16.lo, .float .f64 p16.hi]) ∧ (m.testBit 18 = true → p18_ = .pointer (some ⟨g18_, 0, none⟩) ∧ Blk w9 g18_ 26 #[.float .f64 0, .float .f64 0, .float .f64 0, .float .f64 0, .float .f64 0, .float .f64 0] ∧ V94.heap.size ≤ g18_)) (by kernel_rfl) (by kernel_rfl) (by kernel_rfl) (by kernel_rfl) ?st11 ?sp11 ?re11
  case st11 =>
    exact ⟨undef, undef, undef, undef, undef, undef, undef, undef, undef, undef, 0, by go_simp, D109.out, fun h => absurd h (by decide), fun h => absurd h (by decide), fun h => absurd h (by decide), fun h => absurd h (by decide), fun h => absurd h (by decide), fun h => absurd h (by decide), fun h => absurd h (by decide), fun h => absurd h (by decide), fun h => absurd h (by decide), fun h => absurd h (by decide)⟩
  case sp11 =>
    intro m a' w9 i hi hm hd hJ
    obtain ⟨v0, v4, v5, v7, v8, v11, v15, v16, v17, p18_, g18_, rfl, hb0, cl0, cl4, cl5, cl7, cl8, cl11, cl15, cl16, cl17, ql18⟩ := hJ
    have CL0 := Lib.hid cl0
    have CL4 := Lib.hid cl4
    have CL5 := Lib.hid cl5
    have CL7 := Lib.hid cl7
    have CL8 := Lib.hid cl8
    have CL11 := Lib.hid cl11
    have CL15 := Lib.hid cl15
    have CL16 := Lib.hid cl16
    have CL17 := Lib.hid cl17
    have QL18 := Lib.hid ql18
    have HB0 := Lib.hid hb0
    clear cl0 cl4 cl5 cl7 cl8 cl11 cl15 cl16 cl17 ql18 hb0 hS110
    simp only [List.mem_cons, List.not_mem_nil, or_false] at hi
    rcases hi with rfl | rfl | rfl | rfl | rfl | rfl | rfl | rfl | rfl | rfl
    · refine wpOp_at rfl (by kernel_rfl) (fun K hK => ?_)
      have hd := fun j => @tb_of _ _ j hd
      go_simp
      go_at_call 76
      refine (C9.out _).mono ?_
      rintro r w10 ⟨rfl, hb⟩
      dsimp only
      have hb1 := below_step HB0.out hb
      exact hK _ _ ⟨HS120.out _ hb1, _, v4, v5, v7, v8, v11, v15, v16, v17, p18_, g18_, by go_simp, hb1, fun _ => rfl, fun h => CL4.out (by rwa [tb_ne (by decide)] at h), fun h => CL5.out (by rwa [tb_ne (by decide)] at h), fun h => CL7.out (by rwa [tb_ne (by decide)] at h), fun h => CL8.out (by rwa [tb_ne (by decide)] at h), fun h => CL11.out (by rwa [tb_ne (by decide)] at h), fun h => CL15.out (by rwa [tb_ne (by decide)] at h), fun h => CL16.out (by rwa [tb_ne (by decide)] at h), fun h => CL17.out (by rwa [tb_ne (by decide)] at h), fun h => ⟨(QL18.out (by rwa [tb_ne (by decide)] at h)).1, (QL18.out (by rwa [tb_ne (by decide)] at h)).2.1.below hb (QL18.out (by rwa [tb_ne (by decide)] at h)).2.1.lt, (QL18.out (by rwa [tb_ne (by decide)] at h)).2.2⟩⟩
    · refine wpOp_at rfl (by kernel_rfl) (fun K hK => ?_)
      have hd := fun j => @tb_of _ _ j hd
      obtain rfl := CL0.out (hd _ (by decide))
      go_simp
      go_at_call 93
      refine (C10.out _).mono ?_
      rintro r w10 ⟨rfl, hb⟩
      dsimp only
      have hb1 := below_step HB0.out hb
      exact hK _ _ ⟨HS120.out _ hb1, _, _, v5, v7, v8, v11, v15, v16, v17, p18_, g18_, by go_simp, hb1, fun _ => rfl, fun _ => rfl, fun h => CL5.out (by rwa [tb_ne (by decide)] at h), fun h => CL7.out (by rwa [tb_ne (by decide)] at h), fun h => CL8.out (by rwa [tb_ne (by decide)] at h), fun h => CL11.out (by rwa [tb_ne (by decide)] at h), fun h => CL15.out (by rwa [tb_ne (by decide)] at h), fun h => CL16.out (by rwa [tb_ne (by decide)] at h), fun h => CL17.out (by rwa [tb_ne (by decide)] at h), fun h => ⟨(QL18.out (by rwa [tb_ne (by decide)] at h)).1, (QL18.out (by rwa [tb_ne (by decide)] at h)).2.1.below hb (QL18.out (by rwa [tb_ne (by decide)] at h)).2.1.lt, (QL18.out (by rwa [tb_ne (by decide)] at h)).2.2⟩⟩
    · refine wpOp_at rfl (by kernel_rfl) (fun K hK => ?_)
      have hd := fun j => @tb_of _ _ j hd
      obtain rfl := CL4.out (hd _ (by decide))
      go_simp
      go_at_call 78
      refine (C11.out _).mono ?_
      rintro r w10 ⟨rfl, hb⟩
      dsimp only
      have hb1 := below_step HB0.out hb
      exact hK _ _ ⟨HS120.out _ hb1, v0, _, _, v7, v8, v11, v15, v16, v17, p18_, g18_, by go_simp, hb1, fun h => CL0.out (by rwa [tb_ne (by decide)] at h), fun _ => rfl, fun _ => rfl, fun h => CL7.out (by rwa [tb_ne (by decide)] at h), fun h => CL8.out (by rwa [tb_ne (by decide)] at h), fun h => CL11.out (by rwa [tb_ne (by decide)] at h), fun h => CL15.out (by rwa [tb_ne (by decide)] at h), fun h => CL16.out (by rwa [tb_ne (by decide)] at h), fun h => CL17.out (by rwa [tb_ne (by decide)] at h), fun h => ⟨(QL18.out (by rwa [tb_ne (by decide)] at h)).1, (QL18.out (by rwa [tb_ne (by decide)] at h)).2.1.below hb (QL18.out (by rwa [tb_ne (by decide)] at h)).2.1.lt, (QL18.out (by rwa [tb_ne (by decide)] at h)).2.2⟩⟩
    · refine wpOp_at rfl (by kernel_rfl) (fun K hK => ?_)
      have hd := fun j => @tb_of _ _ j hd
      obtain rfl := CL5.out (hd _ (by decide))
      go_simp
      go_at_call 78
      refine (C12.out _).mono ?_
      rintro r w10 ⟨rfl, hb⟩
      dsimp only
      have hb1 := below_step HB0.out hb
      exact hK _ _ ⟨HS120.out _ hb1, v0, v4, _, _, v8, v11, v15, v16, v17, p18_, g18_, by go_simp, hb1, fun h => CL0.out (by rwa [tb_ne (by decide)] at h), fun h => CL4.out (by rwa [tb_ne (by decide)] at h), fun _ => rfl, fun _ => rfl, fun h => CL8.out (by rwa [tb_ne (by decide)] at h), fun h => CL11.out (by rwa [tb_ne (by decide)] at h), fun h => CL15.out (by rwa [tb_ne (by decide)] at h), fun h => CL16.out (by rwa [tb_ne (by decide)] at h), fun h => CL17.out (by rwa [tb_ne (by decide)] at h), fun h => ⟨(QL18.out (by rwa [tb_ne (by decide)] at h)).1, (QL18.out (by rwa [tb_ne (by decide)] at h)).2.1.below hb (QL18.out (by rwa [tb_ne (by decide)] at h)).2.1.lt, (QL18.out (by rwa [tb_ne (by decide)] at h)).2.2⟩⟩
    · refine wpOp_at rfl (by kernel_rfl) (fun K hK => ?_)
      have hd := fun j => @tb_of _ _ j hd
      obtain rfl := CL0.out (hd _ (by decide))
      obtain rfl := CL7.out (hd _ (by decide))
      go_simp
      go_at_call 75
      refine (C13.out _).mono ?_
      rintro r w10 ⟨rfl, hb⟩
      dsimp only
      have hb1 := below_step HB0.out hb
      exact hK _ _ ⟨HS120.out _ hb1, _, v4, v5, _, _, v11, v15, v16, v17, p18_, g18_, by go_simp, hb1, fun _ => rfl, fun h => CL4.out (by rwa [tb_ne (by decide)] at h), fun h => CL5.out (by rwa [tb_ne (by decide)] at h), fun _ => rfl, fun _ => rfl, fun h => CL11.out (by rwa [tb_ne (by decide)] at h), fun h => CL15.out (by rwa [tb_ne (by decide)] at h), fun h => CL16.out (by rwa [tb_ne (by decide)] at h), fun h => CL17.out (by rwa [tb_ne (by decide)] at h), fun h => ⟨(QL18.out (by rwa [tb_ne (by decide)] at h)).1, (QL18.out (by rwa [tb_ne (by decide)] at h)).2.1.below hb (QL18.out (by rwa [tb_ne (by decide)] at h)).2.1.lt, (QL18.out (by rwa [tb_ne (by decide)] at h)).2.2⟩⟩
    · refine wpOp_at rfl (by kernel_rfl) (fun K hK => ?_)
      have hd := fun j => @tb_of _ _ j hd
      obtain rfl := CL8.out (hd _ (by decide))
      go_simp
      go_at_call 78
      refine (C14.out _).mono ?_
      rintro r w10 ⟨rfl, hb⟩
      dsimp only
      have hb1 := below_step HB0.out hb
      exact hK _ _ ⟨HS120.out _ hb1, v0, v4, v5, v7, _, _, v15, v16, v17, p18_, g18_, by go_simp, hb1, fun h => CL0.out (by rwa [tb_ne (by decide)] at h), fun h => CL4.out (by rwa [tb_ne (by decide)] at h), fun h => CL5.out (by rwa [tb_ne (by decide)] at h), fun h => CL7.out (by rwa [tb_ne (by decide)] at h), fun _ => rfl, fun _ => rfl, fun h => CL15.out (by rwa [tb_ne (by decide)] at h), fun h => CL16.out (by rwa [tb_ne (by decide)] at h), fun h => CL17.out (by rwa [tb_ne (by decide)] at h), fun h => ⟨(QL18.out (by rwa [tb_ne (by decide)] at h)).1, (QL18.out (by rwa [tb_ne (by decide)] at h)).2.1.below hb (QL18.out (by rwa [tb_ne (by decide)] at h)).2.1.lt, (QL18.out (by rwa [tb_ne (by decide)] at h)).2.2⟩⟩
    · refine wpOp_at rfl (by kernel_rfl) (fun K hK => ?_)
      have hd := fun j => @tb_of _ _ j hd
      obtain rfl := CL11.out (hd _ (by decide))
      go_simp
      go_at_call 78
      refine (C15.out _).mono ?_
      rintro r w10 ⟨rfl, hb⟩
      dsimp only
      have hb1 := below_step HB0.out hb
      exact hK _ _ ⟨HS120.out _ hb1, v0, v4, v5, v7, v8, _, _, v16, v17, p18_, g18_, by go_simp, hb1, fun h => CL0.out (by rwa [tb_ne (by decide)] at h), fun h => CL4.out (by rwa [tb_ne (by decide)] at h), fun h => CL5.out (by rwa [tb_ne (by decide)] at h), fun h => CL7.out (by rwa [tb_ne (by decide)] at h), fun h => CL8.out (by rwa [tb_ne (by decide)] at h), fun _ => rfl, fun _ => rfl, fun h => CL16.out (by rwa [tb_ne (by decide)] at h), fun h => CL17.out (by rwa [tb_ne (by decide)] at h), fun h => ⟨(QL18.out (by rwa [tb_ne (by decide)] at h)).1, (QL18.out (by rwa [tb_ne (by decide)] at h)).2.1.below hb (QL18.out (by rwa [tb_ne (by decide)] at h)).2.1.lt, (QL18.out (by rwa [tb_ne (by decide)] at h)).2.2⟩⟩
    · refine wpOp_at rfl (by kernel_rfl) (fun K hK => ?_)
      have hd := fun j => @tb_of _ _ j hd
      obtain rfl := CL15.out (hd _ (by decide))
      go_simp
      go_at_call 83
      refine (C16.out _).mono ?_
      rintro r w10 ⟨rfl, hb⟩
      dsimp only
      have hb1 := below_step HB0.out hb
      exact hK _ _ ⟨HS120.out _ hb1, v0, v4, v5, v7, v8, v11, _, _, v17, p18_, g18_, by go_simp, hb1, fun h => CL0.out (by rwa [tb_ne (by decide)] at h), fun h => CL4.out (by rwa [tb_ne (by decide)] at h), fun h => CL5.out (by rwa [tb_ne (by decide)] at h), fun h => CL7.out (by rwa [tb_ne (by decide)] at h), fun h => CL8.out (by rwa [tb_ne (by decide)] at h), fun h => CL11.out (by rwa [tb_ne (by decide)] at h), fun _ => rfl, fun _ => rfl, fun h => CL17.out (by rwa [tb_ne (by decide)] at h), fun h => ⟨(QL18.out (by rwa [tb_ne (by decide)] at h)).1, (QL18.out (by rwa [tb_ne (by decide)] at h)).2.1.below hb (QL18.out (by rwa [tb_ne (by decide)] at h)).2.1.lt, (QL18.out (by rwa [tb_ne (by decide)] at h)).2.2⟩⟩
    · refine wpOp_at rfl (by kernel_rfl) (fun K hK => ?_)
      have hd := fun j => @tb_of _ _ j hd
      obtain rfl := CL8.out (hd _ (by decide))
      obtain rfl := CL11.out (hd _ (by decide))
      obtain rfl := CL16.out (hd _ (by decide))
      have hb1 := HB0.out
      go_simp
      exact hK _ _ ⟨HS120.out _ hb1, v0, v4, v5, v7, _, _, v15, _, _, p18_, g18_, by go_simp, hb1, fun h => CL0.out (by rwa [tb_ne (by decide)] at h), fun h => CL4.out (by rwa [tb_ne (by decide)] at h), fun h => CL5.out (by rwa [tb_ne (by decide)] at h), fun h => CL7.out (by rwa [tb_ne (by decide)] at h), fun _ => rfl, fun _ => rfl, fun h => CL15.out (by rwa [tb_ne (by decide)] at h), fun _ => rfl, fun _ => rfl, fun h => ⟨(QL18.out (by rwa [tb_ne (by decide)] at h)).1, (QL18.out (by rwa [tb_ne (by decide)] at h)).2.1, (QL18.out (by rwa [tb_ne (by decide)] at h)).2.2⟩⟩
    · refine wpOp_at rfl (by kernel_rfl) (fun K hK => ?_)
      have hd := fun j => @tb_of _ _ j hd
      go_simp
      have hb1 := below_more HB0.out (.cells #[.float .f64 0, .float .f64 0, .float .f64 0, .float .f64 0, .float .f64 0, .float .f64 0] 26)
      exact hK _ _ ⟨HS120.out _ hb1, v0, v4, v5, v7, v8, v11, v15, v16, v17, .pointer (some ⟨w9.heap.size, 0, none⟩), w9.heap.size, by go_simp, hb1, fun h => CL0.out (by rwa [tb_ne (by decide)] at h), fun h => CL4.out (by rwa [tb_ne (by decide)] at h), fun h => CL5.out (by rwa [tb_ne (by decide)] at h), fun h => CL7.out (by rwa [tb_ne (by decide)] at h), fun h => CL8.out (by rwa [tb_ne (by decide)] at h), fun h => CL11.out (by rwa [tb_ne (by decide)] at h), fun h => CL15.out (by rwa [tb_ne (by decide)] at h), fun h => CL16.out (by rwa [tb_ne (by decide)] at h), fun h => CL17.out (by rwa [tb_ne (by decide)] at h), fun _ => ⟨rfl, Blk.new_at _ _ _ rfl, HB0.out.size⟩⟩
  clear hS110 D109 HS120
  intro a' W136 hJ
  obtain ⟨v0, v4, v5, v7, v8, v11, v15, v16, v17, p18_, g137, rfl, hb0, cl0, cl4, cl5, cl7, cl8, cl11, cl15, cl16, cl17, ql18⟩ := hJ
  obtain rfl := cl0 (by decide)
  obtain rfl := cl4 (by decide)
  obtain rfl := cl5 (by decide)
  obtain rfl := cl7 (by decide)
  obtain rfl := cl8 (by decide)
  obtain rfl := cl11 (by decide)
  obtain rfl := cl15 (by decide)
  obtain rfl := cl16 (by decide)
  obtain rfl := cl17 (by decide)
  obtain ⟨rfl, kk18, ll18⟩ := ql18 (by decide)
  have D123 := Lib.hid hb0
  clear hb0
  refine wpAnyH_frame (a' := ?frq122) ?feq122 ?fgq122
  case feq122 => (go_simp; try with_reducible rfl)
  have K125 := Lib.hid ((kb K99 D123) : Blk W136 (w.heap.size) 26 (vc n))
  have K126 := Lib.hid ((kb K100 D123) : Blk W136 (w.heap.size + 1) 26 #[.float .f64 0, .float .f64 0, .float .f64 0, .float .f64 0, .float .f64 0, .float .f64 0])
  have K127 := Lib.hid ((kb K101 D123) : Blk W136 (w.heap.size + 1 + 1) 26 #[.float .f64 0, .float .f64 0, .float .f64 0, .float .f64 0, .float .f64 0, .float .f64 0])
  have K128 := Lib.hid ((kb K102 D123) : Blk W136 (g8) 24 #[.float .f64 p2.lo, .float .f64 p2.hi])
  have K129 := Lib.hid ((kb K103 D123) : Blk W136 (g51) 24 #[.float .f64 p6.lo, .float .f64 p6.hi])
  have K130 := Lib.hid ((kb K104 D123) : Blk W136 (g91) 24 #[.float .f64 p8.lo, .float .f64 p8.hi])
  have K131 := Lib.hid kk18
  clear kk18
  have HB134 := Lib.hid (below_step HB105.out D123.out)
  have Y133 := Lib.hid (show w.heap.size ≤ g137 ∧ w.heap.size < g137 ∧ w.heap.size + 1 < g137 ∧ w.heap.size + 1 + 1 < g137 ∧ g8 < g137 ∧ g51 < g137 ∧ g91 < g137 from ⟨Nat.le_trans HB105.out.size ll18, Nat.lt_of_lt_of_le K99.out.lt ll18, Nat.lt_of_lt_of_le K100.out.lt ll18, Nat.lt_of_lt_of_le K101.out.lt ll18, Nat.lt_of_lt_of_le K102.out.lt ll18, Nat.lt_of_lt_of_le K103.out.lt ll18, Nat.lt_of_lt_of_le K104.out.lt ll18⟩)
  have Y135 := Lib.hid (And.intro Y89.out Y133.out)
  clear Y89 Y133
  clear K99 K100 K101 K102 K103 K104 ll18 HB105
  have D138 := Lib.hid (Below.refl W136.heap.size W136)
  clear D123
  have hS139 : True ∧ CellsL W136 (w.heap.size) 0 [.float .f64 n.x.lo, .float .f64 n.x.hi] ∧ CellsL W136 (g8) 0 [.float .f64 p2.lo, .float .f64 p2.hi] ∧ CellsL W136 (g51) 0 [.float .f64 p6.lo, .float .f64 p6.hi] ∧ CellsL W136 (g91) 0 [.float .f64 p8.lo, .float .f64 p8.hi] := ⟨trivial, (kb K125 D138).cellsL 0 [.float .f64 n.x.lo, .float .f64 n.x.hi] rfl, (kb K128 D138).cellsL 0 [.float .f64 p2.lo, .float .f64 p2.hi] rfl, (kb K129 D138).cellsL 0 [.float .f64 p6.lo, .float .f64 p6.hi] rfl, (kb K130 D138).cellsL 0 [.float .f64 p8.lo, .float .f64 p8.hi] rfl⟩
  refine wpAnyH_oneM (i := 19) (l' := bm 20 1048575) rfl (by kernel_rfl) (by kernel_rfl) (by kernel_rfl) (fun K hK => ?_)
  have f142 := (kb K131 D138)
  obtain ⟨V140, hV141⟩ : ∃ V, World.setRow W136 (g137) #[.float .f64 p13.lo, .float .f64 p13.hi, .float .f64 p14.lo, .float .f64 p14.hi, .float .f64 p16.lo, .float .f64 p16.hi] = V := ⟨_, rfl⟩
  have K143 := kfr hV141 K125 D138 (by have := Y135.out; omega)
  have K144 := kfr hV141 K126 D138 (by have := Y135.out; omega)
  have K145 := kfr hV141 K127 D138 (by have := Y135.out; omega)
  have K146 := kfr hV141 K128 D138 (by have := Y135.out; omega)
  have K147 := kfr hV141 K129 D138 (by have := Y135.out; omega)
  have K148 := kfr hV141 K130 D138 (by have := Y135.out; omega)
  have K149 := ksr hV141 K131 D138
  have HB150 := hbr hV141 HB134 D138 (by have := Y135.out; omega)
  have D151 := dr V140
  clear K125 K126 K127 K128 K129 K130 K131 HB134 D138
  refine wp_store_row 26 _ _ rfl (g137) #[.float .f64 p13.lo, .float .f64 p13.hi, .float .f64 p14.lo, .float .f64 p14.hi, .float .f64 p16.lo, .float .f64 p16.hi] rfl rfl _ _ f142 (by rw [info_V3]; rfl) rfl (by kernel_rfl) ?_
  rw [hV141]
  go_simp
  clear hV141 f142
  have hS152 : True ∧ CellsL V140 (w.heap.size) 0 [.float .f64 n.x.lo, .float .f64 n.x.hi] ∧ CellsL V140 (g8) 0 [.float .f64 p2.lo, .float .f64 p2.hi] ∧ CellsL V140 (g51) 0 [.float .f64 p6.lo, .float .f64 p6.hi] ∧ CellsL V140 (g91) 0 [.float .f64 p8.lo, .float .f64 p8.hi] := ⟨trivial, (kb K143 D151).cellsL 0 [.float .f64 n.x.lo, .float .f64 n.x.hi] rfl, (kb K146 D151).cellsL 0 [.float .f64 p2.lo, .float .f64 p2.hi] rfl, (kb K147 D151).cellsL 0 [.float .f64 p6.lo, .float .f64 p6.hi] rfl, (kb K148 D151).cellsL 0 [.float .f64 p8.lo, .float .f64 p8.hi] rfl⟩
  refine hK _ _ hS152 ?_
  clear hK K hS139
  refine wpAnyH_done (by kernel_rfl) ?_ _
  clear hS152
  go_wp2_with fail
  refine wp_region_held (S := (fun w' => True ∧ CellsL w' (w.heap.size) 2 [.float .f64 n.y.lo, .float .f64 n.y.hi] ∧ CellsL w' (g8) 0 [.float .f64 p2.lo, .float .f64 p2.hi] ∧ CellsL w' (g51) 0 [.float .f64 p6.lo, .float .f64 p6.hi] ∧ CellsL w' (g91) 0 [.float .f64 p8.lo, .float .f64 p8.hi])) (by kernel_rfl) ?_
  change wpAnyH _ _ _ _ _ _ _ _ (World.drew _)
  obtain ⟨wd153, hwd⟩ : ∃ x, x = World.drew V140 := ⟨_, rfl⟩
  rw [← hwd]
  have D154 := Lib.hid (hwd ▸ Below.drew D151.out : Below V140.heap.size V140 wd153)
  clear D151 hwd
  have hS155 : True ∧ CellsL wd153 (w.heap.size) 2 [.float .f64 n.y.lo, .float .f64 n.y.hi] ∧ CellsL wd153 (g8) 0 [.float .f64 p2.lo, .float .f64 p2.hi] ∧ CellsL wd153 (g51) 0 [.float .f64 p6.lo, .float .f64 p6.hi] ∧ CellsL wd153 (g91) 0 [.float .f64 p8.lo, .float .f64 p8.hi] := ⟨trivial, (kb K143 D154).cellsL 2 [.float .f64 n.y.lo, .float .f64 n.y.hi] rfl, (kb K146 D154).cellsL 0 [.float .f64 p2.lo, .float .f64 p2.hi] rfl, (kb K147 D154).cellsL 0 [.float .f64 p6.lo, .float .f64 p6.hi] rfl, (kb K148 D154).cellsL 0 [.float .f64 p8.lo, .float .f64 p8.hi] rfl⟩
  refine tk 0 (bm 14 1) ?vq156 ?aq156 rfl (by kernel_rfl) (fun _ _ _ h => h) (by kernel_rfl) ?hq156 ?pq156 hS155 ?rq156
  case hq156 => (intro w hS; dsimp only [CellsL, al, vl, Nat.reduceAdd] at hS; go_simp; try with_reducible rfl)
  case pq156 => (go_simp; try with_reducible rfl)
  refine tk 1 (bm 14 3) ?vq157 ?aq157 rfl (by kernel_rfl) (fun _ _ _ h => h) (by kernel_rfl) ?hq157 ?pq157 hS155 ?rq157
  case hq157 => (intro w hS; dsimp only [CellsL, al, vl, Nat.reduceAdd] at hS; go_simp; try with_reducible rfl)
  case pq157 => (go_simp; try with_reducible rfl)
  refine tk 2 (bm 14 7) ?vq158 ?aq158 rfl (by kernel_rfl) (fun _ _ _ h => h) (by kernel_rfl) ?hq158 ?pq158 hS155 ?rq158
  case hq158 => (intro w hS; go_simp; try with_reducible rfl)
  case pq158 => (go_simp; try with_reducible rfl)
  refine tk 3 (bm 14 15) ?vq159 ?aq159 rfl (by kernel_rfl) (fun _ _ _ h => h) (by kernel_rfl) ?hq159 ?pq159 hS155 ?rq159
  case hq159 => (intro w hS; dsimp only [CellsL, al, vl, Nat.reduceAdd] at hS; go_simp; try with_reducible rfl)
  case pq159 => (go_simp; try with_reducible rfl)
  refine tk 5 (bm 14 47) ?vq160 ?aq160 rfl (by kernel_rfl) (fun _ _ _ h => h) (by kernel_rfl) ?hq160 ?pq160 hS155 ?rq160
  case hq160 => (intro w hS; dsimp only [CellsL, al, vl, Nat.reduceAdd] at hS; go_simp; try with_reducible rfl)
  case pq160 => (go_simp; try with_reducible rfl)
  refine tk 8 (bm 14 303) ?vq161 ?aq161 rfl (by kernel_rfl) (fun _ _ _ h => h) (by kernel_rfl) ?hq161 ?pq161 hS155 ?rq161
  case hq161 => (intro w hS; go_simp; try with_reducible rfl)
  case pq161 => (go_simp; try with_reducible rfl)
  refine tk 9 (bm 14 815) ?vq162 ?aq162 rfl (by kernel_rfl) (fun _ _ _ h => h) (by kernel_rfl) ?hq162 ?pq162 hS155 ?rq162
  case hq162 => (intro w hS; dsimp only [CellsL, al, vl, Nat.reduceAdd] at hS; go_simp; try with_reducible rfl)
  case pq162 => (go_simp; try with_reducible rfl)
  have HS163 := Lib.hid (show ∀ w', Below V140.heap.size V140 w' → (True ∧ CellsL w' (w.heap.size) 2 [.float .f64 n.y.lo, .float .f64 n.y.hi] ∧ CellsL w' (g8) 0 [.float .f64 p2.lo, .float .f64 p2.hi] ∧ CellsL w' (g51) 0 [.float .f64 p6.lo, .float .f64 p6.hi] ∧ CellsL w' (g91) 0 [.float .f64 p8.lo, .float .f64 p8.hi]) from fun w' b => ⟨trivial, (K143.out.below b K143.out.lt).cellsL 2 [.float .f64 n.y.lo, .float .f64 n.y.hi] rfl, (K146.out.below b K146.out.lt).cellsL 0 [.float .f64 p2.lo, .float .f64 p2.hi] rfl, (K147.out.below b K147.out.lt).cellsL 0 [.float .f64 p6.lo, .float .f64 p6.hi] rfl, (K148.out.below b K148.out.lt).cellsL 0 [.float .f64 p8.lo, .float .f64 p8.hi] rfl⟩)
  refine wpAnyH_sets2 (N := 14) (stop := 8191) (F := 1) (m := 815) (R := [4, 6, 7, 10, 11, 12]) (M := [815, 831, 4911, 895, 4927, 1023, 4991, 2047, 5119, 4095, 6143, 8191]) (fun i => if i = 4 then 8 else if i = 6 then 48 else if i = 7 then 66 else if i = 10 then 640 else if i = 11 then 1153 else if i = 12 then 0 else 0) (fun a0 m a w9 => ∃ (v4 v6 v7 v10 v11 p12_ : Value) (g12_ : Nat), a = ((((((a0.put (some 58) v4).put (some 60) v6).put (some 61) v7).put (some 64) v10).put (some 65) v11).put (some 11) p12_) ∧ Below V140.heap.size V140 w9 ∧ (m.testBit 4 = true → v4 = Value.agg #[.float .f64 p17.lo, .float .f64 p17.hi]) ∧ (m.testBit 6 = true → v6 = Value.agg #[.float .f64 p18.lo, .float .f64 p18.hi]) ∧ (m.testBit 7 = true → v7 = Value.agg #[.float .f64 p19.lo, .float .f64 p19.hi]) ∧ (m.testBit 10 = true → v10 = Value.agg #[.float .f64 p20.lo, .float .f64 p20.hi]) ∧ (m.testBit 11 = true → v11 = Value.agg #[.float .f64 p8.lo, .float .f64 p8.hi, .float .f64 p19.lo, .float .f64 p19.hi, .float .f64 p20.lo, .float .f64 p20.hi]) ∧ (m.testBit 12 = true → p12_ = .pointer (some ⟨g12_, 0, none⟩) ∧ Blk w9 g12_ 26 #[.float .f64 0, .float .f64 0, .float .f64 0, .float .f64 0, .float .f64 0, .float .f64 0] ∧ V140.heap.size ≤ g12_)) (by kernel_rfl) (by kernel_rfl) (by kernel_rfl) (by kernel_rfl) ?st12 ?sp12 ?re12
  case st12 =>
    exact ⟨undef, undef, undef, undef, undef, undef, 0, by go_simp, D154.out, fun h => absurd h (by decide), fun h => absurd h (by decide), fun h => absurd h (by decide), fun h => absurd h (by decide), fun h => absurd h (by decide), fun h => absurd h (by decide)⟩
  case sp12 =>
    intro m a' w9 i hi hm hd hJ
    obtain ⟨v4, v6, v7, v10, v11, p12_, g12_, rfl, hb0, cl4, cl6, cl7, cl10, cl11, ql12⟩ := hJ
    have CL4 := Lib.hid cl4
    have CL6 := Lib.hid cl6
    have CL7 := Lib.hid cl7
    have CL10 := Lib.hid cl10
    have CL11 := Lib.hid cl11
    have QL12 := Lib.hid ql12
    have HB0 := Lib.hid hb0
    clear cl4 cl6 cl7 cl10 cl11 ql12 hb0 hS155
    simp only [List.mem_cons, List.not_mem_nil, or_false] at hi
    rcases hi with rfl | rfl | rfl | rfl | rfl | rfl
    · refine wpOp_at rfl (by kernel_rfl) (fun K hK => ?_)
      have hd := fun j => @tb_of _ _ j hd
      go_simp
      go_at_call 93
      refine (C17.out _).mono ?_
      rintro r w10 ⟨rfl, hb⟩
      dsimp only
      have hb1 := below_step HB0.out hb
      exact hK _ _ ⟨HS163.out _ hb1, _, v6, v7, v10, v11, p12_, g12_, by go_simp, hb1, fun _ => rfl, fun h => CL6.out (by rwa [tb_ne (by decide)] at h), fun h => CL7.out (by rwa [tb_ne (by decide)] at h), fun h => CL10.out (by rwa [tb_ne (by decide)] at h), fun h => CL11.out (by rwa [tb_ne (by decide)] at h), fun h => ⟨(QL12.out (by rwa [tb_ne (by decide)] at h)).1, (QL12.out (by rwa [tb_ne (by decide)] at h)).2.1.below hb (QL12.out (by rwa [tb_ne (by decide)] at h)).2.1.lt, (QL12.out (by rwa [tb_ne (by decide)] at h)).2.2⟩⟩
    · refine wpOp_at rfl (by kernel_rfl) (fun K hK => ?_)
      have hd := fun j => @tb_of _ _ j hd
      obtain rfl := CL4.out (hd _ (by decide))
      go_simp
      go_at_call 78
      refine (C18.out _).mono ?_
      rintro r w10 ⟨rfl, hb⟩
      dsimp only
      have hb1 := below_step HB0.out hb
      exact hK _ _ ⟨HS163.out _ hb1, _, _, v7, v10, v11, p12_, g12_, by go_simp, hb1, fun _ => rfl, fun _ => rfl, fun h => CL7.out (by rwa [tb_ne (by decide)] at h), fun h => CL10.out (by rwa [tb_ne (by decide)] at h), fun h => CL11.out (by rwa [tb_ne (by decide)] at h), fun h => ⟨(QL12.out (by rwa [tb_ne (by decide)] at h)).1, (QL12.out (by rwa [tb_ne (by decide)] at h)).2.1.below hb (QL12.out (by rwa [tb_ne (by decide)] at h)).2.1.lt, (QL12.out (by rwa [tb_ne (by decide)] at h)).2.2⟩⟩
    · refine wpOp_at rfl (by kernel_rfl) (fun K hK => ?_)
      have hd := fun j => @tb_of _ _ j hd
      obtain rfl := CL6.out (hd _ (by decide))
      go_simp
      go_at_call 75
      refine (C19.out _).mono ?_
      rintro r w10 ⟨rfl, hb⟩
      dsimp only
      have hb1 := below_step HB0.out hb
      exact hK _ _ ⟨HS163.out _ hb1, v4, _, _, v10, v11, p12_, g12_, by go_simp, hb1, fun h => CL4.out (by rwa [tb_ne (by decide)] at h), fun _ => rfl, fun _ => rfl, fun h => CL10.out (by rwa [tb_ne (by decide)] at h), fun h => CL11.out (by rwa [tb_ne (by decide)] at h), fun h => ⟨(QL12.out (by rwa [tb_ne (by decide)] at h)).1, (QL12.out (by rwa [tb_ne (by decide)] at h)).2.1.below hb (QL12.out (by rwa [tb_ne (by decide)] at h)).2.1.lt, (QL12.out (by rwa [tb_ne (by decide)] at h)).2.2⟩⟩
    · refine wpOp_at rfl (by kernel_rfl) (fun K hK => ?_)
      have hd := fun j => @tb_of _ _ j hd
      obtain rfl := CL7.out (hd _ (by decide))
      go_simp
      go_at_call 83
      refine (C20.out _).mono ?_
      rintro r w10 ⟨rfl, hb⟩
      dsimp only
      have hb1 := below_step HB0.out hb
      exact hK _ _ ⟨HS163.out _ hb1, v4, v6, _, _, v11, p12_, g12_, by go_simp, hb1, fun h => CL4.out (by rwa [tb_ne (by decide)] at h), fun h => CL6.out (by rwa [tb_ne (by decide)] at h), fun _ => rfl, fun _ => rfl, fun h => CL11.out (by rwa [tb_ne (by decide)] at h), fun h => ⟨(QL12.out (by rwa [tb_ne (by decide)] at h)).1, (QL12.out (by rwa [tb_ne (by decide)] at h)).2.1.below hb (QL12.out (by rwa [tb_ne (by decide)] at h)).2.1.lt, (QL12.out (by rwa [tb_ne (by decide)] at h)).2.2⟩⟩
    · refine wpOp_at rfl (by kernel_rfl) (fun K hK => ?_)
      have hd := fun j => @tb_of _ _ j hd
      obtain rfl := CL7.out (hd _ (by decide))
      obtain rfl := CL10.out (hd _ (by decide))
      have hb1 := HB0.out
      go_simp
      exact hK _ _ ⟨HS163.out _ hb1, v4, v6, _, _, _, p12_, g12_, by go_simp, hb1, fun h => CL4.out (by rwa [tb_ne (by decide)] at h), fun h => CL6.out (by rwa [tb_ne (by decide)] at h), fun _ => rfl, fun _ => rfl, fun _ => rfl, fun h => ⟨(QL12.out (by rwa [tb_ne (by decide)] at h)).1, (QL12.out (by rwa [tb_ne (by decide)] at h)).2.1, (QL12.out (by rwa [tb_ne (by decide)] at h)).2.2⟩⟩
    · refine wpOp_at rfl (by kernel_rfl) (fun K hK => ?_)
      have hd := fun j => @tb_of _ _ j hd
      go_simp
      have hb1 := below_more HB0.out (.cells #[.float .f64 0, .float .f64 0, .float .f64 0, .float .f64 0, .float .f64 0, .float .f64 0] 26)
      exact hK _ _ ⟨HS163.out _ hb1, v4, v6, v7, v10, v11, .pointer (some ⟨w9.heap.size, 0, none⟩), w9.heap.size, by go_simp, hb1, fun h => CL4.out (by rwa [tb_ne (by decide)] at h), fun h => CL6.out (by rwa [tb_ne (by decide)] at h), fun h => CL7.out (by rwa [tb_ne (by decide)] at h), fun h => CL10.out (by rwa [tb_ne (by decide)] at h), fun h => CL11.out (by rwa [tb_ne (by decide)] at h), fun _ => ⟨rfl, Blk.new_at _ _ _ rfl, HB0.out.size⟩⟩
  clear hS155 D154 HS163
  intro a' W180 hJ
  obtain ⟨v4, v6, v7, v10, v11, p12_, g181, rfl, hb0, cl4, cl6, cl7, cl10, cl11, ql12⟩ := hJ
  obtain rfl := cl4 (by decide)
  obtain rfl := cl6 (by decide)
  obtain rfl := cl7 (by decide)
  obtain rfl := cl10 (by decide)
  obtain rfl := cl11 (by decide)
  obtain ⟨rfl, kk12, ll12⟩ := ql12 (by decide)
  have D166 := Lib.hid hb0
  clear hb0
  refine wpAnyH_frame (a' := ?frq165) ?feq165 ?fgq165
  case feq165 => (go_simp; try with_reducible rfl)
  have K168 := Lib.hid ((kb K143 D166) : Blk W180 (w.heap.size) 26 (vc n))
  have K169 := Lib.hid ((kb K144 D166) : Blk W180 (w.heap.size + 1) 26 #[.float .f64 0, .float .f64 0, .float .f64 0, .float .f64 0, .float .f64 0, .float .f64 0])
  have K170 := Lib.hid ((kb K145 D166) : Blk W180 (w.heap.size + 1 + 1) 26 #[.float .f64 0, .float .f64 0, .float .f64 0, .float .f64 0, .float .f64 0, .float .f64 0])
  have K171 := Lib.hid ((kb K146 D166) : Blk W180 (g8) 24 #[.float .f64 p2.lo, .float .f64 p2.hi])
  have K172 := Lib.hid ((kb K147 D166) : Blk W180 (g51) 24 #[.float .f64 p6.lo, .float .f64 p6.hi])
  have K173 := Lib.hid ((kb K148 D166) : Blk W180 (g91) 24 #[.float .f64 p8.lo, .float .f64 p8.hi])
  have K174 := Lib.hid ((kb K149 D166) : Blk W180 (g137) 26 #[.float .f64 p13.lo, .float .f64 p13.hi, .float .f64 p14.lo, .float .f64 p14.hi, .float .f64 p16.lo, .float .f64 p16.hi])
  have K175 := Lib.hid kk12
  clear kk12
  have HB178 := Lib.hid (below_step HB150.out D166.out)
  have Y177 := Lib.hid (show w.heap.size ≤ g181 ∧ w.heap.size < g181 ∧ w.heap.size + 1 < g181 ∧ w.heap.size + 1 + 1 < g181 ∧ g8 < g181 ∧ g51 < g181 ∧ g91 < g181 ∧ g137 < g181 from ⟨Nat.le_trans HB150.out.size ll12, Nat.lt_of_lt_of_le K143.out.lt ll12, Nat.lt_of_lt_of_le K144.out.lt ll12, Nat.lt_of_lt_of_le K145.out.lt ll12, Nat.lt_of_lt_of_le K146.out.lt ll12, Nat.lt_of_lt_of_le K147.out.lt ll12, Nat.lt_of_lt_of_le K148.out.lt ll12, Nat.lt_of_lt_of_le K149.out.lt ll12⟩)
  have Y179 := Lib.hid (And.intro Y135.out Y177.out)
  clear Y135 Y177
  clear K143 K144 K145 K146 K147 K148 K149 ll12 HB150
  have D182 := Lib.hid (Below.refl W180.heap.size W180)
  clear D166
  have hS183 : True ∧ CellsL W180 (w.heap.size) 2 [.float .f64 n.y.lo, .float .f64 n.y.hi] ∧ CellsL W180 (g8) 0 [.float .f64 p2.lo, .float .f64 p2.hi] ∧ CellsL W180 (g51) 0 [.float .f64 p6.lo, .float .f64 p6.hi] ∧ CellsL W180 (g91) 0 [.float .f64 p8.lo, .float .f64 p8.hi] := ⟨trivial, (kb K168 D182).cellsL 2 [.float .f64 n.y.lo, .float .f64 n.y.hi] rfl, (kb K171 D182).cellsL 0 [.float .f64 p2.lo, .float .f64 p2.hi] rfl, (kb K172 D182).cellsL 0 [.float .f64 p6.lo, .float .f64 p6.hi] rfl, (kb K173 D182).cellsL 0 [.float .f64 p8.lo, .float .f64 p8.hi] rfl⟩
  refine wpAnyH_oneM (i := 13) (l' := bm 14 16383) rfl (by kernel_rfl) (by kernel_rfl) (by kernel_rfl) (fun K hK => ?_)
  have f186 := (kb K175 D182)
  obtain ⟨V184, hV185⟩ : ∃ V, World.setRow W180 (g181) #[.float .f64 p8.lo, .float .f64 p8.hi, .float .f64 p19.lo, .float .f64 p19.hi, .float .f64 p20.lo, .float .f64 p20.hi] = V := ⟨_, rfl⟩
  have K187 := kfr hV185 K168 D182 (by have := Y179.out; omega)
  have K188 := kfr hV185 K169 D182 (by have := Y179.out; omega)
  have K189 := kfr hV185 K170 D182 (by have := Y179.out; omega)
  have K190 := kfr hV185 K171 D182 (by have := Y179.out; omega)
  have K191 := kfr hV185 K172 D182 (by have := Y179.out; omega)
  have K192 := kfr hV185 K173 D182 (by have := Y179.out; omega)
  have K193 := kfr hV185 K174 D182 (by have := Y179.out; omega)
  have K194 := ksr hV185 K175 D182
  have HB195 := hbr hV185 HB178 D182 (by have := Y179.out; omega)
  have D196 := dr V184
  clear K168 K169 K170 K171 K172 K173 K174 K175 HB178 D182
  refine wp_store_row 26 _ _ rfl (g181) #[.float .f64 p8.lo, .float .f64 p8.hi, .float .f64 p19.lo, .float .f64 p19.hi, .float .f64 p20.lo, .float .f64 p20.hi] rfl rfl _ _ f186 (by rw [info_V3]; rfl) rfl (by kernel_rfl) ?_
  rw [hV185]
  go_simp
  clear hV185 f186
  have hS197 : True ∧ CellsL V184 (w.heap.size) 2 [.float .f64 n.y.lo, .float .f64 n.y.hi] ∧ CellsL V184 (g8) 0 [.float .f64 p2.lo, .float .f64 p2.hi] ∧ CellsL V184 (g51) 0 [.float .f64 p6.lo, .float .f64 p6.hi] ∧ CellsL V184 (g91) 0 [.float .f64 p8.lo, .float .f64 p8.hi] := ⟨trivial, (kb K187 D196).cellsL 2 [.float .f64 n.y.lo, .float .f64 n.y.hi] rfl, (kb K190 D196).cellsL 0 [.float .f64 p2.lo, .float .f64 p2.hi] rfl, (kb K191 D196).cellsL 0 [.float .f64 p6.lo, .float .f64 p6.hi] rfl, (kb K192 D196).cellsL 0 [.float .f64 p8.lo, .float .f64 p8.hi] rfl⟩
  refine hK _ _ hS197 ?_
  clear hK K hS183
  refine wpAnyH_done (by kernel_rfl) ?_ _
  clear hS197
  go_wp2_with fail
  refine wp_region_held (S := (fun w' => True ∧ Blk w' (g137) 26 #[.float .f64 p13.lo, .float .f64 p13.hi, .float .f64 p14.lo, .float .f64 p14.hi, .float .f64 p16.lo, .float .f64 p16.hi] ∧ Blk w' (g181) 26 #[.float .f64 p8.lo, .float .f64 p8.hi, .float .f64 p19.lo, .float .f64 p19.hi, .float .f64 p20.lo, .float .f64 p20.hi])) (by kernel_rfl) ?_
  change wpAnyH _ _ _ _ _ _ _ _ (World.drew _)
  obtain ⟨wd198, hwd⟩ : ∃ x, x = World.drew V184 := ⟨_, rfl⟩
  rw [← hwd]
  have D199 := Lib.hid (hwd ▸ Below.drew D196.out : Below V184.heap.size V184 wd198)
  clear D196 hwd
  have hS200 : True ∧ Blk wd198 (g137) 26 #[.float .f64 p13.lo, .float .f64 p13.hi, .float .f64 p14.lo, .float .f64 p14.hi, .float .f64 p16.lo, .float .f64 p16.hi] ∧ Blk wd198 (g181) 26 #[.float .f64 p8.lo, .float .f64 p8.hi, .float .f64 p19.lo, .float .f64 p19.hi, .float .f64 p20.lo, .float .f64 p20.hi] := ⟨trivial, (kb K193 D199), (kb K194 D199)⟩
  refine tkL 0 (bm 6 1) ?aq201 rfl (by kernel_rfl) (fun _ _ _ h => h) (by kernel_rfl) rfl rfl (fun _ hS => hS.2.1) (by rw [info_V3]; rfl) Try.underlying26 rfl ?pq201 hS200 ?rq201
  case pq201 => (go_simp; try with_reducible rfl)
  refine tkL 1 (bm 6 3) ?aq202 rfl (by kernel_rfl) (fun _ _ _ h => h) (by kernel_rfl) rfl rfl (fun _ hS => hS.2.2) (by rw [info_V3]; rfl) Try.underlying26 rfl ?pq202 hS200 ?rq202
  case pq202 => (go_simp; try with_reducible rfl)
  refine tk 2 (bm 6 7) ?vq203 ?aq203 rfl (by kernel_rfl) (fun _ _ _ h => h) (by kernel_rfl) ?hq203 ?pq203 hS200 ?rq203
  case hq203 => (intro w hS; go_simp; try with_reducible rfl)
  case pq203 => (go_simp; try with_reducible rfl)
  refine wpAnyH_oneN (i := 3) (l' := bm 6 15) rfl (by kernel_rfl) (by kernel_rfl) (by kernel_rfl) (fun K hK => ?_)
  have f206 := (kb K188 D199)
  obtain ⟨V204, hV205⟩ : ∃ V, World.setRow wd198 (w.heap.size + 1) #[.float .f64 p13.lo, .float .f64 p13.hi, .float .f64 p14.lo, .float .f64 p14.hi, .float .f64 p16.lo, .float .f64 p16.hi] = V := ⟨_, rfl⟩
  have K207 := kfr hV205 K187 D199 (by have := Y179.out; omega)
  have K208 := ksr hV205 K188 D199
  have K209 := kfr hV205 K189 D199 (by have := Y179.out; omega)
  have K210 := kfr hV205 K190 D199 (by have := Y179.out; omega)
  have K211 := kfr hV205 K191 D199 (by have := Y179.out; omega)
  have K212 := kfr hV205 K192 D199 (by have := Y179.out; omega)
  have K213 := kfr hV205 K193 D199 (by have := Y179.out; omega)
  have K214 := kfr hV205 K194 D199 (by have := Y179.out; omega)
  have HB215 := hbr hV205 HB195 D199 (by have := Y179.out; omega)
  have D216 := dr V204
  clear K187 K188 K189 K190 K191 K192 K193 K194 HB195 D199
  refine wp_store_row 26 _ _ rfl (w.heap.size + 1) #[.float .f64 p13.lo, .float .f64 p13.hi, .float .f64 p14.lo, .float .f64 p14.hi, .float .f64 p16.lo, .float .f64 p16.hi] rfl rfl _ _ f206 (by rw [info_V3]; rfl) rfl (by kernel_rfl) ?_
  rw [hV205]
  go_simp
  clear hV205 f206
  have hS217 : True ∧ Blk V204 (g137) 26 #[.float .f64 p13.lo, .float .f64 p13.hi, .float .f64 p14.lo, .float .f64 p14.hi, .float .f64 p16.lo, .float .f64 p16.hi] ∧ Blk V204 (g181) 26 #[.float .f64 p8.lo, .float .f64 p8.hi, .float .f64 p19.lo, .float .f64 p19.hi, .float .f64 p20.lo, .float .f64 p20.hi] := ⟨trivial, (kb K213 D216), (kb K214 D216)⟩
  refine hK _ _ hS217 ?_
  clear hK K hS200
  refine wpAnyH_oneN (i := 4) (l' := bm 6 31) rfl (by kernel_rfl) (by kernel_rfl) (by kernel_rfl) (fun K hK => ?_)
  have f220 := (kb K209 D216)
  obtain ⟨V218, hV219⟩ : ∃ V, World.setRow V204 (w.heap.size + 1 + 1) #[.float .f64 p8.lo, .float .f64 p8.hi, .float .f64 p19.lo, .float .f64 p19.hi, .float .f64 p20.lo, .float .f64 p20.hi] = V := ⟨_, rfl⟩
  have K221 := kfr hV219 K207 D216 (by have := Y179.out; omega)
  have K222 := kfr hV219 K208 D216 (by have := Y179.out; omega)
  have K223 := ksr hV219 K209 D216
  have K224 := kfr hV219 K210 D216 (by have := Y179.out; omega)
  have K225 := kfr hV219 K211 D216 (by have := Y179.out; omega)
  have K226 := kfr hV219 K212 D216 (by have := Y179.out; omega)
  have K227 := kfr hV219 K213 D216 (by have := Y179.out; omega)
  have K228 := kfr hV219 K214 D216 (by have := Y179.out; omega)
  have HB229 := hbr hV219 HB215 D216 (by have := Y179.out; omega)
  have D230 := dr V218
  clear K207 K208 K209 K210 K211 K212 K213 K214 HB215 D216
  refine wp_store_row 26 _ _ rfl (w.heap.size + 1 + 1) #[.float .f64 p8.lo, .float .f64 p8.hi, .float .f64 p19.lo, .float .f64 p19.hi, .float .f64 p20.lo, .float .f64 p20.hi] rfl rfl _ _ f220 (by rw [info_V3]; rfl) rfl (by kernel_rfl) ?_
  rw [hV219]
  go_simp
  clear hV219 f220
  have hS231 : True ∧ Blk V218 (g137) 26 #[.float .f64 p13.lo, .float .f64 p13.hi, .float .f64 p14.lo, .float .f64 p14.hi, .float .f64 p16.lo, .float .f64 p16.hi] ∧ Blk V218 (g181) 26 #[.float .f64 p8.lo, .float .f64 p8.hi, .float .f64 p19.lo, .float .f64 p19.hi, .float .f64 p20.lo, .float .f64 p20.hi] := ⟨trivial, (kb K227 D230), (kb K228 D230)⟩
  refine hK _ _ hS231 ?_
  clear hK K hS217
  refine tk 5 (bm 6 63) ?vq232 ?aq232 rfl (by kernel_rfl) (fun _ _ _ h => h) (by kernel_rfl) ?hq232 ?pq232 hS231 ?rq232
  case hq232 => (intro w hS; go_simp; try with_reducible rfl)
  case pq232 => (go_simp; try with_reducible rfl)
  refine wpAnyH_done (by kernel_rfl) ?_ _
  clear hS231
  go_wp2_with fail
  (try simp only [Exit.inBlock, Exit.then])
  exact bodyPost_ret (res_cct rfl _ _ (w.heap.size + 1) #[.float .f64 p13.lo, .float .f64 p13.hi, .float .f64 p14.lo, .float .f64 p14.hi, .float .f64 p16.lo, .float .f64 p16.hi] (w.heap.size + 1 + 1) #[.float .f64 p8.lo, .float .f64 p8.hi, .float .f64 p19.lo, .float .f64 p19.hi, .float .f64 p20.lo, .float .f64 p20.hi] rfl (kb K222 D230) (by rw [info_V3]; rfl) Try.underlying26 rfl rfl (kb K223 D230) (by rw [info_V3]; rfl) Try.underlying26 rfl) rfl ⟨rfl, below_step HB229.out D230.out⟩
set_option maxRecDepth 100000 in
set_option maxHeartbeats 8000000 in
theorem frame_2 (n : V3) (h : posS (negS n.z) = 2) (w : World) : Calls Try.prog 54 #[Value.agg #[.float .f64 n.x.lo, .float .f64 n.x.hi, .float .f64 n.y.lo, .float .f64 n.y.hi, .float .f64 n.z.lo, .float .f64 n.z.hi]] w fun r w' => r = .returned (.tuple #[vval (frT (ofS 4607182418800017408) n), vval (frU (ofS 4607182418800017408) n), .int .i64 2]) ∧ Below w.heap.size w w' := by
  have C0 := Lib.hid (fun w => neg_sp n.z w)
  obtain ⟨p0, hp0⟩ : ∃ z_, negS n.z = z_ := ⟨_, rfl⟩
  rw [hp0] at C0
  have hl : posS p0 = 2 := by rw [← hp0]; exact h
  clear h
  have C1 := Lib.hid (fun w => pos_lit hl w)
  have C2 := Lib.hid (fun w => of_sp 4607182418800017408 (by decide) w)
  obtain ⟨p2, hp2⟩ : ∃ z_, ofS 4607182418800017408 = z_ := ⟨_, rfl⟩
  rw [hp2] at C2
  have C3 := Lib.hid (fun w => of_sp 4607182418800017408 (by decide) w)
  rw [hp2] at C3
  have C4 := Lib.hid (fun w => add_sp p2 n.z w)
  obtain ⟨p4, hp4⟩ : ∃ z_, addS p2 n.z = z_ := ⟨_, rfl⟩
  rw [hp4] at C4
  have C5 := Lib.hid (fun w => div_sp p2 p4 w)
  obtain ⟨p5, hp5⟩ : ∃ z_, divS p2 p4 = z_ := ⟨_, rfl⟩
  rw [hp5] at C5
  have C6 := Lib.hid (fun w => neg_sp p5 w)
  obtain ⟨p6, hp6⟩ : ∃ z_, negS p5 = z_ := ⟨_, rfl⟩
  rw [hp6] at C6
  have C7 := Lib.hid (fun w => mul_sp n.x n.y w)
  obtain ⟨p7, hp7⟩ : ∃ z_, mulS n.x n.y = z_ := ⟨_, rfl⟩
  rw [hp7] at C7
  have C8 := Lib.hid (fun w => mul_sp p7 p6 w)
  obtain ⟨p8, hp8⟩ : ∃ z_, mulS p7 p6 = z_ := ⟨_, rfl⟩
  rw [hp8] at C8
  have C9 := Lib.hid (fun w => of_sp 4607182418800017408 (by decide) w)
  rw [hp2] at C9
  have C10 := Lib.hid (fun w => sqr_sp n.x w)
  obtain ⟨p10, hp10⟩ : ∃ z_, sqrS n.x = z_ := ⟨_, rfl⟩
  rw [hp10] at C10
  have C11 := Lib.hid (fun w => mul_sp p2 p10 w)
  obtain ⟨p11, hp11⟩ : ∃ z_, mulS p2 p10 = z_ := ⟨_, rfl⟩
  rw [hp11] at C11
  have C12 := Lib.hid (fun w => mul_sp p11 p6 w)
  obtain ⟨p12, hp12⟩ : ∃ z_, mulS p11 p6 = z_ := ⟨_, rfl⟩
  rw [hp12] at C12
  have C13 := Lib.hid (fun w => add_sp p2 p12 w)
  obtain ⟨p13, hp13⟩ : ∃ z_, addS p2 p12 = z_ := ⟨_, rfl⟩
  rw [hp13] at C13
  have C14 := Lib.hid (fun w => mul_sp p2 p8 w)
  obtain ⟨p14, hp14⟩ : ∃ z_, mulS p2 p8 = z_ := ⟨_, rfl⟩
  rw [hp14] at C14
  have C15 := Lib.hid (fun w => mul_sp p2 n.x w)
  obtain ⟨p15, hp15⟩ : ∃ z_, mulS p2 n.x = z_ := ⟨_, rfl⟩
  rw [hp15] at C15
  have C16 := Lib.hid (fun w => neg_sp p15 w)
  obtain ⟨p16, hp16⟩ : ∃ z_, negS p15 = z_ := ⟨_, rfl⟩
  rw [hp16] at C16
  have C17 := Lib.hid (fun w => sqr_sp n.y w)
  obtain ⟨p17, hp17⟩ : ∃ z_, sqrS n.y = z_ := ⟨_, rfl⟩
  rw [hp17] at C17
  have C18 := Lib.hid (fun w => mul_sp p17 p6 w)
  obtain ⟨p18, hp18⟩ : ∃ z_, mulS p17 p6 = z_ := ⟨_, rfl⟩
  rw [hp18] at C18
  have C19 := Lib.hid (fun w => add_sp p2 p18 w)
  obtain ⟨p19, hp19⟩ : ∃ z_, addS p2 p18 = z_ := ⟨_, rfl⟩
  rw [hp19] at C19
  have C20 := Lib.hid (fun w => neg_sp n.y w)
  obtain ⟨p20, hp20⟩ : ∃ z_, negS n.y = z_ := ⟨_, rfl⟩
  rw [hp20] at C20
  have hT0 : frT (ofS 4607182418800017408) n = (⟨p13, p14, p16⟩ : V3) := by
    subst hp0 hp2 hp4 hp5 hp6 hp7 hp8 hp10 hp11 hp12 hp13 hp14 hp15 hp16 hp17 hp18 hp19 hp20; rfl
  have hT1 : frU (ofS 4607182418800017408) n = (⟨p8, p19, p20⟩ : V3) := by
    subst hp0 hp2 hp4 hp5 hp6 hp7 hp8 hp10 hp11 hp12 hp13 hp14 hp15 hp16 hp17 hp18 hp19 hp20; rfl
  rw [hT0, hT1]
  clear hT0 hT1
  clear hp0 hp2 hp4 hp5 hp6 hp7 hp8 hp10 hp11 hp12 hp13 hp14 hp15 hp16 hp17 hp18 hp19 hp20
  go_enter Try.func54, Try.ntmps54
  go_wp2_with fail
  obtain ⟨W, hW, K0, K1, K2, hB, hz⟩ := bx3 w 26 26 26 (vc n) #[.float .f64 0, .float .f64 0, .float .f64 0, .float .f64 0, .float .f64 0, .float .f64 0] #[.float .f64 0, .float .f64 0, .float .f64 0, .float .f64 0, .float .f64 0, .float .f64 0]
  rw [← hW]
  have K0 := Lib.hid K0
  have K1 := Lib.hid K1
  have K2 := Lib.hid K2
  have HB := Lib.hid hB
  clear hW hB hz
  have D1 := dr W
  refine (C0.out _).mono ?_
  rintro r w2 ⟨rfl, hb⟩
  have D3 := ds D1 hb
  clear D1
  clear hb
  go_wp2_with fail
  refine (C1.out _).mono ?_
  rintro r w4 ⟨rfl, hb⟩
  have D5 := ds D3 hb
  clear D3
  clear hb
  go_wp2_with fail
  refine (C2.out _).mono ?_
  rintro r w6 ⟨rfl, hb⟩
  have D7 := ds D5 hb
  clear D5
  clear hb
  obtain ⟨g8, hg10⟩ : ∃ g, w6.heap.size = g := ⟨_, rfl⟩
  have Y12 := Lib.hid (show w.heap.size < g8 ∧ w.heap.size + 1 < g8 ∧ w.heap.size + 1 + 1 < g8 by rw [← hg10]; exact ⟨(kb K0 D7).lt, (kb K1 D7).lt, (kb K2 D7).lt⟩)
  obtain ⟨V9, hV11⟩ : ∃ V, w6.alloc (.cells #[.float .f64 0, .float .f64 0] 24) = V := ⟨_, rfl⟩
  have K13 := ka hV11 K0 D7
  have K14 := ka hV11 K1 D7
  have K15 := ka hV11 K2 D7
  have K16 := kn hV11 hg10
  have HB17 := hba hV11 HB D7
  have D18 := dr V9
  clear K0 K1 K2 HB D7
  have f21 := (kb K16 D18).cellsL 0 [.float .f64 0, .float .f64 0] rfl
  dsimp only [CellsL, al, vl, Nat.reduceAdd] at f21
  have u22 := (kb K16 D18).unfrozen
  obtain ⟨V19, hV20⟩ : ∃ V, setCells V9 (g8) 0 [.float .f64 p2.lo, .float .f64 p2.hi] = V := ⟨_, rfl⟩
  have hv23 := hV20
  simp only [setCells, Nat.reduceAdd] at hv23
  have K24 := kf hV20 K13 D18 (by have := Y12.out; omega)
  have K25 := kf hV20 K14 D18 (by have := Y12.out; omega)
  have K26 := kf hV20 K15 D18 (by have := Y12.out; omega)
  have K27 := Lib.hid (show Blk V19 (g8) 24 #[.float .f64 p2.lo, .float .f64 p2.hi] from (ks hV20 K16 D18).out)
  have HB28 := hbs hV20 HB17 D18 (by have := Y12.out; omega)
  have D29 := dr V19
  clear K13 K14 K15 K16 HB17 D18
  go_wp2_with fail
  clear hg10 hV11 hV20 f21 u22 hv23
  refine wp_region_held (S := (fun w' => True ∧ CellsL w' (w.heap.size) 4 [.float .f64 n.z.lo, .float .f64 n.z.hi] ∧ CellsL w' (g8) 0 [.float .f64 p2.lo, .float .f64 p2.hi])) (by kernel_rfl) ?_
  change wpAnyH _ _ _ _ _ _ _ _ (World.drew _)
  obtain ⟨wd30, hwd⟩ : ∃ x, x = World.drew V19 := ⟨_, rfl⟩
  rw [← hwd]
  have D31 := Lib.hid (hwd ▸ Below.drew D29.out : Below V19.heap.size V19 wd30)
  clear D29 hwd
  have hS32 : True ∧ CellsL wd30 (w.heap.size) 4 [.float .f64 n.z.lo, .float .f64 n.z.hi] ∧ CellsL wd30 (g8) 0 [.float .f64 p2.lo, .float .f64 p2.hi] := ⟨trivial, (kb K24 D31).cellsL 4 [.float .f64 n.z.lo, .float .f64 n.z.hi] rfl, (kb K27 D31).cellsL 0 [.float .f64 p2.lo, .float .f64 p2.hi] rfl⟩
  refine tk 1 (bm 9 2) ?vq33 ?aq33 rfl (by kernel_rfl) (fun _ _ _ h => h) (by kernel_rfl) ?hq33 ?pq33 hS32 ?rq33
  case hq33 => (intro w hS; dsimp only [CellsL, al, vl, Nat.reduceAdd] at hS; go_simp; try with_reducible rfl)
  case pq33 => (go_simp; try with_reducible rfl)
  refine tk 2 (bm 9 6) ?vq34 ?aq34 rfl (by kernel_rfl) (fun _ _ _ h => h) (by kernel_rfl) ?hq34 ?pq34 hS32 ?rq34
  case hq34 => (intro w hS; go_simp; try with_reducible rfl)
  case pq34 => (go_simp; try with_reducible rfl)
  refine tk 3 (bm 9 14) ?vq35 ?aq35 rfl (by kernel_rfl) (fun _ _ _ h => h) (by kernel_rfl) ?hq35 ?pq35 hS32 ?rq35
  case hq35 => (intro w hS; dsimp only [CellsL, al, vl, Nat.reduceAdd] at hS; go_simp; try with_reducible rfl)
  case pq35 => (go_simp; try with_reducible rfl)
  have HS36 := Lib.hid (show ∀ w', Below V19.heap.size V19 w' → (True ∧ CellsL w' (w.heap.size) 4 [.float .f64 n.z.lo, .float .f64 n.z.hi] ∧ CellsL w' (g8) 0 [.float .f64 p2.lo, .float .f64 p2.hi]) from fun w' b => ⟨trivial, (K24.out.below b K24.out.lt).cellsL 4 [.float .f64 n.z.lo, .float .f64 n.z.hi] rfl, (K27.out.below b K27.out.lt).cellsL 0 [.float .f64 p2.lo, .float .f64 p2.hi] rfl⟩)
  refine wpAnyH_sets2 (N := 9) (stop := 255) (F := 1) (m := 14) (R := [0, 4, 5, 6, 7]) (M := [14, 15, 142, 31, 143, 63, 159, 127, 191, 255]) (fun i => if i = 0 then 0 else if i = 4 then 11 else if i = 5 then 17 else if i = 6 then 32 else if i = 7 then 0 else 0) (fun a0 m a w9 => ∃ (v0 v4 v5 v6 p7_ : Value) (g7_ : Nat), a = (((((a0.put (some 22) v0).put (some 26) v4).put (some 27) v5).put (some 28) v6).put (some 8) p7_) ∧ Below V19.heap.size V19 w9 ∧ (m.testBit 0 = true → v0 = Value.agg #[.float .f64 p2.lo, .float .f64 p2.hi]) ∧ (m.testBit 4 = true → v4 = Value.agg #[.float .f64 p4.lo, .float .f64 p4.hi]) ∧ (m.testBit 5 = true → v5 = Value.agg #[.float .f64 p5.lo, .float .f64 p5.hi]) ∧ (m.testBit 6 = true → v6 = Value.agg #[.float .f64 p6.lo, .float .f64 p6.hi]) ∧ (m.testBit 7 = true → p7_ = .pointer (some ⟨g7_, 0, none⟩) ∧ Blk w9 g7_ 24 #[.float .f64 0, .float .f64 0] ∧ V19.heap.size ≤ g7_)) (by kernel_rfl) (by kernel_rfl) (by kernel_rfl) (by kernel_rfl) ?st9 ?sp9 ?re9
  case st9 =>
    exact ⟨undef, undef, undef, undef, undef, 0, by go_simp, D31.out, fun h => absurd h (by decide), fun h => absurd h (by decide), fun h => absurd h (by decide), fun h => absurd h (by decide), fun h => absurd h (by decide)⟩
  case sp9 =>
    intro m a' w9 i hi hm hd hJ
    obtain ⟨v0, v4, v5, v6, p7_, g7_, rfl, hb0, cl0, cl4, cl5, cl6, ql7⟩ := hJ
    have CL0 := Lib.hid cl0
    have CL4 := Lib.hid cl4
    have CL5 := Lib.hid cl5
    have CL6 := Lib.hid cl6
    have QL7 := Lib.hid ql7
    have HB0 := Lib.hid hb0
    clear cl0 cl4 cl5 cl6 ql7 hb0 hS32
    simp only [List.mem_cons, List.not_mem_nil, or_false] at hi
    rcases hi with rfl | rfl | rfl | rfl | rfl
    · refine wpOp_at rfl (by kernel_rfl) (fun K hK => ?_)
      have hd := fun j => @tb_of _ _ j hd
      go_simp
      go_at_call 76
      refine (C3.out _).mono ?_
      rintro r w10 ⟨rfl, hb⟩
      dsimp only
      have hb1 := below_step HB0.out hb
      exact hK _ _ ⟨HS36.out _ hb1, _, v4, v5, v6, p7_, g7_, by go_simp, hb1, fun _ => rfl, fun h => CL4.out (by rwa [tb_ne (by decide)] at h), fun h => CL5.out (by rwa [tb_ne (by decide)] at h), fun h => CL6.out (by rwa [tb_ne (by decide)] at h), fun h => ⟨(QL7.out (by rwa [tb_ne (by decide)] at h)).1, (QL7.out (by rwa [tb_ne (by decide)] at h)).2.1.below hb (QL7.out (by rwa [tb_ne (by decide)] at h)).2.1.lt, (QL7.out (by rwa [tb_ne (by decide)] at h)).2.2⟩⟩
    · refine wpOp_at rfl (by kernel_rfl) (fun K hK => ?_)
      have hd := fun j => @tb_of _ _ j hd
      obtain rfl := CL0.out (hd _ (by decide))
      go_simp
      go_at_call 75
      refine (C4.out _).mono ?_
      rintro r w10 ⟨rfl, hb⟩
      dsimp only
      have hb1 := below_step HB0.out hb
      exact hK _ _ ⟨HS36.out _ hb1, _, _, v5, v6, p7_, g7_, by go_simp, hb1, fun _ => rfl, fun _ => rfl, fun h => CL5.out (by rwa [tb_ne (by decide)] at h), fun h => CL6.out (by rwa [tb_ne (by decide)] at h), fun h => ⟨(QL7.out (by rwa [tb_ne (by decide)] at h)).1, (QL7.out (by rwa [tb_ne (by decide)] at h)).2.1.below hb (QL7.out (by rwa [tb_ne (by decide)] at h)).2.1.lt, (QL7.out (by rwa [tb_ne (by decide)] at h)).2.2⟩⟩
    · refine wpOp_at rfl (by kernel_rfl) (fun K hK => ?_)
      have hd := fun j => @tb_of _ _ j hd
      obtain rfl := CL0.out (hd _ (by decide))
      obtain rfl := CL4.out (hd _ (by decide))
      go_simp
      go_at_call 71
      refine (C5.out _).mono ?_
      rintro r w10 ⟨rfl, hb⟩
      dsimp only
      have hb1 := below_step HB0.out hb
      exact hK _ _ ⟨HS36.out _ hb1, _, _, _, v6, p7_, g7_, by go_simp, hb1, fun _ => rfl, fun _ => rfl, fun _ => rfl, fun h => CL6.out (by rwa [tb_ne (by decide)] at h), fun h => ⟨(QL7.out (by rwa [tb_ne (by decide)] at h)).1, (QL7.out (by rwa [tb_ne (by decide)] at h)).2.1.below hb (QL7.out (by rwa [tb_ne (by decide)] at h)).2.1.lt, (QL7.out (by rwa [tb_ne (by decide)] at h)).2.2⟩⟩
    · refine wpOp_at rfl (by kernel_rfl) (fun K hK => ?_)
      have hd := fun j => @tb_of _ _ j hd
      obtain rfl := CL5.out (hd _ (by decide))
      go_simp
      go_at_call 83
      refine (C6.out _).mono ?_
      rintro r w10 ⟨rfl, hb⟩
      dsimp only
      have hb1 := below_step HB0.out hb
      exact hK _ _ ⟨HS36.out _ hb1, v0, v4, _, _, p7_, g7_, by go_simp, hb1, fun h => CL0.out (by rwa [tb_ne (by decide)] at h), fun h => CL4.out (by rwa [tb_ne (by decide)] at h), fun _ => rfl, fun _ => rfl, fun h => ⟨(QL7.out (by rwa [tb_ne (by decide)] at h)).1, (QL7.out (by rwa [tb_ne (by decide)] at h)).2.1.below hb (QL7.out (by rwa [tb_ne (by decide)] at h)).2.1.lt, (QL7.out (by rwa [tb_ne (by decide)] at h)).2.2⟩⟩
    · refine wpOp_at rfl (by kernel_rfl) (fun K hK => ?_)
      have hd := fun j => @tb_of _ _ j hd
      go_simp
      have hb1 := below_more HB0.out (.cells #[.float .f64 0, .float .f64 0] 24)
      exact hK _ _ ⟨HS36.out _ hb1, v0, v4, v5, v6, .pointer (some ⟨w9.heap.size, 0, none⟩), w9.heap.size, by go_simp, hb1, fun h => CL0.out (by rwa [tb_ne (by decide)] at h), fun h => CL4.out (by rwa [tb_ne (by decide)] at h), fun h => CL5.out (by rwa [tb_ne (by decide)] at h), fun h => CL6.out (by rwa [tb_ne (by decide)] at h), fun _ => ⟨rfl, Blk.new_at _ _ _ rfl, HB0.out.size⟩⟩
  clear hS32 D31 HS36
  intro a' W50 hJ
  obtain ⟨v0, v4, v5, v6, p7_, g51, rfl, hb0, cl0, cl4, cl5, cl6, ql7⟩ := hJ
  obtain rfl := cl0 (by decide)
  obtain rfl := cl4 (by decide)
  obtain rfl := cl5 (by decide)
  obtain rfl := cl6 (by decide)
  obtain ⟨rfl, kk7, ll7⟩ := ql7 (by decide)
  have D39 := Lib.hid hb0
  clear hb0
  refine wpAnyH_frame (a' := ?frq38) ?feq38 ?fgq38
  case feq38 => (go_simp; try with_reducible rfl)
  have K41 := Lib.hid ((kb K24 D39) : Blk W50 (w.heap.size) 26 (vc n))
  have K42 := Lib.hid ((kb K25 D39) : Blk W50 (w.heap.size + 1) 26 #[.float .f64 0, .float .f64 0, .float .f64 0, .float .f64 0, .float .f64 0, .float .f64 0])
  have K43 := Lib.hid ((kb K26 D39) : Blk W50 (w.heap.size + 1 + 1) 26 #[.float .f64 0, .float .f64 0, .float .f64 0, .float .f64 0, .float .f64 0, .float .f64 0])
  have K44 := Lib.hid ((kb K27 D39) : Blk W50 (g8) 24 #[.float .f64 p2.lo, .float .f64 p2.hi])
  have K45 := Lib.hid kk7
  clear kk7
  have HB48 := Lib.hid (below_step HB28.out D39.out)
  have Y47 := Lib.hid (show w.heap.size ≤ g51 ∧ w.heap.size < g51 ∧ w.heap.size + 1 < g51 ∧ w.heap.size + 1 + 1 < g51 ∧ g8 < g51 from ⟨Nat.le_trans HB28.out.size ll7, Nat.lt_of_lt_of_le K24.out.lt ll7, Nat.lt_of_lt_of_le K25.out.lt ll7, Nat.lt_of_lt_of_le K26.out.lt ll7, Nat.lt_of_lt_of_le K27.out.lt ll7⟩)
  have Y49 := Lib.hid (And.intro Y12.out Y47.out)
  clear Y12 Y47
  clear K24 K25 K26 K27 ll7 HB28
  have D52 := Lib.hid (Below.refl W50.heap.size W50)
  clear D39
  have hS53 : True ∧ CellsL W50 (w.heap.size) 4 [.float .f64 n.z.lo, .float .f64 n.z.hi] ∧ CellsL W50 (g8) 0 [.float .f64 p2.lo, .float .f64 p2.hi] := ⟨trivial, (kb K41 D52).cellsL 4 [.float .f64 n.z.lo, .float .f64 n.z.hi] rfl, (kb K44 D52).cellsL 0 [.float .f64 p2.lo, .float .f64 p2.hi] rfl⟩
  refine wpAnyH_oneM (i := 8) (l' := bm 9 511) rfl (by kernel_rfl) (by kernel_rfl) (by kernel_rfl) (fun K hK => ?_)
  have f56 := (kb K45 D52).cellsL 0 [.float .f64 0, .float .f64 0] rfl
  dsimp only [CellsL, al, vl, Nat.reduceAdd] at f56
  have u57 := (kb K45 D52).unfrozen
  obtain ⟨V54, hV55⟩ : ∃ V, setCells W50 (g51) 0 [.float .f64 p6.lo, .float .f64 p6.hi] = V := ⟨_, rfl⟩
  have hv58 := hV55
  simp only [setCells, Nat.reduceAdd] at hv58
  have K59 := kf hV55 K41 D52 (by have := Y49.out; omega)
  have K60 := kf hV55 K42 D52 (by have := Y49.out; omega)
  have K61 := kf hV55 K43 D52 (by have := Y49.out; omega)
  have K62 := kf hV55 K44 D52 (by have := Y49.out; omega)
  have K63 := Lib.hid (show Blk V54 (g51) 24 #[.float .f64 p6.lo, .float .f64 p6.hi] from (ks hV55 K45 D52).out)
  have HB64 := hbs hV55 HB48 D52 (by have := Y49.out; omega)
  have D65 := dr V54
  clear K41 K42 K43 K44 K45 HB48 D52
  go_simp
  clear hV55 f56 u57 hv58
  have hS66 : True ∧ CellsL V54 (w.heap.size) 4 [.float .f64 n.z.lo, .float .f64 n.z.hi] ∧ CellsL V54 (g8) 0 [.float .f64 p2.lo, .float .f64 p2.hi] := ⟨trivial, (kb K59 D65).cellsL 4 [.float .f64 n.z.lo, .float .f64 n.z.hi] rfl, (kb K62 D65).cellsL 0 [.float .f64 p2.lo, .float .f64 p2.hi] rfl⟩
  refine hK _ _ hS66 ?_
  clear hK K hS53
  refine wpAnyH_done (by kernel_rfl) ?_ _
  clear hS66
  go_wp2_with fail
  refine wp_region_held (S := (fun w' => True ∧ CellsL w' (w.heap.size) 0 [.float .f64 n.x.lo, .float .f64 n.x.hi, .float .f64 n.y.lo, .float .f64 n.y.hi] ∧ CellsL w' (g51) 0 [.float .f64 p6.lo, .float .f64 p6.hi])) (by kernel_rfl) ?_
  change wpAnyH _ _ _ _ _ _ _ _ (World.drew _)
  obtain ⟨wd67, hwd⟩ : ∃ x, x = World.drew V54 := ⟨_, rfl⟩
  rw [← hwd]
  have D68 := Lib.hid (hwd ▸ Below.drew D65.out : Below V54.heap.size V54 wd67)
  clear D65 hwd
  have hS69 : True ∧ CellsL wd67 (w.heap.size) 0 [.float .f64 n.x.lo, .float .f64 n.x.hi, .float .f64 n.y.lo, .float .f64 n.y.hi] ∧ CellsL wd67 (g51) 0 [.float .f64 p6.lo, .float .f64 p6.hi] := ⟨trivial, (kb K59 D68).cellsL 0 [.float .f64 n.x.lo, .float .f64 n.x.hi, .float .f64 n.y.lo, .float .f64 n.y.hi] rfl, (kb K63 D68).cellsL 0 [.float .f64 p6.lo, .float .f64 p6.hi] rfl⟩
  refine tk 0 (bm 9 1) ?vq70 ?aq70 rfl (by kernel_rfl) (fun _ _ _ h => h) (by kernel_rfl) ?hq70 ?pq70 hS69 ?rq70
  case hq70 => (intro w hS; go_simp; try with_reducible rfl)
  case pq70 => (go_simp; try with_reducible rfl)
  refine tk 1 (bm 9 3) ?vq71 ?aq71 rfl (by kernel_rfl) (fun _ _ _ h => h) (by kernel_rfl) ?hq71 ?pq71 hS69 ?rq71
  case hq71 => (intro w hS; dsimp only [CellsL, al, vl, Nat.reduceAdd] at hS; go_simp; try with_reducible rfl)
  case pq71 => (go_simp; try with_reducible rfl)
  refine tk 2 (bm 9 7) ?vq72 ?aq72 rfl (by kernel_rfl) (fun _ _ _ h => h) (by kernel_rfl) ?hq72 ?pq72 hS69 ?rq72
  case hq72 => (intro w hS; go_simp; try with_reducible rfl)
  case pq72 => (go_simp; try with_reducible rfl)
  refine tk 3 (bm 9 15) ?vq73 ?aq73 rfl (by kernel_rfl) (fun _ _ _ h => h) (by kernel_rfl) ?hq73 ?pq73 hS69 ?rq73
  case hq73 => (intro w hS; dsimp only [CellsL, al, vl, Nat.reduceAdd] at hS; go_simp; try with_reducible rfl)
  case pq73 => (go_simp; try with_reducible rfl)
  refine tk 5 (bm 9 47) ?vq74 ?aq74 rfl (by kernel_rfl) (fun _ _ _ h => h) (by kernel_rfl) ?hq74 ?pq74 hS69 ?rq74
  case hq74 => (intro w hS; dsimp only [CellsL, al, vl, Nat.reduceAdd] at hS; go_simp; try with_reducible rfl)
  case pq74 => (go_simp; try with_reducible rfl)
  have HS75 := Lib.hid (show ∀ w', Below V54.heap.size V54 w' → (True ∧ CellsL w' (w.heap.size) 0 [.float .f64 n.x.lo, .float .f64 n.x.hi, .float .f64 n.y.lo, .float .f64 n.y.hi] ∧ CellsL w' (g51) 0 [.float .f64 p6.lo, .float .f64 p6.hi]) from fun w' b => ⟨trivial, (K59.out.below b K59.out.lt).cellsL 0 [.float .f64 n.x.lo, .float .f64 n.x.hi, .float .f64 n.y.lo, .float .f64 n.y.hi] rfl, (K63.out.below b K63.out.lt).cellsL 0 [.float .f64 p6.lo, .float .f64 p6.hi] rfl⟩)
  refine wpAnyH_sets2 (N := 9) (stop := 255) (F := 1) (m := 47) (R := [4, 6, 7]) (M := [47, 63, 175, 127, 191, 255]) (fun i => if i = 4 then 10 else if i = 6 then 48 else if i = 7 then 0 else 0) (fun a0 m a w9 => ∃ (v4 v6 p7_ : Value) (g7_ : Nat), a = (((a0.put (some 33) v4).put (some 35) v6).put (some 9) p7_) ∧ Below V54.heap.size V54 w9 ∧ (m.testBit 4 = true → v4 = Value.agg #[.float .f64 p7.lo, .float .f64 p7.hi]) ∧ (m.testBit 6 = true → v6 = Value.agg #[.float .f64 p8.lo, .float .f64 p8.hi]) ∧ (m.testBit 7 = true → p7_ = .pointer (some ⟨g7_, 0, none⟩) ∧ Blk w9 g7_ 24 #[.float .f64 0, .float .f64 0] ∧ V54.heap.size ≤ g7_)) (by kernel_rfl) (by kernel_rfl) (by kernel_rfl) (by kernel_rfl) ?st10 ?sp10 ?re10
  case st10 =>
    exact ⟨undef, undef, undef, 0, by go_simp, D68.out, fun h => absurd h (by decide), fun h => absurd h (by decide), fun h => absurd h (by decide)⟩
  case sp10 =>
    intro m a' w9 i hi hm hd hJ
    obtain ⟨v4, v6, p7_, g7_, rfl, hb0, cl4, cl6, ql7⟩ := hJ
    have CL4 := Lib.hid cl4
    have CL6 := Lib.hid cl6
    have QL7 := Lib.hid ql7
    have HB0 := Lib.hid hb0
    clear cl4 cl6 ql7 hb0 hS69
    simp only [List.mem_cons, List.not_mem_nil, or_false] at hi
    rcases hi with rfl | rfl | rfl
    · refine wpOp_at rfl (by kernel_rfl) (fun K hK => ?_)
      have hd := fun j => @tb_of _ _ j hd
      go_simp
      go_at_call 78
      refine (C7.out _).mono ?_
      rintro r w10 ⟨rfl, hb⟩
      dsimp only
      have hb1 := below_step HB0.out hb
      exact hK _ _ ⟨HS75.out _ hb1, _, v6, p7_, g7_, by go_simp, hb1, fun _ => rfl, fun h => CL6.out (by rwa [tb_ne (by decide)] at h), fun h => ⟨(QL7.out (by rwa [tb_ne (by decide)] at h)).1, (QL7.out (by rwa [tb_ne (by decide)] at h)).2.1.below hb (QL7.out (by rwa [tb_ne (by decide)] at h)).2.1.lt, (QL7.out (by rwa [tb_ne (by decide)] at h)).2.2⟩⟩
    · refine wpOp_at rfl (by kernel_rfl) (fun K hK => ?_)
      have hd := fun j => @tb_of _ _ j hd
      obtain rfl := CL4.out (hd _ (by decide))
      go_simp
      go_at_call 78
      refine (C8.out _).mono ?_
      rintro r w10 ⟨rfl, hb⟩
      dsimp only
      have hb1 := below_step HB0.out hb
      exact hK _ _ ⟨HS75.out _ hb1, _, _, p7_, g7_, by go_simp, hb1, fun _ => rfl, fun _ => rfl, fun h => ⟨(QL7.out (by rwa [tb_ne (by decide)] at h)).1, (QL7.out (by rwa [tb_ne (by decide)] at h)).2.1.below hb (QL7.out (by rwa [tb_ne (by decide)] at h)).2.1.lt, (QL7.out (by rwa [tb_ne (by decide)] at h)).2.2⟩⟩
    · refine wpOp_at rfl (by kernel_rfl) (fun K hK => ?_)
      have hd := fun j => @tb_of _ _ j hd
      go_simp
      have hb1 := below_more HB0.out (.cells #[.float .f64 0, .float .f64 0] 24)
      exact hK _ _ ⟨HS75.out _ hb1, v4, v6, .pointer (some ⟨w9.heap.size, 0, none⟩), w9.heap.size, by go_simp, hb1, fun h => CL4.out (by rwa [tb_ne (by decide)] at h), fun h => CL6.out (by rwa [tb_ne (by decide)] at h), fun _ => ⟨rfl, Blk.new_at _ _ _ rfl, HB0.out.size⟩⟩
  clear hS69 D68 HS75
  intro a' W90 hJ
  obtain ⟨v4, v6, p7_, g91, rfl, hb0, cl4, cl6, ql7⟩ := hJ
  obtain rfl := cl4 (by decide)
  obtain rfl := cl6 (by decide)
  obtain ⟨rfl, kk7, ll7⟩ := ql7 (by decide)
  have D78 := Lib.hid hb0
  clear hb0
  refine wpAnyH_frame (a' := ?frq77) ?feq77 ?fgq77
  case feq77 => (go_simp; try with_reducible rfl)
  have K80 := Lib.hid ((kb K59 D78) : Blk W90 (w.heap.size) 26 (vc n))
  have K81 := Lib.hid ((kb K60 D78) : Blk W90 (w.heap.size + 1) 26 #[.float .f64 0, .float .f64 0, .float .f64 0, .float .f64 0, .float .f64 0, .float .f64 0])
  have K82 := Lib.hid ((kb K61 D78) : Blk W90 (w.heap.size + 1 + 1) 26 #[.float .f64 0, .float .f64 0, .float .f64 0, .float .f64 0, .float .f64 0, .float .f64 0])
  have K83 := Lib.hid ((kb K62 D78) : Blk W90 (g8) 24 #[.float .f64 p2.lo, .float .f64 p2.hi])
  have K84 := Lib.hid ((kb K63 D78) : Blk W90 (g51) 24 #[.float .f64 p6.lo, .float .f64 p6.hi])
  have K85 := Lib.hid kk7
  clear kk7
  have HB88 := Lib.hid (below_step HB64.out D78.out)
  have Y87 := Lib.hid (show w.heap.size ≤ g91 ∧ w.heap.size < g91 ∧ w.heap.size + 1 < g91 ∧ w.heap.size + 1 + 1 < g91 ∧ g8 < g91 ∧ g51 < g91 from ⟨Nat.le_trans HB64.out.size ll7, Nat.lt_of_lt_of_le K59.out.lt ll7, Nat.lt_of_lt_of_le K60.out.lt ll7, Nat.lt_of_lt_of_le K61.out.lt ll7, Nat.lt_of_lt_of_le K62.out.lt ll7, Nat.lt_of_lt_of_le K63.out.lt ll7⟩)
  have Y89 := Lib.hid (And.intro Y49.out Y87.out)
  clear Y49 Y87
  clear K59 K60 K61 K62 K63 ll7 HB64
  have D92 := Lib.hid (Below.refl W90.heap.size W90)
  clear D78
  have hS93 : True ∧ CellsL W90 (w.heap.size) 0 [.float .f64 n.x.lo, .float .f64 n.x.hi, .float .f64 n.y.lo, .float .f64 n.y.hi] ∧ CellsL W90 (g51) 0 [.float .f64 p6.lo, .float .f64 p6.hi] := ⟨trivial, (kb K80 D92).cellsL 0 [.float .f64 n.x.lo, .float .f64 n.x.hi, .float .f64 n.y.lo, .float .f64 n.y.hi] rfl, (kb K84 D92).cellsL 0 [.float .f64 p6.lo, .float .f64 p6.hi] rfl⟩
  refine wpAnyH_oneM (i := 8) (l' := bm 9 511) rfl (by kernel_rfl) (by kernel_rfl) (by kernel_rfl) (fun K hK => ?_)
  have f96 := (kb K85 D92).cellsL 0 [.float .f64 0, .float .f64 0] rfl
  dsimp only [CellsL, al, vl, Nat.reduceAdd] at f96
  have u97 := (kb K85 D92).unfrozen
  obtain ⟨V94, hV95⟩ : ∃ V, setCells W90 (g91) 0 [.float .f64 p8.lo, .float .f64 p8.hi] = V := ⟨_, rfl⟩
  have hv98 := hV95
  simp only [setCells, Nat.reduceAdd] at hv98
  have K99 := kf hV95 K80 D92 (by have := Y89.out; omega)
  have K100 := kf hV95 K81 D92 (by have := Y89.out; omega)
  have K101 := kf hV95 K82 D92 (by have := Y89.out; omega)
  have K102 := kf hV95 K83 D92 (by have := Y89.out; omega)
  have K103 := kf hV95 K84 D92 (by have := Y89.out; omega)
  have K104 := Lib.hid (show Blk V94 (g91) 24 #[.float .f64 p8.lo, .float .f64 p8.hi] from (ks hV95 K85 D92).out)
  have HB105 := hbs hV95 HB88 D92 (by have := Y89.out; omega)
  have D106 := dr V94
  clear K80 K81 K82 K83 K84 K85 HB88 D92
  go_simp
  clear hV95 f96 u97 hv98
  have hS107 : True ∧ CellsL V94 (w.heap.size) 0 [.float .f64 n.x.lo, .float .f64 n.x.hi, .float .f64 n.y.lo, .float .f64 n.y.hi] ∧ CellsL V94 (g51) 0 [.float .f64 p6.lo, .float .f64 p6.hi] := ⟨trivial, (kb K99 D106).cellsL 0 [.float .f64 n.x.lo, .float .f64 n.x.hi, .float .f64 n.y.lo, .float .f64 n.y.hi] rfl, (kb K103 D106).cellsL 0 [.float .f64 p6.lo, .float .f64 p6.hi] rfl⟩
  refine hK _ _ hS107 ?_
  clear hK K hS93
  refine wpAnyH_done (by kernel_rfl) ?_ _
  clear hS107
  go_wp2_with fail
  refine wp_region_held (S := (fun w' => True ∧ CellsL w' (w.heap.size) 0 [.float .f64 n.x.lo, .float .f64 n.x.hi] ∧ CellsL w' (g8) 0 [.float .f64 p2.lo, .float .f64 p2.hi] ∧ CellsL w' (g51) 0 [.float .f64 p6.lo, .float .f64 p6.hi] ∧ CellsL w' (g91) 0 [.float .f64 p8.lo, .float .f64 p8.hi])) (by kernel_rfl) ?_
  change wpAnyH _ _ _ _ _ _ _ _ (World.drew _)
  obtain ⟨wd108, hwd⟩ : ∃ x, x = World.drew V94 := ⟨_, rfl⟩
  rw [← hwd]
  have D109 := Lib.hid (hwd ▸ Below.drew D106.out : Below V94.heap.size V94 wd108)
  clear D106 hwd
  have hS110 : True ∧ CellsL wd108 (w.heap.size) 0 [.float .f64 n.x.lo, .float .f64 n.x.hi] ∧ CellsL wd108 (g8) 0 [.float .f64 p2.lo, .float .f64 p2.hi] ∧ CellsL wd108 (g51) 0 [.float .f64 p6.lo, .float .f64 p6.hi] ∧ CellsL wd108 (g91) 0 [.float .f64 p8.lo, .float .f64 p8.hi] := ⟨trivial, (kb K99 D109).cellsL 0 [.float .f64 n.x.lo, .float .f64 n.x.hi] rfl, (kb K102 D109).cellsL 0 [.float .f64 p2.lo, .float .f64 p2.hi] rfl, (kb K103 D109).cellsL 0 [.float .f64 p6.lo, .float .f64 p6.hi] rfl, (kb K104 D109).cellsL 0 [.float .f64 p8.lo, .float .f64 p8.hi] rfl⟩
  refine tk 1 (bm 20 2) ?vq111 ?aq111 rfl (by kernel_rfl) (fun _ _ _ h => h) (by kernel_rfl) ?hq111 ?pq111 hS110 ?rq111
  case hq111 => (intro w hS; dsimp only [CellsL, al, vl, Nat.reduceAdd] at hS; go_simp; try with_reducible rfl)
  case pq111 => (go_simp; try with_reducible rfl)
  refine tk 2 (bm 20 6) ?vq112 ?aq112 rfl (by kernel_rfl) (fun _ _ _ h => h) (by kernel_rfl) ?hq112 ?pq112 hS110 ?rq112
  case hq112 => (intro w hS; go_simp; try with_reducible rfl)
  case pq112 => (go_simp; try with_reducible rfl)
  refine tk 3 (bm 20 14) ?vq113 ?aq113 rfl (by kernel_rfl) (fun _ _ _ h => h) (by kernel_rfl) ?hq113 ?pq113 hS110 ?rq113
  case hq113 => (intro w hS; dsimp only [CellsL, al, vl, Nat.reduceAdd] at hS; go_simp; try with_reducible rfl)
  case pq113 => (go_simp; try with_reducible rfl)
  refine tk 6 (bm 20 78) ?vq114 ?aq114 rfl (by kernel_rfl) (fun _ _ _ h => h) (by kernel_rfl) ?hq114 ?pq114 hS110 ?rq114
  case hq114 => (intro w hS; dsimp only [CellsL, al, vl, Nat.reduceAdd] at hS; go_simp; try with_reducible rfl)
  case pq114 => (go_simp; try with_reducible rfl)
  refine tk 9 (bm 20 590) ?vq115 ?aq115 rfl (by kernel_rfl) (fun _ _ _ h => h) (by kernel_rfl) ?hq115 ?pq115 hS110 ?rq115
  case hq115 => (intro w hS; dsimp only [CellsL, al, vl, Nat.reduceAdd] at hS; go_simp; try with_reducible rfl)
  case pq115 => (go_simp; try with_reducible rfl)
  refine tk 10 (bm 20 1614) ?vq116 ?aq116 rfl (by kernel_rfl) (fun _ _ _ h => h) (by kernel_rfl) ?hq116 ?pq116 hS110 ?rq116
  case hq116 => (intro w hS; dsimp only [CellsL, al, vl, Nat.reduceAdd] at hS; go_simp; try with_reducible rfl)
  case pq116 => (go_simp; try with_reducible rfl)
  refine tk 12 (bm 20 5710) ?vq117 ?aq117 rfl (by kernel_rfl) (fun _ _ _ h => h) (by kernel_rfl) ?hq117 ?pq117 hS110 ?rq117
  case hq117 => (intro w hS; dsimp only [CellsL, al, vl, Nat.reduceAdd] at hS; go_simp; try with_reducible rfl)
  case pq117 => (go_simp; try with_reducible rfl)
  refine tk 13 (bm 20 13902) ?vq118 ?aq118 rfl (by kernel_rfl) (fun _ _ _ h => h) (by kernel_rfl) ?hq118 ?pq118 hS110 ?rq118
  case hq118 => (intro w hS; go_simp; try with_reducible rfl)
  case pq118 => (go_simp; try with_reducible rfl)
  refine tk 14 (bm 20 30286) ?vq119 ?aq119 rfl (by kernel_rfl) (fun _ _ _ h => h) (by kernel_rfl) ?hq119 ?pq119 hS110 ?rq119
  case hq119 => (intro w hS; dsimp only [CellsL, al, vl, Nat.reduceAdd] at hS; go_simp; try with_reducible rfl)
  case pq119 => (go_simp; try with_reducible rfl)
  have HS120 := Lib.hid (show ∀ w', Below V94.heap.size V94 w' → (True ∧ CellsL w' (w.heap.size) 0 [.float .f64 n.x.lo, .float .f64 n.x.hi] ∧ CellsL w' (g8) 0 [.float .f64 p2.lo, .float .f64 p2.hi] ∧ CellsL w' (g51) 0 [.float .f64 p6.lo, .float .f64 p6.hi] ∧ CellsL w' (g91) 0 [.float .f64 p8.lo, .float .f64 p8.hi]) from fun w' b => ⟨trivial, (K99.out.below b K99.out.lt).cellsL 0 [.float .f64 n.x.lo, .float .f64 n.x.hi] rfl, (K102.out.below b K102.out.lt).cellsL 0 [.float .f64 p2.lo, .float .f64 p2.hi] rfl, (K103.out.below b K103.out.lt).cellsL 0 [.float .f64 p6.lo, .float .f64 p6.hi] rfl, (K104.out.below b K104.out.lt).cellsL 0 [.float .f64 p8.lo, .float .f64 p8.hi] rfl⟩)
  refine wpAnyH_sets2 (N := 20) (stop := 524287) (F := 1) (m := 30286) (R := [0, 4, 5, 7, 8, 11, 15, 16, 17, 18]) (M := [30286, 30287, 292430, 30303, 292431, 30335, 292447, 30463, 292479, 30719, 292607, 32767, 292863, 65535, 294911, 131071, 327679, 262143, 393215, 524287]) (fun i => if i = 0 then 0 else if i = 4 then 9 else if i = 5 then 18 else if i = 7 then 96 else if i = 8 then 129 else if i = 11 then 1792 else if i = 15 then 22528 else if i = 16 then 32768 else if i = 17 then 67840 else if i = 18 then 0 else 0) (fun a0 m a w9 => ∃ (v0 v4 v5 v7 v8 v11 v15 v16 v17 p18_ : Value) (g18_ : Nat), a = ((((((((((a0.put (some 36) v0).put (some 40) v4).put (some 41) v5).put (some 43) v7).put (some 44) v8).put (some 47) v11).put (some 51) v15).put (some 52) v16).put (some 53) v17).put (some 10) p18_) ∧ Below V94.heap.size V94 w9 ∧ (m.testBit 0 = true → v0 = Value.agg #[.float .f64 p2.lo, .float .f64 p2.hi]) ∧ (m.testBit 4 = true → v4 = Value.agg #[.float .f64 p10.lo, .float .f64 p10.hi]) ∧ (m.testBit 5 = true → v5 = Value.agg #[.float .f64 p11.lo, .float .f64 p11.hi]) ∧ (m.testBit 7 = true → v7 = Value.agg #[.float .f64 p12.lo, .float .f64 p12.hi]) ∧ (m.testBit 8 = true → v8 = Value.agg #[.float .f64 p13.lo, .float .f64 p13.hi]) ∧ (m.testBit 11 = true → v11 = Value.agg #[.float .f64 p14.lo, .float .f64 p14.hi]) ∧ (m.testBit 15 = true → v15 = Value.agg #[.float .f64 p15.lo, .float .f64 p15.hi]) ∧ (m.testBit 16 = true → v16 = Value.agg #[.float .f64 p16.lo, .float .f64 p16.hi]) ∧ (m.testBit 17 = true → v17 = Value.agg #[.float .f64 p13.lo, .float .f64 p13.hi, .float .f64 p14.lo, .float .f64 p14.hi, .float .f64 p16.lo, .float .f64 p16.hi]) ∧ (m.testBit 18 = true → p18_ = .pointer (some ⟨g18_, 0, none⟩) ∧ Blk w9 g18_ 26 #[.float .f64 0, .float .f64 0, .float .f64 0, .float .f64 0, .float .f64 0, .float .f64 0] ∧ V94.heap.size ≤ g18_)) (by kernel_rfl) (by kernel_rfl) (by kernel_rfl) (by kernel_rfl) ?st11 ?sp11 ?re11
  case st11 =>
    exact ⟨undef, undef, undef, undef, undef, undef, undef, undef, undef, undef, 0, by go_simp, D109.out, fun h => absurd h (by decide), fun h => absurd h (by decide), fun h => absurd h (by decide), fun h => absurd h (by decide), fun h => absurd h (by decide), fun h => absurd h (by decide), fun h => absurd h (by decide), fun h => absurd h (by decide), fun h => absurd h (by decide), fun h => absurd h (by decide)⟩
  case sp11 =>
    intro m a' w9 i hi hm hd hJ
    obtain ⟨v0, v4, v5, v7, v8, v11, v15, v16, v17, p18_, g18_, rfl, hb0, cl0, cl4, cl5, cl7, cl8, cl11, cl15, cl16, cl17, ql18⟩ := hJ
    have CL0 := Lib.hid cl0
    have CL4 := Lib.hid cl4
    have CL5 := Lib.hid cl5
    have CL7 := Lib.hid cl7
    have CL8 := Lib.hid cl8
    have CL11 := Lib.hid cl11
    have CL15 := Lib.hid cl15
    have CL16 := Lib.hid cl16
    have CL17 := Lib.hid cl17
    have QL18 := Lib.hid ql18
    have HB0 := Lib.hid hb0
    clear cl0 cl4 cl5 cl7 cl8 cl11 cl15 cl16 cl17 ql18 hb0 hS110
    simp only [List.mem_cons, List.not_mem_nil, or_false] at hi
    rcases hi with rfl | rfl | rfl | rfl | rfl | rfl | rfl | rfl | rfl | rfl
    · refine wpOp_at rfl (by kernel_rfl) (fun K hK => ?_)
      have hd := fun j => @tb_of _ _ j hd
      go_simp
      go_at_call 76
      refine (C9.out _).mono ?_
      rintro r w10 ⟨rfl, hb⟩
      dsimp only
      have hb1 := below_step HB0.out hb
      exact hK _ _ ⟨HS120.out _ hb1, _, v4, v5, v7, v8, v11, v15, v16, v17, p18_, g18_, by go_simp, hb1, fun _ => rfl, fun h => CL4.out (by rwa [tb_ne (by decide)] at h), fun h => CL5.out (by rwa [tb_ne (by decide)] at h), fun h => CL7.out (by rwa [tb_ne (by decide)] at h), fun h => CL8.out (by rwa [tb_ne (by decide)] at h), fun h => CL11.out (by rwa [tb_ne (by decide)] at h), fun h => CL15.out (by rwa [tb_ne (by decide)] at h), fun h => CL16.out (by rwa [tb_ne (by decide)] at h), fun h => CL17.out (by rwa [tb_ne (by decide)] at h), fun h => ⟨(QL18.out (by rwa [tb_ne (by decide)] at h)).1, (QL18.out (by rwa [tb_ne (by decide)] at h)).2.1.below hb (QL18.out (by rwa [tb_ne (by decide)] at h)).2.1.lt, (QL18.out (by rwa [tb_ne (by decide)] at h)).2.2⟩⟩
    · refine wpOp_at rfl (by kernel_rfl) (fun K hK => ?_)
      have hd := fun j => @tb_of _ _ j hd
      obtain rfl := CL0.out (hd _ (by decide))
      go_simp
      go_at_call 93
      refine (C10.out _).mono ?_
      rintro r w10 ⟨rfl, hb⟩
      dsimp only
      have hb1 := below_step HB0.out hb
      exact hK _ _ ⟨HS120.out _ hb1, _, _, v5, v7, v8, v11, v15, v16, v17, p18_, g18_, by go_simp, hb1, fun _ => rfl, fun _ => rfl, fun h => CL5.out (by rwa [tb_ne (by decide)] at h), fun h => CL7.out (by rwa [tb_ne (by decide)] at h), fun h => CL8.out (by rwa [tb_ne (by decide)] at h), fun h => CL11.out (by rwa [tb_ne (by decide)] at h), fun h => CL15.out (by rwa [tb_ne (by decide)] at h), fun h => CL16.out (by rwa [tb_ne (by decide)] at h), fun h => CL17.out (by rwa [tb_ne (by decide)] at h), fun h => ⟨(QL18.out (by rwa [tb_ne (by decide)] at h)).1, (QL18.out (by rwa [tb_ne (by decide)] at h)).2.1.below hb (QL18.out (by rwa [tb_ne (by decide)] at h)).2.1.lt, (QL18.out (by rwa [tb_ne (by decide)] at h)).2.2⟩⟩
    · refine wpOp_at rfl (by kernel_rfl) (fun K hK => ?_)
      have hd := fun j => @tb_of _ _ j hd
      obtain rfl := CL4.out (hd _ (by decide))
      go_simp
      go_at_call 78
      refine (C11.out _).mono ?_
      rintro r w10 ⟨rfl, hb⟩
      dsimp only
      have hb1 := below_step HB0.out hb
      exact hK _ _ ⟨HS120.out _ hb1, v0, _, _, v7, v8, v11, v15, v16, v17, p18_, g18_, by go_simp, hb1, fun h => CL0.out (by rwa [tb_ne (by decide)] at h), fun _ => rfl, fun _ => rfl, fun h => CL7.out (by rwa [tb_ne (by decide)] at h), fun h => CL8.out (by rwa [tb_ne (by decide)] at h), fun h => CL11.out (by rwa [tb_ne (by decide)] at h), fun h => CL15.out (by rwa [tb_ne (by decide)] at h), fun h => CL16.out (by rwa [tb_ne (by decide)] at h), fun h => CL17.out (by rwa [tb_ne (by decide)] at h), fun h => ⟨(QL18.out (by rwa [tb_ne (by decide)] at h)).1, (QL18.out (by rwa [tb_ne (by decide)] at h)).2.1.below hb (QL18.out (by rwa [tb_ne (by decide)] at h)).2.1.lt, (QL18.out (by rwa [tb_ne (by decide)] at h)).2.2⟩⟩
    · refine wpOp_at rfl (by kernel_rfl) (fun K hK => ?_)
      have hd := fun j => @tb_of _ _ j hd
      obtain rfl := CL5.out (hd _ (by decide))
      go_simp
      go_at_call 78
      refine (C12.out _).mono ?_
      rintro r w10 ⟨rfl, hb⟩
      dsimp only
      have hb1 := below_step HB0.out hb
      exact hK _ _ ⟨HS120.out _ hb1, v0, v4, _, _, v8, v11, v15, v16, v17, p18_, g18_, by go_simp, hb1, fun h => CL0.out (by rwa [tb_ne (by decide)] at h), fun h => CL4.out (by rwa [tb_ne (by decide)] at h), fun _ => rfl, fun _ => rfl, fun h => CL8.out (by rwa [tb_ne (by decide)] at h), fun h => CL11.out (by rwa [tb_ne (by decide)] at h), fun h => CL15.out (by rwa [tb_ne (by decide)] at h), fun h => CL16.out (by rwa [tb_ne (by decide)] at h), fun h => CL17.out (by rwa [tb_ne (by decide)] at h), fun h => ⟨(QL18.out (by rwa [tb_ne (by decide)] at h)).1, (QL18.out (by rwa [tb_ne (by decide)] at h)).2.1.below hb (QL18.out (by rwa [tb_ne (by decide)] at h)).2.1.lt, (QL18.out (by rwa [tb_ne (by decide)] at h)).2.2⟩⟩
    · refine wpOp_at rfl (by kernel_rfl) (fun K hK => ?_)
      have hd := fun j => @tb_of _ _ j hd
      obtain rfl := CL0.out (hd _ (by decide))
      obtain rfl := CL7.out (hd _ (by decide))
      go_simp
      go_at_call 75
      refine (C13.out _).mono ?_
      rintro r w10 ⟨rfl, hb⟩
      dsimp only
      have hb1 := below_step HB0.out hb
      exact hK _ _ ⟨HS120.out _ hb1, _, v4, v5, _, _, v11, v15, v16, v17, p18_, g18_, by go_simp, hb1, fun _ => rfl, fun h => CL4.out (by rwa [tb_ne (by decide)] at h), fun h => CL5.out (by rwa [tb_ne (by decide)] at h), fun _ => rfl, fun _ => rfl, fun h => CL11.out (by rwa [tb_ne (by decide)] at h), fun h => CL15.out (by rwa [tb_ne (by decide)] at h), fun h => CL16.out (by rwa [tb_ne (by decide)] at h), fun h => CL17.out (by rwa [tb_ne (by decide)] at h), fun h => ⟨(QL18.out (by rwa [tb_ne (by decide)] at h)).1, (QL18.out (by rwa [tb_ne (by decide)] at h)).2.1.below hb (QL18.out (by rwa [tb_ne (by decide)] at h)).2.1.lt, (QL18.out (by rwa [tb_ne (by decide)] at h)).2.2⟩⟩
    · refine wpOp_at rfl (by kernel_rfl) (fun K hK => ?_)
      have hd := fun j => @tb_of _ _ j hd
      obtain rfl := CL8.out (hd _ (by decide))
      go_simp
      go_at_call 78
      refine (C14.out _).mono ?_
      rintro r w10 ⟨rfl, hb⟩
      dsimp only
      have hb1 := below_step HB0.out hb
      exact hK _ _ ⟨HS120.out _ hb1, v0, v4, v5, v7, _, _, v15, v16, v17, p18_, g18_, by go_simp, hb1, fun h => CL0.out (by rwa [tb_ne (by decide)] at h), fun h => CL4.out (by rwa [tb_ne (by decide)] at h), fun h => CL5.out (by rwa [tb_ne (by decide)] at h), fun h => CL7.out (by rwa [tb_ne (by decide)] at h), fun _ => rfl, fun _ => rfl, fun h => CL15.out (by rwa [tb_ne (by decide)] at h), fun h => CL16.out (by rwa [tb_ne (by decide)] at h), fun h => CL17.out (by rwa [tb_ne (by decide)] at h), fun h => ⟨(QL18.out (by rwa [tb_ne (by decide)] at h)).1, (QL18.out (by rwa [tb_ne (by decide)] at h)).2.1.below hb (QL18.out (by rwa [tb_ne (by decide)] at h)).2.1.lt, (QL18.out (by rwa [tb_ne (by decide)] at h)).2.2⟩⟩
    · refine wpOp_at rfl (by kernel_rfl) (fun K hK => ?_)
      have hd := fun j => @tb_of _ _ j hd
      obtain rfl := CL11.out (hd _ (by decide))
      go_simp
      go_at_call 78
      refine (C15.out _).mono ?_
      rintro r w10 ⟨rfl, hb⟩
      dsimp only
      have hb1 := below_step HB0.out hb
      exact hK _ _ ⟨HS120.out _ hb1, v0, v4, v5, v7, v8, _, _, v16, v17, p18_, g18_, by go_simp, hb1, fun h => CL0.out (by rwa [tb_ne (by decide)] at h), fun h => CL4.out (by rwa [tb_ne (by decide)] at h), fun h => CL5.out (by rwa [tb_ne (by decide)] at h), fun h => CL7.out (by rwa [tb_ne (by decide)] at h), fun h => CL8.out (by rwa [tb_ne (by decide)] at h), fun _ => rfl, fun _ => rfl, fun h => CL16.out (by rwa [tb_ne (by decide)] at h), fun h => CL17.out (by rwa [tb_ne (by decide)] at h), fun h => ⟨(QL18.out (by rwa [tb_ne (by decide)] at h)).1, (QL18.out (by rwa [tb_ne (by decide)] at h)).2.1.below hb (QL18.out (by rwa [tb_ne (by decide)] at h)).2.1.lt, (QL18.out (by rwa [tb_ne (by decide)] at h)).2.2⟩⟩
    · refine wpOp_at rfl (by kernel_rfl) (fun K hK => ?_)
      have hd := fun j => @tb_of _ _ j hd
      obtain rfl := CL15.out (hd _ (by decide))
      go_simp
      go_at_call 83
      refine (C16.out _).mono ?_
      rintro r w10 ⟨rfl, hb⟩
      dsimp only
      have hb1 := below_step HB0.out hb
      exact hK _ _ ⟨HS120.out _ hb1, v0, v4, v5, v7, v8, v11, _, _, v17, p18_, g18_, by go_simp, hb1, fun h => CL0.out (by rwa [tb_ne (by decide)] at h), fun h => CL4.out (by rwa [tb_ne (by decide)] at h), fun h => CL5.out (by rwa [tb_ne (by decide)] at h), fun h => CL7.out (by rwa [tb_ne (by decide)] at h), fun h => CL8.out (by rwa [tb_ne (by decide)] at h), fun h => CL11.out (by rwa [tb_ne (by decide)] at h), fun _ => rfl, fun _ => rfl, fun h => CL17.out (by rwa [tb_ne (by decide)] at h), fun h => ⟨(QL18.out (by rwa [tb_ne (by decide)] at h)).1, (QL18.out (by rwa [tb_ne (by decide)] at h)).2.1.below hb (QL18.out (by rwa [tb_ne (by decide)] at h)).2.1.lt, (QL18.out (by rwa [tb_ne (by decide)] at h)).2.2⟩⟩
    · refine wpOp_at rfl (by kernel_rfl) (fun K hK => ?_)
      have hd := fun j => @tb_of _ _ j hd
      obtain rfl := CL8.out (hd _ (by decide))
      obtain rfl := CL11.out (hd _ (by decide))
      obtain rfl := CL16.out (hd _ (by decide))
      have hb1 := HB0.out
      go_simp
      exact hK _ _ ⟨HS120.out _ hb1, v0, v4, v5, v7, _, _, v15, _, _, p18_, g18_, by go_simp, hb1, fun h => CL0.out (by rwa [tb_ne (by decide)] at h), fun h => CL4.out (by rwa [tb_ne (by decide)] at h), fun h => CL5.out (by rwa [tb_ne (by decide)] at h), fun h => CL7.out (by rwa [tb_ne (by decide)] at h), fun _ => rfl, fun _ => rfl, fun h => CL15.out (by rwa [tb_ne (by decide)] at h), fun _ => rfl, fun _ => rfl, fun h => ⟨(QL18.out (by rwa [tb_ne (by decide)] at h)).1, (QL18.out (by rwa [tb_ne (by decide)] at h)).2.1, (QL18.out (by rwa [tb_ne (by decide)] at h)).2.2⟩⟩
    · refine wpOp_at rfl (by kernel_rfl) (fun K hK => ?_)
      have hd := fun j => @tb_of _ _ j hd
      go_simp
      have hb1 := below_more HB0.out (.cells #[.float .f64 0, .float .f64 0, .float .f64 0, .float .f64 0, .float .f64 0, .float .f64 0] 26)
      exact hK _ _ ⟨HS120.out _ hb1, v0, v4, v5, v7, v8, v11, v15, v16, v17, .pointer (some ⟨w9.heap.size, 0, none⟩), w9.heap.size, by go_simp, hb1, fun h => CL0.out (by rwa [tb_ne (by decide)] at h), fun h => CL4.out (by rwa [tb_ne (by decide)] at h), fun h => CL5.out (by rwa [tb_ne (by decide)] at h), fun h => CL7.out (by rwa [tb_ne (by decide)] at h), fun h => CL8.out (by rwa [tb_ne (by decide)] at h), fun h => CL11.out (by rwa [tb_ne (by decide)] at h), fun h => CL15.out (by rwa [tb_ne (by decide)] at h), fun h => CL16.out (by rwa [tb_ne (by decide)] at h), fun h => CL17.out (by rwa [tb_ne (by decide)] at h), fun _ => ⟨rfl, Blk.new_at _ _ _ rfl, HB0.out.size⟩⟩
  clear hS110 D109 HS120
  intro a' W136 hJ
  obtain ⟨v0, v4, v5, v7, v8, v11, v15, v16, v17, p18_, g137, rfl, hb0, cl0, cl4, cl5, cl7, cl8, cl11, cl15, cl16, cl17, ql18⟩ := hJ
  obtain rfl := cl0 (by decide)
  obtain rfl := cl4 (by decide)
  obtain rfl := cl5 (by decide)
  obtain rfl := cl7 (by decide)
  obtain rfl := cl8 (by decide)
  obtain rfl := cl11 (by decide)
  obtain rfl := cl15 (by decide)
  obtain rfl := cl16 (by decide)
  obtain rfl := cl17 (by decide)
  obtain ⟨rfl, kk18, ll18⟩ := ql18 (by decide)
  have D123 := Lib.hid hb0
  clear hb0
  refine wpAnyH_frame (a' := ?frq122) ?feq122 ?fgq122
  case feq122 => (go_simp; try with_reducible rfl)
  have K125 := Lib.hid ((kb K99 D123) : Blk W136 (w.heap.size) 26 (vc n))
  have K126 := Lib.hid ((kb K100 D123) : Blk W136 (w.heap.size + 1) 26 #[.float .f64 0, .float .f64 0, .float .f64 0, .float .f64 0, .float .f64 0, .float .f64 0])
  have K127 := Lib.hid ((kb K101 D123) : Blk W136 (w.heap.size + 1 + 1) 26 #[.float .f64 0, .float .f64 0, .float .f64 0, .float .f64 0, .float .f64 0, .float .f64 0])
  have K128 := Lib.hid ((kb K102 D123) : Blk W136 (g8) 24 #[.float .f64 p2.lo, .float .f64 p2.hi])
  have K129 := Lib.hid ((kb K103 D123) : Blk W136 (g51) 24 #[.float .f64 p6.lo, .float .f64 p6.hi])
  have K130 := Lib.hid ((kb K104 D123) : Blk W136 (g91) 24 #[.float .f64 p8.lo, .float .f64 p8.hi])
  have K131 := Lib.hid kk18
  clear kk18
  have HB134 := Lib.hid (below_step HB105.out D123.out)
  have Y133 := Lib.hid (show w.heap.size ≤ g137 ∧ w.heap.size < g137 ∧ w.heap.size + 1 < g137 ∧ w.heap.size + 1 + 1 < g137 ∧ g8 < g137 ∧ g51 < g137 ∧ g91 < g137 from ⟨Nat.le_trans HB105.out.size ll18, Nat.lt_of_lt_of_le K99.out.lt ll18, Nat.lt_of_lt_of_le K100.out.lt ll18, Nat.lt_of_lt_of_le K101.out.lt ll18, Nat.lt_of_lt_of_le K102.out.lt ll18, Nat.lt_of_lt_of_le K103.out.lt ll18, Nat.lt_of_lt_of_le K104.out.lt ll18⟩)
  have Y135 := Lib.hid (And.intro Y89.out Y133.out)
  clear Y89 Y133
  clear K99 K100 K101 K102 K103 K104 ll18 HB105
  have D138 := Lib.hid (Below.refl W136.heap.size W136)
  clear D123
  have hS139 : True ∧ CellsL W136 (w.heap.size) 0 [.float .f64 n.x.lo, .float .f64 n.x.hi] ∧ CellsL W136 (g8) 0 [.float .f64 p2.lo, .float .f64 p2.hi] ∧ CellsL W136 (g51) 0 [.float .f64 p6.lo, .float .f64 p6.hi] ∧ CellsL W136 (g91) 0 [.float .f64 p8.lo, .float .f64 p8.hi] := ⟨trivial, (kb K125 D138).cellsL 0 [.float .f64 n.x.lo, .float .f64 n.x.hi] rfl, (kb K128 D138).cellsL 0 [.float .f64 p2.lo, .float .f64 p2.hi] rfl, (kb K129 D138).cellsL 0 [.float .f64 p6.lo, .float .f64 p6.hi] rfl, (kb K130 D138).cellsL 0 [.float .f64 p8.lo, .float .f64 p8.hi] rfl⟩
  refine wpAnyH_oneM (i := 19) (l' := bm 20 1048575) rfl (by kernel_rfl) (by kernel_rfl) (by kernel_rfl) (fun K hK => ?_)
  have f142 := (kb K131 D138)
  obtain ⟨V140, hV141⟩ : ∃ V, World.setRow W136 (g137) #[.float .f64 p13.lo, .float .f64 p13.hi, .float .f64 p14.lo, .float .f64 p14.hi, .float .f64 p16.lo, .float .f64 p16.hi] = V := ⟨_, rfl⟩
  have K143 := kfr hV141 K125 D138 (by have := Y135.out; omega)
  have K144 := kfr hV141 K126 D138 (by have := Y135.out; omega)
  have K145 := kfr hV141 K127 D138 (by have := Y135.out; omega)
  have K146 := kfr hV141 K128 D138 (by have := Y135.out; omega)
  have K147 := kfr hV141 K129 D138 (by have := Y135.out; omega)
  have K148 := kfr hV141 K130 D138 (by have := Y135.out; omega)
  have K149 := ksr hV141 K131 D138
  have HB150 := hbr hV141 HB134 D138 (by have := Y135.out; omega)
  have D151 := dr V140
  clear K125 K126 K127 K128 K129 K130 K131 HB134 D138
  refine wp_store_row 26 _ _ rfl (g137) #[.float .f64 p13.lo, .float .f64 p13.hi, .float .f64 p14.lo, .float .f64 p14.hi, .float .f64 p16.lo, .float .f64 p16.hi] rfl rfl _ _ f142 (by rw [info_V3]; rfl) rfl (by kernel_rfl) ?_
  rw [hV141]
  go_simp
  clear hV141 f142
  have hS152 : True ∧ CellsL V140 (w.heap.size) 0 [.float .f64 n.x.lo, .float .f64 n.x.hi] ∧ CellsL V140 (g8) 0 [.float .f64 p2.lo, .float .f64 p2.hi] ∧ CellsL V140 (g51) 0 [.float .f64 p6.lo, .float .f64 p6.hi] ∧ CellsL V140 (g91) 0 [.float .f64 p8.lo, .float .f64 p8.hi] := ⟨trivial, (kb K143 D151).cellsL 0 [.float .f64 n.x.lo, .float .f64 n.x.hi] rfl, (kb K146 D151).cellsL 0 [.float .f64 p2.lo, .float .f64 p2.hi] rfl, (kb K147 D151).cellsL 0 [.float .f64 p6.lo, .float .f64 p6.hi] rfl, (kb K148 D151).cellsL 0 [.float .f64 p8.lo, .float .f64 p8.hi] rfl⟩
  refine hK _ _ hS152 ?_
  clear hK K hS139
  refine wpAnyH_done (by kernel_rfl) ?_ _
  clear hS152
  go_wp2_with fail
  refine wp_region_held (S := (fun w' => True ∧ CellsL w' (w.heap.size) 2 [.float .f64 n.y.lo, .float .f64 n.y.hi] ∧ CellsL w' (g8) 0 [.float .f64 p2.lo, .float .f64 p2.hi] ∧ CellsL w' (g51) 0 [.float .f64 p6.lo, .float .f64 p6.hi] ∧ CellsL w' (g91) 0 [.float .f64 p8.lo, .float .f64 p8.hi])) (by kernel_rfl) ?_
  change wpAnyH _ _ _ _ _ _ _ _ (World.drew _)
  obtain ⟨wd153, hwd⟩ : ∃ x, x = World.drew V140 := ⟨_, rfl⟩
  rw [← hwd]
  have D154 := Lib.hid (hwd ▸ Below.drew D151.out : Below V140.heap.size V140 wd153)
  clear D151 hwd
  have hS155 : True ∧ CellsL wd153 (w.heap.size) 2 [.float .f64 n.y.lo, .float .f64 n.y.hi] ∧ CellsL wd153 (g8) 0 [.float .f64 p2.lo, .float .f64 p2.hi] ∧ CellsL wd153 (g51) 0 [.float .f64 p6.lo, .float .f64 p6.hi] ∧ CellsL wd153 (g91) 0 [.float .f64 p8.lo, .float .f64 p8.hi] := ⟨trivial, (kb K143 D154).cellsL 2 [.float .f64 n.y.lo, .float .f64 n.y.hi] rfl, (kb K146 D154).cellsL 0 [.float .f64 p2.lo, .float .f64 p2.hi] rfl, (kb K147 D154).cellsL 0 [.float .f64 p6.lo, .float .f64 p6.hi] rfl, (kb K148 D154).cellsL 0 [.float .f64 p8.lo, .float .f64 p8.hi] rfl⟩
  refine tk 0 (bm 14 1) ?vq156 ?aq156 rfl (by kernel_rfl) (fun _ _ _ h => h) (by kernel_rfl) ?hq156 ?pq156 hS155 ?rq156
  case hq156 => (intro w hS; dsimp only [CellsL, al, vl, Nat.reduceAdd] at hS; go_simp; try with_reducible rfl)
  case pq156 => (go_simp; try with_reducible rfl)
  refine tk 1 (bm 14 3) ?vq157 ?aq157 rfl (by kernel_rfl) (fun _ _ _ h => h) (by kernel_rfl) ?hq157 ?pq157 hS155 ?rq157
  case hq157 => (intro w hS; dsimp only [CellsL, al, vl, Nat.reduceAdd] at hS; go_simp; try with_reducible rfl)
  case pq157 => (go_simp; try with_reducible rfl)
  refine tk 2 (bm 14 7) ?vq158 ?aq158 rfl (by kernel_rfl) (fun _ _ _ h => h) (by kernel_rfl) ?hq158 ?pq158 hS155 ?rq158
  case hq158 => (intro w hS; go_simp; try with_reducible rfl)
  case pq158 => (go_simp; try with_reducible rfl)
  refine tk 3 (bm 14 15) ?vq159 ?aq159 rfl (by kernel_rfl) (fun _ _ _ h => h) (by kernel_rfl) ?hq159 ?pq159 hS155 ?rq159
  case hq159 => (intro w hS; dsimp only [CellsL, al, vl, Nat.reduceAdd] at hS; go_simp; try with_reducible rfl)
  case pq159 => (go_simp; try with_reducible rfl)
  refine tk 5 (bm 14 47) ?vq160 ?aq160 rfl (by kernel_rfl) (fun _ _ _ h => h) (by kernel_rfl) ?hq160 ?pq160 hS155 ?rq160
  case hq160 => (intro w hS; dsimp only [CellsL, al, vl, Nat.reduceAdd] at hS; go_simp; try with_reducible rfl)
  case pq160 => (go_simp; try with_reducible rfl)
  refine tk 8 (bm 14 303) ?vq161 ?aq161 rfl (by kernel_rfl) (fun _ _ _ h => h) (by kernel_rfl) ?hq161 ?pq161 hS155 ?rq161
  case hq161 => (intro w hS; go_simp; try with_reducible rfl)
  case pq161 => (go_simp; try with_reducible rfl)
  refine tk 9 (bm 14 815) ?vq162 ?aq162 rfl (by kernel_rfl) (fun _ _ _ h => h) (by kernel_rfl) ?hq162 ?pq162 hS155 ?rq162
  case hq162 => (intro w hS; dsimp only [CellsL, al, vl, Nat.reduceAdd] at hS; go_simp; try with_reducible rfl)
  case pq162 => (go_simp; try with_reducible rfl)
  have HS163 := Lib.hid (show ∀ w', Below V140.heap.size V140 w' → (True ∧ CellsL w' (w.heap.size) 2 [.float .f64 n.y.lo, .float .f64 n.y.hi] ∧ CellsL w' (g8) 0 [.float .f64 p2.lo, .float .f64 p2.hi] ∧ CellsL w' (g51) 0 [.float .f64 p6.lo, .float .f64 p6.hi] ∧ CellsL w' (g91) 0 [.float .f64 p8.lo, .float .f64 p8.hi]) from fun w' b => ⟨trivial, (K143.out.below b K143.out.lt).cellsL 2 [.float .f64 n.y.lo, .float .f64 n.y.hi] rfl, (K146.out.below b K146.out.lt).cellsL 0 [.float .f64 p2.lo, .float .f64 p2.hi] rfl, (K147.out.below b K147.out.lt).cellsL 0 [.float .f64 p6.lo, .float .f64 p6.hi] rfl, (K148.out.below b K148.out.lt).cellsL 0 [.float .f64 p8.lo, .float .f64 p8.hi] rfl⟩)
  refine wpAnyH_sets2 (N := 14) (stop := 8191) (F := 1) (m := 815) (R := [4, 6, 7, 10, 11, 12]) (M := [815, 831, 4911, 895, 4927, 1023, 4991, 2047, 5119, 4095, 6143, 8191]) (fun i => if i = 4 then 8 else if i = 6 then 48 else if i = 7 then 66 else if i = 10 then 640 else if i = 11 then 1153 else if i = 12 then 0 else 0) (fun a0 m a w9 => ∃ (v4 v6 v7 v10 v11 p12_ : Value) (g12_ : Nat), a = ((((((a0.put (some 58) v4).put (some 60) v6).put (some 61) v7).put (some 64) v10).put (some 65) v11).put (some 11) p12_) ∧ Below V140.heap.size V140 w9 ∧ (m.testBit 4 = true → v4 = Value.agg #[.float .f64 p17.lo, .float .f64 p17.hi]) ∧ (m.testBit 6 = true → v6 = Value.agg #[.float .f64 p18.lo, .float .f64 p18.hi]) ∧ (m.testBit 7 = true → v7 = Value.agg #[.float .f64 p19.lo, .float .f64 p19.hi]) ∧ (m.testBit 10 = true → v10 = Value.agg #[.float .f64 p20.lo, .float .f64 p20.hi]) ∧ (m.testBit 11 = true → v11 = Value.agg #[.float .f64 p8.lo, .float .f64 p8.hi, .float .f64 p19.lo, .float .f64 p19.hi, .float .f64 p20.lo, .float .f64 p20.hi]) ∧ (m.testBit 12 = true → p12_ = .pointer (some ⟨g12_, 0, none⟩) ∧ Blk w9 g12_ 26 #[.float .f64 0, .float .f64 0, .float .f64 0, .float .f64 0, .float .f64 0, .float .f64 0] ∧ V140.heap.size ≤ g12_)) (by kernel_rfl) (by kernel_rfl) (by kernel_rfl) (by kernel_rfl) ?st12 ?sp12 ?re12
  case st12 =>
    exact ⟨undef, undef, undef, undef, undef, undef, 0, by go_simp, D154.out, fun h => absurd h (by decide), fun h => absurd h (by decide), fun h => absurd h (by decide), fun h => absurd h (by decide), fun h => absurd h (by decide), fun h => absurd h (by decide)⟩
  case sp12 =>
    intro m a' w9 i hi hm hd hJ
    obtain ⟨v4, v6, v7, v10, v11, p12_, g12_, rfl, hb0, cl4, cl6, cl7, cl10, cl11, ql12⟩ := hJ
    have CL4 := Lib.hid cl4
    have CL6 := Lib.hid cl6
    have CL7 := Lib.hid cl7
    have CL10 := Lib.hid cl10
    have CL11 := Lib.hid cl11
    have QL12 := Lib.hid ql12
    have HB0 := Lib.hid hb0
    clear cl4 cl6 cl7 cl10 cl11 ql12 hb0 hS155
    simp only [List.mem_cons, List.not_mem_nil, or_false] at hi
    rcases hi with rfl | rfl | rfl | rfl | rfl | rfl
    · refine wpOp_at rfl (by kernel_rfl) (fun K hK => ?_)
      have hd := fun j => @tb_of _ _ j hd
      go_simp
      go_at_call 93
      refine (C17.out _).mono ?_
      rintro r w10 ⟨rfl, hb⟩
      dsimp only
      have hb1 := below_step HB0.out hb
      exact hK _ _ ⟨HS163.out _ hb1, _, v6, v7, v10, v11, p12_, g12_, by go_simp, hb1, fun _ => rfl, fun h => CL6.out (by rwa [tb_ne (by decide)] at h), fun h => CL7.out (by rwa [tb_ne (by decide)] at h), fun h => CL10.out (by rwa [tb_ne (by decide)] at h), fun h => CL11.out (by rwa [tb_ne (by decide)] at h), fun h => ⟨(QL12.out (by rwa [tb_ne (by decide)] at h)).1, (QL12.out (by rwa [tb_ne (by decide)] at h)).2.1.below hb (QL12.out (by rwa [tb_ne (by decide)] at h)).2.1.lt, (QL12.out (by rwa [tb_ne (by decide)] at h)).2.2⟩⟩
    · refine wpOp_at rfl (by kernel_rfl) (fun K hK => ?_)
      have hd := fun j => @tb_of _ _ j hd
      obtain rfl := CL4.out (hd _ (by decide))
      go_simp
      go_at_call 78
      refine (C18.out _).mono ?_
      rintro r w10 ⟨rfl, hb⟩
      dsimp only
      have hb1 := below_step HB0.out hb
      exact hK _ _ ⟨HS163.out _ hb1, _, _, v7, v10, v11, p12_, g12_, by go_simp, hb1, fun _ => rfl, fun _ => rfl, fun h => CL7.out (by rwa [tb_ne (by decide)] at h), fun h => CL10.out (by rwa [tb_ne (by decide)] at h), fun h => CL11.out (by rwa [tb_ne (by decide)] at h), fun h => ⟨(QL12.out (by rwa [tb_ne (by decide)] at h)).1, (QL12.out (by rwa [tb_ne (by decide)] at h)).2.1.below hb (QL12.out (by rwa [tb_ne (by decide)] at h)).2.1.lt, (QL12.out (by rwa [tb_ne (by decide)] at h)).2.2⟩⟩
    · refine wpOp_at rfl (by kernel_rfl) (fun K hK => ?_)
      have hd := fun j => @tb_of _ _ j hd
      obtain rfl := CL6.out (hd _ (by decide))
      go_simp
      go_at_call 75
      refine (C19.out _).mono ?_
      rintro r w10 ⟨rfl, hb⟩
      dsimp only
      have hb1 := below_step HB0.out hb
      exact hK _ _ ⟨HS163.out _ hb1, v4, _, _, v10, v11, p12_, g12_, by go_simp, hb1, fun h => CL4.out (by rwa [tb_ne (by decide)] at h), fun _ => rfl, fun _ => rfl, fun h => CL10.out (by rwa [tb_ne (by decide)] at h), fun h => CL11.out (by rwa [tb_ne (by decide)] at h), fun h => ⟨(QL12.out (by rwa [tb_ne (by decide)] at h)).1, (QL12.out (by rwa [tb_ne (by decide)] at h)).2.1.below hb (QL12.out (by rwa [tb_ne (by decide)] at h)).2.1.lt, (QL12.out (by rwa [tb_ne (by decide)] at h)).2.2⟩⟩
    · refine wpOp_at rfl (by kernel_rfl) (fun K hK => ?_)
      have hd := fun j => @tb_of _ _ j hd
      obtain rfl := CL7.out (hd _ (by decide))
      go_simp
      go_at_call 83
      refine (C20.out _).mono ?_
      rintro r w10 ⟨rfl, hb⟩
      dsimp only
      have hb1 := below_step HB0.out hb
      exact hK _ _ ⟨HS163.out _ hb1, v4, v6, _, _, v11, p12_, g12_, by go_simp, hb1, fun h => CL4.out (by rwa [tb_ne (by decide)] at h), fun h => CL6.out (by rwa [tb_ne (by decide)] at h), fun _ => rfl, fun _ => rfl, fun h => CL11.out (by rwa [tb_ne (by decide)] at h), fun h => ⟨(QL12.out (by rwa [tb_ne (by decide)] at h)).1, (QL12.out (by rwa [tb_ne (by decide)] at h)).2.1.below hb (QL12.out (by rwa [tb_ne (by decide)] at h)).2.1.lt, (QL12.out (by rwa [tb_ne (by decide)] at h)).2.2⟩⟩
    · refine wpOp_at rfl (by kernel_rfl) (fun K hK => ?_)
      have hd := fun j => @tb_of _ _ j hd
      obtain rfl := CL7.out (hd _ (by decide))
      obtain rfl := CL10.out (hd _ (by decide))
      have hb1 := HB0.out
      go_simp
      exact hK _ _ ⟨HS163.out _ hb1, v4, v6, _, _, _, p12_, g12_, by go_simp, hb1, fun h => CL4.out (by rwa [tb_ne (by decide)] at h), fun h => CL6.out (by rwa [tb_ne (by decide)] at h), fun _ => rfl, fun _ => rfl, fun _ => rfl, fun h => ⟨(QL12.out (by rwa [tb_ne (by decide)] at h)).1, (QL12.out (by rwa [tb_ne (by decide)] at h)).2.1, (QL12.out (by rwa [tb_ne (by decide)] at h)).2.2⟩⟩
    · refine wpOp_at rfl (by kernel_rfl) (fun K hK => ?_)
      have hd := fun j => @tb_of _ _ j hd
      go_simp
      have hb1 := below_more HB0.out (.cells #[.float .f64 0, .float .f64 0, .float .f64 0, .float .f64 0, .float .f64 0, .float .f64 0] 26)
      exact hK _ _ ⟨HS163.out _ hb1, v4, v6, v7, v10, v11, .pointer (some ⟨w9.heap.size, 0, none⟩), w9.heap.size, by go_simp, hb1, fun h => CL4.out (by rwa [tb_ne (by decide)] at h), fun h => CL6.out (by rwa [tb_ne (by decide)] at h), fun h => CL7.out (by rwa [tb_ne (by decide)] at h), fun h => CL10.out (by rwa [tb_ne (by decide)] at h), fun h => CL11.out (by rwa [tb_ne (by decide)] at h), fun _ => ⟨rfl, Blk.new_at _ _ _ rfl, HB0.out.size⟩⟩
  clear hS155 D154 HS163
  intro a' W180 hJ
  obtain ⟨v4, v6, v7, v10, v11, p12_, g181, rfl, hb0, cl4, cl6, cl7, cl10, cl11, ql12⟩ := hJ
  obtain rfl := cl4 (by decide)
  obtain rfl := cl6 (by decide)
  obtain rfl := cl7 (by decide)
  obtain rfl := cl10 (by decide)
  obtain rfl := cl11 (by decide)
  obtain ⟨rfl, kk12, ll12⟩ := ql12 (by decide)
  have D166 := Lib.hid hb0
  clear hb0
  refine wpAnyH_frame (a' := ?frq165) ?feq165 ?fgq165
  case feq165 => (go_simp; try with_reducible rfl)
  have K168 := Lib.hid ((kb K143 D166) : Blk W180 (w.heap.size) 26 (vc n))
  have K169 := Lib.hid ((kb K144 D166) : Blk W180 (w.heap.size + 1) 26 #[.float .f64 0, .float .f64 0, .float .f64 0, .float .f64 0, .float .f64 0, .float .f64 0])
  have K170 := Lib.hid ((kb K145 D166) : Blk W180 (w.heap.size + 1 + 1) 26 #[.float .f64 0, .float .f64 0, .float .f64 0, .float .f64 0, .float .f64 0, .float .f64 0])
  have K171 := Lib.hid ((kb K146 D166) : Blk W180 (g8) 24 #[.float .f64 p2.lo, .float .f64 p2.hi])
  have K172 := Lib.hid ((kb K147 D166) : Blk W180 (g51) 24 #[.float .f64 p6.lo, .float .f64 p6.hi])
  have K173 := Lib.hid ((kb K148 D166) : Blk W180 (g91) 24 #[.float .f64 p8.lo, .float .f64 p8.hi])
  have K174 := Lib.hid ((kb K149 D166) : Blk W180 (g137) 26 #[.float .f64 p13.lo, .float .f64 p13.hi, .float .f64 p14.lo, .float .f64 p14.hi, .float .f64 p16.lo, .float .f64 p16.hi])
  have K175 := Lib.hid kk12
  clear kk12
  have HB178 := Lib.hid (below_step HB150.out D166.out)
  have Y177 := Lib.hid (show w.heap.size ≤ g181 ∧ w.heap.size < g181 ∧ w.heap.size + 1 < g181 ∧ w.heap.size + 1 + 1 < g181 ∧ g8 < g181 ∧ g51 < g181 ∧ g91 < g181 ∧ g137 < g181 from ⟨Nat.le_trans HB150.out.size ll12, Nat.lt_of_lt_of_le K143.out.lt ll12, Nat.lt_of_lt_of_le K144.out.lt ll12, Nat.lt_of_lt_of_le K145.out.lt ll12, Nat.lt_of_lt_of_le K146.out.lt ll12, Nat.lt_of_lt_of_le K147.out.lt ll12, Nat.lt_of_lt_of_le K148.out.lt ll12, Nat.lt_of_lt_of_le K149.out.lt ll12⟩)
  have Y179 := Lib.hid (And.intro Y135.out Y177.out)
  clear Y135 Y177
  clear K143 K144 K145 K146 K147 K148 K149 ll12 HB150
  have D182 := Lib.hid (Below.refl W180.heap.size W180)
  clear D166
  have hS183 : True ∧ CellsL W180 (w.heap.size) 2 [.float .f64 n.y.lo, .float .f64 n.y.hi] ∧ CellsL W180 (g8) 0 [.float .f64 p2.lo, .float .f64 p2.hi] ∧ CellsL W180 (g51) 0 [.float .f64 p6.lo, .float .f64 p6.hi] ∧ CellsL W180 (g91) 0 [.float .f64 p8.lo, .float .f64 p8.hi] := ⟨trivial, (kb K168 D182).cellsL 2 [.float .f64 n.y.lo, .float .f64 n.y.hi] rfl, (kb K171 D182).cellsL 0 [.float .f64 p2.lo, .float .f64 p2.hi] rfl, (kb K172 D182).cellsL 0 [.float .f64 p6.lo, .float .f64 p6.hi] rfl, (kb K173 D182).cellsL 0 [.float .f64 p8.lo, .float .f64 p8.hi] rfl⟩
  refine wpAnyH_oneM (i := 13) (l' := bm 14 16383) rfl (by kernel_rfl) (by kernel_rfl) (by kernel_rfl) (fun K hK => ?_)
  have f186 := (kb K175 D182)
  obtain ⟨V184, hV185⟩ : ∃ V, World.setRow W180 (g181) #[.float .f64 p8.lo, .float .f64 p8.hi, .float .f64 p19.lo, .float .f64 p19.hi, .float .f64 p20.lo, .float .f64 p20.hi] = V := ⟨_, rfl⟩
  have K187 := kfr hV185 K168 D182 (by have := Y179.out; omega)
  have K188 := kfr hV185 K169 D182 (by have := Y179.out; omega)
  have K189 := kfr hV185 K170 D182 (by have := Y179.out; omega)
  have K190 := kfr hV185 K171 D182 (by have := Y179.out; omega)
  have K191 := kfr hV185 K172 D182 (by have := Y179.out; omega)
  have K192 := kfr hV185 K173 D182 (by have := Y179.out; omega)
  have K193 := kfr hV185 K174 D182 (by have := Y179.out; omega)
  have K194 := ksr hV185 K175 D182
  have HB195 := hbr hV185 HB178 D182 (by have := Y179.out; omega)
  have D196 := dr V184
  clear K168 K169 K170 K171 K172 K173 K174 K175 HB178 D182
  refine wp_store_row 26 _ _ rfl (g181) #[.float .f64 p8.lo, .float .f64 p8.hi, .float .f64 p19.lo, .float .f64 p19.hi, .float .f64 p20.lo, .float .f64 p20.hi] rfl rfl _ _ f186 (by rw [info_V3]; rfl) rfl (by kernel_rfl) ?_
  rw [hV185]
  go_simp
  clear hV185 f186
  have hS197 : True ∧ CellsL V184 (w.heap.size) 2 [.float .f64 n.y.lo, .float .f64 n.y.hi] ∧ CellsL V184 (g8) 0 [.float .f64 p2.lo, .float .f64 p2.hi] ∧ CellsL V184 (g51) 0 [.float .f64 p6.lo, .float .f64 p6.hi] ∧ CellsL V184 (g91) 0 [.float .f64 p8.lo, .float .f64 p8.hi] := ⟨trivial, (kb K187 D196).cellsL 2 [.float .f64 n.y.lo, .float .f64 n.y.hi] rfl, (kb K190 D196).cellsL 0 [.float .f64 p2.lo, .float .f64 p2.hi] rfl, (kb K191 D196).cellsL 0 [.float .f64 p6.lo, .float .f64 p6.hi] rfl, (kb K192 D196).cellsL 0 [.float .f64 p8.lo, .float .f64 p8.hi] rfl⟩
  refine hK _ _ hS197 ?_
  clear hK K hS183
  refine wpAnyH_done (by kernel_rfl) ?_ _
  clear hS197
  go_wp2_with fail
  refine wp_region_held (S := (fun w' => True ∧ Blk w' (g137) 26 #[.float .f64 p13.lo, .float .f64 p13.hi, .float .f64 p14.lo, .float .f64 p14.hi, .float .f64 p16.lo, .float .f64 p16.hi] ∧ Blk w' (g181) 26 #[.float .f64 p8.lo, .float .f64 p8.hi, .float .f64 p19.lo, .float .f64 p19.hi, .float .f64 p20.lo, .float .f64 p20.hi])) (by kernel_rfl) ?_
  change wpAnyH _ _ _ _ _ _ _ _ (World.drew _)
  obtain ⟨wd198, hwd⟩ : ∃ x, x = World.drew V184 := ⟨_, rfl⟩
  rw [← hwd]
  have D199 := Lib.hid (hwd ▸ Below.drew D196.out : Below V184.heap.size V184 wd198)
  clear D196 hwd
  have hS200 : True ∧ Blk wd198 (g137) 26 #[.float .f64 p13.lo, .float .f64 p13.hi, .float .f64 p14.lo, .float .f64 p14.hi, .float .f64 p16.lo, .float .f64 p16.hi] ∧ Blk wd198 (g181) 26 #[.float .f64 p8.lo, .float .f64 p8.hi, .float .f64 p19.lo, .float .f64 p19.hi, .float .f64 p20.lo, .float .f64 p20.hi] := ⟨trivial, (kb K193 D199), (kb K194 D199)⟩
  refine tkL 0 (bm 6 1) ?aq201 rfl (by kernel_rfl) (fun _ _ _ h => h) (by kernel_rfl) rfl rfl (fun _ hS => hS.2.1) (by rw [info_V3]; rfl) Try.underlying26 rfl ?pq201 hS200 ?rq201
  case pq201 => (go_simp; try with_reducible rfl)
  refine tkL 1 (bm 6 3) ?aq202 rfl (by kernel_rfl) (fun _ _ _ h => h) (by kernel_rfl) rfl rfl (fun _ hS => hS.2.2) (by rw [info_V3]; rfl) Try.underlying26 rfl ?pq202 hS200 ?rq202
  case pq202 => (go_simp; try with_reducible rfl)
  refine tk 2 (bm 6 7) ?vq203 ?aq203 rfl (by kernel_rfl) (fun _ _ _ h => h) (by kernel_rfl) ?hq203 ?pq203 hS200 ?rq203
  case hq203 => (intro w hS; go_simp; try with_reducible rfl)
  case pq203 => (go_simp; try with_reducible rfl)
  refine wpAnyH_oneN (i := 3) (l' := bm 6 15) rfl (by kernel_rfl) (by kernel_rfl) (by kernel_rfl) (fun K hK => ?_)
  have f206 := (kb K188 D199)
  obtain ⟨V204, hV205⟩ : ∃ V, World.setRow wd198 (w.heap.size + 1) #[.float .f64 p13.lo, .float .f64 p13.hi, .float .f64 p14.lo, .float .f64 p14.hi, .float .f64 p16.lo, .float .f64 p16.hi] = V := ⟨_, rfl⟩
  have K207 := kfr hV205 K187 D199 (by have := Y179.out; omega)
  have K208 := ksr hV205 K188 D199
  have K209 := kfr hV205 K189 D199 (by have := Y179.out; omega)
  have K210 := kfr hV205 K190 D199 (by have := Y179.out; omega)
  have K211 := kfr hV205 K191 D199 (by have := Y179.out; omega)
  have K212 := kfr hV205 K192 D199 (by have := Y179.out; omega)
  have K213 := kfr hV205 K193 D199 (by have := Y179.out; omega)
  have K214 := kfr hV205 K194 D199 (by have := Y179.out; omega)
  have HB215 := hbr hV205 HB195 D199 (by have := Y179.out; omega)
  have D216 := dr V204
  clear K187 K188 K189 K190 K191 K192 K193 K194 HB195 D199
  refine wp_store_row 26 _ _ rfl (w.heap.size + 1) #[.float .f64 p13.lo, .float .f64 p13.hi, .float .f64 p14.lo, .float .f64 p14.hi, .float .f64 p16.lo, .float .f64 p16.hi] rfl rfl _ _ f206 (by rw [info_V3]; rfl) rfl (by kernel_rfl) ?_
  rw [hV205]
  go_simp
  clear hV205 f206
  have hS217 : True ∧ Blk V204 (g137) 26 #[.float .f64 p13.lo, .float .f64 p13.hi, .float .f64 p14.lo, .float .f64 p14.hi, .float .f64 p16.lo, .float .f64 p16.hi] ∧ Blk V204 (g181) 26 #[.float .f64 p8.lo, .float .f64 p8.hi, .float .f64 p19.lo, .float .f64 p19.hi, .float .f64 p20.lo, .float .f64 p20.hi] := ⟨trivial, (kb K213 D216), (kb K214 D216)⟩
  refine hK _ _ hS217 ?_
  clear hK K hS200
  refine wpAnyH_oneN (i := 4) (l' := bm 6 31) rfl (by kernel_rfl) (by kernel_rfl) (by kernel_rfl) (fun K hK => ?_)
  have f220 := (kb K209 D216)
  obtain ⟨V218, hV219⟩ : ∃ V, World.setRow V204 (w.heap.size + 1 + 1) #[.float .f64 p8.lo, .float .f64 p8.hi, .float .f64 p19.lo, .float .f64 p19.hi, .float .f64 p20.lo, .float .f64 p20.hi] = V := ⟨_, rfl⟩
  have K221 := kfr hV219 K207 D216 (by have := Y179.out; omega)
  have K222 := kfr hV219 K208 D216 (by have := Y179.out; omega)
  have K223 := ksr hV219 K209 D216
  have K224 := kfr hV219 K210 D216 (by have := Y179.out; omega)
  have K225 := kfr hV219 K211 D216 (by have := Y179.out; omega)
  have K226 := kfr hV219 K212 D216 (by have := Y179.out; omega)
  have K227 := kfr hV219 K213 D216 (by have := Y179.out; omega)
  have K228 := kfr hV219 K214 D216 (by have := Y179.out; omega)
  have HB229 := hbr hV219 HB215 D216 (by have := Y179.out; omega)
  have D230 := dr V218
  clear K207 K208 K209 K210 K211 K212 K213 K214 HB215 D216
  refine wp_store_row 26 _ _ rfl (w.heap.size + 1 + 1) #[.float .f64 p8.lo, .float .f64 p8.hi, .float .f64 p19.lo, .float .f64 p19.hi, .float .f64 p20.lo, .float .f64 p20.hi] rfl rfl _ _ f220 (by rw [info_V3]; rfl) rfl (by kernel_rfl) ?_
  rw [hV219]
  go_simp
  clear hV219 f220
  have hS231 : True ∧ Blk V218 (g137) 26 #[.float .f64 p13.lo, .float .f64 p13.hi, .float .f64 p14.lo, .float .f64 p14.hi, .float .f64 p16.lo, .float .f64 p16.hi] ∧ Blk V218 (g181) 26 #[.float .f64 p8.lo, .float .f64 p8.hi, .float .f64 p19.lo, .float .f64 p19.hi, .float .f64 p20.lo, .float .f64 p20.hi] := ⟨trivial, (kb K227 D230), (kb K228 D230)⟩
  refine hK _ _ hS231 ?_
  clear hK K hS217
  refine tk 5 (bm 6 63) ?vq232 ?aq232 rfl (by kernel_rfl) (fun _ _ _ h => h) (by kernel_rfl) ?hq232 ?pq232 hS231 ?rq232
  case hq232 => (intro w hS; go_simp; try with_reducible rfl)
  case pq232 => (go_simp; try with_reducible rfl)
  refine wpAnyH_done (by kernel_rfl) ?_ _
  clear hS231
  go_wp2_with fail
  (try simp only [Exit.inBlock, Exit.then])
  exact bodyPost_ret (res_cct rfl _ _ (w.heap.size + 1) #[.float .f64 p13.lo, .float .f64 p13.hi, .float .f64 p14.lo, .float .f64 p14.hi, .float .f64 p16.lo, .float .f64 p16.hi] (w.heap.size + 1 + 1) #[.float .f64 p8.lo, .float .f64 p8.hi, .float .f64 p19.lo, .float .f64 p19.hi, .float .f64 p20.lo, .float .f64 p20.hi] rfl (kb K222 D230) (by rw [info_V3]; rfl) Try.underlying26 rfl rfl (kb K223 D230) (by rw [info_V3]; rfl) Try.underlying26 rfl) rfl ⟨rfl, below_step HB229.out D230.out⟩
theorem frame_any (n : V3) (w : World) : Calls Try.prog 54 #[vval n] w fun r w' => r = .returned (.tuple #[vval (frT (frS n) n), vval (frU (frS n) n), .int .i64 (frQ n : Nat)]) ∧ Below w.heap.size w w' := by
  have h3 : posS (negS n.z) = 1 ∨ posS (negS n.z) = 0 ∨ posS (negS n.z) = 2 := by unfold posS; split <;> (try split) <;> simp
  rcases h3 with h | h | h
  · rw [show frS n = ofS 13830554455654793216 by unfold frS; rw [h]; rfl, show frQ n = 1 by unfold frQ; rw [h]; rfl]; exact frame_1 n h w
  · rw [show frS n = ofS 4607182418800017408 by unfold frS; rw [h]; rfl, show frQ n = 1 by unfold frQ; rw [h]; rfl]; exact frame_0 n h w
  · rw [show frS n = ofS 4607182418800017408 by unfold frS; rw [h]; rfl, show frQ n = 2 by unfold frQ; rw [h]; rfl]; exact frame_2 n h w
end Go.Proofs.Ytdgaaceebghcpaa
