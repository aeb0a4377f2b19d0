/- The walks of transformations: Back (gen_uc.py). -/
import Derived.Test.YtdgaaceebghcpaaZUc
set_option linter.unusedVariables false
set_option linter.unusedSimpArgs false
namespace Go.Proofs.Ytdgaaceebghcpaa
open Go.RowKit Fl

theorem hasB_0 (a : Sp) : hasB a 0 = has0 a := by
  rw [has_nn (by decide) (by decide)]
  unfold has0
  rw [show Z 0 = 0 by decide]
set_option maxRecDepth 100000 in
set_option maxHeartbeats 8000000 in
theorem backA_h (m : Af) (h1 : has0 (afDet m) = true) (w : World) : Calls Try.prog 27 #[Value.agg #[.float .f64 m.a.x.lo, .float .f64 m.a.x.hi, .float .f64 m.a.y.lo, .float .f64 m.a.y.hi, .float .f64 m.a.z.lo, .float .f64 m.a.z.hi, .float .f64 m.b.x.lo, .float .f64 m.b.x.hi, .float .f64 m.b.y.lo, .float .f64 m.b.y.hi, .float .f64 m.b.z.lo, .float .f64 m.b.z.hi, .float .f64 m.c.x.lo, .float .f64 m.c.x.hi, .float .f64 m.c.y.lo, .float .f64 m.c.y.hi, .float .f64 m.c.z.lo, .float .f64 m.c.z.hi, .float .f64 m.t.x.lo, .float .f64 m.t.x.hi, .float .f64 m.t.y.lo, .float .f64 m.t.y.hi, .float .f64 m.t.z.lo, .float .f64 m.t.z.hi]] w fun r w' => r = .returned (.tuple #[.agg #[.float .f64 0, .float .f64 0, .float .f64 0, .float .f64 0, .float .f64 0, .float .f64 0, .float .f64 0, .float .f64 0, .float .f64 0, .float .f64 0, .float .f64 0, .float .f64 0, .float .f64 0, .float .f64 0, .float .f64 0, .float .f64 0, .float .f64 0, .float .f64 0, .float .f64 0, .float .f64 0, .float .f64 0, .float .f64 0, .float .f64 0, .float .f64 0], .int .i64 40]) ∧ Below w.heap.size w w' := by
  have C0 := Lib.hid (fun w => detA_any m w)
  obtain ⟨p0, hp0⟩ : ∃ z_, afDet m = z_ := ⟨_, rfl⟩
  rw [hp0] at C0
  have hl : afDet m = p0 := by rw [← hp0]
  rw [hl] at h1
  clear hl
  have C1 := Lib.hid (fun w => has_sp p0 0 w)
  rw [hasB_0, h1] at C1
  clear hp0
  go_enter Try.func27, Try.ntmps27
  go_wp2_with (refine wl_load (by kernel_rfl) rfl rfl ((Blk.new_at _ _ _ rfl).alloc _) (by rw [info_Affine]; rfl) Try.underlying29 rfl ?_)
  obtain ⟨W, hW, K0, K1, hB, hz⟩ := bx2 w 29 29 (ac m) #[.float .f64 0, .float .f64 0, .float .f64 0, .float .f64 0, .float .f64 0, .float .f64 0, .float .f64 0, .float .f64 0, .float .f64 0, .float .f64 0, .float .f64 0, .float .f64 0, .float .f64 0, .float .f64 0, .float .f64 0, .float .f64 0, .float .f64 0, .float .f64 0, .float .f64 0, .float .f64 0, .float .f64 0, .float .f64 0, .float .f64 0, .float .f64 0]
  rw [← hW]
  have K0 := Lib.hid K0
  have K1 := Lib.hid K1
  have HB := Lib.hid hB
  clear hW hB hz
  have D1 := dr W
  refine (C0.out _).mono ?_
  rintro r w2 ⟨rfl, hb⟩
  have D3 := ds D1 hb
  clear D1
  clear hb
  obtain ⟨g4, hg6⟩ : ∃ g, w2.heap.size = g := ⟨_, rfl⟩
  have Y8 := Lib.hid (show w.heap.size < g4 ∧ w.heap.size + 1 < g4 by rw [← hg6]; exact ⟨(kb K0 D3).lt, (kb K1 D3).lt⟩)
  obtain ⟨V5, hV7⟩ : ∃ V, w2.alloc (.cells #[.float .f64 0, .float .f64 0] 24) = V := ⟨_, rfl⟩
  have K9 := ka hV7 K0 D3
  have K10 := ka hV7 K1 D3
  have K11 := kn hV7 hg6
  have HB12 := hba hV7 HB D3
  have D13 := dr V5
  clear K0 K1 HB D3
  have f16 := (kb K11 D13).cellsL 0 [.float .f64 0, .float .f64 0] rfl
  dsimp only [CellsL, al, vl, Nat.reduceAdd] at f16
  have u17 := (kb K11 D13).unfrozen
  obtain ⟨V14, hV15⟩ : ∃ V, setCells V5 (g4) 0 [.float .f64 p0.lo, .float .f64 p0.hi] = V := ⟨_, rfl⟩
  have hv18 := hV15
  simp only [setCells, Nat.reduceAdd] at hv18
  have K19 := kf hV15 K9 D13 (by have := Y8.out; omega)
  have K20 := kf hV15 K10 D13 (by have := Y8.out; omega)
  have K21 := Lib.hid (show Blk V14 (g4) 24 #[.float .f64 p0.lo, .float .f64 p0.hi] from (ks hV15 K11 D13).out)
  have HB22 := hbs hV15 HB12 D13 (by have := Y8.out; omega)
  have D23 := dr V14
  clear K9 K10 K11 HB12 D13
  have hq24 := (kb K21 D23).cellsL 0 [.float .f64 p0.lo, .float .f64 p0.hi] rfl
  dsimp only [CellsL, al, vl, Nat.reduceAdd] at hq24
  go_wp2_with fail
  clear hg6 hV7 hV15 f16 u17 hv18 hq24
  refine (C1.out _).mono ?_
  rintro r w25 ⟨rfl, hb⟩
  have D26 := ds D23 hb
  clear D23
  clear hb
  have f29 := (kb K20 D26)
  obtain ⟨V27, hV28⟩ : ∃ V, World.setRow w25 (w.heap.size + 1) #[.float .f64 0, .float .f64 0, .float .f64 0, .float .f64 0, .float .f64 0, .float .f64 0, .float .f64 0, .float .f64 0, .float .f64 0, .float .f64 0, .float .f64 0, .float .f64 0, .float .f64 0, .float .f64 0, .float .f64 0, .float .f64 0, .float .f64 0, .float .f64 0, .float .f64 0, .float .f64 0, .float .f64 0, .float .f64 0, .float .f64 0, .float .f64 0] = V := ⟨_, rfl⟩
  have K30 := kfr hV28 K19 D26 (by have := Y8.out; omega)
  have K31 := ksr hV28 K20 D26
  have K32 := kfr hV28 K21 D26 (by have := Y8.out; omega)
  have HB33 := hbr hV28 HB22 D26 (by have := Y8.out; omega)
  have D34 := dr V27
  clear K19 K20 K21 HB22 D26
  go_wp2_with (refine wpList_store_row rfl 29 _ _ rfl (w.heap.size + 1) #[.float .f64 0, .float .f64 0, .float .f64 0, .float .f64 0, .float .f64 0, .float .f64 0, .float .f64 0, .float .f64 0, .float .f64 0, .float .f64 0, .float .f64 0, .float .f64 0, .float .f64 0, .float .f64 0, .float .f64 0, .float .f64 0, .float .f64 0, .float .f64 0, .float .f64 0, .float .f64 0, .float .f64 0, .float .f64 0, .float .f64 0, .float .f64 0] rfl rfl _ _ f29 (by rw [info_Affine]; rfl) rfl (by kernel_rfl) ?_; rw [hV28])
  clear hV28 f29
  (try simp only [Exit.inBlock, Exit.then])
  exact bodyPost_ret (res_ct rfl _ _ (w.heap.size + 1) #[.float .f64 0, .float .f64 0, .float .f64 0, .float .f64 0, .float .f64 0, .float .f64 0, .float .f64 0, .float .f64 0, .float .f64 0, .float .f64 0, .float .f64 0, .float .f64 0, .float .f64 0, .float .f64 0, .float .f64 0, .float .f64 0, .float .f64 0, .float .f64 0, .float .f64 0, .float .f64 0, .float .f64 0, .float .f64 0, .float .f64 0, .float .f64 0] rfl (kb K31 D34) (by rw [info_Affine]; rfl) Try.underlying29 rfl) rfl ⟨rfl, below_step HB33.out D34.out⟩
set_option maxRecDepth 100000 in
set_option maxHeartbeats 8000000 in
theorem backA_w (m : Af) (h1 : has0 (afDet m) = false) (h2 : (afDet m).wide = true) (w : World) : Calls Try.prog 27 #[Value.agg #[.float .f64 m.a.x.lo, .float .f64 m.a.x.hi, .float .f64 m.a.y.lo, .float .f64 m.a.y.hi, .float .f64 m.a.z.lo, .float .f64 m.a.z.hi, .float .f64 m.b.x.lo, .float .f64 m.b.x.hi, .float .f64 m.b.y.lo, .float .f64 m.b.y.hi, .float .f64 m.b.z.lo, .float .f64 m.b.z.hi, .float .f64 m.c.x.lo, .float .f64 m.c.x.hi, .float .f64 m.c.y.lo, .float .f64 m.c.y.hi, .float .f64 m.c.z.lo, .float .f64 m.c.z.hi, .float .f64 m.t.x.lo, .float .f64 m.t.x.hi, .float .f64 m.t.y.lo, .float .f64 m.t.y.hi, .float .f64 m.t.z.lo, .float .f64 m.t.z.hi]] w fun r w' => r = .returned (.tuple #[.agg #[.float .f64 0, .float .f64 0, .float .f64 0, .float .f64 0, .float .f64 0, .float .f64 0, .float .f64 0, .float .f64 0, .float .f64 0, .float .f64 0, .float .f64 0, .float .f64 0, .float .f64 0, .float .f64 0, .float .f64 0, .float .f64 0, .float .f64 0, .float .f64 0, .float .f64 0, .float .f64 0, .float .f64 0, .float .f64 0, .float .f64 0, .float .f64 0], .int .i64 40]) ∧ Below w.heap.size w w' := by
  have C0 := Lib.hid (fun w => detA_any m w)
  obtain ⟨p0, hp0⟩ : ∃ z_, afDet m = z_ := ⟨_, rfl⟩
  rw [hp0] at C0
  have hl : afDet m = p0 := by rw [← hp0]
  rw [hl] at h1 h2
  clear hl
  have C1 := Lib.hid (fun w => has_sp p0 0 w)
  rw [hasB_0, h1] at C1
  have C2 := Lib.hid (fun w => wide_sp p0 w)
  rw [h2] at C2
  clear hp0
  go_enter Try.func27, Try.ntmps27
  go_wp2_with (refine wl_load (by kernel_rfl) rfl rfl ((Blk.new_at _ _ _ rfl).alloc _) (by rw [info_Affine]; rfl) Try.underlying29 rfl ?_)
  obtain ⟨W, hW, K0, K1, hB, hz⟩ := bx2 w 29 29 (ac m) #[.float .f64 0, .float .f64 0, .float .f64 0, .float .f64 0, .float .f64 0, .float .f64 0, .float .f64 0, .float .f64 0, .float .f64 0, .float .f64 0, .float .f64 0, .float .f64 0, .float .f64 0, .float .f64 0, .float .f64 0, .float .f64 0, .float .f64 0, .float .f64 0, .float .f64 0, .float .f64 0, .float .f64 0, .float .f64 0, .float .f64 0, .float .f64 0]
  rw [← hW]
  have K0 := Lib.hid K0
  have K1 := Lib.hid K1
  have HB := Lib.hid hB
  clear hW hB hz
  have D1 := dr W
  refine (C0.out _).mono ?_
  rintro r w2 ⟨rfl, hb⟩
  have D3 := ds D1 hb
  clear D1
  clear hb
  obtain ⟨g4, hg6⟩ : ∃ g, w2.heap.size = g := ⟨_, rfl⟩
  have Y8 := Lib.hid (show w.heap.size < g4 ∧ w.heap.size + 1 < g4 by rw [← hg6]; exact ⟨(kb K0 D3).lt, (kb K1 D3).lt⟩)
  obtain ⟨V5, hV7⟩ : ∃ V, w2.alloc (.cells #[.float .f64 0, .float .f64 0] 24) = V := ⟨_, rfl⟩
  have K9 := ka hV7 K0 D3
  have K10 := ka hV7 K1 D3
  have K11 := kn hV7 hg6
  have HB12 := hba hV7 HB D3
  have D13 := dr V5
  clear K0 K1 HB D3
  have f16 := (kb K11 D13).cellsL 0 [.float .f64 0, .float .f64 0] rfl
  dsimp only [CellsL, al, vl, Nat.reduceAdd] at f16
  have u17 := (kb K11 D13).unfrozen
  obtain ⟨V14, hV15⟩ : ∃ V, setCells V5 (g4) 0 [.float .f64 p0.lo, .float .f64 p0.hi] = V := ⟨_, rfl⟩
  have hv18 := hV15
  simp only [setCells, Nat.reduceAdd] at hv18
  have K19 := kf hV15 K9 D13 (by have := Y8.out; omega)
  have K20 := kf hV15 K10 D13 (by have := Y8.out; omega)
  have K21 := Lib.hid (show Blk V14 (g4) 24 #[.float .f64 p0.lo, .float .f64 p0.hi] from (ks hV15 K11 D13).out)
  have HB22 := hbs hV15 HB12 D13 (by have := Y8.out; omega)
  have D23 := dr V14
  clear K9 K10 K11 HB12 D13
  have hq24 := (kb K21 D23).cellsL 0 [.float .f64 p0.lo, .float .f64 p0.hi] rfl
  dsimp only [CellsL, al, vl, Nat.reduceAdd] at hq24
  go_wp2_with fail
  clear hg6 hV7 hV15 f16 u17 hv18 hq24
  refine (C1.out _).mono ?_
  rintro r w25 ⟨rfl, hb⟩
  have D26 := ds D23 hb
  clear D23
  clear hb
  have hq27 := (kb K21 D26).cellsL 0 [.float .f64 p0.lo, .float .f64 p0.hi] rfl
  dsimp only [CellsL, al, vl, Nat.reduceAdd] at hq27
  go_wp2_with fail
  clear hq27
  refine (C2.out _).mono ?_
  rintro r w28 ⟨rfl, hb⟩
  have D29 := ds D26 hb
  clear D26
  clear hb
  have f32 := (kb K20 D29)
  obtain ⟨V30, hV31⟩ : ∃ V, World.setRow w28 (w.heap.size + 1) #[.float .f64 0, .float .f64 0, .float .f64 0, .float .f64 0, .float .f64 0, .float .f64 0, .float .f64 0, .float .f64 0, .float .f64 0, .float .f64 0, .float .f64 0, .float .f64 0, .float .f64 0, .float .f64 0, .float .f64 0, .float .f64 0, .float .f64 0, .float .f64 0, .float .f64 0, .float .f64 0, .float .f64 0, .float .f64 0, .float .f64 0, .float .f64 0] = V := ⟨_, rfl⟩
  have K33 := kfr hV31 K19 D29 (by have := Y8.out; omega)
  have K34 := ksr hV31 K20 D29
  have K35 := kfr hV31 K21 D29 (by have := Y8.out; omega)
  have HB36 := hbr hV31 HB22 D29 (by have := Y8.out; omega)
  have D37 := dr V30
  clear K19 K20 K21 HB22 D29
  go_wp2_with (refine wpList_store_row rfl 29 _ _ rfl (w.heap.size + 1) #[.float .f64 0, .float .f64 0, .float .f64 0, .float .f64 0, .float .f64 0, .float .f64 0, .float .f64 0, .float .f64 0, .float .f64 0, .float .f64 0, .float .f64 0, .float .f64 0, .float .f64 0, .float .f64 0, .float .f64 0, .float .f64 0, .float .f64 0, .float .f64 0, .float .f64 0, .float .f64 0, .float .f64 0, .float .f64 0, .float .f64 0, .float .f64 0] rfl rfl _ _ f32 (by rw [info_Affine]; rfl) rfl (by kernel_rfl) ?_; rw [hV31])
  clear hV31 f32
  (try simp only [Exit.inBlock, Exit.then])
  exact bodyPost_ret (res_ct rfl _ _ (w.heap.size + 1) #[.float .f64 0, .float .f64 0, .float .f64 0, .float .f64 0, .float .f64 0, .float .f64 0, .float .f64 0, .float .f64 0, .float .f64 0, .float .f64 0, .float .f64 0, .float .f64 0, .float .f64 0, .float .f64 0, .float .f64 0, .float .f64 0, .float .f64 0, .float .f64 0, .float .f64 0, .float .f64 0, .float .f64 0, .float .f64 0, .float .f64 0, .float .f64 0] rfl (kb K34 D37) (by rw [info_Affine]; rfl) Try.underlying29 rfl) rfl ⟨rfl, below_step HB36.out D37.out⟩
set_option maxRecDepth 100000 in
set_option maxHeartbeats 8000000 in
theorem backA_k (m : Af) (h1 : has0 (afDet m) = false) (h2 : (afDet m).wide = false) (w : World) : Calls Try.prog 27 #[Value.agg #[.float .f64 m.a.x.lo, .float .f64 m.a.x.hi, .float .f64 m.a.y.lo, .float .f64 m.a.y.hi, .float .f64 m.a.z.lo, .float .f64 m.a.z.hi, .float .f64 m.b.x.lo, .float .f64 m.b.x.hi, .float .f64 m.b.y.lo, .float .f64 m.b.y.hi, .float .f64 m.b.z.lo, .float .f64 m.b.z.hi, .float .f64 m.c.x.lo, .float .f64 m.c.x.hi, .float .f64 m.c.y.lo, .float .f64 m.c.y.hi, .float .f64 m.c.z.lo, .float .f64 m.c.z.hi, .float .f64 m.t.x.lo, .float .f64 m.t.x.hi, .float .f64 m.t.y.lo, .float .f64 m.t.y.hi, .float .f64 m.t.z.lo, .float .f64 m.t.z.hi]] w fun r w' => r = .returned (.tuple #[aval (afBack m (afDet m)), .int .i64 0]) ∧ Below w.heap.size w w' := by
  have C0 := Lib.hid (fun w => detA_any m w)
  obtain ⟨p0, hp0⟩ : ∃ z_, afDet m = z_ := ⟨_, rfl⟩
  rw [hp0] at C0
  have hl : afDet m = p0 := by rw [← hp0]
  rw [hl] at h1 h2
  clear hl
  have C1 := Lib.hid (fun w => has_sp p0 0 w)
  rw [hasB_0, h1] at C1
  have C2 := Lib.hid (fun w => wide_sp p0 w)
  rw [h2] at C2
  have C3 := Lib.hid (fun w => crossV_any m.b m.c w)
  obtain ⟨p3, hp3⟩ : ∃ z_, vCross m.b m.c = z_ := ⟨_, rfl⟩
  rw [hp3] at C3
  have C4 := Lib.hid (fun w => crossV_any m.c m.a w)
  obtain ⟨p4, hp4⟩ : ∃ z_, vCross m.c m.a = z_ := ⟨_, rfl⟩
  rw [hp4] at C4
  have C5 := Lib.hid (fun w => crossV_any m.a m.b w)
  obtain ⟨p5, hp5⟩ : ∃ z_, vCross m.a m.b = z_ := ⟨_, rfl⟩
  rw [hp5] at C5
  have C6 := Lib.hid (fun w => div_sp p3.x p0 w)
  obtain ⟨p6, hp6⟩ : ∃ z_, divS p3.x p0 = z_ := ⟨_, rfl⟩
  rw [hp6] at C6
  have C7 := Lib.hid (fun w => div_sp p4.x p0 w)
  obtain ⟨p7, hp7⟩ : ∃ z_, divS p4.x p0 = z_ := ⟨_, rfl⟩
  rw [hp7] at C7
  have C8 := Lib.hid (fun w => div_sp p5.x p0 w)
  obtain ⟨p8, hp8⟩ : ∃ z_, divS p5.x p0 = z_ := ⟨_, rfl⟩
  rw [hp8] at C8
  have C9 := Lib.hid (fun w => div_sp p3.y p0 w)
  obtain ⟨p9, hp9⟩ : ∃ z_, divS p3.y p0 = z_ := ⟨_, rfl⟩
  rw [hp9] at C9
  have C10 := Lib.hid (fun w => div_sp p4.y p0 w)
  obtain ⟨p10, hp10⟩ : ∃ z_, divS p4.y p0 = z_ := ⟨_, rfl⟩
  rw [hp10] at C10
  have C11 := Lib.hid (fun w => div_sp p5.y p0 w)
  obtain ⟨p11, hp11⟩ : ∃ z_, divS p5.y p0 = z_ := ⟨_, rfl⟩
  rw [hp11] at C11
  have C12 := Lib.hid (fun w => div_sp p3.z p0 w)
  obtain ⟨p12, hp12⟩ : ∃ z_, divS p3.z p0 = z_ := ⟨_, rfl⟩
  rw [hp12] at C12
  have C13 := Lib.hid (fun w => div_sp p4.z p0 w)
  obtain ⟨p13, hp13⟩ : ∃ z_, divS p4.z p0 = z_ := ⟨_, rfl⟩
  rw [hp13] at C13
  have C14 := Lib.hid (fun w => div_sp p5.z p0 w)
  obtain ⟨p14, hp14⟩ : ∃ z_, divS p5.z p0 = z_ := ⟨_, rfl⟩
  rw [hp14] at C14
  have C15 := Lib.hid (fun w => vecA_any (⟨(⟨p6, p7, p8⟩ : V3), (⟨p9, p10, p11⟩ : V3), (⟨p12, p13, p14⟩ : V3), zeroV⟩ : Af) m.t w)
  simp only [zeroS_lo, zeroS_hi, zeroV_x, zeroV_y, zeroV_z, zeroA_a, zeroA_b, zeroA_c, zeroA_t] at C15
  obtain ⟨p15, hp15⟩ : ∃ z_, afVec (⟨(⟨p6, p7, p8⟩ : V3), (⟨p9, p10, p11⟩ : V3), (⟨p12, p13, p14⟩ : V3), zeroV⟩ : Af) m.t = z_ := ⟨_, rfl⟩
  rw [hp15] at C15
  have C16 := Lib.hid (fun w => negV_any p15 w)
  obtain ⟨p16, hp16⟩ : ∃ z_, vNeg p15 = z_ := ⟨_, rfl⟩
  rw [hp16] at C16
  have hT : afBack m (afDet m) = (⟨(⟨p6, p7, p8⟩ : V3), (⟨p9, p10, p11⟩ : V3), (⟨p12, p13, p14⟩ : V3), p16⟩ : Af) := by
    subst hp0 hp3 hp4 hp5 hp6 hp7 hp8 hp9 hp10 hp11 hp12 hp13 hp14 hp15 hp16; rfl
  rw [hT]
  clear hT
  clear hp0 hp3 hp4 hp5 hp6 hp7 hp8 hp9 hp10 hp11 hp12 hp13 hp14 hp15 hp16
  go_enter Try.func27, Try.ntmps27
  go_wp2_with (refine wl_load (by kernel_rfl) rfl rfl ((Blk.new_at _ _ _ rfl).alloc _) (by rw [info_Affine]; rfl) Try.underlying29 rfl ?_)
  obtain ⟨W, hW, K0, K1, hB, hz⟩ := bx2 w 29 29 (ac m) #[.float .f64 0, .float .f64 0, .float .f64 0, .float .f64 0, .float .f64 0, .float .f64 0, .float .f64 0, .float .f64 0, .float .f64 0, .float .f64 0, .float .f64 0, .float .f64 0, .float .f64 0, .float .f64 0, .float .f64 0, .float .f64 0, .float .f64 0, .float .f64 0, .float .f64 0, .float .f64 0, .float .f64 0, .float .f64 0, .float .f64 0, .float .f64 0]
  rw [← hW]
  have K0 := Lib.hid K0
  have K1 := Lib.hid K1
  have HB := Lib.hid hB
  clear hW hB hz
  have D1 := dr W
  refine (C0.out _).mono ?_
  rintro r w2 ⟨rfl, hb⟩
  have D3 := ds D1 hb
  clear D1
  clear hb
  obtain ⟨g4, hg6⟩ : ∃ g, w2.heap.size = g := ⟨_, rfl⟩
  have Y8 := Lib.hid (show w.heap.size < g4 ∧ w.heap.size + 1 < g4 by rw [← hg6]; exact ⟨(kb K0 D3).lt, (kb K1 D3).lt⟩)
  obtain ⟨V5, hV7⟩ : ∃ V, w2.alloc (.cells #[.float .f64 0, .float .f64 0] 24) = V := ⟨_, rfl⟩
  have K9 := ka hV7 K0 D3
  have K10 := ka hV7 K1 D3
  have K11 := kn hV7 hg6
  have HB12 := hba hV7 HB D3
  have D13 := dr V5
  clear K0 K1 HB D3
  have f16 := (kb K11 D13).cellsL 0 [.float .f64 0, .float .f64 0] rfl
  dsimp only [CellsL, al, vl, Nat.reduceAdd] at f16
  have u17 := (kb K11 D13).unfrozen
  obtain ⟨V14, hV15⟩ : ∃ V, setCells V5 (g4) 0 [.float .f64 p0.lo, .float .f64 p0.hi] = V := ⟨_, rfl⟩
  have hv18 := hV15
  simp only [setCells, Nat.reduceAdd] at hv18
  have K19 := kf hV15 K9 D13 (by have := Y8.out; omega)
  have K20 := kf hV15 K10 D13 (by have := Y8.out; omega)
  have K21 := Lib.hid (show Blk V14 (g4) 24 #[.float .f64 p0.lo, .float .f64 p0.hi] from (ks hV15 K11 D13).out)
  have HB22 := hbs hV15 HB12 D13 (by have := Y8.out; omega)
  have D23 := dr V14
  clear K9 K10 K11 HB12 D13
  have hq24 := (kb K21 D23).cellsL 0 [.float .f64 p0.lo, .float .f64 p0.hi] rfl
  dsimp only [CellsL, al, vl, Nat.reduceAdd] at hq24
  go_wp2_with fail
  clear hg6 hV7 hV15 f16 u17 hv18 hq24
  refine (C1.out _).mono ?_
  rintro r w25 ⟨rfl, hb⟩
  have D26 := ds D23 hb
  clear D23
  clear hb
  have hq27 := (kb K21 D26).cellsL 0 [.float .f64 p0.lo, .float .f64 p0.hi] rfl
  dsimp only [CellsL, al, vl, Nat.reduceAdd] at hq27
  go_wp2_with fail
  clear hq27
  refine (C2.out _).mono ?_
  rintro r w28 ⟨rfl, hb⟩
  have D29 := ds D26 hb
  clear D26
  clear hb
  go_wp2_with fail
  refine wp_region_held (S := (fun w' => True ∧ CellsL w' (w.heap.size) 0 [.float .f64 m.a.x.lo, .float .f64 m.a.x.hi, .float .f64 m.a.y.lo, .float .f64 m.a.y.hi, .float .f64 m.a.z.lo, .float .f64 m.a.z.hi, .float .f64 m.b.x.lo, .float .f64 m.b.x.hi, .float .f64 m.b.y.lo, .float .f64 m.b.y.hi, .float .f64 m.b.z.lo, .float .f64 m.b.z.hi, .float .f64 m.c.x.lo, .float .f64 m.c.x.hi, .float .f64 m.c.y.lo, .float .f64 m.c.y.hi, .float .f64 m.c.z.lo, .float .f64 m.c.z.hi])) (by kernel_rfl) ?_
  change wpAnyH _ _ _ _ _ _ _ _ (World.drew _)
  obtain ⟨wd30, hwd⟩ : ∃ x, x = World.drew w28 := ⟨_, rfl⟩
  rw [← hwd]
  have D31 := Lib.hid (hwd ▸ Below.drew D29.out : Below V14.heap.size V14 wd30)
  clear D29 hwd
  have hS32 : True ∧ CellsL wd30 (w.heap.size) 0 [.float .f64 m.a.x.lo, .float .f64 m.a.x.hi, .float .f64 m.a.y.lo, .float .f64 m.a.y.hi, .float .f64 m.a.z.lo, .float .f64 m.a.z.hi, .float .f64 m.b.x.lo, .float .f64 m.b.x.hi, .float .f64 m.b.y.lo, .float .f64 m.b.y.hi, .float .f64 m.b.z.lo, .float .f64 m.b.z.hi, .float .f64 m.c.x.lo, .float .f64 m.c.x.hi, .float .f64 m.c.y.lo, .float .f64 m.c.y.hi, .float .f64 m.c.z.lo, .float .f64 m.c.z.hi] := ⟨trivial, (kb K19 D31).cellsL 0 [.float .f64 m.a.x.lo, .float .f64 m.a.x.hi, .float .f64 m.a.y.lo, .float .f64 m.a.y.hi, .float .f64 m.a.z.lo, .float .f64 m.a.z.hi, .float .f64 m.b.x.lo, .float .f64 m.b.x.hi, .float .f64 m.b.y.lo, .float .f64 m.b.y.hi, .float .f64 m.b.z.lo, .float .f64 m.b.z.hi, .float .f64 m.c.x.lo, .float .f64 m.c.x.hi, .float .f64 m.c.y.lo, .float .f64 m.c.y.hi, .float .f64 m.c.z.lo, .float .f64 m.c.z.hi] rfl⟩
  refine tk 0 (bm 24 1) ?vq33 ?aq33 rfl (by kernel_rfl) (fun _ _ _ h => h) (by kernel_rfl) ?hq33 ?pq33 hS32 ?rq33
  case hq33 => (intro w hS; go_simp; try with_reducible rfl)
  case pq33 => (go_simp; try with_reducible rfl)
  refine tk 1 (bm 24 3) ?vq34 ?aq34 rfl (by kernel_rfl) (fun _ _ _ h => h) (by kernel_rfl) ?hq34 ?pq34 hS32 ?rq34
  case hq34 => (intro w hS; go_simp; try with_reducible rfl)
  case pq34 => (go_simp; try with_reducible rfl)
  refine tk 2 (bm 24 7) ?vq35 ?aq35 rfl (by kernel_rfl) (fun _ _ _ h => h) (by kernel_rfl) ?hq35 ?pq35 hS32 ?rq35
  case hq35 => (intro w hS; dsimp only [CellsL, al, vl, Nat.reduceAdd] at hS; go_simp; try with_reducible rfl)
  case pq35 => (go_simp; try with_reducible rfl)
  refine tk 3 (bm 24 15) ?vq36 ?aq36 rfl (by kernel_rfl) (fun _ _ _ h => h) (by kernel_rfl) ?hq36 ?pq36 hS32 ?rq36
  case hq36 => (intro w hS; go_simp; try with_reducible rfl)
  case pq36 => (go_simp; try with_reducible rfl)
  refine tk 4 (bm 24 31) ?vq37 ?aq37 rfl (by kernel_rfl) (fun _ _ _ h => h) (by kernel_rfl) ?hq37 ?pq37 hS32 ?rq37
  case hq37 => (intro w hS; go_simp; try with_reducible rfl)
  case pq37 => (go_simp; try with_reducible rfl)
  refine tk 5 (bm 24 63) ?vq38 ?aq38 rfl (by kernel_rfl) (fun _ _ _ h => h) (by kernel_rfl) ?hq38 ?pq38 hS32 ?rq38
  case hq38 => (intro w hS; dsimp only [CellsL, al, vl, Nat.reduceAdd] at hS; go_simp; try with_reducible rfl)
  case pq38 => (go_simp; try with_reducible rfl)
  refine tk 7 (bm 24 191) ?vq39 ?aq39 rfl (by kernel_rfl) (fun _ _ _ h => h) (by kernel_rfl) ?hq39 ?pq39 hS32 ?rq39
  case hq39 => (intro w hS; go_simp; try with_reducible rfl)
  case pq39 => (go_simp; try with_reducible rfl)
  refine tk 8 (bm 24 447) ?vq40 ?aq40 rfl (by kernel_rfl) (fun _ _ _ h => h) (by kernel_rfl) ?hq40 ?pq40 hS32 ?rq40
  case hq40 => (intro w hS; go_simp; try with_reducible rfl)
  case pq40 => (go_simp; try with_reducible rfl)
  refine tk 9 (bm 24 959) ?vq41 ?aq41 rfl (by kernel_rfl) (fun _ _ _ h => h) (by kernel_rfl) ?hq41 ?pq41 hS32 ?rq41
  case hq41 => (intro w hS; dsimp only [CellsL, al, vl, Nat.reduceAdd] at hS; go_simp; try with_reducible rfl)
  case pq41 => (go_simp; try with_reducible rfl)
  refine tk 10 (bm 24 1983) ?vq42 ?aq42 rfl (by kernel_rfl) (fun _ _ _ h => h) (by kernel_rfl) ?hq42 ?pq42 hS32 ?rq42
  case hq42 => (intro w hS; go_simp; try with_reducible rfl)
  case pq42 => (go_simp; try with_reducible rfl)
  refine tk 11 (bm 24 4031) ?vq43 ?aq43 rfl (by kernel_rfl) (fun _ _ _ h => h) (by kernel_rfl) ?hq43 ?pq43 hS32 ?rq43
  case hq43 => (intro w hS; go_simp; try with_reducible rfl)
  case pq43 => (go_simp; try with_reducible rfl)
  refine tk 12 (bm 24 8127) ?vq44 ?aq44 rfl (by kernel_rfl) (fun _ _ _ h => h) (by kernel_rfl) ?hq44 ?pq44 hS32 ?rq44
  case hq44 => (intro w hS; dsimp only [CellsL, al, vl, Nat.reduceAdd] at hS; go_simp; try with_reducible rfl)
  case pq44 => (go_simp; try with_reducible rfl)
  refine tk 14 (bm 24 24511) ?vq45 ?aq45 rfl (by kernel_rfl) (fun _ _ _ h => h) (by kernel_rfl) ?hq45 ?pq45 hS32 ?rq45
  case hq45 => (intro w hS; go_simp; try with_reducible rfl)
  case pq45 => (go_simp; try with_reducible rfl)
  refine tk 15 (bm 24 57279) ?vq46 ?aq46 rfl (by kernel_rfl) (fun _ _ _ h => h) (by kernel_rfl) ?hq46 ?pq46 hS32 ?rq46
  case hq46 => (intro w hS; go_simp; try with_reducible rfl)
  case pq46 => (go_simp; try with_reducible rfl)
  refine tk 16 (bm 24 122815) ?vq47 ?aq47 rfl (by kernel_rfl) (fun _ _ _ h => h) (by kernel_rfl) ?hq47 ?pq47 hS32 ?rq47
  case hq47 => (intro w hS; dsimp only [CellsL, al, vl, Nat.reduceAdd] at hS; go_simp; try with_reducible rfl)
  case pq47 => (go_simp; try with_reducible rfl)
  refine tk 17 (bm 24 253887) ?vq48 ?aq48 rfl (by kernel_rfl) (fun _ _ _ h => h) (by kernel_rfl) ?hq48 ?pq48 hS32 ?rq48
  case hq48 => (intro w hS; go_simp; try with_reducible rfl)
  case pq48 => (go_simp; try with_reducible rfl)
  refine tk 18 (bm 24 516031) ?vq49 ?aq49 rfl (by kernel_rfl) (fun _ _ _ h => h) (by kernel_rfl) ?hq49 ?pq49 hS32 ?rq49
  case hq49 => (intro w hS; go_simp; try with_reducible rfl)
  case pq49 => (go_simp; try with_reducible rfl)
  refine tk 19 (bm 24 1040319) ?vq50 ?aq50 rfl (by kernel_rfl) (fun _ _ _ h => h) (by kernel_rfl) ?hq50 ?pq50 hS32 ?rq50
  case hq50 => (intro w hS; dsimp only [CellsL, al, vl, Nat.reduceAdd] at hS; go_simp; try with_reducible rfl)
  case pq50 => (go_simp; try with_reducible rfl)
  have HS51 := Lib.hid (show ∀ w', Below V14.heap.size V14 w' → (True ∧ CellsL w' (w.heap.size) 0 [.float .f64 m.a.x.lo, .float .f64 m.a.x.hi, .float .f64 m.a.y.lo, .float .f64 m.a.y.hi, .float .f64 m.a.z.lo, .float .f64 m.a.z.hi, .float .f64 m.b.x.lo, .float .f64 m.b.x.hi, .float .f64 m.b.y.lo, .float .f64 m.b.y.hi, .float .f64 m.b.z.lo, .float .f64 m.b.z.hi, .float .f64 m.c.x.lo, .float .f64 m.c.x.hi, .float .f64 m.c.y.lo, .float .f64 m.c.y.hi, .float .f64 m.c.z.lo, .float .f64 m.c.z.hi]) from fun w' b => ⟨trivial, (K19.out.below b K19.out.lt).cellsL 0 [.float .f64 m.a.x.lo, .float .f64 m.a.x.hi, .float .f64 m.a.y.lo, .float .f64 m.a.y.hi, .float .f64 m.a.z.lo, .float .f64 m.a.z.hi, .float .f64 m.b.x.lo, .float .f64 m.b.x.hi, .float .f64 m.b.y.lo, .float .f64 m.b.y.hi, .float .f64 m.b.z.lo, .float .f64 m.b.z.hi, .float .f64 m.c.x.lo, .float .f64 m.c.x.hi, .float .f64 m.c.y.lo, .float .f64 m.c.y.hi, .float .f64 m.c.z.lo, .float .f64 m.c.z.hi] rfl⟩)
  refine wpAnyH_sets2 (N := 24) (stop := 8388607) (F := 1) (m := 1040319) (R := [6, 13, 20, 21, 22]) (M := [1040319, 1040383, 5234623, 1048575, 5234687, 2097151, 5242879, 4194303, 6291455, 8388607]) (fun i => if i = 6 then 36 else if i = 13 then 4672 else if i = 20 then 598016 else if i = 21 then 1056832 else if i = 22 then 0 else 0) (fun a0 m a w9 => ∃ (v6 v13 v20 v21 p22_ : Value) (g22_ : Nat), a = (((((a0.put (some 24) v6).put (some 31) v13).put (some 38) v20).put (some 39) v21).put (some 5) p22_) ∧ Below V14.heap.size V14 w9 ∧ (m.testBit 6 = true → v6 = Value.agg #[.float .f64 p3.x.lo, .float .f64 p3.x.hi, .float .f64 p3.y.lo, .float .f64 p3.y.hi, .float .f64 p3.z.lo, .float .f64 p3.z.hi]) ∧ (m.testBit 13 = true → v13 = Value.agg #[.float .f64 p4.x.lo, .float .f64 p4.x.hi, .float .f64 p4.y.lo, .float .f64 p4.y.hi, .float .f64 p4.z.lo, .float .f64 p4.z.hi]) ∧ (m.testBit 20 = true → v20 = Value.agg #[.float .f64 p5.x.lo, .float .f64 p5.x.hi, .float .f64 p5.y.lo, .float .f64 p5.y.hi, .float .f64 p5.z.lo, .float .f64 p5.z.hi]) ∧ (m.testBit 21 = true → v21 = Value.agg #[.float .f64 p3.x.lo, .float .f64 p3.x.hi, .float .f64 p3.y.lo, .float .f64 p3.y.hi, .float .f64 p3.z.lo, .float .f64 p3.z.hi, .float .f64 p4.x.lo, .float .f64 p4.x.hi, .float .f64 p4.y.lo, .float .f64 p4.y.hi, .float .f64 p4.z.lo, .float .f64 p4.z.hi, .float .f64 p5.x.lo, .float .f64 p5.x.hi, .float .f64 p5.y.lo, .float .f64 p5.y.hi, .float .f64 p5.z.lo, .float .f64 p5.z.hi]) ∧ (m.testBit 22 = true → p22_ = .pointer (some ⟨g22_, 0, none⟩) ∧ Blk w9 g22_ 27 #[.float .f64 0, .float .f64 0, .float .f64 0, .float .f64 0, .float .f64 0, .float .f64 0, .float .f64 0, .float .f64 0, .float .f64 0, .float .f64 0, .float .f64 0, .float .f64 0, .float .f64 0, .float .f64 0, .float .f64 0, .float .f64 0, .float .f64 0, .float .f64 0] ∧ V14.heap.size ≤ g22_)) (by kernel_rfl) (by kernel_rfl) (by kernel_rfl) (by kernel_rfl) ?st4 ?sp4 ?re4
  case st4 =>
    exact ⟨undef, undef, undef, undef, undef, 0, by go_simp, D31.out, fun h => absurd h (by decide), fun h => absurd h (by decide), fun h => absurd h (by decide), fun h => absurd h (by decide), fun h => absurd h (by decide)⟩
  case sp4 =>
    intro m a' w9 i hi hm hd hJ
    obtain ⟨v6, v13, v20, v21, p22_, g22_, rfl, hb0, cl6, cl13, cl20, cl21, ql22⟩ := hJ
    have CL6 := Lib.hid cl6
    have CL13 := Lib.hid cl13
    have CL20 := Lib.hid cl20
    have CL21 := Lib.hid cl21
    have QL22 := Lib.hid ql22
    have HB0 := Lib.hid hb0
    clear cl6 cl13 cl20 cl21 ql22 hb0 hS32
    simp only [List.mem_cons, List.not_mem_nil, or_false] at hi
    rcases hi with rfl | rfl | rfl | rfl | rfl
    · refine wpOp_at rfl (by kernel_rfl) (fun K hK => ?_)
      have hd := fun j => @tb_of _ _ j hd
      go_simp
      go_at_call 34
      refine (C3.out _).mono ?_
      rintro r w10 ⟨rfl, hb⟩
      dsimp only
      have hb1 := below_step HB0.out hb
      exact hK _ _ ⟨HS51.out _ hb1, _, v13, v20, v21, p22_, g22_, by go_simp, hb1, fun _ => rfl, fun h => CL13.out (by rwa [tb_ne (by decide)] at h), fun h => CL20.out (by rwa [tb_ne (by decide)] at h), fun h => CL21.out (by rwa [tb_ne (by decide)] at h), fun h => ⟨(QL22.out (by rwa [tb_ne (by decide)] at h)).1, (QL22.out (by rwa [tb_ne (by decide)] at h)).2.1.below hb (QL22.out (by rwa [tb_ne (by decide)] at h)).2.1.lt, (QL22.out (by rwa [tb_ne (by decide)] at h)).2.2⟩⟩
    · refine wpOp_at rfl (by kernel_rfl) (fun K hK => ?_)
      have hd := fun j => @tb_of _ _ j hd
      obtain rfl := CL6.out (hd _ (by decide))
      go_simp
      go_at_call 34
      refine (C4.out _).mono ?_
      rintro r w10 ⟨rfl, hb⟩
      dsimp only
      have hb1 := below_step HB0.out hb
      exact hK _ _ ⟨HS51.out _ hb1, _, _, v20, v21, p22_, g22_, by go_simp, hb1, fun _ => rfl, fun _ => rfl, fun h => CL20.out (by rwa [tb_ne (by decide)] at h), fun h => CL21.out (by rwa [tb_ne (by decide)] at h), fun h => ⟨(QL22.out (by rwa [tb_ne (by decide)] at h)).1, (QL22.out (by rwa [tb_ne (by decide)] at h)).2.1.below hb (QL22.out (by rwa [tb_ne (by decide)] at h)).2.1.lt, (QL22.out (by rwa [tb_ne (by decide)] at h)).2.2⟩⟩
    · refine wpOp_at rfl (by kernel_rfl) (fun K hK => ?_)
      have hd := fun j => @tb_of _ _ j hd
      obtain rfl := CL13.out (hd _ (by decide))
      go_simp
      go_at_call 34
      refine (C5.out _).mono ?_
      rintro r w10 ⟨rfl, hb⟩
      dsimp only
      have hb1 := below_step HB0.out hb
      exact hK _ _ ⟨HS51.out _ hb1, v6, _, _, v21, p22_, g22_, by go_simp, hb1, fun h => CL6.out (by rwa [tb_ne (by decide)] at h), fun _ => rfl, fun _ => rfl, fun h => CL21.out (by rwa [tb_ne (by decide)] at h), fun h => ⟨(QL22.out (by rwa [tb_ne (by decide)] at h)).1, (QL22.out (by rwa [tb_ne (by decide)] at h)).2.1.below hb (QL22.out (by rwa [tb_ne (by decide)] at h)).2.1.lt, (QL22.out (by rwa [tb_ne (by decide)] at h)).2.2⟩⟩
    · refine wpOp_at rfl (by kernel_rfl) (fun K hK => ?_)
      have hd := fun j => @tb_of _ _ j hd
      obtain rfl := CL6.out (hd _ (by decide))
      obtain rfl := CL13.out (hd _ (by decide))
      obtain rfl := CL20.out (hd _ (by decide))
      have hb1 := HB0.out
      go_simp
      exact hK _ _ ⟨HS51.out _ hb1, _, _, _, _, p22_, g22_, by go_simp, hb1, fun _ => rfl, fun _ => rfl, fun _ => rfl, fun _ => rfl, fun h => ⟨(QL22.out (by rwa [tb_ne (by decide)] at h)).1, (QL22.out (by rwa [tb_ne (by decide)] at h)).2.1, (QL22.out (by rwa [tb_ne (by decide)] at h)).2.2⟩⟩
    · refine wpOp_at rfl (by kernel_rfl) (fun K hK => ?_)
      have hd := fun j => @tb_of _ _ j hd
      go_simp
      have hb1 := below_more HB0.out (.cells #[.float .f64 0, .float .f64 0, .float .f64 0, .float .f64 0, .float .f64 0, .float .f64 0, .float .f64 0, .float .f64 0, .float .f64 0, .float .f64 0, .float .f64 0, .float .f64 0, .float .f64 0, .float .f64 0, .float .f64 0, .float .f64 0, .float .f64 0, .float .f64 0] 27)
      exact hK _ _ ⟨HS51.out _ hb1, v6, v13, v20, v21, .pointer (some ⟨w9.heap.size, 0, none⟩), w9.heap.size, by go_simp, hb1, fun h => CL6.out (by rwa [tb_ne (by decide)] at h), fun h => CL13.out (by rwa [tb_ne (by decide)] at h), fun h => CL20.out (by rwa [tb_ne (by decide)] at h), fun h => CL21.out (by rwa [tb_ne (by decide)] at h), fun _ => ⟨rfl, Blk.new_at _ _ _ rfl, HB0.out.size⟩⟩
  clear hS32 D31 HS51
  intro a' W64 hJ
  obtain ⟨v6, v13, v20, v21, p22_, g65, rfl, hb0, cl6, cl13, cl20, cl21, ql22⟩ := hJ
  obtain rfl := cl6 (by decide)
  obtain rfl := cl13 (by decide)
  obtain rfl := cl20 (by decide)
  obtain rfl := cl21 (by decide)
  obtain ⟨rfl, kk22, ll22⟩ := ql22 (by decide)
  have D54 := Lib.hid hb0
  clear hb0
  refine wpAnyH_frame (a' := ?frq53) ?feq53 ?fgq53
  case feq53 => (go_simp; try with_reducible rfl)
  have K56 := Lib.hid ((kb K19 D54) : Blk W64 (w.heap.size) 29 (ac m))
  have K57 := Lib.hid ((kb K20 D54) : Blk W64 (w.heap.size + 1) 29 #[.float .f64 0, .float .f64 0, .float .f64 0, .float .f64 0, .float .f64 0, .float .f64 0, .float .f64 0, .float .f64 0, .float .f64 0, .float .f64 0, .float .f64 0, .float .f64 0, .float .f64 0, .float .f64 0, .float .f64 0, .float .f64 0, .float .f64 0, .float .f64 0, .float .f64 0, .float .f64 0, .float .f64 0, .float .f64 0, .float .f64 0, .float .f64 0])
  have K58 := Lib.hid ((kb K21 D54) : Blk W64 (g4) 24 #[.float .f64 p0.lo, .float .f64 p0.hi])
  have K59 := Lib.hid kk22
  clear kk22
  have HB62 := Lib.hid (below_step HB22.out D54.out)
  have Y61 := Lib.hid (show w.heap.size ≤ g65 ∧ w.heap.size < g65 ∧ w.heap.size + 1 < g65 ∧ g4 < g65 from ⟨Nat.le_trans HB22.out.size ll22, Nat.lt_of_lt_of_le K19.out.lt ll22, Nat.lt_of_lt_of_le K20.out.lt ll22, Nat.lt_of_lt_of_le K21.out.lt ll22⟩)
  have Y63 := Lib.hid (And.intro Y8.out Y61.out)
  clear Y8 Y61
  clear K19 K20 K21 ll22 HB22
  have D66 := Lib.hid (Below.refl W64.heap.size W64)
  clear D54
  have hS67 : True ∧ CellsL W64 (w.heap.size) 0 [.float .f64 m.a.x.lo, .float .f64 m.a.x.hi, .float .f64 m.a.y.lo, .float .f64 m.a.y.hi, .float .f64 m.a.z.lo, .float .f64 m.a.z.hi, .float .f64 m.b.x.lo, .float .f64 m.b.x.hi, .float .f64 m.b.y.lo, .float .f64 m.b.y.hi, .float .f64 m.b.z.lo, .float .f64 m.b.z.hi, .float .f64 m.c.x.lo, .float .f64 m.c.x.hi, .float .f64 m.c.y.lo, .float .f64 m.c.y.hi, .float .f64 m.c.z.lo, .float .f64 m.c.z.hi] := ⟨trivial, (kb K56 D66).cellsL 0 [.float .f64 m.a.x.lo, .float .f64 m.a.x.hi, .float .f64 m.a.y.lo, .float .f64 m.a.y.hi, .float .f64 m.a.z.lo, .float .f64 m.a.z.hi, .float .f64 m.b.x.lo, .float .f64 m.b.x.hi, .float .f64 m.b.y.lo, .float .f64 m.b.y.hi, .float .f64 m.b.z.lo, .float .f64 m.b.z.hi, .float .f64 m.c.x.lo, .float .f64 m.c.x.hi, .float .f64 m.c.y.lo, .float .f64 m.c.y.hi, .float .f64 m.c.z.lo, .float .f64 m.c.z.hi] rfl⟩
  refine wpAnyH_oneM (i := 23) (l' := bm 24 16777215) rfl (by kernel_rfl) (by kernel_rfl) (by kernel_rfl) (fun K hK => ?_)
  have f70 := (kb K59 D66)
  obtain ⟨V68, hV69⟩ : ∃ V, World.setRow W64 (g65) #[.float .f64 p3.x.lo, .float .f64 p3.x.hi, .float .f64 p3.y.lo, .float .f64 p3.y.hi, .float .f64 p3.z.lo, .float .f64 p3.z.hi, .float .f64 p4.x.lo, .float .f64 p4.x.hi, .float .f64 p4.y.lo, .float .f64 p4.y.hi, .float .f64 p4.z.lo, .float .f64 p4.z.hi, .float .f64 p5.x.lo, .float .f64 p5.x.hi, .float .f64 p5.y.lo, .float .f64 p5.y.hi, .float .f64 p5.z.lo, .float .f64 p5.z.hi] = V := ⟨_, rfl⟩
  have K71 := kfr hV69 K56 D66 (by have := Y63.out; omega)
  have K72 := kfr hV69 K57 D66 (by have := Y63.out; omega)
  have K73 := kfr hV69 K58 D66 (by have := Y63.out; omega)
  have K74 := ksr hV69 K59 D66
  have HB75 := hbr hV69 HB62 D66 (by have := Y63.out; omega)
  have D76 := dr V68
  clear K56 K57 K58 K59 HB62 D66
  refine wp_store_row 27 _ _ rfl (g65) #[.float .f64 p3.x.lo, .float .f64 p3.x.hi, .float .f64 p3.y.lo, .float .f64 p3.y.hi, .float .f64 p3.z.lo, .float .f64 p3.z.hi, .float .f64 p4.x.lo, .float .f64 p4.x.hi, .float .f64 p4.y.lo, .float .f64 p4.y.hi, .float .f64 p4.z.lo, .float .f64 p4.z.hi, .float .f64 p5.x.lo, .float .f64 p5.x.hi, .float .f64 p5.y.lo, .float .f64 p5.y.hi, .float .f64 p5.z.lo, .float .f64 p5.z.hi] rfl rfl _ _ f70 (by rw [info_V3x3]; rfl) rfl (by kernel_rfl) ?_
  rw [hV69]
  go_simp
  clear hV69 f70
  have hS77 : True ∧ CellsL V68 (w.heap.size) 0 [.float .f64 m.a.x.lo, .float .f64 m.a.x.hi, .float .f64 m.a.y.lo, .float .f64 m.a.y.hi, .float .f64 m.a.z.lo, .float .f64 m.a.z.hi, .float .f64 m.b.x.lo, .float .f64 m.b.x.hi, .float .f64 m.b.y.lo, .float .f64 m.b.y.hi, .float .f64 m.b.z.lo, .float .f64 m.b.z.hi, .float .f64 m.c.x.lo, .float .f64 m.c.x.hi, .float .f64 m.c.y.lo, .float .f64 m.c.y.hi, .float .f64 m.c.z.lo, .float .f64 m.c.z.hi] := ⟨trivial, (kb K71 D76).cellsL 0 [.float .f64 m.a.x.lo, .float .f64 m.a.x.hi, .float .f64 m.a.y.lo, .float .f64 m.a.y.hi, .float .f64 m.a.z.lo, .float .f64 m.a.z.hi, .float .f64 m.b.x.lo, .float .f64 m.b.x.hi, .float .f64 m.b.y.lo, .float .f64 m.b.y.hi, .float .f64 m.b.z.lo, .float .f64 m.b.z.hi, .float .f64 m.c.x.lo, .float .f64 m.c.x.hi, .float .f64 m.c.y.lo, .float .f64 m.c.y.hi, .float .f64 m.c.z.lo, .float .f64 m.c.z.hi] rfl⟩
  refine hK _ _ hS77 ?_
  clear hK K hS67
  refine wpAnyH_done (by kernel_rfl) ?_ _
  clear hS77
  obtain ⟨g78, hg80⟩ : ∃ g, V68.heap.size = g := ⟨_, rfl⟩
  have Y82 := Lib.hid (show w.heap.size < g78 ∧ w.heap.size + 1 < g78 ∧ g4 < g78 ∧ g65 < g78 by rw [← hg80]; exact ⟨(kb K71 D76).lt, (kb K72 D76).lt, (kb K73 D76).lt, (kb K74 D76).lt⟩)
  obtain ⟨V79, hV81⟩ : ∃ V, V68.alloc (.cells #[.float .f64 0, .float .f64 0, .float .f64 0, .float .f64 0, .float .f64 0, .float .f64 0, .float .f64 0, .float .f64 0, .float .f64 0, .float .f64 0, .float .f64 0, .float .f64 0, .float .f64 0, .float .f64 0, .float .f64 0, .float .f64 0, .float .f64 0, .float .f64 0, .float .f64 0, .float .f64 0, .float .f64 0, .float .f64 0, .float .f64 0, .float .f64 0] 29) = V := ⟨_, rfl⟩
  have K83 := ka hV81 K71 D76
  have K84 := ka hV81 K72 D76
  have K85 := ka hV81 K73 D76
  have K86 := ka hV81 K74 D76
  have K87 := kn hV81 hg80
  have HB88 := hba hV81 HB75 D76
  have D89 := dr V79
  clear K71 K72 K73 K74 HB75 D76
  have Y90 := Lib.hid (And.intro Y63.out Y82.out)
  clear Y63 Y82
  go_wp2_with fail
  clear hg80 hV81
  refine wp_loop_rounds 4 ?_
  rw [rounds_succ]
  go_wp2_with fail
  refine wp_loop_rounds 4 ?_
  rw [rounds_succ]
  go_wp2_with fail
  refine wp_region_held (S := (fun w' => True ∧ CellsL w' (g4) 0 [.float .f64 p0.lo, .float .f64 p0.hi] ∧ CellsL w' (g65) 0 [.float .f64 p3.x.lo, .float .f64 p3.x.hi])) (by kernel_rfl) ?_
  change wpAnyH _ _ _ _ _ _ _ _ (World.drew _)
  obtain ⟨wd91, hwd⟩ : ∃ x, x = World.drew V79 := ⟨_, rfl⟩
  rw [← hwd]
  have D92 := Lib.hid (hwd ▸ Below.drew D89.out : Below V79.heap.size V79 wd91)
  clear D89 hwd
  have hS93 : True ∧ CellsL wd91 (g4) 0 [.float .f64 p0.lo, .float .f64 p0.hi] ∧ CellsL wd91 (g65) 0 [.float .f64 p3.x.lo, .float .f64 p3.x.hi] := ⟨trivial, (kb K85 D92).cellsL 0 [.float .f64 p0.lo, .float .f64 p0.hi] rfl, (kb K86 D92).cellsL 0 [.float .f64 p3.x.lo, .float .f64 p3.x.hi] rfl⟩
  refine tk 0 (bm 13 1) ?vq94 ?aq94 rfl (by kernel_rfl) (fun _ _ _ h => h) (by kernel_rfl) ?hq94 ?pq94 hS93 ?rq94
  case hq94 => (intro w hS; go_simp; try with_reducible rfl)
  case pq94 => (go_simp; try with_reducible rfl)
  refine tk 1 (bm 13 3) ?vq95 ?aq95 rfl (by kernel_rfl) (fun _ _ _ h => h) (by kernel_rfl) ?hq95 ?pq95 hS93 ?rq95
  case hq95 => (intro w hS; go_simp; try with_reducible rfl)
  case pq95 => (go_simp; try with_reducible rfl)
  refine tk 2 (bm 13 7) ?vq96 ?aq96 rfl (by kernel_rfl) (fun _ _ _ h => h) (by kernel_rfl) ?hq96 ?pq96 hS93 ?rq96
  case hq96 => (intro w hS; go_simp; try with_reducible rfl)
  case pq96 => (go_simp; try with_reducible rfl)
  refine tk 3 (bm 13 15) ?vq97 ?aq97 rfl (by kernel_rfl) (fun _ _ _ h => h) (by kernel_rfl) ?hq97 ?pq97 hS93 ?rq97
  case hq97 => (intro w hS; go_simp; try with_reducible rfl)
  case pq97 => (go_simp; try with_reducible rfl)
  refine tk 4 (bm 13 31) ?vq98 ?aq98 rfl (by kernel_rfl) (fun _ _ _ h => h) (by kernel_rfl) ?hq98 ?pq98 hS93 ?rq98
  case hq98 => (intro w hS; go_simp; try with_reducible rfl)
  case pq98 => (go_simp; try with_reducible rfl)
  refine tk 5 (bm 13 63) ?vq99 ?aq99 rfl (by kernel_rfl) (fun _ _ _ h => h) (by kernel_rfl) ?hq99 ?pq99 hS93 ?rq99
  case hq99 => (intro w hS; go_simp; try with_reducible rfl)
  case pq99 => (go_simp; try with_reducible rfl)
  refine tk 6 (bm 13 127) ?vq100 ?aq100 rfl (by kernel_rfl) (fun _ _ _ h => h) (by kernel_rfl) ?hq100 ?pq100 hS93 ?rq100
  case hq100 => (intro w hS; dsimp only [CellsL, al, vl, Nat.reduceAdd] at hS; go_simp; try with_reducible rfl)
  case pq100 => (go_simp; try with_reducible rfl)
  refine tk 7 (bm 13 255) ?vq101 ?aq101 rfl (by kernel_rfl) (fun _ _ _ h => h) (by kernel_rfl) ?hq101 ?pq101 hS93 ?rq101
  case hq101 => (intro w hS; dsimp only [CellsL, al, vl, Nat.reduceAdd] at hS; go_simp; try with_reducible rfl)
  case pq101 => (go_simp; try with_reducible rfl)
  refine tk 9 (bm 13 767) ?vq102 ?aq102 rfl (by kernel_rfl) (fun _ _ _ h => h) (by kernel_rfl) ?hq102 ?pq102 hS93 ?rq102
  case hq102 => (intro w hS; go_simp; try with_reducible rfl)
  case pq102 => (go_simp; try with_reducible rfl)
  refine tk 10 (bm 13 1791) ?vq103 ?aq103 rfl (by kernel_rfl) (fun _ _ _ h => h) (by kernel_rfl) ?hq103 ?pq103 hS93 ?rq103
  case hq103 => (intro w hS; go_simp; try with_reducible rfl)
  case pq103 => (go_simp; try with_reducible rfl)
  refine wpAnyH_oneN (i := 8) (l' := bm 13 2047) rfl (by kernel_rfl) (by kernel_rfl) (by kernel_rfl) (fun K hK => ?_)
  go_simp
  go_at_call 71
  refine (C6.out _).mono ?_
  rintro r w104 ⟨rfl, hb⟩
  dsimp only
  have D105 := ds D92 hb
  clear D92
  clear hb
  have hS106 : True ∧ CellsL w104 (g4) 0 [.float .f64 p0.lo, .float .f64 p0.hi] ∧ CellsL w104 (g65) 0 [.float .f64 p3.x.lo, .float .f64 p3.x.hi] := ⟨trivial, (kb K85 D105).cellsL 0 [.float .f64 p0.lo, .float .f64 p0.hi] rfl, (kb K86 D105).cellsL 0 [.float .f64 p3.x.lo, .float .f64 p3.x.hi] rfl⟩
  refine hK _ _ hS106 ?_
  clear hK K hS93
  refine tk 11 (bm 13 4095) ?vq107 ?aq107 rfl (by kernel_rfl) (fun _ _ _ h => h) (by kernel_rfl) ?hq107 ?pq107 hS106 ?rq107
  case hq107 => (intro w hS; go_simp; try with_reducible rfl)
  case pq107 => (go_simp; try with_reducible rfl)
  refine wpAnyH_oneN (i := 12) (l' := bm 13 8191) rfl (by kernel_rfl) (by kernel_rfl) (by kernel_rfl) (fun K hK => ?_)
  have f110 := (kb K87 D105).cellsL 0 [.float .f64 0, .float .f64 0] rfl
  dsimp only [CellsL, al, vl, Nat.reduceAdd] at f110
  have u111 := (kb K87 D105).unfrozen
  obtain ⟨V108, hV109⟩ : ∃ V, setCells w104 (g78) 0 [.float .f64 p6.lo, .float .f64 p6.hi] = V := ⟨_, rfl⟩
  have hv112 := hV109
  simp only [setCells, Nat.reduceAdd] at hv112
  have K113 := kf hV109 K83 D105 (by have := Y90.out; omega)
  have K114 := kf hV109 K84 D105 (by have := Y90.out; omega)
  have K115 := kf hV109 K85 D105 (by have := Y90.out; omega)
  have K116 := kf hV109 K86 D105 (by have := Y90.out; omega)
  have K117 := Lib.hid (show Blk V108 (g78) 29 #[.float .f64 p6.lo, .float .f64 p6.hi, .float .f64 0, .float .f64 0, .float .f64 0, .float .f64 0, .float .f64 0, .float .f64 0, .float .f64 0, .float .f64 0, .float .f64 0, .float .f64 0, .float .f64 0, .float .f64 0, .float .f64 0, .float .f64 0, .float .f64 0, .float .f64 0, .float .f64 0, .float .f64 0, .float .f64 0, .float .f64 0, .float .f64 0, .float .f64 0] from (ks hV109 K87 D105).out)
  have HB118 := hbs hV109 HB88 D105 (by have := Y90.out; omega)
  have D119 := dr V108
  clear K83 K84 K85 K86 K87 HB88 D105
  go_simp
  clear hV109 f110 u111 hv112
  have hS120 : True ∧ CellsL V108 (g4) 0 [.float .f64 p0.lo, .float .f64 p0.hi] ∧ CellsL V108 (g65) 0 [.float .f64 p3.x.lo, .float .f64 p3.x.hi] := ⟨trivial, (kb K115 D119).cellsL 0 [.float .f64 p0.lo, .float .f64 p0.hi] rfl, (kb K116 D119).cellsL 0 [.float .f64 p3.x.lo, .float .f64 p3.x.hi] rfl⟩
  refine hK _ _ hS120 ?_
  clear hK K hS106
  refine wpAnyH_done (by kernel_rfl) ?_ _
  clear hS120
  go_wp2_with fail
  rw [rounds_succ]
  go_wp2_with fail
  refine wp_region_held (S := (fun w' => True ∧ CellsL w' (g4) 0 [.float .f64 p0.lo, .float .f64 p0.hi] ∧ CellsL w' (g65) 6 [.float .f64 p4.x.lo, .float .f64 p4.x.hi])) (by kernel_rfl) ?_
  change wpAnyH _ _ _ _ _ _ _ _ (World.drew _)
  obtain ⟨wd121, hwd⟩ : ∃ x, x = World.drew V108 := ⟨_, rfl⟩
  rw [← hwd]
  have D122 := Lib.hid (hwd ▸ Below.drew D119.out : Below V108.heap.size V108 wd121)
  clear D119 hwd
  have hS123 : True ∧ CellsL wd121 (g4) 0 [.float .f64 p0.lo, .float .f64 p0.hi] ∧ CellsL wd121 (g65) 6 [.float .f64 p4.x.lo, .float .f64 p4.x.hi] := ⟨trivial, (kb K115 D122).cellsL 0 [.float .f64 p0.lo, .float .f64 p0.hi] rfl, (kb K116 D122).cellsL 6 [.float .f64 p4.x.lo, .float .f64 p4.x.hi] rfl⟩
  refine tk 0 (bm 13 1) ?vq124 ?aq124 rfl (by kernel_rfl) (fun _ _ _ h => h) (by kernel_rfl) ?hq124 ?pq124 hS123 ?rq124
  case hq124 => (intro w hS; go_simp; try with_reducible rfl)
  case pq124 => (go_simp; try with_reducible rfl)
  refine tk 1 (bm 13 3) ?vq125 ?aq125 rfl (by kernel_rfl) (fun _ _ _ h => h) (by kernel_rfl) ?hq125 ?pq125 hS123 ?rq125
  case hq125 => (intro w hS; go_simp; try with_reducible rfl)
  case pq125 => (go_simp; try with_reducible rfl)
  refine tk 2 (bm 13 7) ?vq126 ?aq126 rfl (by kernel_rfl) (fun _ _ _ h => h) (by kernel_rfl) ?hq126 ?pq126 hS123 ?rq126
  case hq126 => (intro w hS; go_simp; try with_reducible rfl)
  case pq126 => (go_simp; try with_reducible rfl)
  refine tk 3 (bm 13 15) ?vq127 ?aq127 rfl (by kernel_rfl) (fun _ _ _ h => h) (by kernel_rfl) ?hq127 ?pq127 hS123 ?rq127
  case hq127 => (intro w hS; go_simp; try with_reducible rfl)
  case pq127 => (go_simp; try with_reducible rfl)
  refine tk 4 (bm 13 31) ?vq128 ?aq128 rfl (by kernel_rfl) (fun _ _ _ h => h) (by kernel_rfl) ?hq128 ?pq128 hS123 ?rq128
  case hq128 => (intro w hS; go_simp; try with_reducible rfl)
  case pq128 => (go_simp; try with_reducible rfl)
  refine tk 5 (bm 13 63) ?vq129 ?aq129 rfl (by kernel_rfl) (fun _ _ _ h => h) (by kernel_rfl) ?hq129 ?pq129 hS123 ?rq129
  case hq129 => (intro w hS; go_simp; try with_reducible rfl)
  case pq129 => (go_simp; try with_reducible rfl)
  refine tk 6 (bm 13 127) ?vq130 ?aq130 rfl (by kernel_rfl) (fun _ _ _ h => h) (by kernel_rfl) ?hq130 ?pq130 hS123 ?rq130
  case hq130 => (intro w hS; dsimp only [CellsL, al, vl, Nat.reduceAdd] at hS; go_simp; try with_reducible rfl)
  case pq130 => (go_simp; try with_reducible rfl)
  refine tk 7 (bm 13 255) ?vq131 ?aq131 rfl (by kernel_rfl) (fun _ _ _ h => h) (by kernel_rfl) ?hq131 ?pq131 hS123 ?rq131
  case hq131 => (intro w hS; dsimp only [CellsL, al, vl, Nat.reduceAdd] at hS; go_simp; try with_reducible rfl)
  case pq131 => (go_simp; try with_reducible rfl)
  refine tk 9 (bm 13 767) ?vq132 ?aq132 rfl (by kernel_rfl) (fun _ _ _ h => h) (by kernel_rfl) ?hq132 ?pq132 hS123 ?rq132
  case hq132 => (intro w hS; go_simp; try with_reducible rfl)
  case pq132 => (go_simp; try with_reducible rfl)
  refine tk 10 (bm 13 1791) ?vq133 ?aq133 rfl (by kernel_rfl) (fun _ _ _ h => h) (by kernel_rfl) ?hq133 ?pq133 hS123 ?rq133
  case hq133 => (intro w hS; go_simp; try with_reducible rfl)
  case pq133 => (go_simp; try with_reducible rfl)
  refine wpAnyH_oneN (i := 8) (l' := bm 13 2047) rfl (by kernel_rfl) (by kernel_rfl) (by kernel_rfl) (fun K hK => ?_)
  go_simp
  go_at_call 71
  refine (C7.out _).mono ?_
  rintro r w134 ⟨rfl, hb⟩
  dsimp only
  have D135 := ds D122 hb
  clear D122
  clear hb
  have hS136 : True ∧ CellsL w134 (g4) 0 [.float .f64 p0.lo, .float .f64 p0.hi] ∧ CellsL w134 (g65) 6 [.float .f64 p4.x.lo, .float .f64 p4.x.hi] := ⟨trivial, (kb K115 D135).cellsL 0 [.float .f64 p0.lo, .float .f64 p0.hi] rfl, (kb K116 D135).cellsL 6 [.float .f64 p4.x.lo, .float .f64 p4.x.hi] rfl⟩
  refine hK _ _ hS136 ?_
  clear hK K hS123
  refine tk 11 (bm 13 4095) ?vq137 ?aq137 rfl (by kernel_rfl) (fun _ _ _ h => h) (by kernel_rfl) ?hq137 ?pq137 hS136 ?rq137
  case hq137 => (intro w hS; go_simp; try with_reducible rfl)
  case pq137 => (go_simp; try with_reducible rfl)
  refine wpAnyH_oneN (i := 12) (l' := bm 13 8191) rfl (by kernel_rfl) (by kernel_rfl) (by kernel_rfl) (fun K hK => ?_)
  have f140 := (kb K117 D135).cellsL 2 [.float .f64 0, .float .f64 0] rfl
  dsimp only [CellsL, al, vl, Nat.reduceAdd] at f140
  have u141 := (kb K117 D135).unfrozen
  obtain ⟨V138, hV139⟩ : ∃ V, setCells w134 (g78) 2 [.float .f64 p7.lo, .float .f64 p7.hi] = V := ⟨_, rfl⟩
  have hv142 := hV139
  simp only [setCells, Nat.reduceAdd] at hv142
  have K143 := kf hV139 K113 D135 (by have := Y90.out; omega)
  have K144 := kf hV139 K114 D135 (by have := Y90.out; omega)
  have K145 := kf hV139 K115 D135 (by have := Y90.out; omega)
  have K146 := kf hV139 K116 D135 (by have := Y90.out; omega)
  have K147 := Lib.hid (show Blk V138 (g78) 29 #[.float .f64 p6.lo, .float .f64 p6.hi, .float .f64 p7.lo, .float .f64 p7.hi, .float .f64 0, .float .f64 0, .float .f64 0, .float .f64 0, .float .f64 0, .float .f64 0, .float .f64 0, .float .f64 0, .float .f64 0, .float .f64 0, .float .f64 0, .float .f64 0, .float .f64 0, .float .f64 0, .float .f64 0, .float .f64 0, .float .f64 0, .float .f64 0, .float .f64 0, .float .f64 0] from (ks hV139 K117 D135).out)
  have HB148 := hbs hV139 HB118 D135 (by have := Y90.out; omega)
  have D149 := dr V138
  clear K113 K114 K115 K116 K117 HB118 D135
  go_simp
  clear hV139 f140 u141 hv142
  have hS150 : True ∧ CellsL V138 (g4) 0 [.float .f64 p0.lo, .float .f64 p0.hi] ∧ CellsL V138 (g65) 6 [.float .f64 p4.x.lo, .float .f64 p4.x.hi] := ⟨trivial, (kb K145 D149).cellsL 0 [.float .f64 p0.lo, .float .f64 p0.hi] rfl, (kb K146 D149).cellsL 6 [.float .f64 p4.x.lo, .float .f64 p4.x.hi] rfl⟩
  refine hK _ _ hS150 ?_
  clear hK K hS136
  refine wpAnyH_done (by kernel_rfl) ?_ _
  clear hS150
  go_wp2_with fail
  rw [rounds_succ]
  go_wp2_with fail
  refine wp_region_held (S := (fun w' => True ∧ CellsL w' (g4) 0 [.float .f64 p0.lo, .float .f64 p0.hi] ∧ CellsL w' (g65) 12 [.float .f64 p5.x.lo, .float .f64 p5.x.hi])) (by kernel_rfl) ?_
  change wpAnyH _ _ _ _ _ _ _ _ (World.drew _)
  obtain ⟨wd151, hwd⟩ : ∃ x, x = World.drew V138 := ⟨_, rfl⟩
  rw [← hwd]
  have D152 := Lib.hid (hwd ▸ Below.drew D149.out : Below V138.heap.size V138 wd151)
  clear D149 hwd
  have hS153 : True ∧ CellsL wd151 (g4) 0 [.float .f64 p0.lo, .float .f64 p0.hi] ∧ CellsL wd151 (g65) 12 [.float .f64 p5.x.lo, .float .f64 p5.x.hi] := ⟨trivial, (kb K145 D152).cellsL 0 [.float .f64 p0.lo, .float .f64 p0.hi] rfl, (kb K146 D152).cellsL 12 [.float .f64 p5.x.lo, .float .f64 p5.x.hi] rfl⟩
  refine tk 0 (bm 13 1) ?vq154 ?aq154 rfl (by kernel_rfl) (fun _ _ _ h => h) (by kernel_rfl) ?hq154 ?pq154 hS153 ?rq154
  case hq154 => (intro w hS; go_simp; try with_reducible rfl)
  case pq154 => (go_simp; try with_reducible rfl)
  refine tk 1 (bm 13 3) ?vq155 ?aq155 rfl (by kernel_rfl) (fun _ _ _ h => h) (by kernel_rfl) ?hq155 ?pq155 hS153 ?rq155
  case hq155 => (intro w hS; go_simp; try with_reducible rfl)
  case pq155 => (go_simp; try with_reducible rfl)
  refine tk 2 (bm 13 7) ?vq156 ?aq156 rfl (by kernel_rfl) (fun _ _ _ h => h) (by kernel_rfl) ?hq156 ?pq156 hS153 ?rq156
  case hq156 => (intro w hS; go_simp; try with_reducible rfl)
  case pq156 => (go_simp; try with_reducible rfl)
  refine tk 3 (bm 13 15) ?vq157 ?aq157 rfl (by kernel_rfl) (fun _ _ _ h => h) (by kernel_rfl) ?hq157 ?pq157 hS153 ?rq157
  case hq157 => (intro w hS; go_simp; try with_reducible rfl)
  case pq157 => (go_simp; try with_reducible rfl)
  refine tk 4 (bm 13 31) ?vq158 ?aq158 rfl (by kernel_rfl) (fun _ _ _ h => h) (by kernel_rfl) ?hq158 ?pq158 hS153 ?rq158
  case hq158 => (intro w hS; go_simp; try with_reducible rfl)
  case pq158 => (go_simp; try with_reducible rfl)
  refine tk 5 (bm 13 63) ?vq159 ?aq159 rfl (by kernel_rfl) (fun _ _ _ h => h) (by kernel_rfl) ?hq159 ?pq159 hS153 ?rq159
  case hq159 => (intro w hS; go_simp; try with_reducible rfl)
  case pq159 => (go_simp; try with_reducible rfl)
  refine tk 6 (bm 13 127) ?vq160 ?aq160 rfl (by kernel_rfl) (fun _ _ _ h => h) (by kernel_rfl) ?hq160 ?pq160 hS153 ?rq160
  case hq160 => (intro w hS; dsimp only [CellsL, al, vl, Nat.reduceAdd] at hS; go_simp; try with_reducible rfl)
  case pq160 => (go_simp; try with_reducible rfl)
  refine tk 7 (bm 13 255) ?vq161 ?aq161 rfl (by kernel_rfl) (fun _ _ _ h => h) (by kernel_rfl) ?hq161 ?pq161 hS153 ?rq161
  case hq161 => (intro w hS; dsimp only [CellsL, al, vl, Nat.reduceAdd] at hS; go_simp; try with_reducible rfl)
  case pq161 => (go_simp; try with_reducible rfl)
  refine tk 9 (bm 13 767) ?vq162 ?aq162 rfl (by kernel_rfl) (fun _ _ _ h => h) (by kernel_rfl) ?hq162 ?pq162 hS153 ?rq162
  case hq162 => (intro w hS; go_simp; try with_reducible rfl)
  case pq162 => (go_simp; try with_reducible rfl)
  refine tk 10 (bm 13 1791) ?vq163 ?aq163 rfl (by kernel_rfl) (fun _ _ _ h => h) (by kernel_rfl) ?hq163 ?pq163 hS153 ?rq163
  case hq163 => (intro w hS; go_simp; try with_reducible rfl)
  case pq163 => (go_simp; try with_reducible rfl)
  refine wpAnyH_oneN (i := 8) (l' := bm 13 2047) rfl (by kernel_rfl) (by kernel_rfl) (by kernel_rfl) (fun K hK => ?_)
  go_simp
  go_at_call 71
  refine (C8.out _).mono ?_
  rintro r w164 ⟨rfl, hb⟩
  dsimp only
  have D165 := ds D152 hb
  clear D152
  clear hb
  have hS166 : True ∧ CellsL w164 (g4) 0 [.float .f64 p0.lo, .float .f64 p0.hi] ∧ CellsL w164 (g65) 12 [.float .f64 p5.x.lo, .float .f64 p5.x.hi] := ⟨trivial, (kb K145 D165).cellsL 0 [.float .f64 p0.lo, .float .f64 p0.hi] rfl, (kb K146 D165).cellsL 12 [.float .f64 p5.x.lo, .float .f64 p5.x.hi] rfl⟩
  refine hK _ _ hS166 ?_
  clear hK K hS153
  refine tk 11 (bm 13 4095) ?vq167 ?aq167 rfl (by kernel_rfl) (fun _ _ _ h => h) (by kernel_rfl) ?hq167 ?pq167 hS166 ?rq167
  case hq167 => (intro w hS; go_simp; try with_reducible rfl)
  case pq167 => (go_simp; try with_reducible rfl)
  refine wpAnyH_oneN (i := 12) (l' := bm 13 8191) rfl (by kernel_rfl) (by kernel_rfl) (by kernel_rfl) (fun K hK => ?_)
  have f170 := (kb K147 D165).cellsL 4 [.float .f64 0, .float .f64 0] rfl
  dsimp only [CellsL, al, vl, Nat.reduceAdd] at f170
  have u171 := (kb K147 D165).unfrozen
  obtain ⟨V168, hV169⟩ : ∃ V, setCells w164 (g78) 4 [.float .f64 p8.lo, .float .f64 p8.hi] = V := ⟨_, rfl⟩
  have hv172 := hV169
  simp only [setCells, Nat.reduceAdd] at hv172
  have K173 := kf hV169 K143 D165 (by have := Y90.out; omega)
  have K174 := kf hV169 K144 D165 (by have := Y90.out; omega)
  have K175 := kf hV169 K145 D165 (by have := Y90.out; omega)
  have K176 := kf hV169 K146 D165 (by have := Y90.out; omega)
  have K177 := Lib.hid (show Blk V168 (g78) 29 #[.float .f64 p6.lo, .float .f64 p6.hi, .float .f64 p7.lo, .float .f64 p7.hi, .float .f64 p8.lo, .float .f64 p8.hi, .float .f64 0, .float .f64 0, .float .f64 0, .float .f64 0, .float .f64 0, .float .f64 0, .float .f64 0, .float .f64 0, .float .f64 0, .float .f64 0, .float .f64 0, .float .f64 0, .float .f64 0, .float .f64 0, .float .f64 0, .float .f64 0, .float .f64 0, .float .f64 0] from (ks hV169 K147 D165).out)
  have HB178 := hbs hV169 HB148 D165 (by have := Y90.out; omega)
  have D179 := dr V168
  clear K143 K144 K145 K146 K147 HB148 D165
  go_simp
  clear hV169 f170 u171 hv172
  have hS180 : True ∧ CellsL V168 (g4) 0 [.float .f64 p0.lo, .float .f64 p0.hi] ∧ CellsL V168 (g65) 12 [.float .f64 p5.x.lo, .float .f64 p5.x.hi] := ⟨trivial, (kb K175 D179).cellsL 0 [.float .f64 p0.lo, .float .f64 p0.hi] rfl, (kb K176 D179).cellsL 12 [.float .f64 p5.x.lo, .float .f64 p5.x.hi] rfl⟩
  refine hK _ _ hS180 ?_
  clear hK K hS166
  refine wpAnyH_done (by kernel_rfl) ?_ _
  clear hS180
  go_wp2_with fail
  rw [rounds_succ]
  go_wp2_with fail
  rw [rounds_succ]
  go_wp2_with fail
  refine wp_loop_rounds 4 ?_
  rw [rounds_succ]
  go_wp2_with fail
  refine wp_region_held (S := (fun w' => True ∧ CellsL w' (g4) 0 [.float .f64 p0.lo, .float .f64 p0.hi] ∧ CellsL w' (g65) 2 [.float .f64 p3.y.lo, .float .f64 p3.y.hi])) (by kernel_rfl) ?_
  change wpAnyH _ _ _ _ _ _ _ _ (World.drew _)
  obtain ⟨wd181, hwd⟩ : ∃ x, x = World.drew V168 := ⟨_, rfl⟩
  rw [← hwd]
  have D182 := Lib.hid (hwd ▸ Below.drew D179.out : Below V168.heap.size V168 wd181)
  clear D179 hwd
  have hS183 : True ∧ CellsL wd181 (g4) 0 [.float .f64 p0.lo, .float .f64 p0.hi] ∧ CellsL wd181 (g65) 2 [.float .f64 p3.y.lo, .float .f64 p3.y.hi] := ⟨trivial, (kb K175 D182).cellsL 0 [.float .f64 p0.lo, .float .f64 p0.hi] rfl, (kb K176 D182).cellsL 2 [.float .f64 p3.y.lo, .float .f64 p3.y.hi] rfl⟩
  refine tk 0 (bm 13 1) ?vq184 ?aq184 rfl (by kernel_rfl) (fun _ _ _ h => h) (by kernel_rfl) ?hq184 ?pq184 hS183 ?rq184
  case hq184 => (intro w hS; go_simp; try with_reducible rfl)
  case pq184 => (go_simp; try with_reducible rfl)
  refine tk 1 (bm 13 3) ?vq185 ?aq185 rfl (by kernel_rfl) (fun _ _ _ h => h) (by kernel_rfl) ?hq185 ?pq185 hS183 ?rq185
  case hq185 => (intro w hS; go_simp; try with_reducible rfl)
  case pq185 => (go_simp; try with_reducible rfl)
  refine tk 2 (bm 13 7) ?vq186 ?aq186 rfl (by kernel_rfl) (fun _ _ _ h => h) (by kernel_rfl) ?hq186 ?pq186 hS183 ?rq186
  case hq186 => (intro w hS; go_simp; try with_reducible rfl)
  case pq186 => (go_simp; try with_reducible rfl)
  refine tk 3 (bm 13 15) ?vq187 ?aq187 rfl (by kernel_rfl) (fun _ _ _ h => h) (by kernel_rfl) ?hq187 ?pq187 hS183 ?rq187
  case hq187 => (intro w hS; go_simp; try with_reducible rfl)
  case pq187 => (go_simp; try with_reducible rfl)
  refine tk 4 (bm 13 31) ?vq188 ?aq188 rfl (by kernel_rfl) (fun _ _ _ h => h) (by kernel_rfl) ?hq188 ?pq188 hS183 ?rq188
  case hq188 => (intro w hS; go_simp; try with_reducible rfl)
  case pq188 => (go_simp; try with_reducible rfl)
  refine tk 5 (bm 13 63) ?vq189 ?aq189 rfl (by kernel_rfl) (fun _ _ _ h => h) (by kernel_rfl) ?hq189 ?pq189 hS183 ?rq189
  case hq189 => (intro w hS; go_simp; try with_reducible rfl)
  case pq189 => (go_simp; try with_reducible rfl)
  refine tk 6 (bm 13 127) ?vq190 ?aq190 rfl (by kernel_rfl) (fun _ _ _ h => h) (by kernel_rfl) ?hq190 ?pq190 hS183 ?rq190
  case hq190 => (intro w hS; dsimp only [CellsL, al, vl, Nat.reduceAdd] at hS; go_simp; try with_reducible rfl)
  case pq190 => (go_simp; try with_reducible rfl)
  refine tk 7 (bm 13 255) ?vq191 ?aq191 rfl (by kernel_rfl) (fun _ _ _ h => h) (by kernel_rfl) ?hq191 ?pq191 hS183 ?rq191
  case hq191 => (intro w hS; dsimp only [CellsL, al, vl, Nat.reduceAdd] at hS; go_simp; try with_reducible rfl)
  case pq191 => (go_simp; try with_reducible rfl)
  refine tk 9 (bm 13 767) ?vq192 ?aq192 rfl (by kernel_rfl) (fun _ _ _ h => h) (by kernel_rfl) ?hq192 ?pq192 hS183 ?rq192
  case hq192 => (intro w hS; go_simp; try with_reducible rfl)
  case pq192 => (go_simp; try with_reducible rfl)
  refine tk 10 (bm 13 1791) ?vq193 ?aq193 rfl (by kernel_rfl) (fun _ _ _ h => h) (by kernel_rfl) ?hq193 ?pq193 hS183 ?rq193
  case hq193 => (intro w hS; go_simp; try with_reducible rfl)
  case pq193 => (go_simp; try with_reducible rfl)
  refine wpAnyH_oneN (i := 8) (l' := bm 13 2047) rfl (by kernel_rfl) (by kernel_rfl) (by kernel_rfl) (fun K hK => ?_)
  go_simp
  go_at_call 71
  refine (C9.out _).mono ?_
  rintro r w194 ⟨rfl, hb⟩
  dsimp only
  have D195 := ds D182 hb
  clear D182
  clear hb
  have hS196 : True ∧ CellsL w194 (g4) 0 [.float .f64 p0.lo, .float .f64 p0.hi] ∧ CellsL w194 (g65) 2 [.float .f64 p3.y.lo, .float .f64 p3.y.hi] := ⟨trivial, (kb K175 D195).cellsL 0 [.float .f64 p0.lo, .float .f64 p0.hi] rfl, (kb K176 D195).cellsL 2 [.float .f64 p3.y.lo, .float .f64 p3.y.hi] rfl⟩
  refine hK _ _ hS196 ?_
  clear hK K hS183
  refine tk 11 (bm 13 4095) ?vq197 ?aq197 rfl (by kernel_rfl) (fun _ _ _ h => h) (by kernel_rfl) ?hq197 ?pq197 hS196 ?rq197
  case hq197 => (intro w hS; go_simp; try with_reducible rfl)
  case pq197 => (go_simp; try with_reducible rfl)
  refine wpAnyH_oneN (i := 12) (l' := bm 13 8191) rfl (by kernel_rfl) (by kernel_rfl) (by kernel_rfl) (fun K hK => ?_)
  have f200 := (kb K177 D195).cellsL 6 [.float .f64 0, .float .f64 0] rfl
  dsimp only [CellsL, al, vl, Nat.reduceAdd] at f200
  have u201 := (kb K177 D195).unfrozen
  obtain ⟨V198, hV199⟩ : ∃ V, setCells w194 (g78) 6 [.float .f64 p9.lo, .float .f64 p9.hi] = V := ⟨_, rfl⟩
  have hv202 := hV199
  simp only [setCells, Nat.reduceAdd] at hv202
  have K203 := kf hV199 K173 D195 (by have := Y90.out; omega)
  have K204 := kf hV199 K174 D195 (by have := Y90.out; omega)
  have K205 := kf hV199 K175 D195 (by have := Y90.out; omega)
  have K206 := kf hV199 K176 D195 (by have := Y90.out; omega)
  have K207 := Lib.hid (show Blk V198 (g78) 29 #[.float .f64 p6.lo, .float .f64 p6.hi, .float .f64 p7.lo, .float .f64 p7.hi, .float .f64 p8.lo, .float .f64 p8.hi, .float .f64 p9.lo, .float .f64 p9.hi, .float .f64 0, .float .f64 0, .float .f64 0, .float .f64 0, .float .f64 0, .float .f64 0, .float .f64 0, .float .f64 0, .float .f64 0, .float .f64 0, .float .f64 0, .float .f64 0, .float .f64 0, .float .f64 0, .float .f64 0, .float .f64 0] from (ks hV199 K177 D195).out)
  have HB208 := hbs hV199 HB178 D195 (by have := Y90.out; omega)
  have D209 := dr V198
  clear K173 K174 K175 K176 K177 HB178 D195
  go_simp
  clear hV199 f200 u201 hv202
  have hS210 : True ∧ CellsL V198 (g4) 0 [.float .f64 p0.lo, .float .f64 p0.hi] ∧ CellsL V198 (g65) 2 [.float .f64 p3.y.lo, .float .f64 p3.y.hi] := ⟨trivial, (kb K205 D209).cellsL 0 [.float .f64 p0.lo, .float .f64 p0.hi] rfl, (kb K206 D209).cellsL 2 [.float .f64 p3.y.lo, .float .f64 p3.y.hi] rfl⟩
  refine hK _ _ hS210 ?_
  clear hK K hS196
  refine wpAnyH_done (by kernel_rfl) ?_ _
  clear hS210
  go_wp2_with fail
  rw [rounds_succ]
  go_wp2_with fail
  refine wp_region_held (S := (fun w' => True ∧ CellsL w' (g4) 0 [.float .f64 p0.lo, .float .f64 p0.hi] ∧ CellsL w' (g65) 8 [.float .f64 p4.y.lo, .float .f64 p4.y.hi])) (by kernel_rfl) ?_
  change wpAnyH _ _ _ _ _ _ _ _ (World.drew _)
  obtain ⟨wd211, hwd⟩ : ∃ x, x = World.drew V198 := ⟨_, rfl⟩
  rw [← hwd]
  have D212 := Lib.hid (hwd ▸ Below.drew D209.out : Below V198.heap.size V198 wd211)
  clear D209 hwd
  have hS213 : True ∧ CellsL wd211 (g4) 0 [.float .f64 p0.lo, .float .f64 p0.hi] ∧ CellsL wd211 (g65) 8 [.float .f64 p4.y.lo, .float .f64 p4.y.hi] := ⟨trivial, (kb K205 D212).cellsL 0 [.float .f64 p0.lo, .float .f64 p0.hi] rfl, (kb K206 D212).cellsL 8 [.float .f64 p4.y.lo, .float .f64 p4.y.hi] rfl⟩
  refine tk 0 (bm 13 1) ?vq214 ?aq214 rfl (by kernel_rfl) (fun _ _ _ h => h) (by kernel_rfl) ?hq214 ?pq214 hS213 ?rq214
  case hq214 => (intro w hS; go_simp; try with_reducible rfl)
  case pq214 => (go_simp; try with_reducible rfl)
  refine tk 1 (bm 13 3) ?vq215 ?aq215 rfl (by kernel_rfl) (fun _ _ _ h => h) (by kernel_rfl) ?hq215 ?pq215 hS213 ?rq215
  case hq215 => (intro w hS; go_simp; try with_reducible rfl)
  case pq215 => (go_simp; try with_reducible rfl)
  refine tk 2 (bm 13 7) ?vq216 ?aq216 rfl (by kernel_rfl) (fun _ _ _ h => h) (by kernel_rfl) ?hq216 ?pq216 hS213 ?rq216
  case hq216 => (intro w hS; go_simp; try with_reducible rfl)
  case pq216 => (go_simp; try with_reducible rfl)
  refine tk 3 (bm 13 15) ?vq217 ?aq217 rfl (by kernel_rfl) (fun _ _ _ h => h) (by kernel_rfl) ?hq217 ?pq217 hS213 ?rq217
  case hq217 => (intro w hS; go_simp; try with_reducible rfl)
  case pq217 => (go_simp; try with_reducible rfl)
  refine tk 4 (bm 13 31) ?vq218 ?aq218 rfl (by kernel_rfl) (fun _ _ _ h => h) (by kernel_rfl) ?hq218 ?pq218 hS213 ?rq218
  case hq218 => (intro w hS; go_simp; try with_reducible rfl)
  case pq218 => (go_simp; try with_reducible rfl)
  refine tk 5 (bm 13 63) ?vq219 ?aq219 rfl (by kernel_rfl) (fun _ _ _ h => h) (by kernel_rfl) ?hq219 ?pq219 hS213 ?rq219
  case hq219 => (intro w hS; go_simp; try with_reducible rfl)
  case pq219 => (go_simp; try with_reducible rfl)
  refine tk 6 (bm 13 127) ?vq220 ?aq220 rfl (by kernel_rfl) (fun _ _ _ h => h) (by kernel_rfl) ?hq220 ?pq220 hS213 ?rq220
  case hq220 => (intro w hS; dsimp only [CellsL, al, vl, Nat.reduceAdd] at hS; go_simp; try with_reducible rfl)
  case pq220 => (go_simp; try with_reducible rfl)
  refine tk 7 (bm 13 255) ?vq221 ?aq221 rfl (by kernel_rfl) (fun _ _ _ h => h) (by kernel_rfl) ?hq221 ?pq221 hS213 ?rq221
  case hq221 => (intro w hS; dsimp only [CellsL, al, vl, Nat.reduceAdd] at hS; go_simp; try with_reducible rfl)
  case pq221 => (go_simp; try with_reducible rfl)
  refine tk 9 (bm 13 767) ?vq222 ?aq222 rfl (by kernel_rfl) (fun _ _ _ h => h) (by kernel_rfl) ?hq222 ?pq222 hS213 ?rq222
  case hq222 => (intro w hS; go_simp; try with_reducible rfl)
  case pq222 => (go_simp; try with_reducible rfl)
  refine tk 10 (bm 13 1791) ?vq223 ?aq223 rfl (by kernel_rfl) (fun _ _ _ h => h) (by kernel_rfl) ?hq223 ?pq223 hS213 ?rq223
  case hq223 => (intro w hS; go_simp; try with_reducible rfl)
  case pq223 => (go_simp; try with_reducible rfl)
  refine wpAnyH_oneN (i := 8) (l' := bm 13 2047) rfl (by kernel_rfl) (by kernel_rfl) (by kernel_rfl) (fun K hK => ?_)
  go_simp
  go_at_call 71
  refine (C10.out _).mono ?_
  rintro r w224 ⟨rfl, hb⟩
  dsimp only
  have D225 := ds D212 hb
  clear D212
  clear hb
  have hS226 : True ∧ CellsL w224 (g4) 0 [.float .f64 p0.lo, .float .f64 p0.hi] ∧ CellsL w224 (g65) 8 [.float .f64 p4.y.lo, .float .f64 p4.y.hi] := ⟨trivial, (kb K205 D225).cellsL 0 [.float .f64 p0.lo, .float .f64 p0.hi] rfl, (kb K206 D225).cellsL 8 [.float .f64 p4.y.lo, .float .f64 p4.y.hi] rfl⟩
  refine hK _ _ hS226 ?_
  clear hK K hS213
  refine tk 11 (bm 13 4095) ?vq227 ?aq227 rfl (by kernel_rfl) (fun _ _ _ h => h) (by kernel_rfl) ?hq227 ?pq227 hS226 ?rq227
  case hq227 => (intro w hS; go_simp; try with_reducible rfl)
  case pq227 => (go_simp; try with_reducible rfl)
  refine wpAnyH_oneN (i := 12) (l' := bm 13 8191) rfl (by kernel_rfl) (by kernel_rfl) (by kernel_rfl) (fun K hK => ?_)
  have f230 := (kb K207 D225).cellsL 8 [.float .f64 0, .float .f64 0] rfl
  dsimp only [CellsL, al, vl, Nat.reduceAdd] at f230
  have u231 := (kb K207 D225).unfrozen
  obtain ⟨V228, hV229⟩ : ∃ V, setCells w224 (g78) 8 [.float .f64 p10.lo, .float .f64 p10.hi] = V := ⟨_, rfl⟩
  have hv232 := hV229
  simp only [setCells, Nat.reduceAdd] at hv232
  have K233 := kf hV229 K203 D225 (by have := Y90.out; omega)
  have K234 := kf hV229 K204 D225 (by have := Y90.out; omega)
  have K235 := kf hV229 K205 D225 (by have := Y90.out; omega)
  have K236 := kf hV229 K206 D225 (by have := Y90.out; omega)
  have K237 := Lib.hid (show Blk V228 (g78) 29 #[.float .f64 p6.lo, .float .f64 p6.hi, .float .f64 p7.lo, .float .f64 p7.hi, .float .f64 p8.lo, .float .f64 p8.hi, .float .f64 p9.lo, .float .f64 p9.hi, .float .f64 p10.lo, .float .f64 p10.hi, .float .f64 0, .float .f64 0, .float .f64 0, .float .f64 0, .float .f64 0, .float .f64 0, .float .f64 0, .float .f64 0, .float .f64 0, .float .f64 0, .float .f64 0, .float .f64 0, .float .f64 0, .float .f64 0] from (ks hV229 K207 D225).out)
  have HB238 := hbs hV229 HB208 D225 (by have := Y90.out; omega)
  have D239 := dr V228
  clear K203 K204 K205 K206 K207 HB208 D225
  go_simp
  clear hV229 f230 u231 hv232
  have hS240 : True ∧ CellsL V228 (g4) 0 [.float .f64 p0.lo, .float .f64 p0.hi] ∧ CellsL V228 (g65) 8 [.float .f64 p4.y.lo, .float .f64 p4.y.hi] := ⟨trivial, (kb K235 D239).cellsL 0 [.float .f64 p0.lo, .float .f64 p0.hi] rfl, (kb K236 D239).cellsL 8 [.float .f64 p4.y.lo, .float .f64 p4.y.hi] rfl⟩
  refine hK _ _ hS240 ?_
  clear hK K hS226
  refine wpAnyH_done (by kernel_rfl) ?_ _
  clear hS240
  go_wp2_with fail
  rw [rounds_succ]
  go_wp2_with fail
  refine wp_region_held (S := (fun w' => True ∧ CellsL w' (g4) 0 [.float .f64 p0.lo, .float .f64 p0.hi] ∧ CellsL w' (g65) 14 [.float .f64 p5.y.lo, .float .f64 p5.y.hi])) (by kernel_rfl) ?_
  change wpAnyH _ _ _ _ _ _ _ _ (World.drew _)
  obtain ⟨wd241, hwd⟩ : ∃ x, x = World.drew V228 := ⟨_, rfl⟩
  rw [← hwd]
  have D242 := Lib.hid (hwd ▸ Below.drew D239.out : Below V228.heap.size V228 wd241)
  clear D239 hwd
  have hS243 : True ∧ CellsL wd241 (g4) 0 [.float .f64 p0.lo, .float .f64 p0.hi] ∧ CellsL wd241 (g65) 14 [.float .f64 p5.y.lo, .float .f64 p5.y.hi] := ⟨trivial, (kb K235 D242).cellsL 0 [.float .f64 p0.lo, .float .f64 p0.hi] rfl, (kb K236 D242).cellsL 14 [.float .f64 p5.y.lo, .float .f64 p5.y.hi] rfl⟩
  refine tk 0 (bm 13 1) ?vq244 ?aq244 rfl (by kernel_rfl) (fun _ _ _ h => h) (by kernel_rfl) ?hq244 ?pq244 hS243 ?rq244
  case hq244 => (intro w hS; go_simp; try with_reducible rfl)
  case pq244 => (go_simp; try with_reducible rfl)
  refine tk 1 (bm 13 3) ?vq245 ?aq245 rfl (by kernel_rfl) (fun _ _ _ h => h) (by kernel_rfl) ?hq245 ?pq245 hS243 ?rq245
  case hq245 => (intro w hS; go_simp; try with_reducible rfl)
  case pq245 => (go_simp; try with_reducible rfl)
  refine tk 2 (bm 13 7) ?vq246 ?aq246 rfl (by kernel_rfl) (fun _ _ _ h => h) (by kernel_rfl) ?hq246 ?pq246 hS243 ?rq246
  case hq246 => (intro w hS; go_simp; try with_reducible rfl)
  case pq246 => (go_simp; try with_reducible rfl)
  refine tk 3 (bm 13 15) ?vq247 ?aq247 rfl (by kernel_rfl) (fun _ _ _ h => h) (by kernel_rfl) ?hq247 ?pq247 hS243 ?rq247
  case hq247 => (intro w hS; go_simp; try with_reducible rfl)
  case pq247 => (go_simp; try with_reducible rfl)
  refine tk 4 (bm 13 31) ?vq248 ?aq248 rfl (by kernel_rfl) (fun _ _ _ h => h) (by kernel_rfl) ?hq248 ?pq248 hS243 ?rq248
  case hq248 => (intro w hS; go_simp; try with_reducible rfl)
  case pq248 => (go_simp; try with_reducible rfl)
  refine tk 5 (bm 13 63) ?vq249 ?aq249 rfl (by kernel_rfl) (fun _ _ _ h => h) (by kernel_rfl) ?hq249 ?pq249 hS243 ?rq249
  case hq249 => (intro w hS; go_simp; try with_reducible rfl)
  case pq249 => (go_simp; try with_reducible rfl)
  refine tk 6 (bm 13 127) ?vq250 ?aq250 rfl (by kernel_rfl) (fun _ _ _ h => h) (by kernel_rfl) ?hq250 ?pq250 hS243 ?rq250
  case hq250 => (intro w hS; dsimp only [CellsL, al, vl, Nat.reduceAdd] at hS; go_simp; try with_reducible rfl)
  case pq250 => (go_simp; try with_reducible rfl)
  refine tk 7 (bm 13 255) ?vq251 ?aq251 rfl (by kernel_rfl) (fun _ _ _ h => h) (by kernel_rfl) ?hq251 ?pq251 hS243 ?rq251
  case hq251 => (intro w hS; dsimp only [CellsL, al, vl, Nat.reduceAdd] at hS; go_simp; try with_reducible rfl)
  case pq251 => (go_simp; try with_reducible rfl)
  refine tk 9 (bm 13 767) ?vq252 ?aq252 rfl (by kernel_rfl) (fun _ _ _ h => h) (by kernel_rfl) ?hq252 ?pq252 hS243 ?rq252
  case hq252 => (intro w hS; go_simp; try with_reducible rfl)
  case pq252 => (go_simp; try with_reducible rfl)
  refine tk 10 (bm 13 1791) ?vq253 ?aq253 rfl (by kernel_rfl) (fun _ _ _ h => h) (by kernel_rfl) ?hq253 ?pq253 hS243 ?rq253
  case hq253 => (intro w hS; go_simp; try with_reducible rfl)
  case pq253 => (go_simp; try with_reducible rfl)
  refine wpAnyH_oneN (i := 8) (l' := bm 13 2047) rfl (by kernel_rfl) (by kernel_rfl) (by kernel_rfl) (fun K hK => ?_)
  go_simp
  go_at_call 71
  refine (C11.out _).mono ?_
  rintro r w254 ⟨rfl, hb⟩
  dsimp only
  have D255 := ds D242 hb
  clear D242
  clear hb
  have hS256 : True ∧ CellsL w254 (g4) 0 [.float .f64 p0.lo, .float .f64 p0.hi] ∧ CellsL w254 (g65) 14 [.float .f64 p5.y.lo, .float .f64 p5.y.hi] := ⟨trivial, (kb K235 D255).cellsL 0 [.float .f64 p0.lo, .float .f64 p0.hi] rfl, (kb K236 D255).cellsL 14 [.float .f64 p5.y.lo, .float .f64 p5.y.hi] rfl⟩
  refine hK _ _ hS256 ?_
  clear hK K hS243
  refine tk 11 (bm 13 4095) ?vq257 ?aq257 rfl (by kernel_rfl) (fun _ _ _ h => h) (by kernel_rfl) ?hq257 ?pq257 hS256 ?rq257
  case hq257 => (intro w hS; go_simp; try with_reducible rfl)
  case pq257 => (go_simp; try with_reducible rfl)
  refine wpAnyH_oneN (i := 12) (l' := bm 13 8191) rfl (by kernel_rfl) (by kernel_rfl) (by kernel_rfl) (fun K hK => ?_)
  have f260 := (kb K237 D255).cellsL 10 [.float .f64 0, .float .f64 0] rfl
  dsimp only [CellsL, al, vl, Nat.reduceAdd] at f260
  have u261 := (kb K237 D255).unfrozen
  obtain ⟨V258, hV259⟩ : ∃ V, setCells w254 (g78) 10 [.float .f64 p11.lo, .float .f64 p11.hi] = V := ⟨_, rfl⟩
  have hv262 := hV259
  simp only [setCells, Nat.reduceAdd] at hv262
  have K263 := kf hV259 K233 D255 (by have := Y90.out; omega)
  have K264 := kf hV259 K234 D255 (by have := Y90.out; omega)
  have K265 := kf hV259 K235 D255 (by have := Y90.out; omega)
  have K266 := kf hV259 K236 D255 (by have := Y90.out; omega)
  have K267 := Lib.hid (show Blk V258 (g78) 29 #[.float .f64 p6.lo, .float .f64 p6.hi, .float .f64 p7.lo, .float .f64 p7.hi, .float .f64 p8.lo, .float .f64 p8.hi, .float .f64 p9.lo, .float .f64 p9.hi, .float .f64 p10.lo, .float .f64 p10.hi, .float .f64 p11.lo, .float .f64 p11.hi, .float .f64 0, .float .f64 0, .float .f64 0, .float .f64 0, .float .f64 0, .float .f64 0, .float .f64 0, .float .f64 0, .float .f64 0, .float .f64 0, .float .f64 0, .float .f64 0] from (ks hV259 K237 D255).out)
  have HB268 := hbs hV259 HB238 D255 (by have := Y90.out; omega)
  have D269 := dr V258
  clear K233 K234 K235 K236 K237 HB238 D255
  go_simp
  clear hV259 f260 u261 hv262
  have hS270 : True ∧ CellsL V258 (g4) 0 [.float .f64 p0.lo, .float .f64 p0.hi] ∧ CellsL V258 (g65) 14 [.float .f64 p5.y.lo, .float .f64 p5.y.hi] := ⟨trivial, (kb K265 D269).cellsL 0 [.float .f64 p0.lo, .float .f64 p0.hi] rfl, (kb K266 D269).cellsL 14 [.float .f64 p5.y.lo, .float .f64 p5.y.hi] rfl⟩
  refine hK _ _ hS270 ?_
  clear hK K hS256
  refine wpAnyH_done (by kernel_rfl) ?_ _
  clear hS270
  go_wp2_with fail
  rw [rounds_succ]
  go_wp2_with fail
  rw [rounds_succ]
  go_wp2_with fail
  refine wp_loop_rounds 4 ?_
  rw [rounds_succ]
  go_wp2_with fail
  refine wp_region_held (S := (fun w' => True ∧ CellsL w' (g4) 0 [.float .f64 p0.lo, .float .f64 p0.hi] ∧ CellsL w' (g65) 4 [.float .f64 p3.z.lo, .float .f64 p3.z.hi])) (by kernel_rfl) ?_
  change wpAnyH _ _ _ _ _ _ _ _ (World.drew _)
  obtain ⟨wd271, hwd⟩ : ∃ x, x = World.drew V258 := ⟨_, rfl⟩
  rw [← hwd]
  have D272 := Lib.hid (hwd ▸ Below.drew D269.out : Below V258.heap.size V258 wd271)
  clear D269 hwd
  have hS273 : True ∧ CellsL wd271 (g4) 0 [.float .f64 p0.lo, .float .f64 p0.hi] ∧ CellsL wd271 (g65) 4 [.float .f64 p3.z.lo, .float .f64 p3.z.hi] := ⟨trivial, (kb K265 D272).cellsL 0 [.float .f64 p0.lo, .float .f64 p0.hi] rfl, (kb K266 D272).cellsL 4 [.float .f64 p3.z.lo, .float .f64 p3.z.hi] rfl⟩
  refine tk 0 (bm 13 1) ?vq274 ?aq274 rfl (by kernel_rfl) (fun _ _ _ h => h) (by kernel_rfl) ?hq274 ?pq274 hS273 ?rq274
  case hq274 => (intro w hS; go_simp; try with_reducible rfl)
  case pq274 => (go_simp; try with_reducible rfl)
  refine tk 1 (bm 13 3) ?vq275 ?aq275 rfl (by kernel_rfl) (fun _ _ _ h => h) (by kernel_rfl) ?hq275 ?pq275 hS273 ?rq275
  case hq275 => (intro w hS; go_simp; try with_reducible rfl)
  case pq275 => (go_simp; try with_reducible rfl)
  refine tk 2 (bm 13 7) ?vq276 ?aq276 rfl (by kernel_rfl) (fun _ _ _ h => h) (by kernel_rfl) ?hq276 ?pq276 hS273 ?rq276
  case hq276 => (intro w hS; go_simp; try with_reducible rfl)
  case pq276 => (go_simp; try with_reducible rfl)
  refine tk 3 (bm 13 15) ?vq277 ?aq277 rfl (by kernel_rfl) (fun _ _ _ h => h) (by kernel_rfl) ?hq277 ?pq277 hS273 ?rq277
  case hq277 => (intro w hS; go_simp; try with_reducible rfl)
  case pq277 => (go_simp; try with_reducible rfl)
  refine tk 4 (bm 13 31) ?vq278 ?aq278 rfl (by kernel_rfl) (fun _ _ _ h => h) (by kernel_rfl) ?hq278 ?pq278 hS273 ?rq278
  case hq278 => (intro w hS; go_simp; try with_reducible rfl)
  case pq278 => (go_simp; try with_reducible rfl)
  refine tk 5 (bm 13 63) ?vq279 ?aq279 rfl (by kernel_rfl) (fun _ _ _ h => h) (by kernel_rfl) ?hq279 ?pq279 hS273 ?rq279
  case hq279 => (intro w hS; go_simp; try with_reducible rfl)
  case pq279 => (go_simp; try with_reducible rfl)
  refine tk 6 (bm 13 127) ?vq280 ?aq280 rfl (by kernel_rfl) (fun _ _ _ h => h) (by kernel_rfl) ?hq280 ?pq280 hS273 ?rq280
  case hq280 => (intro w hS; dsimp only [CellsL, al, vl, Nat.reduceAdd] at hS; go_simp; try with_reducible rfl)
  case pq280 => (go_simp; try with_reducible rfl)
  refine tk 7 (bm 13 255) ?vq281 ?aq281 rfl (by kernel_rfl) (fun _ _ _ h => h) (by kernel_rfl) ?hq281 ?pq281 hS273 ?rq281
  case hq281 => (intro w hS; dsimp only [CellsL, al, vl, Nat.reduceAdd] at hS; go_simp; try with_reducible rfl)
  case pq281 => (go_simp; try with_reducible rfl)
  refine tk 9 (bm 13 767) ?vq282 ?aq282 rfl (by kernel_rfl) (fun _ _ _ h => h) (by kernel_rfl) ?hq282 ?pq282 hS273 ?rq282
  case hq282 => (intro w hS; go_simp; try with_reducible rfl)
  case pq282 => (go_simp; try with_reducible rfl)
  refine tk 10 (bm 13 1791) ?vq283 ?aq283 rfl (by kernel_rfl) (fun _ _ _ h => h) (by kernel_rfl) ?hq283 ?pq283 hS273 ?rq283
  case hq283 => (intro w hS; go_simp; try with_reducible rfl)
  case pq283 => (go_simp; try with_reducible rfl)
  refine wpAnyH_oneN (i := 8) (l' := bm 13 2047) rfl (by kernel_rfl) (by kernel_rfl) (by kernel_rfl) (fun K hK => ?_)
  go_simp
  go_at_call 71
  refine (C12.out _).mono ?_
  rintro r w284 ⟨rfl, hb⟩
  dsimp only
  have D285 := ds D272 hb
  clear D272
  clear hb
  have hS286 : True ∧ CellsL w284 (g4) 0 [.float .f64 p0.lo, .float .f64 p0.hi] ∧ CellsL w284 (g65) 4 [.float .f64 p3.z.lo, .float .f64 p3.z.hi] := ⟨trivial, (kb K265 D285).cellsL 0 [.float .f64 p0.lo, .float .f64 p0.hi] rfl, (kb K266 D285).cellsL 4 [.float .f64 p3.z.lo, .float .f64 p3.z.hi] rfl⟩
  refine hK _ _ hS286 ?_
  clear hK K hS273
  refine tk 11 (bm 13 4095) ?vq287 ?aq287 rfl (by kernel_rfl) (fun _ _ _ h => h) (by kernel_rfl) ?hq287 ?pq287 hS286 ?rq287
  case hq287 => (intro w hS; go_simp; try with_reducible rfl)
  case pq287 => (go_simp; try with_reducible rfl)
  refine wpAnyH_oneN (i := 12) (l' := bm 13 8191) rfl (by kernel_rfl) (by kernel_rfl) (by kernel_rfl) (fun K hK => ?_)
  have f290 := (kb K267 D285).cellsL 12 [.float .f64 0, .float .f64 0] rfl
  dsimp only [CellsL, al, vl, Nat.reduceAdd] at f290
  have u291 := (kb K267 D285).unfrozen
  obtain ⟨V288, hV289⟩ : ∃ V, setCells w284 (g78) 12 [.float .f64 p12.lo, .float .f64 p12.hi] = V := ⟨_, rfl⟩
  have hv292 := hV289
  simp only [setCells, Nat.reduceAdd] at hv292
  have K293 := kf hV289 K263 D285 (by have := Y90.out; omega)
  have K294 := kf hV289 K264 D285 (by have := Y90.out; omega)
  have K295 := kf hV289 K265 D285 (by have := Y90.out; omega)
  have K296 := kf hV289 K266 D285 (by have := Y90.out; omega)
  have K297 := Lib.hid (show Blk V288 (g78) 29 #[.float .f64 p6.lo, .float .f64 p6.hi, .float .f64 p7.lo, .float .f64 p7.hi, .float .f64 p8.lo, .float .f64 p8.hi, .float .f64 p9.lo, .float .f64 p9.hi, .float .f64 p10.lo, .float .f64 p10.hi, .float .f64 p11.lo, .float .f64 p11.hi, .float .f64 p12.lo, .float .f64 p12.hi, .float .f64 0, .float .f64 0, .float .f64 0, .float .f64 0, .float .f64 0, .float .f64 0, .float .f64 0, .float .f64 0, .float .f64 0, .float .f64 0] from (ks hV289 K267 D285).out)
  have HB298 := hbs hV289 HB268 D285 (by have := Y90.out; omega)
  have D299 := dr V288
  clear K263 K264 K265 K266 K267 HB268 D285
  go_simp
  clear hV289 f290 u291 hv292
  have hS300 : True ∧ CellsL V288 (g4) 0 [.float .f64 p0.lo, .float .f64 p0.hi] ∧ CellsL V288 (g65) 4 [.float .f64 p3.z.lo, .float .f64 p3.z.hi] := ⟨trivial, (kb K295 D299).cellsL 0 [.float .f64 p0.lo, .float .f64 p0.hi] rfl, (kb K296 D299).cellsL 4 [.float .f64 p3.z.lo, .float .f64 p3.z.hi] rfl⟩
  refine hK _ _ hS300 ?_
  clear hK K hS286
  refine wpAnyH_done (by kernel_rfl) ?_ _
  clear hS300
  go_wp2_with fail
  rw [rounds_succ]
  go_wp2_with fail
  refine wp_region_held (S := (fun w' => True ∧ CellsL w' (g4) 0 [.float .f64 p0.lo, .float .f64 p0.hi] ∧ CellsL w' (g65) 10 [.float .f64 p4.z.lo, .float .f64 p4.z.hi])) (by kernel_rfl) ?_
  change wpAnyH _ _ _ _ _ _ _ _ (World.drew _)
  obtain ⟨wd301, hwd⟩ : ∃ x, x = World.drew V288 := ⟨_, rfl⟩
  rw [← hwd]
  have D302 := Lib.hid (hwd ▸ Below.drew D299.out : Below V288.heap.size V288 wd301)
  clear D299 hwd
  have hS303 : True ∧ CellsL wd301 (g4) 0 [.float .f64 p0.lo, .float .f64 p0.hi] ∧ CellsL wd301 (g65) 10 [.float .f64 p4.z.lo, .float .f64 p4.z.hi] := ⟨trivial, (kb K295 D302).cellsL 0 [.float .f64 p0.lo, .float .f64 p0.hi] rfl, (kb K296 D302).cellsL 10 [.float .f64 p4.z.lo, .float .f64 p4.z.hi] rfl⟩
  refine tk 0 (bm 13 1) ?vq304 ?aq304 rfl (by kernel_rfl) (fun _ _ _ h => h) (by kernel_rfl) ?hq304 ?pq304 hS303 ?rq304
  case hq304 => (intro w hS; go_simp; try with_reducible rfl)
  case pq304 => (go_simp; try with_reducible rfl)
  refine tk 1 (bm 13 3) ?vq305 ?aq305 rfl (by kernel_rfl) (fun _ _ _ h => h) (by kernel_rfl) ?hq305 ?pq305 hS303 ?rq305
  case hq305 => (intro w hS; go_simp; try with_reducible rfl)
  case pq305 => (go_simp; try with_reducible rfl)
  refine tk 2 (bm 13 7) ?vq306 ?aq306 rfl (by kernel_rfl) (fun _ _ _ h => h) (by kernel_rfl) ?hq306 ?pq306 hS303 ?rq306
  case hq306 => (intro w hS; go_simp; try with_reducible rfl)
  case pq306 => (go_simp; try with_reducible rfl)
  refine tk 3 (bm 13 15) ?vq307 ?aq307 rfl (by kernel_rfl) (fun _ _ _ h => h) (by kernel_rfl) ?hq307 ?pq307 hS303 ?rq307
  case hq307 => (intro w hS; go_simp; try with_reducible rfl)
  case pq307 => (go_simp; try with_reducible rfl)
  refine tk 4 (bm 13 31) ?vq308 ?aq308 rfl (by kernel_rfl) (fun _ _ _ h => h) (by kernel_rfl) ?hq308 ?pq308 hS303 ?rq308
  case hq308 => (intro w hS; go_simp; try with_reducible rfl)
  case pq308 => (go_simp; try with_reducible rfl)
  refine tk 5 (bm 13 63) ?vq309 ?aq309 rfl (by kernel_rfl) (fun _ _ _ h => h) (by kernel_rfl) ?hq309 ?pq309 hS303 ?rq309
  case hq309 => (intro w hS; go_simp; try with_reducible rfl)
  case pq309 => (go_simp; try with_reducible rfl)
  refine tk 6 (bm 13 127) ?vq310 ?aq310 rfl (by kernel_rfl) (fun _ _ _ h => h) (by kernel_rfl) ?hq310 ?pq310 hS303 ?rq310
  case hq310 => (intro w hS; dsimp only [CellsL, al, vl, Nat.reduceAdd] at hS; go_simp; try with_reducible rfl)
  case pq310 => (go_simp; try with_reducible rfl)
  refine tk 7 (bm 13 255) ?vq311 ?aq311 rfl (by kernel_rfl) (fun _ _ _ h => h) (by kernel_rfl) ?hq311 ?pq311 hS303 ?rq311
  case hq311 => (intro w hS; dsimp only [CellsL, al, vl, Nat.reduceAdd] at hS; go_simp; try with_reducible rfl)
  case pq311 => (go_simp; try with_reducible rfl)
  refine tk 9 (bm 13 767) ?vq312 ?aq312 rfl (by kernel_rfl) (fun _ _ _ h => h) (by kernel_rfl) ?hq312 ?pq312 hS303 ?rq312
  case hq312 => (intro w hS; go_simp; try with_reducible rfl)
  case pq312 => (go_simp; try with_reducible rfl)
  refine tk 10 (bm 13 1791) ?vq313 ?aq313 rfl (by kernel_rfl) (fun _ _ _ h => h) (by kernel_rfl) ?hq313 ?pq313 hS303 ?rq313
  case hq313 => (intro w hS; go_simp; try with_reducible rfl)
  case pq313 => (go_simp; try with_reducible rfl)
  refine wpAnyH_oneN (i := 8) (l' := bm 13 2047) rfl (by kernel_rfl) (by kernel_rfl) (by kernel_rfl) (fun K hK => ?_)
  go_simp
  go_at_call 71
  refine (C13.out _).mono ?_
  rintro r w314 ⟨rfl, hb⟩
  dsimp only
  have D315 := ds D302 hb
  clear D302
  clear hb
  have hS316 : True ∧ CellsL w314 (g4) 0 [.float .f64 p0.lo, .float .f64 p0.hi] ∧ CellsL w314 (g65) 10 [.float .f64 p4.z.lo, .float .f64 p4.z.hi] := ⟨trivial, (kb K295 D315).cellsL 0 [.float .f64 p0.lo, .float .f64 p0.hi] rfl, (kb K296 D315).cellsL 10 [.float .f64 p4.z.lo, .float .f64 p4.z.hi] rfl⟩
  refine hK _ _ hS316 ?_
  clear hK K hS303
  refine tk 11 (bm 13 4095) ?vq317 ?aq317 rfl (by kernel_rfl) (fun _ _ _ h => h) (by kernel_rfl) ?hq317 ?pq317 hS316 ?rq317
  case hq317 => (intro w hS; go_simp; try with_reducible rfl)
  case pq317 => (go_simp; try with_reducible rfl)
  refine wpAnyH_oneN (i := 12) (l' := bm 13 8191) rfl (by kernel_rfl) (by kernel_rfl) (by kernel_rfl) (fun K hK => ?_)
  have f320 := (kb K297 D315).cellsL 14 [.float .f64 0, .float .f64 0] rfl
  dsimp only [CellsL, al, vl, Nat.reduceAdd] at f320
  have u321 := (kb K297 D315).unfrozen
  obtain ⟨V318, hV319⟩ : ∃ V, setCells w314 (g78) 14 [.float .f64 p13.lo, .float .f64 p13.hi] = V := ⟨_, rfl⟩
  have hv322 := hV319
  simp only [setCells, Nat.reduceAdd] at hv322
  have K323 := kf hV319 K293 D315 (by have := Y90.out; omega)
  have K324 := kf hV319 K294 D315 (by have := Y90.out; omega)
  have K325 := kf hV319 K295 D315 (by have := Y90.out; omega)
  have K326 := kf hV319 K296 D315 (by have := Y90.out; omega)
  have K327 := Lib.hid (show Blk V318 (g78) 29 #[.float .f64 p6.lo, .float .f64 p6.hi, .float .f64 p7.lo, .float .f64 p7.hi, .float .f64 p8.lo, .float .f64 p8.hi, .float .f64 p9.lo, .float .f64 p9.hi, .float .f64 p10.lo, .float .f64 p10.hi, .float .f64 p11.lo, .float .f64 p11.hi, .float .f64 p12.lo, .float .f64 p12.hi, .float .f64 p13.lo, .float .f64 p13.hi, .float .f64 0, .float .f64 0, .float .f64 0, .float .f64 0, .float .f64 0, .float .f64 0, .float .f64 0, .float .f64 0] from (ks hV319 K297 D315).out)
  have HB328 := hbs hV319 HB298 D315 (by have := Y90.out; omega)
  have D329 := dr V318
  clear K293 K294 K295 K296 K297 HB298 D315
  go_simp
  clear hV319 f320 u321 hv322
  have hS330 : True ∧ CellsL V318 (g4) 0 [.float .f64 p0.lo, .float .f64 p0.hi] ∧ CellsL V318 (g65) 10 [.float .f64 p4.z.lo, .float .f64 p4.z.hi] := ⟨trivial, (kb K325 D329).cellsL 0 [.float .f64 p0.lo, .float .f64 p0.hi] rfl, (kb K326 D329).cellsL 10 [.float .f64 p4.z.lo, .float .f64 p4.z.hi] rfl⟩
  refine hK _ _ hS330 ?_
  clear hK K hS316
  refine wpAnyH_done (by kernel_rfl) ?_ _
  clear hS330
  go_wp2_with fail
  rw [rounds_succ]
  go_wp2_with fail
  refine wp_region_held (S := (fun w' => True ∧ CellsL w' (g4) 0 [.float .f64 p0.lo, .float .f64 p0.hi] ∧ CellsL w' (g65) 16 [.float .f64 p5.z.lo, .float .f64 p5.z.hi])) (by kernel_rfl) ?_
  change wpAnyH _ _ _ _ _ _ _ _ (World.drew _)
  obtain ⟨wd331, hwd⟩ : ∃ x, x = World.drew V318 := ⟨_, rfl⟩
  rw [← hwd]
  have D332 := Lib.hid (hwd ▸ Below.drew D329.out : Below V318.heap.size V318 wd331)
  clear D329 hwd
  have hS333 : True ∧ CellsL wd331 (g4) 0 [.float .f64 p0.lo, .float .f64 p0.hi] ∧ CellsL wd331 (g65) 16 [.float .f64 p5.z.lo, .float .f64 p5.z.hi] := ⟨trivial, (kb K325 D332).cellsL 0 [.float .f64 p0.lo, .float .f64 p0.hi] rfl, (kb K326 D332).cellsL 16 [.float .f64 p5.z.lo, .float .f64 p5.z.hi] rfl⟩
  refine tk 0 (bm 13 1) ?vq334 ?aq334 rfl (by kernel_rfl) (fun _ _ _ h => h) (by kernel_rfl) ?hq334 ?pq334 hS333 ?rq334
  case hq334 => (intro w hS; go_simp; try with_reducible rfl)
  case pq334 => (go_simp; try with_reducible rfl)
  refine tk 1 (bm 13 3) ?vq335 ?aq335 rfl (by kernel_rfl) (fun _ _ _ h => h) (by kernel_rfl) ?hq335 ?pq335 hS333 ?rq335
  case hq335 => (intro w hS; go_simp; try with_reducible rfl)
  case pq335 => (go_simp; try with_reducible rfl)
  refine tk 2 (bm 13 7) ?vq336 ?aq336 rfl (by kernel_rfl) (fun _ _ _ h => h) (by kernel_rfl) ?hq336 ?pq336 hS333 ?rq336
  case hq336 => (intro w hS; go_simp; try with_reducible rfl)
  case pq336 => (go_simp; try with_reducible rfl)
  refine tk 3 (bm 13 15) ?vq337 ?aq337 rfl (by kernel_rfl) (fun _ _ _ h => h) (by kernel_rfl) ?hq337 ?pq337 hS333 ?rq337
  case hq337 => (intro w hS; go_simp; try with_reducible rfl)
  case pq337 => (go_simp; try with_reducible rfl)
  refine tk 4 (bm 13 31) ?vq338 ?aq338 rfl (by kernel_rfl) (fun _ _ _ h => h) (by kernel_rfl) ?hq338 ?pq338 hS333 ?rq338
  case hq338 => (intro w hS; go_simp; try with_reducible rfl)
  case pq338 => (go_simp; try with_reducible rfl)
  refine tk 5 (bm 13 63) ?vq339 ?aq339 rfl (by kernel_rfl) (fun _ _ _ h => h) (by kernel_rfl) ?hq339 ?pq339 hS333 ?rq339
  case hq339 => (intro w hS; go_simp; try with_reducible rfl)
  case pq339 => (go_simp; try with_reducible rfl)
  refine tk 6 (bm 13 127) ?vq340 ?aq340 rfl (by kernel_rfl) (fun _ _ _ h => h) (by kernel_rfl) ?hq340 ?pq340 hS333 ?rq340
  case hq340 => (intro w hS; dsimp only [CellsL, al, vl, Nat.reduceAdd] at hS; go_simp; try with_reducible rfl)
  case pq340 => (go_simp; try with_reducible rfl)
  refine tk 7 (bm 13 255) ?vq341 ?aq341 rfl (by kernel_rfl) (fun _ _ _ h => h) (by kernel_rfl) ?hq341 ?pq341 hS333 ?rq341
  case hq341 => (intro w hS; dsimp only [CellsL, al, vl, Nat.reduceAdd] at hS; go_simp; try with_reducible rfl)
  case pq341 => (go_simp; try with_reducible rfl)
  refine tk 9 (bm 13 767) ?vq342 ?aq342 rfl (by kernel_rfl) (fun _ _ _ h => h) (by kernel_rfl) ?hq342 ?pq342 hS333 ?rq342
  case hq342 => (intro w hS; go_simp; try with_reducible rfl)
  case pq342 => (go_simp; try with_reducible rfl)
  refine tk 10 (bm 13 1791) ?vq343 ?aq343 rfl (by kernel_rfl) (fun _ _ _ h => h) (by kernel_rfl) ?hq343 ?pq343 hS333 ?rq343
  case hq343 => (intro w hS; go_simp; try with_reducible rfl)
  case pq343 => (go_simp; try with_reducible rfl)
  refine wpAnyH_oneN (i := 8) (l' := bm 13 2047) rfl (by kernel_rfl) (by kernel_rfl) (by kernel_rfl) (fun K hK => ?_)
  go_simp
  go_at_call 71
  refine (C14.out _).mono ?_
  rintro r w344 ⟨rfl, hb⟩
  dsimp only
  have D345 := ds D332 hb
  clear D332
  clear hb
  have hS346 : True ∧ CellsL w344 (g4) 0 [.float .f64 p0.lo, .float .f64 p0.hi] ∧ CellsL w344 (g65) 16 [.float .f64 p5.z.lo, .float .f64 p5.z.hi] := ⟨trivial, (kb K325 D345).cellsL 0 [.float .f64 p0.lo, .float .f64 p0.hi] rfl, (kb K326 D345).cellsL 16 [.float .f64 p5.z.lo, .float .f64 p5.z.hi] rfl⟩
  refine hK _ _ hS346 ?_
  clear hK K hS333
  refine tk 11 (bm 13 4095) ?vq347 ?aq347 rfl (by kernel_rfl) (fun _ _ _ h => h) (by kernel_rfl) ?hq347 ?pq347 hS346 ?rq347
  case hq347 => (intro w hS; go_simp; try with_reducible rfl)
  case pq347 => (go_simp; try with_reducible rfl)
  refine wpAnyH_oneN (i := 12) (l' := bm 13 8191) rfl (by kernel_rfl) (by kernel_rfl) (by kernel_rfl) (fun K hK => ?_)
  have f350 := (kb K327 D345).cellsL 16 [.float .f64 0, .float .f64 0] rfl
  dsimp only [CellsL, al, vl, Nat.reduceAdd] at f350
  have u351 := (kb K327 D345).unfrozen
  obtain ⟨V348, hV349⟩ : ∃ V, setCells w344 (g78) 16 [.float .f64 p14.lo, .float .f64 p14.hi] = V := ⟨_, rfl⟩
  have hv352 := hV349
  simp only [setCells, Nat.reduceAdd] at hv352
  have K353 := kf hV349 K323 D345 (by have := Y90.out; omega)
  have K354 := kf hV349 K324 D345 (by have := Y90.out; omega)
  have K355 := kf hV349 K325 D345 (by have := Y90.out; omega)
  have K356 := kf hV349 K326 D345 (by have := Y90.out; omega)
  have K357 := Lib.hid (show Blk V348 (g78) 29 #[.float .f64 p6.lo, .float .f64 p6.hi, .float .f64 p7.lo, .float .f64 p7.hi, .float .f64 p8.lo, .float .f64 p8.hi, .float .f64 p9.lo, .float .f64 p9.hi, .float .f64 p10.lo, .float .f64 p10.hi, .float .f64 p11.lo, .float .f64 p11.hi, .float .f64 p12.lo, .float .f64 p12.hi, .float .f64 p13.lo, .float .f64 p13.hi, .float .f64 p14.lo, .float .f64 p14.hi, .float .f64 0, .float .f64 0, .float .f64 0, .float .f64 0, .float .f64 0, .float .f64 0] from (ks hV349 K327 D345).out)
  have HB358 := hbs hV349 HB328 D345 (by have := Y90.out; omega)
  have D359 := dr V348
  clear K323 K324 K325 K326 K327 HB328 D345
  go_simp
  clear hV349 f350 u351 hv352
  have hS360 : True ∧ CellsL V348 (g4) 0 [.float .f64 p0.lo, .float .f64 p0.hi] ∧ CellsL V348 (g65) 16 [.float .f64 p5.z.lo, .float .f64 p5.z.hi] := ⟨trivial, (kb K355 D359).cellsL 0 [.float .f64 p0.lo, .float .f64 p0.hi] rfl, (kb K356 D359).cellsL 16 [.float .f64 p5.z.lo, .float .f64 p5.z.hi] rfl⟩
  refine hK _ _ hS360 ?_
  clear hK K hS346
  refine wpAnyH_done (by kernel_rfl) ?_ _
  clear hS360
  go_wp2_with fail
  rw [rounds_succ]
  go_wp2_with fail
  rw [rounds_succ]
  have f361 := (kb K357 D359)
  have hq362 := (kb K353 D359).cellsL 18 (vl m.t) rfl
  dsimp only [CellsL, al, vl, Nat.reduceAdd] at hq362
  go_wp2_with (refine wl_load (by kernel_rfl) rfl rfl f361 (by rw [info_Affine]; rfl) Try.underlying29 rfl ?_)
  clear f361 hq362
  refine (C15.out _).mono ?_
  rintro r w363 ⟨rfl, hb⟩
  have D364 := ds D359 hb
  clear D359
  clear hb
  go_wp2_with fail
  refine (C16.out _).mono ?_
  rintro r w365 ⟨rfl, hb⟩
  have D366 := ds D364 hb
  clear D364
  clear hb
  have f369 := (kb K357 D366).cellsL 18 [.float .f64 0, .float .f64 0, .float .f64 0, .float .f64 0, .float .f64 0, .float .f64 0] rfl
  dsimp only [CellsL, al, vl, Nat.reduceAdd] at f369
  have u370 := (kb K357 D366).unfrozen
  obtain ⟨V367, hV368⟩ : ∃ V, setCells w365 (g78) 18 [.float .f64 p16.x.lo, .float .f64 p16.x.hi, .float .f64 p16.y.lo, .float .f64 p16.y.hi, .float .f64 p16.z.lo, .float .f64 p16.z.hi] = V := ⟨_, rfl⟩
  have hv371 := hV368
  simp only [setCells, Nat.reduceAdd] at hv371
  have K372 := kf hV368 K353 D366 (by have := Y90.out; omega)
  have K373 := kf hV368 K354 D366 (by have := Y90.out; omega)
  have K374 := kf hV368 K355 D366 (by have := Y90.out; omega)
  have K375 := kf hV368 K356 D366 (by have := Y90.out; omega)
  have K376 := Lib.hid (show Blk V367 (g78) 29 #[.float .f64 p6.lo, .float .f64 p6.hi, .float .f64 p7.lo, .float .f64 p7.hi, .float .f64 p8.lo, .float .f64 p8.hi, .float .f64 p9.lo, .float .f64 p9.hi, .float .f64 p10.lo, .float .f64 p10.hi, .float .f64 p11.lo, .float .f64 p11.hi, .float .f64 p12.lo, .float .f64 p12.hi, .float .f64 p13.lo, .float .f64 p13.hi, .float .f64 p14.lo, .float .f64 p14.hi, .float .f64 p16.x.lo, .float .f64 p16.x.hi, .float .f64 p16.y.lo, .float .f64 p16.y.hi, .float .f64 p16.z.lo, .float .f64 p16.z.hi] from (ks hV368 K357 D366).out)
  have HB377 := hbs hV368 HB358 D366 (by have := Y90.out; omega)
  have D378 := dr V367
  clear K353 K354 K355 K356 K357 HB358 D366
  have f379 := (kb K376 D378)
  have f382 := (kb K373 D378)
  obtain ⟨V380, hV381⟩ : ∃ V, World.setRow V367 (w.heap.size + 1) #[.float .f64 p6.lo, .float .f64 p6.hi, .float .f64 p7.lo, .float .f64 p7.hi, .float .f64 p8.lo, .float .f64 p8.hi, .float .f64 p9.lo, .float .f64 p9.hi, .float .f64 p10.lo, .float .f64 p10.hi, .float .f64 p11.lo, .float .f64 p11.hi, .float .f64 p12.lo, .float .f64 p12.hi, .float .f64 p13.lo, .float .f64 p13.hi, .float .f64 p14.lo, .float .f64 p14.hi, .float .f64 p16.x.lo, .float .f64 p16.x.hi, .float .f64 p16.y.lo, .float .f64 p16.y.hi, .float .f64 p16.z.lo, .float .f64 p16.z.hi] = V := ⟨_, rfl⟩
  have K383 := kfr hV381 K372 D378 (by have := Y90.out; omega)
  have K384 := ksr hV381 K373 D378
  have K385 := kfr hV381 K374 D378 (by have := Y90.out; omega)
  have K386 := kfr hV381 K375 D378 (by have := Y90.out; omega)
  have K387 := kfr hV381 K376 D378 (by have := Y90.out; omega)
  have HB388 := hbr hV381 HB377 D378 (by have := Y90.out; omega)
  have D389 := dr V380
  clear K372 K373 K374 K375 K376 HB377 D378
  go_wp2_with (first | (refine wpList_store_row rfl 29 _ _ rfl (w.heap.size + 1) #[.float .f64 p6.lo, .float .f64 p6.hi, .float .f64 p7.lo, .float .f64 p7.hi, .float .f64 p8.lo, .float .f64 p8.hi, .float .f64 p9.lo, .float .f64 p9.hi, .float .f64 p10.lo, .float .f64 p10.hi, .float .f64 p11.lo, .float .f64 p11.hi, .float .f64 p12.lo, .float .f64 p12.hi, .float .f64 p13.lo, .float .f64 p13.hi, .float .f64 p14.lo, .float .f64 p14.hi, .float .f64 p16.x.lo, .float .f64 p16.x.hi, .float .f64 p16.y.lo, .float .f64 p16.y.hi, .float .f64 p16.z.lo, .float .f64 p16.z.hi] rfl rfl _ _ f382 (by rw [info_Affine]; rfl) rfl (by kernel_rfl) ?_; rw [hV381]) | (refine wl_load (by kernel_rfl) rfl rfl f379 (by rw [info_Affine]; rfl) Try.underlying29 rfl ?_))
  clear hV368 f369 u370 hv371 f379 hV381 f382
  (try simp only [Exit.inBlock, Exit.then])
  exact bodyPost_ret (res_ct rfl _ _ (w.heap.size + 1) #[.float .f64 p6.lo, .float .f64 p6.hi, .float .f64 p7.lo, .float .f64 p7.hi, .float .f64 p8.lo, .float .f64 p8.hi, .float .f64 p9.lo, .float .f64 p9.hi, .float .f64 p10.lo, .float .f64 p10.hi, .float .f64 p11.lo, .float .f64 p11.hi, .float .f64 p12.lo, .float .f64 p12.hi, .float .f64 p13.lo, .float .f64 p13.hi, .float .f64 p14.lo, .float .f64 p14.hi, .float .f64 p16.x.lo, .float .f64 p16.x.hi, .float .f64 p16.y.lo, .float .f64 p16.y.hi, .float .f64 p16.z.lo, .float .f64 p16.z.hi] rfl (kb K384 D389) (by rw [info_Affine]; rfl) Try.underlying29 rfl) rfl ⟨rfl, below_step HB388.out D389.out⟩
end Go.Proofs.Ytdgaaceebghcpaa
