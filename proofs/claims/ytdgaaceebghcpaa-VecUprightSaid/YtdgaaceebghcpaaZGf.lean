/- The walks of squares and roots, both sides (gen_sj.py). · The fixed facts of layer 2; contracts by 'Below'; the blocks behind an entry. · The contracts of Meet (gen_la.py). · The walks of the document's Same and Meet, and of Of (gen_sl.py). · The walks of Mid, both sides (gen_sm.py). · The walks of Floor, both sides (gen_sn.py). -/
import Derived.Test.YtdgaaceebghcpaaZSe
import Derived.Test.YtdgaaceebghcpaaZGe
import Derived.Test.YtdgaaceebghcpaaZGd
import Derived.Test.YtdgaaceebghcpaaZGg
import Derived.Deep.CutBlock
import Derived.Deep.DeepCutAuto
import Derived.LoopN
set_option linter.unusedVariables false
set_option linter.unusedSimpArgs false
namespace Go.Proofs.Ytdgaaceebghcpaa
open Go.RowKit Fl

@[go_sem] theorem fld_span0 (x y : Nat) (w : World) : (Instr.field 24 (.agg #[.float .f64 x, .float .f64 y]) 0).run Try.prog w = .ok (.float .f64 x) w := by kernel_rfl
@[go_sem] theorem fld_span1 (x y : Nat) (w : World) : (Instr.field 24 (.agg #[.float .f64 x, .float .f64 y]) 1).run Try.prog w = .ok (.float .f64 y) w := by kernel_rfl
theorem lt0_gd {x : Nat} (h : Gd x) : (FloatKind.f64.format.order x 0 == some .lt) = decide (Z x < 0) := by
  have z0 : Z 0 = 0 := by decide
  have := ltb h gd0
  rw [z0] at this
  exact this
theorem gt0_gd {x : Nat} (h : Gd x) : (FloatKind.f64.format.order x 0 == some .gt) = decide (0 < Z x) := by
  have z0 : Z 0 = 0 := by decide
  have := gtb h gd0
  rw [z0] at this
  exact this
set_option maxRecDepth 100000 in
set_option maxHeartbeats 2000000 in
theorem sqr_w (a : Sp) (h : a.wide = true) (w : World) : Calls Try.prog 93 #[.agg #[.float .f64 a.lo, .float .f64 a.hi]] w fun r w' => r = .returned (.agg #[.float .f64 0, .float .f64 9218868437227405312]) ∧ Below w.heap.size w w' := by
  have H1 := Lib.hid (fun w => wide_sp a w)
  have I := Lib.hid (fun w => inf_pos 1 (by decide) w)
  rw [h] at H1
  clear h
  go_enter Try.func93, Try.ntmps93
  go_wp2_with fail
  obtain ⟨W, hW, K0, K1, hB, hz⟩ := box2 w 24 24 #[Value.float FloatKind.f64 a.lo, Value.float FloatKind.f64 a.hi] #[Value.float FloatKind.f64 0, Value.float FloatKind.f64 0]
  rw [← hW]
  have K0 := Lib.hid K0
  have K1 := Lib.hid K1
  have HB := Lib.hid hB
  clear hW hB hz
  have HO := Lib.hid (show ∀ w', Hd W (w.heap.size + 1) 24 2 w' → (Hd W (w.heap.size + 1) 24 2 w' ∧ w'.cell? ⟨w.heap.size, 0, none⟩ = some (Value.float FloatKind.f64 a.lo) ∧ w'.cell? ⟨w.heap.size, 1, none⟩ = some (Value.float FloatKind.f64 a.hi) ∧ w'.cell? ⟨w.heap.size + 1, 0, none⟩ = some (cellAt w' ⟨w.heap.size + 1, 0, none⟩) ∧ w'.frozen? ⟨w.heap.size + 1, 0, none⟩ = false ∧ w'.cell? ⟨w.heap.size + 1, 1, none⟩ = some (cellAt w' ⟨w.heap.size + 1, 1, none⟩) ∧ w'.frozen? ⟨w.heap.size + 1, 1, none⟩ = false) from fun w' h => ⟨h, (h.blk K0.out (by omega)).cell 0, (h.blk K0.out (by omega)).cell 1, (h.at_ 0 (by decide)).1, (h.at_ 0 (by decide)).2, (h.at_ 1 (by decide)).1, (h.at_ 1 (by decide)).2⟩)
  have D0 := Lib.hid (show Hd W (w.heap.size + 1) 24 2 W from Hd.start K1.out)
  refine (H1.out _).mono ?_
  rintro r w1 ⟨rfl, hb⟩
  have D1 := Lib.hid (Hd.call D0.out hb)
  clear hb
  obtain ⟨-, q0, q1, q2, q3, q4, q5⟩ := HO.out _ D1.out
  have z1 := Hd.lt D1.out
  go_wp2_with fail
  refine (I.out _).mono ?_
  rintro r w' ⟨rfl, rfl⟩
  go_wp2_with fail
  (try simp only [Exit.inBlock, Exit.then])
  have hF := (Hd.set (Hd.set D1.out 0 (.float .f64 0)) 1 (.float .f64 9218868437227405312))
  exact bodyPost_ret (resS rfl _ _ (w.heap.size + 1) (.float .f64 0) (.float .f64 9218868437227405312) rfl (Hd.wrote2 hF)) rfl ⟨rfl, Hd.below hF HB.out (by omega)⟩
set_option maxRecDepth 100000 in
set_option maxHeartbeats 2000000 in
theorem sqr_h (a : Sp) (h : a.wide = false) (k : has0 a = true) (w : World) : Calls Try.prog 93 #[.agg #[.float .f64 a.lo, .float .f64 a.hi]] w fun r w' => r = .returned (.agg #[.float .f64 0, .float .f64 (mulS a a).hi]) ∧ Below w.heap.size w w' := by
  have H1 := Lib.hid (fun w => wide_sp a w)
  have H2 := Lib.hid (fun w => mul_sp a a w)
  rw [h] at H1
  have B1 := le0_gd a.vd.l
  have B2 := ge0_gd a.vd.h
  have B3 : decide (Z a.lo ≤ 0) = true ∧ decide (0 ≤ Z a.hi) = true := by unfold has0 at k; simpa using k
  generalize decide (Z a.lo ≤ 0) = p1 at *
  generalize decide (0 ≤ Z a.hi) = p2 at *
  generalize mulS a a = s at *
  clear h k
  obtain ⟨rfl, rfl⟩ := B3
  go_enter Try.func93, Try.ntmps93
  go_wp2_with fail
  obtain ⟨W, hW, K0, K1, hB, hz⟩ := box2 w 24 24 #[Value.float FloatKind.f64 a.lo, Value.float FloatKind.f64 a.hi] #[Value.float FloatKind.f64 0, Value.float FloatKind.f64 0]
  rw [← hW]
  have K0 := Lib.hid K0
  have K1 := Lib.hid K1
  have HB := Lib.hid hB
  clear hW hB hz
  have HO := Lib.hid (show ∀ w', Hd W (w.heap.size + 1) 24 2 w' → (Hd W (w.heap.size + 1) 24 2 w' ∧ w'.cell? ⟨w.heap.size, 0, none⟩ = some (Value.float FloatKind.f64 a.lo) ∧ w'.cell? ⟨w.heap.size, 1, none⟩ = some (Value.float FloatKind.f64 a.hi) ∧ w'.cell? ⟨w.heap.size + 1, 0, none⟩ = some (cellAt w' ⟨w.heap.size + 1, 0, none⟩) ∧ w'.frozen? ⟨w.heap.size + 1, 0, none⟩ = false ∧ w'.cell? ⟨w.heap.size + 1, 1, none⟩ = some (cellAt w' ⟨w.heap.size + 1, 1, none⟩) ∧ w'.frozen? ⟨w.heap.size + 1, 1, none⟩ = false) from fun w' h => ⟨h, (h.blk K0.out (by omega)).cell 0, (h.blk K0.out (by omega)).cell 1, (h.at_ 0 (by decide)).1, (h.at_ 0 (by decide)).2, (h.at_ 1 (by decide)).1, (h.at_ 1 (by decide)).2⟩)
  have D0 := Lib.hid (show Hd W (w.heap.size + 1) 24 2 W from Hd.start K1.out)
  refine (H1.out _).mono ?_
  rintro r w1 ⟨rfl, hb⟩
  have D1 := Lib.hid (Hd.call D0.out hb)
  clear hb
  obtain ⟨-, q0, q1, q2, q3, q4, q5⟩ := HO.out _ D1.out
  have z1 := Hd.lt D1.out
  go_wp2_with fail
  refine (H2.out _).mono ?_
  rintro r w2 ⟨rfl, hb⟩
  have D2 := Lib.hid (Hd.call D1.out hb)
  clear hb
  clear q0 q1 q2 q3 q4 q5
  obtain ⟨-, q0, q1, q2, q3, q4, q5⟩ := HO.out _ D2.out
  have z2 := Hd.lt D2.out
  have hz9 := z2
  have y0 : w.heap.size < w2.heap.size := by omega
  obtain ⟨g, hg⟩ : ∃ g, w2.heap.size = g := ⟨_, rfl⟩
  obtain ⟨V, hV⟩ : ∃ V, w2.alloc (.cells #[Value.float FloatKind.f64 s.lo, Value.float FloatKind.f64 s.hi] 24) = V := ⟨_, rfl⟩
  have O0 : Blk V g 24 #[Value.float FloatKind.f64 s.lo, Value.float FloatKind.f64 s.hi] := by rw [← hV, ← hg]; exact Blk.new_at _ _ _ rfl
  have E0 := Lib.hid (hV ▸ Hd.alloc D2.out _ : Hd W (w.heap.size + 1) 24 2 V)
  rw [hg] at hz9 y0
  obtain ⟨o0, o1, o2, o3⟩ := O0.both
  clear q0 q1 q2 q3 q4 q5 z2
  obtain ⟨-, q0, q1, q2, q3, q4, q5⟩ := HO.out _ E0.out
  have O0' := Lib.hid O0
  clear O0
  obtain ⟨V1, hV1⟩ : ∃ V1, V.setCell ⟨g, 0, none⟩ (.float .f64 0) = V1 := ⟨_, rfl⟩
  have O1 := (hV1 ▸ Blk.set_ O0'.out 0 _ : Blk V1 g 24 #[.float .f64 0, .float .f64 s.hi])
  have E1 := Lib.hid (hV1 ▸ Hd.far E0.out (by omega) 0 _ : Hd W (w.heap.size + 1) 24 2 V1)
  obtain ⟨r0, r1, r2, r3⟩ := O1.both
  obtain ⟨-, p0, p1, p2, p3, p4, p5⟩ := HO.out _ E1.out
  go_wp2_with fail
  (try simp only [Exit.inBlock, Exit.then])
  have hF := Hd.set (Hd.set E1.out 0 (.float .f64 0)) 1 (.float .f64 s.hi)
  exact bodyPost_ret (resS rfl _ _ (w.heap.size + 1) (.float .f64 0) (.float .f64 s.hi) rfl (Hd.wrote2 hF)) rfl ⟨rfl, Hd.below hF HB.out (by omega)⟩
set_option maxRecDepth 100000 in
set_option maxHeartbeats 2000000 in
theorem sqr_n (a : Sp) (h : a.wide = false) (k : has0 a = false) (w : World) : Calls Try.prog 93 #[.agg #[.float .f64 a.lo, .float .f64 a.hi]] w fun r w' => r = .returned (.agg #[.float .f64 (mulS a a).lo, .float .f64 (mulS a a).hi]) ∧ Below w.heap.size w w' := by
  have H1 := Lib.hid (fun w => wide_sp a w)
  have H2 := Lib.hid (fun w => mul_sp a a w)
  rw [h] at H1
  have B1 := le0_gd a.vd.l
  have B2 := ge0_gd a.vd.h
  have B3 : (decide (Z a.lo ≤ 0) = false) ∨ (decide (Z a.lo ≤ 0) = true ∧ decide (0 ≤ Z a.hi) = false) := by
    unfold has0 at k
    cases p : decide (Z a.lo ≤ 0)
    · exact Or.inl rfl
    · rw [p, Bool.true_and] at k
      exact Or.inr ⟨rfl, k⟩
  generalize decide (Z a.lo ≤ 0) = p1 at *
  generalize decide (0 ≤ Z a.hi) = p2 at *
  generalize mulS a a = s at *
  clear h k
  rcases B3 with rfl | ⟨rfl, rfl⟩
  all_goals
    go_enter Try.func93, Try.ntmps93
    go_wp2_with fail
    obtain ⟨W, hW, K0, K1, hB, hz⟩ := box2 w 24 24 #[Value.float FloatKind.f64 a.lo, Value.float FloatKind.f64 a.hi] #[Value.float FloatKind.f64 0, Value.float FloatKind.f64 0]
    rw [← hW]
    have K0 := Lib.hid K0
    have K1 := Lib.hid K1
    have HB := Lib.hid hB
    clear hW hB hz
    have HO := Lib.hid (show ∀ w', Hd W (w.heap.size + 1) 24 2 w' → (Hd W (w.heap.size + 1) 24 2 w' ∧ w'.cell? ⟨w.heap.size, 0, none⟩ = some (Value.float FloatKind.f64 a.lo) ∧ w'.cell? ⟨w.heap.size, 1, none⟩ = some (Value.float FloatKind.f64 a.hi) ∧ w'.cell? ⟨w.heap.size + 1, 0, none⟩ = some (cellAt w' ⟨w.heap.size + 1, 0, none⟩) ∧ w'.frozen? ⟨w.heap.size + 1, 0, none⟩ = false ∧ w'.cell? ⟨w.heap.size + 1, 1, none⟩ = some (cellAt w' ⟨w.heap.size + 1, 1, none⟩) ∧ w'.frozen? ⟨w.heap.size + 1, 1, none⟩ = false) from fun w' h => ⟨h, (h.blk K0.out (by omega)).cell 0, (h.blk K0.out (by omega)).cell 1, (h.at_ 0 (by decide)).1, (h.at_ 0 (by decide)).2, (h.at_ 1 (by decide)).1, (h.at_ 1 (by decide)).2⟩)
    have D0 := Lib.hid (show Hd W (w.heap.size + 1) 24 2 W from Hd.start K1.out)
    refine (H1.out _).mono ?_
    rintro r w1 ⟨rfl, hb⟩
    have D1 := Lib.hid (Hd.call D0.out hb)
    clear hb
    obtain ⟨-, q0, q1, q2, q3, q4, q5⟩ := HO.out _ D1.out
    have z1 := Hd.lt D1.out
    go_wp2_with fail
    refine (H2.out _).mono ?_
    rintro r w2 ⟨rfl, hb⟩
    have D2 := Lib.hid (Hd.call D1.out hb)
    clear hb
    clear q0 q1 q2 q3 q4 q5
    obtain ⟨-, q0, q1, q2, q3, q4, q5⟩ := HO.out _ D2.out
    have z2 := Hd.lt D2.out
    have hz9 := z2
    have y0 : w.heap.size < w2.heap.size := by omega
    obtain ⟨g, hg⟩ : ∃ g, w2.heap.size = g := ⟨_, rfl⟩
    obtain ⟨V, hV⟩ : ∃ V, w2.alloc (.cells #[Value.float FloatKind.f64 s.lo, Value.float FloatKind.f64 s.hi] 24) = V := ⟨_, rfl⟩
    have O0 : Blk V g 24 #[Value.float FloatKind.f64 s.lo, Value.float FloatKind.f64 s.hi] := by rw [← hV, ← hg]; exact Blk.new_at _ _ _ rfl
    have E0 := Lib.hid (hV ▸ Hd.alloc D2.out _ : Hd W (w.heap.size + 1) 24 2 V)
    rw [hg] at hz9 y0
    obtain ⟨o0, o1, o2, o3⟩ := O0.both
    clear q0 q1 q2 q3 q4 q5 z2
    obtain ⟨-, q0, q1, q2, q3, q4, q5⟩ := HO.out _ E0.out
    have O0' := Lib.hid O0
    clear O0
    go_wp2_with fail
    (try simp only [Exit.inBlock, Exit.then])
    have hF := Hd.set (Hd.set E0.out 0 (.float .f64 s.lo)) 1 (.float .f64 s.hi)
    exact bodyPost_ret (resS rfl _ _ (w.heap.size + 1) (.float .f64 s.lo) (.float .f64 s.hi) rfl (Hd.wrote2 hF)) rfl ⟨rfl, Hd.below hF HB.out (by omega)⟩
theorem sqr_sp (a : Sp) (w : World) : Calls Try.prog 93 #[.agg #[.float .f64 a.lo, .float .f64 a.hi]] w fun r w' => r = .returned (.agg #[.float .f64 (sqrS a).lo, .float .f64 (sqrS a).hi]) ∧ Below w.heap.size w w' := by
  cases h : a.wide
  · cases k : has0 a
    · rw [sqrS_not h k]; exact sqr_n a h k w
    · rw [sqrS_has h k]; exact sqr_h a h k w
  · rw [sqrS_wide h]; exact sqr_w a h w
set_option maxRecDepth 100000 in
set_option maxHeartbeats 2000000 in
theorem sqrt_neg (a : Sp) (h : Z a.hi < 0) (w : World) : Calls Try.prog 95 #[.agg #[.float .f64 a.lo, .float .f64 a.hi]] w fun r w' => r = .returned (.agg #[.float .f64 18442240474082181120, .float .f64 9218868437227405312]) ∧ Below w.heap.size w w' := by
  have B1 := lt0_gd a.vd.h
  rw [decide_eq_true h] at B1
  have H2 := Lib.hid (fun w => all_below w)
  clear h
  go_enter Try.func95, Try.ntmps95
  go_wp2_with fail
  obtain ⟨W, hW, K0, K1, hB, hz⟩ := box2 w 24 24 #[Value.float FloatKind.f64 a.lo, Value.float FloatKind.f64 a.hi] #[Value.float FloatKind.f64 0, Value.float FloatKind.f64 0]
  rw [← hW]
  have K0 := Lib.hid K0
  have K1 := Lib.hid K1
  have HB := Lib.hid hB
  clear hW hB hz
  have HO := Lib.hid (show ∀ w', Hd W (w.heap.size + 1) 24 2 w' → (Hd W (w.heap.size + 1) 24 2 w' ∧ w'.cell? ⟨w.heap.size, 0, none⟩ = some (Value.float FloatKind.f64 a.lo) ∧ w'.cell? ⟨w.heap.size, 1, none⟩ = some (Value.float FloatKind.f64 a.hi) ∧ w'.cell? ⟨w.heap.size + 1, 0, none⟩ = some (cellAt w' ⟨w.heap.size + 1, 0, none⟩) ∧ w'.frozen? ⟨w.heap.size + 1, 0, none⟩ = false ∧ w'.cell? ⟨w.heap.size + 1, 1, none⟩ = some (cellAt w' ⟨w.heap.size + 1, 1, none⟩) ∧ w'.frozen? ⟨w.heap.size + 1, 1, none⟩ = false) from fun w' h => ⟨h, (h.blk K0.out (by omega)).cell 0, (h.blk K0.out (by omega)).cell 1, (h.at_ 0 (by decide)).1, (h.at_ 0 (by decide)).2, (h.at_ 1 (by decide)).1, (h.at_ 1 (by decide)).2⟩)
  have D0 := Lib.hid (show Hd W (w.heap.size + 1) 24 2 W from Hd.start K1.out)
  refine (H2.out _).mono ?_
  rintro r w1 ⟨rfl, hb⟩
  have D1 := Lib.hid (Hd.call D0.out hb)
  clear hb
  obtain ⟨-, q0, q1, q2, q3, q4, q5⟩ := HO.out _ D1.out
  have z1 := Hd.lt D1.out
  go_wp2_with fail
  (try simp only [Exit.inBlock, Exit.then])
  have hF := (Hd.set (Hd.set D1.out 0 (.float .f64 18442240474082181120)) 1 (.float .f64 9218868437227405312))
  exact bodyPost_ret (resS rfl _ _ (w.heap.size + 1) (.float .f64 18442240474082181120) (.float .f64 9218868437227405312) rfl (Hd.wrote2 hF)) rfl ⟨rfl, Hd.below hF HB.out (by omega)⟩
set_option maxRecDepth 100000 in
set_option maxHeartbeats 2000000 in
theorem sqrt_w (a : Sp) (h : ¬ Z a.hi < 0) (k : a.wide = true) (w : World) : Calls Try.prog 95 #[.agg #[.float .f64 a.lo, .float .f64 a.hi]] w fun r w' => r = .returned (.agg #[.float .f64 18442240474082181120, .float .f64 9218868437227405312]) ∧ Below w.heap.size w w' := by
  have B1 := lt0_gd a.vd.h
  rw [decide_eq_false h] at B1
  have H1 := Lib.hid (fun w => wide_sp a w)
  rw [k] at H1
  have H2 := Lib.hid (fun w => all_below w)
  clear h k
  go_enter Try.func95, Try.ntmps95
  go_wp2_with fail
  obtain ⟨W, hW, K0, K1, hB, hz⟩ := box2 w 24 24 #[Value.float FloatKind.f64 a.lo, Value.float FloatKind.f64 a.hi] #[Value.float FloatKind.f64 0, Value.float FloatKind.f64 0]
  rw [← hW]
  have K0 := Lib.hid K0
  have K1 := Lib.hid K1
  have HB := Lib.hid hB
  clear hW hB hz
  have HO := Lib.hid (show ∀ w', Hd W (w.heap.size + 1) 24 2 w' → (Hd W (w.heap.size + 1) 24 2 w' ∧ w'.cell? ⟨w.heap.size, 0, none⟩ = some (Value.float FloatKind.f64 a.lo) ∧ w'.cell? ⟨w.heap.size, 1, none⟩ = some (Value.float FloatKind.f64 a.hi) ∧ w'.cell? ⟨w.heap.size + 1, 0, none⟩ = some (cellAt w' ⟨w.heap.size + 1, 0, none⟩) ∧ w'.frozen? ⟨w.heap.size + 1, 0, none⟩ = false ∧ w'.cell? ⟨w.heap.size + 1, 1, none⟩ = some (cellAt w' ⟨w.heap.size + 1, 1, none⟩) ∧ w'.frozen? ⟨w.heap.size + 1, 1, none⟩ = false) from fun w' h => ⟨h, (h.blk K0.out (by omega)).cell 0, (h.blk K0.out (by omega)).cell 1, (h.at_ 0 (by decide)).1, (h.at_ 0 (by decide)).2, (h.at_ 1 (by decide)).1, (h.at_ 1 (by decide)).2⟩)
  have D0 := Lib.hid (show Hd W (w.heap.size + 1) 24 2 W from Hd.start K1.out)
  refine (H1.out _).mono ?_
  rintro r w1 ⟨rfl, hb⟩
  have D1 := Lib.hid (Hd.call D0.out hb)
  clear hb
  obtain ⟨-, q0, q1, q2, q3, q4, q5⟩ := HO.out _ D1.out
  have z1 := Hd.lt D1.out
  go_wp2_with fail
  refine (H2.out _).mono ?_
  rintro r w2 ⟨rfl, hb⟩
  have D2 := Lib.hid (Hd.call D1.out hb)
  clear hb
  clear q0 q1 q2 q3 q4 q5
  obtain ⟨-, q0, q1, q2, q3, q4, q5⟩ := HO.out _ D2.out
  have z2 := Hd.lt D2.out
  go_wp2_with fail
  (try simp only [Exit.inBlock, Exit.then])
  have hF := (Hd.set (Hd.set D2.out 0 (.float .f64 18442240474082181120)) 1 (.float .f64 9218868437227405312))
  exact bodyPost_ret (resS rfl _ _ (w.heap.size + 1) (.float .f64 18442240474082181120) (.float .f64 9218868437227405312) rfl (Hd.wrote2 hF)) rfl ⟨rfl, Hd.below hF HB.out (by omega)⟩
set_option maxRecDepth 100000 in
set_option maxHeartbeats 2000000 in
theorem sqrt_on (a : Sp) (h : ¬ Z a.hi < 0) (k : a.wide = false) (w : World) : Calls Try.prog 95 #[.agg #[.float .f64 a.lo, .float .f64 a.hi]] w fun r w' => r = .returned (.agg #[.float .f64 (sqrtR (mx a.lo 0) true).1, .float .f64 (sqrtR a.hi false).1]) ∧ Below w.heap.size w w' := by
  have B1 := lt0_gd a.vd.h
  rw [decide_eq_false h] at B1
  have H1 := Lib.hid (fun w => wide_sp a w)
  rw [k] at H1
  have H3 := Lib.hid (fun w => sqrt_any a.hi false a.vd.h.lt w)
  have M := fun (ts : Array TypeId) (t : TypeId) (w : World) => run_max_gd (P := Try.prog) a.vd.l gd0 ts t w
  have H2 := Lib.hid (fun w => sqrt_any (mx a.lo 0) true (mx_gd a.vd.l gd0).lt w)
  obtain ⟨y, hy⟩ : ∃ y, y = sqrtR a.hi false := ⟨_, rfl⟩
  rw [← hy] at H3 ⊢
  obtain ⟨y1, y2⟩ := y
  clear hy
  unfold pV numV at H3
  dsimp only at H3 ⊢
  generalize mx a.lo 0 = m at *
  obtain ⟨x, hx⟩ : ∃ y, y = sqrtR m true := ⟨_, rfl⟩
  rw [← hx] at H2 ⊢
  obtain ⟨x1, x2⟩ := x
  clear hx h k
  unfold pV numV at H2
  dsimp only at H2 ⊢
  go_enter Try.func95, Try.ntmps95
  go_wp2_with fail
  obtain ⟨W, hW, K0, K1, hB, hz⟩ := box2 w 24 24 #[Value.float FloatKind.f64 a.lo, Value.float FloatKind.f64 a.hi] #[Value.float FloatKind.f64 0, Value.float FloatKind.f64 0]
  rw [← hW]
  have K0 := Lib.hid K0
  have K1 := Lib.hid K1
  have HB := Lib.hid hB
  clear hW hB hz
  have HO := Lib.hid (show ∀ w', Hd W (w.heap.size + 1) 24 2 w' → (Hd W (w.heap.size + 1) 24 2 w' ∧ w'.cell? ⟨w.heap.size, 0, none⟩ = some (Value.float FloatKind.f64 a.lo) ∧ w'.cell? ⟨w.heap.size, 1, none⟩ = some (Value.float FloatKind.f64 a.hi) ∧ w'.cell? ⟨w.heap.size + 1, 0, none⟩ = some (cellAt w' ⟨w.heap.size + 1, 0, none⟩) ∧ w'.frozen? ⟨w.heap.size + 1, 0, none⟩ = false ∧ w'.cell? ⟨w.heap.size + 1, 1, none⟩ = some (cellAt w' ⟨w.heap.size + 1, 1, none⟩) ∧ w'.frozen? ⟨w.heap.size + 1, 1, none⟩ = false) from fun w' h => ⟨h, (h.blk K0.out (by omega)).cell 0, (h.blk K0.out (by omega)).cell 1, (h.at_ 0 (by decide)).1, (h.at_ 0 (by decide)).2, (h.at_ 1 (by decide)).1, (h.at_ 1 (by decide)).2⟩)
  have D0 := Lib.hid (show Hd W (w.heap.size + 1) 24 2 W from Hd.start K1.out)
  refine (H1.out _).mono ?_
  rintro r w1 ⟨rfl, hb⟩
  have D1 := Lib.hid (Hd.call D0.out hb)
  clear hb
  obtain ⟨-, q0, q1, q2, q3, q4, q5⟩ := HO.out _ D1.out
  have z1 := Hd.lt D1.out
  go_wp2_with fail
  refine (H2.out _).mono ?_
  rintro r w2 ⟨rfl, hb⟩
  have D2 := Lib.hid (Hd.call D1.out hb)
  clear hb
  clear q0 q1 q2 q3 q4 q5
  obtain ⟨-, q0, q1, q2, q3, q4, q5⟩ := HO.out _ D2.out
  have z2 := Hd.lt D2.out
  go_wp2_with fail
  refine (H3.out _).mono ?_
  rintro r w3 ⟨rfl, hb⟩
  have D3 := Lib.hid (Hd.call D2.out hb)
  clear hb
  clear q0 q1 q2 q3 q4 q5
  obtain ⟨-, q0, q1, q2, q3, q4, q5⟩ := HO.out _ D3.out
  have z3 := Hd.lt D3.out
  go_wp2_with fail
  (try simp only [Exit.inBlock, Exit.then])
  have hF := (Hd.set (Hd.set D3.out 0 (.float .f64 x1)) 1 (.float .f64 y1))
  exact bodyPost_ret (resS rfl _ _ (w.heap.size + 1) (.float .f64 x1) (.float .f64 y1) rfl (Hd.wrote2 hF)) rfl ⟨rfl, Hd.below hF HB.out (by omega)⟩
theorem sqrt_sp (a : Sp) (w : World) : Calls Try.prog 95 #[.agg #[.float .f64 a.lo, .float .f64 a.hi]] w fun r w' => r = .returned (.agg #[.float .f64 (sqrtS a).lo, .float .f64 (sqrtS a).hi]) ∧ Below w.heap.size w w' := by
  unfold sqrtS
  by_cases hw : a.wide = false ∧ 0 ≤ Z a.hi
  · rw [dif_pos hw]
    exact sqrt_on a (by omega) hw.1 w
  · rw [dif_neg hw]
    by_cases h : Z a.hi < 0
    · exact sqrt_neg a h w
    · have k : a.wide = true := by
        cases e : a.wide
        · exact absurd ⟨e, by omega⟩ hw
        · rfl
      exact sqrt_w a h k w
end Go.Proofs.Ytdgaaceebghcpaa

namespace Go.Proofs.Ytdgaaceebghcpaa
open Go.RowKit Fl

theorem bx1 (w : World) (t1 : TypeId) (c1 : Array Value) : ∃ W, W = w.alloc (.cells c1 t1) ∧ Blk W w.heap.size t1 c1 ∧ Below w.heap.size w W ∧ W.heap.size = w.heap.size + 1 :=
  ⟨_, rfl, Blk.new_at _ _ _ rfl, (Below.refl _ _).alloc (Nat.le_refl _) _, by simp⟩
theorem bx2 (w : World) (t1 t2 : TypeId) (c1 c2 : Array Value) : ∃ W, W = (w.alloc (.cells c1 t1)).alloc (.cells c2 t2) ∧ Blk W w.heap.size t1 c1 ∧ Blk W (w.heap.size + 1) t2 c2 ∧ Below w.heap.size w W ∧ W.heap.size = w.heap.size + 1 + 1 := box2 w t1 t2 c1 c2
theorem bx3 (w : World) (t1 t2 t3 : TypeId) (c1 c2 c3 : Array Value) : ∃ W, W = ((w.alloc (.cells c1 t1)).alloc (.cells c2 t2)).alloc (.cells c3 t3) ∧ Blk W w.heap.size t1 c1 ∧ Blk W (w.heap.size + 1) t2 c2 ∧ Blk W (w.heap.size + 1 + 1) t3 c3 ∧ Below w.heap.size w W ∧ W.heap.size = w.heap.size + 1 + 1 + 1 := box3 w t1 t2 t3 c1 c2 c3
theorem bx4 (w : World) (t1 t2 t3 t4 : TypeId) (c1 c2 c3 c4 : Array Value) : ∃ W, W = (((w.alloc (.cells c1 t1)).alloc (.cells c2 t2)).alloc (.cells c3 t3)).alloc (.cells c4 t4) ∧ Blk W w.heap.size t1 c1 ∧ Blk W (w.heap.size + 1) t2 c2 ∧ Blk W (w.heap.size + 1 + 1) t3 c3 ∧ Blk W (w.heap.size + 1 + 1 + 1) t4 c4 ∧ Below w.heap.size w W ∧ W.heap.size = w.heap.size + 1 + 1 + 1 + 1 := by
  obtain ⟨W, rfl, k0, k1, k2, hb, hz⟩ := box3 w t1 t2 t3 c1 c2 c3
  exact ⟨_, rfl, k0.alloc _, k1.alloc _, k2.alloc _, Blk.new_at _ _ _ (by omega), hb.alloc (by omega) _, by simp⟩

/-! ### constants -/
theorem gd_lit {a : Nat} (h : (decide (a < 18446744073709551616) && !nan a && decide (a ≠ SGN)) = true) : Gd a := by
  simp only [Bool.and_eq_true, decide_eq_true_eq, Bool.not_eq_true'] at h
  exact ⟨h.1.1, h.1.2, h.2⟩
theorem order_self {a : Nat} (h : Gd a) : (FloatKind.f64.format.order a a == some .eq) = true := by
  rw [eqb h h]; exact decide_eq_true rfl

/-! ### contracts by 'Below' -/
def hasB (a : Sp) (x : Nat) : Bool := leF a.lo x && leF x a.hi
theorem has_sp (a : Sp) (x : Nat) (w : World) : Calls Try.prog 69 #[.agg #[.float .f64 a.lo, .float .f64 a.hi], .float .f64 x] w fun r w' => r = .returned (.bool (hasB a x)) ∧ Below w.heap.size w w' :=
  (has_any a.lo a.hi x w).mono fun _ _ ⟨h, o, e⟩ => ⟨h, e ▸ below_new w o⟩
theorem has_nn {a : Sp} {x : Nat} (hx : x < 18446744073709551616) (hn : nan x = false) : hasB a x = (decide (Z a.lo ≤ Z x) && decide (Z x ≤ Z a.hi)) := by
  have e1 : leF a.lo x = decide (Z a.lo ≤ Z x) := le_eq (a := a.lo) (b := x) a.vd.l.lt hx a.vd.l.nn hn
  have e2 : leF x a.hi = decide (Z x ≤ Z a.hi) := le_eq (a := x) (b := a.hi) hx a.vd.h.lt hn a.vd.h.nn
  unfold hasB
  rw [e1, e2]
theorem pos_sp (a : Sp) (w : World) : Calls Try.prog 96 #[.agg #[.float .f64 a.lo, .float .f64 a.hi]] w fun r w' => r = .returned (.int .i64 (posS a : Nat)) ∧ Below w.heap.size w w' := by
  refine (positive_any a.lo a.hi _ _ (gt0_gd a.vd.l) (le0_gd a.vd.h) w).mono ?_
  rintro _ _ ⟨rfl, o, rfl⟩
  refine ⟨?_, below_new w o⟩
  unfold posS
  by_cases h1 : 0 < Z a.lo
  · simp [h1]
  · by_cases h2 : Z a.hi ≤ 0 <;> simp [h1, h2]
end Go.Proofs.Ytdgaaceebghcpaa

namespace Go.Proofs.Ytdgaaceebghcpaa
open Go.RowKit Fl

end Go.Proofs.Ytdgaaceebghcpaa

namespace Go.Proofs.Ytdgaaceebghcpaa
open Go.RowKit Fl

theorem rsame_any (x y : Nat) (w : World) : Calls Try.prog 48 #[.agg #[.float .f64 x, .float .f64 y], .agg #[.float .f64 x, .float .f64 y]] w fun r w' => r = .returned (.bool true) ∧ Below w.heap.size w w' := by
  go_enter Try.func48, Try.ntmps48
  go_wp2_with fail
  go_quiet (fail)
  go_wp2_with fail
  go_ret
  exact ⟨ret_bool (by simp), below_drewN (below_new2 w _ _) _⟩
theorem rsame_sp (a : Sp) (w : World) : Calls Try.prog 48 #[.agg #[.float .f64 a.lo, .float .f64 a.hi], .agg #[.float .f64 a.lo, .float .f64 a.hi]] w fun r w' => r = .returned (.bool true) ∧ Below w.heap.size w w' := rsame_any a.lo a.hi w
theorem ofS_fin {x : Nat} (h : x < 18446744073709551616) (f : fin x = true) : (ofS x).lo = pl x ∧ (ofS x).hi = pl x := by
  unfold ofS
  rw [dif_pos ⟨h, f⟩]
  exact ⟨rfl, rfl⟩
theorem ofS_not {x : Nat} (f : fin x = false) : ofS x = allS := by
  unfold ofS
  rw [dif_neg (by rw [f]; simp)]
theorem of_sp (x : Nat) (hx : x < 18446744073709551616) (w : World) : Calls Try.prog 76 #[.float .f64 x] w fun r w' => r = .returned (.agg #[.float .f64 (ofS x).lo, .float .f64 (ofS x).hi]) ∧ Below w.heap.size w w' := by
  have H1 := Lib.hid (fun w => number_any x hx w)
  have H2 := Lib.hid (fun w => all_below w)
  cases f : fin x
  · rw [ofS_not f]
    rw [f] at H1
    show Calls _ _ _ _ fun r w' => r = .returned (.agg #[.float .f64 18442240474082181120, .float .f64 9218868437227405312]) ∧ Below w.heap.size w w'
    clear f hx
    go_enter Try.func76, Try.ntmps76
    go_wp2_with fail
    obtain ⟨W, hW, K0, hB, hz⟩ := bx1 w 24 #[Value.float FloatKind.f64 0, Value.float FloatKind.f64 0]
    rw [← hW]
    have K0 := Lib.hid K0
    have HB := Lib.hid hB
    clear hW hB hz
    have HO := Lib.hid (show ∀ w', Hd W (w.heap.size) 24 2 w' → (Hd W (w.heap.size) 24 2 w' ∧ w'.cell? ⟨w.heap.size, 0, none⟩ = some (cellAt w' ⟨w.heap.size, 0, none⟩) ∧ w'.frozen? ⟨w.heap.size, 0, none⟩ = false ∧ w'.cell? ⟨w.heap.size, 1, none⟩ = some (cellAt w' ⟨w.heap.size, 1, none⟩) ∧ w'.frozen? ⟨w.heap.size, 1, none⟩ = false) from fun w' h => ⟨h, (h.at_ 0 (by decide)).1, (h.at_ 0 (by decide)).2, (h.at_ 1 (by decide)).1, (h.at_ 1 (by decide)).2⟩)
    have D0 := Lib.hid (show Hd W (w.heap.size) 24 2 W from Hd.start K0.out)
    refine (H1.out _).mono ?_
    rintro r w' ⟨rfl, rfl⟩
    obtain ⟨-, q0, q1, q2, q3⟩ := HO.out _ D0.out
    have z0 := Hd.lt D0.out
    go_wp2_with fail
    refine (H2.out _).mono ?_
    rintro r w1 ⟨rfl, hb⟩
    have D1 := Lib.hid (Hd.call D0.out hb)
    clear hb q0 q1 q2 q3
    obtain ⟨-, q0, q1, q2, q3⟩ := HO.out _ D1.out
    have z1 := Hd.lt D1.out
    go_wp2_with fail
    (try simp only [Exit.inBlock, Exit.then])
    have hF := (Hd.set (Hd.set D1.out 0 (.float .f64 18442240474082181120)) 1 (.float .f64 9218868437227405312))
    exact bodyPost_ret (resS rfl _ _ (w.heap.size) (.float .f64 18442240474082181120) (.float .f64 9218868437227405312) rfl (Hd.wrote2 hF)) rfl ⟨rfl, Hd.below hF HB.out (by omega)⟩
  · obtain ⟨e1, e2⟩ := ofS_fin hx f
    rw [e1, e2]
    rw [f] at H1
    have hn := nan_of_fin f
    have hd : floatBits .add .f64 x 0 = some (pl x) := add_zero x hx hn
    have hr := fun (t : TypeId) (w : World) => run_float_arith (P := Try.prog) w .add t .f64 _ _ _ hd
    clear hd e1 e2 hn f hx H2
    generalize pl x = p at *
    go_enter Try.func76, Try.ntmps76
    go_wp2_with fail
    obtain ⟨W, hW, K0, hB, hz⟩ := bx1 w 24 #[Value.float FloatKind.f64 0, Value.float FloatKind.f64 0]
    rw [← hW]
    have K0 := Lib.hid K0
    have HB := Lib.hid hB
    clear hW hB hz
    have HO := Lib.hid (show ∀ w', Hd W (w.heap.size) 24 2 w' → (Hd W (w.heap.size) 24 2 w' ∧ w'.cell? ⟨w.heap.size, 0, none⟩ = some (cellAt w' ⟨w.heap.size, 0, none⟩) ∧ w'.frozen? ⟨w.heap.size, 0, none⟩ = false ∧ w'.cell? ⟨w.heap.size, 1, none⟩ = some (cellAt w' ⟨w.heap.size, 1, none⟩) ∧ w'.frozen? ⟨w.heap.size, 1, none⟩ = false) from fun w' h => ⟨h, (h.at_ 0 (by decide)).1, (h.at_ 0 (by decide)).2, (h.at_ 1 (by decide)).1, (h.at_ 1 (by decide)).2⟩)
    have D0 := Lib.hid (show Hd W (w.heap.size) 24 2 W from Hd.start K0.out)
    refine (H1.out _).mono ?_
    rintro r w' ⟨rfl, rfl⟩
    obtain ⟨-, q0, q1, q2, q3⟩ := HO.out _ D0.out
    have z0 := Hd.lt D0.out
    go_wp2_with fail
    (try simp only [Exit.inBlock, Exit.then])
    have hF := (Hd.set (Hd.set D0.out 0 (.float .f64 p)) 1 (.float .f64 p))
    exact bodyPost_ret (resS rfl _ _ (w.heap.size) (.float .f64 p) (.float .f64 p) rfl (Hd.wrote2 hF)) rfl ⟨rfl, Hd.below hF HB.out (by omega)⟩
theorem rof_sp (x : Nat) (hx : x < 18446744073709551616) (w : World) : Calls Try.prog 72 #[.float .f64 x] w fun r w' => r = .returned (.agg #[.float .f64 (ofS x).lo, .float .f64 (ofS x).hi]) ∧ Below w.heap.size w w' := by
  have H1 := Lib.hid (fun w => rnum_any x hx w)
  have H2 := Lib.hid (fun w => rall_below w)
  cases f : fin x
  · rw [ofS_not f]
    rw [f] at H1
    show Calls _ _ _ _ fun r w' => r = .returned (.agg #[.float .f64 18442240474082181120, .float .f64 9218868437227405312]) ∧ Below w.heap.size w w'
    clear f hx
    go_enter Try.func72, Try.ntmps72
    go_wp2_with fail
    obtain ⟨W, hW, K0, hB, hz⟩ := bx1 w 24 #[Value.float FloatKind.f64 0, Value.float FloatKind.f64 0]
    rw [← hW]
    have K0 := Lib.hid K0
    have HB := Lib.hid hB
    clear hW hB hz
    have HO := Lib.hid (show ∀ w', Hd W (w.heap.size) 24 2 w' → (Hd W (w.heap.size) 24 2 w' ∧ w'.cell? ⟨w.heap.size, 0, none⟩ = some (cellAt w' ⟨w.heap.size, 0, none⟩) ∧ w'.frozen? ⟨w.heap.size, 0, none⟩ = false ∧ w'.cell? ⟨w.heap.size, 1, none⟩ = some (cellAt w' ⟨w.heap.size, 1, none⟩) ∧ w'.frozen? ⟨w.heap.size, 1, none⟩ = false) from fun w' h => ⟨h, (h.at_ 0 (by decide)).1, (h.at_ 0 (by decide)).2, (h.at_ 1 (by decide)).1, (h.at_ 1 (by decide)).2⟩)
    have D0 := Lib.hid (show Hd W (w.heap.size) 24 2 W from Hd.start K0.out)
    refine (H1.out _).mono ?_
    rintro r w1 ⟨rfl, k, rfl⟩
    have D1 := Lib.hid (Hd.call D0.out (below_drewN (Below.refl _ _) k))
    go_wp2_with fail
    refine (H2.out _).mono ?_
    rintro r w2 ⟨rfl, hb⟩
    have D2 := Lib.hid (Hd.call D1.out hb)
    clear hb
    obtain ⟨-, q0, q1, q2, q3⟩ := HO.out _ D2.out
    have z2 := Hd.lt D2.out
    go_wp2_with fail
    (try simp only [Exit.inBlock, Exit.then])
    have hF := (Hd.set (Hd.set D2.out 0 (.float .f64 18442240474082181120)) 1 (.float .f64 9218868437227405312))
    exact bodyPost_ret (resS rfl _ _ (w.heap.size) (.float .f64 18442240474082181120) (.float .f64 9218868437227405312) rfl (Hd.wrote2 hF)) rfl ⟨rfl, Hd.below hF HB.out (by omega)⟩
  · obtain ⟨e1, e2⟩ := ofS_fin hx f
    rw [e1, e2]
    rw [f] at H1
    have hn := nan_of_fin f
    have H3 := Lib.hid (fun w => zeroed_any x hx hn w)
    have H1 := Lib.hid (fun w => rnum_good x hx f w)
    clear e1 e2 hn f hx H2
    generalize pl x = p at *
    go_enter Try.func72, Try.ntmps72
    go_wp2_with fail
    obtain ⟨W, hW, K0, hB, hz⟩ := bx1 w 24 #[Value.float FloatKind.f64 0, Value.float FloatKind.f64 0]
    rw [← hW]
    have K0 := Lib.hid K0
    have HB := Lib.hid hB
    clear hW hB hz
    have HO := Lib.hid (show ∀ w', Hd W (w.heap.size) 24 2 w' → (Hd W (w.heap.size) 24 2 w' ∧ w'.cell? ⟨w.heap.size, 0, none⟩ = some (cellAt w' ⟨w.heap.size, 0, none⟩) ∧ w'.frozen? ⟨w.heap.size, 0, none⟩ = false ∧ w'.cell? ⟨w.heap.size, 1, none⟩ = some (cellAt w' ⟨w.heap.size, 1, none⟩) ∧ w'.frozen? ⟨w.heap.size, 1, none⟩ = false) from fun w' h => ⟨h, (h.at_ 0 (by decide)).1, (h.at_ 0 (by decide)).2, (h.at_ 1 (by decide)).1, (h.at_ 1 (by decide)).2⟩)
    have D0 := Lib.hid (show Hd W (w.heap.size) 24 2 W from Hd.start K0.out)
    refine (H1.out _).mono ?_
    rintro r w' ⟨rfl, rfl⟩
    go_wp2_with fail
    refine (H3.out _).mono ?_
    rintro r w' ⟨rfl, rfl⟩
    go_wp2_with fail
    refine (H3.out _).mono ?_
    rintro r w' ⟨rfl, rfl⟩
    obtain ⟨-, q0, q1, q2, q3⟩ := HO.out _ D0.out
    have z0 := Hd.lt D0.out
    go_wp2_with fail
    (try simp only [Exit.inBlock, Exit.then])
    have hF := (Hd.set (Hd.set D0.out 0 (.float .f64 p)) 1 (.float .f64 p))
    exact bodyPost_ret (resS rfl _ _ (w.heap.size) (.float .f64 p) (.float .f64 p) rfl (Hd.wrote2 hF)) rfl ⟨rfl, Hd.below hF HB.out (by omega)⟩
end Go.Proofs.Ytdgaaceebghcpaa

namespace Go.Proofs.Ytdgaaceebghcpaa
open Go.RowKit Fl

end Go.Proofs.Ytdgaaceebghcpaa

namespace Go.Proofs.Ytdgaaceebghcpaa
open Go.RowKit Fl

end Go.Proofs.Ytdgaaceebghcpaa

