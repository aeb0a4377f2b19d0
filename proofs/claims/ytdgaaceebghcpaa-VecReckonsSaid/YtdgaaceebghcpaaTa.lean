/- Vectors of spans: the functions that go each by each. -/
import Derived.Test.YtdgaaceebghcpaaGf
import Derived.Test.YtdgaaceebghcpaaRh
import Derived.Test.YtdgaaceebghcpaaYa
set_option linter.unusedVariables false
set_option linter.unusedSimpArgs false
namespace Go.Proofs.Ytdgaaceebghcpaa
open Go.RowKit

theorem infoV3 : (Try.prog.info? 26).map (·.size) = some 6 := by kernel_rfl
theorem resV {fn : Func} {p : Tmp} (h : fn.results = #[.cell p 26]) (tmps : Array Value) (w : World) (g : Nat) (a b c d e f : Value)
    (hp : tmps.getD p undef = .pointer (some ⟨g, 0, none⟩)) (hg : Blk w g 26 #[a, b, c, d, e, f]) :
    (results fn tmps).run Try.prog w = .ok (.agg #[a, b, c, d, e, f]) w :=
  results_cell_row h tmps w g _ _ (0, 0) _ hp hg Try.underlying26 rfl (by rw [infoV3]; rfl)
theorem set6 (l : Array Value) (h : l.size = 6) {a b c d e f : Value} : (((((l.setIfInBounds 0 a).setIfInBounds 1 b).setIfInBounds 2 c).setIfInBounds 3 d).setIfInBounds 4 e).setIfInBounds 5 f = #[a, b, c, d, e, f] := by
  obtain ⟨l⟩ := l
  match l, h with
  | [x0, x1, x2, x3, x4, x5], _ => rfl
theorem Hd.wrote6 {W w1 : World} {B : Nat} {T : TypeId} {a b c d e f : Value} (h : Hd W B T 6 ((((((w1.setCell ⟨B, 0, none⟩ a).setCell ⟨B, 1, none⟩ b).setCell ⟨B, 2, none⟩ c).setCell ⟨B, 3, none⟩ d).setCell ⟨B, 4, none⟩ e).setCell ⟨B, 5, none⟩ f)) :
    Blk ((((((w1.setCell ⟨B, 0, none⟩ a).setCell ⟨B, 1, none⟩ b).setCell ⟨B, 2, none⟩ c).setCell ⟨B, 3, none⟩ d).setCell ⟨B, 4, none⟩ e).setCell ⟨B, 5, none⟩ f) B T #[a, b, c, d, e, f] := by
  obtain ⟨cs, hn, hb⟩ := h.res
  obtain ⟨c1, h1, e1⟩ := hb.unset
  obtain ⟨c2, h2, e2⟩ := h1.unset
  obtain ⟨c3, h3, e3⟩ := h2.unset
  obtain ⟨c4, h4, e4⟩ := h3.unset
  obtain ⟨c5, h5, e5⟩ := h4.unset
  obtain ⟨c6, h6, e6⟩ := h5.unset
  subst e6 e5 e4 e3 e2 e1
  have hl : c6.size = 6 := by simpa using hn
  rw [set6 c6 hl] at hb
  exact hb
theorem box5 (w : World) (t1 t2 t3 t4 t5 : TypeId) (c1 c2 c3 c4 c5 : Array Value) : ∃ W, W = ((((w.alloc (.cells c1 t1)).alloc (.cells c2 t2)).alloc (.cells c3 t3)).alloc (.cells c4 t4)).alloc (.cells c5 t5) ∧ Blk W w.heap.size t1 c1 ∧ Blk W (w.heap.size + 1) t2 c2 ∧ Blk W (w.heap.size + 1 + 1) t3 c3 ∧ Blk W (w.heap.size + 1 + 1 + 1) t4 c4 ∧ Blk W (w.heap.size + 1 + 1 + 1 + 1) t5 c5 ∧ Below w.heap.size w W ∧ W.heap.size = w.heap.size + 1 + 1 + 1 + 1 + 1 := by
  obtain ⟨W, rfl, k0, k1, k2, hb, hz⟩ := box3 w t1 t2 t3 c1 c2 c3
  refine ⟨_, rfl, (k0.alloc _).alloc _, (k1.alloc _).alloc _, (k2.alloc _).alloc _, (Blk.new_at _ _ _ (by omega)).alloc _, Blk.new_at _ _ _ (by simp), (hb.alloc (by omega) _).alloc (by simp; omega) _, by simp⟩
set_option maxRecDepth 100000 in
set_option maxHeartbeats 4000000 in
theorem raddV_any (a : V3) (b : V3) (w : World) : Calls Try.prog 41 #[vval a, vval b] w fun r w' => r = .returned (vval (vAdd a b)) ∧ Below w.heap.size w w' := by
  have C0 := Lib.hid (fun w => radd_sp a.x b.x w)
  have C1 := Lib.hid (fun w => radd_sp a.y b.y w)
  have C2 := Lib.hid (fun w => radd_sp a.z b.z w)
  unfold vAdd
  generalize addS a.x b.x = p0 at *
  generalize addS a.y b.y = p1 at *
  generalize addS a.z b.z = p2 at *
  go_enter Try.func41, Try.ntmps41
  go_wp2_with fail
  obtain ⟨W, hW, K0, K1, K2, hB, hz⟩ := box3 w 26 26 26 #[Value.float FloatKind.f64 a.x.lo, Value.float FloatKind.f64 a.x.hi, Value.float FloatKind.f64 a.y.lo, Value.float FloatKind.f64 a.y.hi, Value.float FloatKind.f64 a.z.lo, Value.float FloatKind.f64 a.z.hi] #[Value.float FloatKind.f64 b.x.lo, Value.float FloatKind.f64 b.x.hi, Value.float FloatKind.f64 b.y.lo, Value.float FloatKind.f64 b.y.hi, Value.float FloatKind.f64 b.z.lo, Value.float FloatKind.f64 b.z.hi] #[Value.float FloatKind.f64 0, Value.float FloatKind.f64 0, Value.float FloatKind.f64 0, Value.float FloatKind.f64 0, Value.float FloatKind.f64 0, Value.float FloatKind.f64 0]
  rw [← hW]
  have K0 := Lib.hid K0
  have K1 := Lib.hid K1
  have K2 := Lib.hid K2
  have HB := Lib.hid hB
  clear hW hB hz
  have HO := Lib.hid (show ∀ w', Hd W (w.heap.size + 1 + 1) 26 6 w' → (Hd W (w.heap.size + 1 + 1) 26 6 w' ∧ w'.cell? ⟨w.heap.size, 0, none⟩ = some (Value.float FloatKind.f64 a.x.lo) ∧ w'.cell? ⟨w.heap.size, 1, none⟩ = some (Value.float FloatKind.f64 a.x.hi) ∧ w'.cell? ⟨w.heap.size, 2, none⟩ = some (Value.float FloatKind.f64 a.y.lo) ∧ w'.cell? ⟨w.heap.size, 3, none⟩ = some (Value.float FloatKind.f64 a.y.hi) ∧ w'.cell? ⟨w.heap.size, 4, none⟩ = some (Value.float FloatKind.f64 a.z.lo) ∧ w'.cell? ⟨w.heap.size, 5, none⟩ = some (Value.float FloatKind.f64 a.z.hi) ∧ w'.cell? ⟨w.heap.size + 1, 0, none⟩ = some (Value.float FloatKind.f64 b.x.lo) ∧ w'.cell? ⟨w.heap.size + 1, 1, none⟩ = some (Value.float FloatKind.f64 b.x.hi) ∧ w'.cell? ⟨w.heap.size + 1, 2, none⟩ = some (Value.float FloatKind.f64 b.y.lo) ∧ w'.cell? ⟨w.heap.size + 1, 3, none⟩ = some (Value.float FloatKind.f64 b.y.hi) ∧ w'.cell? ⟨w.heap.size + 1, 4, none⟩ = some (Value.float FloatKind.f64 b.z.lo) ∧ w'.cell? ⟨w.heap.size + 1, 5, none⟩ = some (Value.float FloatKind.f64 b.z.hi) ∧ w'.cell? ⟨w.heap.size + 1 + 1, 0, none⟩ = some (cellAt w' ⟨w.heap.size + 1 + 1, 0, none⟩) ∧ w'.frozen? ⟨w.heap.size + 1 + 1, 0, none⟩ = false ∧ w'.cell? ⟨w.heap.size + 1 + 1, 1, none⟩ = some (cellAt w' ⟨w.heap.size + 1 + 1, 1, none⟩) ∧ w'.frozen? ⟨w.heap.size + 1 + 1, 1, none⟩ = false ∧ w'.cell? ⟨w.heap.size + 1 + 1, 2, none⟩ = some (cellAt w' ⟨w.heap.size + 1 + 1, 2, none⟩) ∧ w'.frozen? ⟨w.heap.size + 1 + 1, 2, none⟩ = false ∧ w'.cell? ⟨w.heap.size + 1 + 1, 3, none⟩ = some (cellAt w' ⟨w.heap.size + 1 + 1, 3, none⟩) ∧ w'.frozen? ⟨w.heap.size + 1 + 1, 3, none⟩ = false ∧ w'.cell? ⟨w.heap.size + 1 + 1, 4, none⟩ = some (cellAt w' ⟨w.heap.size + 1 + 1, 4, none⟩) ∧ w'.frozen? ⟨w.heap.size + 1 + 1, 4, none⟩ = false ∧ w'.cell? ⟨w.heap.size + 1 + 1, 5, none⟩ = some (cellAt w' ⟨w.heap.size + 1 + 1, 5, none⟩) ∧ w'.frozen? ⟨w.heap.size + 1 + 1, 5, none⟩ = false) from fun w' h => ⟨h, (h.blk K0.out (by omega)).cell 0, (h.blk K0.out (by omega)).cell 1, (h.blk K0.out (by omega)).cell 2, (h.blk K0.out (by omega)).cell 3, (h.blk K0.out (by omega)).cell 4, (h.blk K0.out (by omega)).cell 5, (h.blk K1.out (by omega)).cell 0, (h.blk K1.out (by omega)).cell 1, (h.blk K1.out (by omega)).cell 2, (h.blk K1.out (by omega)).cell 3, (h.blk K1.out (by omega)).cell 4, (h.blk K1.out (by omega)).cell 5, (h.at_ 0 (by decide)).1, (h.at_ 0 (by decide)).2, (h.at_ 1 (by decide)).1, (h.at_ 1 (by decide)).2, (h.at_ 2 (by decide)).1, (h.at_ 2 (by decide)).2, (h.at_ 3 (by decide)).1, (h.at_ 3 (by decide)).2, (h.at_ 4 (by decide)).1, (h.at_ 4 (by decide)).2, (h.at_ 5 (by decide)).1, (h.at_ 5 (by decide)).2⟩)
  have D0 := Lib.hid (show Hd W (w.heap.size + 1 + 1) 26 6 W from Hd.start K2.out)
  refine wp_region_held (S := (fun w' => Hd W (w.heap.size + 1 + 1) 26 6 w' ∧ w'.cell? ⟨w.heap.size, 0, none⟩ = some (Value.float FloatKind.f64 a.x.lo) ∧ w'.cell? ⟨w.heap.size, 1, none⟩ = some (Value.float FloatKind.f64 a.x.hi) ∧ w'.cell? ⟨w.heap.size, 2, none⟩ = some (Value.float FloatKind.f64 a.y.lo) ∧ w'.cell? ⟨w.heap.size, 3, none⟩ = some (Value.float FloatKind.f64 a.y.hi) ∧ w'.cell? ⟨w.heap.size, 4, none⟩ = some (Value.float FloatKind.f64 a.z.lo) ∧ w'.cell? ⟨w.heap.size, 5, none⟩ = some (Value.float FloatKind.f64 a.z.hi) ∧ w'.cell? ⟨w.heap.size + 1, 0, none⟩ = some (Value.float FloatKind.f64 b.x.lo) ∧ w'.cell? ⟨w.heap.size + 1, 1, none⟩ = some (Value.float FloatKind.f64 b.x.hi) ∧ w'.cell? ⟨w.heap.size + 1, 2, none⟩ = some (Value.float FloatKind.f64 b.y.lo) ∧ w'.cell? ⟨w.heap.size + 1, 3, none⟩ = some (Value.float FloatKind.f64 b.y.hi) ∧ w'.cell? ⟨w.heap.size + 1, 4, none⟩ = some (Value.float FloatKind.f64 b.z.lo) ∧ w'.cell? ⟨w.heap.size + 1, 5, none⟩ = some (Value.float FloatKind.f64 b.z.hi) ∧ w'.cell? ⟨w.heap.size + 1 + 1, 0, none⟩ = some (cellAt w' ⟨w.heap.size + 1 + 1, 0, none⟩) ∧ w'.frozen? ⟨w.heap.size + 1 + 1, 0, none⟩ = false ∧ w'.cell? ⟨w.heap.size + 1 + 1, 1, none⟩ = some (cellAt w' ⟨w.heap.size + 1 + 1, 1, none⟩) ∧ w'.frozen? ⟨w.heap.size + 1 + 1, 1, none⟩ = false ∧ w'.cell? ⟨w.heap.size + 1 + 1, 2, none⟩ = some (cellAt w' ⟨w.heap.size + 1 + 1, 2, none⟩) ∧ w'.frozen? ⟨w.heap.size + 1 + 1, 2, none⟩ = false ∧ w'.cell? ⟨w.heap.size + 1 + 1, 3, none⟩ = some (cellAt w' ⟨w.heap.size + 1 + 1, 3, none⟩) ∧ w'.frozen? ⟨w.heap.size + 1 + 1, 3, none⟩ = false ∧ w'.cell? ⟨w.heap.size + 1 + 1, 4, none⟩ = some (cellAt w' ⟨w.heap.size + 1 + 1, 4, none⟩) ∧ w'.frozen? ⟨w.heap.size + 1 + 1, 4, none⟩ = false ∧ w'.cell? ⟨w.heap.size + 1 + 1, 5, none⟩ = some (cellAt w' ⟨w.heap.size + 1 + 1, 5, none⟩) ∧ w'.frozen? ⟨w.heap.size + 1 + 1, 5, none⟩ = false)) (by kernel_rfl) ?_
  (try change wpAnyH _ _ _ _ _ _ _ (World.drew _))
  have hS0 := HO.out _ (Hd.drew D0.out)
  refine wpAnyH_takeN (i := 0) (v := ?v1_0) (l' := bm 17 1) (a' := ?a1_0) rfl (by kernel_rfl) (by kernel_rfl) (by kernel_rfl) (fun _ _ _ h => h) (Or.inl ⟨by kernel_rfl, ?h1_0⟩) (by kernel_rfl) ?p1_0 hS0 ?r1_0
  case h1_0 => (intro w hS; go_simp; try with_reducible rfl)
  case p1_0 => (go_simp; try with_reducible rfl)
  refine wpAnyH_takeN (i := 1) (v := ?v1_1) (l' := bm 17 3) (a' := ?a1_1) rfl (by kernel_rfl) (by kernel_rfl) (by kernel_rfl) (fun _ _ _ h => h) (Or.inl ⟨by kernel_rfl, ?h1_1⟩) (by kernel_rfl) ?p1_1 hS0 ?r1_1
  case h1_1 => (intro w hS; go_simp; try with_reducible rfl)
  case p1_1 => (go_simp; try with_reducible rfl)
  refine wpAnyH_takeN (i := 2) (v := ?v1_2) (l' := bm 17 7) (a' := ?a1_2) rfl (by kernel_rfl) (by kernel_rfl) (by kernel_rfl) (fun _ _ _ h => h) (Or.inl ⟨by kernel_rfl, ?h1_2⟩) (by kernel_rfl) ?p1_2 hS0 ?r1_2
  case h1_2 => (intro w hS; go_simp; try with_reducible rfl)
  case p1_2 => (go_simp; try with_reducible rfl)
  refine wpAnyH_takeN (i := 3) (v := ?v1_3) (l' := bm 17 15) (a' := ?a1_3) rfl (by kernel_rfl) (by kernel_rfl) (by kernel_rfl) (fun _ _ _ h => h) (Or.inl ⟨by kernel_rfl, ?h1_3⟩) (by kernel_rfl) ?p1_3 hS0 ?r1_3
  case h1_3 => (intro w hS; go_simp; try with_reducible rfl)
  case p1_3 => (go_simp; try with_reducible rfl)
  refine wpAnyH_takeN (i := 5) (v := ?v1_5) (l' := bm 17 47) (a' := ?a1_5) rfl (by kernel_rfl) (by kernel_rfl) (by kernel_rfl) (fun _ _ _ h => h) (Or.inl ⟨by kernel_rfl, ?h1_5⟩) (by kernel_rfl) ?p1_5 hS0 ?r1_5
  case h1_5 => (intro w hS; go_simp; try with_reducible rfl)
  case p1_5 => (go_simp; try with_reducible rfl)
  refine wpAnyH_takeN (i := 6) (v := ?v1_6) (l' := bm 17 111) (a' := ?a1_6) rfl (by kernel_rfl) (by kernel_rfl) (by kernel_rfl) (fun _ _ _ h => h) (Or.inl ⟨by kernel_rfl, ?h1_6⟩) (by kernel_rfl) ?p1_6 hS0 ?r1_6
  case h1_6 => (intro w hS; go_simp; try with_reducible rfl)
  case p1_6 => (go_simp; try with_reducible rfl)
  refine wpAnyH_takeN (i := 7) (v := ?v1_7) (l' := bm 17 239) (a' := ?a1_7) rfl (by kernel_rfl) (by kernel_rfl) (by kernel_rfl) (fun _ _ _ h => h) (Or.inl ⟨by kernel_rfl, ?h1_7⟩) (by kernel_rfl) ?p1_7 hS0 ?r1_7
  case h1_7 => (intro w hS; go_simp; try with_reducible rfl)
  case p1_7 => (go_simp; try with_reducible rfl)
  refine wpAnyH_takeN (i := 8) (v := ?v1_8) (l' := bm 17 495) (a' := ?a1_8) rfl (by kernel_rfl) (by kernel_rfl) (by kernel_rfl) (fun _ _ _ h => h) (Or.inl ⟨by kernel_rfl, ?h1_8⟩) (by kernel_rfl) ?p1_8 hS0 ?r1_8
  case h1_8 => (intro w hS; go_simp; try with_reducible rfl)
  case p1_8 => (go_simp; try with_reducible rfl)
  refine wpAnyH_takeN (i := 10) (v := ?v1_10) (l' := bm 17 1519) (a' := ?a1_10) rfl (by kernel_rfl) (by kernel_rfl) (by kernel_rfl) (fun _ _ _ h => h) (Or.inl ⟨by kernel_rfl, ?h1_10⟩) (by kernel_rfl) ?p1_10 hS0 ?r1_10
  case h1_10 => (intro w hS; go_simp; try with_reducible rfl)
  case p1_10 => (go_simp; try with_reducible rfl)
  refine wpAnyH_takeN (i := 11) (v := ?v1_11) (l' := bm 17 3567) (a' := ?a1_11) rfl (by kernel_rfl) (by kernel_rfl) (by kernel_rfl) (fun _ _ _ h => h) (Or.inl ⟨by kernel_rfl, ?h1_11⟩) (by kernel_rfl) ?p1_11 hS0 ?r1_11
  case h1_11 => (intro w hS; go_simp; try with_reducible rfl)
  case p1_11 => (go_simp; try with_reducible rfl)
  refine wpAnyH_takeN (i := 12) (v := ?v1_12) (l' := bm 17 7663) (a' := ?a1_12) rfl (by kernel_rfl) (by kernel_rfl) (by kernel_rfl) (fun _ _ _ h => h) (Or.inl ⟨by kernel_rfl, ?h1_12⟩) (by kernel_rfl) ?p1_12 hS0 ?r1_12
  case h1_12 => (intro w hS; go_simp; try with_reducible rfl)
  case p1_12 => (go_simp; try with_reducible rfl)
  refine wpAnyH_takeN (i := 13) (v := ?v1_13) (l' := bm 17 15855) (a' := ?a1_13) rfl (by kernel_rfl) (by kernel_rfl) (by kernel_rfl) (fun _ _ _ h => h) (Or.inl ⟨by kernel_rfl, ?h1_13⟩) (by kernel_rfl) ?p1_13 hS0 ?r1_13
  case h1_13 => (intro w hS; go_simp; try with_reducible rfl)
  case p1_13 => (go_simp; try with_reducible rfl)
  refine wpAnyH_oneN (i := 4) (l' := bm 17 15871) rfl (by kernel_rfl) (by kernel_rfl) (by kernel_rfl) (fun K hK => ?_)
  have hP := hS0.1
  go_simp
  go_at_call 85
  refine (C0.out _).mono ?_
  rintro r w1 ⟨rfl, hb⟩
  dsimp only
  have D1 := Lib.hid (Hd.call hP hb)
  clear hb
  have hS1 := HO.out _ (D1.out)
  clear hP hS0
  refine hK _ _ hS1 ?_
  clear hK K
  refine wpAnyH_oneN (i := 9) (l' := bm 17 16383) rfl (by kernel_rfl) (by kernel_rfl) (by kernel_rfl) (fun K hK => ?_)
  have hP := hS1.1
  go_simp
  go_at_call 85
  refine (C1.out _).mono ?_
  rintro r w2 ⟨rfl, hb⟩
  dsimp only
  have D2 := Lib.hid (Hd.call hP hb)
  clear hb
  have hS2 := HO.out _ (D2.out)
  clear hP hS1
  refine hK _ _ hS2 ?_
  clear hK K
  refine wpAnyH_oneN (i := 14) (l' := bm 17 32767) rfl (by kernel_rfl) (by kernel_rfl) (by kernel_rfl) (fun K hK => ?_)
  have hP := hS2.1
  go_simp
  go_at_call 85
  refine (C2.out _).mono ?_
  rintro r w3 ⟨rfl, hb⟩
  dsimp only
  have D3 := Lib.hid (Hd.call hP hb)
  clear hb
  have hS3 := HO.out _ (D3.out)
  clear hP hS2
  refine hK _ _ hS3 ?_
  clear hK K
  refine wpAnyH_takeN (i := 15) (v := ?v1_15) (l' := bm 17 65535) (a' := ?a1_15) rfl (by kernel_rfl) (by kernel_rfl) (by kernel_rfl) (fun _ _ _ h => h) (Or.inl ⟨by kernel_rfl, ?h1_15⟩) (by kernel_rfl) ?p1_15 hS3 ?r1_15
  case h1_15 => (intro w hS; go_simp; try with_reducible rfl)
  case p1_15 => (go_simp; try with_reducible rfl)
  refine wpAnyH_oneN (i := 16) (l' := bm 17 131071) rfl (by kernel_rfl) (by kernel_rfl) (by kernel_rfl) (fun K hK => ?_)
  have hP := hS3.1
  go_simp
  have hS4 := HO.out _ ((Hd.set (Hd.set (Hd.set (Hd.set (Hd.set (Hd.set hP 0 (Value.float FloatKind.f64 p0.lo)) 1 (Value.float FloatKind.f64 p0.hi)) 2 (Value.float FloatKind.f64 p1.lo)) 3 (Value.float FloatKind.f64 p1.hi)) 4 (Value.float FloatKind.f64 p2.lo)) 5 (Value.float FloatKind.f64 p2.hi)))
  clear hP hS3
  refine hK _ _ hS4 ?_
  clear hK K
  refine wpAnyH_done (by kernel_rfl) ?_ _
  have hF := hS4.1
  clear hS4
  go_wp2_with fail
  (try simp only [Exit.inBlock, Exit.then])
  refine bodyPost_ret (resV rfl _ _ (w.heap.size + 1 + 1) (Value.float FloatKind.f64 p0.lo) (Value.float FloatKind.f64 p0.hi) (Value.float FloatKind.f64 p1.lo) (Value.float FloatKind.f64 p1.hi) (Value.float FloatKind.f64 p2.lo) (Value.float FloatKind.f64 p2.hi) rfl (Hd.wrote6 hF)) rfl ⟨rfl, Hd.below hF HB.out (by omega)⟩
set_option maxRecDepth 100000 in
set_option maxHeartbeats 4000000 in
theorem rsubV_any (a : V3) (b : V3) (w : World) : Calls Try.prog 43 #[vval a, vval b] w fun r w' => r = .returned (vval (vSub a b)) ∧ Below w.heap.size w w' := by
  have C0 := Lib.hid (fun w => rsub_sp a.x b.x w)
  have C1 := Lib.hid (fun w => rsub_sp a.y b.y w)
  have C2 := Lib.hid (fun w => rsub_sp a.z b.z w)
  unfold vSub
  generalize subS a.x b.x = p0 at *
  generalize subS a.y b.y = p1 at *
  generalize subS a.z b.z = p2 at *
  go_enter Try.func43, Try.ntmps43
  go_wp2_with fail
  obtain ⟨W, hW, K0, K1, K2, hB, hz⟩ := box3 w 26 26 26 #[Value.float FloatKind.f64 a.x.lo, Value.float FloatKind.f64 a.x.hi, Value.float FloatKind.f64 a.y.lo, Value.float FloatKind.f64 a.y.hi, Value.float FloatKind.f64 a.z.lo, Value.float FloatKind.f64 a.z.hi] #[Value.float FloatKind.f64 b.x.lo, Value.float FloatKind.f64 b.x.hi, Value.float FloatKind.f64 b.y.lo, Value.float FloatKind.f64 b.y.hi, Value.float FloatKind.f64 b.z.lo, Value.float FloatKind.f64 b.z.hi] #[Value.float FloatKind.f64 0, Value.float FloatKind.f64 0, Value.float FloatKind.f64 0, Value.float FloatKind.f64 0, Value.float FloatKind.f64 0, Value.float FloatKind.f64 0]
  rw [← hW]
  have K0 := Lib.hid K0
  have K1 := Lib.hid K1
  have K2 := Lib.hid K2
  have HB := Lib.hid hB
  clear hW hB hz
  have HO := Lib.hid (show ∀ w', Hd W (w.heap.size + 1 + 1) 26 6 w' → (Hd W (w.heap.size + 1 + 1) 26 6 w' ∧ w'.cell? ⟨w.heap.size, 0, none⟩ = some (Value.float FloatKind.f64 a.x.lo) ∧ w'.cell? ⟨w.heap.size, 1, none⟩ = some (Value.float FloatKind.f64 a.x.hi) ∧ w'.cell? ⟨w.heap.size, 2, none⟩ = some (Value.float FloatKind.f64 a.y.lo) ∧ w'.cell? ⟨w.heap.size, 3, none⟩ = some (Value.float FloatKind.f64 a.y.hi) ∧ w'.cell? ⟨w.heap.size, 4, none⟩ = some (Value.float FloatKind.f64 a.z.lo) ∧ w'.cell? ⟨w.heap.size, 5, none⟩ = some (Value.float FloatKind.f64 a.z.hi) ∧ w'.cell? ⟨w.heap.size + 1, 0, none⟩ = some (Value.float FloatKind.f64 b.x.lo) ∧ w'.cell? ⟨w.heap.size + 1, 1, none⟩ = some (Value.float FloatKind.f64 b.x.hi) ∧ w'.cell? ⟨w.heap.size + 1, 2, none⟩ = some (Value.float FloatKind.f64 b.y.lo) ∧ w'.cell? ⟨w.heap.size + 1, 3, none⟩ = some (Value.float FloatKind.f64 b.y.hi) ∧ w'.cell? ⟨w.heap.size + 1, 4, none⟩ = some (Value.float FloatKind.f64 b.z.lo) ∧ w'.cell? ⟨w.heap.size + 1, 5, none⟩ = some (Value.float FloatKind.f64 b.z.hi) ∧ w'.cell? ⟨w.heap.size + 1 + 1, 0, none⟩ = some (cellAt w' ⟨w.heap.size + 1 + 1, 0, none⟩) ∧ w'.frozen? ⟨w.heap.size + 1 + 1, 0, none⟩ = false ∧ w'.cell? ⟨w.heap.size + 1 + 1, 1, none⟩ = some (cellAt w' ⟨w.heap.size + 1 + 1, 1, none⟩) ∧ w'.frozen? ⟨w.heap.size + 1 + 1, 1, none⟩ = false ∧ w'.cell? ⟨w.heap.size + 1 + 1, 2, none⟩ = some (cellAt w' ⟨w.heap.size + 1 + 1, 2, none⟩) ∧ w'.frozen? ⟨w.heap.size + 1 + 1, 2, none⟩ = false ∧ w'.cell? ⟨w.heap.size + 1 + 1, 3, none⟩ = some (cellAt w' ⟨w.heap.size + 1 + 1, 3, none⟩) ∧ w'.frozen? ⟨w.heap.size + 1 + 1, 3, none⟩ = false ∧ w'.cell? ⟨w.heap.size + 1 + 1, 4, none⟩ = some (cellAt w' ⟨w.heap.size + 1 + 1, 4, none⟩) ∧ w'.frozen? ⟨w.heap.size + 1 + 1, 4, none⟩ = false ∧ w'.cell? ⟨w.heap.size + 1 + 1, 5, none⟩ = some (cellAt w' ⟨w.heap.size + 1 + 1, 5, none⟩) ∧ w'.frozen? ⟨w.heap.size + 1 + 1, 5, none⟩ = false) from fun w' h => ⟨h, (h.blk K0.out (by omega)).cell 0, (h.blk K0.out (by omega)).cell 1, (h.blk K0.out (by omega)).cell 2, (h.blk K0.out (by omega)).cell 3, (h.blk K0.out (by omega)).cell 4, (h.blk K0.out (by omega)).cell 5, (h.blk K1.out (by omega)).cell 0, (h.blk K1.out (by omega)).cell 1, (h.blk K1.out (by omega)).cell 2, (h.blk K1.out (by omega)).cell 3, (h.blk K1.out (by omega)).cell 4, (h.blk K1.out (by omega)).cell 5, (h.at_ 0 (by decide)).1, (h.at_ 0 (by decide)).2, (h.at_ 1 (by decide)).1, (h.at_ 1 (by decide)).2, (h.at_ 2 (by decide)).1, (h.at_ 2 (by decide)).2, (h.at_ 3 (by decide)).1, (h.at_ 3 (by decide)).2, (h.at_ 4 (by decide)).1, (h.at_ 4 (by decide)).2, (h.at_ 5 (by decide)).1, (h.at_ 5 (by decide)).2⟩)
  have D0 := Lib.hid (show Hd W (w.heap.size + 1 + 1) 26 6 W from Hd.start K2.out)
  refine wp_region_held (S := (fun w' => Hd W (w.heap.size + 1 + 1) 26 6 w' ∧ w'.cell? ⟨w.heap.size, 0, none⟩ = some (Value.float FloatKind.f64 a.x.lo) ∧ w'.cell? ⟨w.heap.size, 1, none⟩ = some (Value.float FloatKind.f64 a.x.hi) ∧ w'.cell? ⟨w.heap.size, 2, none⟩ = some (Value.float FloatKind.f64 a.y.lo) ∧ w'.cell? ⟨w.heap.size, 3, none⟩ = some (Value.float FloatKind.f64 a.y.hi) ∧ w'.cell? ⟨w.heap.size, 4, none⟩ = some (Value.float FloatKind.f64 a.z.lo) ∧ w'.cell? ⟨w.heap.size, 5, none⟩ = some (Value.float FloatKind.f64 a.z.hi) ∧ w'.cell? ⟨w.heap.size + 1, 0, none⟩ = some (Value.float FloatKind.f64 b.x.lo) ∧ w'.cell? ⟨w.heap.size + 1, 1, none⟩ = some (Value.float FloatKind.f64 b.x.hi) ∧ w'.cell? ⟨w.heap.size + 1, 2, none⟩ = some (Value.float FloatKind.f64 b.y.lo) ∧ w'.cell? ⟨w.heap.size + 1, 3, none⟩ = some (Value.float FloatKind.f64 b.y.hi) ∧ w'.cell? ⟨w.heap.size + 1, 4, none⟩ = some (Value.float FloatKind.f64 b.z.lo) ∧ w'.cell? ⟨w.heap.size + 1, 5, none⟩ = some (Value.float FloatKind.f64 b.z.hi) ∧ w'.cell? ⟨w.heap.size + 1 + 1, 0, none⟩ = some (cellAt w' ⟨w.heap.size + 1 + 1, 0, none⟩) ∧ w'.frozen? ⟨w.heap.size + 1 + 1, 0, none⟩ = false ∧ w'.cell? ⟨w.heap.size + 1 + 1, 1, none⟩ = some (cellAt w' ⟨w.heap.size + 1 + 1, 1, none⟩) ∧ w'.frozen? ⟨w.heap.size + 1 + 1, 1, none⟩ = false ∧ w'.cell? ⟨w.heap.size + 1 + 1, 2, none⟩ = some (cellAt w' ⟨w.heap.size + 1 + 1, 2, none⟩) ∧ w'.frozen? ⟨w.heap.size + 1 + 1, 2, none⟩ = false ∧ w'.cell? ⟨w.heap.size + 1 + 1, 3, none⟩ = some (cellAt w' ⟨w.heap.size + 1 + 1, 3, none⟩) ∧ w'.frozen? ⟨w.heap.size + 1 + 1, 3, none⟩ = false ∧ w'.cell? ⟨w.heap.size + 1 + 1, 4, none⟩ = some (cellAt w' ⟨w.heap.size + 1 + 1, 4, none⟩) ∧ w'.frozen? ⟨w.heap.size + 1 + 1, 4, none⟩ = false ∧ w'.cell? ⟨w.heap.size + 1 + 1, 5, none⟩ = some (cellAt w' ⟨w.heap.size + 1 + 1, 5, none⟩) ∧ w'.frozen? ⟨w.heap.size + 1 + 1, 5, none⟩ = false)) (by kernel_rfl) ?_
  (try change wpAnyH _ _ _ _ _ _ _ (World.drew _))
  have hS0 := HO.out _ (Hd.drew D0.out)
  refine wpAnyH_takeN (i := 0) (v := ?v1_0x1) (l' := bm 17 1) (a' := ?a1_0x1) rfl (by kernel_rfl) (by kernel_rfl) (by kernel_rfl) (fun _ _ _ h => h) (Or.inl ⟨by kernel_rfl, ?h1_0x1⟩) (by kernel_rfl) ?p1_0x1 hS0 ?r1_0x1
  case h1_0x1 => (intro w hS; go_simp; try with_reducible rfl)
  case p1_0x1 => (go_simp; try with_reducible rfl)
  refine wpAnyH_takeN (i := 1) (v := ?v1_1x1) (l' := bm 17 3) (a' := ?a1_1x1) rfl (by kernel_rfl) (by kernel_rfl) (by kernel_rfl) (fun _ _ _ h => h) (Or.inl ⟨by kernel_rfl, ?h1_1x1⟩) (by kernel_rfl) ?p1_1x1 hS0 ?r1_1x1
  case h1_1x1 => (intro w hS; go_simp; try with_reducible rfl)
  case p1_1x1 => (go_simp; try with_reducible rfl)
  refine wpAnyH_takeN (i := 2) (v := ?v1_2x1) (l' := bm 17 7) (a' := ?a1_2x1) rfl (by kernel_rfl) (by kernel_rfl) (by kernel_rfl) (fun _ _ _ h => h) (Or.inl ⟨by kernel_rfl, ?h1_2x1⟩) (by kernel_rfl) ?p1_2x1 hS0 ?r1_2x1
  case h1_2x1 => (intro w hS; go_simp; try with_reducible rfl)
  case p1_2x1 => (go_simp; try with_reducible rfl)
  refine wpAnyH_takeN (i := 3) (v := ?v1_3x1) (l' := bm 17 15) (a' := ?a1_3x1) rfl (by kernel_rfl) (by kernel_rfl) (by kernel_rfl) (fun _ _ _ h => h) (Or.inl ⟨by kernel_rfl, ?h1_3x1⟩) (by kernel_rfl) ?p1_3x1 hS0 ?r1_3x1
  case h1_3x1 => (intro w hS; go_simp; try with_reducible rfl)
  case p1_3x1 => (go_simp; try with_reducible rfl)
  refine wpAnyH_takeN (i := 5) (v := ?v1_5x1) (l' := bm 17 47) (a' := ?a1_5x1) rfl (by kernel_rfl) (by kernel_rfl) (by kernel_rfl) (fun _ _ _ h => h) (Or.inl ⟨by kernel_rfl, ?h1_5x1⟩) (by kernel_rfl) ?p1_5x1 hS0 ?r1_5x1
  case h1_5x1 => (intro w hS; go_simp; try with_reducible rfl)
  case p1_5x1 => (go_simp; try with_reducible rfl)
  refine wpAnyH_takeN (i := 6) (v := ?v1_6x1) (l' := bm 17 111) (a' := ?a1_6x1) rfl (by kernel_rfl) (by kernel_rfl) (by kernel_rfl) (fun _ _ _ h => h) (Or.inl ⟨by kernel_rfl, ?h1_6x1⟩) (by kernel_rfl) ?p1_6x1 hS0 ?r1_6x1
  case h1_6x1 => (intro w hS; go_simp; try with_reducible rfl)
  case p1_6x1 => (go_simp; try with_reducible rfl)
  refine wpAnyH_takeN (i := 7) (v := ?v1_7x1) (l' := bm 17 239) (a' := ?a1_7x1) rfl (by kernel_rfl) (by kernel_rfl) (by kernel_rfl) (fun _ _ _ h => h) (Or.inl ⟨by kernel_rfl, ?h1_7x1⟩) (by kernel_rfl) ?p1_7x1 hS0 ?r1_7x1
  case h1_7x1 => (intro w hS; go_simp; try with_reducible rfl)
  case p1_7x1 => (go_simp; try with_reducible rfl)
  refine wpAnyH_takeN (i := 8) (v := ?v1_8x1) (l' := bm 17 495) (a' := ?a1_8x1) rfl (by kernel_rfl) (by kernel_rfl) (by kernel_rfl) (fun _ _ _ h => h) (Or.inl ⟨by kernel_rfl, ?h1_8x1⟩) (by kernel_rfl) ?p1_8x1 hS0 ?r1_8x1
  case h1_8x1 => (intro w hS; go_simp; try with_reducible rfl)
  case p1_8x1 => (go_simp; try with_reducible rfl)
  refine wpAnyH_takeN (i := 10) (v := ?v1_10x1) (l' := bm 17 1519) (a' := ?a1_10x1) rfl (by kernel_rfl) (by kernel_rfl) (by kernel_rfl) (fun _ _ _ h => h) (Or.inl ⟨by kernel_rfl, ?h1_10x1⟩) (by kernel_rfl) ?p1_10x1 hS0 ?r1_10x1
  case h1_10x1 => (intro w hS; go_simp; try with_reducible rfl)
  case p1_10x1 => (go_simp; try with_reducible rfl)
  refine wpAnyH_takeN (i := 11) (v := ?v1_11x1) (l' := bm 17 3567) (a' := ?a1_11x1) rfl (by kernel_rfl) (by kernel_rfl) (by kernel_rfl) (fun _ _ _ h => h) (Or.inl ⟨by kernel_rfl, ?h1_11x1⟩) (by kernel_rfl) ?p1_11x1 hS0 ?r1_11x1
  case h1_11x1 => (intro w hS; go_simp; try with_reducible rfl)
  case p1_11x1 => (go_simp; try with_reducible rfl)
  refine wpAnyH_takeN (i := 12) (v := ?v1_12x1) (l' := bm 17 7663) (a' := ?a1_12x1) rfl (by kernel_rfl) (by kernel_rfl) (by kernel_rfl) (fun _ _ _ h => h) (Or.inl ⟨by kernel_rfl, ?h1_12x1⟩) (by kernel_rfl) ?p1_12x1 hS0 ?r1_12x1
  case h1_12x1 => (intro w hS; go_simp; try with_reducible rfl)
  case p1_12x1 => (go_simp; try with_reducible rfl)
  refine wpAnyH_takeN (i := 13) (v := ?v1_13x1) (l' := bm 17 15855) (a' := ?a1_13x1) rfl (by kernel_rfl) (by kernel_rfl) (by kernel_rfl) (fun _ _ _ h => h) (Or.inl ⟨by kernel_rfl, ?h1_13x1⟩) (by kernel_rfl) ?p1_13x1 hS0 ?r1_13x1
  case h1_13x1 => (intro w hS; go_simp; try with_reducible rfl)
  case p1_13x1 => (go_simp; try with_reducible rfl)
  refine wpAnyH_oneN (i := 4) (l' := bm 17 15871) rfl (by kernel_rfl) (by kernel_rfl) (by kernel_rfl) (fun K hK => ?_)
  have hP := hS0.1
  go_simp
  go_at_call 86
  refine (C0.out _).mono ?_
  rintro r w1 ⟨rfl, hb⟩
  dsimp only
  have D1 := Lib.hid (Hd.call hP hb)
  clear hb
  have hS1 := HO.out _ (D1.out)
  clear hP hS0
  refine hK _ _ hS1 ?_
  clear hK K
  refine wpAnyH_oneN (i := 9) (l' := bm 17 16383) rfl (by kernel_rfl) (by kernel_rfl) (by kernel_rfl) (fun K hK => ?_)
  have hP := hS1.1
  go_simp
  go_at_call 86
  refine (C1.out _).mono ?_
  rintro r w2 ⟨rfl, hb⟩
  dsimp only
  have D2 := Lib.hid (Hd.call hP hb)
  clear hb
  have hS2 := HO.out _ (D2.out)
  clear hP hS1
  refine hK _ _ hS2 ?_
  clear hK K
  refine wpAnyH_oneN (i := 14) (l' := bm 17 32767) rfl (by kernel_rfl) (by kernel_rfl) (by kernel_rfl) (fun K hK => ?_)
  have hP := hS2.1
  go_simp
  go_at_call 86
  refine (C2.out _).mono ?_
  rintro r w3 ⟨rfl, hb⟩
  dsimp only
  have D3 := Lib.hid (Hd.call hP hb)
  clear hb
  have hS3 := HO.out _ (D3.out)
  clear hP hS2
  refine hK _ _ hS3 ?_
  clear hK K
  refine wpAnyH_takeN (i := 15) (v := ?v1_15x1) (l' := bm 17 65535) (a' := ?a1_15x1) rfl (by kernel_rfl) (by kernel_rfl) (by kernel_rfl) (fun _ _ _ h => h) (Or.inl ⟨by kernel_rfl, ?h1_15x1⟩) (by kernel_rfl) ?p1_15x1 hS3 ?r1_15x1
  case h1_15x1 => (intro w hS; go_simp; try with_reducible rfl)
  case p1_15x1 => (go_simp; try with_reducible rfl)
  refine wpAnyH_oneN (i := 16) (l' := bm 17 131071) rfl (by kernel_rfl) (by kernel_rfl) (by kernel_rfl) (fun K hK => ?_)
  have hP := hS3.1
  go_simp
  have hS4 := HO.out _ ((Hd.set (Hd.set (Hd.set (Hd.set (Hd.set (Hd.set hP 0 (Value.float FloatKind.f64 p0.lo)) 1 (Value.float FloatKind.f64 p0.hi)) 2 (Value.float FloatKind.f64 p1.lo)) 3 (Value.float FloatKind.f64 p1.hi)) 4 (Value.float FloatKind.f64 p2.lo)) 5 (Value.float FloatKind.f64 p2.hi)))
  clear hP hS3
  refine hK _ _ hS4 ?_
  clear hK K
  refine wpAnyH_done (by kernel_rfl) ?_ _
  have hF := hS4.1
  clear hS4
  go_wp2_with fail
  (try simp only [Exit.inBlock, Exit.then])
  refine bodyPost_ret (resV rfl _ _ (w.heap.size + 1 + 1) (Value.float FloatKind.f64 p0.lo) (Value.float FloatKind.f64 p0.hi) (Value.float FloatKind.f64 p1.lo) (Value.float FloatKind.f64 p1.hi) (Value.float FloatKind.f64 p2.lo) (Value.float FloatKind.f64 p2.hi) rfl (Hd.wrote6 hF)) rfl ⟨rfl, Hd.below hF HB.out (by omega)⟩
set_option maxRecDepth 100000 in
set_option maxHeartbeats 4000000 in
theorem rmulV_any (a : V3) (b : V3) (w : World) : Calls Try.prog 44 #[vval a, vval b] w fun r w' => r = .returned (vval (vMul a b)) ∧ Below w.heap.size w w' := by
  have C0 := Lib.hid (fun w => rmul_sp a.x b.x w)
  have C1 := Lib.hid (fun w => rmul_sp a.y b.y w)
  have C2 := Lib.hid (fun w => rmul_sp a.z b.z w)
  unfold vMul
  generalize mulS a.x b.x = p0 at *
  generalize mulS a.y b.y = p1 at *
  generalize mulS a.z b.z = p2 at *
  go_enter Try.func44, Try.ntmps44
  go_wp2_with fail
  obtain ⟨W, hW, K0, K1, K2, hB, hz⟩ := box3 w 26 26 26 #[Value.float FloatKind.f64 a.x.lo, Value.float FloatKind.f64 a.x.hi, Value.float FloatKind.f64 a.y.lo, Value.float FloatKind.f64 a.y.hi, Value.float FloatKind.f64 a.z.lo, Value.float FloatKind.f64 a.z.hi] #[Value.float FloatKind.f64 b.x.lo, Value.float FloatKind.f64 b.x.hi, Value.float FloatKind.f64 b.y.lo, Value.float FloatKind.f64 b.y.hi, Value.float FloatKind.f64 b.z.lo, Value.float FloatKind.f64 b.z.hi] #[Value.float FloatKind.f64 0, Value.float FloatKind.f64 0, Value.float FloatKind.f64 0, Value.float FloatKind.f64 0, Value.float FloatKind.f64 0, Value.float FloatKind.f64 0]
  rw [← hW]
  have K0 := Lib.hid K0
  have K1 := Lib.hid K1
  have K2 := Lib.hid K2
  have HB := Lib.hid hB
  clear hW hB hz
  have HO := Lib.hid (show ∀ w', Hd W (w.heap.size + 1 + 1) 26 6 w' → (Hd W (w.heap.size + 1 + 1) 26 6 w' ∧ w'.cell? ⟨w.heap.size, 0, none⟩ = some (Value.float FloatKind.f64 a.x.lo) ∧ w'.cell? ⟨w.heap.size, 1, none⟩ = some (Value.float FloatKind.f64 a.x.hi) ∧ w'.cell? ⟨w.heap.size, 2, none⟩ = some (Value.float FloatKind.f64 a.y.lo) ∧ w'.cell? ⟨w.heap.size, 3, none⟩ = some (Value.float FloatKind.f64 a.y.hi) ∧ w'.cell? ⟨w.heap.size, 4, none⟩ = some (Value.float FloatKind.f64 a.z.lo) ∧ w'.cell? ⟨w.heap.size, 5, none⟩ = some (Value.float FloatKind.f64 a.z.hi) ∧ w'.cell? ⟨w.heap.size + 1, 0, none⟩ = some (Value.float FloatKind.f64 b.x.lo) ∧ w'.cell? ⟨w.heap.size + 1, 1, none⟩ = some (Value.float FloatKind.f64 b.x.hi) ∧ w'.cell? ⟨w.heap.size + 1, 2, none⟩ = some (Value.float FloatKind.f64 b.y.lo) ∧ w'.cell? ⟨w.heap.size + 1, 3, none⟩ = some (Value.float FloatKind.f64 b.y.hi) ∧ w'.cell? ⟨w.heap.size + 1, 4, none⟩ = some (Value.float FloatKind.f64 b.z.lo) ∧ w'.cell? ⟨w.heap.size + 1, 5, none⟩ = some (Value.float FloatKind.f64 b.z.hi) ∧ w'.cell? ⟨w.heap.size + 1 + 1, 0, none⟩ = some (cellAt w' ⟨w.heap.size + 1 + 1, 0, none⟩) ∧ w'.frozen? ⟨w.heap.size + 1 + 1, 0, none⟩ = false ∧ w'.cell? ⟨w.heap.size + 1 + 1, 1, none⟩ = some (cellAt w' ⟨w.heap.size + 1 + 1, 1, none⟩) ∧ w'.frozen? ⟨w.heap.size + 1 + 1, 1, none⟩ = false ∧ w'.cell? ⟨w.heap.size + 1 + 1, 2, none⟩ = some (cellAt w' ⟨w.heap.size + 1 + 1, 2, none⟩) ∧ w'.frozen? ⟨w.heap.size + 1 + 1, 2, none⟩ = false ∧ w'.cell? ⟨w.heap.size + 1 + 1, 3, none⟩ = some (cellAt w' ⟨w.heap.size + 1 + 1, 3, none⟩) ∧ w'.frozen? ⟨w.heap.size + 1 + 1, 3, none⟩ = false ∧ w'.cell? ⟨w.heap.size + 1 + 1, 4, none⟩ = some (cellAt w' ⟨w.heap.size + 1 + 1, 4, none⟩) ∧ w'.frozen? ⟨w.heap.size + 1 + 1, 4, none⟩ = false ∧ w'.cell? ⟨w.heap.size + 1 + 1, 5, none⟩ = some (cellAt w' ⟨w.heap.size + 1 + 1, 5, none⟩) ∧ w'.frozen? ⟨w.heap.size + 1 + 1, 5, none⟩ = false) from fun w' h => ⟨h, (h.blk K0.out (by omega)).cell 0, (h.blk K0.out (by omega)).cell 1, (h.blk K0.out (by omega)).cell 2, (h.blk K0.out (by omega)).cell 3, (h.blk K0.out (by omega)).cell 4, (h.blk K0.out (by omega)).cell 5, (h.blk K1.out (by omega)).cell 0, (h.blk K1.out (by omega)).cell 1, (h.blk K1.out (by omega)).cell 2, (h.blk K1.out (by omega)).cell 3, (h.blk K1.out (by omega)).cell 4, (h.blk K1.out (by omega)).cell 5, (h.at_ 0 (by decide)).1, (h.at_ 0 (by decide)).2, (h.at_ 1 (by decide)).1, (h.at_ 1 (by decide)).2, (h.at_ 2 (by decide)).1, (h.at_ 2 (by decide)).2, (h.at_ 3 (by decide)).1, (h.at_ 3 (by decide)).2, (h.at_ 4 (by decide)).1, (h.at_ 4 (by decide)).2, (h.at_ 5 (by decide)).1, (h.at_ 5 (by decide)).2⟩)
  have D0 := Lib.hid (show Hd W (w.heap.size + 1 + 1) 26 6 W from Hd.start K2.out)
  refine wp_region_held (S := (fun w' => Hd W (w.heap.size + 1 + 1) 26 6 w' ∧ w'.cell? ⟨w.heap.size, 0, none⟩ = some (Value.float FloatKind.f64 a.x.lo) ∧ w'.cell? ⟨w.heap.size, 1, none⟩ = some (Value.float FloatKind.f64 a.x.hi) ∧ w'.cell? ⟨w.heap.size, 2, none⟩ = some (Value.float FloatKind.f64 a.y.lo) ∧ w'.cell? ⟨w.heap.size, 3, none⟩ = some (Value.float FloatKind.f64 a.y.hi) ∧ w'.cell? ⟨w.heap.size, 4, none⟩ = some (Value.float FloatKind.f64 a.z.lo) ∧ w'.cell? ⟨w.heap.size, 5, none⟩ = some (Value.float FloatKind.f64 a.z.hi) ∧ w'.cell? ⟨w.heap.size + 1, 0, none⟩ = some (Value.float FloatKind.f64 b.x.lo) ∧ w'.cell? ⟨w.heap.size + 1, 1, none⟩ = some (Value.float FloatKind.f64 b.x.hi) ∧ w'.cell? ⟨w.heap.size + 1, 2, none⟩ = some (Value.float FloatKind.f64 b.y.lo) ∧ w'.cell? ⟨w.heap.size + 1, 3, none⟩ = some (Value.float FloatKind.f64 b.y.hi) ∧ w'.cell? ⟨w.heap.size + 1, 4, none⟩ = some (Value.float FloatKind.f64 b.z.lo) ∧ w'.cell? ⟨w.heap.size + 1, 5, none⟩ = some (Value.float FloatKind.f64 b.z.hi) ∧ w'.cell? ⟨w.heap.size + 1 + 1, 0, none⟩ = some (cellAt w' ⟨w.heap.size + 1 + 1, 0, none⟩) ∧ w'.frozen? ⟨w.heap.size + 1 + 1, 0, none⟩ = false ∧ w'.cell? ⟨w.heap.size + 1 + 1, 1, none⟩ = some (cellAt w' ⟨w.heap.size + 1 + 1, 1, none⟩) ∧ w'.frozen? ⟨w.heap.size + 1 + 1, 1, none⟩ = false ∧ w'.cell? ⟨w.heap.size + 1 + 1, 2, none⟩ = some (cellAt w' ⟨w.heap.size + 1 + 1, 2, none⟩) ∧ w'.frozen? ⟨w.heap.size + 1 + 1, 2, none⟩ = false ∧ w'.cell? ⟨w.heap.size + 1 + 1, 3, none⟩ = some (cellAt w' ⟨w.heap.size + 1 + 1, 3, none⟩) ∧ w'.frozen? ⟨w.heap.size + 1 + 1, 3, none⟩ = false ∧ w'.cell? ⟨w.heap.size + 1 + 1, 4, none⟩ = some (cellAt w' ⟨w.heap.size + 1 + 1, 4, none⟩) ∧ w'.frozen? ⟨w.heap.size + 1 + 1, 4, none⟩ = false ∧ w'.cell? ⟨w.heap.size + 1 + 1, 5, none⟩ = some (cellAt w' ⟨w.heap.size + 1 + 1, 5, none⟩) ∧ w'.frozen? ⟨w.heap.size + 1 + 1, 5, none⟩ = false)) (by kernel_rfl) ?_
  (try change wpAnyH _ _ _ _ _ _ _ (World.drew _))
  have hS0 := HO.out _ (Hd.drew D0.out)
  refine wpAnyH_takeN (i := 0) (v := ?v1_0x2) (l' := bm 17 1) (a' := ?a1_0x2) rfl (by kernel_rfl) (by kernel_rfl) (by kernel_rfl) (fun _ _ _ h => h) (Or.inl ⟨by kernel_rfl, ?h1_0x2⟩) (by kernel_rfl) ?p1_0x2 hS0 ?r1_0x2
  case h1_0x2 => (intro w hS; go_simp; try with_reducible rfl)
  case p1_0x2 => (go_simp; try with_reducible rfl)
  refine wpAnyH_takeN (i := 1) (v := ?v1_1x2) (l' := bm 17 3) (a' := ?a1_1x2) rfl (by kernel_rfl) (by kernel_rfl) (by kernel_rfl) (fun _ _ _ h => h) (Or.inl ⟨by kernel_rfl, ?h1_1x2⟩) (by kernel_rfl) ?p1_1x2 hS0 ?r1_1x2
  case h1_1x2 => (intro w hS; go_simp; try with_reducible rfl)
  case p1_1x2 => (go_simp; try with_reducible rfl)
  refine wpAnyH_takeN (i := 2) (v := ?v1_2x2) (l' := bm 17 7) (a' := ?a1_2x2) rfl (by kernel_rfl) (by kernel_rfl) (by kernel_rfl) (fun _ _ _ h => h) (Or.inl ⟨by kernel_rfl, ?h1_2x2⟩) (by kernel_rfl) ?p1_2x2 hS0 ?r1_2x2
  case h1_2x2 => (intro w hS; go_simp; try with_reducible rfl)
  case p1_2x2 => (go_simp; try with_reducible rfl)
  refine wpAnyH_takeN (i := 3) (v := ?v1_3x2) (l' := bm 17 15) (a' := ?a1_3x2) rfl (by kernel_rfl) (by kernel_rfl) (by kernel_rfl) (fun _ _ _ h => h) (Or.inl ⟨by kernel_rfl, ?h1_3x2⟩) (by kernel_rfl) ?p1_3x2 hS0 ?r1_3x2
  case h1_3x2 => (intro w hS; go_simp; try with_reducible rfl)
  case p1_3x2 => (go_simp; try with_reducible rfl)
  refine wpAnyH_takeN (i := 5) (v := ?v1_5x2) (l' := bm 17 47) (a' := ?a1_5x2) rfl (by kernel_rfl) (by kernel_rfl) (by kernel_rfl) (fun _ _ _ h => h) (Or.inl ⟨by kernel_rfl, ?h1_5x2⟩) (by kernel_rfl) ?p1_5x2 hS0 ?r1_5x2
  case h1_5x2 => (intro w hS; go_simp; try with_reducible rfl)
  case p1_5x2 => (go_simp; try with_reducible rfl)
  refine wpAnyH_takeN (i := 6) (v := ?v1_6x2) (l' := bm 17 111) (a' := ?a1_6x2) rfl (by kernel_rfl) (by kernel_rfl) (by kernel_rfl) (fun _ _ _ h => h) (Or.inl ⟨by kernel_rfl, ?h1_6x2⟩) (by kernel_rfl) ?p1_6x2 hS0 ?r1_6x2
  case h1_6x2 => (intro w hS; go_simp; try with_reducible rfl)
  case p1_6x2 => (go_simp; try with_reducible rfl)
  refine wpAnyH_takeN (i := 7) (v := ?v1_7x2) (l' := bm 17 239) (a' := ?a1_7x2) rfl (by kernel_rfl) (by kernel_rfl) (by kernel_rfl) (fun _ _ _ h => h) (Or.inl ⟨by kernel_rfl, ?h1_7x2⟩) (by kernel_rfl) ?p1_7x2 hS0 ?r1_7x2
  case h1_7x2 => (intro w hS; go_simp; try with_reducible rfl)
  case p1_7x2 => (go_simp; try with_reducible rfl)
  refine wpAnyH_takeN (i := 8) (v := ?v1_8x2) (l' := bm 17 495) (a' := ?a1_8x2) rfl (by kernel_rfl) (by kernel_rfl) (by kernel_rfl) (fun _ _ _ h => h) (Or.inl ⟨by kernel_rfl, ?h1_8x2⟩) (by kernel_rfl) ?p1_8x2 hS0 ?r1_8x2
  case h1_8x2 => (intro w hS; go_simp; try with_reducible rfl)
  case p1_8x2 => (go_simp; try with_reducible rfl)
  refine wpAnyH_takeN (i := 10) (v := ?v1_10x2) (l' := bm 17 1519) (a' := ?a1_10x2) rfl (by kernel_rfl) (by kernel_rfl) (by kernel_rfl) (fun _ _ _ h => h) (Or.inl ⟨by kernel_rfl, ?h1_10x2⟩) (by kernel_rfl) ?p1_10x2 hS0 ?r1_10x2
  case h1_10x2 => (intro w hS; go_simp; try with_reducible rfl)
  case p1_10x2 => (go_simp; try with_reducible rfl)
  refine wpAnyH_takeN (i := 11) (v := ?v1_11x2) (l' := bm 17 3567) (a' := ?a1_11x2) rfl (by kernel_rfl) (by kernel_rfl) (by kernel_rfl) (fun _ _ _ h => h) (Or.inl ⟨by kernel_rfl, ?h1_11x2⟩) (by kernel_rfl) ?p1_11x2 hS0 ?r1_11x2
  case h1_11x2 => (intro w hS; go_simp; try with_reducible rfl)
  case p1_11x2 => (go_simp; try with_reducible rfl)
  refine wpAnyH_takeN (i := 12) (v := ?v1_12x2) (l' := bm 17 7663) (a' := ?a1_12x2) rfl (by kernel_rfl) (by kernel_rfl) (by kernel_rfl) (fun _ _ _ h => h) (Or.inl ⟨by kernel_rfl, ?h1_12x2⟩) (by kernel_rfl) ?p1_12x2 hS0 ?r1_12x2
  case h1_12x2 => (intro w hS; go_simp; try with_reducible rfl)
  case p1_12x2 => (go_simp; try with_reducible rfl)
  refine wpAnyH_takeN (i := 13) (v := ?v1_13x2) (l' := bm 17 15855) (a' := ?a1_13x2) rfl (by kernel_rfl) (by kernel_rfl) (by kernel_rfl) (fun _ _ _ h => h) (Or.inl ⟨by kernel_rfl, ?h1_13x2⟩) (by kernel_rfl) ?p1_13x2 hS0 ?r1_13x2
  case h1_13x2 => (intro w hS; go_simp; try with_reducible rfl)
  case p1_13x2 => (go_simp; try with_reducible rfl)
  refine wpAnyH_oneN (i := 4) (l' := bm 17 15871) rfl (by kernel_rfl) (by kernel_rfl) (by kernel_rfl) (fun K hK => ?_)
  have hP := hS0.1
  go_simp
  go_at_call 87
  refine (C0.out _).mono ?_
  rintro r w1 ⟨rfl, hb⟩
  dsimp only
  have D1 := Lib.hid (Hd.call hP hb)
  clear hb
  have hS1 := HO.out _ (D1.out)
  clear hP hS0
  refine hK _ _ hS1 ?_
  clear hK K
  refine wpAnyH_oneN (i := 9) (l' := bm 17 16383) rfl (by kernel_rfl) (by kernel_rfl) (by kernel_rfl) (fun K hK => ?_)
  have hP := hS1.1
  go_simp
  go_at_call 87
  refine (C1.out _).mono ?_
  rintro r w2 ⟨rfl, hb⟩
  dsimp only
  have D2 := Lib.hid (Hd.call hP hb)
  clear hb
  have hS2 := HO.out _ (D2.out)
  clear hP hS1
  refine hK _ _ hS2 ?_
  clear hK K
  refine wpAnyH_oneN (i := 14) (l' := bm 17 32767) rfl (by kernel_rfl) (by kernel_rfl) (by kernel_rfl) (fun K hK => ?_)
  have hP := hS2.1
  go_simp
  go_at_call 87
  refine (C2.out _).mono ?_
  rintro r w3 ⟨rfl, hb⟩
  dsimp only
  have D3 := Lib.hid (Hd.call hP hb)
  clear hb
  have hS3 := HO.out _ (D3.out)
  clear hP hS2
  refine hK _ _ hS3 ?_
  clear hK K
  refine wpAnyH_takeN (i := 15) (v := ?v1_15x2) (l' := bm 17 65535) (a' := ?a1_15x2) rfl (by kernel_rfl) (by kernel_rfl) (by kernel_rfl) (fun _ _ _ h => h) (Or.inl ⟨by kernel_rfl, ?h1_15x2⟩) (by kernel_rfl) ?p1_15x2 hS3 ?r1_15x2
  case h1_15x2 => (intro w hS; go_simp; try with_reducible rfl)
  case p1_15x2 => (go_simp; try with_reducible rfl)
  refine wpAnyH_oneN (i := 16) (l' := bm 17 131071) rfl (by kernel_rfl) (by kernel_rfl) (by kernel_rfl) (fun K hK => ?_)
  have hP := hS3.1
  go_simp
  have hS4 := HO.out _ ((Hd.set (Hd.set (Hd.set (Hd.set (Hd.set (Hd.set hP 0 (Value.float FloatKind.f64 p0.lo)) 1 (Value.float FloatKind.f64 p0.hi)) 2 (Value.float FloatKind.f64 p1.lo)) 3 (Value.float FloatKind.f64 p1.hi)) 4 (Value.float FloatKind.f64 p2.lo)) 5 (Value.float FloatKind.f64 p2.hi)))
  clear hP hS3
  refine hK _ _ hS4 ?_
  clear hK K
  refine wpAnyH_done (by kernel_rfl) ?_ _
  have hF := hS4.1
  clear hS4
  go_wp2_with fail
  (try simp only [Exit.inBlock, Exit.then])
  refine bodyPost_ret (resV rfl _ _ (w.heap.size + 1 + 1) (Value.float FloatKind.f64 p0.lo) (Value.float FloatKind.f64 p0.hi) (Value.float FloatKind.f64 p1.lo) (Value.float FloatKind.f64 p1.hi) (Value.float FloatKind.f64 p2.lo) (Value.float FloatKind.f64 p2.hi) rfl (Hd.wrote6 hF)) rfl ⟨rfl, Hd.below hF HB.out (by omega)⟩
set_option maxRecDepth 100000 in
set_option maxHeartbeats 4000000 in
theorem negV_any (a : V3) (w : World) : Calls Try.prog 38 #[vval a] w fun r w' => r = .returned (vval (vNeg a)) ∧ Below w.heap.size w w' := by
  have C0 := Lib.hid (fun w => neg_sp a.x w)
  have C1 := Lib.hid (fun w => neg_sp a.y w)
  have C2 := Lib.hid (fun w => neg_sp a.z w)
  unfold vNeg
  generalize negS a.x = p0 at *
  generalize negS a.y = p1 at *
  generalize negS a.z = p2 at *
  go_enter Try.func38, Try.ntmps38
  go_wp2_with fail
  obtain ⟨W, hW, K0, K1, hB, hz⟩ := box2 w 26 26 #[Value.float FloatKind.f64 a.x.lo, Value.float FloatKind.f64 a.x.hi, Value.float FloatKind.f64 a.y.lo, Value.float FloatKind.f64 a.y.hi, Value.float FloatKind.f64 a.z.lo, Value.float FloatKind.f64 a.z.hi] #[Value.float FloatKind.f64 0, Value.float FloatKind.f64 0, Value.float FloatKind.f64 0, Value.float FloatKind.f64 0, Value.float FloatKind.f64 0, Value.float FloatKind.f64 0]
  rw [← hW]
  have K0 := Lib.hid K0
  have K1 := Lib.hid K1
  have HB := Lib.hid hB
  clear hW hB hz
  have HO := Lib.hid (show ∀ w', Hd W (w.heap.size + 1) 26 6 w' → (Hd W (w.heap.size + 1) 26 6 w' ∧ w'.cell? ⟨w.heap.size, 0, none⟩ = some (Value.float FloatKind.f64 a.x.lo) ∧ w'.cell? ⟨w.heap.size, 1, none⟩ = some (Value.float FloatKind.f64 a.x.hi) ∧ w'.cell? ⟨w.heap.size, 2, none⟩ = some (Value.float FloatKind.f64 a.y.lo) ∧ w'.cell? ⟨w.heap.size, 3, none⟩ = some (Value.float FloatKind.f64 a.y.hi) ∧ w'.cell? ⟨w.heap.size, 4, none⟩ = some (Value.float FloatKind.f64 a.z.lo) ∧ w'.cell? ⟨w.heap.size, 5, none⟩ = some (Value.float FloatKind.f64 a.z.hi) ∧ w'.cell? ⟨w.heap.size + 1, 0, none⟩ = some (cellAt w' ⟨w.heap.size + 1, 0, none⟩) ∧ w'.frozen? ⟨w.heap.size + 1, 0, none⟩ = false ∧ w'.cell? ⟨w.heap.size + 1, 1, none⟩ = some (cellAt w' ⟨w.heap.size + 1, 1, none⟩) ∧ w'.frozen? ⟨w.heap.size + 1, 1, none⟩ = false ∧ w'.cell? ⟨w.heap.size + 1, 2, none⟩ = some (cellAt w' ⟨w.heap.size + 1, 2, none⟩) ∧ w'.frozen? ⟨w.heap.size + 1, 2, none⟩ = false ∧ w'.cell? ⟨w.heap.size + 1, 3, none⟩ = some (cellAt w' ⟨w.heap.size + 1, 3, none⟩) ∧ w'.frozen? ⟨w.heap.size + 1, 3, none⟩ = false ∧ w'.cell? ⟨w.heap.size + 1, 4, none⟩ = some (cellAt w' ⟨w.heap.size + 1, 4, none⟩) ∧ w'.frozen? ⟨w.heap.size + 1, 4, none⟩ = false ∧ w'.cell? ⟨w.heap.size + 1, 5, none⟩ = some (cellAt w' ⟨w.heap.size + 1, 5, none⟩) ∧ w'.frozen? ⟨w.heap.size + 1, 5, none⟩ = false) from fun w' h => ⟨h, (h.blk K0.out (by omega)).cell 0, (h.blk K0.out (by omega)).cell 1, (h.blk K0.out (by omega)).cell 2, (h.blk K0.out (by omega)).cell 3, (h.blk K0.out (by omega)).cell 4, (h.blk K0.out (by omega)).cell 5, (h.at_ 0 (by decide)).1, (h.at_ 0 (by decide)).2, (h.at_ 1 (by decide)).1, (h.at_ 1 (by decide)).2, (h.at_ 2 (by decide)).1, (h.at_ 2 (by decide)).2, (h.at_ 3 (by decide)).1, (h.at_ 3 (by decide)).2, (h.at_ 4 (by decide)).1, (h.at_ 4 (by decide)).2, (h.at_ 5 (by decide)).1, (h.at_ 5 (by decide)).2⟩)
  have D0 := Lib.hid (show Hd W (w.heap.size + 1) 26 6 W from Hd.start K1.out)
  refine wp_region_held (S := (fun w' => Hd W (w.heap.size + 1) 26 6 w' ∧ w'.cell? ⟨w.heap.size, 0, none⟩ = some (Value.float FloatKind.f64 a.x.lo) ∧ w'.cell? ⟨w.heap.size, 1, none⟩ = some (Value.float FloatKind.f64 a.x.hi) ∧ w'.cell? ⟨w.heap.size, 2, none⟩ = some (Value.float FloatKind.f64 a.y.lo) ∧ w'.cell? ⟨w.heap.size, 3, none⟩ = some (Value.float FloatKind.f64 a.y.hi) ∧ w'.cell? ⟨w.heap.size, 4, none⟩ = some (Value.float FloatKind.f64 a.z.lo) ∧ w'.cell? ⟨w.heap.size, 5, none⟩ = some (Value.float FloatKind.f64 a.z.hi) ∧ w'.cell? ⟨w.heap.size + 1, 0, none⟩ = some (cellAt w' ⟨w.heap.size + 1, 0, none⟩) ∧ w'.frozen? ⟨w.heap.size + 1, 0, none⟩ = false ∧ w'.cell? ⟨w.heap.size + 1, 1, none⟩ = some (cellAt w' ⟨w.heap.size + 1, 1, none⟩) ∧ w'.frozen? ⟨w.heap.size + 1, 1, none⟩ = false ∧ w'.cell? ⟨w.heap.size + 1, 2, none⟩ = some (cellAt w' ⟨w.heap.size + 1, 2, none⟩) ∧ w'.frozen? ⟨w.heap.size + 1, 2, none⟩ = false ∧ w'.cell? ⟨w.heap.size + 1, 3, none⟩ = some (cellAt w' ⟨w.heap.size + 1, 3, none⟩) ∧ w'.frozen? ⟨w.heap.size + 1, 3, none⟩ = false ∧ w'.cell? ⟨w.heap.size + 1, 4, none⟩ = some (cellAt w' ⟨w.heap.size + 1, 4, none⟩) ∧ w'.frozen? ⟨w.heap.size + 1, 4, none⟩ = false ∧ w'.cell? ⟨w.heap.size + 1, 5, none⟩ = some (cellAt w' ⟨w.heap.size + 1, 5, none⟩) ∧ w'.frozen? ⟨w.heap.size + 1, 5, none⟩ = false)) (by kernel_rfl) ?_
  (try change wpAnyH _ _ _ _ _ _ _ (World.drew _))
  have hS0 := HO.out _ (Hd.drew D0.out)
  refine wpAnyH_takeN (i := 0) (v := ?v1_0x3) (l' := bm 11 1) (a' := ?a1_0x3) rfl (by kernel_rfl) (by kernel_rfl) (by kernel_rfl) (fun _ _ _ h => h) (Or.inl ⟨by kernel_rfl, ?h1_0x3⟩) (by kernel_rfl) ?p1_0x3 hS0 ?r1_0x3
  case h1_0x3 => (intro w hS; go_simp; try with_reducible rfl)
  case p1_0x3 => (go_simp; try with_reducible rfl)
  refine wpAnyH_takeN (i := 1) (v := ?v1_1x3) (l' := bm 11 3) (a' := ?a1_1x3) rfl (by kernel_rfl) (by kernel_rfl) (by kernel_rfl) (fun _ _ _ h => h) (Or.inl ⟨by kernel_rfl, ?h1_1x3⟩) (by kernel_rfl) ?p1_1x3 hS0 ?r1_1x3
  case h1_1x3 => (intro w hS; go_simp; try with_reducible rfl)
  case p1_1x3 => (go_simp; try with_reducible rfl)
  refine wpAnyH_takeN (i := 3) (v := ?v1_3x3) (l' := bm 11 11) (a' := ?a1_3x3) rfl (by kernel_rfl) (by kernel_rfl) (by kernel_rfl) (fun _ _ _ h => h) (Or.inl ⟨by kernel_rfl, ?h1_3x3⟩) (by kernel_rfl) ?p1_3x3 hS0 ?r1_3x3
  case h1_3x3 => (intro w hS; go_simp; try with_reducible rfl)
  case p1_3x3 => (go_simp; try with_reducible rfl)
  refine wpAnyH_takeN (i := 4) (v := ?v1_4x3) (l' := bm 11 27) (a' := ?a1_4x3) rfl (by kernel_rfl) (by kernel_rfl) (by kernel_rfl) (fun _ _ _ h => h) (Or.inl ⟨by kernel_rfl, ?h1_4x3⟩) (by kernel_rfl) ?p1_4x3 hS0 ?r1_4x3
  case h1_4x3 => (intro w hS; go_simp; try with_reducible rfl)
  case p1_4x3 => (go_simp; try with_reducible rfl)
  refine wpAnyH_takeN (i := 6) (v := ?v1_6x3) (l' := bm 11 91) (a' := ?a1_6x3) rfl (by kernel_rfl) (by kernel_rfl) (by kernel_rfl) (fun _ _ _ h => h) (Or.inl ⟨by kernel_rfl, ?h1_6x3⟩) (by kernel_rfl) ?p1_6x3 hS0 ?r1_6x3
  case h1_6x3 => (intro w hS; go_simp; try with_reducible rfl)
  case p1_6x3 => (go_simp; try with_reducible rfl)
  refine wpAnyH_takeN (i := 7) (v := ?v1_7x3) (l' := bm 11 219) (a' := ?a1_7x3) rfl (by kernel_rfl) (by kernel_rfl) (by kernel_rfl) (fun _ _ _ h => h) (Or.inl ⟨by kernel_rfl, ?h1_7x3⟩) (by kernel_rfl) ?p1_7x3 hS0 ?r1_7x3
  case h1_7x3 => (intro w hS; go_simp; try with_reducible rfl)
  case p1_7x3 => (go_simp; try with_reducible rfl)
  refine wpAnyH_oneN (i := 2) (l' := bm 11 223) rfl (by kernel_rfl) (by kernel_rfl) (by kernel_rfl) (fun K hK => ?_)
  have hP := hS0.1
  go_simp
  go_at_call 83
  refine (C0.out _).mono ?_
  rintro r w1 ⟨rfl, hb⟩
  dsimp only
  have D1 := Lib.hid (Hd.call hP hb)
  clear hb
  have hS1 := HO.out _ (D1.out)
  clear hP hS0
  refine hK _ _ hS1 ?_
  clear hK K
  refine wpAnyH_oneN (i := 5) (l' := bm 11 255) rfl (by kernel_rfl) (by kernel_rfl) (by kernel_rfl) (fun K hK => ?_)
  have hP := hS1.1
  go_simp
  go_at_call 83
  refine (C1.out _).mono ?_
  rintro r w2 ⟨rfl, hb⟩
  dsimp only
  have D2 := Lib.hid (Hd.call hP hb)
  clear hb
  have hS2 := HO.out _ (D2.out)
  clear hP hS1
  refine hK _ _ hS2 ?_
  clear hK K
  refine wpAnyH_oneN (i := 8) (l' := bm 11 511) rfl (by kernel_rfl) (by kernel_rfl) (by kernel_rfl) (fun K hK => ?_)
  have hP := hS2.1
  go_simp
  go_at_call 83
  refine (C2.out _).mono ?_
  rintro r w3 ⟨rfl, hb⟩
  dsimp only
  have D3 := Lib.hid (Hd.call hP hb)
  clear hb
  have hS3 := HO.out _ (D3.out)
  clear hP hS2
  refine hK _ _ hS3 ?_
  clear hK K
  refine wpAnyH_takeN (i := 9) (v := ?v1_9x3) (l' := bm 11 1023) (a' := ?a1_9x3) rfl (by kernel_rfl) (by kernel_rfl) (by kernel_rfl) (fun _ _ _ h => h) (Or.inl ⟨by kernel_rfl, ?h1_9x3⟩) (by kernel_rfl) ?p1_9x3 hS3 ?r1_9x3
  case h1_9x3 => (intro w hS; go_simp; try with_reducible rfl)
  case p1_9x3 => (go_simp; try with_reducible rfl)
  refine wpAnyH_oneN (i := 10) (l' := bm 11 2047) rfl (by kernel_rfl) (by kernel_rfl) (by kernel_rfl) (fun K hK => ?_)
  have hP := hS3.1
  go_simp
  have hS4 := HO.out _ ((Hd.set (Hd.set (Hd.set (Hd.set (Hd.set (Hd.set hP 0 (Value.float FloatKind.f64 p0.lo)) 1 (Value.float FloatKind.f64 p0.hi)) 2 (Value.float FloatKind.f64 p1.lo)) 3 (Value.float FloatKind.f64 p1.hi)) 4 (Value.float FloatKind.f64 p2.lo)) 5 (Value.float FloatKind.f64 p2.hi)))
  clear hP hS3
  refine hK _ _ hS4 ?_
  clear hK K
  refine wpAnyH_done (by kernel_rfl) ?_ _
  have hF := hS4.1
  clear hS4
  go_wp2_with fail
  (try simp only [Exit.inBlock, Exit.then])
  refine bodyPost_ret (resV rfl _ _ (w.heap.size + 1) (Value.float FloatKind.f64 p0.lo) (Value.float FloatKind.f64 p0.hi) (Value.float FloatKind.f64 p1.lo) (Value.float FloatKind.f64 p1.hi) (Value.float FloatKind.f64 p2.lo) (Value.float FloatKind.f64 p2.hi) rfl (Hd.wrote6 hF)) rfl ⟨rfl, Hd.below hF HB.out (by omega)⟩
set_option maxRecDepth 100000 in
set_option maxHeartbeats 4000000 in
theorem ofV_any (t0 t1 t2 : Nat) (h0 : t0 < 18446744073709551616) (h1 : t1 < 18446744073709551616) (h2 : t2 < 18446744073709551616) (w : World) : Calls Try.prog 33 #[.agg #[Value.float FloatKind.f64 t0, Value.float FloatKind.f64 t1, Value.float FloatKind.f64 t2]] w fun r w' => r = .returned (vval (vOf t0 t1 t2)) ∧ Below w.heap.size w w' := by
  have C0 := Lib.hid (fun w => of_sp t0 h0 w)
  have C1 := Lib.hid (fun w => of_sp t1 h1 w)
  have C2 := Lib.hid (fun w => of_sp t2 h2 w)
  unfold vOf
  generalize ofS t0 = p0 at *
  generalize ofS t1 = p1 at *
  generalize ofS t2 = p2 at *
  go_enter Try.func33, Try.ntmps33
  go_wp2_with fail
  obtain ⟨W, hW, K0, K1, hB, hz⟩ := box2 w 38 26 #[Value.float FloatKind.f64 t0, Value.float FloatKind.f64 t1, Value.float FloatKind.f64 t2] #[Value.float FloatKind.f64 0, Value.float FloatKind.f64 0, Value.float FloatKind.f64 0, Value.float FloatKind.f64 0, Value.float FloatKind.f64 0, Value.float FloatKind.f64 0]
  rw [← hW]
  have K0 := Lib.hid K0
  have K1 := Lib.hid K1
  have HB := Lib.hid hB
  clear hW hB hz
  have HO := Lib.hid (show ∀ w', Hd W (w.heap.size + 1) 26 6 w' → (Hd W (w.heap.size + 1) 26 6 w' ∧ w'.cell? ⟨w.heap.size, 0, none⟩ = some (Value.float FloatKind.f64 t0) ∧ w'.cell? ⟨w.heap.size, 1, none⟩ = some (Value.float FloatKind.f64 t1) ∧ w'.cell? ⟨w.heap.size, 2, none⟩ = some (Value.float FloatKind.f64 t2) ∧ w'.cell? ⟨w.heap.size + 1, 0, none⟩ = some (cellAt w' ⟨w.heap.size + 1, 0, none⟩) ∧ w'.frozen? ⟨w.heap.size + 1, 0, none⟩ = false ∧ w'.cell? ⟨w.heap.size + 1, 1, none⟩ = some (cellAt w' ⟨w.heap.size + 1, 1, none⟩) ∧ w'.frozen? ⟨w.heap.size + 1, 1, none⟩ = false ∧ w'.cell? ⟨w.heap.size + 1, 2, none⟩ = some (cellAt w' ⟨w.heap.size + 1, 2, none⟩) ∧ w'.frozen? ⟨w.heap.size + 1, 2, none⟩ = false ∧ w'.cell? ⟨w.heap.size + 1, 3, none⟩ = some (cellAt w' ⟨w.heap.size + 1, 3, none⟩) ∧ w'.frozen? ⟨w.heap.size + 1, 3, none⟩ = false ∧ w'.cell? ⟨w.heap.size + 1, 4, none⟩ = some (cellAt w' ⟨w.heap.size + 1, 4, none⟩) ∧ w'.frozen? ⟨w.heap.size + 1, 4, none⟩ = false ∧ w'.cell? ⟨w.heap.size + 1, 5, none⟩ = some (cellAt w' ⟨w.heap.size + 1, 5, none⟩) ∧ w'.frozen? ⟨w.heap.size + 1, 5, none⟩ = false) from fun w' h => ⟨h, (h.blk K0.out (by omega)).cell 0, (h.blk K0.out (by omega)).cell 1, (h.blk K0.out (by omega)).cell 2, (h.at_ 0 (by decide)).1, (h.at_ 0 (by decide)).2, (h.at_ 1 (by decide)).1, (h.at_ 1 (by decide)).2, (h.at_ 2 (by decide)).1, (h.at_ 2 (by decide)).2, (h.at_ 3 (by decide)).1, (h.at_ 3 (by decide)).2, (h.at_ 4 (by decide)).1, (h.at_ 4 (by decide)).2, (h.at_ 5 (by decide)).1, (h.at_ 5 (by decide)).2⟩)
  have D0 := Lib.hid (show Hd W (w.heap.size + 1) 26 6 W from Hd.start K1.out)
  refine wp_region_held (S := (fun w' => Hd W (w.heap.size + 1) 26 6 w' ∧ w'.cell? ⟨w.heap.size, 0, none⟩ = some (Value.float FloatKind.f64 t0) ∧ w'.cell? ⟨w.heap.size, 1, none⟩ = some (Value.float FloatKind.f64 t1) ∧ w'.cell? ⟨w.heap.size, 2, none⟩ = some (Value.float FloatKind.f64 t2) ∧ w'.cell? ⟨w.heap.size + 1, 0, none⟩ = some (cellAt w' ⟨w.heap.size + 1, 0, none⟩) ∧ w'.frozen? ⟨w.heap.size + 1, 0, none⟩ = false ∧ w'.cell? ⟨w.heap.size + 1, 1, none⟩ = some (cellAt w' ⟨w.heap.size + 1, 1, none⟩) ∧ w'.frozen? ⟨w.heap.size + 1, 1, none⟩ = false ∧ w'.cell? ⟨w.heap.size + 1, 2, none⟩ = some (cellAt w' ⟨w.heap.size + 1, 2, none⟩) ∧ w'.frozen? ⟨w.heap.size + 1, 2, none⟩ = false ∧ w'.cell? ⟨w.heap.size + 1, 3, none⟩ = some (cellAt w' ⟨w.heap.size + 1, 3, none⟩) ∧ w'.frozen? ⟨w.heap.size + 1, 3, none⟩ = false ∧ w'.cell? ⟨w.heap.size + 1, 4, none⟩ = some (cellAt w' ⟨w.heap.size + 1, 4, none⟩) ∧ w'.frozen? ⟨w.heap.size + 1, 4, none⟩ = false ∧ w'.cell? ⟨w.heap.size + 1, 5, none⟩ = some (cellAt w' ⟨w.heap.size + 1, 5, none⟩) ∧ w'.frozen? ⟨w.heap.size + 1, 5, none⟩ = false)) (by kernel_rfl) ?_
  (try change wpAnyH _ _ _ _ _ _ _ (World.drew _))
  have hS0 := HO.out _ (Hd.drew D0.out)
  refine wpAnyH_takeN (i := 0) (v := ?v1_0x4) (l' := bm 11 1) (a' := ?a1_0x4) rfl (by kernel_rfl) (by kernel_rfl) (by kernel_rfl) (fun _ _ _ h => h) (Or.inl ⟨by kernel_rfl, ?h1_0x4⟩) (by kernel_rfl) ?p1_0x4 hS0 ?r1_0x4
  case h1_0x4 => (intro w hS; go_simp; try with_reducible rfl)
  case p1_0x4 => (go_simp; try with_reducible rfl)
  refine wpAnyH_takeN (i := 1) (v := ?v1_1x4) (l' := bm 11 3) (a' := ?a1_1x4) rfl (by kernel_rfl) (by kernel_rfl) (by kernel_rfl) (fun _ _ _ h => h) (Or.inl ⟨by kernel_rfl, ?h1_1x4⟩) (by kernel_rfl) ?p1_1x4 hS0 ?r1_1x4
  case h1_1x4 => (intro w hS; go_simp; try with_reducible rfl)
  case p1_1x4 => (go_simp; try with_reducible rfl)
  refine wpAnyH_takeN (i := 3) (v := ?v1_3x4) (l' := bm 11 11) (a' := ?a1_3x4) rfl (by kernel_rfl) (by kernel_rfl) (by kernel_rfl) (fun _ _ _ h => h) (Or.inl ⟨by kernel_rfl, ?h1_3x4⟩) (by kernel_rfl) ?p1_3x4 hS0 ?r1_3x4
  case h1_3x4 => (intro w hS; go_simp; try with_reducible rfl)
  case p1_3x4 => (go_simp; try with_reducible rfl)
  refine wpAnyH_takeN (i := 4) (v := ?v1_4x4) (l' := bm 11 27) (a' := ?a1_4x4) rfl (by kernel_rfl) (by kernel_rfl) (by kernel_rfl) (fun _ _ _ h => h) (Or.inl ⟨by kernel_rfl, ?h1_4x4⟩) (by kernel_rfl) ?p1_4x4 hS0 ?r1_4x4
  case h1_4x4 => (intro w hS; go_simp; try with_reducible rfl)
  case p1_4x4 => (go_simp; try with_reducible rfl)
  refine wpAnyH_takeN (i := 6) (v := ?v1_6x4) (l' := bm 11 91) (a' := ?a1_6x4) rfl (by kernel_rfl) (by kernel_rfl) (by kernel_rfl) (fun _ _ _ h => h) (Or.inl ⟨by kernel_rfl, ?h1_6x4⟩) (by kernel_rfl) ?p1_6x4 hS0 ?r1_6x4
  case h1_6x4 => (intro w hS; go_simp; try with_reducible rfl)
  case p1_6x4 => (go_simp; try with_reducible rfl)
  refine wpAnyH_takeN (i := 7) (v := ?v1_7x4) (l' := bm 11 219) (a' := ?a1_7x4) rfl (by kernel_rfl) (by kernel_rfl) (by kernel_rfl) (fun _ _ _ h => h) (Or.inl ⟨by kernel_rfl, ?h1_7x4⟩) (by kernel_rfl) ?p1_7x4 hS0 ?r1_7x4
  case h1_7x4 => (intro w hS; go_simp; try with_reducible rfl)
  case p1_7x4 => (go_simp; try with_reducible rfl)
  refine wpAnyH_oneN (i := 2) (l' := bm 11 223) rfl (by kernel_rfl) (by kernel_rfl) (by kernel_rfl) (fun K hK => ?_)
  have hP := hS0.1
  go_simp
  go_at_call 76
  refine (C0.out _).mono ?_
  rintro r w1 ⟨rfl, hb⟩
  dsimp only
  have D1 := Lib.hid (Hd.call hP hb)
  clear hb
  have hS1 := HO.out _ (D1.out)
  clear hP hS0
  refine hK _ _ hS1 ?_
  clear hK K
  refine wpAnyH_oneN (i := 5) (l' := bm 11 255) rfl (by kernel_rfl) (by kernel_rfl) (by kernel_rfl) (fun K hK => ?_)
  have hP := hS1.1
  go_simp
  go_at_call 76
  refine (C1.out _).mono ?_
  rintro r w2 ⟨rfl, hb⟩
  dsimp only
  have D2 := Lib.hid (Hd.call hP hb)
  clear hb
  have hS2 := HO.out _ (D2.out)
  clear hP hS1
  refine hK _ _ hS2 ?_
  clear hK K
  refine wpAnyH_oneN (i := 8) (l' := bm 11 511) rfl (by kernel_rfl) (by kernel_rfl) (by kernel_rfl) (fun K hK => ?_)
  have hP := hS2.1
  go_simp
  go_at_call 76
  refine (C2.out _).mono ?_
  rintro r w3 ⟨rfl, hb⟩
  dsimp only
  have D3 := Lib.hid (Hd.call hP hb)
  clear hb
  have hS3 := HO.out _ (D3.out)
  clear hP hS2
  refine hK _ _ hS3 ?_
  clear hK K
  refine wpAnyH_takeN (i := 9) (v := ?v1_9x4) (l' := bm 11 1023) (a' := ?a1_9x4) rfl (by kernel_rfl) (by kernel_rfl) (by kernel_rfl) (fun _ _ _ h => h) (Or.inl ⟨by kernel_rfl, ?h1_9x4⟩) (by kernel_rfl) ?p1_9x4 hS3 ?r1_9x4
  case h1_9x4 => (intro w hS; go_simp; try with_reducible rfl)
  case p1_9x4 => (go_simp; try with_reducible rfl)
  refine wpAnyH_oneN (i := 10) (l' := bm 11 2047) rfl (by kernel_rfl) (by kernel_rfl) (by kernel_rfl) (fun K hK => ?_)
  have hP := hS3.1
  go_simp
  have hS4 := HO.out _ ((Hd.set (Hd.set (Hd.set (Hd.set (Hd.set (Hd.set hP 0 (Value.float FloatKind.f64 p0.lo)) 1 (Value.float FloatKind.f64 p0.hi)) 2 (Value.float FloatKind.f64 p1.lo)) 3 (Value.float FloatKind.f64 p1.hi)) 4 (Value.float FloatKind.f64 p2.lo)) 5 (Value.float FloatKind.f64 p2.hi)))
  clear hP hS3
  refine hK _ _ hS4 ?_
  clear hK K
  refine wpAnyH_done (by kernel_rfl) ?_ _
  have hF := hS4.1
  clear hS4
  go_wp2_with fail
  (try simp only [Exit.inBlock, Exit.then])
  refine bodyPost_ret (resV rfl _ _ (w.heap.size + 1) (Value.float FloatKind.f64 p0.lo) (Value.float FloatKind.f64 p0.hi) (Value.float FloatKind.f64 p1.lo) (Value.float FloatKind.f64 p1.hi) (Value.float FloatKind.f64 p2.lo) (Value.float FloatKind.f64 p2.hi) rfl (Hd.wrote6 hF)) rfl ⟨rfl, Hd.below hF HB.out (by omega)⟩
set_option maxRecDepth 100000 in
set_option maxHeartbeats 4000000 in
theorem rnegV_any (a : V3) (w : World) : Calls Try.prog 47 #[vval a] w fun r w' => r = .returned (vval (vNeg a)) ∧ Below w.heap.size w w' := by
  have C0 := Lib.hid (fun w => rneg_sp a.x w)
  have C1 := Lib.hid (fun w => rneg_sp a.y w)
  have C2 := Lib.hid (fun w => rneg_sp a.z w)
  unfold vNeg
  generalize negS a.x = p0 at *
  generalize negS a.y = p1 at *
  generalize negS a.z = p2 at *
  go_enter Try.func47, Try.ntmps47
  go_wp2_with fail
  obtain ⟨W, hW, K0, K1, hB, hz⟩ := box2 w 26 26 #[Value.float FloatKind.f64 a.x.lo, Value.float FloatKind.f64 a.x.hi, Value.float FloatKind.f64 a.y.lo, Value.float FloatKind.f64 a.y.hi, Value.float FloatKind.f64 a.z.lo, Value.float FloatKind.f64 a.z.hi] #[Value.float FloatKind.f64 0, Value.float FloatKind.f64 0, Value.float FloatKind.f64 0, Value.float FloatKind.f64 0, Value.float FloatKind.f64 0, Value.float FloatKind.f64 0]
  rw [← hW]
  have K0 := Lib.hid K0
  have K1 := Lib.hid K1
  have HB := Lib.hid hB
  clear hW hB hz
  have HO := Lib.hid (show ∀ w', Hd W (w.heap.size + 1) 26 6 w' → (Hd W (w.heap.size + 1) 26 6 w' ∧ w'.cell? ⟨w.heap.size, 0, none⟩ = some (Value.float FloatKind.f64 a.x.lo) ∧ w'.cell? ⟨w.heap.size, 1, none⟩ = some (Value.float FloatKind.f64 a.x.hi) ∧ w'.cell? ⟨w.heap.size, 2, none⟩ = some (Value.float FloatKind.f64 a.y.lo) ∧ w'.cell? ⟨w.heap.size, 3, none⟩ = some (Value.float FloatKind.f64 a.y.hi) ∧ w'.cell? ⟨w.heap.size, 4, none⟩ = some (Value.float FloatKind.f64 a.z.lo) ∧ w'.cell? ⟨w.heap.size, 5, none⟩ = some (Value.float FloatKind.f64 a.z.hi) ∧ w'.cell? ⟨w.heap.size + 1, 0, none⟩ = some (cellAt w' ⟨w.heap.size + 1, 0, none⟩) ∧ w'.frozen? ⟨w.heap.size + 1, 0, none⟩ = false ∧ w'.cell? ⟨w.heap.size + 1, 1, none⟩ = some (cellAt w' ⟨w.heap.size + 1, 1, none⟩) ∧ w'.frozen? ⟨w.heap.size + 1, 1, none⟩ = false ∧ w'.cell? ⟨w.heap.size + 1, 2, none⟩ = some (cellAt w' ⟨w.heap.size + 1, 2, none⟩) ∧ w'.frozen? ⟨w.heap.size + 1, 2, none⟩ = false ∧ w'.cell? ⟨w.heap.size + 1, 3, none⟩ = some (cellAt w' ⟨w.heap.size + 1, 3, none⟩) ∧ w'.frozen? ⟨w.heap.size + 1, 3, none⟩ = false ∧ w'.cell? ⟨w.heap.size + 1, 4, none⟩ = some (cellAt w' ⟨w.heap.size + 1, 4, none⟩) ∧ w'.frozen? ⟨w.heap.size + 1, 4, none⟩ = false ∧ w'.cell? ⟨w.heap.size + 1, 5, none⟩ = some (cellAt w' ⟨w.heap.size + 1, 5, none⟩) ∧ w'.frozen? ⟨w.heap.size + 1, 5, none⟩ = false) from fun w' h => ⟨h, (h.blk K0.out (by omega)).cell 0, (h.blk K0.out (by omega)).cell 1, (h.blk K0.out (by omega)).cell 2, (h.blk K0.out (by omega)).cell 3, (h.blk K0.out (by omega)).cell 4, (h.blk K0.out (by omega)).cell 5, (h.at_ 0 (by decide)).1, (h.at_ 0 (by decide)).2, (h.at_ 1 (by decide)).1, (h.at_ 1 (by decide)).2, (h.at_ 2 (by decide)).1, (h.at_ 2 (by decide)).2, (h.at_ 3 (by decide)).1, (h.at_ 3 (by decide)).2, (h.at_ 4 (by decide)).1, (h.at_ 4 (by decide)).2, (h.at_ 5 (by decide)).1, (h.at_ 5 (by decide)).2⟩)
  have D0 := Lib.hid (show Hd W (w.heap.size + 1) 26 6 W from Hd.start K1.out)
  refine wp_region_held (S := (fun w' => Hd W (w.heap.size + 1) 26 6 w' ∧ w'.cell? ⟨w.heap.size, 0, none⟩ = some (Value.float FloatKind.f64 a.x.lo) ∧ w'.cell? ⟨w.heap.size, 1, none⟩ = some (Value.float FloatKind.f64 a.x.hi) ∧ w'.cell? ⟨w.heap.size, 2, none⟩ = some (Value.float FloatKind.f64 a.y.lo) ∧ w'.cell? ⟨w.heap.size, 3, none⟩ = some (Value.float FloatKind.f64 a.y.hi) ∧ w'.cell? ⟨w.heap.size, 4, none⟩ = some (Value.float FloatKind.f64 a.z.lo) ∧ w'.cell? ⟨w.heap.size, 5, none⟩ = some (Value.float FloatKind.f64 a.z.hi) ∧ w'.cell? ⟨w.heap.size + 1, 0, none⟩ = some (cellAt w' ⟨w.heap.size + 1, 0, none⟩) ∧ w'.frozen? ⟨w.heap.size + 1, 0, none⟩ = false ∧ w'.cell? ⟨w.heap.size + 1, 1, none⟩ = some (cellAt w' ⟨w.heap.size + 1, 1, none⟩) ∧ w'.frozen? ⟨w.heap.size + 1, 1, none⟩ = false ∧ w'.cell? ⟨w.heap.size + 1, 2, none⟩ = some (cellAt w' ⟨w.heap.size + 1, 2, none⟩) ∧ w'.frozen? ⟨w.heap.size + 1, 2, none⟩ = false ∧ w'.cell? ⟨w.heap.size + 1, 3, none⟩ = some (cellAt w' ⟨w.heap.size + 1, 3, none⟩) ∧ w'.frozen? ⟨w.heap.size + 1, 3, none⟩ = false ∧ w'.cell? ⟨w.heap.size + 1, 4, none⟩ = some (cellAt w' ⟨w.heap.size + 1, 4, none⟩) ∧ w'.frozen? ⟨w.heap.size + 1, 4, none⟩ = false ∧ w'.cell? ⟨w.heap.size + 1, 5, none⟩ = some (cellAt w' ⟨w.heap.size + 1, 5, none⟩) ∧ w'.frozen? ⟨w.heap.size + 1, 5, none⟩ = false)) (by kernel_rfl) ?_
  (try change wpAnyH _ _ _ _ _ _ _ (World.drew _))
  have hS0 := HO.out _ (Hd.drew D0.out)
  refine wpAnyH_takeN (i := 0) (v := ?v1_0x5) (l' := bm 11 1) (a' := ?a1_0x5) rfl (by kernel_rfl) (by kernel_rfl) (by kernel_rfl) (fun _ _ _ h => h) (Or.inl ⟨by kernel_rfl, ?h1_0x5⟩) (by kernel_rfl) ?p1_0x5 hS0 ?r1_0x5
  case h1_0x5 => (intro w hS; go_simp; try with_reducible rfl)
  case p1_0x5 => (go_simp; try with_reducible rfl)
  refine wpAnyH_takeN (i := 1) (v := ?v1_1x5) (l' := bm 11 3) (a' := ?a1_1x5) rfl (by kernel_rfl) (by kernel_rfl) (by kernel_rfl) (fun _ _ _ h => h) (Or.inl ⟨by kernel_rfl, ?h1_1x5⟩) (by kernel_rfl) ?p1_1x5 hS0 ?r1_1x5
  case h1_1x5 => (intro w hS; go_simp; try with_reducible rfl)
  case p1_1x5 => (go_simp; try with_reducible rfl)
  refine wpAnyH_takeN (i := 3) (v := ?v1_3x5) (l' := bm 11 11) (a' := ?a1_3x5) rfl (by kernel_rfl) (by kernel_rfl) (by kernel_rfl) (fun _ _ _ h => h) (Or.inl ⟨by kernel_rfl, ?h1_3x5⟩) (by kernel_rfl) ?p1_3x5 hS0 ?r1_3x5
  case h1_3x5 => (intro w hS; go_simp; try with_reducible rfl)
  case p1_3x5 => (go_simp; try with_reducible rfl)
  refine wpAnyH_takeN (i := 4) (v := ?v1_4x5) (l' := bm 11 27) (a' := ?a1_4x5) rfl (by kernel_rfl) (by kernel_rfl) (by kernel_rfl) (fun _ _ _ h => h) (Or.inl ⟨by kernel_rfl, ?h1_4x5⟩) (by kernel_rfl) ?p1_4x5 hS0 ?r1_4x5
  case h1_4x5 => (intro w hS; go_simp; try with_reducible rfl)
  case p1_4x5 => (go_simp; try with_reducible rfl)
  refine wpAnyH_takeN (i := 6) (v := ?v1_6x5) (l' := bm 11 91) (a' := ?a1_6x5) rfl (by kernel_rfl) (by kernel_rfl) (by kernel_rfl) (fun _ _ _ h => h) (Or.inl ⟨by kernel_rfl, ?h1_6x5⟩) (by kernel_rfl) ?p1_6x5 hS0 ?r1_6x5
  case h1_6x5 => (intro w hS; go_simp; try with_reducible rfl)
  case p1_6x5 => (go_simp; try with_reducible rfl)
  refine wpAnyH_takeN (i := 7) (v := ?v1_7x5) (l' := bm 11 219) (a' := ?a1_7x5) rfl (by kernel_rfl) (by kernel_rfl) (by kernel_rfl) (fun _ _ _ h => h) (Or.inl ⟨by kernel_rfl, ?h1_7x5⟩) (by kernel_rfl) ?p1_7x5 hS0 ?r1_7x5
  case h1_7x5 => (intro w hS; go_simp; try with_reducible rfl)
  case p1_7x5 => (go_simp; try with_reducible rfl)
  refine wpAnyH_oneN (i := 2) (l' := bm 11 223) rfl (by kernel_rfl) (by kernel_rfl) (by kernel_rfl) (fun K hK => ?_)
  have hP := hS0.1
  go_simp
  go_at_call 89
  refine (C0.out _).mono ?_
  rintro r w1 ⟨rfl, hb⟩
  dsimp only
  have D1 := Lib.hid (Hd.call hP hb)
  clear hb
  have hS1 := HO.out _ (D1.out)
  clear hP hS0
  refine hK _ _ hS1 ?_
  clear hK K
  refine wpAnyH_oneN (i := 5) (l' := bm 11 255) rfl (by kernel_rfl) (by kernel_rfl) (by kernel_rfl) (fun K hK => ?_)
  have hP := hS1.1
  go_simp
  go_at_call 89
  refine (C1.out _).mono ?_
  rintro r w2 ⟨rfl, hb⟩
  dsimp only
  have D2 := Lib.hid (Hd.call hP hb)
  clear hb
  have hS2 := HO.out _ (D2.out)
  clear hP hS1
  refine hK _ _ hS2 ?_
  clear hK K
  refine wpAnyH_oneN (i := 8) (l' := bm 11 511) rfl (by kernel_rfl) (by kernel_rfl) (by kernel_rfl) (fun K hK => ?_)
  have hP := hS2.1
  go_simp
  go_at_call 89
  refine (C2.out _).mono ?_
  rintro r w3 ⟨rfl, hb⟩
  dsimp only
  have D3 := Lib.hid (Hd.call hP hb)
  clear hb
  have hS3 := HO.out _ (D3.out)
  clear hP hS2
  refine hK _ _ hS3 ?_
  clear hK K
  refine wpAnyH_takeN (i := 9) (v := ?v1_9x5) (l' := bm 11 1023) (a' := ?a1_9x5) rfl (by kernel_rfl) (by kernel_rfl) (by kernel_rfl) (fun _ _ _ h => h) (Or.inl ⟨by kernel_rfl, ?h1_9x5⟩) (by kernel_rfl) ?p1_9x5 hS3 ?r1_9x5
  case h1_9x5 => (intro w hS; go_simp; try with_reducible rfl)
  case p1_9x5 => (go_simp; try with_reducible rfl)
  refine wpAnyH_oneN (i := 10) (l' := bm 11 2047) rfl (by kernel_rfl) (by kernel_rfl) (by kernel_rfl) (fun K hK => ?_)
  have hP := hS3.1
  go_simp
  have hS4 := HO.out _ ((Hd.set (Hd.set (Hd.set (Hd.set (Hd.set (Hd.set hP 0 (Value.float FloatKind.f64 p0.lo)) 1 (Value.float FloatKind.f64 p0.hi)) 2 (Value.float FloatKind.f64 p1.lo)) 3 (Value.float FloatKind.f64 p1.hi)) 4 (Value.float FloatKind.f64 p2.lo)) 5 (Value.float FloatKind.f64 p2.hi)))
  clear hP hS3
  refine hK _ _ hS4 ?_
  clear hK K
  refine wpAnyH_done (by kernel_rfl) ?_ _
  have hF := hS4.1
  clear hS4
  go_wp2_with fail
  (try simp only [Exit.inBlock, Exit.then])
  refine bodyPost_ret (resV rfl _ _ (w.heap.size + 1) (Value.float FloatKind.f64 p0.lo) (Value.float FloatKind.f64 p0.hi) (Value.float FloatKind.f64 p1.lo) (Value.float FloatKind.f64 p1.hi) (Value.float FloatKind.f64 p2.lo) (Value.float FloatKind.f64 p2.hi) rfl (Hd.wrote6 hF)) rfl ⟨rfl, Hd.below hF HB.out (by omega)⟩
set_option maxRecDepth 100000 in
set_option maxHeartbeats 4000000 in
theorem rofV_any (t0 t1 t2 : Nat) (h0 : t0 < 18446744073709551616) (h1 : t1 < 18446744073709551616) (h2 : t2 < 18446744073709551616) (w : World) : Calls Try.prog 28 #[.agg #[Value.float FloatKind.f64 t0, Value.float FloatKind.f64 t1, Value.float FloatKind.f64 t2]] w fun r w' => r = .returned (vval (vOf t0 t1 t2)) ∧ Below w.heap.size w w' := by
  have C0 := Lib.hid (fun w => rof_sp t0 h0 w)
  have C1 := Lib.hid (fun w => rof_sp t1 h1 w)
  have C2 := Lib.hid (fun w => rof_sp t2 h2 w)
  unfold vOf
  generalize ofS t0 = p0 at *
  generalize ofS t1 = p1 at *
  generalize ofS t2 = p2 at *
  go_enter Try.func28, Try.ntmps28
  go_wp2_with fail
  obtain ⟨W, hW, K0, K1, hB, hz⟩ := box2 w 38 26 #[Value.float FloatKind.f64 t0, Value.float FloatKind.f64 t1, Value.float FloatKind.f64 t2] #[Value.float FloatKind.f64 0, Value.float FloatKind.f64 0, Value.float FloatKind.f64 0, Value.float FloatKind.f64 0, Value.float FloatKind.f64 0, Value.float FloatKind.f64 0]
  rw [← hW]
  have K0 := Lib.hid K0
  have K1 := Lib.hid K1
  have HB := Lib.hid hB
  clear hW hB hz
  have HO := Lib.hid (show ∀ w', Hd W (w.heap.size + 1) 26 6 w' → (Hd W (w.heap.size + 1) 26 6 w' ∧ w'.cell? ⟨w.heap.size, 0, none⟩ = some (Value.float FloatKind.f64 t0) ∧ w'.cell? ⟨w.heap.size, 1, none⟩ = some (Value.float FloatKind.f64 t1) ∧ w'.cell? ⟨w.heap.size, 2, none⟩ = some (Value.float FloatKind.f64 t2) ∧ w'.cell? ⟨w.heap.size + 1, 0, none⟩ = some (cellAt w' ⟨w.heap.size + 1, 0, none⟩) ∧ w'.frozen? ⟨w.heap.size + 1, 0, none⟩ = false ∧ w'.cell? ⟨w.heap.size + 1, 1, none⟩ = some (cellAt w' ⟨w.heap.size + 1, 1, none⟩) ∧ w'.frozen? ⟨w.heap.size + 1, 1, none⟩ = false ∧ w'.cell? ⟨w.heap.size + 1, 2, none⟩ = some (cellAt w' ⟨w.heap.size + 1, 2, none⟩) ∧ w'.frozen? ⟨w.heap.size + 1, 2, none⟩ = false ∧ w'.cell? ⟨w.heap.size + 1, 3, none⟩ = some (cellAt w' ⟨w.heap.size + 1, 3, none⟩) ∧ w'.frozen? ⟨w.heap.size + 1, 3, none⟩ = false ∧ w'.cell? ⟨w.heap.size + 1, 4, none⟩ = some (cellAt w' ⟨w.heap.size + 1, 4, none⟩) ∧ w'.frozen? ⟨w.heap.size + 1, 4, none⟩ = false ∧ w'.cell? ⟨w.heap.size + 1, 5, none⟩ = some (cellAt w' ⟨w.heap.size + 1, 5, none⟩) ∧ w'.frozen? ⟨w.heap.size + 1, 5, none⟩ = false) from fun w' h => ⟨h, (h.blk K0.out (by omega)).cell 0, (h.blk K0.out (by omega)).cell 1, (h.blk K0.out (by omega)).cell 2, (h.at_ 0 (by decide)).1, (h.at_ 0 (by decide)).2, (h.at_ 1 (by decide)).1, (h.at_ 1 (by decide)).2, (h.at_ 2 (by decide)).1, (h.at_ 2 (by decide)).2, (h.at_ 3 (by decide)).1, (h.at_ 3 (by decide)).2, (h.at_ 4 (by decide)).1, (h.at_ 4 (by decide)).2, (h.at_ 5 (by decide)).1, (h.at_ 5 (by decide)).2⟩)
  have D0 := Lib.hid (show Hd W (w.heap.size + 1) 26 6 W from Hd.start K1.out)
  refine wp_region_held (S := (fun w' => Hd W (w.heap.size + 1) 26 6 w' ∧ w'.cell? ⟨w.heap.size, 0, none⟩ = some (Value.float FloatKind.f64 t0) ∧ w'.cell? ⟨w.heap.size, 1, none⟩ = some (Value.float FloatKind.f64 t1) ∧ w'.cell? ⟨w.heap.size, 2, none⟩ = some (Value.float FloatKind.f64 t2) ∧ w'.cell? ⟨w.heap.size + 1, 0, none⟩ = some (cellAt w' ⟨w.heap.size + 1, 0, none⟩) ∧ w'.frozen? ⟨w.heap.size + 1, 0, none⟩ = false ∧ w'.cell? ⟨w.heap.size + 1, 1, none⟩ = some (cellAt w' ⟨w.heap.size + 1, 1, none⟩) ∧ w'.frozen? ⟨w.heap.size + 1, 1, none⟩ = false ∧ w'.cell? ⟨w.heap.size + 1, 2, none⟩ = some (cellAt w' ⟨w.heap.size + 1, 2, none⟩) ∧ w'.frozen? ⟨w.heap.size + 1, 2, none⟩ = false ∧ w'.cell? ⟨w.heap.size + 1, 3, none⟩ = some (cellAt w' ⟨w.heap.size + 1, 3, none⟩) ∧ w'.frozen? ⟨w.heap.size + 1, 3, none⟩ = false ∧ w'.cell? ⟨w.heap.size + 1, 4, none⟩ = some (cellAt w' ⟨w.heap.size + 1, 4, none⟩) ∧ w'.frozen? ⟨w.heap.size + 1, 4, none⟩ = false ∧ w'.cell? ⟨w.heap.size + 1, 5, none⟩ = some (cellAt w' ⟨w.heap.size + 1, 5, none⟩) ∧ w'.frozen? ⟨w.heap.size + 1, 5, none⟩ = false)) (by kernel_rfl) ?_
  (try change wpAnyH _ _ _ _ _ _ _ (World.drew _))
  have hS0 := HO.out _ (Hd.drew D0.out)
  refine wpAnyH_takeN (i := 0) (v := ?v1_0x6) (l' := bm 11 1) (a' := ?a1_0x6) rfl (by kernel_rfl) (by kernel_rfl) (by kernel_rfl) (fun _ _ _ h => h) (Or.inl ⟨by kernel_rfl, ?h1_0x6⟩) (by kernel_rfl) ?p1_0x6 hS0 ?r1_0x6
  case h1_0x6 => (intro w hS; go_simp; try with_reducible rfl)
  case p1_0x6 => (go_simp; try with_reducible rfl)
  refine wpAnyH_takeN (i := 1) (v := ?v1_1x6) (l' := bm 11 3) (a' := ?a1_1x6) rfl (by kernel_rfl) (by kernel_rfl) (by kernel_rfl) (fun _ _ _ h => h) (Or.inl ⟨by kernel_rfl, ?h1_1x6⟩) (by kernel_rfl) ?p1_1x6 hS0 ?r1_1x6
  case h1_1x6 => (intro w hS; go_simp; try with_reducible rfl)
  case p1_1x6 => (go_simp; try with_reducible rfl)
  refine wpAnyH_takeN (i := 3) (v := ?v1_3x6) (l' := bm 11 11) (a' := ?a1_3x6) rfl (by kernel_rfl) (by kernel_rfl) (by kernel_rfl) (fun _ _ _ h => h) (Or.inl ⟨by kernel_rfl, ?h1_3x6⟩) (by kernel_rfl) ?p1_3x6 hS0 ?r1_3x6
  case h1_3x6 => (intro w hS; go_simp; try with_reducible rfl)
  case p1_3x6 => (go_simp; try with_reducible rfl)
  refine wpAnyH_takeN (i := 4) (v := ?v1_4x6) (l' := bm 11 27) (a' := ?a1_4x6) rfl (by kernel_rfl) (by kernel_rfl) (by kernel_rfl) (fun _ _ _ h => h) (Or.inl ⟨by kernel_rfl, ?h1_4x6⟩) (by kernel_rfl) ?p1_4x6 hS0 ?r1_4x6
  case h1_4x6 => (intro w hS; go_simp; try with_reducible rfl)
  case p1_4x6 => (go_simp; try with_reducible rfl)
  refine wpAnyH_takeN (i := 6) (v := ?v1_6x6) (l' := bm 11 91) (a' := ?a1_6x6) rfl (by kernel_rfl) (by kernel_rfl) (by kernel_rfl) (fun _ _ _ h => h) (Or.inl ⟨by kernel_rfl, ?h1_6x6⟩) (by kernel_rfl) ?p1_6x6 hS0 ?r1_6x6
  case h1_6x6 => (intro w hS; go_simp; try with_reducible rfl)
  case p1_6x6 => (go_simp; try with_reducible rfl)
  refine wpAnyH_takeN (i := 7) (v := ?v1_7x6) (l' := bm 11 219) (a' := ?a1_7x6) rfl (by kernel_rfl) (by kernel_rfl) (by kernel_rfl) (fun _ _ _ h => h) (Or.inl ⟨by kernel_rfl, ?h1_7x6⟩) (by kernel_rfl) ?p1_7x6 hS0 ?r1_7x6
  case h1_7x6 => (intro w hS; go_simp; try with_reducible rfl)
  case p1_7x6 => (go_simp; try with_reducible rfl)
  refine wpAnyH_oneN (i := 2) (l' := bm 11 223) rfl (by kernel_rfl) (by kernel_rfl) (by kernel_rfl) (fun K hK => ?_)
  have hP := hS0.1
  go_simp
  go_at_call 72
  refine (C0.out _).mono ?_
  rintro r w1 ⟨rfl, hb⟩
  dsimp only
  have D1 := Lib.hid (Hd.call hP hb)
  clear hb
  have hS1 := HO.out _ (D1.out)
  clear hP hS0
  refine hK _ _ hS1 ?_
  clear hK K
  refine wpAnyH_oneN (i := 5) (l' := bm 11 255) rfl (by kernel_rfl) (by kernel_rfl) (by kernel_rfl) (fun K hK => ?_)
  have hP := hS1.1
  go_simp
  go_at_call 72
  refine (C1.out _).mono ?_
  rintro r w2 ⟨rfl, hb⟩
  dsimp only
  have D2 := Lib.hid (Hd.call hP hb)
  clear hb
  have hS2 := HO.out _ (D2.out)
  clear hP hS1
  refine hK _ _ hS2 ?_
  clear hK K
  refine wpAnyH_oneN (i := 8) (l' := bm 11 511) rfl (by kernel_rfl) (by kernel_rfl) (by kernel_rfl) (fun K hK => ?_)
  have hP := hS2.1
  go_simp
  go_at_call 72
  refine (C2.out _).mono ?_
  rintro r w3 ⟨rfl, hb⟩
  dsimp only
  have D3 := Lib.hid (Hd.call hP hb)
  clear hb
  have hS3 := HO.out _ (D3.out)
  clear hP hS2
  refine hK _ _ hS3 ?_
  clear hK K
  refine wpAnyH_takeN (i := 9) (v := ?v1_9x6) (l' := bm 11 1023) (a' := ?a1_9x6) rfl (by kernel_rfl) (by kernel_rfl) (by kernel_rfl) (fun _ _ _ h => h) (Or.inl ⟨by kernel_rfl, ?h1_9x6⟩) (by kernel_rfl) ?p1_9x6 hS3 ?r1_9x6
  case h1_9x6 => (intro w hS; go_simp; try with_reducible rfl)
  case p1_9x6 => (go_simp; try with_reducible rfl)
  refine wpAnyH_oneN (i := 10) (l' := bm 11 2047) rfl (by kernel_rfl) (by kernel_rfl) (by kernel_rfl) (fun K hK => ?_)
  have hP := hS3.1
  go_simp
  have hS4 := HO.out _ ((Hd.set (Hd.set (Hd.set (Hd.set (Hd.set (Hd.set hP 0 (Value.float FloatKind.f64 p0.lo)) 1 (Value.float FloatKind.f64 p0.hi)) 2 (Value.float FloatKind.f64 p1.lo)) 3 (Value.float FloatKind.f64 p1.hi)) 4 (Value.float FloatKind.f64 p2.lo)) 5 (Value.float FloatKind.f64 p2.hi)))
  clear hP hS3
  refine hK _ _ hS4 ?_
  clear hK K
  refine wpAnyH_done (by kernel_rfl) ?_ _
  have hF := hS4.1
  clear hS4
  go_wp2_with fail
  (try simp only [Exit.inBlock, Exit.then])
  refine bodyPost_ret (resV rfl _ _ (w.heap.size + 1) (Value.float FloatKind.f64 p0.lo) (Value.float FloatKind.f64 p0.hi) (Value.float FloatKind.f64 p1.lo) (Value.float FloatKind.f64 p1.hi) (Value.float FloatKind.f64 p2.lo) (Value.float FloatKind.f64 p2.hi) rfl (Hd.wrote6 hF)) rfl ⟨rfl, Hd.below hF HB.out (by omega)⟩
set_option maxRecDepth 100000 in
set_option maxHeartbeats 4000000 in
theorem sqrV_any (a : V3) (w : World) : Calls Try.prog 51 #[vval a] w fun r w' => r = .returned (.agg #[Value.float FloatKind.f64 (vSqr a).lo, Value.float FloatKind.f64 (vSqr a).hi]) ∧ Below w.heap.size w w' := by
  have C0 := Lib.hid (fun w => sqr_sp a.x w)
  have C1 := Lib.hid (fun w => sqr_sp a.y w)
  have C2 := Lib.hid (fun w => add_sp (sqrS a.x) (sqrS a.y) w)
  have C3 := Lib.hid (fun w => sqr_sp a.z w)
  have C4 := Lib.hid (fun w => add_sp (addS (sqrS a.x) (sqrS a.y)) (sqrS a.z) w)
  unfold vSqr vSum
  generalize sqrS a.x = p0 at *
  generalize sqrS a.y = p1 at *
  generalize addS p0 p1 = p2 at *
  generalize sqrS a.z = p3 at *
  generalize addS p2 p3 = p4 at *
  go_enter Try.func51, Try.ntmps51
  go_wp2_with fail
  obtain ⟨W, hW, K0, K1, hB, hz⟩ := box2 w 26 24 #[Value.float FloatKind.f64 a.x.lo, Value.float FloatKind.f64 a.x.hi, Value.float FloatKind.f64 a.y.lo, Value.float FloatKind.f64 a.y.hi, Value.float FloatKind.f64 a.z.lo, Value.float FloatKind.f64 a.z.hi] #[Value.float FloatKind.f64 0, Value.float FloatKind.f64 0]
  rw [← hW]
  have K0 := Lib.hid K0
  have K1 := Lib.hid K1
  have HB := Lib.hid hB
  clear hW hB hz
  have HO := Lib.hid (show ∀ w', Hd W (w.heap.size + 1) 24 2 w' → (Hd W (w.heap.size + 1) 24 2 w' ∧ w'.cell? ⟨w.heap.size, 0, none⟩ = some (Value.float FloatKind.f64 a.x.lo) ∧ w'.cell? ⟨w.heap.size, 1, none⟩ = some (Value.float FloatKind.f64 a.x.hi) ∧ w'.cell? ⟨w.heap.size, 2, none⟩ = some (Value.float FloatKind.f64 a.y.lo) ∧ w'.cell? ⟨w.heap.size, 3, none⟩ = some (Value.float FloatKind.f64 a.y.hi) ∧ w'.cell? ⟨w.heap.size, 4, none⟩ = some (Value.float FloatKind.f64 a.z.lo) ∧ w'.cell? ⟨w.heap.size, 5, none⟩ = some (Value.float FloatKind.f64 a.z.hi) ∧ w'.cell? ⟨w.heap.size + 1, 0, none⟩ = some (cellAt w' ⟨w.heap.size + 1, 0, none⟩) ∧ w'.frozen? ⟨w.heap.size + 1, 0, none⟩ = false ∧ w'.cell? ⟨w.heap.size + 1, 1, none⟩ = some (cellAt w' ⟨w.heap.size + 1, 1, none⟩) ∧ w'.frozen? ⟨w.heap.size + 1, 1, none⟩ = false) from fun w' h => ⟨h, (h.blk K0.out (by omega)).cell 0, (h.blk K0.out (by omega)).cell 1, (h.blk K0.out (by omega)).cell 2, (h.blk K0.out (by omega)).cell 3, (h.blk K0.out (by omega)).cell 4, (h.blk K0.out (by omega)).cell 5, (h.at_ 0 (by decide)).1, (h.at_ 0 (by decide)).2, (h.at_ 1 (by decide)).1, (h.at_ 1 (by decide)).2⟩)
  have D0 := Lib.hid (show Hd W (w.heap.size + 1) 24 2 W from Hd.start K1.out)
  refine wp_region_held (S := (fun w' => Hd W (w.heap.size + 1) 24 2 w' ∧ w'.cell? ⟨w.heap.size, 0, none⟩ = some (Value.float FloatKind.f64 a.x.lo) ∧ w'.cell? ⟨w.heap.size, 1, none⟩ = some (Value.float FloatKind.f64 a.x.hi) ∧ w'.cell? ⟨w.heap.size, 2, none⟩ = some (Value.float FloatKind.f64 a.y.lo) ∧ w'.cell? ⟨w.heap.size, 3, none⟩ = some (Value.float FloatKind.f64 a.y.hi) ∧ w'.cell? ⟨w.heap.size, 4, none⟩ = some (Value.float FloatKind.f64 a.z.lo) ∧ w'.cell? ⟨w.heap.size, 5, none⟩ = some (Value.float FloatKind.f64 a.z.hi) ∧ w'.cell? ⟨w.heap.size + 1, 0, none⟩ = some (cellAt w' ⟨w.heap.size + 1, 0, none⟩) ∧ w'.frozen? ⟨w.heap.size + 1, 0, none⟩ = false ∧ w'.cell? ⟨w.heap.size + 1, 1, none⟩ = some (cellAt w' ⟨w.heap.size + 1, 1, none⟩) ∧ w'.frozen? ⟨w.heap.size + 1, 1, none⟩ = false)) (by kernel_rfl) ?_
  (try change wpAnyH _ _ _ _ _ _ _ (World.drew _))
  have hS0 := HO.out _ (Hd.drew D0.out)
  refine wpAnyH_takeN (i := 0) (v := ?v1_0x7) (l' := bm 12 1) (a' := ?a1_0x7) rfl (by kernel_rfl) (by kernel_rfl) (by kernel_rfl) (fun _ _ _ h => h) (Or.inl ⟨by kernel_rfl, ?h1_0x7⟩) (by kernel_rfl) ?p1_0x7 hS0 ?r1_0x7
  case h1_0x7 => (intro w hS; go_simp; try with_reducible rfl)
  case p1_0x7 => (go_simp; try with_reducible rfl)
  refine wpAnyH_takeN (i := 1) (v := ?v1_1x7) (l' := bm 12 3) (a' := ?a1_1x7) rfl (by kernel_rfl) (by kernel_rfl) (by kernel_rfl) (fun _ _ _ h => h) (Or.inl ⟨by kernel_rfl, ?h1_1x7⟩) (by kernel_rfl) ?p1_1x7 hS0 ?r1_1x7
  case h1_1x7 => (intro w hS; go_simp; try with_reducible rfl)
  case p1_1x7 => (go_simp; try with_reducible rfl)
  refine wpAnyH_takeN (i := 3) (v := ?v1_3x7) (l' := bm 12 11) (a' := ?a1_3x7) rfl (by kernel_rfl) (by kernel_rfl) (by kernel_rfl) (fun _ _ _ h => h) (Or.inl ⟨by kernel_rfl, ?h1_3x7⟩) (by kernel_rfl) ?p1_3x7 hS0 ?r1_3x7
  case h1_3x7 => (intro w hS; go_simp; try with_reducible rfl)
  case p1_3x7 => (go_simp; try with_reducible rfl)
  refine wpAnyH_takeN (i := 4) (v := ?v1_4x7) (l' := bm 12 27) (a' := ?a1_4x7) rfl (by kernel_rfl) (by kernel_rfl) (by kernel_rfl) (fun _ _ _ h => h) (Or.inl ⟨by kernel_rfl, ?h1_4x7⟩) (by kernel_rfl) ?p1_4x7 hS0 ?r1_4x7
  case h1_4x7 => (intro w hS; go_simp; try with_reducible rfl)
  case p1_4x7 => (go_simp; try with_reducible rfl)
  refine wpAnyH_takeN (i := 7) (v := ?v1_7x7) (l' := bm 12 155) (a' := ?a1_7x7) rfl (by kernel_rfl) (by kernel_rfl) (by kernel_rfl) (fun _ _ _ h => h) (Or.inl ⟨by kernel_rfl, ?h1_7x7⟩) (by kernel_rfl) ?p1_7x7 hS0 ?r1_7x7
  case h1_7x7 => (intro w hS; go_simp; try with_reducible rfl)
  case p1_7x7 => (go_simp; try with_reducible rfl)
  refine wpAnyH_takeN (i := 8) (v := ?v1_8x7) (l' := bm 12 411) (a' := ?a1_8x7) rfl (by kernel_rfl) (by kernel_rfl) (by kernel_rfl) (fun _ _ _ h => h) (Or.inl ⟨by kernel_rfl, ?h1_8x7⟩) (by kernel_rfl) ?p1_8x7 hS0 ?r1_8x7
  case h1_8x7 => (intro w hS; go_simp; try with_reducible rfl)
  case p1_8x7 => (go_simp; try with_reducible rfl)
  refine wpAnyH_oneN (i := 2) (l' := bm 12 415) rfl (by kernel_rfl) (by kernel_rfl) (by kernel_rfl) (fun K hK => ?_)
  have hP := hS0.1
  go_simp
  go_at_call 93
  refine (C0.out _).mono ?_
  rintro r w1 ⟨rfl, hb⟩
  dsimp only
  have D1 := Lib.hid (Hd.call hP hb)
  clear hb
  have hS1 := HO.out _ (D1.out)
  clear hP hS0
  refine hK _ _ hS1 ?_
  clear hK K
  refine wpAnyH_oneN (i := 5) (l' := bm 12 447) rfl (by kernel_rfl) (by kernel_rfl) (by kernel_rfl) (fun K hK => ?_)
  have hP := hS1.1
  go_simp
  go_at_call 93
  refine (C1.out _).mono ?_
  rintro r w2 ⟨rfl, hb⟩
  dsimp only
  have D2 := Lib.hid (Hd.call hP hb)
  clear hb
  have hS2 := HO.out _ (D2.out)
  clear hP hS1
  refine hK _ _ hS2 ?_
  clear hK K
  refine wpAnyH_oneN (i := 6) (l' := bm 12 511) rfl (by kernel_rfl) (by kernel_rfl) (by kernel_rfl) (fun K hK => ?_)
  have hP := hS2.1
  go_simp
  go_at_call 75
  refine (C2.out _).mono ?_
  rintro r w3 ⟨rfl, hb⟩
  dsimp only
  have D3 := Lib.hid (Hd.call hP hb)
  clear hb
  have hS3 := HO.out _ (D3.out)
  clear hP hS2
  refine hK _ _ hS3 ?_
  clear hK K
  refine wpAnyH_oneN (i := 9) (l' := bm 12 1023) rfl (by kernel_rfl) (by kernel_rfl) (by kernel_rfl) (fun K hK => ?_)
  have hP := hS3.1
  go_simp
  go_at_call 93
  refine (C3.out _).mono ?_
  rintro r w4 ⟨rfl, hb⟩
  dsimp only
  have D4 := Lib.hid (Hd.call hP hb)
  clear hb
  have hS4 := HO.out _ (D4.out)
  clear hP hS3
  refine hK _ _ hS4 ?_
  clear hK K
  refine wpAnyH_oneN (i := 10) (l' := bm 12 2047) rfl (by kernel_rfl) (by kernel_rfl) (by kernel_rfl) (fun K hK => ?_)
  have hP := hS4.1
  go_simp
  go_at_call 75
  refine (C4.out _).mono ?_
  rintro r w5 ⟨rfl, hb⟩
  dsimp only
  have D5 := Lib.hid (Hd.call hP hb)
  clear hb
  have hS5 := HO.out _ (D5.out)
  clear hP hS4
  refine hK _ _ hS5 ?_
  clear hK K
  refine wpAnyH_oneN (i := 11) (l' := bm 12 4095) rfl (by kernel_rfl) (by kernel_rfl) (by kernel_rfl) (fun K hK => ?_)
  have hP := hS5.1
  go_simp
  have hS6 := HO.out _ ((Hd.set (Hd.set hP 0 (Value.float FloatKind.f64 p4.lo)) 1 (Value.float FloatKind.f64 p4.hi)))
  clear hP hS5
  refine hK _ _ hS6 ?_
  clear hK K
  refine wpAnyH_done (by kernel_rfl) ?_ _
  have hF := hS6.1
  clear hS6
  go_wp2_with fail
  (try simp only [Exit.inBlock, Exit.then])
  refine bodyPost_ret (resS rfl _ _ (w.heap.size + 1) (Value.float FloatKind.f64 p4.lo) (Value.float FloatKind.f64 p4.hi) rfl (Hd.wrote2 hF)) rfl ⟨rfl, Hd.below hF HB.out (by omega)⟩
set_option maxRecDepth 100000 in
set_option maxHeartbeats 4000000 in
theorem rsumV_any (a : V3) (w : World) : Calls Try.prog 91 #[vval a] w fun r w' => r = .returned (.agg #[Value.float FloatKind.f64 (vSum a).lo, Value.float FloatKind.f64 (vSum a).hi]) ∧ Below w.heap.size w w' := by
  have C0 := Lib.hid (fun w => radd_sp a.x a.y w)
  have C1 := Lib.hid (fun w => radd_sp (addS a.x a.y) a.z w)
  unfold vSum
  generalize addS a.x a.y = p0 at *
  generalize addS p0 a.z = p1 at *
  go_enter Try.func91, Try.ntmps91
  go_wp2_with fail
  obtain ⟨W, hW, K0, K1, hB, hz⟩ := box2 w 26 24 #[Value.float FloatKind.f64 a.x.lo, Value.float FloatKind.f64 a.x.hi, Value.float FloatKind.f64 a.y.lo, Value.float FloatKind.f64 a.y.hi, Value.float FloatKind.f64 a.z.lo, Value.float FloatKind.f64 a.z.hi] #[Value.float FloatKind.f64 0, Value.float FloatKind.f64 0]
  rw [← hW]
  have K0 := Lib.hid K0
  have K1 := Lib.hid K1
  have HB := Lib.hid hB
  clear hW hB hz
  have HO := Lib.hid (show ∀ w', Hd W (w.heap.size + 1) 24 2 w' → (Hd W (w.heap.size + 1) 24 2 w' ∧ w'.cell? ⟨w.heap.size, 0, none⟩ = some (Value.float FloatKind.f64 a.x.lo) ∧ w'.cell? ⟨w.heap.size, 1, none⟩ = some (Value.float FloatKind.f64 a.x.hi) ∧ w'.cell? ⟨w.heap.size, 2, none⟩ = some (Value.float FloatKind.f64 a.y.lo) ∧ w'.cell? ⟨w.heap.size, 3, none⟩ = some (Value.float FloatKind.f64 a.y.hi) ∧ w'.cell? ⟨w.heap.size, 4, none⟩ = some (Value.float FloatKind.f64 a.z.lo) ∧ w'.cell? ⟨w.heap.size, 5, none⟩ = some (Value.float FloatKind.f64 a.z.hi) ∧ w'.cell? ⟨w.heap.size + 1, 0, none⟩ = some (cellAt w' ⟨w.heap.size + 1, 0, none⟩) ∧ w'.frozen? ⟨w.heap.size + 1, 0, none⟩ = false ∧ w'.cell? ⟨w.heap.size + 1, 1, none⟩ = some (cellAt w' ⟨w.heap.size + 1, 1, none⟩) ∧ w'.frozen? ⟨w.heap.size + 1, 1, none⟩ = false) from fun w' h => ⟨h, (h.blk K0.out (by omega)).cell 0, (h.blk K0.out (by omega)).cell 1, (h.blk K0.out (by omega)).cell 2, (h.blk K0.out (by omega)).cell 3, (h.blk K0.out (by omega)).cell 4, (h.blk K0.out (by omega)).cell 5, (h.at_ 0 (by decide)).1, (h.at_ 0 (by decide)).2, (h.at_ 1 (by decide)).1, (h.at_ 1 (by decide)).2⟩)
  have D0 := Lib.hid (show Hd W (w.heap.size + 1) 24 2 W from Hd.start K1.out)
  refine wp_region_held (S := (fun w' => Hd W (w.heap.size + 1) 24 2 w' ∧ w'.cell? ⟨w.heap.size, 0, none⟩ = some (Value.float FloatKind.f64 a.x.lo) ∧ w'.cell? ⟨w.heap.size, 1, none⟩ = some (Value.float FloatKind.f64 a.x.hi) ∧ w'.cell? ⟨w.heap.size, 2, none⟩ = some (Value.float FloatKind.f64 a.y.lo) ∧ w'.cell? ⟨w.heap.size, 3, none⟩ = some (Value.float FloatKind.f64 a.y.hi) ∧ w'.cell? ⟨w.heap.size, 4, none⟩ = some (Value.float FloatKind.f64 a.z.lo) ∧ w'.cell? ⟨w.heap.size, 5, none⟩ = some (Value.float FloatKind.f64 a.z.hi) ∧ w'.cell? ⟨w.heap.size + 1, 0, none⟩ = some (cellAt w' ⟨w.heap.size + 1, 0, none⟩) ∧ w'.frozen? ⟨w.heap.size + 1, 0, none⟩ = false ∧ w'.cell? ⟨w.heap.size + 1, 1, none⟩ = some (cellAt w' ⟨w.heap.size + 1, 1, none⟩) ∧ w'.frozen? ⟨w.heap.size + 1, 1, none⟩ = false)) (by kernel_rfl) ?_
  (try change wpAnyH _ _ _ _ _ _ _ (World.drew _))
  have hS0 := HO.out _ (Hd.drew D0.out)
  refine wpAnyH_takeN (i := 0) (v := ?v1_0x8) (l' := bm 9 1) (a' := ?a1_0x8) rfl (by kernel_rfl) (by kernel_rfl) (by kernel_rfl) (fun _ _ _ h => h) (Or.inl ⟨by kernel_rfl, ?h1_0x8⟩) (by kernel_rfl) ?p1_0x8 hS0 ?r1_0x8
  case h1_0x8 => (intro w hS; go_simp; try with_reducible rfl)
  case p1_0x8 => (go_simp; try with_reducible rfl)
  refine wpAnyH_takeN (i := 1) (v := ?v1_1x8) (l' := bm 9 3) (a' := ?a1_1x8) rfl (by kernel_rfl) (by kernel_rfl) (by kernel_rfl) (fun _ _ _ h => h) (Or.inl ⟨by kernel_rfl, ?h1_1x8⟩) (by kernel_rfl) ?p1_1x8 hS0 ?r1_1x8
  case h1_1x8 => (intro w hS; go_simp; try with_reducible rfl)
  case p1_1x8 => (go_simp; try with_reducible rfl)
  refine wpAnyH_takeN (i := 2) (v := ?v1_2x8) (l' := bm 9 7) (a' := ?a1_2x8) rfl (by kernel_rfl) (by kernel_rfl) (by kernel_rfl) (fun _ _ _ h => h) (Or.inl ⟨by kernel_rfl, ?h1_2x8⟩) (by kernel_rfl) ?p1_2x8 hS0 ?r1_2x8
  case h1_2x8 => (intro w hS; go_simp; try with_reducible rfl)
  case p1_2x8 => (go_simp; try with_reducible rfl)
  refine wpAnyH_takeN (i := 3) (v := ?v1_3x8) (l' := bm 9 15) (a' := ?a1_3x8) rfl (by kernel_rfl) (by kernel_rfl) (by kernel_rfl) (fun _ _ _ h => h) (Or.inl ⟨by kernel_rfl, ?h1_3x8⟩) (by kernel_rfl) ?p1_3x8 hS0 ?r1_3x8
  case h1_3x8 => (intro w hS; go_simp; try with_reducible rfl)
  case p1_3x8 => (go_simp; try with_reducible rfl)
  refine wpAnyH_takeN (i := 5) (v := ?v1_5x8) (l' := bm 9 47) (a' := ?a1_5x8) rfl (by kernel_rfl) (by kernel_rfl) (by kernel_rfl) (fun _ _ _ h => h) (Or.inl ⟨by kernel_rfl, ?h1_5x8⟩) (by kernel_rfl) ?p1_5x8 hS0 ?r1_5x8
  case h1_5x8 => (intro w hS; go_simp; try with_reducible rfl)
  case p1_5x8 => (go_simp; try with_reducible rfl)
  refine wpAnyH_takeN (i := 6) (v := ?v1_6x8) (l' := bm 9 111) (a' := ?a1_6x8) rfl (by kernel_rfl) (by kernel_rfl) (by kernel_rfl) (fun _ _ _ h => h) (Or.inl ⟨by kernel_rfl, ?h1_6x8⟩) (by kernel_rfl) ?p1_6x8 hS0 ?r1_6x8
  case h1_6x8 => (intro w hS; go_simp; try with_reducible rfl)
  case p1_6x8 => (go_simp; try with_reducible rfl)
  refine wpAnyH_oneN (i := 4) (l' := bm 9 127) rfl (by kernel_rfl) (by kernel_rfl) (by kernel_rfl) (fun K hK => ?_)
  have hP := hS0.1
  go_simp
  go_at_call 85
  refine (C0.out _).mono ?_
  rintro r w1 ⟨rfl, hb⟩
  dsimp only
  have D1 := Lib.hid (Hd.call hP hb)
  clear hb
  have hS1 := HO.out _ (D1.out)
  clear hP hS0
  refine hK _ _ hS1 ?_
  clear hK K
  refine wpAnyH_oneN (i := 7) (l' := bm 9 255) rfl (by kernel_rfl) (by kernel_rfl) (by kernel_rfl) (fun K hK => ?_)
  have hP := hS1.1
  go_simp
  go_at_call 85
  refine (C1.out _).mono ?_
  rintro r w2 ⟨rfl, hb⟩
  dsimp only
  have D2 := Lib.hid (Hd.call hP hb)
  clear hb
  have hS2 := HO.out _ (D2.out)
  clear hP hS1
  refine hK _ _ hS2 ?_
  clear hK K
  refine wpAnyH_oneN (i := 8) (l' := bm 9 511) rfl (by kernel_rfl) (by kernel_rfl) (by kernel_rfl) (fun K hK => ?_)
  have hP := hS2.1
  go_simp
  have hS3 := HO.out _ ((Hd.set (Hd.set hP 0 (Value.float FloatKind.f64 p1.lo)) 1 (Value.float FloatKind.f64 p1.hi)))
  clear hP hS2
  refine hK _ _ hS3 ?_
  clear hK K
  refine wpAnyH_done (by kernel_rfl) ?_ _
  have hF := hS3.1
  clear hS3
  go_wp2_with fail
  (try simp only [Exit.inBlock, Exit.then])
  refine bodyPost_ret (resS rfl _ _ (w.heap.size + 1) (Value.float FloatKind.f64 p1.lo) (Value.float FloatKind.f64 p1.hi) rfl (Hd.wrote2 hF)) rfl ⟨rfl, Hd.below hF HB.out (by omega)⟩
set_option maxRecDepth 100000 in
set_option maxHeartbeats 4000000 in
theorem rsqrV_any (a : V3) (w : World) : Calls Try.prog 52 #[vval a] w fun r w' => r = .returned (.agg #[Value.float FloatKind.f64 (vSqr a).lo, Value.float FloatKind.f64 (vSqr a).hi]) ∧ Below w.heap.size w w' := by
  have C0 := Lib.hid (fun w => rsqr_sp a.x w)
  have C1 := Lib.hid (fun w => rsqr_sp a.y w)
  have C2 := Lib.hid (fun w => rsqr_sp a.z w)
  have C3 := Lib.hid (fun w => rsumV_any ⟨sqrS a.x, sqrS a.y, sqrS a.z⟩ w)
  unfold vSqr
  generalize sqrS a.x = p0 at *
  generalize sqrS a.y = p1 at *
  generalize sqrS a.z = p2 at *
  generalize vSum ⟨p0, p1, p2⟩ = p3 at *
  go_enter Try.func52, Try.ntmps52
  go_wp2_with fail
  obtain ⟨W, hW, K0, K1, hB, hz⟩ := box2 w 26 24 #[Value.float FloatKind.f64 a.x.lo, Value.float FloatKind.f64 a.x.hi, Value.float FloatKind.f64 a.y.lo, Value.float FloatKind.f64 a.y.hi, Value.float FloatKind.f64 a.z.lo, Value.float FloatKind.f64 a.z.hi] #[Value.float FloatKind.f64 0, Value.float FloatKind.f64 0]
  rw [← hW]
  have K0 := Lib.hid K0
  have K1 := Lib.hid K1
  have HB := Lib.hid hB
  clear hW hB hz
  have HO := Lib.hid (show ∀ w', Hd W (w.heap.size + 1) 24 2 w' → (Hd W (w.heap.size + 1) 24 2 w' ∧ w'.cell? ⟨w.heap.size, 0, none⟩ = some (Value.float FloatKind.f64 a.x.lo) ∧ w'.cell? ⟨w.heap.size, 1, none⟩ = some (Value.float FloatKind.f64 a.x.hi) ∧ w'.cell? ⟨w.heap.size, 2, none⟩ = some (Value.float FloatKind.f64 a.y.lo) ∧ w'.cell? ⟨w.heap.size, 3, none⟩ = some (Value.float FloatKind.f64 a.y.hi) ∧ w'.cell? ⟨w.heap.size, 4, none⟩ = some (Value.float FloatKind.f64 a.z.lo) ∧ w'.cell? ⟨w.heap.size, 5, none⟩ = some (Value.float FloatKind.f64 a.z.hi) ∧ w'.cell? ⟨w.heap.size + 1, 0, none⟩ = some (cellAt w' ⟨w.heap.size + 1, 0, none⟩) ∧ w'.frozen? ⟨w.heap.size + 1, 0, none⟩ = false ∧ w'.cell? ⟨w.heap.size + 1, 1, none⟩ = some (cellAt w' ⟨w.heap.size + 1, 1, none⟩) ∧ w'.frozen? ⟨w.heap.size + 1, 1, none⟩ = false) from fun w' h => ⟨h, (h.blk K0.out (by omega)).cell 0, (h.blk K0.out (by omega)).cell 1, (h.blk K0.out (by omega)).cell 2, (h.blk K0.out (by omega)).cell 3, (h.blk K0.out (by omega)).cell 4, (h.blk K0.out (by omega)).cell 5, (h.at_ 0 (by decide)).1, (h.at_ 0 (by decide)).2, (h.at_ 1 (by decide)).1, (h.at_ 1 (by decide)).2⟩)
  have D0 := Lib.hid (show Hd W (w.heap.size + 1) 24 2 W from Hd.start K1.out)
  refine wp_region_held (S := (fun w' => Hd W (w.heap.size + 1) 24 2 w' ∧ w'.cell? ⟨w.heap.size, 0, none⟩ = some (Value.float FloatKind.f64 a.x.lo) ∧ w'.cell? ⟨w.heap.size, 1, none⟩ = some (Value.float FloatKind.f64 a.x.hi) ∧ w'.cell? ⟨w.heap.size, 2, none⟩ = some (Value.float FloatKind.f64 a.y.lo) ∧ w'.cell? ⟨w.heap.size, 3, none⟩ = some (Value.float FloatKind.f64 a.y.hi) ∧ w'.cell? ⟨w.heap.size, 4, none⟩ = some (Value.float FloatKind.f64 a.z.lo) ∧ w'.cell? ⟨w.heap.size, 5, none⟩ = some (Value.float FloatKind.f64 a.z.hi) ∧ w'.cell? ⟨w.heap.size + 1, 0, none⟩ = some (cellAt w' ⟨w.heap.size + 1, 0, none⟩) ∧ w'.frozen? ⟨w.heap.size + 1, 0, none⟩ = false ∧ w'.cell? ⟨w.heap.size + 1, 1, none⟩ = some (cellAt w' ⟨w.heap.size + 1, 1, none⟩) ∧ w'.frozen? ⟨w.heap.size + 1, 1, none⟩ = false)) (by kernel_rfl) ?_
  (try change wpAnyH _ _ _ _ _ _ _ (World.drew _))
  have hS0 := HO.out _ (Hd.drew D0.out)
  refine wpAnyH_takeN (i := 0) (v := ?v1_0x9) (l' := bm 12 1) (a' := ?a1_0x9) rfl (by kernel_rfl) (by kernel_rfl) (by kernel_rfl) (fun _ _ _ h => h) (Or.inl ⟨by kernel_rfl, ?h1_0x9⟩) (by kernel_rfl) ?p1_0x9 hS0 ?r1_0x9
  case h1_0x9 => (intro w hS; go_simp; try with_reducible rfl)
  case p1_0x9 => (go_simp; try with_reducible rfl)
  refine wpAnyH_takeN (i := 1) (v := ?v1_1x9) (l' := bm 12 3) (a' := ?a1_1x9) rfl (by kernel_rfl) (by kernel_rfl) (by kernel_rfl) (fun _ _ _ h => h) (Or.inl ⟨by kernel_rfl, ?h1_1x9⟩) (by kernel_rfl) ?p1_1x9 hS0 ?r1_1x9
  case h1_1x9 => (intro w hS; go_simp; try with_reducible rfl)
  case p1_1x9 => (go_simp; try with_reducible rfl)
  refine wpAnyH_takeN (i := 3) (v := ?v1_3x9) (l' := bm 12 11) (a' := ?a1_3x9) rfl (by kernel_rfl) (by kernel_rfl) (by kernel_rfl) (fun _ _ _ h => h) (Or.inl ⟨by kernel_rfl, ?h1_3x9⟩) (by kernel_rfl) ?p1_3x9 hS0 ?r1_3x9
  case h1_3x9 => (intro w hS; go_simp; try with_reducible rfl)
  case p1_3x9 => (go_simp; try with_reducible rfl)
  refine wpAnyH_takeN (i := 4) (v := ?v1_4x9) (l' := bm 12 27) (a' := ?a1_4x9) rfl (by kernel_rfl) (by kernel_rfl) (by kernel_rfl) (fun _ _ _ h => h) (Or.inl ⟨by kernel_rfl, ?h1_4x9⟩) (by kernel_rfl) ?p1_4x9 hS0 ?r1_4x9
  case h1_4x9 => (intro w hS; go_simp; try with_reducible rfl)
  case p1_4x9 => (go_simp; try with_reducible rfl)
  refine wpAnyH_takeN (i := 6) (v := ?v1_6x9) (l' := bm 12 91) (a' := ?a1_6x9) rfl (by kernel_rfl) (by kernel_rfl) (by kernel_rfl) (fun _ _ _ h => h) (Or.inl ⟨by kernel_rfl, ?h1_6x9⟩) (by kernel_rfl) ?p1_6x9 hS0 ?r1_6x9
  case h1_6x9 => (intro w hS; go_simp; try with_reducible rfl)
  case p1_6x9 => (go_simp; try with_reducible rfl)
  refine wpAnyH_takeN (i := 7) (v := ?v1_7x9) (l' := bm 12 219) (a' := ?a1_7x9) rfl (by kernel_rfl) (by kernel_rfl) (by kernel_rfl) (fun _ _ _ h => h) (Or.inl ⟨by kernel_rfl, ?h1_7x9⟩) (by kernel_rfl) ?p1_7x9 hS0 ?r1_7x9
  case h1_7x9 => (intro w hS; go_simp; try with_reducible rfl)
  case p1_7x9 => (go_simp; try with_reducible rfl)
  refine wpAnyH_oneN (i := 2) (l' := bm 12 223) rfl (by kernel_rfl) (by kernel_rfl) (by kernel_rfl) (fun K hK => ?_)
  have hP := hS0.1
  go_simp
  go_at_call 94
  refine (C0.out _).mono ?_
  rintro r w1 ⟨rfl, hb⟩
  dsimp only
  have D1 := Lib.hid (Hd.call hP hb)
  clear hb
  have hS1 := HO.out _ (D1.out)
  clear hP hS0
  refine hK _ _ hS1 ?_
  clear hK K
  refine wpAnyH_oneN (i := 5) (l' := bm 12 255) rfl (by kernel_rfl) (by kernel_rfl) (by kernel_rfl) (fun K hK => ?_)
  have hP := hS1.1
  go_simp
  go_at_call 94
  refine (C1.out _).mono ?_
  rintro r w2 ⟨rfl, hb⟩
  dsimp only
  have D2 := Lib.hid (Hd.call hP hb)
  clear hb
  have hS2 := HO.out _ (D2.out)
  clear hP hS1
  refine hK _ _ hS2 ?_
  clear hK K
  refine wpAnyH_oneN (i := 8) (l' := bm 12 511) rfl (by kernel_rfl) (by kernel_rfl) (by kernel_rfl) (fun K hK => ?_)
  have hP := hS2.1
  go_simp
  go_at_call 94
  refine (C2.out _).mono ?_
  rintro r w3 ⟨rfl, hb⟩
  dsimp only
  have D3 := Lib.hid (Hd.call hP hb)
  clear hb
  have hS3 := HO.out _ (D3.out)
  clear hP hS2
  refine hK _ _ hS3 ?_
  clear hK K
  refine wpAnyH_takeN (i := 9) (v := ?v1_9x9) (l' := bm 12 1023) (a' := ?a1_9x9) rfl (by kernel_rfl) (by kernel_rfl) (by kernel_rfl) (fun _ _ _ h => h) (Or.inl ⟨by kernel_rfl, ?h1_9x9⟩) (by kernel_rfl) ?p1_9x9 hS3 ?r1_9x9
  case h1_9x9 => (intro w hS; go_simp; try with_reducible rfl)
  case p1_9x9 => (go_simp; try with_reducible rfl)
  refine wpAnyH_oneN (i := 10) (l' := bm 12 2047) rfl (by kernel_rfl) (by kernel_rfl) (by kernel_rfl) (fun K hK => ?_)
  have hP := hS3.1
  go_simp
  go_at_call 91
  refine (C3.out _).mono ?_
  rintro r w4 ⟨rfl, hb⟩
  dsimp only
  have D4 := Lib.hid (Hd.call hP hb)
  clear hb
  have hS4 := HO.out _ (D4.out)
  clear hP hS3
  refine hK _ _ hS4 ?_
  clear hK K
  refine wpAnyH_oneN (i := 11) (l' := bm 12 4095) rfl (by kernel_rfl) (by kernel_rfl) (by kernel_rfl) (fun K hK => ?_)
  have hP := hS4.1
  go_simp
  have hS5 := HO.out _ ((Hd.set (Hd.set hP 0 (Value.float FloatKind.f64 p3.lo)) 1 (Value.float FloatKind.f64 p3.hi)))
  clear hP hS4
  refine hK _ _ hS5 ?_
  clear hK K
  refine wpAnyH_done (by kernel_rfl) ?_ _
  have hF := hS5.1
  clear hS5
  go_wp2_with fail
  (try simp only [Exit.inBlock, Exit.then])
  refine bodyPost_ret (resS rfl _ _ (w.heap.size + 1) (Value.float FloatKind.f64 p3.lo) (Value.float FloatKind.f64 p3.hi) rfl (Hd.wrote2 hF)) rfl ⟨rfl, Hd.below hF HB.out (by omega)⟩
set_option maxRecDepth 100000 in
set_option maxHeartbeats 4000000 in
theorem rcross_any (a : Sp) (b : Sp) (c : Sp) (d : Sp) (w : World) : Calls Try.prog 92 #[.agg #[Value.float FloatKind.f64 a.lo, Value.float FloatKind.f64 a.hi], .agg #[Value.float FloatKind.f64 b.lo, Value.float FloatKind.f64 b.hi], .agg #[Value.float FloatKind.f64 c.lo, Value.float FloatKind.f64 c.hi], .agg #[Value.float FloatKind.f64 d.lo, Value.float FloatKind.f64 d.hi]] w fun r w' => r = .returned (.agg #[Value.float FloatKind.f64 (vCrs a b c d).lo, Value.float FloatKind.f64 (vCrs a b c d).hi]) ∧ Below w.heap.size w w' := by
  have C0 := Lib.hid (fun w => rmul_sp a b w)
  have C1 := Lib.hid (fun w => rmul_sp c d w)
  have C2 := Lib.hid (fun w => rsub_sp (mulS a b) (mulS c d) w)
  unfold vCrs
  generalize mulS a b = p0 at *
  generalize mulS c d = p1 at *
  generalize subS p0 p1 = p2 at *
  go_enter Try.func92, Try.ntmps92
  go_wp2_with fail
  obtain ⟨W, hW, K0, K1, K2, K3, K4, hB, hz⟩ := box5 w 24 24 24 24 24 #[Value.float FloatKind.f64 a.lo, Value.float FloatKind.f64 a.hi] #[Value.float FloatKind.f64 b.lo, Value.float FloatKind.f64 b.hi] #[Value.float FloatKind.f64 c.lo, Value.float FloatKind.f64 c.hi] #[Value.float FloatKind.f64 d.lo, Value.float FloatKind.f64 d.hi] #[Value.float FloatKind.f64 0, Value.float FloatKind.f64 0]
  rw [← hW]
  have K0 := Lib.hid K0
  have K1 := Lib.hid K1
  have K2 := Lib.hid K2
  have K3 := Lib.hid K3
  have K4 := Lib.hid K4
  have HB := Lib.hid hB
  clear hW hB hz
  have HO := Lib.hid (show ∀ w', Hd W (w.heap.size + 1 + 1 + 1 + 1) 24 2 w' → (Hd W (w.heap.size + 1 + 1 + 1 + 1) 24 2 w' ∧ w'.cell? ⟨w.heap.size, 0, none⟩ = some (Value.float FloatKind.f64 a.lo) ∧ w'.cell? ⟨w.heap.size, 1, none⟩ = some (Value.float FloatKind.f64 a.hi) ∧ w'.cell? ⟨w.heap.size + 1, 0, none⟩ = some (Value.float FloatKind.f64 b.lo) ∧ w'.cell? ⟨w.heap.size + 1, 1, none⟩ = some (Value.float FloatKind.f64 b.hi) ∧ w'.cell? ⟨w.heap.size + 1 + 1, 0, none⟩ = some (Value.float FloatKind.f64 c.lo) ∧ w'.cell? ⟨w.heap.size + 1 + 1, 1, none⟩ = some (Value.float FloatKind.f64 c.hi) ∧ w'.cell? ⟨w.heap.size + 1 + 1 + 1, 0, none⟩ = some (Value.float FloatKind.f64 d.lo) ∧ w'.cell? ⟨w.heap.size + 1 + 1 + 1, 1, none⟩ = some (Value.float FloatKind.f64 d.hi) ∧ w'.cell? ⟨w.heap.size + 1 + 1 + 1 + 1, 0, none⟩ = some (cellAt w' ⟨w.heap.size + 1 + 1 + 1 + 1, 0, none⟩) ∧ w'.frozen? ⟨w.heap.size + 1 + 1 + 1 + 1, 0, none⟩ = false ∧ w'.cell? ⟨w.heap.size + 1 + 1 + 1 + 1, 1, none⟩ = some (cellAt w' ⟨w.heap.size + 1 + 1 + 1 + 1, 1, none⟩) ∧ w'.frozen? ⟨w.heap.size + 1 + 1 + 1 + 1, 1, none⟩ = false) from fun w' h => ⟨h, (h.blk K0.out (by omega)).cell 0, (h.blk K0.out (by omega)).cell 1, (h.blk K1.out (by omega)).cell 0, (h.blk K1.out (by omega)).cell 1, (h.blk K2.out (by omega)).cell 0, (h.blk K2.out (by omega)).cell 1, (h.blk K3.out (by omega)).cell 0, (h.blk K3.out (by omega)).cell 1, (h.at_ 0 (by decide)).1, (h.at_ 0 (by decide)).2, (h.at_ 1 (by decide)).1, (h.at_ 1 (by decide)).2⟩)
  have D0 := Lib.hid (show Hd W (w.heap.size + 1 + 1 + 1 + 1) 24 2 W from Hd.start K4.out)
  refine wp_region_held (S := (fun w' => Hd W (w.heap.size + 1 + 1 + 1 + 1) 24 2 w' ∧ w'.cell? ⟨w.heap.size, 0, none⟩ = some (Value.float FloatKind.f64 a.lo) ∧ w'.cell? ⟨w.heap.size, 1, none⟩ = some (Value.float FloatKind.f64 a.hi) ∧ w'.cell? ⟨w.heap.size + 1, 0, none⟩ = some (Value.float FloatKind.f64 b.lo) ∧ w'.cell? ⟨w.heap.size + 1, 1, none⟩ = some (Value.float FloatKind.f64 b.hi) ∧ w'.cell? ⟨w.heap.size + 1 + 1, 0, none⟩ = some (Value.float FloatKind.f64 c.lo) ∧ w'.cell? ⟨w.heap.size + 1 + 1, 1, none⟩ = some (Value.float FloatKind.f64 c.hi) ∧ w'.cell? ⟨w.heap.size + 1 + 1 + 1, 0, none⟩ = some (Value.float FloatKind.f64 d.lo) ∧ w'.cell? ⟨w.heap.size + 1 + 1 + 1, 1, none⟩ = some (Value.float FloatKind.f64 d.hi) ∧ w'.cell? ⟨w.heap.size + 1 + 1 + 1 + 1, 0, none⟩ = some (cellAt w' ⟨w.heap.size + 1 + 1 + 1 + 1, 0, none⟩) ∧ w'.frozen? ⟨w.heap.size + 1 + 1 + 1 + 1, 0, none⟩ = false ∧ w'.cell? ⟨w.heap.size + 1 + 1 + 1 + 1, 1, none⟩ = some (cellAt w' ⟨w.heap.size + 1 + 1 + 1 + 1, 1, none⟩) ∧ w'.frozen? ⟨w.heap.size + 1 + 1 + 1 + 1, 1, none⟩ = false)) (by kernel_rfl) ?_
  (try change wpAnyH _ _ _ _ _ _ _ (World.drew _))
  have hS0 := HO.out _ (Hd.drew D0.out)
  refine wpAnyH_takeN (i := 0) (v := ?v1_0x10) (l' := bm 8 1) (a' := ?a1_0x10) rfl (by kernel_rfl) (by kernel_rfl) (by kernel_rfl) (fun _ _ _ h => h) (Or.inl ⟨by kernel_rfl, ?h1_0x10⟩) (by kernel_rfl) ?p1_0x10 hS0 ?r1_0x10
  case h1_0x10 => (intro w hS; go_simp; try with_reducible rfl)
  case p1_0x10 => (go_simp; try with_reducible rfl)
  refine wpAnyH_takeN (i := 1) (v := ?v1_1x10) (l' := bm 8 3) (a' := ?a1_1x10) rfl (by kernel_rfl) (by kernel_rfl) (by kernel_rfl) (fun _ _ _ h => h) (Or.inl ⟨by kernel_rfl, ?h1_1x10⟩) (by kernel_rfl) ?p1_1x10 hS0 ?r1_1x10
  case h1_1x10 => (intro w hS; go_simp; try with_reducible rfl)
  case p1_1x10 => (go_simp; try with_reducible rfl)
  refine wpAnyH_takeN (i := 3) (v := ?v1_3x10) (l' := bm 8 11) (a' := ?a1_3x10) rfl (by kernel_rfl) (by kernel_rfl) (by kernel_rfl) (fun _ _ _ h => h) (Or.inl ⟨by kernel_rfl, ?h1_3x10⟩) (by kernel_rfl) ?p1_3x10 hS0 ?r1_3x10
  case h1_3x10 => (intro w hS; go_simp; try with_reducible rfl)
  case p1_3x10 => (go_simp; try with_reducible rfl)
  refine wpAnyH_takeN (i := 4) (v := ?v1_4x10) (l' := bm 8 27) (a' := ?a1_4x10) rfl (by kernel_rfl) (by kernel_rfl) (by kernel_rfl) (fun _ _ _ h => h) (Or.inl ⟨by kernel_rfl, ?h1_4x10⟩) (by kernel_rfl) ?p1_4x10 hS0 ?r1_4x10
  case h1_4x10 => (intro w hS; go_simp; try with_reducible rfl)
  case p1_4x10 => (go_simp; try with_reducible rfl)
  refine wpAnyH_oneN (i := 2) (l' := bm 8 31) rfl (by kernel_rfl) (by kernel_rfl) (by kernel_rfl) (fun K hK => ?_)
  have hP := hS0.1
  go_simp
  go_at_call 87
  refine (C0.out _).mono ?_
  rintro r w1 ⟨rfl, hb⟩
  dsimp only
  have D1 := Lib.hid (Hd.call hP hb)
  clear hb
  have hS1 := HO.out _ (D1.out)
  clear hP hS0
  refine hK _ _ hS1 ?_
  clear hK K
  refine wpAnyH_oneN (i := 5) (l' := bm 8 63) rfl (by kernel_rfl) (by kernel_rfl) (by kernel_rfl) (fun K hK => ?_)
  have hP := hS1.1
  go_simp
  go_at_call 87
  refine (C1.out _).mono ?_
  rintro r w2 ⟨rfl, hb⟩
  dsimp only
  have D2 := Lib.hid (Hd.call hP hb)
  clear hb
  have hS2 := HO.out _ (D2.out)
  clear hP hS1
  refine hK _ _ hS2 ?_
  clear hK K
  refine wpAnyH_oneN (i := 6) (l' := bm 8 127) rfl (by kernel_rfl) (by kernel_rfl) (by kernel_rfl) (fun K hK => ?_)
  have hP := hS2.1
  go_simp
  go_at_call 86
  refine (C2.out _).mono ?_
  rintro r w3 ⟨rfl, hb⟩
  dsimp only
  have D3 := Lib.hid (Hd.call hP hb)
  clear hb
  have hS3 := HO.out _ (D3.out)
  clear hP hS2
  refine hK _ _ hS3 ?_
  clear hK K
  refine wpAnyH_oneN (i := 7) (l' := bm 8 255) rfl (by kernel_rfl) (by kernel_rfl) (by kernel_rfl) (fun K hK => ?_)
  have hP := hS3.1
  go_simp
  have hS4 := HO.out _ ((Hd.set (Hd.set hP 0 (Value.float FloatKind.f64 p2.lo)) 1 (Value.float FloatKind.f64 p2.hi)))
  clear hP hS3
  refine hK _ _ hS4 ?_
  clear hK K
  refine wpAnyH_done (by kernel_rfl) ?_ _
  have hF := hS4.1
  clear hS4
  go_wp2_with fail
  (try simp only [Exit.inBlock, Exit.then])
  refine bodyPost_ret (resS rfl _ _ (w.heap.size + 1 + 1 + 1 + 1) (Value.float FloatKind.f64 p2.lo) (Value.float FloatKind.f64 p2.hi) rfl (Hd.wrote2 hF)) rfl ⟨rfl, Hd.below hF HB.out (by omega)⟩
set_option maxRecDepth 100000 in
set_option maxHeartbeats 4000000 in
theorem rcrossV_any (a : V3) (b : V3) (w : World) : Calls Try.prog 50 #[vval a, vval b] w fun r w' => r = .returned (vval (vCross a b)) ∧ Below w.heap.size w w' := by
  have C0 := Lib.hid (fun w => rcross_any a.y b.z a.z b.y w)
  have C1 := Lib.hid (fun w => rcross_any a.z b.x a.x b.z w)
  have C2 := Lib.hid (fun w => rcross_any a.x b.y a.y b.x w)
  unfold vCross
  generalize vCrs a.y b.z a.z b.y = p0 at *
  generalize vCrs a.z b.x a.x b.z = p1 at *
  generalize vCrs a.x b.y a.y b.x = p2 at *
  go_enter Try.func50, Try.ntmps50
  go_wp2_with fail
  obtain ⟨W, hW, K0, K1, K2, hB, hz⟩ := box3 w 26 26 26 #[Value.float FloatKind.f64 a.x.lo, Value.float FloatKind.f64 a.x.hi, Value.float FloatKind.f64 a.y.lo, Value.float FloatKind.f64 a.y.hi, Value.float FloatKind.f64 a.z.lo, Value.float FloatKind.f64 a.z.hi] #[Value.float FloatKind.f64 b.x.lo, Value.float FloatKind.f64 b.x.hi, Value.float FloatKind.f64 b.y.lo, Value.float FloatKind.f64 b.y.hi, Value.float FloatKind.f64 b.z.lo, Value.float FloatKind.f64 b.z.hi] #[Value.float FloatKind.f64 0, Value.float FloatKind.f64 0, Value.float FloatKind.f64 0, Value.float FloatKind.f64 0, Value.float FloatKind.f64 0, Value.float FloatKind.f64 0]
  rw [← hW]
  have K0 := Lib.hid K0
  have K1 := Lib.hid K1
  have K2 := Lib.hid K2
  have HB := Lib.hid hB
  clear hW hB hz
  have HO := Lib.hid (show ∀ w', Hd W (w.heap.size + 1 + 1) 26 6 w' → (Hd W (w.heap.size + 1 + 1) 26 6 w' ∧ w'.cell? ⟨w.heap.size, 0, none⟩ = some (Value.float FloatKind.f64 a.x.lo) ∧ w'.cell? ⟨w.heap.size, 1, none⟩ = some (Value.float FloatKind.f64 a.x.hi) ∧ w'.cell? ⟨w.heap.size, 2, none⟩ = some (Value.float FloatKind.f64 a.y.lo) ∧ w'.cell? ⟨w.heap.size, 3, none⟩ = some (Value.float FloatKind.f64 a.y.hi) ∧ w'.cell? ⟨w.heap.size, 4, none⟩ = some (Value.float FloatKind.f64 a.z.lo) ∧ w'.cell? ⟨w.heap.size, 5, none⟩ = some (Value.float FloatKind.f64 a.z.hi) ∧ w'.cell? ⟨w.heap.size + 1, 0, none⟩ = some (Value.float FloatKind.f64 b.x.lo) ∧ w'.cell? ⟨w.heap.size + 1, 1, none⟩ = some (Value.float FloatKind.f64 b.x.hi) ∧ w'.cell? ⟨w.heap.size + 1, 2, none⟩ = some (Value.float FloatKind.f64 b.y.lo) ∧ w'.cell? ⟨w.heap.size + 1, 3, none⟩ = some (Value.float FloatKind.f64 b.y.hi) ∧ w'.cell? ⟨w.heap.size + 1, 4, none⟩ = some (Value.float FloatKind.f64 b.z.lo) ∧ w'.cell? ⟨w.heap.size + 1, 5, none⟩ = some (Value.float FloatKind.f64 b.z.hi) ∧ w'.cell? ⟨w.heap.size + 1 + 1, 0, none⟩ = some (cellAt w' ⟨w.heap.size + 1 + 1, 0, none⟩) ∧ w'.frozen? ⟨w.heap.size + 1 + 1, 0, none⟩ = false ∧ w'.cell? ⟨w.heap.size + 1 + 1, 1, none⟩ = some (cellAt w' ⟨w.heap.size + 1 + 1, 1, none⟩) ∧ w'.frozen? ⟨w.heap.size + 1 + 1, 1, none⟩ = false ∧ w'.cell? ⟨w.heap.size + 1 + 1, 2, none⟩ = some (cellAt w' ⟨w.heap.size + 1 + 1, 2, none⟩) ∧ w'.frozen? ⟨w.heap.size + 1 + 1, 2, none⟩ = false ∧ w'.cell? ⟨w.heap.size + 1 + 1, 3, none⟩ = some (cellAt w' ⟨w.heap.size + 1 + 1, 3, none⟩) ∧ w'.frozen? ⟨w.heap.size + 1 + 1, 3, none⟩ = false ∧ w'.cell? ⟨w.heap.size + 1 + 1, 4, none⟩ = some (cellAt w' ⟨w.heap.size + 1 + 1, 4, none⟩) ∧ w'.frozen? ⟨w.heap.size + 1 + 1, 4, none⟩ = false ∧ w'.cell? ⟨w.heap.size + 1 + 1, 5, none⟩ = some (cellAt w' ⟨w.heap.size + 1 + 1, 5, none⟩) ∧ w'.frozen? ⟨w.heap.size + 1 + 1, 5, none⟩ = false) from fun w' h => ⟨h, (h.blk K0.out (by omega)).cell 0, (h.blk K0.out (by omega)).cell 1, (h.blk K0.out (by omega)).cell 2, (h.blk K0.out (by omega)).cell 3, (h.blk K0.out (by omega)).cell 4, (h.blk K0.out (by omega)).cell 5, (h.blk K1.out (by omega)).cell 0, (h.blk K1.out (by omega)).cell 1, (h.blk K1.out (by omega)).cell 2, (h.blk K1.out (by omega)).cell 3, (h.blk K1.out (by omega)).cell 4, (h.blk K1.out (by omega)).cell 5, (h.at_ 0 (by decide)).1, (h.at_ 0 (by decide)).2, (h.at_ 1 (by decide)).1, (h.at_ 1 (by decide)).2, (h.at_ 2 (by decide)).1, (h.at_ 2 (by decide)).2, (h.at_ 3 (by decide)).1, (h.at_ 3 (by decide)).2, (h.at_ 4 (by decide)).1, (h.at_ 4 (by decide)).2, (h.at_ 5 (by decide)).1, (h.at_ 5 (by decide)).2⟩)
  have D0 := Lib.hid (show Hd W (w.heap.size + 1 + 1) 26 6 W from Hd.start K2.out)
  refine wp_region_held (S := (fun w' => Hd W (w.heap.size + 1 + 1) 26 6 w' ∧ w'.cell? ⟨w.heap.size, 0, none⟩ = some (Value.float FloatKind.f64 a.x.lo) ∧ w'.cell? ⟨w.heap.size, 1, none⟩ = some (Value.float FloatKind.f64 a.x.hi) ∧ w'.cell? ⟨w.heap.size, 2, none⟩ = some (Value.float FloatKind.f64 a.y.lo) ∧ w'.cell? ⟨w.heap.size, 3, none⟩ = some (Value.float FloatKind.f64 a.y.hi) ∧ w'.cell? ⟨w.heap.size, 4, none⟩ = some (Value.float FloatKind.f64 a.z.lo) ∧ w'.cell? ⟨w.heap.size, 5, none⟩ = some (Value.float FloatKind.f64 a.z.hi) ∧ w'.cell? ⟨w.heap.size + 1, 0, none⟩ = some (Value.float FloatKind.f64 b.x.lo) ∧ w'.cell? ⟨w.heap.size + 1, 1, none⟩ = some (Value.float FloatKind.f64 b.x.hi) ∧ w'.cell? ⟨w.heap.size + 1, 2, none⟩ = some (Value.float FloatKind.f64 b.y.lo) ∧ w'.cell? ⟨w.heap.size + 1, 3, none⟩ = some (Value.float FloatKind.f64 b.y.hi) ∧ w'.cell? ⟨w.heap.size + 1, 4, none⟩ = some (Value.float FloatKind.f64 b.z.lo) ∧ w'.cell? ⟨w.heap.size + 1, 5, none⟩ = some (Value.float FloatKind.f64 b.z.hi) ∧ w'.cell? ⟨w.heap.size + 1 + 1, 0, none⟩ = some (cellAt w' ⟨w.heap.size + 1 + 1, 0, none⟩) ∧ w'.frozen? ⟨w.heap.size + 1 + 1, 0, none⟩ = false ∧ w'.cell? ⟨w.heap.size + 1 + 1, 1, none⟩ = some (cellAt w' ⟨w.heap.size + 1 + 1, 1, none⟩) ∧ w'.frozen? ⟨w.heap.size + 1 + 1, 1, none⟩ = false ∧ w'.cell? ⟨w.heap.size + 1 + 1, 2, none⟩ = some (cellAt w' ⟨w.heap.size + 1 + 1, 2, none⟩) ∧ w'.frozen? ⟨w.heap.size + 1 + 1, 2, none⟩ = false ∧ w'.cell? ⟨w.heap.size + 1 + 1, 3, none⟩ = some (cellAt w' ⟨w.heap.size + 1 + 1, 3, none⟩) ∧ w'.frozen? ⟨w.heap.size + 1 + 1, 3, none⟩ = false ∧ w'.cell? ⟨w.heap.size + 1 + 1, 4, none⟩ = some (cellAt w' ⟨w.heap.size + 1 + 1, 4, none⟩) ∧ w'.frozen? ⟨w.heap.size + 1 + 1, 4, none⟩ = false ∧ w'.cell? ⟨w.heap.size + 1 + 1, 5, none⟩ = some (cellAt w' ⟨w.heap.size + 1 + 1, 5, none⟩) ∧ w'.frozen? ⟨w.heap.size + 1 + 1, 5, none⟩ = false)) (by kernel_rfl) ?_
  (try change wpAnyH _ _ _ _ _ _ _ (World.drew _))
  have hS0 := HO.out _ (Hd.drew D0.out)
  refine wpAnyH_takeN (i := 0) (v := ?v1_0x11) (l' := bm 29 1) (a' := ?a1_0x11) rfl (by kernel_rfl) (by kernel_rfl) (by kernel_rfl) (fun _ _ _ h => h) (Or.inl ⟨by kernel_rfl, ?h1_0x11⟩) (by kernel_rfl) ?p1_0x11 hS0 ?r1_0x11
  case h1_0x11 => (intro w hS; go_simp; try with_reducible rfl)
  case p1_0x11 => (go_simp; try with_reducible rfl)
  refine wpAnyH_takeN (i := 1) (v := ?v1_1x11) (l' := bm 29 3) (a' := ?a1_1x11) rfl (by kernel_rfl) (by kernel_rfl) (by kernel_rfl) (fun _ _ _ h => h) (Or.inl ⟨by kernel_rfl, ?h1_1x11⟩) (by kernel_rfl) ?p1_1x11 hS0 ?r1_1x11
  case h1_1x11 => (intro w hS; go_simp; try with_reducible rfl)
  case p1_1x11 => (go_simp; try with_reducible rfl)
  refine wpAnyH_takeN (i := 2) (v := ?v1_2x11) (l' := bm 29 7) (a' := ?a1_2x11) rfl (by kernel_rfl) (by kernel_rfl) (by kernel_rfl) (fun _ _ _ h => h) (Or.inl ⟨by kernel_rfl, ?h1_2x11⟩) (by kernel_rfl) ?p1_2x11 hS0 ?r1_2x11
  case h1_2x11 => (intro w hS; go_simp; try with_reducible rfl)
  case p1_2x11 => (go_simp; try with_reducible rfl)
  refine wpAnyH_takeN (i := 3) (v := ?v1_3x11) (l' := bm 29 15) (a' := ?a1_3x11) rfl (by kernel_rfl) (by kernel_rfl) (by kernel_rfl) (fun _ _ _ h => h) (Or.inl ⟨by kernel_rfl, ?h1_3x11⟩) (by kernel_rfl) ?p1_3x11 hS0 ?r1_3x11
  case h1_3x11 => (intro w hS; go_simp; try with_reducible rfl)
  case p1_3x11 => (go_simp; try with_reducible rfl)
  refine wpAnyH_takeN (i := 4) (v := ?v1_4x11) (l' := bm 29 31) (a' := ?a1_4x11) rfl (by kernel_rfl) (by kernel_rfl) (by kernel_rfl) (fun _ _ _ h => h) (Or.inl ⟨by kernel_rfl, ?h1_4x11⟩) (by kernel_rfl) ?p1_4x11 hS0 ?r1_4x11
  case h1_4x11 => (intro w hS; go_simp; try with_reducible rfl)
  case p1_4x11 => (go_simp; try with_reducible rfl)
  refine wpAnyH_takeN (i := 5) (v := ?v1_5x11) (l' := bm 29 63) (a' := ?a1_5x11) rfl (by kernel_rfl) (by kernel_rfl) (by kernel_rfl) (fun _ _ _ h => h) (Or.inl ⟨by kernel_rfl, ?h1_5x11⟩) (by kernel_rfl) ?p1_5x11 hS0 ?r1_5x11
  case h1_5x11 => (intro w hS; go_simp; try with_reducible rfl)
  case p1_5x11 => (go_simp; try with_reducible rfl)
  refine wpAnyH_takeN (i := 6) (v := ?v1_6x11) (l' := bm 29 127) (a' := ?a1_6x11) rfl (by kernel_rfl) (by kernel_rfl) (by kernel_rfl) (fun _ _ _ h => h) (Or.inl ⟨by kernel_rfl, ?h1_6x11⟩) (by kernel_rfl) ?p1_6x11 hS0 ?r1_6x11
  case h1_6x11 => (intro w hS; go_simp; try with_reducible rfl)
  case p1_6x11 => (go_simp; try with_reducible rfl)
  refine wpAnyH_takeN (i := 7) (v := ?v1_7x11) (l' := bm 29 255) (a' := ?a1_7x11) rfl (by kernel_rfl) (by kernel_rfl) (by kernel_rfl) (fun _ _ _ h => h) (Or.inl ⟨by kernel_rfl, ?h1_7x11⟩) (by kernel_rfl) ?p1_7x11 hS0 ?r1_7x11
  case h1_7x11 => (intro w hS; go_simp; try with_reducible rfl)
  case p1_7x11 => (go_simp; try with_reducible rfl)
  refine wpAnyH_takeN (i := 9) (v := ?v1_9x11) (l' := bm 29 767) (a' := ?a1_9x11) rfl (by kernel_rfl) (by kernel_rfl) (by kernel_rfl) (fun _ _ _ h => h) (Or.inl ⟨by kernel_rfl, ?h1_9x11⟩) (by kernel_rfl) ?p1_9x11 hS0 ?r1_9x11
  case h1_9x11 => (intro w hS; go_simp; try with_reducible rfl)
  case p1_9x11 => (go_simp; try with_reducible rfl)
  refine wpAnyH_takeN (i := 10) (v := ?v1_10x11) (l' := bm 29 1791) (a' := ?a1_10x11) rfl (by kernel_rfl) (by kernel_rfl) (by kernel_rfl) (fun _ _ _ h => h) (Or.inl ⟨by kernel_rfl, ?h1_10x11⟩) (by kernel_rfl) ?p1_10x11 hS0 ?r1_10x11
  case h1_10x11 => (intro w hS; go_simp; try with_reducible rfl)
  case p1_10x11 => (go_simp; try with_reducible rfl)
  refine wpAnyH_takeN (i := 11) (v := ?v1_11x11) (l' := bm 29 3839) (a' := ?a1_11x11) rfl (by kernel_rfl) (by kernel_rfl) (by kernel_rfl) (fun _ _ _ h => h) (Or.inl ⟨by kernel_rfl, ?h1_11x11⟩) (by kernel_rfl) ?p1_11x11 hS0 ?r1_11x11
  case h1_11x11 => (intro w hS; go_simp; try with_reducible rfl)
  case p1_11x11 => (go_simp; try with_reducible rfl)
  refine wpAnyH_takeN (i := 12) (v := ?v1_12x11) (l' := bm 29 7935) (a' := ?a1_12x11) rfl (by kernel_rfl) (by kernel_rfl) (by kernel_rfl) (fun _ _ _ h => h) (Or.inl ⟨by kernel_rfl, ?h1_12x11⟩) (by kernel_rfl) ?p1_12x11 hS0 ?r1_12x11
  case h1_12x11 => (intro w hS; go_simp; try with_reducible rfl)
  case p1_12x11 => (go_simp; try with_reducible rfl)
  refine wpAnyH_takeN (i := 13) (v := ?v1_13x11) (l' := bm 29 16127) (a' := ?a1_13x11) rfl (by kernel_rfl) (by kernel_rfl) (by kernel_rfl) (fun _ _ _ h => h) (Or.inl ⟨by kernel_rfl, ?h1_13x11⟩) (by kernel_rfl) ?p1_13x11 hS0 ?r1_13x11
  case h1_13x11 => (intro w hS; go_simp; try with_reducible rfl)
  case p1_13x11 => (go_simp; try with_reducible rfl)
  refine wpAnyH_takeN (i := 14) (v := ?v1_14x11) (l' := bm 29 32511) (a' := ?a1_14x11) rfl (by kernel_rfl) (by kernel_rfl) (by kernel_rfl) (fun _ _ _ h => h) (Or.inl ⟨by kernel_rfl, ?h1_14x11⟩) (by kernel_rfl) ?p1_14x11 hS0 ?r1_14x11
  case h1_14x11 => (intro w hS; go_simp; try with_reducible rfl)
  case p1_14x11 => (go_simp; try with_reducible rfl)
  refine wpAnyH_takeN (i := 15) (v := ?v1_15x11) (l' := bm 29 65279) (a' := ?a1_15x11) rfl (by kernel_rfl) (by kernel_rfl) (by kernel_rfl) (fun _ _ _ h => h) (Or.inl ⟨by kernel_rfl, ?h1_15x11⟩) (by kernel_rfl) ?p1_15x11 hS0 ?r1_15x11
  case h1_15x11 => (intro w hS; go_simp; try with_reducible rfl)
  case p1_15x11 => (go_simp; try with_reducible rfl)
  refine wpAnyH_takeN (i := 16) (v := ?v1_16x11) (l' := bm 29 130815) (a' := ?a1_16x11) rfl (by kernel_rfl) (by kernel_rfl) (by kernel_rfl) (fun _ _ _ h => h) (Or.inl ⟨by kernel_rfl, ?h1_16x11⟩) (by kernel_rfl) ?p1_16x11 hS0 ?r1_16x11
  case h1_16x11 => (intro w hS; go_simp; try with_reducible rfl)
  case p1_16x11 => (go_simp; try with_reducible rfl)
  refine wpAnyH_takeN (i := 18) (v := ?v1_18x11) (l' := bm 29 392959) (a' := ?a1_18x11) rfl (by kernel_rfl) (by kernel_rfl) (by kernel_rfl) (fun _ _ _ h => h) (Or.inl ⟨by kernel_rfl, ?h1_18x11⟩) (by kernel_rfl) ?p1_18x11 hS0 ?r1_18x11
  case h1_18x11 => (intro w hS; go_simp; try with_reducible rfl)
  case p1_18x11 => (go_simp; try with_reducible rfl)
  refine wpAnyH_takeN (i := 19) (v := ?v1_19x11) (l' := bm 29 917247) (a' := ?a1_19x11) rfl (by kernel_rfl) (by kernel_rfl) (by kernel_rfl) (fun _ _ _ h => h) (Or.inl ⟨by kernel_rfl, ?h1_19x11⟩) (by kernel_rfl) ?p1_19x11 hS0 ?r1_19x11
  case h1_19x11 => (intro w hS; go_simp; try with_reducible rfl)
  case p1_19x11 => (go_simp; try with_reducible rfl)
  refine wpAnyH_takeN (i := 20) (v := ?v1_20x11) (l' := bm 29 1965823) (a' := ?a1_20x11) rfl (by kernel_rfl) (by kernel_rfl) (by kernel_rfl) (fun _ _ _ h => h) (Or.inl ⟨by kernel_rfl, ?h1_20x11⟩) (by kernel_rfl) ?p1_20x11 hS0 ?r1_20x11
  case h1_20x11 => (intro w hS; go_simp; try with_reducible rfl)
  case p1_20x11 => (go_simp; try with_reducible rfl)
  refine wpAnyH_takeN (i := 21) (v := ?v1_21x11) (l' := bm 29 4062975) (a' := ?a1_21x11) rfl (by kernel_rfl) (by kernel_rfl) (by kernel_rfl) (fun _ _ _ h => h) (Or.inl ⟨by kernel_rfl, ?h1_21x11⟩) (by kernel_rfl) ?p1_21x11 hS0 ?r1_21x11
  case h1_21x11 => (intro w hS; go_simp; try with_reducible rfl)
  case p1_21x11 => (go_simp; try with_reducible rfl)
  refine wpAnyH_takeN (i := 22) (v := ?v1_22x11) (l' := bm 29 8257279) (a' := ?a1_22x11) rfl (by kernel_rfl) (by kernel_rfl) (by kernel_rfl) (fun _ _ _ h => h) (Or.inl ⟨by kernel_rfl, ?h1_22x11⟩) (by kernel_rfl) ?p1_22x11 hS0 ?r1_22x11
  case h1_22x11 => (intro w hS; go_simp; try with_reducible rfl)
  case p1_22x11 => (go_simp; try with_reducible rfl)
  refine wpAnyH_takeN (i := 23) (v := ?v1_23x11) (l' := bm 29 16645887) (a' := ?a1_23x11) rfl (by kernel_rfl) (by kernel_rfl) (by kernel_rfl) (fun _ _ _ h => h) (Or.inl ⟨by kernel_rfl, ?h1_23x11⟩) (by kernel_rfl) ?p1_23x11 hS0 ?r1_23x11
  case h1_23x11 => (intro w hS; go_simp; try with_reducible rfl)
  case p1_23x11 => (go_simp; try with_reducible rfl)
  refine wpAnyH_takeN (i := 24) (v := ?v1_24x11) (l' := bm 29 33423103) (a' := ?a1_24x11) rfl (by kernel_rfl) (by kernel_rfl) (by kernel_rfl) (fun _ _ _ h => h) (Or.inl ⟨by kernel_rfl, ?h1_24x11⟩) (by kernel_rfl) ?p1_24x11 hS0 ?r1_24x11
  case h1_24x11 => (intro w hS; go_simp; try with_reducible rfl)
  case p1_24x11 => (go_simp; try with_reducible rfl)
  refine wpAnyH_takeN (i := 25) (v := ?v1_25x11) (l' := bm 29 66977535) (a' := ?a1_25x11) rfl (by kernel_rfl) (by kernel_rfl) (by kernel_rfl) (fun _ _ _ h => h) (Or.inl ⟨by kernel_rfl, ?h1_25x11⟩) (by kernel_rfl) ?p1_25x11 hS0 ?r1_25x11
  case h1_25x11 => (intro w hS; go_simp; try with_reducible rfl)
  case p1_25x11 => (go_simp; try with_reducible rfl)
  refine wpAnyH_oneN (i := 8) (l' := bm 29 66977791) rfl (by kernel_rfl) (by kernel_rfl) (by kernel_rfl) (fun K hK => ?_)
  have hP := hS0.1
  go_simp
  go_at_call 92
  refine (C0.out _).mono ?_
  rintro r w1 ⟨rfl, hb⟩
  dsimp only
  have D1 := Lib.hid (Hd.call hP hb)
  clear hb
  have hS1 := HO.out _ (D1.out)
  clear hP hS0
  refine hK _ _ hS1 ?_
  clear hK K
  refine wpAnyH_oneN (i := 17) (l' := bm 29 67108863) rfl (by kernel_rfl) (by kernel_rfl) (by kernel_rfl) (fun K hK => ?_)
  have hP := hS1.1
  go_simp
  go_at_call 92
  refine (C1.out _).mono ?_
  rintro r w2 ⟨rfl, hb⟩
  dsimp only
  have D2 := Lib.hid (Hd.call hP hb)
  clear hb
  have hS2 := HO.out _ (D2.out)
  clear hP hS1
  refine hK _ _ hS2 ?_
  clear hK K
  refine wpAnyH_oneN (i := 26) (l' := bm 29 134217727) rfl (by kernel_rfl) (by kernel_rfl) (by kernel_rfl) (fun K hK => ?_)
  have hP := hS2.1
  go_simp
  go_at_call 92
  refine (C2.out _).mono ?_
  rintro r w3 ⟨rfl, hb⟩
  dsimp only
  have D3 := Lib.hid (Hd.call hP hb)
  clear hb
  have hS3 := HO.out _ (D3.out)
  clear hP hS2
  refine hK _ _ hS3 ?_
  clear hK K
  refine wpAnyH_takeN (i := 27) (v := ?v1_27x11) (l' := bm 29 268435455) (a' := ?a1_27x11) rfl (by kernel_rfl) (by kernel_rfl) (by kernel_rfl) (fun _ _ _ h => h) (Or.inl ⟨by kernel_rfl, ?h1_27x11⟩) (by kernel_rfl) ?p1_27x11 hS3 ?r1_27x11
  case h1_27x11 => (intro w hS; go_simp; try with_reducible rfl)
  case p1_27x11 => (go_simp; try with_reducible rfl)
  refine wpAnyH_oneN (i := 28) (l' := bm 29 536870911) rfl (by kernel_rfl) (by kernel_rfl) (by kernel_rfl) (fun K hK => ?_)
  have hP := hS3.1
  go_simp
  have hS4 := HO.out _ ((Hd.set (Hd.set (Hd.set (Hd.set (Hd.set (Hd.set hP 0 (Value.float FloatKind.f64 p0.lo)) 1 (Value.float FloatKind.f64 p0.hi)) 2 (Value.float FloatKind.f64 p1.lo)) 3 (Value.float FloatKind.f64 p1.hi)) 4 (Value.float FloatKind.f64 p2.lo)) 5 (Value.float FloatKind.f64 p2.hi)))
  clear hP hS3
  refine hK _ _ hS4 ?_
  clear hK K
  refine wpAnyH_done (by kernel_rfl) ?_ _
  have hF := hS4.1
  clear hS4
  go_wp2_with fail
  (try simp only [Exit.inBlock, Exit.then])
  refine bodyPost_ret (resV rfl _ _ (w.heap.size + 1 + 1) (Value.float FloatKind.f64 p0.lo) (Value.float FloatKind.f64 p0.hi) (Value.float FloatKind.f64 p1.lo) (Value.float FloatKind.f64 p1.hi) (Value.float FloatKind.f64 p2.lo) (Value.float FloatKind.f64 p2.hi) rfl (Hd.wrote6 hF)) rfl ⟨rfl, Hd.below hF HB.out (by omega)⟩
end Go.Proofs.Ytdgaaceebghcpaa
