/- Vectors of spans: lengths, frames and guards. -/
import Derived.Test.YtdgaaceebghcpaaTc
import Derived.Test.YtdgaaceebghcpaaGr
import Derived.Test.YtdgaaceebghcpaaYd
import Derived.Test.YtdgaaceebghcpaaYe
import Derived.Test.YtdgaaceebghcpaaSf
set_option linter.unusedVariables false
set_option linter.unusedSimpArgs false
namespace Go.Proofs.Ytdgaaceebghcpaa
open Go.RowKit Fl

abbrev ac (m : Af) : Array Value := #[Value.float FloatKind.f64 m.a.x.lo, Value.float FloatKind.f64 m.a.x.hi, Value.float FloatKind.f64 m.a.y.lo, Value.float FloatKind.f64 m.a.y.hi, Value.float FloatKind.f64 m.a.z.lo, Value.float FloatKind.f64 m.a.z.hi, Value.float FloatKind.f64 m.b.x.lo, Value.float FloatKind.f64 m.b.x.hi, Value.float FloatKind.f64 m.b.y.lo, Value.float FloatKind.f64 m.b.y.hi, Value.float FloatKind.f64 m.b.z.lo, Value.float FloatKind.f64 m.b.z.hi, Value.float FloatKind.f64 m.c.x.lo, Value.float FloatKind.f64 m.c.x.hi, Value.float FloatKind.f64 m.c.y.lo, Value.float FloatKind.f64 m.c.y.hi, Value.float FloatKind.f64 m.c.z.lo, Value.float FloatKind.f64 m.c.z.hi, Value.float FloatKind.f64 m.t.x.lo, Value.float FloatKind.f64 m.t.x.hi, Value.float FloatKind.f64 m.t.y.lo, Value.float FloatKind.f64 m.t.y.hi, Value.float FloatKind.f64 m.t.z.lo, Value.float FloatKind.f64 m.t.z.hi]
abbrev vc (a : V3) : Array Value := #[Value.float FloatKind.f64 a.x.lo, Value.float FloatKind.f64 a.x.hi, Value.float FloatKind.f64 a.y.lo, Value.float FloatKind.f64 a.y.hi, Value.float FloatKind.f64 a.z.lo, Value.float FloatKind.f64 a.z.hi]
/-- Stores into neighbouring cells. -/
def setCells (w : World) (g : Nat) : Nat → List Value → World
  | _, [] => w
  | i, v :: vs => setCells (w.setCell ⟨g, i, none⟩ v) g (i + 1) vs
def setL (cs : Array Value) : Nat → List Value → Array Value
  | _, [] => cs
  | i, v :: vs => setL (cs.setIfInBounds i v) (i + 1) vs
theorem Blk.setL' {g : Nat} {t : TypeId} (vs : List Value) : ∀ {w : World} {cs : Array Value} (h : Blk w g t cs) (i : Nat), Blk (setCells w g i vs) g t (Go.Proofs.Ytdgaaceebghcpaa.setL cs i vs) := by
  induction vs with
  | nil => intro w cs h i; exact h
  | cons v vs ih => intro w cs h i; exact ih (h.set_ i v) (i + 1)
theorem Blk.setL {w : World} {g : Nat} {t : TypeId} {cs : Array Value} (h : Blk w g t cs) (i : Nat) (vs : List Value) : Blk (setCells w g i vs) g t (Go.Proofs.Ytdgaaceebghcpaa.setL cs i vs) := Blk.setL' vs h i
theorem Blk.farL' {g g' : Nat} {t : TypeId} {cs : Array Value} (hg : g ≠ g') (vs : List Value) : ∀ {w : World} (h : Blk w g t cs) (i : Nat), Blk (setCells w g' i vs) g t cs := by
  induction vs with
  | nil => intro w h i; exact h
  | cons v vs ih => intro w h i; exact ih (h.far (p := ⟨g', i, none⟩) hg v) (i + 1)
theorem Blk.farL {w : World} {g g' : Nat} {t : TypeId} {cs : Array Value} (h : Blk w g t cs) (hg : g ≠ g') (i : Nat) (vs : List Value) : Blk (setCells w g' i vs) g t cs := Blk.farL' hg vs h i
theorem Below.setL' {B g : Nat} {a : World} (hg : B ≤ g) (vs : List Value) : ∀ {w : World} (h : Below B a w) (i : Nat), Below B a (setCells w g i vs) := by
  induction vs with
  | nil => intro w h i; exact h
  | cons v vs ih => intro w h i; exact ih (h.setCell (p := ⟨g, i, none⟩) hg v) (i + 1)
theorem Below.setL {B g : Nat} {a w : World} (h : Below B a w) (hg : B ≤ g) (i : Nat) (vs : List Value) : Below B a (setCells w g i vs) := Below.setL' hg vs h i
/-- So many cells are known. -/
def CellsAt (w : World) (g : Nat) (cs : Array Value) : Nat → Nat → Prop
  | _, 0 => True
  | i, n + 1 => w.cell? ⟨g, i, none⟩ = cs[i]? ∧ CellsAt w g cs (i + 1) n
theorem Blk.cells {w : World} {g : Nat} {t : TypeId} {cs : Array Value} (h : Blk w g t cs) (i n : Nat) (hn : i + n ≤ cs.size) : CellsAt w g cs i n := by
  induction n generalizing i with
  | zero => trivial
  | succ n ih => exact ⟨h.cell i, ih (i + 1) (by omega)⟩
theorem info_V3 : (Try.prog.info? 26).map (·.size) = some 6 := by kernel_rfl
theorem info_Span : (Try.prog.info? 24).map (·.size) = some 2 := by kernel_rfl
def isRow : TypeDesc → Bool
  | .struct _ | .array _ _ => true
  | _ => false
theorem run_row (w : World) (g : Nat) (t ty : TypeId) (cs : Array Value) (d : TypeDesc) (hg : w.heap[g]? = some (.cells cs t (0, 0))) (hu : Try.prog.underlying ty = some d) (hd : isRow d = true) (hi : (Try.prog.info? ty).map (·.size) = some cs.size) :
    (loadVar ty ⟨g, 0, none⟩).run Try.prog w = .ok (.agg cs) w :=
  run_loadVar_row w g t ty cs (0, 0) d hg hu (by cases d <;> simp_all [isRow]) hi
section
variable {fn : Func} {p q r : Tmp} {ta tb : TypeId}
theorem res_c (h : fn.results = #[.cell p ta]) (tmps : Array Value) (w : World) (g : Nat) (cs : Array Value) {t : TypeId} {d : TypeDesc}
    (hp : tmps.getD p undef = .pointer (some ⟨g, 0, none⟩)) (hg : Blk w g t cs) (hi : (Try.prog.info? ta).map (·.size) = some cs.size) (hu : Try.prog.underlying ta = some d) (hd : isRow d = true) :
    (results fn tmps).run Try.prog w = .ok (.agg cs) w := by
  have e1 : tmps[p]?.getD undef = .pointer (some ⟨g, 0, none⟩) := by simpa using hp
  simp [results, h, e1, asAddr, run_row w g t ta cs d hg hu hd hi]
theorem res_cc (h : fn.results = #[.cell p ta, .cell q tb]) (tmps : Array Value) (w : World) (g : Nat) (cs : Array Value) (g' : Nat) (cs' : Array Value) {t t' : TypeId} {d d' : TypeDesc}
    (hp : tmps.getD p undef = .pointer (some ⟨g, 0, none⟩)) (hg : Blk w g t cs) (hi : (Try.prog.info? ta).map (·.size) = some cs.size) (hu : Try.prog.underlying ta = some d) (hd : isRow d = true)
    (hp' : tmps.getD q undef = .pointer (some ⟨g', 0, none⟩)) (hg' : Blk w g' t' cs') (hi' : (Try.prog.info? tb).map (·.size) = some cs'.size) (hu' : Try.prog.underlying tb = some d') (hd' : isRow d' = true) :
    (results fn tmps).run Try.prog w = .ok (.tuple #[.agg cs, .agg cs']) w := by
  have e1 : tmps[p]?.getD undef = .pointer (some ⟨g, 0, none⟩) := by simpa using hp
  have e2 : tmps[q]?.getD undef = .pointer (some ⟨g', 0, none⟩) := by simpa using hp'
  simp [results, h, e1, e2, asAddr, run_row w g t ta cs d hg hu hd hi, run_row w g' t' tb cs' d' hg' hu' hd' hi']
theorem res_cct (h : fn.results = #[.cell p ta, .cell q tb, .tmp r]) (tmps : Array Value) (w : World) (g : Nat) (cs : Array Value) (g' : Nat) (cs' : Array Value) {t t' : TypeId} {d d' : TypeDesc}
    (hp : tmps.getD p undef = .pointer (some ⟨g, 0, none⟩)) (hg : Blk w g t cs) (hi : (Try.prog.info? ta).map (·.size) = some cs.size) (hu : Try.prog.underlying ta = some d) (hd : isRow d = true)
    (hp' : tmps.getD q undef = .pointer (some ⟨g', 0, none⟩)) (hg' : Blk w g' t' cs') (hi' : (Try.prog.info? tb).map (·.size) = some cs'.size) (hu' : Try.prog.underlying tb = some d') (hd' : isRow d' = true) :
    (results fn tmps).run Try.prog w = .ok (.tuple #[.agg cs, .agg cs', tmps.getD r undef]) w := by
  have e1 : tmps[p]?.getD undef = .pointer (some ⟨g, 0, none⟩) := by simpa using hp
  have e2 : tmps[q]?.getD undef = .pointer (some ⟨g', 0, none⟩) := by simpa using hp'
  simp [results, h, e1, e2, asAddr, run_row w g t ta cs d hg hu hd hi, run_row w g' t' tb cs' d' hg' hu' hd' hi']
theorem res_ct (h : fn.results = #[.cell p ta, .tmp r]) (tmps : Array Value) (w : World) (g : Nat) (cs : Array Value) {t : TypeId} {d : TypeDesc}
    (hp : tmps.getD p undef = .pointer (some ⟨g, 0, none⟩)) (hg : Blk w g t cs) (hi : (Try.prog.info? ta).map (·.size) = some cs.size) (hu : Try.prog.underlying ta = some d) (hd : isRow d = true) :
    (results fn tmps).run Try.prog w = .ok (.tuple #[.agg cs, tmps.getD r undef]) w := by
  have e1 : tmps[p]?.getD undef = .pointer (some ⟨g, 0, none⟩) := by simpa using hp
  simp [results, h, e1, asAddr, run_row w g t ta cs d hg hu hd hi]
end
theorem bx5 (w : World) (t1 t2 t3 t4 t5 : TypeId) (c1 c2 c3 c4 c5 : Array Value) : ∃ W, W = ((((w.alloc (.cells c1 t1)).alloc (.cells c2 t2)).alloc (.cells c3 t3)).alloc (.cells c4 t4)).alloc (.cells c5 t5) ∧ Blk W w.heap.size t1 c1 ∧ Blk W (w.heap.size + 1) t2 c2 ∧ Blk W (w.heap.size + 1 + 1) t3 c3 ∧ Blk W (w.heap.size + 1 + 1 + 1) t4 c4 ∧ Blk W (w.heap.size + 1 + 1 + 1 + 1) t5 c5 ∧ Below w.heap.size w W ∧ W.heap.size = w.heap.size + 1 + 1 + 1 + 1 + 1 := by
  obtain ⟨W, rfl, k0, k1, k2, k3, hb, hz⟩ := bx4 w t1 t2 t3 t4 c1 c2 c3 c4
  exact ⟨_, rfl, k0.alloc _, k1.alloc _, k2.alloc _, k3.alloc _, Blk.new_at _ _ _ hz.symm, hb.alloc (by omega) _, by simp⟩
set_option maxRecDepth 100000 in
set_option maxHeartbeats 8000000 in
theorem rsameV_self (a : V3) (w : World) : Calls Try.prog 23 #[Value.agg #[.float .f64 a.x.lo, .float .f64 a.x.hi, .float .f64 a.y.lo, .float .f64 a.y.hi, .float .f64 a.z.lo, .float .f64 a.z.hi], Value.agg #[.float .f64 a.x.lo, .float .f64 a.x.hi, .float .f64 a.y.lo, .float .f64 a.y.hi, .float .f64 a.z.lo, .float .f64 a.z.hi]] w fun r w' => r = .returned (.bool true) ∧ Below w.heap.size w w' := by
  have C0 := Lib.hid (fun w => rsame_sp a.x w)
  have C1 := Lib.hid (fun w => rsame_sp a.y w)
  have C2 := Lib.hid (fun w => rsame_sp a.z w)
  go_enter Try.func23, Try.ntmps23
  go_wp2_with fail
  obtain ⟨W, hW, K0, K1, hB, hz⟩ := bx2 w 26 26 (vc a) (vc a)
  rw [← hW]
  have K0 := Lib.hid K0
  have K1 := Lib.hid K1
  have HB := Lib.hid hB
  clear hW hB hz
  have D1 := Lib.hid (Below.refl W.heap.size W)
  refine (C0.out _).mono ?_
  rintro r w2 ⟨rfl, hb⟩
  have D3 := Lib.hid (below_step D1.out hb)
  clear D1
  clear hb
  have hq4 := (K0.out.below D3.out K0.out.lt).cells 2 2 (Nat.le_of_ble_eq_true rfl)
  simp only [CellsAt, ac, vc, Nat.reduceAdd, List.size_toArray, List.getElem?_toArray, List.getElem?_cons_succ, List.getElem?_cons_zero] at hq4
  have hq5 := (K1.out.below D3.out K1.out.lt).cells 2 2 (Nat.le_of_ble_eq_true rfl)
  simp only [CellsAt, ac, vc, Nat.reduceAdd, List.size_toArray, List.getElem?_toArray, List.getElem?_cons_succ, List.getElem?_cons_zero] at hq5
  go_wp2_with fail
  clear hq4 hq5
  refine (C1.out _).mono ?_
  rintro r w6 ⟨rfl, hb⟩
  have D7 := Lib.hid (below_step D3.out hb)
  clear D3
  clear hb
  have hq8 := (K0.out.below D7.out K0.out.lt).cells 4 2 (Nat.le_of_ble_eq_true rfl)
  simp only [CellsAt, ac, vc, Nat.reduceAdd, List.size_toArray, List.getElem?_toArray, List.getElem?_cons_succ, List.getElem?_cons_zero] at hq8
  have hq9 := (K1.out.below D7.out K1.out.lt).cells 4 2 (Nat.le_of_ble_eq_true rfl)
  simp only [CellsAt, ac, vc, Nat.reduceAdd, List.size_toArray, List.getElem?_toArray, List.getElem?_cons_succ, List.getElem?_cons_zero] at hq9
  go_wp2_with fail
  clear hq8 hq9
  refine (C2.out _).mono ?_
  rintro r w10 ⟨rfl, hb⟩
  have D11 := Lib.hid (below_step D7.out hb)
  clear D7
  clear hb
  go_wp2_with fail
  go_ret
  exact ⟨rfl, below_step HB.out D11.out⟩
set_option maxRecDepth 100000 in
set_option maxHeartbeats 8000000 in
theorem rvalidV_f (a0 a1 b0 b1 c0 c1 : Nat) (ha0 : a0 < 18446744073709551616) (ha1 : a1 < 18446744073709551616) (hb0 : b0 < 18446744073709551616) (hb1 : b1 < 18446744073709551616) (hc0 : c0 < 18446744073709551616) (hc1 : c1 < 18446744073709551616) (v0 : vdB a0 a1 = false) (w : World) : Calls Try.prog 15 #[Value.agg #[.float .f64 a0, .float .f64 a1, .float .f64 b0, .float .f64 b1, .float .f64 c0, .float .f64 c1]] w fun r w' => r = .returned (.bool false) ∧ Below w.heap.size w w' := by
  have C0 := Lib.hid (fun w => rvalid_any a0 a1 ha0 ha1 w)
  rw [v0] at C0
  go_enter Try.func15, Try.ntmps15
  go_wp2_with fail
  obtain ⟨W, hW, K0, hB, hz⟩ := bx1 w 26 #[.float .f64 a0, .float .f64 a1, .float .f64 b0, .float .f64 b1, .float .f64 c0, .float .f64 c1]
  rw [← hW]
  have K0 := Lib.hid K0
  have HB := Lib.hid hB
  clear hW hB hz
  have D1 := Lib.hid (Below.refl W.heap.size W)
  refine (C0.out _).mono ?_
  rintro r w2 ⟨rfl, hb⟩
  have D3 := Lib.hid (below_step D1.out hb)
  clear D1
  clear hb
  go_wp2_with fail
  go_ret
  exact ⟨rfl, below_step HB.out D3.out⟩
set_option maxRecDepth 100000 in
set_option maxHeartbeats 8000000 in
theorem rvalidV_tf (a0 a1 b0 b1 c0 c1 : Nat) (ha0 : a0 < 18446744073709551616) (ha1 : a1 < 18446744073709551616) (hb0 : b0 < 18446744073709551616) (hb1 : b1 < 18446744073709551616) (hc0 : c0 < 18446744073709551616) (hc1 : c1 < 18446744073709551616) (v0 : vdB a0 a1 = true) (v1 : vdB b0 b1 = false) (w : World) : Calls Try.prog 15 #[Value.agg #[.float .f64 a0, .float .f64 a1, .float .f64 b0, .float .f64 b1, .float .f64 c0, .float .f64 c1]] w fun r w' => r = .returned (.bool false) ∧ Below w.heap.size w w' := by
  have C0 := Lib.hid (fun w => rvalid_any a0 a1 ha0 ha1 w)
  rw [v0] at C0
  have C1 := Lib.hid (fun w => rvalid_any b0 b1 hb0 hb1 w)
  rw [v1] at C1
  go_enter Try.func15, Try.ntmps15
  go_wp2_with fail
  obtain ⟨W, hW, K0, hB, hz⟩ := bx1 w 26 #[.float .f64 a0, .float .f64 a1, .float .f64 b0, .float .f64 b1, .float .f64 c0, .float .f64 c1]
  rw [← hW]
  have K0 := Lib.hid K0
  have HB := Lib.hid hB
  clear hW hB hz
  have D1 := Lib.hid (Below.refl W.heap.size W)
  refine (C0.out _).mono ?_
  rintro r w2 ⟨rfl, hb⟩
  have D3 := Lib.hid (below_step D1.out hb)
  clear D1
  clear hb
  have hq4 := (K0.out.below D3.out K0.out.lt).cells 2 2 (Nat.le_of_ble_eq_true rfl)
  simp only [CellsAt, ac, vc, Nat.reduceAdd, List.size_toArray, List.getElem?_toArray, List.getElem?_cons_succ, List.getElem?_cons_zero] at hq4
  go_wp2_with fail
  clear hq4
  refine (C1.out _).mono ?_
  rintro r w5 ⟨rfl, hb⟩
  have D6 := Lib.hid (below_step D3.out hb)
  clear D3
  clear hb
  go_wp2_with fail
  go_ret
  exact ⟨rfl, below_step HB.out D6.out⟩
set_option maxRecDepth 100000 in
set_option maxHeartbeats 8000000 in
theorem rvalidV_ttf (a0 a1 b0 b1 c0 c1 : Nat) (ha0 : a0 < 18446744073709551616) (ha1 : a1 < 18446744073709551616) (hb0 : b0 < 18446744073709551616) (hb1 : b1 < 18446744073709551616) (hc0 : c0 < 18446744073709551616) (hc1 : c1 < 18446744073709551616) (v0 : vdB a0 a1 = true) (v1 : vdB b0 b1 = true) (v2 : vdB c0 c1 = false) (w : World) : Calls Try.prog 15 #[Value.agg #[.float .f64 a0, .float .f64 a1, .float .f64 b0, .float .f64 b1, .float .f64 c0, .float .f64 c1]] w fun r w' => r = .returned (.bool false) ∧ Below w.heap.size w w' := by
  have C0 := Lib.hid (fun w => rvalid_any a0 a1 ha0 ha1 w)
  rw [v0] at C0
  have C1 := Lib.hid (fun w => rvalid_any b0 b1 hb0 hb1 w)
  rw [v1] at C1
  have C2 := Lib.hid (fun w => rvalid_any c0 c1 hc0 hc1 w)
  rw [v2] at C2
  go_enter Try.func15, Try.ntmps15
  go_wp2_with fail
  obtain ⟨W, hW, K0, hB, hz⟩ := bx1 w 26 #[.float .f64 a0, .float .f64 a1, .float .f64 b0, .float .f64 b1, .float .f64 c0, .float .f64 c1]
  rw [← hW]
  have K0 := Lib.hid K0
  have HB := Lib.hid hB
  clear hW hB hz
  have D1 := Lib.hid (Below.refl W.heap.size W)
  refine (C0.out _).mono ?_
  rintro r w2 ⟨rfl, hb⟩
  have D3 := Lib.hid (below_step D1.out hb)
  clear D1
  clear hb
  have hq4 := (K0.out.below D3.out K0.out.lt).cells 2 2 (Nat.le_of_ble_eq_true rfl)
  simp only [CellsAt, ac, vc, Nat.reduceAdd, List.size_toArray, List.getElem?_toArray, List.getElem?_cons_succ, List.getElem?_cons_zero] at hq4
  go_wp2_with fail
  clear hq4
  refine (C1.out _).mono ?_
  rintro r w5 ⟨rfl, hb⟩
  have D6 := Lib.hid (below_step D3.out hb)
  clear D3
  clear hb
  have hq7 := (K0.out.below D6.out K0.out.lt).cells 4 2 (Nat.le_of_ble_eq_true rfl)
  simp only [CellsAt, ac, vc, Nat.reduceAdd, List.size_toArray, List.getElem?_toArray, List.getElem?_cons_succ, List.getElem?_cons_zero] at hq7
  go_wp2_with fail
  clear hq7
  refine (C2.out _).mono ?_
  rintro r w8 ⟨rfl, hb⟩
  have D9 := Lib.hid (below_step D6.out hb)
  clear D6
  clear hb
  go_wp2_with fail
  go_ret
  exact ⟨rfl, below_step HB.out D9.out⟩
set_option maxRecDepth 100000 in
set_option maxHeartbeats 8000000 in
theorem rvalidV_ttt (a0 a1 b0 b1 c0 c1 : Nat) (ha0 : a0 < 18446744073709551616) (ha1 : a1 < 18446744073709551616) (hb0 : b0 < 18446744073709551616) (hb1 : b1 < 18446744073709551616) (hc0 : c0 < 18446744073709551616) (hc1 : c1 < 18446744073709551616) (v0 : vdB a0 a1 = true) (v1 : vdB b0 b1 = true) (v2 : vdB c0 c1 = true) (w : World) : Calls Try.prog 15 #[Value.agg #[.float .f64 a0, .float .f64 a1, .float .f64 b0, .float .f64 b1, .float .f64 c0, .float .f64 c1]] w fun r w' => r = .returned (.bool true) ∧ Below w.heap.size w w' := by
  have C0 := Lib.hid (fun w => rvalid_any a0 a1 ha0 ha1 w)
  rw [v0] at C0
  have C1 := Lib.hid (fun w => rvalid_any b0 b1 hb0 hb1 w)
  rw [v1] at C1
  have C2 := Lib.hid (fun w => rvalid_any c0 c1 hc0 hc1 w)
  rw [v2] at C2
  go_enter Try.func15, Try.ntmps15
  go_wp2_with fail
  obtain ⟨W, hW, K0, hB, hz⟩ := bx1 w 26 #[.float .f64 a0, .float .f64 a1, .float .f64 b0, .float .f64 b1, .float .f64 c0, .float .f64 c1]
  rw [← hW]
  have K0 := Lib.hid K0
  have HB := Lib.hid hB
  clear hW hB hz
  have D1 := Lib.hid (Below.refl W.heap.size W)
  refine (C0.out _).mono ?_
  rintro r w2 ⟨rfl, hb⟩
  have D3 := Lib.hid (below_step D1.out hb)
  clear D1
  clear hb
  have hq4 := (K0.out.below D3.out K0.out.lt).cells 2 2 (Nat.le_of_ble_eq_true rfl)
  simp only [CellsAt, ac, vc, Nat.reduceAdd, List.size_toArray, List.getElem?_toArray, List.getElem?_cons_succ, List.getElem?_cons_zero] at hq4
  go_wp2_with fail
  clear hq4
  refine (C1.out _).mono ?_
  rintro r w5 ⟨rfl, hb⟩
  have D6 := Lib.hid (below_step D3.out hb)
  clear D3
  clear hb
  have hq7 := (K0.out.below D6.out K0.out.lt).cells 4 2 (Nat.le_of_ble_eq_true rfl)
  simp only [CellsAt, ac, vc, Nat.reduceAdd, List.size_toArray, List.getElem?_toArray, List.getElem?_cons_succ, List.getElem?_cons_zero] at hq7
  go_wp2_with fail
  clear hq7
  refine (C2.out _).mono ?_
  rintro r w8 ⟨rfl, hb⟩
  have D9 := Lib.hid (below_step D6.out hb)
  clear D6
  clear hb
  go_wp2_with fail
  go_ret
  exact ⟨rfl, below_step HB.out D9.out⟩
def vdV (a0 a1 b0 b1 c0 c1 : Nat) : Bool := vdB a0 a1 && vdB b0 b1 && vdB c0 c1
theorem rvalidV_any (a0 a1 b0 b1 c0 c1 : Nat) (ha0 : a0 < 18446744073709551616) (ha1 : a1 < 18446744073709551616) (hb0 : b0 < 18446744073709551616) (hb1 : b1 < 18446744073709551616) (hc0 : c0 < 18446744073709551616) (hc1 : c1 < 18446744073709551616) (w : World) : Calls Try.prog 15 #[.agg #[.float .f64 a0, .float .f64 a1, .float .f64 b0, .float .f64 b1, .float .f64 c0, .float .f64 c1]] w fun r w' => r = .returned (.bool (vdV a0 a1 b0 b1 c0 c1)) ∧ Below w.heap.size w w' := by
  unfold vdV
  cases h1 : vdB a0 a1
  · exact rvalidV_f a0 a1 b0 b1 c0 c1 ha0 ha1 hb0 hb1 hc0 hc1 h1 w
  · cases h2 : vdB b0 b1
    · exact rvalidV_tf a0 a1 b0 b1 c0 c1 ha0 ha1 hb0 hb1 hc0 hc1 h1 h2 w
    · cases h3 : vdB c0 c1
      · exact rvalidV_ttf a0 a1 b0 b1 c0 c1 ha0 ha1 hb0 hb1 hc0 hc1 h1 h2 h3 w
      · exact rvalidV_ttt a0 a1 b0 b1 c0 c1 ha0 ha1 hb0 hb1 hc0 hc1 h1 h2 h3 w
theorem rvalidV_v (a : V3) (w : World) : Calls Try.prog 15 #[vval a] w fun r w' => r = .returned (.bool true) ∧ Below w.heap.size w w' :=
  rvalidV_ttt _ _ _ _ _ _ a.x.vd.l.lt a.x.vd.h.lt a.y.vd.l.lt a.y.vd.h.lt a.z.vd.l.lt a.z.vd.h.lt (vdB_of a.x.vd) (vdB_of a.y.vd) (vdB_of a.z.vd) w
theorem v3_of {a0 a1 b0 b1 c0 c1 : Nat} (ha0 : a0 < 18446744073709551616) (ha1 : a1 < 18446744073709551616) (hb0 : b0 < 18446744073709551616) (hb1 : b1 < 18446744073709551616) (hc0 : c0 < 18446744073709551616) (hc1 : c1 < 18446744073709551616) (h : vdV a0 a1 b0 b1 c0 c1 = true) :
    ∃ a : V3, a.x.lo = a0 ∧ a.x.hi = a1 ∧ a.y.lo = b0 ∧ a.y.hi = b1 ∧ a.z.lo = c0 ∧ a.z.hi = c1 := by
  unfold vdV at h
  have ⟨⟨h1, h2⟩, h3⟩ : (vdB a0 a1 = true ∧ vdB b0 b1 = true) ∧ vdB c0 c1 = true := by simpa using h
  exact ⟨⟨⟨a0, a1, vdB_true ha0 ha1 h1⟩, ⟨b0, b1, vdB_true hb0 hb1 h2⟩, ⟨c0, c1, vdB_true hc0 hc1 h3⟩⟩, rfl, rfl, rfl, rfl, rfl, rfl⟩
set_option maxRecDepth 100000 in
set_option maxHeartbeats 8000000 in
theorem rscaleV_any (a : V3) (s : Sp) (w : World) : Calls Try.prog 46 #[Value.agg #[.float .f64 a.x.lo, .float .f64 a.x.hi, .float .f64 a.y.lo, .float .f64 a.y.hi, .float .f64 a.z.lo, .float .f64 a.z.hi], Value.agg #[.float .f64 s.lo, .float .f64 s.hi]] w fun r w' => r = .returned (vval (vMul a ⟨s, s, s⟩)) ∧ Below w.heap.size w w' := by
  have C0 := Lib.hid (fun w => rall3_any s w)
  have C1 := Lib.hid (fun w => rmulV_any a (⟨s, s, s⟩ : V3) w)
  obtain ⟨p1, hp1⟩ : ∃ p, vMul a (⟨s, s, s⟩ : V3) = p := ⟨_, rfl⟩
  rw [hp1] at C1
  have hT : vMul a ⟨s, s, s⟩ = p1 := by
    subst hp1; rfl
  rw [hT]
  clear hT
  clear hp1
  go_enter Try.func46, Try.ntmps46
  go_wp2_with fail
  obtain ⟨W, hW, K0, K1, K2, hB, hz⟩ := bx3 w 26 24 26 (vc a) #[.float .f64 s.lo, .float .f64 s.hi] #[.float .f64 0, .float .f64 0, .float .f64 0, .float .f64 0, .float .f64 0, .float .f64 0]
  rw [← hW]
  have K0 := Lib.hid K0
  have K1 := Lib.hid K1
  have K2 := Lib.hid K2
  have HB := Lib.hid hB
  clear hW hB hz
  have D1 := Lib.hid (Below.refl W.heap.size W)
  refine wp_region_held (S := (fun w' => True ∧ CellsAt w' (w.heap.size) (vc a) 0 6 ∧ CellsAt w' (w.heap.size + 1) #[.float .f64 s.lo, .float .f64 s.hi] 0 2)) (by kernel_rfl) ?_
  change wpAnyH _ _ _ _ _ _ _ _ (World.drew _)
  obtain ⟨wd2, hwd⟩ : ∃ x, x = World.drew W := ⟨_, rfl⟩
  rw [← hwd]
  have D3 := Lib.hid (hwd ▸ Below.drew D1.out : Below W.heap.size W wd2)
  clear D1 hwd
  have hS4 : True ∧ CellsAt wd2 (w.heap.size) (vc a) 0 6 ∧ CellsAt wd2 (w.heap.size + 1) #[.float .f64 s.lo, .float .f64 s.hi] 0 2 := ⟨trivial, (K0.out.below D3.out K0.out.lt).cells 0 6 (Nat.le_of_ble_eq_true rfl), (K1.out.below D3.out K1.out.lt).cells 0 2 (Nat.le_of_ble_eq_true rfl)⟩
  refine wpAnyH_takeN (i := 0) (v := ?vq5) (l' := bm 5 1) (a' := ?aq5) rfl (by kernel_rfl) (by kernel_rfl) (by kernel_rfl) (fun _ _ _ h => h) (Or.inl ⟨by kernel_rfl, ?hq5⟩) (by kernel_rfl) ?pq5 hS4 ?rq5
  case hq5 => (intro w hS; simp only [CellsAt, ac, vc, Nat.reduceAdd, List.size_toArray, List.getElem?_toArray, List.getElem?_cons_succ, List.getElem?_cons_zero] at hS; go_simp; try with_reducible rfl)
  case pq5 => (go_simp; try with_reducible rfl)
  refine wpAnyH_takeN (i := 1) (v := ?vq6) (l' := bm 5 3) (a' := ?aq6) rfl (by kernel_rfl) (by kernel_rfl) (by kernel_rfl) (fun _ _ _ h => h) (Or.inl ⟨by kernel_rfl, ?hq6⟩) (by kernel_rfl) ?pq6 hS4 ?rq6
  case hq6 => (intro w hS; simp only [CellsAt, ac, vc, Nat.reduceAdd, List.size_toArray, List.getElem?_toArray, List.getElem?_cons_succ, List.getElem?_cons_zero] at hS; go_simp; try with_reducible rfl)
  case pq6 => (go_simp; try with_reducible rfl)
  refine wpAnyH_oneN (i := 2) (l' := bm 5 7) rfl (by kernel_rfl) (by kernel_rfl) (by kernel_rfl) (fun K hK => ?_)
  go_simp
  go_at_call 88
  refine (C0.out _).mono ?_
  rintro r w7 ⟨rfl, hb⟩
  dsimp only
  have D8 := Lib.hid (below_step D3.out hb)
  clear D3
  clear hb
  have hS9 : True ∧ CellsAt w7 (w.heap.size) (vc a) 0 6 ∧ CellsAt w7 (w.heap.size + 1) #[.float .f64 s.lo, .float .f64 s.hi] 0 2 := ⟨trivial, (K0.out.below D8.out K0.out.lt).cells 0 6 (Nat.le_of_ble_eq_true rfl), (K1.out.below D8.out K1.out.lt).cells 0 2 (Nat.le_of_ble_eq_true rfl)⟩
  refine hK _ _ hS9 ?_
  clear hK K hS4
  refine wpAnyH_oneN (i := 3) (l' := bm 5 15) rfl (by kernel_rfl) (by kernel_rfl) (by kernel_rfl) (fun K hK => ?_)
  go_simp
  go_at_call 44
  refine (C1.out _).mono ?_
  rintro r w10 ⟨rfl, hb⟩
  dsimp only
  have D11 := Lib.hid (below_step D8.out hb)
  clear D8
  clear hb
  have hS12 : True ∧ CellsAt w10 (w.heap.size) (vc a) 0 6 ∧ CellsAt w10 (w.heap.size + 1) #[.float .f64 s.lo, .float .f64 s.hi] 0 2 := ⟨trivial, (K0.out.below D11.out K0.out.lt).cells 0 6 (Nat.le_of_ble_eq_true rfl), (K1.out.below D11.out K1.out.lt).cells 0 2 (Nat.le_of_ble_eq_true rfl)⟩
  refine hK _ _ hS12 ?_
  clear hK K hS9
  refine wpAnyH_oneN (i := 4) (l' := bm 5 31) rfl (by kernel_rfl) (by kernel_rfl) (by kernel_rfl) (fun K hK => ?_)
  have f15 := (K2.out.below D11.out K2.out.lt).cells 0 6 (Nat.le_of_ble_eq_true rfl)
  have u16 := (K2.out.below D11.out K2.out.lt).unfrozen
  simp only [CellsAt, ac, vc, Nat.reduceAdd, List.size_toArray, List.getElem?_toArray, List.getElem?_cons_succ, List.getElem?_cons_zero] at f15
  obtain ⟨V13, hV14⟩ : ∃ V, setCells w10 (w.heap.size + 1 + 1) 0 [.float .f64 p1.x.lo, .float .f64 p1.x.hi, .float .f64 p1.y.lo, .float .f64 p1.y.hi, .float .f64 p1.z.lo, .float .f64 p1.z.hi] = V := ⟨_, rfl⟩
  have hv17 := hV14
  simp only [setCells, Nat.reduceAdd] at hv17
  have K18 := Lib.hid (hV14 ▸ (Blk.farL (K0.out.below D11.out K0.out.lt) (by show w.heap.size ≠ w.heap.size + 1 + 1; omega) _ _) : Blk V13 (w.heap.size) 26 (vc a))
  have K19 := Lib.hid (hV14 ▸ (Blk.farL (K1.out.below D11.out K1.out.lt) (by show w.heap.size + 1 ≠ w.heap.size + 1 + 1; omega) _ _) : Blk V13 (w.heap.size + 1) 24 #[.float .f64 s.lo, .float .f64 s.hi])
  have K20 := Lib.hid (hV14 ▸ (Blk.setL (K2.out.below D11.out K2.out.lt) 0 _) : Blk V13 (w.heap.size + 1 + 1) 26 (vc p1))
  have HB21 := Lib.hid (hV14 ▸ (Below.setL (below_step HB.out D11.out) (by show w.heap.size ≤ w.heap.size + 1 + 1; omega) _ _) : Below w.heap.size w V13)
  have D22 := Lib.hid (Below.refl V13.heap.size V13)
  clear K0 K1 K2 HB D11
  go_simp
  clear hV14 f15 u16 hv17
  have hS23 : True ∧ CellsAt V13 (w.heap.size) (vc a) 0 6 ∧ CellsAt V13 (w.heap.size + 1) #[.float .f64 s.lo, .float .f64 s.hi] 0 2 := ⟨trivial, (K18.out.below D22.out K18.out.lt).cells 0 6 (Nat.le_of_ble_eq_true rfl), (K19.out.below D22.out K19.out.lt).cells 0 2 (Nat.le_of_ble_eq_true rfl)⟩
  refine hK _ _ hS23 ?_
  clear hK K hS12
  refine wpAnyH_done (by kernel_rfl) ?_ _
  clear hS23
  go_wp2_with fail
  (try simp only [Exit.inBlock, Exit.then])
  exact bodyPost_ret (res_c rfl _ _ (w.heap.size + 1 + 1) (vc p1) rfl (K20.out.below D22.out K20.out.lt) (by rw [info_V3]; rfl) Try.underlying26 rfl) rfl ⟨rfl, below_step HB21.out D22.out⟩
set_option maxRecDepth 100000 in
set_option maxHeartbeats 8000000 in
theorem unitV_any (a : V3) (w : World) : Calls Try.prog 53 #[Value.agg #[.float .f64 a.x.lo, .float .f64 a.x.hi, .float .f64 a.y.lo, .float .f64 a.y.hi, .float .f64 a.z.lo, .float .f64 a.z.hi]] w fun r w' => r = .returned (.tuple #[vval (vUnit a), .agg #[.float .f64 (vLen a).lo, .float .f64 (vLen a).hi]]) ∧ Below w.heap.size w w' := by
  have C0 := Lib.hid (fun w => sqrV_any a w)
  obtain ⟨p0, hp0⟩ : ∃ p, vSqr a = p := ⟨_, rfl⟩
  rw [hp0] at C0
  have C1 := Lib.hid (fun w => sqrt_sp p0 w)
  obtain ⟨p1, hp1⟩ : ∃ p, sqrtS p0 = p := ⟨_, rfl⟩
  rw [hp1] at C1
  have C2 := Lib.hid (fun w => div_sp a.x p1 w)
  obtain ⟨p2, hp2⟩ : ∃ p, divS a.x p1 = p := ⟨_, rfl⟩
  rw [hp2] at C2
  have C3 := Lib.hid (fun w => div_sp a.y p1 w)
  obtain ⟨p3, hp3⟩ : ∃ p, divS a.y p1 = p := ⟨_, rfl⟩
  rw [hp3] at C3
  have C4 := Lib.hid (fun w => div_sp a.z p1 w)
  obtain ⟨p4, hp4⟩ : ∃ p, divS a.z p1 = p := ⟨_, rfl⟩
  rw [hp4] at C4
  have hT0 : vUnit a = (⟨p2, p3, p4⟩ : V3) := by
    subst hp0 hp1 hp2 hp3 hp4; rfl
  have hT1 : vLen a = p1 := by
    subst hp0 hp1 hp2 hp3 hp4; rfl
  rw [hT0, hT1]
  clear hT0 hT1
  clear hp0 hp1 hp2 hp3 hp4
  go_enter Try.func53, Try.ntmps53
  go_wp2_with fail
  obtain ⟨W, hW, K0, K1, K2, hB, hz⟩ := bx3 w 26 26 24 (vc a) #[.float .f64 0, .float .f64 0, .float .f64 0, .float .f64 0, .float .f64 0, .float .f64 0] #[.float .f64 0, .float .f64 0]
  rw [← hW]
  have K0 := Lib.hid K0
  have K1 := Lib.hid K1
  have K2 := Lib.hid K2
  have HB := Lib.hid hB
  clear hW hB hz
  have D1 := Lib.hid (Below.refl W.heap.size W)
  refine (C0.out _).mono ?_
  rintro r w2 ⟨rfl, hb⟩
  have D3 := Lib.hid (below_step D1.out hb)
  clear D1
  clear hb
  go_wp2_with fail
  refine (C1.out _).mono ?_
  rintro r w4 ⟨rfl, hb⟩
  have D5 := Lib.hid (below_step D3.out hb)
  clear D3
  clear hb
  obtain ⟨g6, hg8⟩ : ∃ g, w4.heap.size = g := ⟨_, rfl⟩
  have Y10 := Lib.hid (show w.heap.size + 1 + 1 < g6 by rw [← hg8]; exact (K2.out.below D5.out K2.out.lt).lt)
  obtain ⟨V7, hV9⟩ : ∃ V, w4.alloc (.cells #[.float .f64 0, .float .f64 0] 24) = V := ⟨_, rfl⟩
  have K11 := Lib.hid (hV9 ▸ Blk.alloc (K0.out.below D5.out K0.out.lt) _ : Blk V7 (w.heap.size) 26 (vc a))
  have K12 := Lib.hid (hV9 ▸ Blk.alloc (K1.out.below D5.out K1.out.lt) _ : Blk V7 (w.heap.size + 1) 26 #[.float .f64 0, .float .f64 0, .float .f64 0, .float .f64 0, .float .f64 0, .float .f64 0])
  have K13 := Lib.hid (hV9 ▸ Blk.alloc (K2.out.below D5.out K2.out.lt) _ : Blk V7 (w.heap.size + 1 + 1) 24 #[.float .f64 0, .float .f64 0])
  have K14 := Lib.hid (by rw [← hV9, ← hg8]; exact Blk.new_at _ _ _ rfl : Blk V7 (g6) 24 #[.float .f64 0, .float .f64 0])
  have HB15 := Lib.hid (hV9 ▸ below_more (below_step HB.out D5.out) _ : Below w.heap.size w V7)
  have D16 := Lib.hid (Below.refl V7.heap.size V7)
  clear K0 K1 K2 HB D5
  have f19 := (K14.out.below D16.out K14.out.lt).cell 0
  have u20 := (K14.out.below D16.out K14.out.lt).unfrozen 0
  have f21 := (K14.out.below D16.out K14.out.lt).cell 1
  have u22 := (K14.out.below D16.out K14.out.lt).unfrozen 1
  obtain ⟨V17, hV18⟩ : ∃ V, setCells V7 (g6) 0 [.float .f64 p1.lo, .float .f64 p1.hi] = V := ⟨_, rfl⟩
  have hv23 := hV18
  simp only [setCells, Nat.reduceAdd] at hv23
  have K24 := Lib.hid (hV18 ▸ (Blk.farL (K11.out.below D16.out K11.out.lt) (by show w.heap.size ≠ g6; have := Y10.out; omega) _ _) : Blk V17 (w.heap.size) 26 (vc a))
  have K25 := Lib.hid (hV18 ▸ (Blk.farL (K12.out.below D16.out K12.out.lt) (by show w.heap.size + 1 ≠ g6; have := Y10.out; omega) _ _) : Blk V17 (w.heap.size + 1) 26 #[.float .f64 0, .float .f64 0, .float .f64 0, .float .f64 0, .float .f64 0, .float .f64 0])
  have K26 := Lib.hid (hV18 ▸ (Blk.farL (K13.out.below D16.out K13.out.lt) (by show w.heap.size + 1 + 1 ≠ g6; have := Y10.out; omega) _ _) : Blk V17 (w.heap.size + 1 + 1) 24 #[.float .f64 0, .float .f64 0])
  have K27 := Lib.hid (hV18 ▸ (Blk.setL (K14.out.below D16.out K14.out.lt) 0 _) : Blk V17 (g6) 24 #[.float .f64 p1.lo, .float .f64 p1.hi])
  have HB28 := Lib.hid (hV18 ▸ (Below.setL (below_step HB15.out D16.out) (by show w.heap.size ≤ g6; have := Y10.out; omega) _ _) : Below w.heap.size w V17)
  have D29 := Lib.hid (Below.refl V17.heap.size V17)
  clear K11 K12 K13 K14 HB15 D16
  go_wp2_with fail
  clear hg8 hV9 hV18 f19 u20 f21 u22 hv23
  refine wp_region_held (S := (fun w' => True ∧ CellsAt w' (w.heap.size) (vc a) 0 6 ∧ CellsAt w' (g6) #[.float .f64 p1.lo, .float .f64 p1.hi] 0 2)) (by kernel_rfl) ?_
  change wpAnyH _ _ _ _ _ _ _ _ (World.drew _)
  obtain ⟨wd30, hwd⟩ : ∃ x, x = World.drew V17 := ⟨_, rfl⟩
  rw [← hwd]
  have D31 := Lib.hid (hwd ▸ Below.drew D29.out : Below V17.heap.size V17 wd30)
  clear D29 hwd
  have hS32 : True ∧ CellsAt wd30 (w.heap.size) (vc a) 0 6 ∧ CellsAt wd30 (g6) #[.float .f64 p1.lo, .float .f64 p1.hi] 0 2 := ⟨trivial, (K24.out.below D31.out K24.out.lt).cells 0 6 (Nat.le_of_ble_eq_true rfl), (K27.out.below D31.out K27.out.lt).cells 0 2 (Nat.le_of_ble_eq_true rfl)⟩
  refine wpAnyH_takeN (i := 0) (v := ?vq33) (l' := bm 16 1) (a' := ?aq33) rfl (by kernel_rfl) (by kernel_rfl) (by kernel_rfl) (fun _ _ _ h => h) (Or.inl ⟨by kernel_rfl, ?hq33⟩) (by kernel_rfl) ?pq33 hS32 ?rq33
  case hq33 => (intro w hS; go_simp; try with_reducible rfl)
  case pq33 => (go_simp; try with_reducible rfl)
  refine wpAnyH_takeN (i := 1) (v := ?vq34) (l' := bm 16 3) (a' := ?aq34) rfl (by kernel_rfl) (by kernel_rfl) (by kernel_rfl) (fun _ _ _ h => h) (Or.inl ⟨by kernel_rfl, ?hq34⟩) (by kernel_rfl) ?pq34 hS32 ?rq34
  case hq34 => (intro w hS; simp only [CellsAt, ac, vc, Nat.reduceAdd, List.size_toArray, List.getElem?_toArray, List.getElem?_cons_succ, List.getElem?_cons_zero] at hS; go_simp; try with_reducible rfl)
  case pq34 => (go_simp; try with_reducible rfl)
  refine wpAnyH_takeN (i := 2) (v := ?vq35) (l' := bm 16 7) (a' := ?aq35) rfl (by kernel_rfl) (by kernel_rfl) (by kernel_rfl) (fun _ _ _ h => h) (Or.inl ⟨by kernel_rfl, ?hq35⟩) (by kernel_rfl) ?pq35 hS32 ?rq35
  case hq35 => (intro w hS; simp only [CellsAt, ac, vc, Nat.reduceAdd, List.size_toArray, List.getElem?_toArray, List.getElem?_cons_succ, List.getElem?_cons_zero] at hS; go_simp; try with_reducible rfl)
  case pq35 => (go_simp; try with_reducible rfl)
  refine wpAnyH_takeN (i := 4) (v := ?vq36) (l' := bm 16 23) (a' := ?aq36) rfl (by kernel_rfl) (by kernel_rfl) (by kernel_rfl) (fun _ _ _ h => h) (Or.inl ⟨by kernel_rfl, ?hq36⟩) (by kernel_rfl) ?pq36 hS32 ?rq36
  case hq36 => (intro w hS; go_simp; try with_reducible rfl)
  case pq36 => (go_simp; try with_reducible rfl)
  refine wpAnyH_takeN (i := 5) (v := ?vq37) (l' := bm 16 55) (a' := ?aq37) rfl (by kernel_rfl) (by kernel_rfl) (by kernel_rfl) (fun _ _ _ h => h) (Or.inl ⟨by kernel_rfl, ?hq37⟩) (by kernel_rfl) ?pq37 hS32 ?rq37
  case hq37 => (intro w hS; simp only [CellsAt, ac, vc, Nat.reduceAdd, List.size_toArray, List.getElem?_toArray, List.getElem?_cons_succ, List.getElem?_cons_zero] at hS; go_simp; try with_reducible rfl)
  case pq37 => (go_simp; try with_reducible rfl)
  refine wpAnyH_takeN (i := 6) (v := ?vq38) (l' := bm 16 119) (a' := ?aq38) rfl (by kernel_rfl) (by kernel_rfl) (by kernel_rfl) (fun _ _ _ h => h) (Or.inl ⟨by kernel_rfl, ?hq38⟩) (by kernel_rfl) ?pq38 hS32 ?rq38
  case hq38 => (intro w hS; simp only [CellsAt, ac, vc, Nat.reduceAdd, List.size_toArray, List.getElem?_toArray, List.getElem?_cons_succ, List.getElem?_cons_zero] at hS; go_simp; try with_reducible rfl)
  case pq38 => (go_simp; try with_reducible rfl)
  refine wpAnyH_takeN (i := 8) (v := ?vq39) (l' := bm 16 375) (a' := ?aq39) rfl (by kernel_rfl) (by kernel_rfl) (by kernel_rfl) (fun _ _ _ h => h) (Or.inl ⟨by kernel_rfl, ?hq39⟩) (by kernel_rfl) ?pq39 hS32 ?rq39
  case hq39 => (intro w hS; go_simp; try with_reducible rfl)
  case pq39 => (go_simp; try with_reducible rfl)
  refine wpAnyH_takeN (i := 9) (v := ?vq40) (l' := bm 16 887) (a' := ?aq40) rfl (by kernel_rfl) (by kernel_rfl) (by kernel_rfl) (fun _ _ _ h => h) (Or.inl ⟨by kernel_rfl, ?hq40⟩) (by kernel_rfl) ?pq40 hS32 ?rq40
  case hq40 => (intro w hS; simp only [CellsAt, ac, vc, Nat.reduceAdd, List.size_toArray, List.getElem?_toArray, List.getElem?_cons_succ, List.getElem?_cons_zero] at hS; go_simp; try with_reducible rfl)
  case pq40 => (go_simp; try with_reducible rfl)
  refine wpAnyH_takeN (i := 10) (v := ?vq41) (l' := bm 16 1911) (a' := ?aq41) rfl (by kernel_rfl) (by kernel_rfl) (by kernel_rfl) (fun _ _ _ h => h) (Or.inl ⟨by kernel_rfl, ?hq41⟩) (by kernel_rfl) ?pq41 hS32 ?rq41
  case hq41 => (intro w hS; simp only [CellsAt, ac, vc, Nat.reduceAdd, List.size_toArray, List.getElem?_toArray, List.getElem?_cons_succ, List.getElem?_cons_zero] at hS; go_simp; try with_reducible rfl)
  case pq41 => (go_simp; try with_reducible rfl)
  refine wpAnyH_takeN (i := 13) (v := ?vq42) (l' := bm 16 10103) (a' := ?aq42) rfl (by kernel_rfl) (by kernel_rfl) (by kernel_rfl) (fun _ _ _ h => h) (Or.inl ⟨by kernel_rfl, ?hq42⟩) (by kernel_rfl) ?pq42 hS32 ?rq42
  case hq42 => (intro w hS; simp only [CellsAt, ac, vc, Nat.reduceAdd, List.size_toArray, List.getElem?_toArray, List.getElem?_cons_succ, List.getElem?_cons_zero] at hS; go_simp; try with_reducible rfl)
  case pq42 => (go_simp; try with_reducible rfl)
  refine wpAnyH_oneN (i := 3) (l' := bm 16 10111) rfl (by kernel_rfl) (by kernel_rfl) (by kernel_rfl) (fun K hK => ?_)
  go_simp
  go_at_call 71
  refine (C2.out _).mono ?_
  rintro r w43 ⟨rfl, hb⟩
  dsimp only
  have D44 := Lib.hid (below_step D31.out hb)
  clear D31
  clear hb
  have hS45 : True ∧ CellsAt w43 (w.heap.size) (vc a) 0 6 ∧ CellsAt w43 (g6) #[.float .f64 p1.lo, .float .f64 p1.hi] 0 2 := ⟨trivial, (K24.out.below D44.out K24.out.lt).cells 0 6 (Nat.le_of_ble_eq_true rfl), (K27.out.below D44.out K27.out.lt).cells 0 2 (Nat.le_of_ble_eq_true rfl)⟩
  refine hK _ _ hS45 ?_
  clear hK K hS32
  refine wpAnyH_oneN (i := 7) (l' := bm 16 10239) rfl (by kernel_rfl) (by kernel_rfl) (by kernel_rfl) (fun K hK => ?_)
  go_simp
  go_at_call 71
  refine (C3.out _).mono ?_
  rintro r w46 ⟨rfl, hb⟩
  dsimp only
  have D47 := Lib.hid (below_step D44.out hb)
  clear D44
  clear hb
  have hS48 : True ∧ CellsAt w46 (w.heap.size) (vc a) 0 6 ∧ CellsAt w46 (g6) #[.float .f64 p1.lo, .float .f64 p1.hi] 0 2 := ⟨trivial, (K24.out.below D47.out K24.out.lt).cells 0 6 (Nat.le_of_ble_eq_true rfl), (K27.out.below D47.out K27.out.lt).cells 0 2 (Nat.le_of_ble_eq_true rfl)⟩
  refine hK _ _ hS48 ?_
  clear hK K hS45
  refine wpAnyH_oneN (i := 11) (l' := bm 16 12287) rfl (by kernel_rfl) (by kernel_rfl) (by kernel_rfl) (fun K hK => ?_)
  go_simp
  go_at_call 71
  refine (C4.out _).mono ?_
  rintro r w49 ⟨rfl, hb⟩
  dsimp only
  have D50 := Lib.hid (below_step D47.out hb)
  clear D47
  clear hb
  have hS51 : True ∧ CellsAt w49 (w.heap.size) (vc a) 0 6 ∧ CellsAt w49 (g6) #[.float .f64 p1.lo, .float .f64 p1.hi] 0 2 := ⟨trivial, (K24.out.below D50.out K24.out.lt).cells 0 6 (Nat.le_of_ble_eq_true rfl), (K27.out.below D50.out K27.out.lt).cells 0 2 (Nat.le_of_ble_eq_true rfl)⟩
  refine hK _ _ hS51 ?_
  clear hK K hS48
  refine wpAnyH_takeN (i := 12) (v := ?vq52) (l' := bm 16 16383) (a' := ?aq52) rfl (by kernel_rfl) (by kernel_rfl) (by kernel_rfl) (fun _ _ _ h => h) (Or.inl ⟨by kernel_rfl, ?hq52⟩) (by kernel_rfl) ?pq52 hS51 ?rq52
  case hq52 => (intro w hS; go_simp; try with_reducible rfl)
  case pq52 => (go_simp; try with_reducible rfl)
  refine wpAnyH_oneN (i := 14) (l' := bm 16 32767) rfl (by kernel_rfl) (by kernel_rfl) (by kernel_rfl) (fun K hK => ?_)
  have f55 := (K25.out.below D50.out K25.out.lt).cells 0 6 (Nat.le_of_ble_eq_true rfl)
  have u56 := (K25.out.below D50.out K25.out.lt).unfrozen
  simp only [CellsAt, ac, vc, Nat.reduceAdd, List.size_toArray, List.getElem?_toArray, List.getElem?_cons_succ, List.getElem?_cons_zero] at f55
  obtain ⟨V53, hV54⟩ : ∃ V, setCells w49 (w.heap.size + 1) 0 [.float .f64 p2.lo, .float .f64 p2.hi, .float .f64 p3.lo, .float .f64 p3.hi, .float .f64 p4.lo, .float .f64 p4.hi] = V := ⟨_, rfl⟩
  have hv57 := hV54
  simp only [setCells, Nat.reduceAdd] at hv57
  have K58 := Lib.hid (hV54 ▸ (Blk.farL (K24.out.below D50.out K24.out.lt) (by show w.heap.size ≠ w.heap.size + 1; have := Y10.out; omega) _ _) : Blk V53 (w.heap.size) 26 (vc a))
  have K59 := Lib.hid (hV54 ▸ (Blk.setL (K25.out.below D50.out K25.out.lt) 0 _) : Blk V53 (w.heap.size + 1) 26 #[.float .f64 p2.lo, .float .f64 p2.hi, .float .f64 p3.lo, .float .f64 p3.hi, .float .f64 p4.lo, .float .f64 p4.hi])
  have K60 := Lib.hid (hV54 ▸ (Blk.farL (K26.out.below D50.out K26.out.lt) (by show w.heap.size + 1 + 1 ≠ w.heap.size + 1; have := Y10.out; omega) _ _) : Blk V53 (w.heap.size + 1 + 1) 24 #[.float .f64 0, .float .f64 0])
  have K61 := Lib.hid (hV54 ▸ (Blk.farL (K27.out.below D50.out K27.out.lt) (by show g6 ≠ w.heap.size + 1; have := Y10.out; omega) _ _) : Blk V53 (g6) 24 #[.float .f64 p1.lo, .float .f64 p1.hi])
  have HB62 := Lib.hid (hV54 ▸ (Below.setL (below_step HB28.out D50.out) (by show w.heap.size ≤ w.heap.size + 1; have := Y10.out; omega) _ _) : Below w.heap.size w V53)
  have D63 := Lib.hid (Below.refl V53.heap.size V53)
  clear K24 K25 K26 K27 HB28 D50
  go_simp
  clear hV54 f55 u56 hv57
  have hS64 : True ∧ CellsAt V53 (w.heap.size) (vc a) 0 6 ∧ CellsAt V53 (g6) #[.float .f64 p1.lo, .float .f64 p1.hi] 0 2 := ⟨trivial, (K58.out.below D63.out K58.out.lt).cells 0 6 (Nat.le_of_ble_eq_true rfl), (K61.out.below D63.out K61.out.lt).cells 0 2 (Nat.le_of_ble_eq_true rfl)⟩
  refine hK _ _ hS64 ?_
  clear hK K hS51
  refine wpAnyH_oneN (i := 15) (l' := bm 16 65535) rfl (by kernel_rfl) (by kernel_rfl) (by kernel_rfl) (fun K hK => ?_)
  have f67 := (K60.out.below D63.out K60.out.lt).cell 0
  have u68 := (K60.out.below D63.out K60.out.lt).unfrozen 0
  have f69 := (K60.out.below D63.out K60.out.lt).cell 1
  have u70 := (K60.out.below D63.out K60.out.lt).unfrozen 1
  obtain ⟨V65, hV66⟩ : ∃ V, setCells V53 (w.heap.size + 1 + 1) 0 [.float .f64 p1.lo, .float .f64 p1.hi] = V := ⟨_, rfl⟩
  have hv71 := hV66
  simp only [setCells, Nat.reduceAdd] at hv71
  have K72 := Lib.hid (hV66 ▸ (Blk.farL (K58.out.below D63.out K58.out.lt) (by show w.heap.size ≠ w.heap.size + 1 + 1; have := Y10.out; omega) _ _) : Blk V65 (w.heap.size) 26 (vc a))
  have K73 := Lib.hid (hV66 ▸ (Blk.farL (K59.out.below D63.out K59.out.lt) (by show w.heap.size + 1 ≠ w.heap.size + 1 + 1; have := Y10.out; omega) _ _) : Blk V65 (w.heap.size + 1) 26 #[.float .f64 p2.lo, .float .f64 p2.hi, .float .f64 p3.lo, .float .f64 p3.hi, .float .f64 p4.lo, .float .f64 p4.hi])
  have K74 := Lib.hid (hV66 ▸ (Blk.setL (K60.out.below D63.out K60.out.lt) 0 _) : Blk V65 (w.heap.size + 1 + 1) 24 #[.float .f64 p1.lo, .float .f64 p1.hi])
  have K75 := Lib.hid (hV66 ▸ (Blk.farL (K61.out.below D63.out K61.out.lt) (by show g6 ≠ w.heap.size + 1 + 1; have := Y10.out; omega) _ _) : Blk V65 (g6) 24 #[.float .f64 p1.lo, .float .f64 p1.hi])
  have HB76 := Lib.hid (hV66 ▸ (Below.setL (below_step HB62.out D63.out) (by show w.heap.size ≤ w.heap.size + 1 + 1; have := Y10.out; omega) _ _) : Below w.heap.size w V65)
  have D77 := Lib.hid (Below.refl V65.heap.size V65)
  clear K58 K59 K60 K61 HB62 D63
  go_simp
  clear hV66 f67 u68 f69 u70 hv71
  have hS78 : True ∧ CellsAt V65 (w.heap.size) (vc a) 0 6 ∧ CellsAt V65 (g6) #[.float .f64 p1.lo, .float .f64 p1.hi] 0 2 := ⟨trivial, (K72.out.below D77.out K72.out.lt).cells 0 6 (Nat.le_of_ble_eq_true rfl), (K75.out.below D77.out K75.out.lt).cells 0 2 (Nat.le_of_ble_eq_true rfl)⟩
  refine hK _ _ hS78 ?_
  clear hK K hS64
  refine wpAnyH_done (by kernel_rfl) ?_ _
  clear hS78
  go_wp2_with fail
  (try simp only [Exit.inBlock, Exit.then])
  exact bodyPost_ret (res_cc rfl _ _ (w.heap.size + 1) #[.float .f64 p2.lo, .float .f64 p2.hi, .float .f64 p3.lo, .float .f64 p3.hi, .float .f64 p4.lo, .float .f64 p4.hi] (w.heap.size + 1 + 1) #[.float .f64 p1.lo, .float .f64 p1.hi] rfl (K73.out.below D77.out K73.out.lt) (by rw [info_V3]; rfl) Try.underlying26 rfl rfl (K74.out.below D77.out K74.out.lt) (by rw [info_Span]; rfl) Try.underlying24 rfl) rfl ⟨rfl, below_step HB76.out D77.out⟩
end Go.Proofs.Ytdgaaceebghcpaa
