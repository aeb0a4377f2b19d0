/- Vectors of spans: lengths, frames and guards. -/
import Derived.Test.YtdgaaceebghcpaaTc
import Derived.Test.YtdgaaceebghcpaaGr
import Derived.Test.YtdgaaceebghcpaaYd
import Derived.Test.YtdgaaceebghcpaaYe
import Derived.Test.YtdgaaceebghcpaaSf
set_option linter.unusedVariables false
set_option linter.unusedSimpArgs false
namespace Go.Proofs.Ytdgaaceebghcpaa
open Go.RowKit Fl

abbrev vc (a : V3) : Array Value := #[Value.float FloatKind.f64 a.x.lo, Value.float FloatKind.f64 a.x.hi, Value.float FloatKind.f64 a.y.lo, Value.float FloatKind.f64 a.y.hi, Value.float FloatKind.f64 a.z.lo, Value.float FloatKind.f64 a.z.hi]
theorem info_V3 : (Try.prog.info? 26).map (·.size) = some 6 := by kernel_rfl
theorem info_Span : (Try.prog.info? 24).map (·.size) = some 2 := by kernel_rfl
def isRow : TypeDesc → Bool
  | .struct _ | .array _ _ => true
  | _ => false
theorem run_row (w : World) (g : Nat) (t ty : TypeId) (cs : Array Value) (d : TypeDesc) (hg : w.heap[g]? = some (.cells cs t (0, 0))) (hu : Try.prog.underlying ty = some d) (hd : isRow d = true) (hi : (Try.prog.info? ty).map (·.size) = some cs.size) :
    (loadVar ty ⟨g, 0, none⟩).run Try.prog w = .ok (.agg cs) w :=
  run_loadVar_row w g t ty cs (0, 0) d hg hu (by cases d <;> simp_all [isRow]) hi
section
variable {fn : Func} {p q r : Tmp} {ta tb : TypeId}
theorem res_c (h : fn.results = #[.cell p ta]) (tmps : Array Value) (w : World) (g : Nat) (cs : Array Value) {t : TypeId} {d : TypeDesc}
    (hp : tmps.getD p undef = .pointer (some ⟨g, 0, none⟩)) (hg : Blk w g t cs) (hi : (Try.prog.info? ta).map (·.size) = some cs.size) (hu : Try.prog.underlying ta = some d) (hd : isRow d = true) :
    (results fn tmps).run Try.prog w = .ok (.agg cs) w := by
  have e1 : tmps[p]?.getD undef = .pointer (some ⟨g, 0, none⟩) := by simpa using hp
  simp [results, h, e1, asAddr, run_row w g t ta cs d hg hu hd hi]
theorem res_cc (h : fn.results = #[.cell p ta, .cell q tb]) (tmps : Array Value) (w : World) (g : Nat) (cs : Array Value) (g' : Nat) (cs' : Array Value) {t t' : TypeId} {d d' : TypeDesc}
    (hp : tmps.getD p undef = .pointer (some ⟨g, 0, none⟩)) (hg : Blk w g t cs) (hi : (Try.prog.info? ta).map (·.size) = some cs.size) (hu : Try.prog.underlying ta = some d) (hd : isRow d = true)
    (hp' : tmps.getD q undef = .pointer (some ⟨g', 0, none⟩)) (hg' : Blk w g' t' cs') (hi' : (Try.prog.info? tb).map (·.size) = some cs'.size) (hu' : Try.prog.underlying tb = some d') (hd' : isRow d' = true) :
    (results fn tmps).run Try.prog w = .ok (.tuple #[.agg cs, .agg cs']) w := by
  have e1 : tmps[p]?.getD undef = .pointer (some ⟨g, 0, none⟩) := by simpa using hp
  have e2 : tmps[q]?.getD undef = .pointer (some ⟨g', 0, none⟩) := by simpa using hp'
  simp [results, h, e1, e2, asAddr, run_row w g t ta cs d hg hu hd hi, run_row w g' t' tb cs' d' hg' hu' hd' hi']
theorem res_cct (h : fn.results = #[.cell p ta, .cell q tb, .tmp r]) (tmps : Array Value) (w : World) (g : Nat) (cs : Array Value) (g' : Nat) (cs' : Array Value) {t t' : TypeId} {d d' : TypeDesc}
    (hp : tmps.getD p undef = .pointer (some ⟨g, 0, none⟩)) (hg : Blk w g t cs) (hi : (Try.prog.info? ta).map (·.size) = some cs.size) (hu : Try.prog.underlying ta = some d) (hd : isRow d = true)
    (hp' : tmps.getD q undef = .pointer (some ⟨g', 0, none⟩)) (hg' : Blk w g' t' cs') (hi' : (Try.prog.info? tb).map (·.size) = some cs'.size) (hu' : Try.prog.underlying tb = some d') (hd' : isRow d' = true) :
    (results fn tmps).run Try.prog w = .ok (.tuple #[.agg cs, .agg cs', tmps.getD r undef]) w := by
  have e1 : tmps[p]?.getD undef = .pointer (some ⟨g, 0, none⟩) := by simpa using hp
  have e2 : tmps[q]?.getD undef = .pointer (some ⟨g', 0, none⟩) := by simpa using hp'
  simp [results, h, e1, e2, asAddr, run_row w g t ta cs d hg hu hd hi, run_row w g' t' tb cs' d' hg' hu' hd' hi']
theorem res_ct (h : fn.results = #[.cell p ta, .tmp r]) (tmps : Array Value) (w : World) (g : Nat) (cs : Array Value) {t : TypeId} {d : TypeDesc}
    (hp : tmps.getD p undef = .pointer (some ⟨g, 0, none⟩)) (hg : Blk w g t cs) (hi : (Try.prog.info? ta).map (·.size) = some cs.size) (hu : Try.prog.underlying ta = some d) (hd : isRow d = true) :
    (results fn tmps).run Try.prog w = .ok (.tuple #[.agg cs, tmps.getD r undef]) w := by
  have e1 : tmps[p]?.getD undef = .pointer (some ⟨g, 0, none⟩) := by simpa using hp
  simp [results, h, e1, asAddr, run_row w g t ta cs d hg hu hd hi]
end
theorem bx5 (w : World) (t1 t2 t3 t4 t5 : TypeId) (c1 c2 c3 c4 c5 : Array Value) : ∃ W, W = ((((w.alloc (.cells c1 t1)).alloc (.cells c2 t2)).alloc (.cells c3 t3)).alloc (.cells c4 t4)).alloc (.cells c5 t5) ∧ Blk W w.heap.size t1 c1 ∧ Blk W (w.heap.size + 1) t2 c2 ∧ Blk W (w.heap.size + 1 + 1) t3 c3 ∧ Blk W (w.heap.size + 1 + 1 + 1) t4 c4 ∧ Blk W (w.heap.size + 1 + 1 + 1 + 1) t5 c5 ∧ Below w.heap.size w W ∧ W.heap.size = w.heap.size + 1 + 1 + 1 + 1 + 1 := by
  obtain ⟨W, rfl, k0, k1, k2, k3, hb, hz⟩ := bx4 w t1 t2 t3 t4 c1 c2 c3 c4
  exact ⟨_, rfl, k0.alloc _, k1.alloc _, k2.alloc _, k3.alloc _, Blk.new_at _ _ _ hz.symm, hb.alloc (by omega) _, by simp⟩
set_option maxRecDepth 100000 in
set_option maxHeartbeats 8000000 in
theorem rsameV_self (a : V3) (w : World) : Calls Try.prog 23 #[Value.agg #[.float .f64 a.x.lo, .float .f64 a.x.hi, .float .f64 a.y.lo, .float .f64 a.y.hi, .float .f64 a.z.lo, .float .f64 a.z.hi], Value.agg #[.float .f64 a.x.lo, .float .f64 a.x.hi, .float .f64 a.y.lo, .float .f64 a.y.hi, .float .f64 a.z.lo, .float .f64 a.z.hi]] w fun r w' => r = .returned (.bool true) ∧ Below w.heap.size w w' := by
  have C0 := Lib.hid (fun w => rsame_sp a.x w)
  have C1 := Lib.hid (fun w => rsame_sp a.y w)
  have C2 := Lib.hid (fun w => rsame_sp a.z w)
  go_enter Try.func23, Try.ntmps23
  go_wp2_with fail
  obtain ⟨W, hW, K0, K1, hB, hz⟩ := bx2 w 26 26 (vc a) (vc a)
  rw [← hW]
  have K0 := Lib.hid K0
  have K1 := Lib.hid K1
  have HB := Lib.hid hB
  clear hW hB hz
  have D1 := Lib.hid (Below.refl W.heap.size W)
  refine (C0.out _).mono ?_
  rintro r w2 ⟨rfl, hb⟩
  have D3 := Lib.hid (below_step D1.out hb)
  clear D1
  clear hb
  have hq4 : w2.cell? ⟨w.heap.size, 2, none⟩ = some (.float .f64 a.y.lo) ∧ w2.cell? ⟨w.heap.size, 3, none⟩ = some (.float .f64 a.y.hi) ∧ w2.cell? ⟨w.heap.size + 1, 2, none⟩ = some (.float .f64 a.y.lo) ∧ w2.cell? ⟨w.heap.size + 1, 3, none⟩ = some (.float .f64 a.y.hi) := ⟨(K0.out.below D3.out K0.out.lt).cell 2, (K0.out.below D3.out K0.out.lt).cell 3, (K1.out.below D3.out K1.out.lt).cell 2, (K1.out.below D3.out K1.out.lt).cell 3⟩
  go_wp2_with fail
  clear hq4
  refine (C1.out _).mono ?_
  rintro r w5 ⟨rfl, hb⟩
  have D6 := Lib.hid (below_step D3.out hb)
  clear D3
  clear hb
  have hq7 : w5.cell? ⟨w.heap.size, 4, none⟩ = some (.float .f64 a.z.lo) ∧ w5.cell? ⟨w.heap.size, 5, none⟩ = some (.float .f64 a.z.hi) ∧ w5.cell? ⟨w.heap.size + 1, 4, none⟩ = some (.float .f64 a.z.lo) ∧ w5.cell? ⟨w.heap.size + 1, 5, none⟩ = some (.float .f64 a.z.hi) := ⟨(K0.out.below D6.out K0.out.lt).cell 4, (K0.out.below D6.out K0.out.lt).cell 5, (K1.out.below D6.out K1.out.lt).cell 4, (K1.out.below D6.out K1.out.lt).cell 5⟩
  go_wp2_with fail
  clear hq7
  refine (C2.out _).mono ?_
  rintro r w8 ⟨rfl, hb⟩
  have D9 := Lib.hid (below_step D6.out hb)
  clear D6
  clear hb
  go_wp2_with fail
  go_ret
  exact ⟨rfl, below_step HB.out D9.out⟩
set_option maxRecDepth 100000 in
set_option maxHeartbeats 8000000 in
theorem rvalidV_f (a0 a1 b0 b1 c0 c1 : Nat) (ha0 : a0 < 18446744073709551616) (ha1 : a1 < 18446744073709551616) (hb0 : b0 < 18446744073709551616) (hb1 : b1 < 18446744073709551616) (hc0 : c0 < 18446744073709551616) (hc1 : c1 < 18446744073709551616) (v0 : vdB a0 a1 = false) (w : World) : Calls Try.prog 15 #[Value.agg #[.float .f64 a0, .float .f64 a1, .float .f64 b0, .float .f64 b1, .float .f64 c0, .float .f64 c1]] w fun r w' => r = .returned (.bool false) ∧ Below w.heap.size w w' := by
  have C0 := Lib.hid (fun w => rvalid_any a0 a1 ha0 ha1 w)
  rw [v0] at C0
  go_enter Try.func15, Try.ntmps15
  go_wp2_with fail
  obtain ⟨W, hW, K0, hB, hz⟩ := bx1 w 26 #[.float .f64 a0, .float .f64 a1, .float .f64 b0, .float .f64 b1, .float .f64 c0, .float .f64 c1]
  rw [← hW]
  have K0 := Lib.hid K0
  have HB := Lib.hid hB
  clear hW hB hz
  have D1 := Lib.hid (Below.refl W.heap.size W)
  refine (C0.out _).mono ?_
  rintro r w2 ⟨rfl, hb⟩
  have D3 := Lib.hid (below_step D1.out hb)
  clear D1
  clear hb
  go_wp2_with fail
  go_ret
  exact ⟨rfl, below_step HB.out D3.out⟩
set_option maxRecDepth 100000 in
set_option maxHeartbeats 8000000 in
theorem rvalidV_tf (a0 a1 b0 b1 c0 c1 : Nat) (ha0 : a0 < 18446744073709551616) (ha1 : a1 < 18446744073709551616) (hb0 : b0 < 18446744073709551616) (hb1 : b1 < 18446744073709551616) (hc0 : c0 < 18446744073709551616) (hc1 : c1 < 18446744073709551616) (v0 : vdB a0 a1 = true) (v1 : vdB b0 b1 = false) (w : World) : Calls Try.prog 15 #[Value.agg #[.float .f64 a0, .float .f64 a1, .float .f64 b0, .float .f64 b1, .float .f64 c0, .float .f64 c1]] w fun r w' => r = .returned (.bool false) ∧ Below w.heap.size w w' := by
  have C0 := Lib.hid (fun w => rvalid_any a0 a1 ha0 ha1 w)
  rw [v0] at C0
  have C1 := Lib.hid (fun w => rvalid_any b0 b1 hb0 hb1 w)
  rw [v1] at C1
  go_enter Try.func15, Try.ntmps15
  go_wp2_with fail
  obtain ⟨W, hW, K0, hB, hz⟩ := bx1 w 26 #[.float .f64 a0, .float .f64 a1, .float .f64 b0, .float .f64 b1, .float .f64 c0, .float .f64 c1]
  rw [← hW]
  have K0 := Lib.hid K0
  have HB := Lib.hid hB
  clear hW hB hz
  have D1 := Lib.hid (Below.refl W.heap.size W)
  refine (C0.out _).mono ?_
  rintro r w2 ⟨rfl, hb⟩
  have D3 := Lib.hid (below_step D1.out hb)
  clear D1
  clear hb
  have hq4 : w2.cell? ⟨w.heap.size, 2, none⟩ = some (.float .f64 b0) ∧ w2.cell? ⟨w.heap.size, 3, none⟩ = some (.float .f64 b1) := ⟨(K0.out.below D3.out K0.out.lt).cell 2, (K0.out.below D3.out K0.out.lt).cell 3⟩
  go_wp2_with fail
  clear hq4
  refine (C1.out _).mono ?_
  rintro r w5 ⟨rfl, hb⟩
  have D6 := Lib.hid (below_step D3.out hb)
  clear D3
  clear hb
  go_wp2_with fail
  go_ret
  exact ⟨rfl, below_step HB.out D6.out⟩
set_option maxRecDepth 100000 in
set_option maxHeartbeats 8000000 in
theorem rvalidV_ttf (a0 a1 b0 b1 c0 c1 : Nat) (ha0 : a0 < 18446744073709551616) (ha1 : a1 < 18446744073709551616) (hb0 : b0 < 18446744073709551616) (hb1 : b1 < 18446744073709551616) (hc0 : c0 < 18446744073709551616) (hc1 : c1 < 18446744073709551616) (v0 : vdB a0 a1 = true) (v1 : vdB b0 b1 = true) (v2 : vdB c0 c1 = false) (w : World) : Calls Try.prog 15 #[Value.agg #[.float .f64 a0, .float .f64 a1, .float .f64 b0, .float .f64 b1, .float .f64 c0, .float .f64 c1]] w fun r w' => r = .returned (.bool false) ∧ Below w.heap.size w w' := by
  have C0 := Lib.hid (fun w => rvalid_any a0 a1 ha0 ha1 w)
  rw [v0] at C0
  have C1 := Lib.hid (fun w => rvalid_any b0 b1 hb0 hb1 w)
  rw [v1] at C1
  have C2 := Lib.hid (fun w => rvalid_any c0 c1 hc0 hc1 w)
  rw [v2] at C2
  go_enter Try.func15, Try.ntmps15
  go_wp2_with fail
  obtain ⟨W, hW, K0, hB, hz⟩ := bx1 w 26 #[.float .f64 a0, .float .f64 a1, .float .f64 b0, .float .f64 b1, .float .f64 c0, .float .f64 c1]
  rw [← hW]
  have K0 := Lib.hid K0
  have HB := Lib.hid hB
  clear hW hB hz
  have D1 := Lib.hid (Below.refl W.heap.size W)
  refine (C0.out _).mono ?_
  rintro r w2 ⟨rfl, hb⟩
  have D3 := Lib.hid (below_step D1.out hb)
  clear D1
  clear hb
  have hq4 : w2.cell? ⟨w.heap.size, 2, none⟩ = some (.float .f64 b0) ∧ w2.cell? ⟨w.heap.size, 3, none⟩ = some (.float .f64 b1) := ⟨(K0.out.below D3.out K0.out.lt).cell 2, (K0.out.below D3.out K0.out.lt).cell 3⟩
  go_wp2_with fail
  clear hq4
  refine (C1.out _).mono ?_
  rintro r w5 ⟨rfl, hb⟩
  have D6 := Lib.hid (below_step D3.out hb)
  clear D3
  clear hb
  have hq7 : w5.cell? ⟨w.heap.size, 4, none⟩ = some (.float .f64 c0) ∧ w5.cell? ⟨w.heap.size, 5, none⟩ = some (.float .f64 c1) := ⟨(K0.out.below D6.out K0.out.lt).cell 4, (K0.out.below D6.out K0.out.lt).cell 5⟩
  go_wp2_with fail
  clear hq7
  refine (C2.out _).mono ?_
  rintro r w8 ⟨rfl, hb⟩
  have D9 := Lib.hid (below_step D6.out hb)
  clear D6
  clear hb
  go_wp2_with fail
  go_ret
  exact ⟨rfl, below_step HB.out D9.out⟩
set_option maxRecDepth 100000 in
set_option maxHeartbeats 8000000 in
theorem rvalidV_ttt (a0 a1 b0 b1 c0 c1 : Nat) (ha0 : a0 < 18446744073709551616) (ha1 : a1 < 18446744073709551616) (hb0 : b0 < 18446744073709551616) (hb1 : b1 < 18446744073709551616) (hc0 : c0 < 18446744073709551616) (hc1 : c1 < 18446744073709551616) (v0 : vdB a0 a1 = true) (v1 : vdB b0 b1 = true) (v2 : vdB c0 c1 = true) (w : World) : Calls Try.prog 15 #[Value.agg #[.float .f64 a0, .float .f64 a1, .float .f64 b0, .float .f64 b1, .float .f64 c0, .float .f64 c1]] w fun r w' => r = .returned (.bool true) ∧ Below w.heap.size w w' := by
  have C0 := Lib.hid (fun w => rvalid_any a0 a1 ha0 ha1 w)
  rw [v0] at C0
  have C1 := Lib.hid (fun w => rvalid_any b0 b1 hb0 hb1 w)
  rw [v1] at C1
  have C2 := Lib.hid (fun w => rvalid_any c0 c1 hc0 hc1 w)
  rw [v2] at C2
  go_enter Try.func15, Try.ntmps15
  go_wp2_with fail
  obtain ⟨W, hW, K0, hB, hz⟩ := bx1 w 26 #[.float .f64 a0, .float .f64 a1, .float .f64 b0, .float .f64 b1, .float .f64 c0, .float .f64 c1]
  rw [← hW]
  have K0 := Lib.hid K0
  have HB := Lib.hid hB
  clear hW hB hz
  have D1 := Lib.hid (Below.refl W.heap.size W)
  refine (C0.out _).mono ?_
  rintro r w2 ⟨rfl, hb⟩
  have D3 := Lib.hid (below_step D1.out hb)
  clear D1
  clear hb
  have hq4 : w2.cell? ⟨w.heap.size, 2, none⟩ = some (.float .f64 b0) ∧ w2.cell? ⟨w.heap.size, 3, none⟩ = some (.float .f64 b1) := ⟨(K0.out.below D3.out K0.out.lt).cell 2, (K0.out.below D3.out K0.out.lt).cell 3⟩
  go_wp2_with fail
  clear hq4
  refine (C1.out _).mono ?_
  rintro r w5 ⟨rfl, hb⟩
  have D6 := Lib.hid (below_step D3.out hb)
  clear D3
  clear hb
  have hq7 : w5.cell? ⟨w.heap.size, 4, none⟩ = some (.float .f64 c0) ∧ w5.cell? ⟨w.heap.size, 5, none⟩ = some (.float .f64 c1) := ⟨(K0.out.below D6.out K0.out.lt).cell 4, (K0.out.below D6.out K0.out.lt).cell 5⟩
  go_wp2_with fail
  clear hq7
  refine (C2.out _).mono ?_
  rintro r w8 ⟨rfl, hb⟩
  have D9 := Lib.hid (below_step D6.out hb)
  clear D6
  clear hb
  go_wp2_with fail
  go_ret
  exact ⟨rfl, below_step HB.out D9.out⟩
def vdV (a0 a1 b0 b1 c0 c1 : Nat) : Bool := vdB a0 a1 && vdB b0 b1 && vdB c0 c1
theorem rvalidV_any (a0 a1 b0 b1 c0 c1 : Nat) (ha0 : a0 < 18446744073709551616) (ha1 : a1 < 18446744073709551616) (hb0 : b0 < 18446744073709551616) (hb1 : b1 < 18446744073709551616) (hc0 : c0 < 18446744073709551616) (hc1 : c1 < 18446744073709551616) (w : World) : Calls Try.prog 15 #[.agg #[.float .f64 a0, .float .f64 a1, .float .f64 b0, .float .f64 b1, .float .f64 c0, .float .f64 c1]] w fun r w' => r = .returned (.bool (vdV a0 a1 b0 b1 c0 c1)) ∧ Below w.heap.size w w' := by
  unfold vdV
  cases h1 : vdB a0 a1
  · exact rvalidV_f a0 a1 b0 b1 c0 c1 ha0 ha1 hb0 hb1 hc0 hc1 h1 w
  · cases h2 : vdB b0 b1
    · exact rvalidV_tf a0 a1 b0 b1 c0 c1 ha0 ha1 hb0 hb1 hc0 hc1 h1 h2 w
    · cases h3 : vdB c0 c1
      · exact rvalidV_ttf a0 a1 b0 b1 c0 c1 ha0 ha1 hb0 hb1 hc0 hc1 h1 h2 h3 w
      · exact rvalidV_ttt a0 a1 b0 b1 c0 c1 ha0 ha1 hb0 hb1 hc0 hc1 h1 h2 h3 w
theorem rvalidV_v (a : V3) (w : World) : Calls Try.prog 15 #[vval a] w fun r w' => r = .returned (.bool true) ∧ Below w.heap.size w w' :=
  rvalidV_ttt _ _ _ _ _ _ a.x.vd.l.lt a.x.vd.h.lt a.y.vd.l.lt a.y.vd.h.lt a.z.vd.l.lt a.z.vd.h.lt (vdB_of a.x.vd) (vdB_of a.y.vd) (vdB_of a.z.vd) w
theorem v3_of {a0 a1 b0 b1 c0 c1 : Nat} (ha0 : a0 < 18446744073709551616) (ha1 : a1 < 18446744073709551616) (hb0 : b0 < 18446744073709551616) (hb1 : b1 < 18446744073709551616) (hc0 : c0 < 18446744073709551616) (hc1 : c1 < 18446744073709551616) (h : vdV a0 a1 b0 b1 c0 c1 = true) :
    ∃ a : V3, a.x.lo = a0 ∧ a.x.hi = a1 ∧ a.y.lo = b0 ∧ a.y.hi = b1 ∧ a.z.lo = c0 ∧ a.z.hi = c1 := by
  unfold vdV at h
  have ⟨⟨h1, h2⟩, h3⟩ : (vdB a0 a1 = true ∧ vdB b0 b1 = true) ∧ vdB c0 c1 = true := by simpa using h
  exact ⟨⟨⟨a0, a1, vdB_true ha0 ha1 h1⟩, ⟨b0, b1, vdB_true hb0 hb1 h2⟩, ⟨c0, c1, vdB_true hc0 hc1 h3⟩⟩, rfl, rfl, rfl, rfl, rfl, rfl⟩
set_option maxRecDepth 100000 in
set_option maxHeartbeats 8000000 in
theorem rscaleV_any (a : V3) (s : Sp) (w : World) : Calls Try.prog 46 #[Value.agg #[.float .f64 a.x.lo, .float .f64 a.x.hi, .float .f64 a.y.lo, .float .f64 a.y.hi, .float .f64 a.z.lo, .float .f64 a.z.hi], Value.agg #[.float .f64 s.lo, .float .f64 s.hi]] w fun r w' => r = .returned (vval (vMul a ⟨s, s, s⟩)) ∧ Below w.heap.size w w' := by
  have C0 := Lib.hid (fun w => rall3_any s w)
  have C1 := Lib.hid (fun w => rmulV_any a (⟨s, s, s⟩ : V3) w)
  obtain ⟨p1, hp1⟩ : ∃ p, vMul a (⟨s, s, s⟩ : V3) = p := ⟨_, rfl⟩
  rw [hp1] at C1
  have hT : vMul a ⟨s, s, s⟩ = p1 := by
    subst hp1; rfl
  rw [hT]
  clear hT
  clear hp1
  go_enter Try.func46, Try.ntmps46
  go_wp2_with fail
  obtain ⟨W, hW, K0, K1, K2, hB, hz⟩ := bx3 w 26 24 26 (vc a) #[.float .f64 s.lo, .float .f64 s.hi] #[.float .f64 0, .float .f64 0, .float .f64 0, .float .f64 0, .float .f64 0, .float .f64 0]
  rw [← hW]
  have K0 := Lib.hid K0
  have K1 := Lib.hid K1
  have K2 := Lib.hid K2
  have HB := Lib.hid hB
  clear hW hB hz
  have D1 := Lib.hid (Below.refl W.heap.size W)
  refine wp_region_held (S := (fun w' => True ∧ w'.cell? ⟨w.heap.size, 0, none⟩ = some (.float .f64 a.x.lo) ∧ w'.cell? ⟨w.heap.size, 1, none⟩ = some (.float .f64 a.x.hi) ∧ w'.cell? ⟨w.heap.size, 2, none⟩ = some (.float .f64 a.y.lo) ∧ w'.cell? ⟨w.heap.size, 3, none⟩ = some (.float .f64 a.y.hi) ∧ w'.cell? ⟨w.heap.size, 4, none⟩ = some (.float .f64 a.z.lo) ∧ w'.cell? ⟨w.heap.size, 5, none⟩ = some (.float .f64 a.z.hi) ∧ w'.cell? ⟨w.heap.size + 1, 0, none⟩ = some (.float .f64 s.lo) ∧ w'.cell? ⟨w.heap.size + 1, 1, none⟩ = some (.float .f64 s.hi))) (by kernel_rfl) ?_
  change wpAnyH _ _ _ _ _ _ _ _ (World.drew _)
  obtain ⟨wd2, hwd⟩ : ∃ x, x = World.drew W := ⟨_, rfl⟩
  rw [← hwd]
  have D3 := Lib.hid (hwd ▸ Below.drew D1.out : Below W.heap.size W wd2)
  clear D1 hwd
  have hS4 : True ∧ wd2.cell? ⟨w.heap.size, 0, none⟩ = some (.float .f64 a.x.lo) ∧ wd2.cell? ⟨w.heap.size, 1, none⟩ = some (.float .f64 a.x.hi) ∧ wd2.cell? ⟨w.heap.size, 2, none⟩ = some (.float .f64 a.y.lo) ∧ wd2.cell? ⟨w.heap.size, 3, none⟩ = some (.float .f64 a.y.hi) ∧ wd2.cell? ⟨w.heap.size, 4, none⟩ = some (.float .f64 a.z.lo) ∧ wd2.cell? ⟨w.heap.size, 5, none⟩ = some (.float .f64 a.z.hi) ∧ wd2.cell? ⟨w.heap.size + 1, 0, none⟩ = some (.float .f64 s.lo) ∧ wd2.cell? ⟨w.heap.size + 1, 1, none⟩ = some (.float .f64 s.hi) := ⟨trivial, (K0.out.below D3.out K0.out.lt).cell 0, (K0.out.below D3.out K0.out.lt).cell 1, (K0.out.below D3.out K0.out.lt).cell 2, (K0.out.below D3.out K0.out.lt).cell 3, (K0.out.below D3.out K0.out.lt).cell 4, (K0.out.below D3.out K0.out.lt).cell 5, (K1.out.below D3.out K1.out.lt).cell 0, (K1.out.below D3.out K1.out.lt).cell 1⟩
  refine wpAnyH_takeN (i := 0) (v := ?vq5) (l' := bm 5 1) (a' := ?aq5) rfl (by kernel_rfl) (by kernel_rfl) (by kernel_rfl) (fun _ _ _ h => h) (Or.inl ⟨by kernel_rfl, ?hq5⟩) (by kernel_rfl) ?pq5 hS4 ?rq5
  case hq5 => (intro w hS; go_simp; try with_reducible rfl)
  case pq5 => (go_simp; try with_reducible rfl)
  refine wpAnyH_takeN (i := 1) (v := ?vq6) (l' := bm 5 3) (a' := ?aq6) rfl (by kernel_rfl) (by kernel_rfl) (by kernel_rfl) (fun _ _ _ h => h) (Or.inl ⟨by kernel_rfl, ?hq6⟩) (by kernel_rfl) ?pq6 hS4 ?rq6
  case hq6 => (intro w hS; go_simp; try with_reducible rfl)
  case pq6 => (go_simp; try with_reducible rfl)
  refine wpAnyH_oneN (i := 2) (l' := bm 5 7) rfl (by kernel_rfl) (by kernel_rfl) (by kernel_rfl) (fun K hK => ?_)
  go_simp
  go_at_call 88
  refine (C0.out _).mono ?_
  rintro r w7 ⟨rfl, hb⟩
  dsimp only
  have D8 := Lib.hid (below_step D3.out hb)
  clear D3
  clear hb
  have hS9 : True ∧ w7.cell? ⟨w.heap.size, 0, none⟩ = some (.float .f64 a.x.lo) ∧ w7.cell? ⟨w.heap.size, 1, none⟩ = some (.float .f64 a.x.hi) ∧ w7.cell? ⟨w.heap.size, 2, none⟩ = some (.float .f64 a.y.lo) ∧ w7.cell? ⟨w.heap.size, 3, none⟩ = some (.float .f64 a.y.hi) ∧ w7.cell? ⟨w.heap.size, 4, none⟩ = some (.float .f64 a.z.lo) ∧ w7.cell? ⟨w.heap.size, 5, none⟩ = some (.float .f64 a.z.hi) ∧ w7.cell? ⟨w.heap.size + 1, 0, none⟩ = some (.float .f64 s.lo) ∧ w7.cell? ⟨w.heap.size + 1, 1, none⟩ = some (.float .f64 s.hi) := ⟨trivial, (K0.out.below D8.out K0.out.lt).cell 0, (K0.out.below D8.out K0.out.lt).cell 1, (K0.out.below D8.out K0.out.lt).cell 2, (K0.out.below D8.out K0.out.lt).cell 3, (K0.out.below D8.out K0.out.lt).cell 4, (K0.out.below D8.out K0.out.lt).cell 5, (K1.out.below D8.out K1.out.lt).cell 0, (K1.out.below D8.out K1.out.lt).cell 1⟩
  refine hK _ _ hS9 ?_
  clear hK K hS4
  refine wpAnyH_oneN (i := 3) (l' := bm 5 15) rfl (by kernel_rfl) (by kernel_rfl) (by kernel_rfl) (fun K hK => ?_)
  go_simp
  go_at_call 44
  refine (C1.out _).mono ?_
  rintro r w10 ⟨rfl, hb⟩
  dsimp only
  have D11 := Lib.hid (below_step D8.out hb)
  clear D8
  clear hb
  have hS12 : True ∧ w10.cell? ⟨w.heap.size, 0, none⟩ = some (.float .f64 a.x.lo) ∧ w10.cell? ⟨w.heap.size, 1, none⟩ = some (.float .f64 a.x.hi) ∧ w10.cell? ⟨w.heap.size, 2, none⟩ = some (.float .f64 a.y.lo) ∧ w10.cell? ⟨w.heap.size, 3, none⟩ = some (.float .f64 a.y.hi) ∧ w10.cell? ⟨w.heap.size, 4, none⟩ = some (.float .f64 a.z.lo) ∧ w10.cell? ⟨w.heap.size, 5, none⟩ = some (.float .f64 a.z.hi) ∧ w10.cell? ⟨w.heap.size + 1, 0, none⟩ = some (.float .f64 s.lo) ∧ w10.cell? ⟨w.heap.size + 1, 1, none⟩ = some (.float .f64 s.hi) := ⟨trivial, (K0.out.below D11.out K0.out.lt).cell 0, (K0.out.below D11.out K0.out.lt).cell 1, (K0.out.below D11.out K0.out.lt).cell 2, (K0.out.below D11.out K0.out.lt).cell 3, (K0.out.below D11.out K0.out.lt).cell 4, (K0.out.below D11.out K0.out.lt).cell 5, (K1.out.below D11.out K1.out.lt).cell 0, (K1.out.below D11.out K1.out.lt).cell 1⟩
  refine hK _ _ hS12 ?_
  clear hK K hS9
  refine wpAnyH_oneN (i := 4) (l' := bm 5 31) rfl (by kernel_rfl) (by kernel_rfl) (by kernel_rfl) (fun K hK => ?_)
  have f15 := (K2.out.below D11.out K2.out.lt).cell 0
  have u16 := (K2.out.below D11.out K2.out.lt).unfrozen 0
  have f17 := (K2.out.below D11.out K2.out.lt).cell 1
  have u18 := (K2.out.below D11.out K2.out.lt).unfrozen 1
  have f19 := (K2.out.below D11.out K2.out.lt).cell 2
  have u20 := (K2.out.below D11.out K2.out.lt).unfrozen 2
  have f21 := (K2.out.below D11.out K2.out.lt).cell 3
  have u22 := (K2.out.below D11.out K2.out.lt).unfrozen 3
  have f23 := (K2.out.below D11.out K2.out.lt).cell 4
  have u24 := (K2.out.below D11.out K2.out.lt).unfrozen 4
  have f25 := (K2.out.below D11.out K2.out.lt).cell 5
  have u26 := (K2.out.below D11.out K2.out.lt).unfrozen 5
  obtain ⟨V13, hV14⟩ : ∃ V, ((((((w10.setCell ⟨w.heap.size + 1 + 1, 0, none⟩ (.float .f64 p1.x.lo)).setCell ⟨w.heap.size + 1 + 1, 1, none⟩ (.float .f64 p1.x.hi)).setCell ⟨w.heap.size + 1 + 1, 2, none⟩ (.float .f64 p1.y.lo)).setCell ⟨w.heap.size + 1 + 1, 3, none⟩ (.float .f64 p1.y.hi)).setCell ⟨w.heap.size + 1 + 1, 4, none⟩ (.float .f64 p1.z.lo)).setCell ⟨w.heap.size + 1 + 1, 5, none⟩ (.float .f64 p1.z.hi)) = V := ⟨_, rfl⟩
  have K27 := Lib.hid (hV14 ▸ (Blk.far (Blk.far (Blk.far (Blk.far (Blk.far (Blk.far ((K0.out.below D11.out K0.out.lt)) (p := ⟨w.heap.size + 1 + 1, 0, none⟩) (by show w.heap.size ≠ w.heap.size + 1 + 1; omega) _) (p := ⟨w.heap.size + 1 + 1, 1, none⟩) (by show w.heap.size ≠ w.heap.size + 1 + 1; omega) _) (p := ⟨w.heap.size + 1 + 1, 2, none⟩) (by show w.heap.size ≠ w.heap.size + 1 + 1; omega) _) (p := ⟨w.heap.size + 1 + 1, 3, none⟩) (by show w.heap.size ≠ w.heap.size + 1 + 1; omega) _) (p := ⟨w.heap.size + 1 + 1, 4, none⟩) (by show w.heap.size ≠ w.heap.size + 1 + 1; omega) _) (p := ⟨w.heap.size + 1 + 1, 5, none⟩) (by show w.heap.size ≠ w.heap.size + 1 + 1; omega) _) : Blk V13 (w.heap.size) 26 (vc a))
  have K28 := Lib.hid (hV14 ▸ (Blk.far (Blk.far (Blk.far (Blk.far (Blk.far (Blk.far ((K1.out.below D11.out K1.out.lt)) (p := ⟨w.heap.size + 1 + 1, 0, none⟩) (by show w.heap.size + 1 ≠ w.heap.size + 1 + 1; omega) _) (p := ⟨w.heap.size + 1 + 1, 1, none⟩) (by show w.heap.size + 1 ≠ w.heap.size + 1 + 1; omega) _) (p := ⟨w.heap.size + 1 + 1, 2, none⟩) (by show w.heap.size + 1 ≠ w.heap.size + 1 + 1; omega) _) (p := ⟨w.heap.size + 1 + 1, 3, none⟩) (by show w.heap.size + 1 ≠ w.heap.size + 1 + 1; omega) _) (p := ⟨w.heap.size + 1 + 1, 4, none⟩) (by show w.heap.size + 1 ≠ w.heap.size + 1 + 1; omega) _) (p := ⟨w.heap.size + 1 + 1, 5, none⟩) (by show w.heap.size + 1 ≠ w.heap.size + 1 + 1; omega) _) : Blk V13 (w.heap.size + 1) 24 #[.float .f64 s.lo, .float .f64 s.hi])
  have K29 := Lib.hid (hV14 ▸ (Blk.set_ (Blk.set_ (Blk.set_ (Blk.set_ (Blk.set_ (Blk.set_ ((K2.out.below D11.out K2.out.lt)) 0 _) 1 _) 2 _) 3 _) 4 _) 5 _) : Blk V13 (w.heap.size + 1 + 1) 26 (vc p1))
  have HB30 := Lib.hid (hV14 ▸ (Below.setCell (Below.setCell (Below.setCell (Below.setCell (Below.setCell (Below.setCell (below_step HB.out D11.out) (p := ⟨w.heap.size + 1 + 1, 0, none⟩) (by show w.heap.size ≤ w.heap.size + 1 + 1; omega) _) (p := ⟨w.heap.size + 1 + 1, 1, none⟩) (by show w.heap.size ≤ w.heap.size + 1 + 1; omega) _) (p := ⟨w.heap.size + 1 + 1, 2, none⟩) (by show w.heap.size ≤ w.heap.size + 1 + 1; omega) _) (p := ⟨w.heap.size + 1 + 1, 3, none⟩) (by show w.heap.size ≤ w.heap.size + 1 + 1; omega) _) (p := ⟨w.heap.size + 1 + 1, 4, none⟩) (by show w.heap.size ≤ w.heap.size + 1 + 1; omega) _) (p := ⟨w.heap.size + 1 + 1, 5, none⟩) (by show w.heap.size ≤ w.heap.size + 1 + 1; omega) _) : Below w.heap.size w V13)
  have D31 := Lib.hid (Below.refl V13.heap.size V13)
  clear K0 K1 K2 HB D11
  go_simp
  clear hV14 f15 u16 f17 u18 f19 u20 f21 u22 f23 u24 f25 u26
  have hS32 : True ∧ V13.cell? ⟨w.heap.size, 0, none⟩ = some (.float .f64 a.x.lo) ∧ V13.cell? ⟨w.heap.size, 1, none⟩ = some (.float .f64 a.x.hi) ∧ V13.cell? ⟨w.heap.size, 2, none⟩ = some (.float .f64 a.y.lo) ∧ V13.cell? ⟨w.heap.size, 3, none⟩ = some (.float .f64 a.y.hi) ∧ V13.cell? ⟨w.heap.size, 4, none⟩ = some (.float .f64 a.z.lo) ∧ V13.cell? ⟨w.heap.size, 5, none⟩ = some (.float .f64 a.z.hi) ∧ V13.cell? ⟨w.heap.size + 1, 0, none⟩ = some (.float .f64 s.lo) ∧ V13.cell? ⟨w.heap.size + 1, 1, none⟩ = some (.float .f64 s.hi) := ⟨trivial, (K27.out.below D31.out K27.out.lt).cell 0, (K27.out.below D31.out K27.out.lt).cell 1, (K27.out.below D31.out K27.out.lt).cell 2, (K27.out.below D31.out K27.out.lt).cell 3, (K27.out.below D31.out K27.out.lt).cell 4, (K27.out.below D31.out K27.out.lt).cell 5, (K28.out.below D31.out K28.out.lt).cell 0, (K28.out.below D31.out K28.out.lt).cell 1⟩
  refine hK _ _ hS32 ?_
  clear hK K hS12
  refine wpAnyH_done (by kernel_rfl) ?_ _
  clear hS32
  go_wp2_with fail
  (try simp only [Exit.inBlock, Exit.then])
  exact bodyPost_ret (res_c rfl _ _ (w.heap.size + 1 + 1) (vc p1) rfl (K29.out.below D31.out K29.out.lt) (by rw [info_V3]; rfl) Try.underlying26 rfl) rfl ⟨rfl, below_step HB30.out D31.out⟩
set_option maxRecDepth 100000 in
set_option maxHeartbeats 8000000 in
theorem unitV_any (a : V3) (w : World) : Calls Try.prog 53 #[Value.agg #[.float .f64 a.x.lo, .float .f64 a.x.hi, .float .f64 a.y.lo, .float .f64 a.y.hi, .float .f64 a.z.lo, .float .f64 a.z.hi]] w fun r w' => r = .returned (.tuple #[vval (vUnit a), .agg #[.float .f64 (vLen a).lo, .float .f64 (vLen a).hi]]) ∧ Below w.heap.size w w' := by
  have C0 := Lib.hid (fun w => sqrV_any a w)
  obtain ⟨p0, hp0⟩ : ∃ p, vSqr a = p := ⟨_, rfl⟩
  rw [hp0] at C0
  have C1 := Lib.hid (fun w => sqrt_sp p0 w)
  obtain ⟨p1, hp1⟩ : ∃ p, sqrtS p0 = p := ⟨_, rfl⟩
  rw [hp1] at C1
  have C2 := Lib.hid (fun w => div_sp a.x p1 w)
  obtain ⟨p2, hp2⟩ : ∃ p, divS a.x p1 = p := ⟨_, rfl⟩
  rw [hp2] at C2
  have C3 := Lib.hid (fun w => div_sp a.y p1 w)
  obtain ⟨p3, hp3⟩ : ∃ p, divS a.y p1 = p := ⟨_, rfl⟩
  rw [hp3] at C3
  have C4 := Lib.hid (fun w => div_sp a.z p1 w)
  obtain ⟨p4, hp4⟩ : ∃ p, divS a.z p1 = p := ⟨_, rfl⟩
  rw [hp4] at C4
  have hT0 : vUnit a = (⟨p2, p3, p4⟩ : V3) := by
    subst hp0 hp1 hp2 hp3 hp4; rfl
  have hT1 : vLen a = p1 := by
    subst hp0 hp1 hp2 hp3 hp4; rfl
  rw [hT0, hT1]
  clear hT0 hT1
  clear hp0 hp1 hp2 hp3 hp4
  go_enter Try.func53, Try.ntmps53
  go_wp2_with fail
  obtain ⟨W, hW, K0, K1, K2, hB, hz⟩ := bx3 w 26 26 24 (vc a) #[.float .f64 0, .float .f64 0, .float .f64 0, .float .f64 0, .float .f64 0, .float .f64 0] #[.float .f64 0, .float .f64 0]
  rw [← hW]
  have K0 := Lib.hid K0
  have K1 := Lib.hid K1
  have K2 := Lib.hid K2
  have HB := Lib.hid hB
  clear hW hB hz
  have D1 := Lib.hid (Below.refl W.heap.size W)
  refine (C0.out _).mono ?_
  rintro r w2 ⟨rfl, hb⟩
  have D3 := Lib.hid (below_step D1.out hb)
  clear D1
  clear hb
  go_wp2_with fail
  refine (C1.out _).mono ?_
  rintro r w4 ⟨rfl, hb⟩
  have D5 := Lib.hid (below_step D3.out hb)
  clear D3
  clear hb
  obtain ⟨g6, hg8⟩ : ∃ g, w4.heap.size = g := ⟨_, rfl⟩
  have Y10 := Lib.hid (show w.heap.size + 1 + 1 < g6 by rw [← hg8]; exact (K2.out.below D5.out K2.out.lt).lt)
  obtain ⟨V7, hV9⟩ : ∃ V, w4.alloc (.cells #[.float .f64 0, .float .f64 0] 24) = V := ⟨_, rfl⟩
  have K11 := Lib.hid (hV9 ▸ Blk.alloc (K0.out.below D5.out K0.out.lt) _ : Blk V7 (w.heap.size) 26 (vc a))
  have K12 := Lib.hid (hV9 ▸ Blk.alloc (K1.out.below D5.out K1.out.lt) _ : Blk V7 (w.heap.size + 1) 26 #[.float .f64 0, .float .f64 0, .float .f64 0, .float .f64 0, .float .f64 0, .float .f64 0])
  have K13 := Lib.hid (hV9 ▸ Blk.alloc (K2.out.below D5.out K2.out.lt) _ : Blk V7 (w.heap.size + 1 + 1) 24 #[.float .f64 0, .float .f64 0])
  have K14 := Lib.hid (by rw [← hV9, ← hg8]; exact Blk.new_at _ _ _ rfl : Blk V7 (g6) 24 #[.float .f64 0, .float .f64 0])
  have HB15 := Lib.hid (hV9 ▸ below_more (below_step HB.out D5.out) _ : Below w.heap.size w V7)
  have D16 := Lib.hid (Below.refl V7.heap.size V7)
  clear K0 K1 K2 HB D5
  have f19 := (K14.out.below D16.out K14.out.lt).cell 0
  have u20 := (K14.out.below D16.out K14.out.lt).unfrozen 0
  have f21 := (K14.out.below D16.out K14.out.lt).cell 1
  have u22 := (K14.out.below D16.out K14.out.lt).unfrozen 1
  obtain ⟨V17, hV18⟩ : ∃ V, ((V7.setCell ⟨g6, 0, none⟩ (.float .f64 p1.lo)).setCell ⟨g6, 1, none⟩ (.float .f64 p1.hi)) = V := ⟨_, rfl⟩
  have K23 := Lib.hid (hV18 ▸ (Blk.far (Blk.far ((K11.out.below D16.out K11.out.lt)) (p := ⟨g6, 0, none⟩) (by show w.heap.size ≠ g6; have := Y10.out; omega) _) (p := ⟨g6, 1, none⟩) (by show w.heap.size ≠ g6; have := Y10.out; omega) _) : Blk V17 (w.heap.size) 26 (vc a))
  have K24 := Lib.hid (hV18 ▸ (Blk.far (Blk.far ((K12.out.below D16.out K12.out.lt)) (p := ⟨g6, 0, none⟩) (by show w.heap.size + 1 ≠ g6; have := Y10.out; omega) _) (p := ⟨g6, 1, none⟩) (by show w.heap.size + 1 ≠ g6; have := Y10.out; omega) _) : Blk V17 (w.heap.size + 1) 26 #[.float .f64 0, .float .f64 0, .float .f64 0, .float .f64 0, .float .f64 0, .float .f64 0])
  have K25 := Lib.hid (hV18 ▸ (Blk.far (Blk.far ((K13.out.below D16.out K13.out.lt)) (p := ⟨g6, 0, none⟩) (by show w.heap.size + 1 + 1 ≠ g6; have := Y10.out; omega) _) (p := ⟨g6, 1, none⟩) (by show w.heap.size + 1 + 1 ≠ g6; have := Y10.out; omega) _) : Blk V17 (w.heap.size + 1 + 1) 24 #[.float .f64 0, .float .f64 0])
  have K26 := Lib.hid (hV18 ▸ (Blk.set_ (Blk.set_ ((K14.out.below D16.out K14.out.lt)) 0 _) 1 _) : Blk V17 (g6) 24 #[.float .f64 p1.lo, .float .f64 p1.hi])
  have HB27 := Lib.hid (hV18 ▸ (Below.setCell (Below.setCell (below_step HB15.out D16.out) (p := ⟨g6, 0, none⟩) (by show w.heap.size ≤ g6; have := Y10.out; omega) _) (p := ⟨g6, 1, none⟩) (by show w.heap.size ≤ g6; have := Y10.out; omega) _) : Below w.heap.size w V17)
  have D28 := Lib.hid (Below.refl V17.heap.size V17)
  clear K11 K12 K13 K14 HB15 D16
  go_wp2_with fail
  clear hg8 hV9 hV18 f19 u20 f21 u22
  refine wp_region_held (S := (fun w' => True ∧ w'.cell? ⟨w.heap.size, 0, none⟩ = some (.float .f64 a.x.lo) ∧ w'.cell? ⟨w.heap.size, 1, none⟩ = some (.float .f64 a.x.hi) ∧ w'.cell? ⟨g6, 0, none⟩ = some (.float .f64 p1.lo) ∧ w'.cell? ⟨g6, 1, none⟩ = some (.float .f64 p1.hi) ∧ w'.cell? ⟨w.heap.size, 2, none⟩ = some (.float .f64 a.y.lo) ∧ w'.cell? ⟨w.heap.size, 3, none⟩ = some (.float .f64 a.y.hi) ∧ w'.cell? ⟨w.heap.size, 4, none⟩ = some (.float .f64 a.z.lo) ∧ w'.cell? ⟨w.heap.size, 5, none⟩ = some (.float .f64 a.z.hi))) (by kernel_rfl) ?_
  change wpAnyH _ _ _ _ _ _ _ _ (World.drew _)
  obtain ⟨wd29, hwd⟩ : ∃ x, x = World.drew V17 := ⟨_, rfl⟩
  rw [← hwd]
  have D30 := Lib.hid (hwd ▸ Below.drew D28.out : Below V17.heap.size V17 wd29)
  clear D28 hwd
  have hS31 : True ∧ wd29.cell? ⟨w.heap.size, 0, none⟩ = some (.float .f64 a.x.lo) ∧ wd29.cell? ⟨w.heap.size, 1, none⟩ = some (.float .f64 a.x.hi) ∧ wd29.cell? ⟨g6, 0, none⟩ = some (.float .f64 p1.lo) ∧ wd29.cell? ⟨g6, 1, none⟩ = some (.float .f64 p1.hi) ∧ wd29.cell? ⟨w.heap.size, 2, none⟩ = some (.float .f64 a.y.lo) ∧ wd29.cell? ⟨w.heap.size, 3, none⟩ = some (.float .f64 a.y.hi) ∧ wd29.cell? ⟨w.heap.size, 4, none⟩ = some (.float .f64 a.z.lo) ∧ wd29.cell? ⟨w.heap.size, 5, none⟩ = some (.float .f64 a.z.hi) := ⟨trivial, (K23.out.below D30.out K23.out.lt).cell 0, (K23.out.below D30.out K23.out.lt).cell 1, (K26.out.below D30.out K26.out.lt).cell 0, (K26.out.below D30.out K26.out.lt).cell 1, (K23.out.below D30.out K23.out.lt).cell 2, (K23.out.below D30.out K23.out.lt).cell 3, (K23.out.below D30.out K23.out.lt).cell 4, (K23.out.below D30.out K23.out.lt).cell 5⟩
  refine wpAnyH_takeN (i := 0) (v := ?vq32) (l' := bm 16 1) (a' := ?aq32) rfl (by kernel_rfl) (by kernel_rfl) (by kernel_rfl) (fun _ _ _ h => h) (Or.inl ⟨by kernel_rfl, ?hq32⟩) (by kernel_rfl) ?pq32 hS31 ?rq32
  case hq32 => (intro w hS; go_simp; try with_reducible rfl)
  case pq32 => (go_simp; try with_reducible rfl)
  refine wpAnyH_takeN (i := 1) (v := ?vq33) (l' := bm 16 3) (a' := ?aq33) rfl (by kernel_rfl) (by kernel_rfl) (by kernel_rfl) (fun _ _ _ h => h) (Or.inl ⟨by kernel_rfl, ?hq33⟩) (by kernel_rfl) ?pq33 hS31 ?rq33
  case hq33 => (intro w hS; go_simp; try with_reducible rfl)
  case pq33 => (go_simp; try with_reducible rfl)
  refine wpAnyH_takeN (i := 2) (v := ?vq34) (l' := bm 16 7) (a' := ?aq34) rfl (by kernel_rfl) (by kernel_rfl) (by kernel_rfl) (fun _ _ _ h => h) (Or.inl ⟨by kernel_rfl, ?hq34⟩) (by kernel_rfl) ?pq34 hS31 ?rq34
  case hq34 => (intro w hS; go_simp; try with_reducible rfl)
  case pq34 => (go_simp; try with_reducible rfl)
  refine wpAnyH_takeN (i := 4) (v := ?vq35) (l' := bm 16 23) (a' := ?aq35) rfl (by kernel_rfl) (by kernel_rfl) (by kernel_rfl) (fun _ _ _ h => h) (Or.inl ⟨by kernel_rfl, ?hq35⟩) (by kernel_rfl) ?pq35 hS31 ?rq35
  case hq35 => (intro w hS; go_simp; try with_reducible rfl)
  case pq35 => (go_simp; try with_reducible rfl)
  refine wpAnyH_takeN (i := 5) (v := ?vq36) (l' := bm 16 55) (a' := ?aq36) rfl (by kernel_rfl) (by kernel_rfl) (by kernel_rfl) (fun _ _ _ h => h) (Or.inl ⟨by kernel_rfl, ?hq36⟩) (by kernel_rfl) ?pq36 hS31 ?rq36
  case hq36 => (intro w hS; go_simp; try with_reducible rfl)
  case pq36 => (go_simp; try with_reducible rfl)
  refine wpAnyH_takeN (i := 6) (v := ?vq37) (l' := bm 16 119) (a' := ?aq37) rfl (by kernel_rfl) (by kernel_rfl) (by kernel_rfl) (fun _ _ _ h => h) (Or.inl ⟨by kernel_rfl, ?hq37⟩) (by kernel_rfl) ?pq37 hS31 ?rq37
  case hq37 => (intro w hS; go_simp; try with_reducible rfl)
  case pq37 => (go_simp; try with_reducible rfl)
  refine wpAnyH_takeN (i := 8) (v := ?vq38) (l' := bm 16 375) (a' := ?aq38) rfl (by kernel_rfl) (by kernel_rfl) (by kernel_rfl) (fun _ _ _ h => h) (Or.inl ⟨by kernel_rfl, ?hq38⟩) (by kernel_rfl) ?pq38 hS31 ?rq38
  case hq38 => (intro w hS; go_simp; try with_reducible rfl)
  case pq38 => (go_simp; try with_reducible rfl)
  refine wpAnyH_takeN (i := 9) (v := ?vq39) (l' := bm 16 887) (a' := ?aq39) rfl (by kernel_rfl) (by kernel_rfl) (by kernel_rfl) (fun _ _ _ h => h) (Or.inl ⟨by kernel_rfl, ?hq39⟩) (by kernel_rfl) ?pq39 hS31 ?rq39
  case hq39 => (intro w hS; go_simp; try with_reducible rfl)
  case pq39 => (go_simp; try with_reducible rfl)
  refine wpAnyH_takeN (i := 10) (v := ?vq40) (l' := bm 16 1911) (a' := ?aq40) rfl (by kernel_rfl) (by kernel_rfl) (by kernel_rfl) (fun _ _ _ h => h) (Or.inl ⟨by kernel_rfl, ?hq40⟩) (by kernel_rfl) ?pq40 hS31 ?rq40
  case hq40 => (intro w hS; go_simp; try with_reducible rfl)
  case pq40 => (go_simp; try with_reducible rfl)
  refine wpAnyH_takeN (i := 13) (v := ?vq41) (l' := bm 16 10103) (a' := ?aq41) rfl (by kernel_rfl) (by kernel_rfl) (by kernel_rfl) (fun _ _ _ h => h) (Or.inl ⟨by kernel_rfl, ?hq41⟩) (by kernel_rfl) ?pq41 hS31 ?rq41
  case hq41 => (intro w hS; go_simp; try with_reducible rfl)
  case pq41 => (go_simp; try with_reducible rfl)
  refine wpAnyH_oneN (i := 3) (l' := bm 16 10111) rfl (by kernel_rfl) (by kernel_rfl) (by kernel_rfl) (fun K hK => ?_)
  go_simp
  go_at_call 71
  refine (C2.out _).mono ?_
  rintro r w42 ⟨rfl, hb⟩
  dsimp only
  have D43 := Lib.hid (below_step D30.out hb)
  clear D30
  clear hb
  have hS44 : True ∧ w42.cell? ⟨w.heap.size, 0, none⟩ = some (.float .f64 a.x.lo) ∧ w42.cell? ⟨w.heap.size, 1, none⟩ = some (.float .f64 a.x.hi) ∧ w42.cell? ⟨g6, 0, none⟩ = some (.float .f64 p1.lo) ∧ w42.cell? ⟨g6, 1, none⟩ = some (.float .f64 p1.hi) ∧ w42.cell? ⟨w.heap.size, 2, none⟩ = some (.float .f64 a.y.lo) ∧ w42.cell? ⟨w.heap.size, 3, none⟩ = some (.float .f64 a.y.hi) ∧ w42.cell? ⟨w.heap.size, 4, none⟩ = some (.float .f64 a.z.lo) ∧ w42.cell? ⟨w.heap.size, 5, none⟩ = some (.float .f64 a.z.hi) := ⟨trivial, (K23.out.below D43.out K23.out.lt).cell 0, (K23.out.below D43.out K23.out.lt).cell 1, (K26.out.below D43.out K26.out.lt).cell 0, (K26.out.below D43.out K26.out.lt).cell 1, (K23.out.below D43.out K23.out.lt).cell 2, (K23.out.below D43.out K23.out.lt).cell 3, (K23.out.below D43.out K23.out.lt).cell 4, (K23.out.below D43.out K23.out.lt).cell 5⟩
  refine hK _ _ hS44 ?_
  clear hK K hS31
  refine wpAnyH_oneN (i := 7) (l' := bm 16 10239) rfl (by kernel_rfl) (by kernel_rfl) (by kernel_rfl) (fun K hK => ?_)
  go_simp
  go_at_call 71
  refine (C3.out _).mono ?_
  rintro r w45 ⟨rfl, hb⟩
  dsimp only
  have D46 := Lib.hid (below_step D43.out hb)
  clear D43
  clear hb
  have hS47 : True ∧ w45.cell? ⟨w.heap.size, 0, none⟩ = some (.float .f64 a.x.lo) ∧ w45.cell? ⟨w.heap.size, 1, none⟩ = some (.float .f64 a.x.hi) ∧ w45.cell? ⟨g6, 0, none⟩ = some (.float .f64 p1.lo) ∧ w45.cell? ⟨g6, 1, none⟩ = some (.float .f64 p1.hi) ∧ w45.cell? ⟨w.heap.size, 2, none⟩ = some (.float .f64 a.y.lo) ∧ w45.cell? ⟨w.heap.size, 3, none⟩ = some (.float .f64 a.y.hi) ∧ w45.cell? ⟨w.heap.size, 4, none⟩ = some (.float .f64 a.z.lo) ∧ w45.cell? ⟨w.heap.size, 5, none⟩ = some (.float .f64 a.z.hi) := ⟨trivial, (K23.out.below D46.out K23.out.lt).cell 0, (K23.out.below D46.out K23.out.lt).cell 1, (K26.out.below D46.out K26.out.lt).cell 0, (K26.out.below D46.out K26.out.lt).cell 1, (K23.out.below D46.out K23.out.lt).cell 2, (K23.out.below D46.out K23.out.lt).cell 3, (K23.out.below D46.out K23.out.lt).cell 4, (K23.out.below D46.out K23.out.lt).cell 5⟩
  refine hK _ _ hS47 ?_
  clear hK K hS44
  refine wpAnyH_oneN (i := 11) (l' := bm 16 12287) rfl (by kernel_rfl) (by kernel_rfl) (by kernel_rfl) (fun K hK => ?_)
  go_simp
  go_at_call 71
  refine (C4.out _).mono ?_
  rintro r w48 ⟨rfl, hb⟩
  dsimp only
  have D49 := Lib.hid (below_step D46.out hb)
  clear D46
  clear hb
  have hS50 : True ∧ w48.cell? ⟨w.heap.size, 0, none⟩ = some (.float .f64 a.x.lo) ∧ w48.cell? ⟨w.heap.size, 1, none⟩ = some (.float .f64 a.x.hi) ∧ w48.cell? ⟨g6, 0, none⟩ = some (.float .f64 p1.lo) ∧ w48.cell? ⟨g6, 1, none⟩ = some (.float .f64 p1.hi) ∧ w48.cell? ⟨w.heap.size, 2, none⟩ = some (.float .f64 a.y.lo) ∧ w48.cell? ⟨w.heap.size, 3, none⟩ = some (.float .f64 a.y.hi) ∧ w48.cell? ⟨w.heap.size, 4, none⟩ = some (.float .f64 a.z.lo) ∧ w48.cell? ⟨w.heap.size, 5, none⟩ = some (.float .f64 a.z.hi) := ⟨trivial, (K23.out.below D49.out K23.out.lt).cell 0, (K23.out.below D49.out K23.out.lt).cell 1, (K26.out.below D49.out K26.out.lt).cell 0, (K26.out.below D49.out K26.out.lt).cell 1, (K23.out.below D49.out K23.out.lt).cell 2, (K23.out.below D49.out K23.out.lt).cell 3, (K23.out.below D49.out K23.out.lt).cell 4, (K23.out.below D49.out K23.out.lt).cell 5⟩
  refine hK _ _ hS50 ?_
  clear hK K hS47
  refine wpAnyH_takeN (i := 12) (v := ?vq51) (l' := bm 16 16383) (a' := ?aq51) rfl (by kernel_rfl) (by kernel_rfl) (by kernel_rfl) (fun _ _ _ h => h) (Or.inl ⟨by kernel_rfl, ?hq51⟩) (by kernel_rfl) ?pq51 hS50 ?rq51
  case hq51 => (intro w hS; go_simp; try with_reducible rfl)
  case pq51 => (go_simp; try with_reducible rfl)
  refine wpAnyH_oneN (i := 14) (l' := bm 16 32767) rfl (by kernel_rfl) (by kernel_rfl) (by kernel_rfl) (fun K hK => ?_)
  have f54 := (K24.out.below D49.out K24.out.lt).cell 0
  have u55 := (K24.out.below D49.out K24.out.lt).unfrozen 0
  have f56 := (K24.out.below D49.out K24.out.lt).cell 1
  have u57 := (K24.out.below D49.out K24.out.lt).unfrozen 1
  have f58 := (K24.out.below D49.out K24.out.lt).cell 2
  have u59 := (K24.out.below D49.out K24.out.lt).unfrozen 2
  have f60 := (K24.out.below D49.out K24.out.lt).cell 3
  have u61 := (K24.out.below D49.out K24.out.lt).unfrozen 3
  have f62 := (K24.out.below D49.out K24.out.lt).cell 4
  have u63 := (K24.out.below D49.out K24.out.lt).unfrozen 4
  have f64 := (K24.out.below D49.out K24.out.lt).cell 5
  have u65 := (K24.out.below D49.out K24.out.lt).unfrozen 5
  obtain ⟨V52, hV53⟩ : ∃ V, ((((((w48.setCell ⟨w.heap.size + 1, 0, none⟩ (.float .f64 p2.lo)).setCell ⟨w.heap.size + 1, 1, none⟩ (.float .f64 p2.hi)).setCell ⟨w.heap.size + 1, 2, none⟩ (.float .f64 p3.lo)).setCell ⟨w.heap.size + 1, 3, none⟩ (.float .f64 p3.hi)).setCell ⟨w.heap.size + 1, 4, none⟩ (.float .f64 p4.lo)).setCell ⟨w.heap.size + 1, 5, none⟩ (.float .f64 p4.hi)) = V := ⟨_, rfl⟩
  have K66 := Lib.hid (hV53 ▸ (Blk.far (Blk.far (Blk.far (Blk.far (Blk.far (Blk.far ((K23.out.below D49.out K23.out.lt)) (p := ⟨w.heap.size + 1, 0, none⟩) (by show w.heap.size ≠ w.heap.size + 1; have := Y10.out; omega) _) (p := ⟨w.heap.size + 1, 1, none⟩) (by show w.heap.size ≠ w.heap.size + 1; have := Y10.out; omega) _) (p := ⟨w.heap.size + 1, 2, none⟩) (by show w.heap.size ≠ w.heap.size + 1; have := Y10.out; omega) _) (p := ⟨w.heap.size + 1, 3, none⟩) (by show w.heap.size ≠ w.heap.size + 1; have := Y10.out; omega) _) (p := ⟨w.heap.size + 1, 4, none⟩) (by show w.heap.size ≠ w.heap.size + 1; have := Y10.out; omega) _) (p := ⟨w.heap.size + 1, 5, none⟩) (by show w.heap.size ≠ w.heap.size + 1; have := Y10.out; omega) _) : Blk V52 (w.heap.size) 26 (vc a))
  have K67 := Lib.hid (hV53 ▸ (Blk.set_ (Blk.set_ (Blk.set_ (Blk.set_ (Blk.set_ (Blk.set_ ((K24.out.below D49.out K24.out.lt)) 0 _) 1 _) 2 _) 3 _) 4 _) 5 _) : Blk V52 (w.heap.size + 1) 26 #[.float .f64 p2.lo, .float .f64 p2.hi, .float .f64 p3.lo, .float .f64 p3.hi, .float .f64 p4.lo, .float .f64 p4.hi])
  have K68 := Lib.hid (hV53 ▸ (Blk.far (Blk.far (Blk.far (Blk.far (Blk.far (Blk.far ((K25.out.below D49.out K25.out.lt)) (p := ⟨w.heap.size + 1, 0, none⟩) (by show w.heap.size + 1 + 1 ≠ w.heap.size + 1; have := Y10.out; omega) _) (p := ⟨w.heap.size + 1, 1, none⟩) (by show w.heap.size + 1 + 1 ≠ w.heap.size + 1; have := Y10.out; omega) _) (p := ⟨w.heap.size + 1, 2, none⟩) (by show w.heap.size + 1 + 1 ≠ w.heap.size + 1; have := Y10.out; omega) _) (p := ⟨w.heap.size + 1, 3, none⟩) (by show w.heap.size + 1 + 1 ≠ w.heap.size + 1; have := Y10.out; omega) _) (p := ⟨w.heap.size + 1, 4, none⟩) (by show w.heap.size + 1 + 1 ≠ w.heap.size + 1; have := Y10.out; omega) _) (p := ⟨w.heap.size + 1, 5, none⟩) (by show w.heap.size + 1 + 1 ≠ w.heap.size + 1; have := Y10.out; omega) _) : Blk V52 (w.heap.size + 1 + 1) 24 #[.float .f64 0, .float .f64 0])
  have K69 := Lib.hid (hV53 ▸ (Blk.far (Blk.far (Blk.far (Blk.far (Blk.far (Blk.far ((K26.out.below D49.out K26.out.lt)) (p := ⟨w.heap.size + 1, 0, none⟩) (by show g6 ≠ w.heap.size + 1; have := Y10.out; omega) _) (p := ⟨w.heap.size + 1, 1, none⟩) (by show g6 ≠ w.heap.size + 1; have := Y10.out; omega) _) (p := ⟨w.heap.size + 1, 2, none⟩) (by show g6 ≠ w.heap.size + 1; have := Y10.out; omega) _) (p := ⟨w.heap.size + 1, 3, none⟩) (by show g6 ≠ w.heap.size + 1; have := Y10.out; omega) _) (p := ⟨w.heap.size + 1, 4, none⟩) (by show g6 ≠ w.heap.size + 1; have := Y10.out; omega) _) (p := ⟨w.heap.size + 1, 5, none⟩) (by show g6 ≠ w.heap.size + 1; have := Y10.out; omega) _) : Blk V52 (g6) 24 #[.float .f64 p1.lo, .float .f64 p1.hi])
  have HB70 := Lib.hid (hV53 ▸ (Below.setCell (Below.setCell (Below.setCell (Below.setCell (Below.setCell (Below.setCell (below_step HB27.out D49.out) (p := ⟨w.heap.size + 1, 0, none⟩) (by show w.heap.size ≤ w.heap.size + 1; have := Y10.out; omega) _) (p := ⟨w.heap.size + 1, 1, none⟩) (by show w.heap.size ≤ w.heap.size + 1; have := Y10.out; omega) _) (p := ⟨w.heap.size + 1, 2, none⟩) (by show w.heap.size ≤ w.heap.size + 1; have := Y10.out; omega) _) (p := ⟨w.heap.size + 1, 3, none⟩) (by show w.heap.size ≤ w.heap.size + 1; have := Y10.out; omega) _) (p := ⟨w.heap.size + 1, 4, none⟩) (by show w.heap.size ≤ w.heap.size + 1; have := Y10.out; omega) _) (p := ⟨w.heap.size + 1, 5, none⟩) (by show w.heap.size ≤ w.heap.size + 1; have := Y10.out; omega) _) : Below w.heap.size w V52)
  have D71 := Lib.hid (Below.refl V52.heap.size V52)
  clear K23 K24 K25 K26 HB27 D49
  go_simp
  clear hV53 f54 u55 f56 u57 f58 u59 f60 u61 f62 u63 f64 u65
  have hS72 : True ∧ V52.cell? ⟨w.heap.size, 0, none⟩ = some (.float .f64 a.x.lo) ∧ V52.cell? ⟨w.heap.size, 1, none⟩ = some (.float .f64 a.x.hi) ∧ V52.cell? ⟨g6, 0, none⟩ = some (.float .f64 p1.lo) ∧ V52.cell? ⟨g6, 1, none⟩ = some (.float .f64 p1.hi) ∧ V52.cell? ⟨w.heap.size, 2, none⟩ = some (.float .f64 a.y.lo) ∧ V52.cell? ⟨w.heap.size, 3, none⟩ = some (.float .f64 a.y.hi) ∧ V52.cell? ⟨w.heap.size, 4, none⟩ = some (.float .f64 a.z.lo) ∧ V52.cell? ⟨w.heap.size, 5, none⟩ = some (.float .f64 a.z.hi) := ⟨trivial, (K66.out.below D71.out K66.out.lt).cell 0, (K66.out.below D71.out K66.out.lt).cell 1, (K69.out.below D71.out K69.out.lt).cell 0, (K69.out.below D71.out K69.out.lt).cell 1, (K66.out.below D71.out K66.out.lt).cell 2, (K66.out.below D71.out K66.out.lt).cell 3, (K66.out.below D71.out K66.out.lt).cell 4, (K66.out.below D71.out K66.out.lt).cell 5⟩
  refine hK _ _ hS72 ?_
  clear hK K hS50
  refine wpAnyH_oneN (i := 15) (l' := bm 16 65535) rfl (by kernel_rfl) (by kernel_rfl) (by kernel_rfl) (fun K hK => ?_)
  have f75 := (K68.out.below D71.out K68.out.lt).cell 0
  have u76 := (K68.out.below D71.out K68.out.lt).unfrozen 0
  have f77 := (K68.out.below D71.out K68.out.lt).cell 1
  have u78 := (K68.out.below D71.out K68.out.lt).unfrozen 1
  obtain ⟨V73, hV74⟩ : ∃ V, ((V52.setCell ⟨w.heap.size + 1 + 1, 0, none⟩ (.float .f64 p1.lo)).setCell ⟨w.heap.size + 1 + 1, 1, none⟩ (.float .f64 p1.hi)) = V := ⟨_, rfl⟩
  have K79 := Lib.hid (hV74 ▸ (Blk.far (Blk.far ((K66.out.below D71.out K66.out.lt)) (p := ⟨w.heap.size + 1 + 1, 0, none⟩) (by show w.heap.size ≠ w.heap.size + 1 + 1; have := Y10.out; omega) _) (p := ⟨w.heap.size + 1 + 1, 1, none⟩) (by show w.heap.size ≠ w.heap.size + 1 + 1; have := Y10.out; omega) _) : Blk V73 (w.heap.size) 26 (vc a))
  have K80 := Lib.hid (hV74 ▸ (Blk.far (Blk.far ((K67.out.below D71.out K67.out.lt)) (p := ⟨w.heap.size + 1 + 1, 0, none⟩) (by show w.heap.size + 1 ≠ w.heap.size + 1 + 1; have := Y10.out; omega) _) (p := ⟨w.heap.size + 1 + 1, 1, none⟩) (by show w.heap.size + 1 ≠ w.heap.size + 1 + 1; have := Y10.out; omega) _) : Blk V73 (w.heap.size + 1) 26 #[.float .f64 p2.lo, .float .f64 p2.hi, .float .f64 p3.lo, .float .f64 p3.hi, .float .f64 p4.lo, .float .f64 p4.hi])
  have K81 := Lib.hid (hV74 ▸ (Blk.set_ (Blk.set_ ((K68.out.below D71.out K68.out.lt)) 0 _) 1 _) : Blk V73 (w.heap.size + 1 + 1) 24 #[.float .f64 p1.lo, .float .f64 p1.hi])
  have K82 := Lib.hid (hV74 ▸ (Blk.far (Blk.far ((K69.out.below D71.out K69.out.lt)) (p := ⟨w.heap.size + 1 + 1, 0, none⟩) (by show g6 ≠ w.heap.size + 1 + 1; have := Y10.out; omega) _) (p := ⟨w.heap.size + 1 + 1, 1, none⟩) (by show g6 ≠ w.heap.size + 1 + 1; have := Y10.out; omega) _) : Blk V73 (g6) 24 #[.float .f64 p1.lo, .float .f64 p1.hi])
  have HB83 := Lib.hid (hV74 ▸ (Below.setCell (Below.setCell (below_step HB70.out D71.out) (p := ⟨w.heap.size + 1 + 1, 0, none⟩) (by show w.heap.size ≤ w.heap.size + 1 + 1; have := Y10.out; omega) _) (p := ⟨w.heap.size + 1 + 1, 1, none⟩) (by show w.heap.size ≤ w.heap.size + 1 + 1; have := Y10.out; omega) _) : Below w.heap.size w V73)
  have D84 := Lib.hid (Below.refl V73.heap.size V73)
  clear K66 K67 K68 K69 HB70 D71
  go_simp
  clear hV74 f75 u76 f77 u78
  have hS85 : True ∧ V73.cell? ⟨w.heap.size, 0, none⟩ = some (.float .f64 a.x.lo) ∧ V73.cell? ⟨w.heap.size, 1, none⟩ = some (.float .f64 a.x.hi) ∧ V73.cell? ⟨g6, 0, none⟩ = some (.float .f64 p1.lo) ∧ V73.cell? ⟨g6, 1, none⟩ = some (.float .f64 p1.hi) ∧ V73.cell? ⟨w.heap.size, 2, none⟩ = some (.float .f64 a.y.lo) ∧ V73.cell? ⟨w.heap.size, 3, none⟩ = some (.float .f64 a.y.hi) ∧ V73.cell? ⟨w.heap.size, 4, none⟩ = some (.float .f64 a.z.lo) ∧ V73.cell? ⟨w.heap.size, 5, none⟩ = some (.float .f64 a.z.hi) := ⟨trivial, (K79.out.below D84.out K79.out.lt).cell 0, (K79.out.below D84.out K79.out.lt).cell 1, (K82.out.below D84.out K82.out.lt).cell 0, (K82.out.below D84.out K82.out.lt).cell 1, (K79.out.below D84.out K79.out.lt).cell 2, (K79.out.below D84.out K79.out.lt).cell 3, (K79.out.below D84.out K79.out.lt).cell 4, (K79.out.below D84.out K79.out.lt).cell 5⟩
  refine hK _ _ hS85 ?_
  clear hK K hS72
  refine wpAnyH_done (by kernel_rfl) ?_ _
  clear hS85
  go_wp2_with fail
  (try simp only [Exit.inBlock, Exit.then])
  exact bodyPost_ret (res_cc rfl _ _ (w.heap.size + 1) #[.float .f64 p2.lo, .float .f64 p2.hi, .float .f64 p3.lo, .float .f64 p3.hi, .float .f64 p4.lo, .float .f64 p4.hi] (w.heap.size + 1 + 1) #[.float .f64 p1.lo, .float .f64 p1.hi] rfl (K80.out.below D84.out K80.out.lt) (by rw [info_V3]; rfl) Try.underlying26 rfl rfl (K81.out.below D84.out K81.out.lt) (by rw [info_Span]; rfl) Try.underlying24 rfl) rfl ⟨rfl, below_step HB83.out D84.out⟩
end Go.Proofs.Ytdgaaceebghcpaa
