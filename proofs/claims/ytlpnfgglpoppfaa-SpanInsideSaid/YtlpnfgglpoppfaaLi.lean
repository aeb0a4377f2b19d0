/- The walk of SpanInside (gen_li.py). -/
import Derived.Test.YtlpnfgglpoppfaaGf
import Derived.Test.YtlpnfgglpoppfaaSf
import Derived.Test.YtlpnfgglpoppfaaRh
set_option linter.unusedVariables false
set_option linter.unusedSimpArgs false
namespace Go.Proofs.Ytlpnfgglpoppfaa
open Go.RowKit Fl

/-- Does one lie in the other? -/
def wiB (c a : Sp) : Bool := leF a.lo c.lo && leF c.hi a.hi
theorem wiB_iff (c a : Sp) : wiB c a = true ↔ Wi c a := by
  unfold wiB
  rw [leF_gd a.vd.l c.vd.l, leF_gd c.vd.h a.vd.h]
  constructor
  · intro h
    have ⟨h1, h2⟩ : Z a.lo ≤ Z c.lo ∧ Z c.hi ≤ Z a.hi := by simpa using h
    exact ⟨h1, h2⟩
  · intro h
    rw [decide_eq_true h.lo, decide_eq_true h.hi]; rfl
theorem within_b (c a : Sp) (w : World) : Calls Try.prog 67 #[.agg #[.float .f64 c.lo, .float .f64 c.hi], .agg #[.float .f64 a.lo, .float .f64 a.hi]] w fun r w' => r = .returned (.bool (wiB c a)) ∧ Below w.heap.size w w' :=
  (within_any c.lo c.hi a.lo a.hi w).mono fun _ _ ⟨h, o, o', e⟩ => ⟨h, e ▸ below_new2 w o o'⟩
theorem within_sp {c a : Sp} (h : Wi c a) (w : World) : Calls Try.prog 67 #[.agg #[.float .f64 c.lo, .float .f64 c.hi], .agg #[.float .f64 a.lo, .float .f64 a.hi]] w fun r w' => r = .returned (.bool true) ∧ Below w.heap.size w w' := by
  have := within_b c a w
  rw [(wiB_iff c a).2 h] at this
  exact this
theorem stays_sp (u v : Int) (h : u = 2 ∨ v = u) (w : World) : Calls Try.prog 68 #[.int .i64 u, .int .i64 v] w fun r w' => r = .returned (.bool true) ∧ Below w.heap.size w w' := by
  rcases h with rfl | rfl
  · go_enter Try.func68, Try.ntmps68
    go_wp2_with fail
    go_ret
    exact ⟨rfl, Below.refl _ _⟩
  · by_cases h2 : v = 2
    · subst h2
      go_enter Try.func68, Try.ntmps68
      go_wp2_with fail
      go_ret
      exact ⟨rfl, Below.refl _ _⟩
    · have e : ((v : Int) == 2) = false := by simpa using h2
      go_enter Try.func68, Try.ntmps68
      go_wp2_with fail
      go_ret
      exact ⟨ret_bool (by simp), Below.refl _ _⟩
set_option maxRecDepth 100000 in
theorem inside_n0 (a b c d e f g h : Nat) (ha' : a < 18446744073709551616) (hb' : b < 18446744073709551616) (hc' : c < 18446744073709551616) (hd' : d < 18446744073709551616) (he' : e < 18446744073709551616) (hf' : f < 18446744073709551616) (hg' : g < 18446744073709551616) (hh' : h < 18446744073709551616) (v0 : vdB a b = false) (w : World) : Calls Try.prog 13 #[.agg #[.float .f64 a, .float .f64 b], .agg #[.float .f64 c, .float .f64 d], .agg #[.float .f64 e, .float .f64 f], .agg #[.float .f64 g, .float .f64 h]] w fun r w' => r = .returned (.bool true) ∧ Below w.heap.size w w' := by
  have H0 := Lib.hid awake2
  have U0 := Lib.hid (fun w => rvalid_any a b ha' hb' w)
  rw [v0] at U0
  go_enter Try.func13, Try.ntmps13
  go_wp2_with fail
  obtain ⟨W, hW, K0, K1, K2, K3, hB, hz⟩ := bx4 w 24 24 24 24 #[Value.float FloatKind.f64 a, Value.float FloatKind.f64 b] #[Value.float FloatKind.f64 c, Value.float FloatKind.f64 d] #[Value.float FloatKind.f64 e, Value.float FloatKind.f64 f] #[Value.float FloatKind.f64 g, Value.float FloatKind.f64 h]
  rw [← hW]
  have K0 := Lib.hid K0
  have K1 := Lib.hid K1
  have K2 := Lib.hid K2
  have K3 := Lib.hid K3
  have HB := Lib.hid hB
  clear hW hB hz
  have HO := Lib.hid (show ∀ w', Below W.heap.size W w' → (Below W.heap.size W w' ∧ w'.cell? ⟨w.heap.size, 0, none⟩ = some (Value.float FloatKind.f64 a) ∧ w'.cell? ⟨w.heap.size, 1, none⟩ = some (Value.float FloatKind.f64 b) ∧ w'.cell? ⟨w.heap.size + 1, 0, none⟩ = some (Value.float FloatKind.f64 c) ∧ w'.cell? ⟨w.heap.size + 1, 1, none⟩ = some (Value.float FloatKind.f64 d) ∧ w'.cell? ⟨w.heap.size + 1 + 1, 0, none⟩ = some (Value.float FloatKind.f64 e) ∧ w'.cell? ⟨w.heap.size + 1 + 1, 1, none⟩ = some (Value.float FloatKind.f64 f) ∧ w'.cell? ⟨w.heap.size + 1 + 1 + 1, 0, none⟩ = some (Value.float FloatKind.f64 g) ∧ w'.cell? ⟨w.heap.size + 1 + 1 + 1, 1, none⟩ = some (Value.float FloatKind.f64 h)) from fun w' h => ⟨h, (K0.out.below h K0.out.lt).cell 0, (K0.out.below h K0.out.lt).cell 1, (K1.out.below h K1.out.lt).cell 0, (K1.out.below h K1.out.lt).cell 1, (K2.out.below h K2.out.lt).cell 0, (K2.out.below h K2.out.lt).cell 1, (K3.out.below h K3.out.lt).cell 0, (K3.out.below h K3.out.lt).cell 1⟩)
  have D0 := Lib.hid (Below.refl W.heap.size W)
  refine (H0.out _).mono ?_
  rintro r w1 ⟨rfl, hb⟩
  have D1 := Lib.hid (below_step D0.out hb)
  clear hb
  have hq := (HO.out _ D1.out).2
  go_wp2_with fail
  refine (U0.out _).mono ?_
  clear hq
  rintro r w2 ⟨rfl, hb⟩
  have D2 := Lib.hid (below_step D1.out hb)
  clear hb
  have hq := (HO.out _ D2.out).2
  go_wp2_with fail
  go_ret
  exact ⟨rfl, below_step HB.out D2.out⟩
set_option maxRecDepth 100000 in
theorem inside_n1 (a b c d e f g h : Nat) (ha' : a < 18446744073709551616) (hb' : b < 18446744073709551616) (hc' : c < 18446744073709551616) (hd' : d < 18446744073709551616) (he' : e < 18446744073709551616) (hf' : f < 18446744073709551616) (hg' : g < 18446744073709551616) (hh' : h < 18446744073709551616) (v0 : vdB a b = true) (v1 : vdB c d = false) (w : World) : Calls Try.prog 13 #[.agg #[.float .f64 a, .float .f64 b], .agg #[.float .f64 c, .float .f64 d], .agg #[.float .f64 e, .float .f64 f], .agg #[.float .f64 g, .float .f64 h]] w fun r w' => r = .returned (.bool true) ∧ Below w.heap.size w w' := by
  have H0 := Lib.hid awake2
  have U0 := Lib.hid (fun w => rvalid_any a b ha' hb' w)
  rw [v0] at U0
  have U1 := Lib.hid (fun w => rvalid_any c d hc' hd' w)
  rw [v1] at U1
  go_enter Try.func13, Try.ntmps13
  go_wp2_with fail
  obtain ⟨W, hW, K0, K1, K2, K3, hB, hz⟩ := bx4 w 24 24 24 24 #[Value.float FloatKind.f64 a, Value.float FloatKind.f64 b] #[Value.float FloatKind.f64 c, Value.float FloatKind.f64 d] #[Value.float FloatKind.f64 e, Value.float FloatKind.f64 f] #[Value.float FloatKind.f64 g, Value.float FloatKind.f64 h]
  rw [← hW]
  have K0 := Lib.hid K0
  have K1 := Lib.hid K1
  have K2 := Lib.hid K2
  have K3 := Lib.hid K3
  have HB := Lib.hid hB
  clear hW hB hz
  have HO := Lib.hid (show ∀ w', Below W.heap.size W w' → (Below W.heap.size W w' ∧ w'.cell? ⟨w.heap.size, 0, none⟩ = some (Value.float FloatKind.f64 a) ∧ w'.cell? ⟨w.heap.size, 1, none⟩ = some (Value.float FloatKind.f64 b) ∧ w'.cell? ⟨w.heap.size + 1, 0, none⟩ = some (Value.float FloatKind.f64 c) ∧ w'.cell? ⟨w.heap.size + 1, 1, none⟩ = some (Value.float FloatKind.f64 d) ∧ w'.cell? ⟨w.heap.size + 1 + 1, 0, none⟩ = some (Value.float FloatKind.f64 e) ∧ w'.cell? ⟨w.heap.size + 1 + 1, 1, none⟩ = some (Value.float FloatKind.f64 f) ∧ w'.cell? ⟨w.heap.size + 1 + 1 + 1, 0, none⟩ = some (Value.float FloatKind.f64 g) ∧ w'.cell? ⟨w.heap.size + 1 + 1 + 1, 1, none⟩ = some (Value.float FloatKind.f64 h)) from fun w' h => ⟨h, (K0.out.below h K0.out.lt).cell 0, (K0.out.below h K0.out.lt).cell 1, (K1.out.below h K1.out.lt).cell 0, (K1.out.below h K1.out.lt).cell 1, (K2.out.below h K2.out.lt).cell 0, (K2.out.below h K2.out.lt).cell 1, (K3.out.below h K3.out.lt).cell 0, (K3.out.below h K3.out.lt).cell 1⟩)
  have D0 := Lib.hid (Below.refl W.heap.size W)
  refine (H0.out _).mono ?_
  rintro r w1 ⟨rfl, hb⟩
  have D1 := Lib.hid (below_step D0.out hb)
  clear hb
  have hq := (HO.out _ D1.out).2
  go_wp2_with fail
  refine (U0.out _).mono ?_
  clear hq
  rintro r w2 ⟨rfl, hb⟩
  have D2 := Lib.hid (below_step D1.out hb)
  clear hb
  have hq := (HO.out _ D2.out).2
  go_wp2_with fail
  refine (U1.out _).mono ?_
  clear hq
  rintro r w3 ⟨rfl, hb⟩
  have D3 := Lib.hid (below_step D2.out hb)
  clear hb
  have hq := (HO.out _ D3.out).2
  go_wp2_with fail
  go_ret
  exact ⟨rfl, below_step HB.out D3.out⟩
set_option maxRecDepth 100000 in
theorem inside_n2 (a b c d e f g h : Nat) (ha' : a < 18446744073709551616) (hb' : b < 18446744073709551616) (hc' : c < 18446744073709551616) (hd' : d < 18446744073709551616) (he' : e < 18446744073709551616) (hf' : f < 18446744073709551616) (hg' : g < 18446744073709551616) (hh' : h < 18446744073709551616) (v0 : vdB a b = true) (v1 : vdB c d = true) (v2 : vdB e f = false) (w : World) : Calls Try.prog 13 #[.agg #[.float .f64 a, .float .f64 b], .agg #[.float .f64 c, .float .f64 d], .agg #[.float .f64 e, .float .f64 f], .agg #[.float .f64 g, .float .f64 h]] w fun r w' => r = .returned (.bool true) ∧ Below w.heap.size w w' := by
  have H0 := Lib.hid awake2
  have U0 := Lib.hid (fun w => rvalid_any a b ha' hb' w)
  rw [v0] at U0
  have U1 := Lib.hid (fun w => rvalid_any c d hc' hd' w)
  rw [v1] at U1
  have U2 := Lib.hid (fun w => rvalid_any e f he' hf' w)
  rw [v2] at U2
  go_enter Try.func13, Try.ntmps13
  go_wp2_with fail
  obtain ⟨W, hW, K0, K1, K2, K3, hB, hz⟩ := bx4 w 24 24 24 24 #[Value.float FloatKind.f64 a, Value.float FloatKind.f64 b] #[Value.float FloatKind.f64 c, Value.float FloatKind.f64 d] #[Value.float FloatKind.f64 e, Value.float FloatKind.f64 f] #[Value.float FloatKind.f64 g, Value.float FloatKind.f64 h]
  rw [← hW]
  have K0 := Lib.hid K0
  have K1 := Lib.hid K1
  have K2 := Lib.hid K2
  have K3 := Lib.hid K3
  have HB := Lib.hid hB
  clear hW hB hz
  have HO := Lib.hid (show ∀ w', Below W.heap.size W w' → (Below W.heap.size W w' ∧ w'.cell? ⟨w.heap.size, 0, none⟩ = some (Value.float FloatKind.f64 a) ∧ w'.cell? ⟨w.heap.size, 1, none⟩ = some (Value.float FloatKind.f64 b) ∧ w'.cell? ⟨w.heap.size + 1, 0, none⟩ = some (Value.float FloatKind.f64 c) ∧ w'.cell? ⟨w.heap.size + 1, 1, none⟩ = some (Value.float FloatKind.f64 d) ∧ w'.cell? ⟨w.heap.size + 1 + 1, 0, none⟩ = some (Value.float FloatKind.f64 e) ∧ w'.cell? ⟨w.heap.size + 1 + 1, 1, none⟩ = some (Value.float FloatKind.f64 f) ∧ w'.cell? ⟨w.heap.size + 1 + 1 + 1, 0, none⟩ = some (Value.float FloatKind.f64 g) ∧ w'.cell? ⟨w.heap.size + 1 + 1 + 1, 1, none⟩ = some (Value.float FloatKind.f64 h)) from fun w' h => ⟨h, (K0.out.below h K0.out.lt).cell 0, (K0.out.below h K0.out.lt).cell 1, (K1.out.below h K1.out.lt).cell 0, (K1.out.below h K1.out.lt).cell 1, (K2.out.below h K2.out.lt).cell 0, (K2.out.below h K2.out.lt).cell 1, (K3.out.below h K3.out.lt).cell 0, (K3.out.below h K3.out.lt).cell 1⟩)
  have D0 := Lib.hid (Below.refl W.heap.size W)
  refine (H0.out _).mono ?_
  rintro r w1 ⟨rfl, hb⟩
  have D1 := Lib.hid (below_step D0.out hb)
  clear hb
  have hq := (HO.out _ D1.out).2
  go_wp2_with fail
  refine (U0.out _).mono ?_
  clear hq
  rintro r w2 ⟨rfl, hb⟩
  have D2 := Lib.hid (below_step D1.out hb)
  clear hb
  have hq := (HO.out _ D2.out).2
  go_wp2_with fail
  refine (U1.out _).mono ?_
  clear hq
  rintro r w3 ⟨rfl, hb⟩
  have D3 := Lib.hid (below_step D2.out hb)
  clear hb
  have hq := (HO.out _ D3.out).2
  go_wp2_with fail
  refine (U2.out _).mono ?_
  clear hq
  rintro r w4 ⟨rfl, hb⟩
  have D4 := Lib.hid (below_step D3.out hb)
  clear hb
  have hq := (HO.out _ D4.out).2
  go_wp2_with fail
  go_ret
  exact ⟨rfl, below_step HB.out D4.out⟩
set_option maxRecDepth 100000 in
theorem inside_n3 (a b c d e f g h : Nat) (ha' : a < 18446744073709551616) (hb' : b < 18446744073709551616) (hc' : c < 18446744073709551616) (hd' : d < 18446744073709551616) (he' : e < 18446744073709551616) (hf' : f < 18446744073709551616) (hg' : g < 18446744073709551616) (hh' : h < 18446744073709551616) (v0 : vdB a b = true) (v1 : vdB c d = true) (v2 : vdB e f = true) (v3 : vdB g h = false) (w : World) : Calls Try.prog 13 #[.agg #[.float .f64 a, .float .f64 b], .agg #[.float .f64 c, .float .f64 d], .agg #[.float .f64 e, .float .f64 f], .agg #[.float .f64 g, .float .f64 h]] w fun r w' => r = .returned (.bool true) ∧ Below w.heap.size w w' := by
  have H0 := Lib.hid awake2
  have U0 := Lib.hid (fun w => rvalid_any a b ha' hb' w)
  rw [v0] at U0
  have U1 := Lib.hid (fun w => rvalid_any c d hc' hd' w)
  rw [v1] at U1
  have U2 := Lib.hid (fun w => rvalid_any e f he' hf' w)
  rw [v2] at U2
  have U3 := Lib.hid (fun w => rvalid_any g h hg' hh' w)
  rw [v3] at U3
  go_enter Try.func13, Try.ntmps13
  go_wp2_with fail
  obtain ⟨W, hW, K0, K1, K2, K3, hB, hz⟩ := bx4 w 24 24 24 24 #[Value.float FloatKind.f64 a, Value.float FloatKind.f64 b] #[Value.float FloatKind.f64 c, Value.float FloatKind.f64 d] #[Value.float FloatKind.f64 e, Value.float FloatKind.f64 f] #[Value.float FloatKind.f64 g, Value.float FloatKind.f64 h]
  rw [← hW]
  have K0 := Lib.hid K0
  have K1 := Lib.hid K1
  have K2 := Lib.hid K2
  have K3 := Lib.hid K3
  have HB := Lib.hid hB
  clear hW hB hz
  have HO := Lib.hid (show ∀ w', Below W.heap.size W w' → (Below W.heap.size W w' ∧ w'.cell? ⟨w.heap.size, 0, none⟩ = some (Value.float FloatKind.f64 a) ∧ w'.cell? ⟨w.heap.size, 1, none⟩ = some (Value.float FloatKind.f64 b) ∧ w'.cell? ⟨w.heap.size + 1, 0, none⟩ = some (Value.float FloatKind.f64 c) ∧ w'.cell? ⟨w.heap.size + 1, 1, none⟩ = some (Value.float FloatKind.f64 d) ∧ w'.cell? ⟨w.heap.size + 1 + 1, 0, none⟩ = some (Value.float FloatKind.f64 e) ∧ w'.cell? ⟨w.heap.size + 1 + 1, 1, none⟩ = some (Value.float FloatKind.f64 f) ∧ w'.cell? ⟨w.heap.size + 1 + 1 + 1, 0, none⟩ = some (Value.float FloatKind.f64 g) ∧ w'.cell? ⟨w.heap.size + 1 + 1 + 1, 1, none⟩ = some (Value.float FloatKind.f64 h)) from fun w' h => ⟨h, (K0.out.below h K0.out.lt).cell 0, (K0.out.below h K0.out.lt).cell 1, (K1.out.below h K1.out.lt).cell 0, (K1.out.below h K1.out.lt).cell 1, (K2.out.below h K2.out.lt).cell 0, (K2.out.below h K2.out.lt).cell 1, (K3.out.below h K3.out.lt).cell 0, (K3.out.below h K3.out.lt).cell 1⟩)
  have D0 := Lib.hid (Below.refl W.heap.size W)
  refine (H0.out _).mono ?_
  rintro r w1 ⟨rfl, hb⟩
  have D1 := Lib.hid (below_step D0.out hb)
  clear hb
  have hq := (HO.out _ D1.out).2
  go_wp2_with fail
  refine (U0.out _).mono ?_
  clear hq
  rintro r w2 ⟨rfl, hb⟩
  have D2 := Lib.hid (below_step D1.out hb)
  clear hb
  have hq := (HO.out _ D2.out).2
  go_wp2_with fail
  refine (U1.out _).mono ?_
  clear hq
  rintro r w3 ⟨rfl, hb⟩
  have D3 := Lib.hid (below_step D2.out hb)
  clear hb
  have hq := (HO.out _ D3.out).2
  go_wp2_with fail
  refine (U2.out _).mono ?_
  clear hq
  rintro r w4 ⟨rfl, hb⟩
  have D4 := Lib.hid (below_step D3.out hb)
  clear hb
  have hq := (HO.out _ D4.out).2
  go_wp2_with fail
  refine (U3.out _).mono ?_
  clear hq
  rintro r w5 ⟨rfl, hb⟩
  have D5 := Lib.hid (below_step D4.out hb)
  clear hb
  have hq := (HO.out _ D5.out).2
  go_wp2_with fail
  go_ret
  exact ⟨rfl, below_step HB.out D5.out⟩
set_option maxRecDepth 100000 in
theorem inside_n4 (A B C D : Sp) (h1 : wiB C A = false) (w : World) : Calls Try.prog 13 #[.agg #[.float .f64 A.lo, .float .f64 A.hi], .agg #[.float .f64 B.lo, .float .f64 B.hi], .agg #[.float .f64 C.lo, .float .f64 C.hi], .agg #[.float .f64 D.lo, .float .f64 D.hi]] w fun r w' => r = .returned (.bool true) ∧ Below w.heap.size w w' := by
  have H0 := Lib.hid awake2
  have U0 := Lib.hid (fun w => rvalid_any A.lo A.hi A.vd.l.lt A.vd.h.lt w)
  rw [vdB_of A.vd] at U0
  have U1 := Lib.hid (fun w => rvalid_any B.lo B.hi B.vd.l.lt B.vd.h.lt w)
  rw [vdB_of B.vd] at U1
  have U2 := Lib.hid (fun w => rvalid_any C.lo C.hi C.vd.l.lt C.vd.h.lt w)
  rw [vdB_of C.vd] at U2
  have U3 := Lib.hid (fun w => rvalid_any D.lo D.hi D.vd.l.lt D.vd.h.lt w)
  rw [vdB_of D.vd] at U3
  have G1 := Lib.hid (fun w => within_b C A w)
  have G2 := Lib.hid (fun w => within_b D B w)
  rw [h1] at G1
  go_enter Try.func13, Try.ntmps13
  go_wp2_with fail
  obtain ⟨W, hW, K0, K1, K2, K3, hB, hz⟩ := bx4 w 24 24 24 24 #[Value.float FloatKind.f64 A.lo, Value.float FloatKind.f64 A.hi] #[Value.float FloatKind.f64 B.lo, Value.float FloatKind.f64 B.hi] #[Value.float FloatKind.f64 C.lo, Value.float FloatKind.f64 C.hi] #[Value.float FloatKind.f64 D.lo, Value.float FloatKind.f64 D.hi]
  rw [← hW]
  have K0 := Lib.hid K0
  have K1 := Lib.hid K1
  have K2 := Lib.hid K2
  have K3 := Lib.hid K3
  have HB := Lib.hid hB
  clear hW hB hz
  have HO := Lib.hid (show ∀ w', Below W.heap.size W w' → (Below W.heap.size W w' ∧ w'.cell? ⟨w.heap.size, 0, none⟩ = some (Value.float FloatKind.f64 A.lo) ∧ w'.cell? ⟨w.heap.size, 1, none⟩ = some (Value.float FloatKind.f64 A.hi) ∧ w'.cell? ⟨w.heap.size + 1, 0, none⟩ = some (Value.float FloatKind.f64 B.lo) ∧ w'.cell? ⟨w.heap.size + 1, 1, none⟩ = some (Value.float FloatKind.f64 B.hi) ∧ w'.cell? ⟨w.heap.size + 1 + 1, 0, none⟩ = some (Value.float FloatKind.f64 C.lo) ∧ w'.cell? ⟨w.heap.size + 1 + 1, 1, none⟩ = some (Value.float FloatKind.f64 C.hi) ∧ w'.cell? ⟨w.heap.size + 1 + 1 + 1, 0, none⟩ = some (Value.float FloatKind.f64 D.lo) ∧ w'.cell? ⟨w.heap.size + 1 + 1 + 1, 1, none⟩ = some (Value.float FloatKind.f64 D.hi)) from fun w' h => ⟨h, (K0.out.below h K0.out.lt).cell 0, (K0.out.below h K0.out.lt).cell 1, (K1.out.below h K1.out.lt).cell 0, (K1.out.below h K1.out.lt).cell 1, (K2.out.below h K2.out.lt).cell 0, (K2.out.below h K2.out.lt).cell 1, (K3.out.below h K3.out.lt).cell 0, (K3.out.below h K3.out.lt).cell 1⟩)
  have D0 := Lib.hid (Below.refl W.heap.size W)
  refine (H0.out _).mono ?_
  rintro r w1 ⟨rfl, hb⟩
  have D1 := Lib.hid (below_step D0.out hb)
  clear hb
  have hq := (HO.out _ D1.out).2
  go_wp2_with fail
  refine (U0.out _).mono ?_
  clear hq
  rintro r w2 ⟨rfl, hb⟩
  have D2 := Lib.hid (below_step D1.out hb)
  clear hb
  have hq := (HO.out _ D2.out).2
  go_wp2_with fail
  refine (U1.out _).mono ?_
  clear hq
  rintro r w3 ⟨rfl, hb⟩
  have D3 := Lib.hid (below_step D2.out hb)
  clear hb
  have hq := (HO.out _ D3.out).2
  go_wp2_with fail
  refine (U2.out _).mono ?_
  clear hq
  rintro r w4 ⟨rfl, hb⟩
  have D4 := Lib.hid (below_step D3.out hb)
  clear hb
  have hq := (HO.out _ D4.out).2
  go_wp2_with fail
  refine (U3.out _).mono ?_
  clear hq
  rintro r w5 ⟨rfl, hb⟩
  have D5 := Lib.hid (below_step D4.out hb)
  clear hb
  have hq := (HO.out _ D5.out).2
  go_wp2_with fail
  refine (G1.out _).mono ?_
  clear hq
  rintro r w6 ⟨rfl, hb⟩
  have D6 := Lib.hid (below_step D5.out hb)
  clear hb
  have hq := (HO.out _ D6.out).2
  go_wp2_with fail
  go_ret
  exact ⟨rfl, below_step HB.out D6.out⟩
set_option maxRecDepth 100000 in
theorem inside_n5 (A B C D : Sp) (h1 : wiB C A = true) (h2 : wiB D B = false) (w : World) : Calls Try.prog 13 #[.agg #[.float .f64 A.lo, .float .f64 A.hi], .agg #[.float .f64 B.lo, .float .f64 B.hi], .agg #[.float .f64 C.lo, .float .f64 C.hi], .agg #[.float .f64 D.lo, .float .f64 D.hi]] w fun r w' => r = .returned (.bool true) ∧ Below w.heap.size w w' := by
  have H0 := Lib.hid awake2
  have U0 := Lib.hid (fun w => rvalid_any A.lo A.hi A.vd.l.lt A.vd.h.lt w)
  rw [vdB_of A.vd] at U0
  have U1 := Lib.hid (fun w => rvalid_any B.lo B.hi B.vd.l.lt B.vd.h.lt w)
  rw [vdB_of B.vd] at U1
  have U2 := Lib.hid (fun w => rvalid_any C.lo C.hi C.vd.l.lt C.vd.h.lt w)
  rw [vdB_of C.vd] at U2
  have U3 := Lib.hid (fun w => rvalid_any D.lo D.hi D.vd.l.lt D.vd.h.lt w)
  rw [vdB_of D.vd] at U3
  have G1 := Lib.hid (fun w => within_b C A w)
  have G2 := Lib.hid (fun w => within_b D B w)
  rw [h1] at G1
  rw [h2] at G2
  go_enter Try.func13, Try.ntmps13
  go_wp2_with fail
  obtain ⟨W, hW, K0, K1, K2, K3, hB, hz⟩ := bx4 w 24 24 24 24 #[Value.float FloatKind.f64 A.lo, Value.float FloatKind.f64 A.hi] #[Value.float FloatKind.f64 B.lo, Value.float FloatKind.f64 B.hi] #[Value.float FloatKind.f64 C.lo, Value.float FloatKind.f64 C.hi] #[Value.float FloatKind.f64 D.lo, Value.float FloatKind.f64 D.hi]
  rw [← hW]
  have K0 := Lib.hid K0
  have K1 := Lib.hid K1
  have K2 := Lib.hid K2
  have K3 := Lib.hid K3
  have HB := Lib.hid hB
  clear hW hB hz
  have HO := Lib.hid (show ∀ w', Below W.heap.size W w' → (Below W.heap.size W w' ∧ w'.cell? ⟨w.heap.size, 0, none⟩ = some (Value.float FloatKind.f64 A.lo) ∧ w'.cell? ⟨w.heap.size, 1, none⟩ = some (Value.float FloatKind.f64 A.hi) ∧ w'.cell? ⟨w.heap.size + 1, 0, none⟩ = some (Value.float FloatKind.f64 B.lo) ∧ w'.cell? ⟨w.heap.size + 1, 1, none⟩ = some (Value.float FloatKind.f64 B.hi) ∧ w'.cell? ⟨w.heap.size + 1 + 1, 0, none⟩ = some (Value.float FloatKind.f64 C.lo) ∧ w'.cell? ⟨w.heap.size + 1 + 1, 1, none⟩ = some (Value.float FloatKind.f64 C.hi) ∧ w'.cell? ⟨w.heap.size + 1 + 1 + 1, 0, none⟩ = some (Value.float FloatKind.f64 D.lo) ∧ w'.cell? ⟨w.heap.size + 1 + 1 + 1, 1, none⟩ = some (Value.float FloatKind.f64 D.hi)) from fun w' h => ⟨h, (K0.out.below h K0.out.lt).cell 0, (K0.out.below h K0.out.lt).cell 1, (K1.out.below h K1.out.lt).cell 0, (K1.out.below h K1.out.lt).cell 1, (K2.out.below h K2.out.lt).cell 0, (K2.out.below h K2.out.lt).cell 1, (K3.out.below h K3.out.lt).cell 0, (K3.out.below h K3.out.lt).cell 1⟩)
  have D0 := Lib.hid (Below.refl W.heap.size W)
  refine (H0.out _).mono ?_
  rintro r w1 ⟨rfl, hb⟩
  have D1 := Lib.hid (below_step D0.out hb)
  clear hb
  have hq := (HO.out _ D1.out).2
  go_wp2_with fail
  refine (U0.out _).mono ?_
  clear hq
  rintro r w2 ⟨rfl, hb⟩
  have D2 := Lib.hid (below_step D1.out hb)
  clear hb
  have hq := (HO.out _ D2.out).2
  go_wp2_with fail
  refine (U1.out _).mono ?_
  clear hq
  rintro r w3 ⟨rfl, hb⟩
  have D3 := Lib.hid (below_step D2.out hb)
  clear hb
  have hq := (HO.out _ D3.out).2
  go_wp2_with fail
  refine (U2.out _).mono ?_
  clear hq
  rintro r w4 ⟨rfl, hb⟩
  have D4 := Lib.hid (below_step D3.out hb)
  clear hb
  have hq := (HO.out _ D4.out).2
  go_wp2_with fail
  refine (U3.out _).mono ?_
  clear hq
  rintro r w5 ⟨rfl, hb⟩
  have D5 := Lib.hid (below_step D4.out hb)
  clear hb
  have hq := (HO.out _ D5.out).2
  go_wp2_with fail
  refine (G1.out _).mono ?_
  clear hq
  rintro r w6 ⟨rfl, hb⟩
  have D6 := Lib.hid (below_step D5.out hb)
  clear hb
  have hq := (HO.out _ D6.out).2
  go_wp2_with fail
  refine (G2.out _).mono ?_
  clear hq
  rintro r w7 ⟨rfl, hb⟩
  have D7 := Lib.hid (below_step D6.out hb)
  clear hb
  have hq := (HO.out _ D7.out).2
  go_wp2_with fail
  go_ret
  exact ⟨rfl, below_step HB.out D7.out⟩
theorem root_way {C A : Sp} (hC : Wi C A) : ((FloatKind.f64.format.order C.hi 0 == some .gt || FloatKind.f64.format.order C.hi 0 == some .eq) = true ∧ Wi (sqrtS C) (sqrtS A)) ∨ (FloatKind.f64.format.order C.hi 0 == some .gt || FloatKind.f64.format.order C.hi 0 == some .eq) = false := by
  rw [ge0_gd C.vd.h]
  by_cases h : 0 ≤ Z C.hi
  · exact Or.inl ⟨decide_eq_true h, wi_sqrt hC h⟩
  · exact Or.inr (decide_eq_false h)
end Go.Proofs.Ytlpnfgglpoppfaa
