/- The walk of SpanNests, the ways that end early (gen_lk.py). -/
import Derived.Test.YtlpnfgglpoppfaaLi
import Derived.Test.YtlpnfgglpoppfaaSr
import Derived.Test.YtlpnfgglpoppfaaRh
set_option linter.unusedVariables false
set_option linter.unusedSimpArgs false
namespace Go.Proofs.Ytlpnfgglpoppfaa
open Go.RowKit Fl

set_option maxRecDepth 100000 in
theorem nests_n1 (a b c d s0 s1 s2 s3 : Nat) (ha : a < 18446744073709551616) (hb : b < 18446744073709551616) (hc : c < 18446744073709551616) (hd : d < 18446744073709551616) (h1 : vdB a b = false) (w : World) : Calls Try.prog 12 #[.agg #[.float .f64 a, .float .f64 b], .agg #[.float .f64 c, .float .f64 d], .agg #[.float .f64 s0, .float .f64 s1, .float .f64 s2, .float .f64 s3]] w fun r w' => r = .returned (.bool true) ∧ Below w.heap.size w w' := by
  have H0 := Lib.hid awake2
  have H1 := Lib.hid (fun w => rvalid_any a b ha hb w)
  have H2 := Lib.hid (fun w => rvalid_any c d hc hd w)
  rw [h1] at H1
  go_enter Try.func12, Try.ntmps12
  go_wp2_with fail
  obtain ⟨W, hW, K0, K1, K2, hB, hz⟩ := bx3 w 24 24 57 #[Value.float FloatKind.f64 a, Value.float FloatKind.f64 b] #[Value.float FloatKind.f64 c, Value.float FloatKind.f64 d] #[Value.float FloatKind.f64 s0, Value.float FloatKind.f64 s1, Value.float FloatKind.f64 s2, Value.float FloatKind.f64 s3]
  rw [← hW]
  have K0 := Lib.hid K0
  have K1 := Lib.hid K1
  have K2 := Lib.hid K2
  have HB := Lib.hid hB
  clear hW hB hz
  have HO := Lib.hid (show ∀ w', Below W.heap.size W w' → (Below W.heap.size W w' ∧ w'.cell? ⟨w.heap.size, 0, none⟩ = some (Value.float FloatKind.f64 a) ∧ w'.cell? ⟨w.heap.size, 1, none⟩ = some (Value.float FloatKind.f64 b) ∧ w'.cell? ⟨w.heap.size + 1, 0, none⟩ = some (Value.float FloatKind.f64 c) ∧ w'.cell? ⟨w.heap.size + 1, 1, none⟩ = some (Value.float FloatKind.f64 d) ∧ w'.cell? ⟨w.heap.size + 1 + 1, 0, none⟩ = some (Value.float FloatKind.f64 s0) ∧ w'.cell? ⟨w.heap.size + 1 + 1, 1, none⟩ = some (Value.float FloatKind.f64 s1) ∧ w'.cell? ⟨w.heap.size + 1 + 1, 2, none⟩ = some (Value.float FloatKind.f64 s2) ∧ w'.cell? ⟨w.heap.size + 1 + 1, 3, none⟩ = some (Value.float FloatKind.f64 s3)) from fun w' h => ⟨h, (K0.out.below h K0.out.lt).cell 0, (K0.out.below h K0.out.lt).cell 1, (K1.out.below h K1.out.lt).cell 0, (K1.out.below h K1.out.lt).cell 1, (K2.out.below h K2.out.lt).cell 0, (K2.out.below h K2.out.lt).cell 1, (K2.out.below h K2.out.lt).cell 2, (K2.out.below h K2.out.lt).cell 3⟩)
  have D0 := Lib.hid (Below.refl W.heap.size W)
  refine (H0.out _).mono ?_
  rintro r w1 ⟨rfl, hb⟩
  have D1 := Lib.hid (below_step D0.out hb)
  clear hb
  have hq := (HO.out _ D1.out).2
  go_wp2_with fail
  refine (H1.out _).mono ?_
  clear hq
  rintro r w2 ⟨rfl, hb⟩
  have D2 := Lib.hid (below_step D1.out hb)
  clear hb
  have hq := (HO.out _ D2.out).2
  go_wp2_with fail
  go_ret
  exact ⟨rfl, below_step HB.out D2.out⟩
set_option maxRecDepth 100000 in
theorem nests_n2 (a b c d s0 s1 s2 s3 : Nat) (ha : a < 18446744073709551616) (hb : b < 18446744073709551616) (hc : c < 18446744073709551616) (hd : d < 18446744073709551616) (h1 : vdB a b = true) (h2 : vdB c d = false) (w : World) : Calls Try.prog 12 #[.agg #[.float .f64 a, .float .f64 b], .agg #[.float .f64 c, .float .f64 d], .agg #[.float .f64 s0, .float .f64 s1, .float .f64 s2, .float .f64 s3]] w fun r w' => r = .returned (.bool true) ∧ Below w.heap.size w w' := by
  have H0 := Lib.hid awake2
  have H1 := Lib.hid (fun w => rvalid_any a b ha hb w)
  have H2 := Lib.hid (fun w => rvalid_any c d hc hd w)
  rw [h1] at H1
  rw [h2] at H2
  go_enter Try.func12, Try.ntmps12
  go_wp2_with fail
  obtain ⟨W, hW, K0, K1, K2, hB, hz⟩ := bx3 w 24 24 57 #[Value.float FloatKind.f64 a, Value.float FloatKind.f64 b] #[Value.float FloatKind.f64 c, Value.float FloatKind.f64 d] #[Value.float FloatKind.f64 s0, Value.float FloatKind.f64 s1, Value.float FloatKind.f64 s2, Value.float FloatKind.f64 s3]
  rw [← hW]
  have K0 := Lib.hid K0
  have K1 := Lib.hid K1
  have K2 := Lib.hid K2
  have HB := Lib.hid hB
  clear hW hB hz
  have HO := Lib.hid (show ∀ w', Below W.heap.size W w' → (Below W.heap.size W w' ∧ w'.cell? ⟨w.heap.size, 0, none⟩ = some (Value.float FloatKind.f64 a) ∧ w'.cell? ⟨w.heap.size, 1, none⟩ = some (Value.float FloatKind.f64 b) ∧ w'.cell? ⟨w.heap.size + 1, 0, none⟩ = some (Value.float FloatKind.f64 c) ∧ w'.cell? ⟨w.heap.size + 1, 1, none⟩ = some (Value.float FloatKind.f64 d) ∧ w'.cell? ⟨w.heap.size + 1 + 1, 0, none⟩ = some (Value.float FloatKind.f64 s0) ∧ w'.cell? ⟨w.heap.size + 1 + 1, 1, none⟩ = some (Value.float FloatKind.f64 s1) ∧ w'.cell? ⟨w.heap.size + 1 + 1, 2, none⟩ = some (Value.float FloatKind.f64 s2) ∧ w'.cell? ⟨w.heap.size + 1 + 1, 3, none⟩ = some (Value.float FloatKind.f64 s3)) from fun w' h => ⟨h, (K0.out.below h K0.out.lt).cell 0, (K0.out.below h K0.out.lt).cell 1, (K1.out.below h K1.out.lt).cell 0, (K1.out.below h K1.out.lt).cell 1, (K2.out.below h K2.out.lt).cell 0, (K2.out.below h K2.out.lt).cell 1, (K2.out.below h K2.out.lt).cell 2, (K2.out.below h K2.out.lt).cell 3⟩)
  have D0 := Lib.hid (Below.refl W.heap.size W)
  refine (H0.out _).mono ?_
  rintro r w1 ⟨rfl, hb⟩
  have D1 := Lib.hid (below_step D0.out hb)
  clear hb
  have hq := (HO.out _ D1.out).2
  go_wp2_with fail
  refine (H1.out _).mono ?_
  clear hq
  rintro r w2 ⟨rfl, hb⟩
  have D2 := Lib.hid (below_step D1.out hb)
  clear hb
  have hq := (HO.out _ D2.out).2
  go_wp2_with fail
  refine (H2.out _).mono ?_
  clear hq
  rintro r w3 ⟨rfl, hb⟩
  have D3 := Lib.hid (below_step D2.out hb)
  clear hb
  have hq := (HO.out _ D3.out).2
  go_wp2_with fail
  go_ret
  exact ⟨rfl, below_step HB.out D3.out⟩
end Go.Proofs.Ytlpnfgglpoppfaa
