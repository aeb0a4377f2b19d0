/- SpanNests: for every input the law returns true; no condition. -/
import Derived.Test.YtlpnfgglpoppfaaRowKit
import Derived.Lib.SmallJoins
import Derived.Test.YtlpnfgglpoppfaaLk0
set_option linter.unusedVariables false
set_option linter.unusedSimpArgs false
namespace Go.Proofs.Ytlpnfgglpoppfaa
open Go.ChangeShapes Go.WideShapes Go.ChangeAt Go.RowKit Go.Joins

section
variable {H : Type} {enc : TypeId × Value → H} {w : World} {base : Nat} {spare : Nat → Bool} {held : Bool}
theorem trod_float1 {n : Nat} {t : TypeId} {v : Value} {y : DataW H × List MemPlace} (ht : Try.prog.underlying t = some (.float .f64)) (h : DataW.trod enc Try.prog w base spare held n t [v] = some y) :
    ∃ b, v = .float .f64 b ∧ y = (.lit (.float .f64 b), []) ∧ (Lit.float .f64 b).wf = true := by
  cases n with
  | zero => simp [DataW.trod] at h
  | succ n =>
    cases v <;> simp [DataW.trod, ht] at h
    rename_i k b
    cases k <;> simp at h
    obtain ⟨h1, h2⟩ := h
    exact ⟨b, rfl, h2.symm, h1⟩
theorem cellsS : Try.prog.cellsOf 24 = 2 := by kernel_rfl
set_option maxRecDepth 100000 in
theorem open_span {r : Reach} {b0 : Nat} {v : Value} {d : DataW H} {p : List MemPlace} (hv : Value.okWide Try.prog w r b0 24 v) (h : DataW.Trod enc Try.prog w base spare held 24 v d p) :
    ∃ a b : Nat, v = .agg #[.float .f64 a, .float .f64 b] ∧ d = .agg [.lit (.float .f64 a), .lit (.float .f64 b)] ∧ p = [] ∧ (Lit.float .f64 a).wf = true ∧ (Lit.float .f64 b).wf = true := by
  obtain ⟨v0, v1, y0, y1, n, rfl, rfl, rfl, h0, h1⟩ := open_agg2 Try.underlying24 (by kernel_rfl) cellsS hv h
  obtain ⟨a, rfl, rfl, wa⟩ := trod_float1 Try.underlying22 h0
  obtain ⟨b, rfl, rfl, wb⟩ := trod_float1 Try.underlying22 h1
  exact ⟨a, b, rfl, rfl, rfl, wa, wb⟩
set_option maxRecDepth 100000 in
theorem shut_span {a b : Nat} (ha : (Lit.float .f64 a).wf = true) (hb : (Lit.float .f64 b).wf = true) :
    DataW.Trod enc Try.prog w base spare held 24 (.agg #[.float .f64 a, .float .f64 b]) (.agg [.lit (.float .f64 a), .lit (.float .f64 b)]) [] := by
  have h := shut_agg2 (enc := enc) (w := w) (base := base) (spare := spare) (held := held) (v0 := .float .f64 a) (v1 := .float .f64 b) (y0 := (.lit (.float .f64 a), [])) (y1 := (.lit (.float .f64 b), [])) Try.underlying24 (by kernel_rfl) cellsS
    ⟨1, by simp [DataW.trod, Try.underlying22, ha]⟩ ⟨1, by simp [DataW.trod, Try.underlying22, hb]⟩
  exact h
end
end Go.Proofs.Ytlpnfgglpoppfaa

namespace Go.Proofs.Ytlpnfgglpoppfaa
open Go.ChangeShapes Go.WideShapes Go.ChangeAt Go.RowKit Go.Joins

section
variable {H : Type} {enc : TypeId × Value → H} {w : World} {base : Nat} {spare : Nat → Bool} {held : Bool}
theorem okWide_array {P : Program} {r : Reach} {b0 n : Nat} {t e : TypeId} {v : Value} (ht : P.underlying t = some (.array n e)) (h : Value.okWide P w r b0 t v) : ∃ cs, v = .agg cs ∧ cs.size = P.cellsOf t := by
  simp only [Value.okWide, ht] at h
  obtain ⟨cs, h1, h2, _⟩ := h
  exact ⟨cs, h1, h2⟩
theorem cellsN : Try.prog.cellsOf 57 = 4 := by kernel_rfl
theorem cellsF : Try.prog.cellsOf 22 = 1 := by kernel_rfl
theorem range4 : List.range 4 = [0, 1, 2, 3] := rfl
set_option maxRecDepth 100000 in
theorem open_four {r : Reach} {b0 : Nat} {v : Value} {d : DataW H} {p : List MemPlace} (hv : Value.okWide Try.prog w r b0 57 v) (h : DataW.Trod enc Try.prog w base spare held 57 v d p) :
    ∃ a b c e : Nat, v = .agg #[.float .f64 a, .float .f64 b, .float .f64 c, .float .f64 e] ∧ d = .agg [.lit (.float .f64 a), .lit (.float .f64 b), .lit (.float .f64 c), .lit (.float .f64 e)] ∧ p = [] ∧
      (Lit.float .f64 a).wf = true ∧ (Lit.float .f64 b).wf = true ∧ (Lit.float .f64 c).wf = true ∧ (Lit.float .f64 e).wf = true := by
  obtain ⟨cs, rfl, hsz⟩ := okWide_array Try.underlying57 hv
  obtain ⟨c0, c1, c2, c3, rfl⟩ := array4 (hsz.trans cellsN)
  obtain ⟨fuel, hf⟩ := h
  cases fuel with
  | zero => simp [DataW.trod] at hf
  | succ n =>
    have hf : (if [c0, c1, c2, c3].length = Try.prog.cellsOf 57 then ((List.range 4).mapM fun i => DataW.trod enc Try.prog w base spare held n 22 (([c0, c1, c2, c3].drop (i * Try.prog.cellsOf 22)).take (Try.prog.cellsOf 22))).map fun xs => (DataW.agg (xs.map (·.1)), xs.flatMap (·.2)) else none) = some (d, p) := by
      rw [← hf]
      simp only [DataW.trod, Try.underlying57, Value.cells]
    rw [cellsN, cellsF, range4] at hf
    simp only [List.length_cons, List.length_nil, Nat.reduceAdd, if_true, List.mapM_cons, List.mapM_nil, Nat.zero_mul, Nat.one_mul, Nat.mul_one, List.drop, List.take, Option.map_eq_some_iff, Option.bind_eq_bind, Option.bind_eq_some_iff, Option.pure_def, Option.some.injEq] at hf
    obtain ⟨xs, ⟨y0, h0, l1, ⟨y1, h1, l2, ⟨y2, h2, l3, ⟨y3, h3, l4, rfl, rfl⟩, rfl⟩, rfl⟩, rfl⟩, hx⟩ := hf
    obtain ⟨a, rfl, rfl, wa⟩ := trod_float1 Try.underlying22 h0
    obtain ⟨b, rfl, rfl, wb⟩ := trod_float1 Try.underlying22 h1
    obtain ⟨c, rfl, rfl, wc⟩ := trod_float1 Try.underlying22 h2
    obtain ⟨e, rfl, rfl, we⟩ := trod_float1 Try.underlying22 h3
    simp only [Prod.mk.injEq] at hx
    exact ⟨a, b, c, e, rfl, hx.1.symm, by simpa using hx.2.symm, wa, wb, wc, we⟩
set_option maxRecDepth 100000 in
theorem shut_four {a b c e : Nat} (ha : (Lit.float .f64 a).wf = true) (hb : (Lit.float .f64 b).wf = true) (hc : (Lit.float .f64 c).wf = true) (he : (Lit.float .f64 e).wf = true) :
    DataW.Trod enc Try.prog w base spare held 57 (.agg #[.float .f64 a, .float .f64 b, .float .f64 c, .float .f64 e]) (.agg [.lit (.float .f64 a), .lit (.float .f64 b), .lit (.float .f64 c), .lit (.float .f64 e)]) [] := by
  refine ⟨2, ?_⟩
  have f : ∀ x, (Lit.float .f64 x).wf = true → DataW.trod enc Try.prog w base spare held 1 22 [.float .f64 x] = some (.lit (.float .f64 x), []) := by
    intro x hx
    simp [DataW.trod, Try.underlying22, hx]
  have hf : DataW.trod enc Try.prog w base spare held 2 57 [.float .f64 a, .float .f64 b, .float .f64 c, .float .f64 e] = (if [Value.float .f64 a, Value.float .f64 b, Value.float .f64 c, Value.float .f64 e].length = Try.prog.cellsOf 57 then ((List.range 4).mapM fun i => DataW.trod enc Try.prog w base spare held 1 22 (([Value.float .f64 a, Value.float .f64 b, Value.float .f64 c, Value.float .f64 e].drop (i * Try.prog.cellsOf 22)).take (Try.prog.cellsOf 22))).map fun xs => (DataW.agg (xs.map (·.1)), xs.flatMap (·.2)) else none) := by
    rw [DataW.trod.eq_def]
    simp only [Try.underlying57]
  show DataW.trod enc Try.prog w base spare held 2 57 [.float .f64 a, .float .f64 b, .float .f64 c, .float .f64 e] = _
  rw [hf, cellsN, cellsF, range4]
  simp only [List.length_cons, List.length_nil, Nat.reduceAdd, if_true, List.mapM_cons, List.mapM_nil, Nat.zero_mul, Nat.one_mul, Nat.mul_one, List.drop, List.take, f a ha, f b hb, f c hc, f e he, Option.bind_eq_bind, Option.bind_some, Option.pure_def, Option.map_some, List.map, List.flatMap_cons, List.flatMap_nil, List.append_nil]
end
end Go.Proofs.Ytlpnfgglpoppfaa

namespace Go.Proofs.Ytlpnfgglpoppfaa.spanNests
open Go.ChangeShapes Go.WideShapes Go.ChangeAt Go.RowKit

set_option maxRecDepth 100000 in
theorem lifted (os : Os) (started : os.Started) (H : Type) (enc : TypeId × Value → H) :
    ReturnsInHanded {} Try.checked os 12 .any (Rows.spanNestsSpec.pre6 enc Try.prog Try.f12 Rows.spanNestsRow.domain false) (Rows.spanNestsSpec.post enc Try.prog Try.f12 false true false false) := by
  refine returnsInHanded_of_change (C := Try.checked) own started (by kernel_rfl) Try.func12
    (ChangeSpec.witness6 (enc := enc) (C := Try.checked) false ⟨#[], #[.agg #[.float .f64 0, .float .f64 0], .agg #[.float .f64 0, .float .f64 0], .agg #[.float .f64 0, .float .f64 0, .float .f64 0, .float .f64 0]], []⟩ 8 (by kernel_rfl) (by kernel_rfl) (by kernel_rfl) (by kernel_rfl)) ?_
  intro W base args ds gs before hval0 hW hcnd _
  have hval : ∀ (j : Nat) t v, Try.f12.params[j]? = some t → args[j]? = some v → Value.okWide Try.prog W .any base t v := hval0
  have hW' := hW
  obtain ⟨p, q, hA0, hV, rfl, hfz, hnd⟩ := hW
  have hA : DataW.TrodAll enc Try.prog W 0 (fun _ => true) true Try.f12.params.toList args.toList ds p := hA0
  rw [Try.params12] at hA hval
  obtain ⟨v0, vs0, d0, ds0, p0, q0, hargs, rfl, rfl, h0, r0⟩ := trodAll_cons hA
  obtain ⟨v1, vs1, d1, ds1, p1, q1, rfl, rfl, rfl, h1, r1⟩ := trodAll_cons r0
  obtain ⟨v2, vs2, d2, ds2, p2, q2, rfl, rfl, rfl, h2, r2⟩ := trodAll_cons r1
  obtain ⟨rfl, rfl, rfl⟩ := trodAll_nil r2
  obtain rfl : args = #[v0, v1, v2] := by cases args; simp_all
  obtain ⟨rfl, rfl⟩ := trodVars_none hV
  obtain ⟨a0, b0, rfl, rfl, rfl, w0, x0⟩ := open_span (hval 0 24 v0 rfl rfl) h0
  obtain ⟨a1, b1, rfl, rfl, rfl, w1, x1⟩ := open_span (hval 1 24 v1 rfl rfl) h1
  obtain ⟨a2, b2, c2, e2, rfl, rfl, rfl, w2, x2, y2, z2⟩ := open_four (hval 2 57 v2 rfl rfl) h2
  clear hA0 hval0
  simp only [List.append_nil] at hW'
  refine (walk_nests a0 b0 a1 b1 a2 b2 c2 e2 (f64_lt w0) (f64_lt x0) (f64_lt w1) (f64_lt x1) (f64_lt w2) (f64_lt x2) (f64_lt y2) (f64_lt z2) W).mono fun e W' ⟨he, hb⟩ => ?_
  subst he
  exact ⟨_, rfl, post_of_below (pa := []) (pv := []) hW' (fun _ _ _ => (trodAll_cons_mk (shut_bool Try.underlying4 _) trodAll_mk0)) (fun sp _ => (trodAll_cons_mk (shut_span w0 x0) (trodAll_cons_mk (shut_span w1 x1) (trodAll_cons_mk (shut_four w2 x2 y2 z2) trodAll_mk0)))) (fun _ _ => rfl) rfl
    hb (ok_one (by kernel_rfl) rfl (okWide_bool_mk Try.underlying4 _))⟩

theorem proved : Rows.SpanNestsSaid :=
  OpenClaim.holds_of_wide 12 Try.f12 rfl rfl rfl rfl rfl rfl rfl ⟨rfl, rfl, rfl, rfl, rfl⟩ rfl rfl rfl rfl rfl (by kernel_rfl) Try.func12 (by kernel_rfl)
    (of_decide_eq_true (by kernel_rfl)) (by unfold Func.isWrapper; first | (rw [if_pos (by decide +kernel)]; kernel_rfl) | (rw [if_neg (by decide +kernel)]; exact ⟨rfl, rfl⟩))
    (fun os started H enc _ => lifted os started H enc)
#print axioms proved
end Go.Proofs.Ytlpnfgglpoppfaa.spanNests
