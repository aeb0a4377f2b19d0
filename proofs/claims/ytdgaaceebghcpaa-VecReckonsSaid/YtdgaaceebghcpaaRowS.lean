/- What the rows of layer 2 share: a span as an argument. -/
import Derived.Test.YtdgaaceebghcpaaRowKit
import Derived.Lib.SmallJoins
set_option linter.unusedVariables false
set_option linter.unusedSimpArgs false
namespace Go.Proofs.Ytdgaaceebghcpaa
open Go.ChangeShapes Go.WideShapes Go.ChangeAt Go.RowKit Go.Joins

section
variable {H : Type} {enc : TypeId × Value → H} {w : World} {base : Nat} {spare : Nat → Bool} {held : Bool}
theorem trod_float1 {n : Nat} {t : TypeId} {v : Value} {y : DataW H × List MemPlace} (ht : Try.prog.underlying t = some (.float .f64)) (h : DataW.trod enc Try.prog w base spare held n t [v] = some y) :
    ∃ b, v = .float .f64 b ∧ y = (.lit (.float .f64 b), []) ∧ (Lit.float .f64 b).wf = true := by
  cases n with
  | zero => simp [DataW.trod] at h
  | succ n =>
    cases v <;> simp [DataW.trod, ht] at h
    rename_i k b
    cases k <;> simp at h
    obtain ⟨h1, h2⟩ := h
    exact ⟨b, rfl, h2.symm, h1⟩
theorem cellsS : Try.prog.cellsOf 24 = 2 := by kernel_rfl
set_option maxRecDepth 100000 in
theorem open_span {r : Reach} {b0 : Nat} {v : Value} {d : DataW H} {p : List MemPlace} (hv : Value.okWide Try.prog w r b0 24 v) (h : DataW.Trod enc Try.prog w base spare held 24 v d p) :
    ∃ a b : Nat, v = .agg #[.float .f64 a, .float .f64 b] ∧ d = .agg [.lit (.float .f64 a), .lit (.float .f64 b)] ∧ p = [] ∧ (Lit.float .f64 a).wf = true ∧ (Lit.float .f64 b).wf = true := by
  obtain ⟨v0, v1, y0, y1, n, rfl, rfl, rfl, h0, h1⟩ := open_agg2 Try.underlying24 (by kernel_rfl) cellsS hv h
  obtain ⟨a, rfl, rfl, wa⟩ := trod_float1 Try.underlying22 h0
  obtain ⟨b, rfl, rfl, wb⟩ := trod_float1 Try.underlying22 h1
  exact ⟨a, b, rfl, rfl, rfl, wa, wb⟩
set_option maxRecDepth 100000 in
theorem shut_span {a b : Nat} (ha : (Lit.float .f64 a).wf = true) (hb : (Lit.float .f64 b).wf = true) :
    DataW.Trod enc Try.prog w base spare held 24 (.agg #[.float .f64 a, .float .f64 b]) (.agg [.lit (.float .f64 a), .lit (.float .f64 b)]) [] := by
  have h := shut_agg2 (enc := enc) (w := w) (base := base) (spare := spare) (held := held) (v0 := .float .f64 a) (v1 := .float .f64 b) (y0 := (.lit (.float .f64 a), [])) (y1 := (.lit (.float .f64 b), [])) Try.underlying24 (by kernel_rfl) cellsS
    ⟨1, by simp [DataW.trod, Try.underlying22, ha]⟩ ⟨1, by simp [DataW.trod, Try.underlying22, hb]⟩
  exact h
end
end Go.Proofs.Ytdgaaceebghcpaa
