/- What the rows of layer 2 share: a span as an argument. -/
import Derived.Test.YtdgaaceebghcpaaZRowKit
import Derived.Lib.SmallJoins
set_option linter.unusedVariables false
set_option linter.unusedSimpArgs false
namespace Go.Proofs.Ytdgaaceebghcpaa
open Go.ChangeShapes Go.WideShapes Go.ChangeAt Go.RowKit Go.Joins

section
variable {H : Type} {enc : TypeId × Value → H} {w : World} {base : Nat} {spare : Nat → Bool} {held : Bool}
theorem trod_float1 {n : Nat} {t : TypeId} {v : Value} {y : DataW H × List MemPlace} (ht : Try.prog.underlying t = some (.float .f64)) (h : DataW.trod enc Try.prog w base spare held n t [v] = some y) :
    ∃ b, v = .float .f64 b ∧ y = (.lit (.float .f64 b), []) ∧ (Lit.float .f64 b).wf = true := by
  cases n with
  | zero => simp [DataW.trod] at h
  | succ n =>
    cases v <;> simp [DataW.trod, ht] at h
    rename_i k b
    cases k <;> simp at h
    obtain ⟨h1, h2⟩ := h
    exact ⟨b, rfl, h2.symm, h1⟩
end
end Go.Proofs.Ytdgaaceebghcpaa
