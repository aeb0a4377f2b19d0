/- The walk of the document's Div (gen_vi.py). -/
import Derived.Test.YtdgaaceebghcpaaZVh
set_option linter.unusedVariables false
set_option linter.unusedSimpArgs false
namespace Go.Proofs.Ytdgaaceebghcpaa
open Go.RowKit Ieee

/-- After k rounds of the long division: X what is divided, N the divisor. -/
structure LdR (X N k q r : Nat) : Prop where
  hk : k ≤ 60
  eq : 2 * (q * N) + r = X * 2 ^ k
  lt : r < 2 * N
theorem LdR.yes {X N k q r : Nat} (h : LdR X N k q r) (hk : k < 60) (hc : N ≤ r) : LdR X N (k + 1) (q * 2 + 1) ((r - N) * 2) := by
  refine ⟨hk, ?_, by have := h.lt; omega⟩
  have h1 := h.eq
  rw [Nat.pow_succ, ← Nat.mul_assoc X, ← h1]
  have h2 : (q * 2 + 1) * N = 2 * (q * N) + N := by rw [Nat.add_mul, Nat.one_mul, Nat.mul_right_comm, Nat.mul_comm]
  omega
theorem LdR.no {X N k q r : Nat} (h : LdR X N k q r) (hk : k < 60) (hc : r < N) : LdR X N (k + 1) (q * 2) (r * 2) := by
  refine ⟨hk, ?_, by omega⟩
  have h1 := h.eq
  rw [Nat.pow_succ, ← Nat.mul_assoc X, ← h1]
  have h2 : q * 2 * N = 2 * (q * N) := by rw [Nat.mul_right_comm, Nat.mul_comm]
  omega
theorem LdR.stop {X N q r : Nat} (h : LdR X N 60 q r) (hN : 0 < N) : q = X * 2 ^ 60 / (2 * N) ∧ r = X * 2 ^ 60 % (2 * N) := by
  have h1 := h.eq
  have h2 : 2 * (q * N) = 2 * N * q := by rw [Nat.mul_comm q, Nat.mul_assoc]
  rw [← h1, h2]
  have hl := h.lt
  exact ⟨by rw [Nat.mul_add_div (by omega), Nat.div_eq_of_lt hl, Nat.add_zero], by rw [Nat.mul_add_mod, Nat.mod_eq_of_lt hl]⟩

end Go.Proofs.Ytdgaaceebghcpaa
