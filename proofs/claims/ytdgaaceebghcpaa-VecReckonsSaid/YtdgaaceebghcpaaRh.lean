/- Regions: which operations have come up, as the bits of a number. -/
import Derived.OrdersHeld
set_option linter.unusedVariables false
set_option linter.unusedSimpArgs false
namespace Go.Proofs.Ytdgaaceebghcpaa
def bm (n m : Nat) : Array Bool := ((List.range n).map fun i => m.testBit i).toArray
theorem wpOpH_of {P : Program} {ops : Array Oper} {Q : Exit → Act → World → Prop} {md : Region.Mode} {S : World → Prop} {i : Nat} {o : Oper} {fuel : Nat} {listed l' : Array Bool} {a : Act} {w : World}
    (hi : ops[i]? = some o) (hw : Region.wanted o (yielded ops a.tmps) = true) (hl : listed.setIfInBounds i true = l')
    (h : ∀ K : Act → World → Prop, (∀ a' w', S w' → wpAnyH P md ops Q S fuel l' a' w' → K a' w') → o.wp P a w K Q) : wpOp P ops Q i (fun a' w' => S w' ∧ wpAnyH P md ops Q S fuel (listed.setIfInBounds i true) a' w') a w := by
  subst hl
  unfold wpOp
  simp only [hi, hw, if_true]
  exact Or.inl (h _ fun a' w' s k => ⟨s, k⟩)
theorem wpAnyH_two {P : Program} {ops : Array Oper} {Q : Exit → Act → World → Prop} {md : Region.Mode} {S : World → Prop} {i j : Nat} {fuel : Nat} {listed : Array Bool} {a : Act} {w : World}
    (hr : Region.ready md ops listed = [i, j]) (h1 : wpOp P ops Q i (fun a' w' => S w' ∧ wpAnyH P md ops Q S fuel (listed.setIfInBounds i true) a' w') a w)
    (h2 : wpOp P ops Q j (fun a' w' => S w' ∧ wpAnyH P md ops Q S fuel (listed.setIfInBounds j true) a' w') a w) : wpAnyH P md ops Q S (fuel + 1) listed a w := by
  refine wpAnyH_all hr (by simp) ?_
  intro k hk
  simp only [List.mem_cons, List.not_mem_nil, or_false] at hk
  rcases hk with rfl | rfl
  · exact h1
  · exact h2
theorem wpAnyH_three {P : Program} {ops : Array Oper} {Q : Exit → Act → World → Prop} {md : Region.Mode} {S : World → Prop} {i j k : Nat} {fuel : Nat} {listed : Array Bool} {a : Act} {w : World}
    (hr : Region.ready md ops listed = [i, j, k]) (h1 : wpOp P ops Q i (fun a' w' => S w' ∧ wpAnyH P md ops Q S fuel (listed.setIfInBounds i true) a' w') a w)
    (h2 : wpOp P ops Q j (fun a' w' => S w' ∧ wpAnyH P md ops Q S fuel (listed.setIfInBounds j true) a' w') a w)
    (h3 : wpOp P ops Q k (fun a' w' => S w' ∧ wpAnyH P md ops Q S fuel (listed.setIfInBounds k true) a' w') a w) : wpAnyH P md ops Q S (fuel + 1) listed a w := by
  refine wpAnyH_all hr (by simp) ?_
  intro m hm
  simp only [List.mem_cons, List.not_mem_nil, or_false] at hm
  rcases hm with rfl | rfl | rfl
  · exact h1
  · exact h2
  · exact h3
end Go.Proofs.Ytdgaaceebghcpaa
