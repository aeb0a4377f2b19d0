/- Regions that draw their order: the lone ready operation. · Regions that draw their order: an invariant over what has come up, the sets of it as the bits of a number. · Regions that draw their order: an invariant over the sets of what has come up, with what has come up ahead of an operation. -/
import Derived.Test.YtdgaaceebghcpaaZRh
import Derived.Test.YtdgaaceebghcpaaZGe
set_option linter.unusedVariables false
set_option linter.unusedSimpArgs false
namespace Go.Proofs.Ytdgaaceebghcpaa

theorem wpAnyH_oneP {P : Program} {ops : Array Oper} {Q : Exit → Act → World → Prop} {md : Region.Mode} {S : World → Prop} {i : Nat} {o : Oper} {fuel : Nat} {listed : Array Bool} {a : Act} {w : World}
    (hi : ops[i]? = some o) (hr : Region.ready md ops listed = [i]) (hw : Region.wanted o (yielded ops a.tmps) = true)
    (h : ∀ K : Act → World → Prop, (∀ a' w', S w' → wpAnyH P md ops Q S fuel (listed.setIfInBounds i true) a' w' → K a' w') → o.wp P a w K Q) : wpAnyH P md ops Q S (fuel + 1) listed a w := by
  refine wpAnyH_all hr (by simp) ?_
  intro j hj
  obtain rfl : j = i := by simpa using hj
  unfold wpOp
  simp only [hi, hw, if_true]
  exact Or.inl (h _ fun a' w' s k => ⟨s, k⟩)
theorem wpAnyH_oneM {P : Program} {ops : Array Oper} {Q : Exit → Act → World → Prop} {md : Region.Mode} {S : World → Prop} {i : Nat} {o : Oper} {fuel : Nat} {listed l' : Array Bool} {a : Act} {w : World}
    (hi : ops[i]? = some o) (hr : Region.ready md ops listed = [i]) (hw : Region.wanted o (yielded ops a.tmps) = true) (hl : listed.setIfInBounds i true = l')
    (h : ∀ K : Act → World → Prop, (∀ a' w', S w' → wpAnyH P md ops Q S fuel l' a' w' → K a' w') → o.wp P a w K Q) : wpAnyH P md ops Q S (fuel + 1) listed a w := by
  subst hl
  exact wpAnyH_oneP hi hr hw h
end Go.Proofs.Ytdgaaceebghcpaa

namespace Go.Proofs.Ytdgaaceebghcpaa

def needM (N stop m : Nat) : Nat := (List.range N).countP fun i => stop.testBit i && !m.testBit i
theorem needM_self (N m : Nat) : needM N m m = 0 := by
  unfold needM
  rw [List.countP_eq_zero]
  intro i _
  cases m.testBit i <;> simp
def okM (md : Region.Mode) (ops : Array Oper) (N stop : Nat) (R M : List Nat) : Bool :=
  M.all fun m => m == stop || (needM N stop m != 0 && !(Region.ready md ops (bm N m)).isEmpty && (Region.ready md ops (bm N m)).all fun i =>
    R.contains i && !m.testBit i && M.contains (m ||| 2 ^ i) && needM N stop (m ||| 2 ^ i) + 1 == needM N stop m && decide ((bm N m).setIfInBounds i true = bm N (m ||| 2 ^ i)))
theorem wpOp_at {P : Program} {ops : Array Oper} {Q : Exit → Act → World → Prop} {i : Nat} {o : Oper} {R : Act → World → Prop} {a : Act} {w : World}
    (hi : ops[i]? = some o) (hw : Region.wanted o (yielded ops a.tmps) = true) (h : ∀ K : Act → World → Prop, (∀ a' w', R a' w' → K a' w') → o.wp P a w K Q) : wpOp P ops Q i R a w := by
  unfold wpOp
  simp only [hi, hw, if_true]
  exact Or.inl (h _ fun a' w' k => k)
theorem tb_ne {m i j : Nat} (h : i ≠ j) : (m ||| 2 ^ i).testBit j = m.testBit j := by
  rw [Nat.testBit_or, Nat.testBit_two_pow_of_ne h, Bool.or_false]
theorem wpAnyH_frame {P : Program} {ops : Array Oper} {Q : Exit → Act → World → Prop} {md : Region.Mode} {S : World → Prop} {fuel : Nat} {l : Array Bool} {a a' : Act} {w : World} (ha : a = a') (h : wpAnyH P md ops Q S fuel l a' w) : wpAnyH P md ops Q S fuel l a w := ha ▸ h
end Go.Proofs.Ytdgaaceebghcpaa

namespace Go.Proofs.Ytdgaaceebghcpaa

def okD (md : Region.Mode) (ops : Array Oper) (N : Nat) (M : List Nat) (D : Nat → Nat) : Bool :=
  M.all fun m => (Region.ready md ops (bm N m)).all fun i => (m &&& D i) == D i
theorem wpAnyH_masks2 {P : Program} {ops : Array Oper} {Q : Exit → Act → World → Prop} {md : Region.Mode} {S : World → Prop} {N stop F : Nat} {R M : List Nat} {D : Nat → Nat} {I : Nat → Act → World → Prop}
    (hok : okM md ops N stop R M = true) (hD : okD md ops N M D = true)
    (step : ∀ m a w i, i ∈ R → m.testBit i = false → m &&& D i = D i → I m a w → wpOp P ops Q i (fun a' w' => S w' ∧ I (m ||| 2 ^ i) a' w') a w)
    (rest : ∀ a w, I stop a w → wpAnyH P md ops Q S F (bm N stop) a w) :
    ∀ n m a w, m ∈ M → needM N stop m = n → I m a w → wpAnyH P md ops Q S (F + n) (bm N m) a w := by
  intro n
  induction n with
  | zero =>
    intro m a w hm hn hI
    have h := List.all_eq_true.1 hok m hm
    rw [hn] at h
    have : m = stop := by simpa using h
    subst this
    exact rest a w hI
  | succ n ih =>
    intro m a w hm hn hI
    have h := List.all_eq_true.1 hok m hm
    have hd := List.all_eq_true.1 hD m hm
    by_cases e : m = stop
    · subst e; rw [needM_self] at hn; omega
    · simp only [Bool.or_eq_true, beq_iff_eq, e, false_or, Bool.and_eq_true, Bool.not_eq_true', List.isEmpty_eq_false_iff, List.all_eq_true] at h
      refine wpAnyH_all rfl h.1.2 fun i hi => ?_
      have g := h.2 i hi
      have d := List.all_eq_true.1 hd i hi
      simp only [List.contains_iff_mem, decide_eq_true_eq] at g
      refine wpOp_mono (fun a' w' k => ⟨k.1, ?_⟩) (step m a w i g.1.1.1.1 (by simpa using g.1.1.1.2) (by simpa using d) hI)
      rw [g.2]
      exact ih _ _ _ g.1.1.2 (by have := g.1.2; omega) k.2
theorem wpAnyH_sets2 {P : Program} {ops : Array Oper} {Q : Exit → Act → World → Prop} {md : Region.Mode} {S : World → Prop} {N stop F fuel m : Nat} {R M : List Nat} (D : Nat → Nat) (J : Act → Nat → Act → World → Prop) {a : Act} {w : World}
    (hok : okM md ops N stop R M = true) (hD : okD md ops N M D = true) (hm : M.contains m = true) (hf : fuel = F + needM N stop m)
    (start : J a m a w)
    (step : ∀ m a' w i, i ∈ R → m.testBit i = false → m &&& D i = D i → J a m a' w → wpOp P ops Q i (fun a'' w' => S w' ∧ J a (m ||| 2 ^ i) a'' w') a' w)
    (rest : ∀ a' w, J a stop a' w → wpAnyH P md ops Q S F (bm N stop) a' w) :
    wpAnyH P md ops Q S fuel (bm N m) a w := by
  subst hf
  exact wpAnyH_masks2 (I := J a) hok hD step rest _ m a w (by simpa using hm) rfl start
theorem tb_of {m d j : Nat} (h : m &&& d = d) (hj : d.testBit j = true) : m.testBit j = true := by
  have := congrArg (fun x => x.testBit j) h
  simp only [Nat.testBit_and, hj, Bool.and_true] at this
  exact this
end Go.Proofs.Ytdgaaceebghcpaa

