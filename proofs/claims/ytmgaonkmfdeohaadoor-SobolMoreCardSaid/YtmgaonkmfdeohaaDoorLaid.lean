/- What the listed tables give the walks: the plans and the library's table lie in their variables; the world in which the witness starts. -/
import Derived.Test.YtmgaonkmfdeohaaDoorLaw1
import Derived.Test.YtmgaonkmfdeohaaDoorRows
import Derived.ProofKit
import Derived.LaidMore
import Derived.OpenShut
import Derived.Stop.Joined
import Derived.Lib.LaidTab
namespace Go.Proofs.YtmgaonkmfdeohaaDoor
open Go.ChangeShapes Go.WideShapes Go.ChangeAt Go.WideMaps Go.WideElems Go.RowKit

def laid2 : List (String × DataW Unit) := [("math/bits.deBruijn32tab", Rows.laid_math_bits_deBruijn32tab), ("lantern/sobol.plans", Rows.laid_lantern_sobol_plans)]

theorem own : ownKnob Tryd.prog.godebug = none := by kernel_rfl
theorem gPlans : Tryd.prog.globalNamed "lantern/sobol.plans" = some 0 := by kernel_rfl
theorem gTab : Tryd.prog.globalNamed "math/bits.deBruijn32tab" = some 1 := by kernel_rfl
theorem tPlans : (Tryd.prog.globals[0]?).map (·.type) = some 54 := by kernel_rfl
theorem tTab : (Tryd.prog.globals[1]?).map (·.type) = some 58 := by kernel_rfl
theorem cI : Tryd.prog.cellsOf 3 = 1 := by kernel_rfl
theorem cU32 : Tryd.prog.cellsOf 22 = 1 := by kernel_rfl
theorem cU8 : Tryd.prog.cellsOf 5 = 1 := by kernel_rfl
theorem cFirst : Tryd.prog.cellsOf 51 = 5 := by kernel_rfl
theorem cPlan : Tryd.prog.cellsOf 53 = 7 := by kernel_rfl
theorem cPlans : Tryd.prog.cellsOf 54 = 49 := by kernel_rfl
theorem cTab : Tryd.prog.cellsOf 58 = 32 := by kernel_rfl

theorem lt_of_cell {w : World} {b o : Nat} {v : Value} (h : w.cell? ⟨b, o, none⟩ = some v) : b < w.heap.size := by
  rcases Nat.lt_or_ge b w.heap.size with hlt | hge
  · exact hlt
  · unfold World.cell? at h
    rw [Array.getElem?_eq_none hge] at h
    cases h

section
variable {W : World} {base fuel : Nat} {sp : Nat → Bool} {held : Bool} {H : Type} {enc : TypeId × Value → H}

/-- One plan's cells. -/
theorem plan_cells {cs : List Value} {d a : Int} {m : List Int} {p : List MemPlace}
    (h : DataW.trod enc Tryd.prog W base sp held fuel 53 cs = some (.agg [.lit (.int .i64 d), .lit (.int .i64 a), Lib.tabData .u32 m], p)) :
    cs = .int .i64 d :: .int .i64 a :: m.map (Value.int .u32) := by
  obtain ⟨xs, n, _, hx, hl, hn, hf⟩ := DataW.trod_struct Tryd.underlying53 h
  simp only [Prod.mk.injEq, DataW.agg.injEq] at hx
  rw [cPlan] at hl
  match cs, hl with
  | [c0, c1, c2, c3, c4, c5, c6], _ =>
    have f0 := hf 0 _ rfl
    have f1 := hf 1 _ rfl
    have f2 := hf 2 _ rfl
    match xs, hn, hx.1, f0, f1, f2 with
    | [x0, x1, x2], _, hx1, f0, f1, f2 =>
      simp only [List.map_cons, List.map_nil, List.cons.injEq, and_true] at hx1
      have g0 : DataW.trod enc Tryd.prog W base sp held n 3 (([c0, c1, c2, c3, c4, c5, c6].drop 0).take (Tryd.prog.cellsOf 3)) = some x0 := f0
      have g1 : DataW.trod enc Tryd.prog W base sp held n 3 (([c0, c1, c2, c3, c4, c5, c6].drop 1).take (Tryd.prog.cellsOf 3)) = some x1 := f1
      have g2 : DataW.trod enc Tryd.prog W base sp held n 51 (([c0, c1, c2, c3, c4, c5, c6].drop 2).take (Tryd.prog.cellsOf 51)) = some x2 := f2
      rw [cI] at g0 g1
      rw [cFirst] at g2
      obtain ⟨n0, e0, r0, _⟩ := DataW.trod_int (k := .i64) Tryd.underlying3 g0
      obtain ⟨n1, e1, r1, _⟩ := DataW.trod_int (k := .i64) Tryd.underlying3 g1
      have h0 : n0 = d := by have := hx1.1; rw [r0] at this; simpa using this.symm
      have h1 : n1 = a := by have := hx1.2.1; rw [r1] at this; simpa using this.symm
      subst h0 h1
      have h2 := Lib.cells_of_tab (k := .u32) (zs := m) (p := x2.2) Tryd.underlying51 Tryd.underlying22 cU32 cFirst
        (g2.trans (congrArg some (Prod.ext hx1.2.2.symm rfl)))
      simp at e0 e1 h2
      rw [e0, e1, h2]
end

theorem u32_nat {a : Int} (h : (Lit.int .u32 a).wf = true) : ∃ n : Nat, a = (n : Int) ∧ n < 4294967296 := by
  have hb : 0 ≤ a ∧ a ≤ 4294967295 := by simpa [Lit.wf, IntKind.min, IntKind.max, IntKind.signed, IntKind.bits] using h
  exact ⟨a.toNat, by omega, by omega⟩
theorem i64_lo {a : Int} (h : (Lit.int .i64 a).wf = true) : -9223372036854775808 ≤ a := by
  have hb : -9223372036854775808 ≤ a ∧ a ≤ 9223372036854775807 := by simpa [Lit.wf, IntKind.min, IntKind.max, IntKind.signed, IntKind.bits] using h
  exact hb.1
theorem i64_hi {a : Int} (h : (Lit.int .i64 a).wf = true) : a ≤ 9223372036854775807 := by
  have hb : -9223372036854775808 ≤ a ∧ a ≤ 9223372036854775807 := by simpa [Lit.wf, IntKind.min, IntKind.max, IntKind.signed, IntKind.bits] using h
  exact hb.2

/-- The plans' numbers. -/
def planRows : List (Int × Int × List Int) := [(1, 0, [1, 0, 0, 0, 0]), (2, 1, [1, 3, 0, 0, 0]), (3, 1, [1, 3, 1, 0, 0]), (3, 2, [1, 1, 1, 0, 0]), (4, 1, [1, 1, 3, 3, 0]), (4, 4, [1, 3, 5, 13, 0]), (5, 2, [1, 1, 5, 5, 17])]
def planData {H : Type} (r : Int × Int × List Int) : DataW H := .agg [.lit (.int .i64 r.1), .lit (.int .i64 r.2.1), Lib.tabData .u32 r.2.2]
theorem plans_data {H : Type} : (Rows.laid_lantern_sobol_plans : DataW H) = .agg (planRows.map planData) := rfl
def rowCells (r : Int × Int × List Int) : List Value := .int .i64 r.1 :: .int .i64 r.2.1 :: r.2.2.map (Value.int .u32)

theorem of_laid {W : World} (h : laidMetH Tryd.prog laid2 W) : Plans W ∧ Tab W := by
  rw [MakeChecks.laidMetH_plain _ _ _ (by kernel_rfl)] at h
  have hT : Lib.TabIs Tryd.prog W "math/bits.deBruijn32tab" .u8 (Lib.deBruijn32tab.map (fun n : Nat => (n : Int))) :=
    Lib.tabIs_of_head (rest := [("lantern/sobol.plans", Rows.laid_lantern_sobol_plans)]) gTab tTab Tryd.underlying58 Tryd.underlying5 cU8 cTab h
  obtain ⟨ps, ⟨g0, t0, cs0, f0, p0, q0, hg0, ht0, hv0, hd0, ⟨g1, t1, cs1, f1, p1, q1, hg1, ht1, hv1, hd1, _, _⟩, _⟩, _, _⟩ := h
  obtain rfl := Option.some.inj (gPlans.symm.trans hg1)
  obtain rfl := Option.some.inj (tPlans.symm.trans ht1)
  have htab : ∀ j, j < 32 → W.cell? ⟨1, j, none⟩ = some (.int .u8 (Lib.deBruijn32tab.getD j 0)) := by
    intro j hj
    have := World.var?_cell gTab hT j
    rw [this]
    simp only [List.getElem?_toArray, List.getElem?_map]
    have hl : j < Lib.deBruijn32tab.length := hj
    rw [List.getElem?_eq_getElem hl, List.getD_eq_getElem?_getD, List.getElem?_eq_getElem hl]
    rfl
  have hsz : 2 ≤ W.heap.size := lt_of_cell (htab 0 (by decide))
  refine ⟨⟨hsz, ?_⟩, hsz, htab⟩
  obtain ⟨xs, m1, _, hx1, hlen, hn, hel⟩ := DataW.trod_array Tryd.underlying54 hd1
  rw [plans_data] at hx1
  simp only [Prod.mk.injEq, DataW.agg.injEq] at hx1
  rw [cPlans] at hlen
  rw [cPlan] at hel
  have hrow : ∀ i, i < 7 → (cs1.toList.drop (i * 7)).take 7 = rowCells (planRows.getD i (0, 0, [])) := by
    intro i hi
    have h1 := hel i hi
    have hlx : i < xs.length := by omega
    have hlp : i < planRows.length := hi
    have h2 : xs[i].1 = planData planRows[i] := by
      have := congrArg (·[i]?) hx1.1
      simp only [List.getElem?_map, List.getElem?_eq_getElem hlx, List.getElem?_eq_getElem hlp, Option.map_some, Option.some.injEq] at this
      exact this.symm
    rw [List.getElem?_eq_getElem hlx] at h1
    have h3 : xs[i] = (planData planRows[i], xs[i].2) := Prod.ext h2 rfl
    rw [h3] at h1
    have h4 := plan_cells h1
    rw [h4, List.getD_eq_getElem?_getD, List.getElem?_eq_getElem hlp]
    rfl
  intro j hj
  rw [World.var?_cell gPlans hv1 j]
  have hi : j / 7 < 7 := by omega
  have h1 := congrArg (·[j % 7]?) (hrow (j / 7) hi)
  simp only [List.getElem?_take, List.getElem?_drop] at h1
  rw [if_pos (by omega), show j / 7 * 7 + j % 7 = j by omega] at h1
  rw [← Array.getElem?_toList, h1]
  have key : ∀ j, j < 49 → (rowCells (planRows.getD (j / 7) (0, 0, [])))[j % 7]? = some (Plans.planCells.getD j undef) := by
    intro j hj
    have : ∀ k, k < 49 → (rowCells (planRows.getD (k / 7) (0, 0, [])))[k % 7]? = some (Plans.planCells.getD k undef) := by
      intro k hk
      match k, hk with
      | 0, _ | 1, _ | 2, _ | 3, _ | 4, _ | 5, _ | 6, _ | 7, _ | 8, _ | 9, _ | 10, _ | 11, _ | 12, _ | 13, _ | 14, _ | 15, _ | 16, _ | 17, _ | 18, _ | 19, _ | 20, _ | 21, _ | 22, _ | 23, _ | 24, _
      | 25, _ | 26, _ | 27, _ | 28, _ | 29, _ | 30, _ | 31, _ | 32, _ | 33, _ | 34, _ | 35, _ | 36, _ | 37, _ | 38, _ | 39, _ | 40, _ | 41, _ | 42, _ | 43, _ | 44, _ | 45, _ | 46, _ | 47, _ | 48, _ => rfl
      | n + 49, h => exact absurd h (by omega)
    exact this j hj
  exact key j hj

/-- The door's own heap meets the condition: three closed facts. -/
theorem door_met (os : Os) (args : Array Value) : laidMetH Tryd.prog laid2 ((World.doorLaid Tryd.prog 400 os).forCall (fun _ _ => 0) ⟨#[], args, []⟩).memory :=
  laidMetH_of_parts3 (fuel := 8) (laidMet_of_run' 8 (by kernel_rfl) (by kernel_rfl)) (by kernel_rfl) (by kernel_rfl)

section
variable {H : Type} {enc : TypeId × Value → H} {P : Program}
/-- The row's last step where of the world behind the call just 'Below' is known. -/
theorem post_of_below {f : Func} {s : ChangeSpec} {apart fresh handsOn again : Bool} {W W' : World} {args : Array Value} {v : Value} {ds gs : List (DataW H)} {before pa pv : List MemPlace}
    (hW : DataW.Whole enc P f.params.toList s.vars apart W args.toList ds gs before)
    (hres : ∀ (b : Nat) (sp : Nat → Bool) (hd : Bool), DataW.TrodAll enc P W' b sp hd f.resultTypes.toList (v.resultList f.resultTypes.size) (s.fn H (ds ++ gs)).results [])
    (hargs : ∀ sp : Nat → Bool, (∀ p ∈ before, sp p.block = true) → DataW.TrodAll enc P W' 0 sp true f.params.toList args.toList (s.fn H (ds ++ gs)).args pa)
    (hvars : ∀ sp : Nat → Bool, (∀ p ∈ before, sp p.block = true) → DataW.TrodVars enc P W' sp s.vars (s.fn H (ds ++ gs)).vars pv)
    (hps : before = pa ++ pv) (hb : Below W.heap.size W W')
    (hok : ∀ (j : Nat) (t : TypeId) (r : Value), f.resultTypes[j]? = some t → (v.resultList f.resultTypes.size)[j]? = some r → Value.okWide P W' .any 0 t r) :
    s.post enc P f apart fresh handsOn again W args v W' := by
  have hlt : ∀ p ∈ before, p.block < W.heap.size := fun p hp => hW.lt p hp
  have hold : ∀ p ∈ before, (fun b => decide (b < W.heap.size)) p.block = true := fun p hp => by simpa using hlt p hp
  refine ⟨ds, gs, before, [], pa, pv, hW, hres _ _ _, hargs _ hold, hvars _ hold, World.keptBut_mono (fun p hp => ⟨hp, ?_⟩) (hb.frame (· ∈ before)), fun _ => ?_⟩
  · rw [hps, List.mem_append] at hp
    exact Or.inr hp
  · obtain ⟨_, _, _, _, _, hz, hn⟩ := hW
    refine ⟨hok, _, _, ([] ++ pa) ++ pv, ⟨[] ++ pa, pv, trodAll_append (hargs _ (fun _ _ => rfl)) (hres _ _ _), hvars _ (fun _ _ => rfl), rfl, ?_, ?_⟩, ?_⟩
    · intro b off hp
      have hin : MemPlace.cell b off ∈ before := by rw [hps]; simpa using hp
      rw [hb.frozen (hlt _ hin)]
      exact hz b off hin
    · intro ha
      have := hn ha
      rw [hps] at this
      simpa using this
    · intro p hp _
      rw [hps]
      simpa using hp
end
end Go.Proofs.YtmgaonkmfdeohaaDoor
