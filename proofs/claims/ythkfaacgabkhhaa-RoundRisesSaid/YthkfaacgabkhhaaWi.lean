/- The walk of sum. -/
import Derived.Test.YthkfaacgabkhhaaWh
import Derived.Deep.RegionHeld3
set_option linter.unusedVariables false
set_option linter.unusedSimpArgs false
namespace Go.Proofs.Ythkfaacgabkhhaa
open Go.RowKit Ieee

@[go_sem] theorem alloc_drewN (w : World) (n : Nat) (o : Obj) : (w.drewN n).alloc o = (w.alloc o).drewN n := rfl
@[go_sem] theorem setCell_drewN (w : World) (n : Nat) (a : Addr) (v : Value) : (w.drewN n).setCell a v = (w.setCell a v).drewN n := rfl

abbrev exo (neg : Bool) (hi lo : Nat) (e : Int) (more : Bool) : Obj := .cells #[.bool neg, .int .u64 (hi : Int), .int .u64 (lo : Int), .int .i64 e, .bool more] 53

theorem Blk.new_at (w : World) (t : TypeId) (cs : Array Value) {g : Nat} (hg : g = w.heap.size) : Blk (w.alloc (.cells cs t)) g t cs := by
  subst hg; exact Blk.new w t cs
theorem ten_of {w : World} {g g' : Nat} {t t' : TypeId} {a b c d e a' b' c' d' e' : Value} (h : Blk w g t #[a, b, c, d, e]) (h' : Blk w g' t' #[a', b', c', d', e']) :
    w.cell? ⟨g, 0, none⟩ = some a ∧ w.cell? ⟨g, 1, none⟩ = some b ∧ w.cell? ⟨g, 2, none⟩ = some c ∧ w.cell? ⟨g, 3, none⟩ = some d ∧ w.cell? ⟨g, 4, none⟩ = some e ∧
    w.cell? ⟨g', 0, none⟩ = some a' ∧ w.cell? ⟨g', 1, none⟩ = some b' ∧ w.cell? ⟨g', 2, none⟩ = some c' ∧ w.cell? ⟨g', 3, none⟩ = some d' ∧ w.cell? ⟨g', 4, none⟩ = some e' :=
  ⟨h.cell 0, h.cell 1, h.cell 2, h.cell 3, h.cell 4, h'.cell 0, h'.cell 1, h'.cell 2, h'.cell 3, h'.cell 4⟩
theorem five_of {w : World} {g : Nat} {t : TypeId} {a b c d e : Value} (h : Blk w g t #[a, b, c, d, e]) :
    w.cell? ⟨g, 0, none⟩ = some a ∧ w.cell? ⟨g, 1, none⟩ = some b ∧ w.cell? ⟨g, 2, none⟩ = some c ∧ w.cell? ⟨g, 3, none⟩ = some d ∧ w.cell? ⟨g, 4, none⟩ = some e :=
  ⟨h.cell 0, h.cell 1, h.cell 2, h.cell 3, h.cell 4⟩

theorem res53b {fn : Func} {p : Tmp} (h : fn.results = #[.cell p 53]) (tmps : Array Value) (w : World) (g : Nat) (a b c d e : Value)
    (hp : tmps.getD p undef = .pointer (some ⟨g, 0, none⟩)) (hg : Blk w g 53 #[a, b, c, d, e]) :
    (results fn tmps).run Try.prog w = .ok (.agg #[a, b, c, d, e]) w := res53 h tmps w g _ _ hp hg rfl
end Go.Proofs.Ythkfaacgabkhhaa
