/-
  No cell of these rows narrows 'for every input' (looked for: loops, veiled, ifaces, maps, wideKeys, modest, calm, conditions, laid).
  DERIVED. THE GIVEN ROWS OF THIS SEAT. 3 by the template 'for every input the law returns true; each argument reads behind the call as it read before'; 0 by the template 'total and deterministic' (their statements: YtnljfcebmgifdaaGreatTotals.lean).
  GIVEN WITH THE SEED: the statements are not yours to turn. If you find one false, say at which input.
  Laid BY PROGRAM, IN A SANDBOX (cutbox-rows.mjs): the forced cells as the released guide's own fill.sh prints them over the translation 7ccbde3c1eda510e… (all of the seat's roots in one cut). By AI agents, Wed Nov 11 2026. No macro, syntax, notation, axiom, sorry.
-/
import Derived.Test.YtnljfcebmgifdaaGreatChecked
import GoSem.Claim
import GoSem.ClaimJoined
import GoSem.ClaimMapViews
import Derived.JoinedTies
import Derived.KernelRfl
namespace Go.Proofs.YtnljfcebmgifdaaGreat
/- THE CELL 'sum', in the pinned program and in every row, IS THE sha256 OF THE DUMP (.gsa) THAT YtnljfcebmgifdaaGreatProg.lean LOADS. Nothing in Lean hashes anything: it is a label: what it is worth is what the hold of that sum in a sandbox is worth. -/
noncomputable def Tryz.pinned : Pinned := { name := "ytnljfcebmgifdaagreat", sum := "7ccbde3c1eda510e9808aa1f57ae7ebac7ff0becc79222a934064184c16058fb", checked := Tryz.checked }
namespace Rows
def none {H : Type} : Left H := { results := [], args := [] }

/-- 'lanternlaw04.XformMoves': WHATEVER THE INPUT: true; the input reads as it did. -/
def xformMovesSpec : ChangeSpec := { name := "xformMoves", fn := fun _ => fun
  | [d1, d2, d3] => { results := [.lit (.bool true)], args := [d1, d2, d3] }
  | _ => none }
def xformMovesRow : OpenClaim := { program := "ytnljfcebmgifdaagreat", sum := "7ccbde3c1eda510e9808aa1f57ae7ebac7ff0becc79222a934064184c16058fb", func := "lantern/lanternlaw04.XformMoves", spec := "xformMoves", inPlace := ["math.Float64bits", "math.Float64frombits", "math/bits.Add64", "math/bits.Sub64"], unfollowed := true, recurses := true, named := ["math/bits.divideError", "math/bits.overflowError"], apart := false }
def XformMovesSaid : Prop := xformMovesRow.holds Tryz.pinned (OpenSpec.ofChange xformMovesSpec)

/-- ITS FALSE NEIGHBOUR: 'it returns false'. Refute it at one input. -/
def xformMovesWrong : ChangeSpec := { name := "xformMoves", fn := fun _ => fun
  | [d1, d2, d3] => { results := [.lit (.bool false)], args := [d1, d2, d3] }
  | _ => none }
def XformMovesWrongFalsely : Prop := xformMovesRow.holds Tryz.pinned (OpenSpec.ofChange xformMovesWrong)

/-- 'lanternlaw03.VecStands': WHATEVER THE INPUT: true; the input reads as it did. -/
def vecStandsSpec : ChangeSpec := { name := "vecStands", fn := fun _ => fun
  | [d1, d2, d3] => { results := [.lit (.bool true)], args := [d1, d2, d3] }
  | _ => none }
def vecStandsRow : OpenClaim := { program := "ytnljfcebmgifdaagreat", sum := "7ccbde3c1eda510e9808aa1f57ae7ebac7ff0becc79222a934064184c16058fb", func := "lantern/lanternlaw03.VecStands", spec := "vecStands", inPlace := ["math.Float64bits", "math.Float64frombits", "math/bits.Add64", "math/bits.Sub64"], unfollowed := true, recurses := true, named := ["math/bits.divideError", "math/bits.overflowError"], apart := false }
def VecStandsSaid : Prop := vecStandsRow.holds Tryz.pinned (OpenSpec.ofChange vecStandsSpec)

/-- ITS FALSE NEIGHBOUR: 'it returns false'. Refute it at one input. -/
def vecStandsWrong : ChangeSpec := { name := "vecStands", fn := fun _ => fun
  | [d1, d2, d3] => { results := [.lit (.bool false)], args := [d1, d2, d3] }
  | _ => none }
def VecStandsWrongFalsely : Prop := vecStandsRow.holds Tryz.pinned (OpenSpec.ofChange vecStandsWrong)

/-- 'lanternlaw12.BsdfBends': WHATEVER THE INPUT: true; the input reads as it did. -/
def bsdfBendsSpec : ChangeSpec := { name := "bsdfBends", fn := fun _ => fun
  | [d1, d2, d3, d4, d5] => { results := [.lit (.bool true)], args := [d1, d2, d3, d4, d5] }
  | _ => none }
def bsdfBendsRow : OpenClaim := { program := "ytnljfcebmgifdaagreat", sum := "7ccbde3c1eda510e9808aa1f57ae7ebac7ff0becc79222a934064184c16058fb", func := "lantern/lanternlaw12.BsdfBends", spec := "bsdfBends", inPlace := ["math.Float64frombits", "math.Float64bits", "math/bits.Add64", "math/bits.Sub64"], unfollowed := true, recurses := true, named := ["math/bits.divideError", "math/bits.overflowError"], apart := false }
def BsdfBendsSaid : Prop := bsdfBendsRow.holds Tryz.pinned (OpenSpec.ofChange bsdfBendsSpec)

/-- ITS FALSE NEIGHBOUR: 'it returns false'. Refute it at one input. -/
def bsdfBendsWrong : ChangeSpec := { name := "bsdfBends", fn := fun _ => fun
  | [d1, d2, d3, d4, d5] => { results := [.lit (.bool false)], args := [d1, d2, d3, d4, d5] }
  | _ => none }
def BsdfBendsWrongFalsely : Prop := bsdfBendsRow.holds Tryz.pinned (OpenSpec.ofChange bsdfBendsWrong)

/- THE SECOND FORM. 'bulk': how many values and letters a reading holds, each counted each time it is reached (what is shared counts as often as it is met; a slice's spare places count too). A statement '..UptoSaid' is the law's where the arguments, and the package variables that the reading takes, are together of bulk at most 1048576: NARROWER than '..Said'. Prove '..Said' where nothing that the law and all that it calls make is longer than what came in: it says more and counts as full. Else prove '..UptoSaid'. A law counts once. -/
mutual
def uptoBulk {H : Type} : DataW H → Nat
  | .lit (.string bytes) => bytes.length + 1
  | .lit _ => 1
  | .nil => 1
  | .ptr d => uptoBulk d + 1
  | .slice elems spare => uptoBulkAll elems + uptoBulkAll spare + 1
  | .agg parts => uptoBulkAll parts + 1
  | .iface _ d => uptoBulk d + 1
  | .map entries => uptoBulkEntries entries + 1
  | .held _ => 1
def uptoBulkAll {H : Type} : List (DataW H) → Nat
  | [] => 0
  | d :: r => uptoBulk d + uptoBulkAll r
def uptoBulkEntries {H : Type} : List (Lit × DataW H) → Nat
  | [] => 0
  | x :: r => uptoBulkEntry x + uptoBulkEntries r
def uptoBulkEntry {H : Type} : Lit × DataW H → Nat
  | (.string bytes, d) => bytes.length + uptoBulk d + 1
  | (_, d) => uptoBulk d + 1
 end
def uptoSmall : (H : Type) → List (DataW H) → Bool := fun _ ds => decide (uptoBulkAll ds ≤ 1048576)
def OpenSpec.upto (s : _root_.Go.ChangeSpec) : _root_.Go.OpenSpec := { _root_.Go.OpenSpec.ofChange s with cond := some uptoSmall }

/-- 'lanternlaw04.XformMoves', WHERE WHAT IT READS IS OF BULK AT MOST 1048576: true; the input reads as it did. -/
def xformMovesUptoRow : OpenClaim := { program := "ytnljfcebmgifdaagreat", sum := "7ccbde3c1eda510e9808aa1f57ae7ebac7ff0becc79222a934064184c16058fb", func := "lantern/lanternlaw04.XformMoves", spec := "xformMoves", inPlace := ["math.Float64bits", "math.Float64frombits", "math/bits.Add64", "math/bits.Sub64"], unfollowed := true, recurses := true, named := ["math/bits.divideError", "math/bits.overflowError"], apart := false, narrowed := true }
def XformMovesUptoSaid : Prop := xformMovesUptoRow.holds Tryz.pinned (OpenSpec.upto xformMovesSpec)

/-- 'lanternlaw03.VecStands', WHERE WHAT IT READS IS OF BULK AT MOST 1048576: true; the input reads as it did. -/
def vecStandsUptoRow : OpenClaim := { program := "ytnljfcebmgifdaagreat", sum := "7ccbde3c1eda510e9808aa1f57ae7ebac7ff0becc79222a934064184c16058fb", func := "lantern/lanternlaw03.VecStands", spec := "vecStands", inPlace := ["math.Float64bits", "math.Float64frombits", "math/bits.Add64", "math/bits.Sub64"], unfollowed := true, recurses := true, named := ["math/bits.divideError", "math/bits.overflowError"], apart := false, narrowed := true }
def VecStandsUptoSaid : Prop := vecStandsUptoRow.holds Tryz.pinned (OpenSpec.upto vecStandsSpec)

/-- 'lanternlaw12.BsdfBends', WHERE WHAT IT READS IS OF BULK AT MOST 1048576: true; the input reads as it did. -/
def bsdfBendsUptoRow : OpenClaim := { program := "ytnljfcebmgifdaagreat", sum := "7ccbde3c1eda510e9808aa1f57ae7ebac7ff0becc79222a934064184c16058fb", func := "lantern/lanternlaw12.BsdfBends", spec := "bsdfBends", inPlace := ["math.Float64frombits", "math.Float64bits", "math/bits.Add64", "math/bits.Sub64"], unfollowed := true, recurses := true, named := ["math/bits.divideError", "math/bits.overflowError"], apart := false, narrowed := true }
def BsdfBendsUptoSaid : Prop := bsdfBendsUptoRow.holds Tryz.pinned (OpenSpec.upto bsdfBendsSpec)

end Rows
end Go.Proofs.YtnljfcebmgifdaaGreat
