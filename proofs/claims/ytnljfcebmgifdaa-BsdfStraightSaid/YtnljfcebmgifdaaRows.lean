/-
  No cell of these rows narrows 'for every input' (looked for: loops, veiled, ifaces, maps, wideKeys, modest, calm, conditions, laid).
  DERIVED. THE GIVEN ROWS OF THIS SEAT. 8 by the template 'for every input the law returns true; each argument reads behind the call as it read before'; 0 by the template 'total and deterministic' (their statements: YtnljfcebmgifdaaTotals.lean).
  GIVEN WITH THE SEED: the statements are not yours to turn. If you find one false, say at which input.
  Laid BY PROGRAM, IN A SANDBOX (cutbox-rows.mjs): the forced cells as the released guide's own fill.sh prints them over the translation 5dada4e652c56809… (all of the seat's roots in one cut). By AI agents, Wed Nov 11 2026. No macro, syntax, notation, axiom, sorry.
-/
import Derived.Test.YtnljfcebmgifdaaChecked
import GoSem.Claim
import GoSem.ClaimJoined
import GoSem.ClaimMapViews
import Derived.JoinedTies
import Derived.KernelRfl
namespace Go.Proofs.Ytnljfcebmgifdaa
/- THE CELL 'sum', in the pinned program and in every row, IS THE sha256 OF THE DUMP (.gsa) THAT YtnljfcebmgifdaaProg.lean LOADS. Nothing in Lean hashes anything: it is a label: what it is worth is what the hold of that sum in a sandbox is worth. -/
noncomputable def Try.pinned : Pinned := { name := "ytnljfcebmgifdaa", sum := "5dada4e652c568091048c60e4f45340bdcfd2ac9938bf2aa67de2ee65df86895", checked := Try.checked }
namespace Rows
def none {H : Type} : Left H := { results := [], args := [] }

/-- 'lanternlaw04.XformTurns': WHATEVER THE INPUT: true; the input reads as it did. -/
def xformTurnsSpec : ChangeSpec := { name := "xformTurns", fn := fun _ => fun
  | [d1, d2, d3, d4] => { results := [.lit (.bool true)], args := [d1, d2, d3, d4] }
  | _ => none }
def xformTurnsRow : OpenClaim := { program := "ytnljfcebmgifdaa", sum := "5dada4e652c568091048c60e4f45340bdcfd2ac9938bf2aa67de2ee65df86895", func := "lantern/lanternlaw04.XformTurns", spec := "xformTurns", inPlace := ["math.Float64bits", "math.Float64frombits", "math/bits.Add64", "math/bits.Sub64"], unfollowed := true, recurses := true, named := ["math/bits.divideError", "math/bits.overflowError"], apart := false }
def XformTurnsSaid : Prop := xformTurnsRow.holds Try.pinned (OpenSpec.ofChange xformTurnsSpec)

/-- ITS FALSE NEIGHBOUR: 'it returns false'. Refute it at one input. -/
def xformTurnsWrong : ChangeSpec := { name := "xformTurns", fn := fun _ => fun
  | [d1, d2, d3, d4] => { results := [.lit (.bool false)], args := [d1, d2, d3, d4] }
  | _ => none }
def XformTurnsWrongFalsely : Prop := xformTurnsRow.holds Try.pinned (OpenSpec.ofChange xformTurnsWrong)

/-- 'lanternlaw04.XformMakes': WHATEVER THE INPUT: true; the input reads as it did. -/
def xformMakesSpec : ChangeSpec := { name := "xformMakes", fn := fun _ => fun
  | [d1, d2, d3, d4] => { results := [.lit (.bool true)], args := [d1, d2, d3, d4] }
  | _ => none }
def xformMakesRow : OpenClaim := { program := "ytnljfcebmgifdaa", sum := "5dada4e652c568091048c60e4f45340bdcfd2ac9938bf2aa67de2ee65df86895", func := "lantern/lanternlaw04.XformMakes", spec := "xformMakes", inPlace := ["math.Float64bits", "math.Float64frombits", "math/bits.Add64", "math/bits.Sub64"], unfollowed := true, recurses := true, named := ["math/bits.divideError", "math/bits.overflowError"], apart := false }
def XformMakesSaid : Prop := xformMakesRow.holds Try.pinned (OpenSpec.ofChange xformMakesSpec)

/-- ITS FALSE NEIGHBOUR: 'it returns false'. Refute it at one input. -/
def xformMakesWrong : ChangeSpec := { name := "xformMakes", fn := fun _ => fun
  | [d1, d2, d3, d4] => { results := [.lit (.bool false)], args := [d1, d2, d3, d4] }
  | _ => none }
def XformMakesWrongFalsely : Prop := xformMakesRow.holds Try.pinned (OpenSpec.ofChange xformMakesWrong)

/-- 'lanternlaw03.VecReal': WHATEVER THE INPUT: true; the input reads as it did. -/
def vecRealSpec : ChangeSpec := { name := "vecReal", fn := fun _ => fun
  | [d1, d2] => { results := [.lit (.bool true)], args := [d1, d2] }
  | _ => none }
def vecRealRow : OpenClaim := { program := "ytnljfcebmgifdaa", sum := "5dada4e652c568091048c60e4f45340bdcfd2ac9938bf2aa67de2ee65df86895", func := "lantern/lanternlaw03.VecReal", spec := "vecReal", inPlace := ["math.Float64bits", "math.Float64frombits", "math/bits.Add64", "math/bits.Sub64"], unfollowed := true, recurses := true, named := ["math/bits.divideError", "math/bits.overflowError"], apart := false }
def VecRealSaid : Prop := vecRealRow.holds Try.pinned (OpenSpec.ofChange vecRealSpec)

/-- ITS FALSE NEIGHBOUR: 'it returns false'. Refute it at one input. -/
def vecRealWrong : ChangeSpec := { name := "vecReal", fn := fun _ => fun
  | [d1, d2] => { results := [.lit (.bool false)], args := [d1, d2] }
  | _ => none }
def VecRealWrongFalsely : Prop := vecRealRow.holds Try.pinned (OpenSpec.ofChange vecRealWrong)

/-- 'lanternlaw03.VecNests': WHATEVER THE INPUT: true; the input reads as it did. -/
def vecNestsSpec : ChangeSpec := { name := "vecNests", fn := fun _ => fun
  | [d1, d2, d3, d4] => { results := [.lit (.bool true)], args := [d1, d2, d3, d4] }
  | _ => none }
def vecNestsRow : OpenClaim := { program := "ytnljfcebmgifdaa", sum := "5dada4e652c568091048c60e4f45340bdcfd2ac9938bf2aa67de2ee65df86895", func := "lantern/lanternlaw03.VecNests", spec := "vecNests", inPlace := ["math.Float64bits", "math.Float64frombits", "math/bits.Add64", "math/bits.Sub64"], unfollowed := true, recurses := true, named := ["math/bits.divideError", "math/bits.overflowError"], apart := false }
def VecNestsSaid : Prop := vecNestsRow.holds Try.pinned (OpenSpec.ofChange vecNestsSpec)

/-- ITS FALSE NEIGHBOUR: 'it returns false'. Refute it at one input. -/
def vecNestsWrong : ChangeSpec := { name := "vecNests", fn := fun _ => fun
  | [d1, d2, d3, d4] => { results := [.lit (.bool false)], args := [d1, d2, d3, d4] }
  | _ => none }
def VecNestsWrongFalsely : Prop := vecNestsRow.holds Try.pinned (OpenSpec.ofChange vecNestsWrong)

/-- 'lanternlaw12.BsdfKeeps': WHATEVER THE INPUT: true; the input reads as it did. -/
def bsdfKeepsSpec : ChangeSpec := { name := "bsdfKeeps", fn := fun _ => fun
  | [d1, d2] => { results := [.lit (.bool true)], args := [d1, d2] }
  | _ => none }
def bsdfKeepsRow : OpenClaim := { program := "ytnljfcebmgifdaa", sum := "5dada4e652c568091048c60e4f45340bdcfd2ac9938bf2aa67de2ee65df86895", func := "lantern/lanternlaw12.BsdfKeeps", spec := "bsdfKeeps", inPlace := ["math.Float64frombits", "math.Float64bits", "math/bits.Add64", "math/bits.Sub64"], unfollowed := true, recurses := true, apart := false }
def BsdfKeepsSaid : Prop := bsdfKeepsRow.holds Try.pinned (OpenSpec.ofChange bsdfKeepsSpec)

/-- ITS FALSE NEIGHBOUR: 'it returns false'. Refute it at one input. -/
def bsdfKeepsWrong : ChangeSpec := { name := "bsdfKeeps", fn := fun _ => fun
  | [d1, d2] => { results := [.lit (.bool false)], args := [d1, d2] }
  | _ => none }
def BsdfKeepsWrongFalsely : Prop := bsdfKeepsRow.holds Try.pinned (OpenSpec.ofChange bsdfKeepsWrong)

/-- 'lanternlaw12.BsdfShares': WHATEVER THE INPUT: true; the input reads as it did. -/
def bsdfSharesSpec : ChangeSpec := { name := "bsdfShares", fn := fun _ => fun
  | [d1, d2, d3] => { results := [.lit (.bool true)], args := [d1, d2, d3] }
  | _ => none }
def bsdfSharesRow : OpenClaim := { program := "ytnljfcebmgifdaa", sum := "5dada4e652c568091048c60e4f45340bdcfd2ac9938bf2aa67de2ee65df86895", func := "lantern/lanternlaw12.BsdfShares", spec := "bsdfShares", inPlace := ["math.Float64frombits", "math.Float64bits", "math/bits.Add64", "math/bits.Sub64"], unfollowed := true, recurses := true, named := ["math/bits.divideError", "math/bits.overflowError"], apart := false }
def BsdfSharesSaid : Prop := bsdfSharesRow.holds Try.pinned (OpenSpec.ofChange bsdfSharesSpec)

/-- ITS FALSE NEIGHBOUR: 'it returns false'. Refute it at one input. -/
def bsdfSharesWrong : ChangeSpec := { name := "bsdfShares", fn := fun _ => fun
  | [d1, d2, d3] => { results := [.lit (.bool false)], args := [d1, d2, d3] }
  | _ => none }
def BsdfSharesWrongFalsely : Prop := bsdfSharesRow.holds Try.pinned (OpenSpec.ofChange bsdfSharesWrong)

/-- 'lanternlaw12.BsdfTurns': WHATEVER THE INPUT: true; the input reads as it did. -/
def bsdfTurnsSpec : ChangeSpec := { name := "bsdfTurns", fn := fun _ => fun
  | [d1, d2] => { results := [.lit (.bool true)], args := [d1, d2] }
  | _ => none }
def bsdfTurnsRow : OpenClaim := { program := "ytnljfcebmgifdaa", sum := "5dada4e652c568091048c60e4f45340bdcfd2ac9938bf2aa67de2ee65df86895", func := "lantern/lanternlaw12.BsdfTurns", spec := "bsdfTurns", inPlace := ["math.Float64frombits", "math.Float64bits", "math/bits.Add64", "math/bits.Sub64"], unfollowed := true, recurses := true, apart := false }
def BsdfTurnsSaid : Prop := bsdfTurnsRow.holds Try.pinned (OpenSpec.ofChange bsdfTurnsSpec)

/-- ITS FALSE NEIGHBOUR: 'it returns false'. Refute it at one input. -/
def bsdfTurnsWrong : ChangeSpec := { name := "bsdfTurns", fn := fun _ => fun
  | [d1, d2] => { results := [.lit (.bool false)], args := [d1, d2] }
  | _ => none }
def BsdfTurnsWrongFalsely : Prop := bsdfTurnsRow.holds Try.pinned (OpenSpec.ofChange bsdfTurnsWrong)

/-- 'lanternlaw12.BsdfStraight': WHATEVER THE INPUT: true; the input reads as it did. -/
def bsdfStraightSpec : ChangeSpec := { name := "bsdfStraight", fn := fun _ => fun
  | [d1, d2] => { results := [.lit (.bool true)], args := [d1, d2] }
  | _ => none }
def bsdfStraightRow : OpenClaim := { program := "ytnljfcebmgifdaa", sum := "5dada4e652c568091048c60e4f45340bdcfd2ac9938bf2aa67de2ee65df86895", func := "lantern/lanternlaw12.BsdfStraight", spec := "bsdfStraight", inPlace := ["math.Float64frombits", "math.Float64bits", "math/bits.Add64", "math/bits.Sub64"], unfollowed := true, recurses := true, named := ["math/bits.divideError", "math/bits.overflowError"], apart := false }
def BsdfStraightSaid : Prop := bsdfStraightRow.holds Try.pinned (OpenSpec.ofChange bsdfStraightSpec)

/-- ITS FALSE NEIGHBOUR: 'it returns false'. Refute it at one input. -/
def bsdfStraightWrong : ChangeSpec := { name := "bsdfStraight", fn := fun _ => fun
  | [d1, d2] => { results := [.lit (.bool false)], args := [d1, d2] }
  | _ => none }
def BsdfStraightWrongFalsely : Prop := bsdfStraightRow.holds Try.pinned (OpenSpec.ofChange bsdfStraightWrong)

/- THE SECOND FORM. 'bulk': how many values and letters a reading holds, each counted each time it is reached (what is shared counts as often as it is met; a slice's spare places count too). A statement '..UptoSaid' is the law's where the arguments, and the package variables that the reading takes, are together of bulk at most 1048576: NARROWER than '..Said'. Prove '..Said' where nothing that the law and all that it calls make is longer than what came in: it says more and counts as full. Else prove '..UptoSaid'. A law counts once. -/
mutual
def uptoBulk {H : Type} : DataW H → Nat
  | .lit (.string bytes) => bytes.length + 1
  | .lit _ => 1
  | .nil => 1
  | .ptr d => uptoBulk d + 1
  | .slice elems spare => uptoBulkAll elems + uptoBulkAll spare + 1
  | .agg parts => uptoBulkAll parts + 1
  | .iface _ d => uptoBulk d + 1
  | .map entries => uptoBulkEntries entries + 1
  | .held _ => 1
def uptoBulkAll {H : Type} : List (DataW H) → Nat
  | [] => 0
  | d :: r => uptoBulk d + uptoBulkAll r
def uptoBulkEntries {H : Type} : List (Lit × DataW H) → Nat
  | [] => 0
  | x :: r => uptoBulkEntry x + uptoBulkEntries r
def uptoBulkEntry {H : Type} : Lit × DataW H → Nat
  | (.string bytes, d) => bytes.length + uptoBulk d + 1
  | (_, d) => uptoBulk d + 1
 end
def uptoSmall : (H : Type) → List (DataW H) → Bool := fun _ ds => decide (uptoBulkAll ds ≤ 1048576)
def OpenSpec.upto (s : _root_.Go.ChangeSpec) : _root_.Go.OpenSpec := { _root_.Go.OpenSpec.ofChange s with cond := some uptoSmall }

/-- 'lanternlaw04.XformTurns', WHERE WHAT IT READS IS OF BULK AT MOST 1048576: true; the input reads as it did. -/
def xformTurnsUptoRow : OpenClaim := { program := "ytnljfcebmgifdaa", sum := "5dada4e652c568091048c60e4f45340bdcfd2ac9938bf2aa67de2ee65df86895", func := "lantern/lanternlaw04.XformTurns", spec := "xformTurns", inPlace := ["math.Float64bits", "math.Float64frombits", "math/bits.Add64", "math/bits.Sub64"], unfollowed := true, recurses := true, named := ["math/bits.divideError", "math/bits.overflowError"], apart := false, narrowed := true }
def XformTurnsUptoSaid : Prop := xformTurnsUptoRow.holds Try.pinned (OpenSpec.upto xformTurnsSpec)

/-- 'lanternlaw04.XformMakes', WHERE WHAT IT READS IS OF BULK AT MOST 1048576: true; the input reads as it did. -/
def xformMakesUptoRow : OpenClaim := { program := "ytnljfcebmgifdaa", sum := "5dada4e652c568091048c60e4f45340bdcfd2ac9938bf2aa67de2ee65df86895", func := "lantern/lanternlaw04.XformMakes", spec := "xformMakes", inPlace := ["math.Float64bits", "math.Float64frombits", "math/bits.Add64", "math/bits.Sub64"], unfollowed := true, recurses := true, named := ["math/bits.divideError", "math/bits.overflowError"], apart := false, narrowed := true }
def XformMakesUptoSaid : Prop := xformMakesUptoRow.holds Try.pinned (OpenSpec.upto xformMakesSpec)

/-- 'lanternlaw03.VecReal', WHERE WHAT IT READS IS OF BULK AT MOST 1048576: true; the input reads as it did. -/
def vecRealUptoRow : OpenClaim := { program := "ytnljfcebmgifdaa", sum := "5dada4e652c568091048c60e4f45340bdcfd2ac9938bf2aa67de2ee65df86895", func := "lantern/lanternlaw03.VecReal", spec := "vecReal", inPlace := ["math.Float64bits", "math.Float64frombits", "math/bits.Add64", "math/bits.Sub64"], unfollowed := true, recurses := true, named := ["math/bits.divideError", "math/bits.overflowError"], apart := false, narrowed := true }
def VecRealUptoSaid : Prop := vecRealUptoRow.holds Try.pinned (OpenSpec.upto vecRealSpec)

/-- 'lanternlaw03.VecNests', WHERE WHAT IT READS IS OF BULK AT MOST 1048576: true; the input reads as it did. -/
def vecNestsUptoRow : OpenClaim := { program := "ytnljfcebmgifdaa", sum := "5dada4e652c568091048c60e4f45340bdcfd2ac9938bf2aa67de2ee65df86895", func := "lantern/lanternlaw03.VecNests", spec := "vecNests", inPlace := ["math.Float64bits", "math.Float64frombits", "math/bits.Add64", "math/bits.Sub64"], unfollowed := true, recurses := true, named := ["math/bits.divideError", "math/bits.overflowError"], apart := false, narrowed := true }
def VecNestsUptoSaid : Prop := vecNestsUptoRow.holds Try.pinned (OpenSpec.upto vecNestsSpec)

/-- 'lanternlaw12.BsdfKeeps', WHERE WHAT IT READS IS OF BULK AT MOST 1048576: true; the input reads as it did. -/
def bsdfKeepsUptoRow : OpenClaim := { program := "ytnljfcebmgifdaa", sum := "5dada4e652c568091048c60e4f45340bdcfd2ac9938bf2aa67de2ee65df86895", func := "lantern/lanternlaw12.BsdfKeeps", spec := "bsdfKeeps", inPlace := ["math.Float64frombits", "math.Float64bits", "math/bits.Add64", "math/bits.Sub64"], unfollowed := true, recurses := true, apart := false, narrowed := true }
def BsdfKeepsUptoSaid : Prop := bsdfKeepsUptoRow.holds Try.pinned (OpenSpec.upto bsdfKeepsSpec)

/-- 'lanternlaw12.BsdfShares', WHERE WHAT IT READS IS OF BULK AT MOST 1048576: true; the input reads as it did. -/
def bsdfSharesUptoRow : OpenClaim := { program := "ytnljfcebmgifdaa", sum := "5dada4e652c568091048c60e4f45340bdcfd2ac9938bf2aa67de2ee65df86895", func := "lantern/lanternlaw12.BsdfShares", spec := "bsdfShares", inPlace := ["math.Float64frombits", "math.Float64bits", "math/bits.Add64", "math/bits.Sub64"], unfollowed := true, recurses := true, named := ["math/bits.divideError", "math/bits.overflowError"], apart := false, narrowed := true }
def BsdfSharesUptoSaid : Prop := bsdfSharesUptoRow.holds Try.pinned (OpenSpec.upto bsdfSharesSpec)

/-- 'lanternlaw12.BsdfTurns', WHERE WHAT IT READS IS OF BULK AT MOST 1048576: true; the input reads as it did. -/
def bsdfTurnsUptoRow : OpenClaim := { program := "ytnljfcebmgifdaa", sum := "5dada4e652c568091048c60e4f45340bdcfd2ac9938bf2aa67de2ee65df86895", func := "lantern/lanternlaw12.BsdfTurns", spec := "bsdfTurns", inPlace := ["math.Float64frombits", "math.Float64bits", "math/bits.Add64", "math/bits.Sub64"], unfollowed := true, recurses := true, apart := false, narrowed := true }
def BsdfTurnsUptoSaid : Prop := bsdfTurnsUptoRow.holds Try.pinned (OpenSpec.upto bsdfTurnsSpec)

/-- 'lanternlaw12.BsdfStraight', WHERE WHAT IT READS IS OF BULK AT MOST 1048576: true; the input reads as it did. -/
def bsdfStraightUptoRow : OpenClaim := { program := "ytnljfcebmgifdaa", sum := "5dada4e652c568091048c60e4f45340bdcfd2ac9938bf2aa67de2ee65df86895", func := "lantern/lanternlaw12.BsdfStraight", spec := "bsdfStraight", inPlace := ["math.Float64frombits", "math.Float64bits", "math/bits.Add64", "math/bits.Sub64"], unfollowed := true, recurses := true, named := ["math/bits.divideError", "math/bits.overflowError"], apart := false, narrowed := true }
def BsdfStraightUptoSaid : Prop := bsdfStraightUptoRow.holds Try.pinned (OpenSpec.upto bsdfStraightSpec)

end Rows
end Go.Proofs.Ytnljfcebmgifdaa
