/-
  No cell of these rows narrows 'for every input' (looked for: loops, veiled, ifaces, maps, wideKeys, modest, calm, conditions, laid).
  DERIVED. THE GIVEN ROWS OF THIS SEAT. 10 by the template 'for every input the law returns true; each argument reads behind the call as it read before'; 0 by the template 'total and deterministic' (their statements: YthkfaacgabkhhaaTotals.lean).
  GIVEN WITH THE SEED: the statements are not yours to turn. If you find one false, say at which input.
  Laid BY PROGRAM, IN A SANDBOX (cutbox-rows.mjs): the forced cells as the released guide's own fill.sh prints them over the translation 30d0ce04fea12037… (all of the seat's roots in one cut). By AI agents, Wed Nov 11 2026. No macro, syntax, notation, axiom, sorry.
-/
import Derived.Test.YthkfaacgabkhhaaChecked
import GoSem.Claim
import GoSem.ClaimJoined
import GoSem.ClaimMapViews
import Derived.JoinedTies
import Derived.KernelRfl
namespace Go.Proofs.Ythkfaacgabkhhaa
/- THE CELL 'sum', in the pinned program and in every row, IS THE sha256 OF THE DUMP (.gsa) THAT YthkfaacgabkhhaaProg.lean LOADS. Nothing in Lean hashes anything: it is a label: what it is worth is what the hold of that sum in a sandbox is worth. -/
noncomputable def Try.pinned : Pinned := { name := "ythkfaacgabkhhaa", sum := "30d0ce04fea1203790dd2f4be11ebeeaa0f7474ef055e85385f897c1fdf41731", checked := Try.checked }
namespace Rows
def none {H : Type} : Left H := { results := [], args := [] }

/-- 'lanternlaw01.RoundSums': WHATEVER THE INPUT: true; the input reads as it did. -/
def roundSumsSpec : ChangeSpec := { name := "roundSums", fn := fun _ => fun
  | [d1, d2, d3] => { results := [.lit (.bool true)], args := [d1, d2, d3] }
  | _ => none }
def roundSumsRow : OpenClaim := { program := "ythkfaacgabkhhaa", sum := "30d0ce04fea1203790dd2f4be11ebeeaa0f7474ef055e85385f897c1fdf41731", func := "lantern/lanternlaw01.RoundSums", spec := "roundSums", inPlace := ["math.Float64bits", "math.Float64frombits", "math/bits.Add64", "math/bits.Sub64"], named := ["math/bits.divideError", "math/bits.overflowError"], apart := false }
def RoundSumsSaid : Prop := roundSumsRow.holds Try.pinned (OpenSpec.ofChange roundSumsSpec)

/-- ITS FALSE NEIGHBOUR: 'it returns false'. Refute it at one input. -/
def roundSumsWrong : ChangeSpec := { name := "roundSums", fn := fun _ => fun
  | [d1, d2, d3] => { results := [.lit (.bool false)], args := [d1, d2, d3] }
  | _ => none }
def RoundSumsWrongFalsely : Prop := roundSumsRow.holds Try.pinned (OpenSpec.ofChange roundSumsWrong)

/-- 'lanternlaw01.RoundQuotients': WHATEVER THE INPUT: true; the input reads as it did. -/
def roundQuotientsSpec : ChangeSpec := { name := "roundQuotients", fn := fun _ => fun
  | [d1, d2, d3] => { results := [.lit (.bool true)], args := [d1, d2, d3] }
  | _ => none }
def roundQuotientsRow : OpenClaim := { program := "ythkfaacgabkhhaa", sum := "30d0ce04fea1203790dd2f4be11ebeeaa0f7474ef055e85385f897c1fdf41731", func := "lantern/lanternlaw01.RoundQuotients", spec := "roundQuotients", inPlace := ["math.Float64bits", "math.Float64frombits", "math/bits.Add64", "math/bits.Sub64"], named := ["math/bits.divideError", "math/bits.overflowError"], apart := false }
def RoundQuotientsSaid : Prop := roundQuotientsRow.holds Try.pinned (OpenSpec.ofChange roundQuotientsSpec)

/-- ITS FALSE NEIGHBOUR: 'it returns false'. Refute it at one input. -/
def roundQuotientsWrong : ChangeSpec := { name := "roundQuotients", fn := fun _ => fun
  | [d1, d2, d3] => { results := [.lit (.bool false)], args := [d1, d2, d3] }
  | _ => none }
def RoundQuotientsWrongFalsely : Prop := roundQuotientsRow.holds Try.pinned (OpenSpec.ofChange roundQuotientsWrong)

/-- 'lanternlaw01.RoundRatio': WHATEVER THE INPUT: true; the input reads as it did. -/
def roundRatioSpec : ChangeSpec := { name := "roundRatio", fn := fun _ => fun
  | [d1, d2] => { results := [.lit (.bool true)], args := [d1, d2] }
  | _ => none }
def roundRatioRow : OpenClaim := { program := "ythkfaacgabkhhaa", sum := "30d0ce04fea1203790dd2f4be11ebeeaa0f7474ef055e85385f897c1fdf41731", func := "lantern/lanternlaw01.RoundRatio", spec := "roundRatio", inPlace := ["math.Float64bits", "math.Float64frombits", "math/bits.Add64", "math/bits.Sub64"], recurses := true, named := ["math/bits.divideError", "math/bits.overflowError"], apart := false }
def RoundRatioSaid : Prop := roundRatioRow.holds Try.pinned (OpenSpec.ofChange roundRatioSpec)

/-- ITS FALSE NEIGHBOUR: 'it returns false'. Refute it at one input. -/
def roundRatioWrong : ChangeSpec := { name := "roundRatio", fn := fun _ => fun
  | [d1, d2] => { results := [.lit (.bool false)], args := [d1, d2] }
  | _ => none }
def RoundRatioWrongFalsely : Prop := roundRatioRow.holds Try.pinned (OpenSpec.ofChange roundRatioWrong)

/-- 'lanternlaw01.RoundSquare': WHATEVER THE INPUT: true; the input reads as it did. -/
def roundSquareSpec : ChangeSpec := { name := "roundSquare", fn := fun _ => fun
  | [d] => { results := [.lit (.bool true)], args := [d] }
  | _ => none }
def roundSquareRow : OpenClaim := { program := "ythkfaacgabkhhaa", sum := "30d0ce04fea1203790dd2f4be11ebeeaa0f7474ef055e85385f897c1fdf41731", func := "lantern/lanternlaw01.RoundSquare", spec := "roundSquare", inPlace := ["math.Float64bits", "math.Float64frombits", "math/bits.Add64", "math/bits.Sub64"], recurses := true, named := ["math/bits.divideError", "math/bits.overflowError"], apart := false }
def RoundSquareSaid : Prop := roundSquareRow.holds Try.pinned (OpenSpec.ofChange roundSquareSpec)

/-- ITS FALSE NEIGHBOUR: 'it returns false'. Refute it at one input. -/
def roundSquareWrong : ChangeSpec := { name := "roundSquare", fn := fun _ => fun
  | [d] => { results := [.lit (.bool false)], args := [d] }
  | _ => none }
def RoundSquareWrongFalsely : Prop := roundSquareRow.holds Try.pinned (OpenSpec.ofChange roundSquareWrong)

/-- 'lanternlaw01.RoundProducts': WHATEVER THE INPUT: true; the input reads as it did. -/
def roundProductsSpec : ChangeSpec := { name := "roundProducts", fn := fun _ => fun
  | [d1, d2, d3] => { results := [.lit (.bool true)], args := [d1, d2, d3] }
  | _ => none }
def roundProductsRow : OpenClaim := { program := "ythkfaacgabkhhaa", sum := "30d0ce04fea1203790dd2f4be11ebeeaa0f7474ef055e85385f897c1fdf41731", func := "lantern/lanternlaw01.RoundProducts", spec := "roundProducts", inPlace := ["math.Float64bits", "math.Float64frombits", "math/bits.Add64", "math/bits.Sub64"], named := ["math/bits.divideError", "math/bits.overflowError"], apart := false }
def RoundProductsSaid : Prop := roundProductsRow.holds Try.pinned (OpenSpec.ofChange roundProductsSpec)

/-- ITS FALSE NEIGHBOUR: 'it returns false'. Refute it at one input. -/
def roundProductsWrong : ChangeSpec := { name := "roundProducts", fn := fun _ => fun
  | [d1, d2, d3] => { results := [.lit (.bool false)], args := [d1, d2, d3] }
  | _ => none }
def RoundProductsWrongFalsely : Prop := roundProductsRow.holds Try.pinned (OpenSpec.ofChange roundProductsWrong)

/-- 'lanternlaw01.RoundReal': WHATEVER THE INPUT: true; the input reads as it did. -/
def roundRealSpec : ChangeSpec := { name := "roundReal", fn := fun _ => fun
  | [d1, d2] => { results := [.lit (.bool true)], args := [d1, d2] }
  | _ => none }
def roundRealRow : OpenClaim := { program := "ythkfaacgabkhhaa", sum := "30d0ce04fea1203790dd2f4be11ebeeaa0f7474ef055e85385f897c1fdf41731", func := "lantern/lanternlaw01.RoundReal", spec := "roundReal", inPlace := ["math.Float64bits", "math.Float64frombits", "math/bits.Add64", "math/bits.Sub64"], recurses := true, named := ["math/bits.divideError", "math/bits.overflowError"], apart := false }
def RoundRealSaid : Prop := roundRealRow.holds Try.pinned (OpenSpec.ofChange roundRealSpec)

/-- ITS FALSE NEIGHBOUR: 'it returns false'. Refute it at one input. -/
def roundRealWrong : ChangeSpec := { name := "roundReal", fn := fun _ => fun
  | [d1, d2] => { results := [.lit (.bool false)], args := [d1, d2] }
  | _ => none }
def RoundRealWrongFalsely : Prop := roundRealRow.holds Try.pinned (OpenSpec.ofChange roundRealWrong)

/-- 'lanternlaw01.RoundSigns': WHATEVER THE INPUT: true; the input reads as it did. -/
def roundSignsSpec : ChangeSpec := { name := "roundSigns", fn := fun _ => fun
  | [d1, d2] => { results := [.lit (.bool true)], args := [d1, d2] }
  | _ => none }
def roundSignsRow : OpenClaim := { program := "ythkfaacgabkhhaa", sum := "30d0ce04fea1203790dd2f4be11ebeeaa0f7474ef055e85385f897c1fdf41731", func := "lantern/lanternlaw01.RoundSigns", spec := "roundSigns", inPlace := ["math.Float64bits", "math.Float64frombits", "math/bits.Add64", "math/bits.Sub64"], named := ["math/bits.divideError", "math/bits.overflowError"], apart := false }
def RoundSignsSaid : Prop := roundSignsRow.holds Try.pinned (OpenSpec.ofChange roundSignsSpec)

/-- ITS FALSE NEIGHBOUR: 'it returns false'. Refute it at one input. -/
def roundSignsWrong : ChangeSpec := { name := "roundSigns", fn := fun _ => fun
  | [d1, d2] => { results := [.lit (.bool false)], args := [d1, d2] }
  | _ => none }
def RoundSignsWrongFalsely : Prop := roundSignsRow.holds Try.pinned (OpenSpec.ofChange roundSignsWrong)

/-- 'lanternlaw01.RoundRises': WHATEVER THE INPUT: true; the input reads as it did. -/
def roundRisesSpec : ChangeSpec := { name := "roundRises", fn := fun _ => fun
  | [d1, d2, d3, d4] => { results := [.lit (.bool true)], args := [d1, d2, d3, d4] }
  | _ => none }
def roundRisesRow : OpenClaim := { program := "ythkfaacgabkhhaa", sum := "30d0ce04fea1203790dd2f4be11ebeeaa0f7474ef055e85385f897c1fdf41731", func := "lantern/lanternlaw01.RoundRises", spec := "roundRises", inPlace := ["math.Float64bits", "math.Float64frombits", "math/bits.Add64", "math/bits.Sub64"], named := ["math/bits.divideError", "math/bits.overflowError"], apart := false }
def RoundRisesSaid : Prop := roundRisesRow.holds Try.pinned (OpenSpec.ofChange roundRisesSpec)

/-- ITS FALSE NEIGHBOUR: 'it returns false'. Refute it at one input. -/
def roundRisesWrong : ChangeSpec := { name := "roundRises", fn := fun _ => fun
  | [d1, d2, d3, d4] => { results := [.lit (.bool false)], args := [d1, d2, d3, d4] }
  | _ => none }
def RoundRisesWrongFalsely : Prop := roundRisesRow.holds Try.pinned (OpenSpec.ofChange roundRisesWrong)

/-- 'lanternlaw01.RoundNeighbours': WHATEVER THE INPUT: true; the input reads as it did. -/
def roundNeighboursSpec : ChangeSpec := { name := "roundNeighbours", fn := fun _ => fun
  | [d] => { results := [.lit (.bool true)], args := [d] }
  | _ => none }
def roundNeighboursRow : OpenClaim := { program := "ythkfaacgabkhhaa", sum := "30d0ce04fea1203790dd2f4be11ebeeaa0f7474ef055e85385f897c1fdf41731", func := "lantern/lanternlaw01.RoundNeighbours", spec := "roundNeighbours", inPlace := ["math.Float64bits", "math.Float64frombits", "math/bits.Add64", "math/bits.Sub64"], named := ["math/bits.divideError", "math/bits.overflowError"], apart := false }
def RoundNeighboursSaid : Prop := roundNeighboursRow.holds Try.pinned (OpenSpec.ofChange roundNeighboursSpec)

/-- ITS FALSE NEIGHBOUR: 'it returns false'. Refute it at one input. -/
def roundNeighboursWrong : ChangeSpec := { name := "roundNeighbours", fn := fun _ => fun
  | [d] => { results := [.lit (.bool false)], args := [d] }
  | _ => none }
def RoundNeighboursWrongFalsely : Prop := roundNeighboursRow.holds Try.pinned (OpenSpec.ofChange roundNeighboursWrong)

/-- 'lanternlaw01.RoundRoots': WHATEVER THE INPUT: true; the input reads as it did. -/
def roundRootsSpec : ChangeSpec := { name := "roundRoots", fn := fun _ => fun
  | [d1, d2] => { results := [.lit (.bool true)], args := [d1, d2] }
  | _ => none }
def roundRootsRow : OpenClaim := { program := "ythkfaacgabkhhaa", sum := "30d0ce04fea1203790dd2f4be11ebeeaa0f7474ef055e85385f897c1fdf41731", func := "lantern/lanternlaw01.RoundRoots", spec := "roundRoots", inPlace := ["math.Float64bits", "math.Float64frombits", "math/bits.Add64", "math/bits.Sub64", "math.archFloor", "math.archTrunc"], named := ["math/bits.divideError", "math/bits.overflowError"], apart := false }
def RoundRootsSaid : Prop := roundRootsRow.holds Try.pinned (OpenSpec.ofChange roundRootsSpec)

/-- ITS FALSE NEIGHBOUR: 'it returns false'. Refute it at one input. -/
def roundRootsWrong : ChangeSpec := { name := "roundRoots", fn := fun _ => fun
  | [d1, d2] => { results := [.lit (.bool false)], args := [d1, d2] }
  | _ => none }
def RoundRootsWrongFalsely : Prop := roundRootsRow.holds Try.pinned (OpenSpec.ofChange roundRootsWrong)

/- THE SECOND FORM. 'bulk': how many values and letters a reading holds, each counted each time it is reached (what is shared counts as often as it is met; a slice's spare places count too). A statement '..UptoSaid' is the law's where the arguments, and the package variables that the reading takes, are together of bulk at most 1048576: NARROWER than '..Said'. Prove '..Said' where nothing that the law and all that it calls make is longer than what came in: it says more and counts as full. Else prove '..UptoSaid'. A law counts once. -/
mutual
def uptoBulk {H : Type} : DataW H → Nat
  | .lit (.string bytes) => bytes.length + 1
  | .lit _ => 1
  | .nil => 1
  | .ptr d => uptoBulk d + 1
  | .slice elems spare => uptoBulkAll elems + uptoBulkAll spare + 1
  | .agg parts => uptoBulkAll parts + 1
  | .iface _ d => uptoBulk d + 1
  | .map entries => uptoBulkEntries entries + 1
  | .held _ => 1
def uptoBulkAll {H : Type} : List (DataW H) → Nat
  | [] => 0
  | d :: r => uptoBulk d + uptoBulkAll r
def uptoBulkEntries {H : Type} : List (Lit × DataW H) → Nat
  | [] => 0
  | x :: r => uptoBulkEntry x + uptoBulkEntries r
def uptoBulkEntry {H : Type} : Lit × DataW H → Nat
  | (.string bytes, d) => bytes.length + uptoBulk d + 1
  | (_, d) => uptoBulk d + 1
 end
def uptoSmall : (H : Type) → List (DataW H) → Bool := fun _ ds => decide (uptoBulkAll ds ≤ 1048576)
def OpenSpec.upto (s : _root_.Go.ChangeSpec) : _root_.Go.OpenSpec := { _root_.Go.OpenSpec.ofChange s with cond := some uptoSmall }

/-- 'lanternlaw01.RoundSums', WHERE WHAT IT READS IS OF BULK AT MOST 1048576: true; the input reads as it did. -/
def roundSumsUptoRow : OpenClaim := { program := "ythkfaacgabkhhaa", sum := "30d0ce04fea1203790dd2f4be11ebeeaa0f7474ef055e85385f897c1fdf41731", func := "lantern/lanternlaw01.RoundSums", spec := "roundSums", inPlace := ["math.Float64bits", "math.Float64frombits", "math/bits.Add64", "math/bits.Sub64"], named := ["math/bits.divideError", "math/bits.overflowError"], apart := false, narrowed := true }
def RoundSumsUptoSaid : Prop := roundSumsUptoRow.holds Try.pinned (OpenSpec.upto roundSumsSpec)

/-- 'lanternlaw01.RoundQuotients', WHERE WHAT IT READS IS OF BULK AT MOST 1048576: true; the input reads as it did. -/
def roundQuotientsUptoRow : OpenClaim := { program := "ythkfaacgabkhhaa", sum := "30d0ce04fea1203790dd2f4be11ebeeaa0f7474ef055e85385f897c1fdf41731", func := "lantern/lanternlaw01.RoundQuotients", spec := "roundQuotients", inPlace := ["math.Float64bits", "math.Float64frombits", "math/bits.Add64", "math/bits.Sub64"], named := ["math/bits.divideError", "math/bits.overflowError"], apart := false, narrowed := true }
def RoundQuotientsUptoSaid : Prop := roundQuotientsUptoRow.holds Try.pinned (OpenSpec.upto roundQuotientsSpec)

/-- 'lanternlaw01.RoundRatio', WHERE WHAT IT READS IS OF BULK AT MOST 1048576: true; the input reads as it did. -/
def roundRatioUptoRow : OpenClaim := { program := "ythkfaacgabkhhaa", sum := "30d0ce04fea1203790dd2f4be11ebeeaa0f7474ef055e85385f897c1fdf41731", func := "lantern/lanternlaw01.RoundRatio", spec := "roundRatio", inPlace := ["math.Float64bits", "math.Float64frombits", "math/bits.Add64", "math/bits.Sub64"], recurses := true, named := ["math/bits.divideError", "math/bits.overflowError"], apart := false, narrowed := true }
def RoundRatioUptoSaid : Prop := roundRatioUptoRow.holds Try.pinned (OpenSpec.upto roundRatioSpec)

/-- 'lanternlaw01.RoundSquare', WHERE WHAT IT READS IS OF BULK AT MOST 1048576: true; the input reads as it did. -/
def roundSquareUptoRow : OpenClaim := { program := "ythkfaacgabkhhaa", sum := "30d0ce04fea1203790dd2f4be11ebeeaa0f7474ef055e85385f897c1fdf41731", func := "lantern/lanternlaw01.RoundSquare", spec := "roundSquare", inPlace := ["math.Float64bits", "math.Float64frombits", "math/bits.Add64", "math/bits.Sub64"], recurses := true, named := ["math/bits.divideError", "math/bits.overflowError"], apart := false, narrowed := true }
def RoundSquareUptoSaid : Prop := roundSquareUptoRow.holds Try.pinned (OpenSpec.upto roundSquareSpec)

/-- 'lanternlaw01.RoundProducts', WHERE WHAT IT READS IS OF BULK AT MOST 1048576: true; the input reads as it did. -/
def roundProductsUptoRow : OpenClaim := { program := "ythkfaacgabkhhaa", sum := "30d0ce04fea1203790dd2f4be11ebeeaa0f7474ef055e85385f897c1fdf41731", func := "lantern/lanternlaw01.RoundProducts", spec := "roundProducts", inPlace := ["math.Float64bits", "math.Float64frombits", "math/bits.Add64", "math/bits.Sub64"], named := ["math/bits.divideError", "math/bits.overflowError"], apart := false, narrowed := true }
def RoundProductsUptoSaid : Prop := roundProductsUptoRow.holds Try.pinned (OpenSpec.upto roundProductsSpec)

/-- 'lanternlaw01.RoundReal', WHERE WHAT IT READS IS OF BULK AT MOST 1048576: true; the input reads as it did. -/
def roundRealUptoRow : OpenClaim := { program := "ythkfaacgabkhhaa", sum := "30d0ce04fea1203790dd2f4be11ebeeaa0f7474ef055e85385f897c1fdf41731", func := "lantern/lanternlaw01.RoundReal", spec := "roundReal", inPlace := ["math.Float64bits", "math.Float64frombits", "math/bits.Add64", "math/bits.Sub64"], recurses := true, named := ["math/bits.divideError", "math/bits.overflowError"], apart := false, narrowed := true }
def RoundRealUptoSaid : Prop := roundRealUptoRow.holds Try.pinned (OpenSpec.upto roundRealSpec)

/-- 'lanternlaw01.RoundSigns', WHERE WHAT IT READS IS OF BULK AT MOST 1048576: true; the input reads as it did. -/
def roundSignsUptoRow : OpenClaim := { program := "ythkfaacgabkhhaa", sum := "30d0ce04fea1203790dd2f4be11ebeeaa0f7474ef055e85385f897c1fdf41731", func := "lantern/lanternlaw01.RoundSigns", spec := "roundSigns", inPlace := ["math.Float64bits", "math.Float64frombits", "math/bits.Add64", "math/bits.Sub64"], named := ["math/bits.divideError", "math/bits.overflowError"], apart := false, narrowed := true }
def RoundSignsUptoSaid : Prop := roundSignsUptoRow.holds Try.pinned (OpenSpec.upto roundSignsSpec)

/-- 'lanternlaw01.RoundRises', WHERE WHAT IT READS IS OF BULK AT MOST 1048576: true; the input reads as it did. -/
def roundRisesUptoRow : OpenClaim := { program := "ythkfaacgabkhhaa", sum := "30d0ce04fea1203790dd2f4be11ebeeaa0f7474ef055e85385f897c1fdf41731", func := "lantern/lanternlaw01.RoundRises", spec := "roundRises", inPlace := ["math.Float64bits", "math.Float64frombits", "math/bits.Add64", "math/bits.Sub64"], named := ["math/bits.divideError", "math/bits.overflowError"], apart := false, narrowed := true }
def RoundRisesUptoSaid : Prop := roundRisesUptoRow.holds Try.pinned (OpenSpec.upto roundRisesSpec)

/-- 'lanternlaw01.RoundNeighbours', WHERE WHAT IT READS IS OF BULK AT MOST 1048576: true; the input reads as it did. -/
def roundNeighboursUptoRow : OpenClaim := { program := "ythkfaacgabkhhaa", sum := "30d0ce04fea1203790dd2f4be11ebeeaa0f7474ef055e85385f897c1fdf41731", func := "lantern/lanternlaw01.RoundNeighbours", spec := "roundNeighbours", inPlace := ["math.Float64bits", "math.Float64frombits", "math/bits.Add64", "math/bits.Sub64"], named := ["math/bits.divideError", "math/bits.overflowError"], apart := false, narrowed := true }
def RoundNeighboursUptoSaid : Prop := roundNeighboursUptoRow.holds Try.pinned (OpenSpec.upto roundNeighboursSpec)

/-- 'lanternlaw01.RoundRoots', WHERE WHAT IT READS IS OF BULK AT MOST 1048576: true; the input reads as it did. -/
def roundRootsUptoRow : OpenClaim := { program := "ythkfaacgabkhhaa", sum := "30d0ce04fea1203790dd2f4be11ebeeaa0f7474ef055e85385f897c1fdf41731", func := "lantern/lanternlaw01.RoundRoots", spec := "roundRoots", inPlace := ["math.Float64bits", "math.Float64frombits", "math/bits.Add64", "math/bits.Sub64", "math.archFloor", "math.archTrunc"], named := ["math/bits.divideError", "math/bits.overflowError"], apart := false, narrowed := true }
def RoundRootsUptoSaid : Prop := roundRootsUptoRow.holds Try.pinned (OpenSpec.upto roundRootsSpec)

end Rows
end Go.Proofs.Ythkfaacgabkhhaa
