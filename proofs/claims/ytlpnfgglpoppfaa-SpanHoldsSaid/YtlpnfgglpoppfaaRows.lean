/-
  No cell of these rows narrows 'for every input' (looked for: loops, veiled, ifaces, maps, wideKeys, modest, calm, conditions, laid).
  DERIVED. THE GIVEN ROWS OF THIS SEAT. 11 by the template 'for every input the law returns true; each argument reads behind the call as it read before'; 0 by the template 'total and deterministic' (their statements: YtlpnfgglpoppfaaTotals.lean).
  GIVEN WITH THE SEED: the statements are not yours to turn. If you find one false, say at which input.
  Laid BY PROGRAM, IN A SANDBOX (cutbox-rows.mjs): the forced cells as the released guide's own fill.sh prints them over the translation 48546e4555e0f230… (all of the seat's roots in one cut). By AI agents, Wed Nov 11 2026. No macro, syntax, notation, axiom, sorry.
-/
import Derived.Test.YtlpnfgglpoppfaaChecked
import GoSem.Claim
import GoSem.ClaimJoined
import GoSem.ClaimMapViews
import Derived.JoinedTies
import Derived.KernelRfl
namespace Go.Proofs.Ytlpnfgglpoppfaa
/- THE CELL 'sum', in the pinned program and in every row, IS THE sha256 OF THE DUMP (.gsa) THAT YtlpnfgglpoppfaaProg.lean LOADS. Nothing in Lean hashes anything: it is a label: what it is worth is what the hold of that sum in a sandbox is worth. -/
noncomputable def Try.pinned : Pinned := { name := "ytlpnfgglpoppfaa", sum := "48546e4555e0f230add13771a669742e0a513ee5fccbab69b06716e253215037", checked := Try.checked }
namespace Rows
def none {H : Type} : Left H := { results := [], args := [] }

/-- 'lanternlaw02.SpanMeets': WHATEVER THE INPUT: true; the input reads as it did. -/
def spanMeetsSpec : ChangeSpec := { name := "spanMeets", fn := fun _ => fun
  | [d1, d2, d3] => { results := [.lit (.bool true)], args := [d1, d2, d3] }
  | _ => none }
def spanMeetsRow : OpenClaim := { program := "ytlpnfgglpoppfaa", sum := "48546e4555e0f230add13771a669742e0a513ee5fccbab69b06716e253215037", func := "lantern/lanternlaw02.SpanMeets", spec := "spanMeets", inPlace := ["math.Float64bits", "math.Float64frombits"], apart := false }
def SpanMeetsSaid : Prop := spanMeetsRow.holds Try.pinned (OpenSpec.ofChange spanMeetsSpec)

/-- ITS FALSE NEIGHBOUR: 'it returns false'. Refute it at one input. -/
def spanMeetsWrong : ChangeSpec := { name := "spanMeets", fn := fun _ => fun
  | [d1, d2, d3] => { results := [.lit (.bool false)], args := [d1, d2, d3] }
  | _ => none }
def SpanMeetsWrongFalsely : Prop := spanMeetsRow.holds Try.pinned (OpenSpec.ofChange spanMeetsWrong)

/-- 'lanternlaw02.SpanMakes': WHATEVER THE INPUT: true; the input reads as it did. -/
def spanMakesSpec : ChangeSpec := { name := "spanMakes", fn := fun _ => fun
  | [d1, d2, d3] => { results := [.lit (.bool true)], args := [d1, d2, d3] }
  | _ => none }
def spanMakesRow : OpenClaim := { program := "ytlpnfgglpoppfaa", sum := "48546e4555e0f230add13771a669742e0a513ee5fccbab69b06716e253215037", func := "lantern/lanternlaw02.SpanMakes", spec := "spanMakes", inPlace := ["math.Float64bits", "math.Float64frombits"], apart := false }
def SpanMakesSaid : Prop := spanMakesRow.holds Try.pinned (OpenSpec.ofChange spanMakesSpec)

/-- ITS FALSE NEIGHBOUR: 'it returns false'. Refute it at one input. -/
def spanMakesWrong : ChangeSpec := { name := "spanMakes", fn := fun _ => fun
  | [d1, d2, d3] => { results := [.lit (.bool false)], args := [d1, d2, d3] }
  | _ => none }
def SpanMakesWrongFalsely : Prop := spanMakesRow.holds Try.pinned (OpenSpec.ofChange spanMakesWrong)

/-- 'lanternlaw02.SpanAnswers': WHATEVER THE INPUT: true; the input reads as it did. -/
def spanAnswersSpec : ChangeSpec := { name := "spanAnswers", fn := fun _ => fun
  | [d1, d2, d3, d4] => { results := [.lit (.bool true)], args := [d1, d2, d3, d4] }
  | _ => none }
def spanAnswersRow : OpenClaim := { program := "ytlpnfgglpoppfaa", sum := "48546e4555e0f230add13771a669742e0a513ee5fccbab69b06716e253215037", func := "lantern/lanternlaw02.SpanAnswers", spec := "spanAnswers", inPlace := ["math.Float64bits", "math.Float64frombits", "math.archFloor", "math.archTrunc"], apart := false }
def SpanAnswersSaid : Prop := spanAnswersRow.holds Try.pinned (OpenSpec.ofChange spanAnswersSpec)

/-- ITS FALSE NEIGHBOUR: 'it returns false'. Refute it at one input. -/
def spanAnswersWrong : ChangeSpec := { name := "spanAnswers", fn := fun _ => fun
  | [d1, d2, d3, d4] => { results := [.lit (.bool false)], args := [d1, d2, d3, d4] }
  | _ => none }
def SpanAnswersWrongFalsely : Prop := spanAnswersRow.holds Try.pinned (OpenSpec.ofChange spanAnswersWrong)

/-- 'lanternlaw02.SpanMids': WHATEVER THE INPUT: true; the input reads as it did. -/
def spanMidsSpec : ChangeSpec := { name := "spanMids", fn := fun _ => fun
  | [d] => { results := [.lit (.bool true)], args := [d] }
  | _ => none }
def spanMidsRow : OpenClaim := { program := "ytlpnfgglpoppfaa", sum := "48546e4555e0f230add13771a669742e0a513ee5fccbab69b06716e253215037", func := "lantern/lanternlaw02.SpanMids", spec := "spanMids", inPlace := ["math.Float64bits", "math.Float64frombits", "math/bits.Add64", "math/bits.Sub64"], apart := false }
def SpanMidsSaid : Prop := spanMidsRow.holds Try.pinned (OpenSpec.ofChange spanMidsSpec)

/-- ITS FALSE NEIGHBOUR: 'it returns false'. Refute it at one input. -/
def spanMidsWrong : ChangeSpec := { name := "spanMids", fn := fun _ => fun
  | [d] => { results := [.lit (.bool false)], args := [d] }
  | _ => none }
def SpanMidsWrongFalsely : Prop := spanMidsRow.holds Try.pinned (OpenSpec.ofChange spanMidsWrong)

/-- 'lanternlaw02.SpanHolds': WHATEVER THE INPUT: true; the input reads as it did. -/
def spanHoldsSpec : ChangeSpec := { name := "spanHolds", fn := fun _ => fun
  | [d1, d2, d3, d4] => { results := [.lit (.bool true)], args := [d1, d2, d3, d4] }
  | _ => none }
def spanHoldsRow : OpenClaim := { program := "ytlpnfgglpoppfaa", sum := "48546e4555e0f230add13771a669742e0a513ee5fccbab69b06716e253215037", func := "lantern/lanternlaw02.SpanHolds", spec := "spanHolds", inPlace := ["math.Float64bits", "math.Float64frombits", "math/bits.Add64", "math/bits.Sub64"], recurses := true, apart := false }
def SpanHoldsSaid : Prop := spanHoldsRow.holds Try.pinned (OpenSpec.ofChange spanHoldsSpec)

/-- ITS FALSE NEIGHBOUR: 'it returns false'. Refute it at one input. -/
def spanHoldsWrong : ChangeSpec := { name := "spanHolds", fn := fun _ => fun
  | [d1, d2, d3, d4] => { results := [.lit (.bool false)], args := [d1, d2, d3, d4] }
  | _ => none }
def SpanHoldsWrongFalsely : Prop := spanHoldsRow.holds Try.pinned (OpenSpec.ofChange spanHoldsWrong)

/-- 'lanternlaw02.SpanSwaps': WHATEVER THE INPUT: true; the input reads as it did. -/
def spanSwapsSpec : ChangeSpec := { name := "spanSwaps", fn := fun _ => fun
  | [d1, d2] => { results := [.lit (.bool true)], args := [d1, d2] }
  | _ => none }
def spanSwapsRow : OpenClaim := { program := "ytlpnfgglpoppfaa", sum := "48546e4555e0f230add13771a669742e0a513ee5fccbab69b06716e253215037", func := "lantern/lanternlaw02.SpanSwaps", spec := "spanSwaps", inPlace := ["math.Float64bits", "math.Float64frombits", "math/bits.Add64", "math/bits.Sub64"], apart := false }
def SpanSwapsSaid : Prop := spanSwapsRow.holds Try.pinned (OpenSpec.ofChange spanSwapsSpec)

/-- ITS FALSE NEIGHBOUR: 'it returns false'. Refute it at one input. -/
def spanSwapsWrong : ChangeSpec := { name := "spanSwaps", fn := fun _ => fun
  | [d1, d2] => { results := [.lit (.bool false)], args := [d1, d2] }
  | _ => none }
def SpanSwapsWrongFalsely : Prop := spanSwapsRow.holds Try.pinned (OpenSpec.ofChange spanSwapsWrong)

/-- 'lanternlaw02.SpanAsks': WHATEVER THE INPUT: true; the input reads as it did. -/
def spanAsksSpec : ChangeSpec := { name := "spanAsks", fn := fun _ => fun
  | [d1, d2] => { results := [.lit (.bool true)], args := [d1, d2] }
  | _ => none }
def spanAsksRow : OpenClaim := { program := "ytlpnfgglpoppfaa", sum := "48546e4555e0f230add13771a669742e0a513ee5fccbab69b06716e253215037", func := "lantern/lanternlaw02.SpanAsks", spec := "spanAsks", inPlace := ["math.Float64bits", "math.Float64frombits", "math.archFloor", "math.archTrunc", "math/bits.Add64", "math/bits.Sub64"], apart := false }
def SpanAsksSaid : Prop := spanAsksRow.holds Try.pinned (OpenSpec.ofChange spanAsksSpec)

/-- ITS FALSE NEIGHBOUR: 'it returns false'. Refute it at one input. -/
def spanAsksWrong : ChangeSpec := { name := "spanAsks", fn := fun _ => fun
  | [d1, d2] => { results := [.lit (.bool false)], args := [d1, d2] }
  | _ => none }
def SpanAsksWrongFalsely : Prop := spanAsksRow.holds Try.pinned (OpenSpec.ofChange spanAsksWrong)

/-- 'lanternlaw02.SpanStays': WHATEVER THE INPUT: true; the input reads as it did. -/
def spanStaysSpec : ChangeSpec := { name := "spanStays", fn := fun _ => fun
  | [d1, d2] => { results := [.lit (.bool true)], args := [d1, d2] }
  | _ => none }
def spanStaysRow : OpenClaim := { program := "ytlpnfgglpoppfaa", sum := "48546e4555e0f230add13771a669742e0a513ee5fccbab69b06716e253215037", func := "lantern/lanternlaw02.SpanStays", spec := "spanStays", inPlace := ["math.Float64bits", "math.Float64frombits", "math/bits.Add64", "math/bits.Sub64"], named := ["math/bits.divideError", "math/bits.overflowError"], apart := false }
def SpanStaysSaid : Prop := spanStaysRow.holds Try.pinned (OpenSpec.ofChange spanStaysSpec)

/-- ITS FALSE NEIGHBOUR: 'it returns false'. Refute it at one input. -/
def spanStaysWrong : ChangeSpec := { name := "spanStays", fn := fun _ => fun
  | [d1, d2] => { results := [.lit (.bool false)], args := [d1, d2] }
  | _ => none }
def SpanStaysWrongFalsely : Prop := spanStaysRow.holds Try.pinned (OpenSpec.ofChange spanStaysWrong)

/-- 'lanternlaw02.SpanReckons': WHATEVER THE INPUT: true; the input reads as it did. -/
def spanReckonsSpec : ChangeSpec := { name := "spanReckons", fn := fun _ => fun
  | [d1, d2] => { results := [.lit (.bool true)], args := [d1, d2] }
  | _ => none }
def spanReckonsRow : OpenClaim := { program := "ytlpnfgglpoppfaa", sum := "48546e4555e0f230add13771a669742e0a513ee5fccbab69b06716e253215037", func := "lantern/lanternlaw02.SpanReckons", spec := "spanReckons", inPlace := ["math.Float64bits", "math.Float64frombits", "math/bits.Add64", "math/bits.Sub64"], named := ["math/bits.divideError", "math/bits.overflowError"], apart := false }
def SpanReckonsSaid : Prop := spanReckonsRow.holds Try.pinned (OpenSpec.ofChange spanReckonsSpec)

/-- ITS FALSE NEIGHBOUR: 'it returns false'. Refute it at one input. -/
def spanReckonsWrong : ChangeSpec := { name := "spanReckons", fn := fun _ => fun
  | [d1, d2] => { results := [.lit (.bool false)], args := [d1, d2] }
  | _ => none }
def SpanReckonsWrongFalsely : Prop := spanReckonsRow.holds Try.pinned (OpenSpec.ofChange spanReckonsWrong)

/-- 'lanternlaw02.SpanNests': WHATEVER THE INPUT: true; the input reads as it did. -/
def spanNestsSpec : ChangeSpec := { name := "spanNests", fn := fun _ => fun
  | [d1, d2, d3] => { results := [.lit (.bool true)], args := [d1, d2, d3] }
  | _ => none }
def spanNestsRow : OpenClaim := { program := "ytlpnfgglpoppfaa", sum := "48546e4555e0f230add13771a669742e0a513ee5fccbab69b06716e253215037", func := "lantern/lanternlaw02.SpanNests", spec := "spanNests", inPlace := ["math.Float64bits", "math.Float64frombits", "math/bits.Add64", "math/bits.Sub64", "math.archFloor", "math.archTrunc"], named := ["math/bits.divideError", "math/bits.overflowError"], apart := false }
def SpanNestsSaid : Prop := spanNestsRow.holds Try.pinned (OpenSpec.ofChange spanNestsSpec)

/-- ITS FALSE NEIGHBOUR: 'it returns false'. Refute it at one input. -/
def spanNestsWrong : ChangeSpec := { name := "spanNests", fn := fun _ => fun
  | [d1, d2, d3] => { results := [.lit (.bool false)], args := [d1, d2, d3] }
  | _ => none }
def SpanNestsWrongFalsely : Prop := spanNestsRow.holds Try.pinned (OpenSpec.ofChange spanNestsWrong)

/-- 'lanternlaw02.SpanInside': WHATEVER THE INPUT: true; the input reads as it did. -/
def spanInsideSpec : ChangeSpec := { name := "spanInside", fn := fun _ => fun
  | [d1, d2, d3, d4] => { results := [.lit (.bool true)], args := [d1, d2, d3, d4] }
  | _ => none }
def spanInsideRow : OpenClaim := { program := "ytlpnfgglpoppfaa", sum := "48546e4555e0f230add13771a669742e0a513ee5fccbab69b06716e253215037", func := "lantern/lanternlaw02.SpanInside", spec := "spanInside", inPlace := ["math.Float64bits", "math.Float64frombits", "math/bits.Add64", "math/bits.Sub64", "math.archFloor", "math.archTrunc"], named := ["math/bits.divideError", "math/bits.overflowError"], apart := false }
def SpanInsideSaid : Prop := spanInsideRow.holds Try.pinned (OpenSpec.ofChange spanInsideSpec)

/-- ITS FALSE NEIGHBOUR: 'it returns false'. Refute it at one input. -/
def spanInsideWrong : ChangeSpec := { name := "spanInside", fn := fun _ => fun
  | [d1, d2, d3, d4] => { results := [.lit (.bool false)], args := [d1, d2, d3, d4] }
  | _ => none }
def SpanInsideWrongFalsely : Prop := spanInsideRow.holds Try.pinned (OpenSpec.ofChange spanInsideWrong)

/- THE SECOND FORM. 'bulk': how many values and letters a reading holds, each counted each time it is reached (what is shared counts as often as it is met; a slice's spare places count too). A statement '..UptoSaid' is the law's where the arguments, and the package variables that the reading takes, are together of bulk at most 1048576: NARROWER than '..Said'. Prove '..Said' where nothing that the law and all that it calls make is longer than what came in: it says more and counts as full. Else prove '..UptoSaid'. A law counts once. -/
mutual
def uptoBulk {H : Type} : DataW H → Nat
  | .lit (.string bytes) => bytes.length + 1
  | .lit _ => 1
  | .nil => 1
  | .ptr d => uptoBulk d + 1
  | .slice elems spare => uptoBulkAll elems + uptoBulkAll spare + 1
  | .agg parts => uptoBulkAll parts + 1
  | .iface _ d => uptoBulk d + 1
  | .map entries => uptoBulkEntries entries + 1
  | .held _ => 1
def uptoBulkAll {H : Type} : List (DataW H) → Nat
  | [] => 0
  | d :: r => uptoBulk d + uptoBulkAll r
def uptoBulkEntries {H : Type} : List (Lit × DataW H) → Nat
  | [] => 0
  | x :: r => uptoBulkEntry x + uptoBulkEntries r
def uptoBulkEntry {H : Type} : Lit × DataW H → Nat
  | (.string bytes, d) => bytes.length + uptoBulk d + 1
  | (_, d) => uptoBulk d + 1
 end
def uptoSmall : (H : Type) → List (DataW H) → Bool := fun _ ds => decide (uptoBulkAll ds ≤ 1048576)
def OpenSpec.upto (s : _root_.Go.ChangeSpec) : _root_.Go.OpenSpec := { _root_.Go.OpenSpec.ofChange s with cond := some uptoSmall }

/-- 'lanternlaw02.SpanMeets', WHERE WHAT IT READS IS OF BULK AT MOST 1048576: true; the input reads as it did. -/
def spanMeetsUptoRow : OpenClaim := { program := "ytlpnfgglpoppfaa", sum := "48546e4555e0f230add13771a669742e0a513ee5fccbab69b06716e253215037", func := "lantern/lanternlaw02.SpanMeets", spec := "spanMeets", inPlace := ["math.Float64bits", "math.Float64frombits"], apart := false, narrowed := true }
def SpanMeetsUptoSaid : Prop := spanMeetsUptoRow.holds Try.pinned (OpenSpec.upto spanMeetsSpec)

/-- 'lanternlaw02.SpanMakes', WHERE WHAT IT READS IS OF BULK AT MOST 1048576: true; the input reads as it did. -/
def spanMakesUptoRow : OpenClaim := { program := "ytlpnfgglpoppfaa", sum := "48546e4555e0f230add13771a669742e0a513ee5fccbab69b06716e253215037", func := "lantern/lanternlaw02.SpanMakes", spec := "spanMakes", inPlace := ["math.Float64bits", "math.Float64frombits"], apart := false, narrowed := true }
def SpanMakesUptoSaid : Prop := spanMakesUptoRow.holds Try.pinned (OpenSpec.upto spanMakesSpec)

/-- 'lanternlaw02.SpanAnswers', WHERE WHAT IT READS IS OF BULK AT MOST 1048576: true; the input reads as it did. -/
def spanAnswersUptoRow : OpenClaim := { program := "ytlpnfgglpoppfaa", sum := "48546e4555e0f230add13771a669742e0a513ee5fccbab69b06716e253215037", func := "lantern/lanternlaw02.SpanAnswers", spec := "spanAnswers", inPlace := ["math.Float64bits", "math.Float64frombits", "math.archFloor", "math.archTrunc"], apart := false, narrowed := true }
def SpanAnswersUptoSaid : Prop := spanAnswersUptoRow.holds Try.pinned (OpenSpec.upto spanAnswersSpec)

/-- 'lanternlaw02.SpanMids', WHERE WHAT IT READS IS OF BULK AT MOST 1048576: true; the input reads as it did. -/
def spanMidsUptoRow : OpenClaim := { program := "ytlpnfgglpoppfaa", sum := "48546e4555e0f230add13771a669742e0a513ee5fccbab69b06716e253215037", func := "lantern/lanternlaw02.SpanMids", spec := "spanMids", inPlace := ["math.Float64bits", "math.Float64frombits", "math/bits.Add64", "math/bits.Sub64"], apart := false, narrowed := true }
def SpanMidsUptoSaid : Prop := spanMidsUptoRow.holds Try.pinned (OpenSpec.upto spanMidsSpec)

/-- 'lanternlaw02.SpanHolds', WHERE WHAT IT READS IS OF BULK AT MOST 1048576: true; the input reads as it did. -/
def spanHoldsUptoRow : OpenClaim := { program := "ytlpnfgglpoppfaa", sum := "48546e4555e0f230add13771a669742e0a513ee5fccbab69b06716e253215037", func := "lantern/lanternlaw02.SpanHolds", spec := "spanHolds", inPlace := ["math.Float64bits", "math.Float64frombits", "math/bits.Add64", "math/bits.Sub64"], recurses := true, apart := false, narrowed := true }
def SpanHoldsUptoSaid : Prop := spanHoldsUptoRow.holds Try.pinned (OpenSpec.upto spanHoldsSpec)

/-- 'lanternlaw02.SpanSwaps', WHERE WHAT IT READS IS OF BULK AT MOST 1048576: true; the input reads as it did. -/
def spanSwapsUptoRow : OpenClaim := { program := "ytlpnfgglpoppfaa", sum := "48546e4555e0f230add13771a669742e0a513ee5fccbab69b06716e253215037", func := "lantern/lanternlaw02.SpanSwaps", spec := "spanSwaps", inPlace := ["math.Float64bits", "math.Float64frombits", "math/bits.Add64", "math/bits.Sub64"], apart := false, narrowed := true }
def SpanSwapsUptoSaid : Prop := spanSwapsUptoRow.holds Try.pinned (OpenSpec.upto spanSwapsSpec)

/-- 'lanternlaw02.SpanAsks', WHERE WHAT IT READS IS OF BULK AT MOST 1048576: true; the input reads as it did. -/
def spanAsksUptoRow : OpenClaim := { program := "ytlpnfgglpoppfaa", sum := "48546e4555e0f230add13771a669742e0a513ee5fccbab69b06716e253215037", func := "lantern/lanternlaw02.SpanAsks", spec := "spanAsks", inPlace := ["math.Float64bits", "math.Float64frombits", "math.archFloor", "math.archTrunc", "math/bits.Add64", "math/bits.Sub64"], apart := false, narrowed := true }
def SpanAsksUptoSaid : Prop := spanAsksUptoRow.holds Try.pinned (OpenSpec.upto spanAsksSpec)

/-- 'lanternlaw02.SpanStays', WHERE WHAT IT READS IS OF BULK AT MOST 1048576: true; the input reads as it did. -/
def spanStaysUptoRow : OpenClaim := { program := "ytlpnfgglpoppfaa", sum := "48546e4555e0f230add13771a669742e0a513ee5fccbab69b06716e253215037", func := "lantern/lanternlaw02.SpanStays", spec := "spanStays", inPlace := ["math.Float64bits", "math.Float64frombits", "math/bits.Add64", "math/bits.Sub64"], named := ["math/bits.divideError", "math/bits.overflowError"], apart := false, narrowed := true }
def SpanStaysUptoSaid : Prop := spanStaysUptoRow.holds Try.pinned (OpenSpec.upto spanStaysSpec)

/-- 'lanternlaw02.SpanReckons', WHERE WHAT IT READS IS OF BULK AT MOST 1048576: true; the input reads as it did. -/
def spanReckonsUptoRow : OpenClaim := { program := "ytlpnfgglpoppfaa", sum := "48546e4555e0f230add13771a669742e0a513ee5fccbab69b06716e253215037", func := "lantern/lanternlaw02.SpanReckons", spec := "spanReckons", inPlace := ["math.Float64bits", "math.Float64frombits", "math/bits.Add64", "math/bits.Sub64"], named := ["math/bits.divideError", "math/bits.overflowError"], apart := false, narrowed := true }
def SpanReckonsUptoSaid : Prop := spanReckonsUptoRow.holds Try.pinned (OpenSpec.upto spanReckonsSpec)

/-- 'lanternlaw02.SpanNests', WHERE WHAT IT READS IS OF BULK AT MOST 1048576: true; the input reads as it did. -/
def spanNestsUptoRow : OpenClaim := { program := "ytlpnfgglpoppfaa", sum := "48546e4555e0f230add13771a669742e0a513ee5fccbab69b06716e253215037", func := "lantern/lanternlaw02.SpanNests", spec := "spanNests", inPlace := ["math.Float64bits", "math.Float64frombits", "math/bits.Add64", "math/bits.Sub64", "math.archFloor", "math.archTrunc"], named := ["math/bits.divideError", "math/bits.overflowError"], apart := false, narrowed := true }
def SpanNestsUptoSaid : Prop := spanNestsUptoRow.holds Try.pinned (OpenSpec.upto spanNestsSpec)

/-- 'lanternlaw02.SpanInside', WHERE WHAT IT READS IS OF BULK AT MOST 1048576: true; the input reads as it did. -/
def spanInsideUptoRow : OpenClaim := { program := "ytlpnfgglpoppfaa", sum := "48546e4555e0f230add13771a669742e0a513ee5fccbab69b06716e253215037", func := "lantern/lanternlaw02.SpanInside", spec := "spanInside", inPlace := ["math.Float64bits", "math.Float64frombits", "math/bits.Add64", "math/bits.Sub64", "math.archFloor", "math.archTrunc"], named := ["math/bits.divideError", "math/bits.overflowError"], apart := false, narrowed := true }
def SpanInsideUptoSaid : Prop := spanInsideUptoRow.holds Try.pinned (OpenSpec.upto spanInsideSpec)

end Rows
end Go.Proofs.Ytlpnfgglpoppfaa
