/-
  No cell of these rows narrows 'for every input' (looked for: loops, veiled, ifaces, maps, wideKeys, modest, calm, conditions, laid).
  DERIVED. THE GIVEN ROWS OF THIS SEAT. 10 by the template 'for every input the law returns true; each argument reads behind the call as it read before'; 0 by the template 'total and deterministic' (their statements: YtdgaaceebghcpaaTotals.lean).
  GIVEN WITH THE SEED: the statements are not yours to turn. If you find one false, say at which input.
  Laid BY PROGRAM, IN A SANDBOX (cutbox-rows.mjs): the forced cells as the released guide's own fill.sh prints them over the translation 863d912fea40271d… (all of the seat's roots in one cut). By AI agents, Wed Nov 11 2026. No macro, syntax, notation, axiom, sorry.
-/
import Derived.Test.YtdgaaceebghcpaaChecked
import GoSem.Claim
import GoSem.ClaimJoined
import GoSem.ClaimMapViews
import Derived.JoinedTies
import Derived.KernelRfl
namespace Go.Proofs.Ytdgaaceebghcpaa
/- THE CELL 'sum', in the pinned program and in every row, IS THE sha256 OF THE DUMP (.gsa) THAT YtdgaaceebghcpaaProg.lean LOADS. Nothing in Lean hashes anything: it is a label: what it is worth is what the hold of that sum in a sandbox is worth. -/
noncomputable def Try.pinned : Pinned := { name := "ytdgaaceebghcpaa", sum := "863d912fea40271d572dc5ace0ecba76da4976f215c48370d14dd1ca07482810", checked := Try.checked }
namespace Rows
def none {H : Type} : Left H := { results := [], args := [] }

/-- 'lanternlaw04.XformChains': WHATEVER THE INPUT: true; the input reads as it did. -/
def xformChainsSpec : ChangeSpec := { name := "xformChains", fn := fun _ => fun
  | [d1, d2, d3] => { results := [.lit (.bool true)], args := [d1, d2, d3] }
  | _ => none }
def xformChainsRow : OpenClaim := { program := "ytdgaaceebghcpaa", sum := "863d912fea40271d572dc5ace0ecba76da4976f215c48370d14dd1ca07482810", func := "lantern/lanternlaw04.XformChains", spec := "xformChains", inPlace := ["math.Float64bits", "math.Float64frombits", "math/bits.Add64", "math/bits.Sub64"], unfollowed := true, recurses := true, apart := false }
def XformChainsSaid : Prop := xformChainsRow.holds Try.pinned (OpenSpec.ofChange xformChainsSpec)

/-- ITS FALSE NEIGHBOUR: 'it returns false'. Refute it at one input. -/
def xformChainsWrong : ChangeSpec := { name := "xformChains", fn := fun _ => fun
  | [d1, d2, d3] => { results := [.lit (.bool false)], args := [d1, d2, d3] }
  | _ => none }
def XformChainsWrongFalsely : Prop := xformChainsRow.holds Try.pinned (OpenSpec.ofChange xformChainsWrong)

/-- 'lanternlaw04.XformSame': WHATEVER THE INPUT: true; the input reads as it did. -/
def xformSameSpec : ChangeSpec := { name := "xformSame", fn := fun _ => fun
  | [d1, d2, d3] => { results := [.lit (.bool true)], args := [d1, d2, d3] }
  | _ => none }
def xformSameRow : OpenClaim := { program := "ytdgaaceebghcpaa", sum := "863d912fea40271d572dc5ace0ecba76da4976f215c48370d14dd1ca07482810", func := "lantern/lanternlaw04.XformSame", spec := "xformSame", inPlace := ["math.Float64bits", "math.Float64frombits", "math/bits.Add64", "math/bits.Sub64"], unfollowed := true, recurses := true, apart := false }
def XformSameSaid : Prop := xformSameRow.holds Try.pinned (OpenSpec.ofChange xformSameSpec)

/-- ITS FALSE NEIGHBOUR: 'it returns false'. Refute it at one input. -/
def xformSameWrong : ChangeSpec := { name := "xformSame", fn := fun _ => fun
  | [d1, d2, d3] => { results := [.lit (.bool false)], args := [d1, d2, d3] }
  | _ => none }
def XformSameWrongFalsely : Prop := xformSameRow.holds Try.pinned (OpenSpec.ofChange xformSameWrong)

/-- 'lanternlaw04.XformBacks': WHATEVER THE INPUT: true; the input reads as it did. -/
def xformBacksSpec : ChangeSpec := { name := "xformBacks", fn := fun _ => fun
  | [d1, d2] => { results := [.lit (.bool true)], args := [d1, d2] }
  | _ => none }
def xformBacksRow : OpenClaim := { program := "ytdgaaceebghcpaa", sum := "863d912fea40271d572dc5ace0ecba76da4976f215c48370d14dd1ca07482810", func := "lantern/lanternlaw04.XformBacks", spec := "xformBacks", inPlace := ["math.Float64bits", "math.Float64frombits", "math/bits.Add64", "math/bits.Sub64"], unfollowed := true, recurses := true, named := ["math/bits.divideError", "math/bits.overflowError"], apart := false }
def XformBacksSaid : Prop := xformBacksRow.holds Try.pinned (OpenSpec.ofChange xformBacksSpec)

/-- ITS FALSE NEIGHBOUR: 'it returns false'. Refute it at one input. -/
def xformBacksWrong : ChangeSpec := { name := "xformBacks", fn := fun _ => fun
  | [d1, d2] => { results := [.lit (.bool false)], args := [d1, d2] }
  | _ => none }
def XformBacksWrongFalsely : Prop := xformBacksRow.holds Try.pinned (OpenSpec.ofChange xformBacksWrong)

/-- 'lanternlaw03.VecReal': WHATEVER THE INPUT: true; the input reads as it did. -/
def vecRealSpec : ChangeSpec := { name := "vecReal", fn := fun _ => fun
  | [d1, d2] => { results := [.lit (.bool true)], args := [d1, d2] }
  | _ => none }
def vecRealRow : OpenClaim := { program := "ytdgaaceebghcpaa", sum := "863d912fea40271d572dc5ace0ecba76da4976f215c48370d14dd1ca07482810", func := "lantern/lanternlaw03.VecReal", spec := "vecReal", inPlace := ["math.Float64bits", "math.Float64frombits", "math/bits.Add64", "math/bits.Sub64"], unfollowed := true, recurses := true, named := ["math/bits.divideError", "math/bits.overflowError"], apart := false }
def VecRealSaid : Prop := vecRealRow.holds Try.pinned (OpenSpec.ofChange vecRealSpec)

/-- ITS FALSE NEIGHBOUR: 'it returns false'. Refute it at one input. -/
def vecRealWrong : ChangeSpec := { name := "vecReal", fn := fun _ => fun
  | [d1, d2] => { results := [.lit (.bool false)], args := [d1, d2] }
  | _ => none }
def VecRealWrongFalsely : Prop := vecRealRow.holds Try.pinned (OpenSpec.ofChange vecRealWrong)

/-- 'lanternlaw03.VecSwaps': WHATEVER THE INPUT: true; the input reads as it did. -/
def vecSwapsSpec : ChangeSpec := { name := "vecSwaps", fn := fun _ => fun
  | [d1, d2] => { results := [.lit (.bool true)], args := [d1, d2] }
  | _ => none }
def vecSwapsRow : OpenClaim := { program := "ytdgaaceebghcpaa", sum := "863d912fea40271d572dc5ace0ecba76da4976f215c48370d14dd1ca07482810", func := "lantern/lanternlaw03.VecSwaps", spec := "vecSwaps", inPlace := ["math.Float64bits", "math.Float64frombits", "math/bits.Add64", "math/bits.Sub64"], unfollowed := true, recurses := true, named := ["math/bits.divideError", "math/bits.overflowError"], apart := false }
def VecSwapsSaid : Prop := vecSwapsRow.holds Try.pinned (OpenSpec.ofChange vecSwapsSpec)

/-- ITS FALSE NEIGHBOUR: 'it returns false'. Refute it at one input. -/
def vecSwapsWrong : ChangeSpec := { name := "vecSwaps", fn := fun _ => fun
  | [d1, d2] => { results := [.lit (.bool false)], args := [d1, d2] }
  | _ => none }
def VecSwapsWrongFalsely : Prop := vecSwapsRow.holds Try.pinned (OpenSpec.ofChange vecSwapsWrong)

/-- 'lanternlaw03.VecReckons': WHATEVER THE INPUT: true; the input reads as it did. -/
def vecReckonsSpec : ChangeSpec := { name := "vecReckons", fn := fun _ => fun
  | [d1, d2, d3] => { results := [.lit (.bool true)], args := [d1, d2, d3] }
  | _ => none }
def vecReckonsRow : OpenClaim := { program := "ytdgaaceebghcpaa", sum := "863d912fea40271d572dc5ace0ecba76da4976f215c48370d14dd1ca07482810", func := "lantern/lanternlaw03.VecReckons", spec := "vecReckons", inPlace := ["math.Float64bits", "math.Float64frombits", "math/bits.Add64", "math/bits.Sub64"], unfollowed := true, recurses := true, named := ["math/bits.divideError", "math/bits.overflowError"], apart := false }
def VecReckonsSaid : Prop := vecReckonsRow.holds Try.pinned (OpenSpec.ofChange vecReckonsSpec)

/-- ITS FALSE NEIGHBOUR: 'it returns false'. Refute it at one input. -/
def vecReckonsWrong : ChangeSpec := { name := "vecReckons", fn := fun _ => fun
  | [d1, d2, d3] => { results := [.lit (.bool false)], args := [d1, d2, d3] }
  | _ => none }
def VecReckonsWrongFalsely : Prop := vecReckonsRow.holds Try.pinned (OpenSpec.ofChange vecReckonsWrong)

/-- 'lanternlaw03.VecUpright': WHATEVER THE INPUT: true; the input reads as it did. -/
def vecUprightSpec : ChangeSpec := { name := "vecUpright", fn := fun _ => fun
  | [d] => { results := [.lit (.bool true)], args := [d] }
  | _ => none }
def vecUprightRow : OpenClaim := { program := "ytdgaaceebghcpaa", sum := "863d912fea40271d572dc5ace0ecba76da4976f215c48370d14dd1ca07482810", func := "lantern/lanternlaw03.VecUpright", spec := "vecUpright", inPlace := ["math.Float64bits", "math.Float64frombits", "math/bits.Add64", "math/bits.Sub64"], unfollowed := true, recurses := true, named := ["math/bits.divideError", "math/bits.overflowError"], apart := false }
def VecUprightSaid : Prop := vecUprightRow.holds Try.pinned (OpenSpec.ofChange vecUprightSpec)

/-- ITS FALSE NEIGHBOUR: 'it returns false'. Refute it at one input. -/
def vecUprightWrong : ChangeSpec := { name := "vecUpright", fn := fun _ => fun
  | [d] => { results := [.lit (.bool false)], args := [d] }
  | _ => none }
def VecUprightWrongFalsely : Prop := vecUprightRow.holds Try.pinned (OpenSpec.ofChange vecUprightWrong)

/-- 'lanternlaw03.VecNests': WHATEVER THE INPUT: true; the input reads as it did. -/
def vecNestsSpec : ChangeSpec := { name := "vecNests", fn := fun _ => fun
  | [d1, d2, d3, d4] => { results := [.lit (.bool true)], args := [d1, d2, d3, d4] }
  | _ => none }
def vecNestsRow : OpenClaim := { program := "ytdgaaceebghcpaa", sum := "863d912fea40271d572dc5ace0ecba76da4976f215c48370d14dd1ca07482810", func := "lantern/lanternlaw03.VecNests", spec := "vecNests", inPlace := ["math.Float64bits", "math.Float64frombits", "math/bits.Add64", "math/bits.Sub64"], unfollowed := true, recurses := true, named := ["math/bits.divideError", "math/bits.overflowError"], apart := false }
def VecNestsSaid : Prop := vecNestsRow.holds Try.pinned (OpenSpec.ofChange vecNestsSpec)

/-- ITS FALSE NEIGHBOUR: 'it returns false'. Refute it at one input. -/
def vecNestsWrong : ChangeSpec := { name := "vecNests", fn := fun _ => fun
  | [d1, d2, d3, d4] => { results := [.lit (.bool false)], args := [d1, d2, d3, d4] }
  | _ => none }
def VecNestsWrongFalsely : Prop := vecNestsRow.holds Try.pinned (OpenSpec.ofChange vecNestsWrong)

/-- 'lanternlaw04.XformMakes': WHATEVER THE INPUT: true; the input reads as it did. -/
def xformMakesSpec : ChangeSpec := { name := "xformMakes", fn := fun _ => fun
  | [d1, d2, d3, d4] => { results := [.lit (.bool true)], args := [d1, d2, d3, d4] }
  | _ => none }
def xformMakesRow : OpenClaim := { program := "ytdgaaceebghcpaa", sum := "863d912fea40271d572dc5ace0ecba76da4976f215c48370d14dd1ca07482810", func := "lantern/lanternlaw04.XformMakes", spec := "xformMakes", inPlace := ["math.Float64bits", "math.Float64frombits", "math/bits.Add64", "math/bits.Sub64"], unfollowed := true, recurses := true, named := ["math/bits.divideError", "math/bits.overflowError"], apart := false }
def XformMakesSaid : Prop := xformMakesRow.holds Try.pinned (OpenSpec.ofChange xformMakesSpec)

/-- ITS FALSE NEIGHBOUR: 'it returns false'. Refute it at one input. -/
def xformMakesWrong : ChangeSpec := { name := "xformMakes", fn := fun _ => fun
  | [d1, d2, d3, d4] => { results := [.lit (.bool false)], args := [d1, d2, d3, d4] }
  | _ => none }
def XformMakesWrongFalsely : Prop := xformMakesRow.holds Try.pinned (OpenSpec.ofChange xformMakesWrong)

/-- 'lanternlaw04.XformTurns': WHATEVER THE INPUT: true; the input reads as it did. -/
def xformTurnsSpec : ChangeSpec := { name := "xformTurns", fn := fun _ => fun
  | [d1, d2, d3, d4] => { results := [.lit (.bool true)], args := [d1, d2, d3, d4] }
  | _ => none }
def xformTurnsRow : OpenClaim := { program := "ytdgaaceebghcpaa", sum := "863d912fea40271d572dc5ace0ecba76da4976f215c48370d14dd1ca07482810", func := "lantern/lanternlaw04.XformTurns", spec := "xformTurns", inPlace := ["math.Float64bits", "math.Float64frombits", "math/bits.Add64", "math/bits.Sub64"], unfollowed := true, recurses := true, named := ["math/bits.divideError", "math/bits.overflowError"], apart := false }
def XformTurnsSaid : Prop := xformTurnsRow.holds Try.pinned (OpenSpec.ofChange xformTurnsSpec)

/-- ITS FALSE NEIGHBOUR: 'it returns false'. Refute it at one input. -/
def xformTurnsWrong : ChangeSpec := { name := "xformTurns", fn := fun _ => fun
  | [d1, d2, d3, d4] => { results := [.lit (.bool false)], args := [d1, d2, d3, d4] }
  | _ => none }
def XformTurnsWrongFalsely : Prop := xformTurnsRow.holds Try.pinned (OpenSpec.ofChange xformTurnsWrong)

/- THE SECOND FORM. 'bulk': how many values and letters a reading holds, each counted each time it is reached (what is shared counts as often as it is met; a slice's spare places count too). A statement '..UptoSaid' is the law's where the arguments, and the package variables that the reading takes, are together of bulk at most 1048576: NARROWER than '..Said'. Prove '..Said' where nothing that the law and all that it calls make is longer than what came in: it says more and counts as full. Else prove '..UptoSaid'. A law counts once. -/
mutual
def uptoBulk {H : Type} : DataW H → Nat
  | .lit (.string bytes) => bytes.length + 1
  | .lit _ => 1
  | .nil => 1
  | .ptr d => uptoBulk d + 1
  | .slice elems spare => uptoBulkAll elems + uptoBulkAll spare + 1
  | .agg parts => uptoBulkAll parts + 1
  | .iface _ d => uptoBulk d + 1
  | .map entries => uptoBulkEntries entries + 1
  | .held _ => 1
def uptoBulkAll {H : Type} : List (DataW H) → Nat
  | [] => 0
  | d :: r => uptoBulk d + uptoBulkAll r
def uptoBulkEntries {H : Type} : List (Lit × DataW H) → Nat
  | [] => 0
  | x :: r => uptoBulkEntry x + uptoBulkEntries r
def uptoBulkEntry {H : Type} : Lit × DataW H → Nat
  | (.string bytes, d) => bytes.length + uptoBulk d + 1
  | (_, d) => uptoBulk d + 1
 end
def uptoSmall : (H : Type) → List (DataW H) → Bool := fun _ ds => decide (uptoBulkAll ds ≤ 1048576)
def OpenSpec.upto (s : _root_.Go.ChangeSpec) : _root_.Go.OpenSpec := { _root_.Go.OpenSpec.ofChange s with cond := some uptoSmall }

/-- 'lanternlaw04.XformChains', WHERE WHAT IT READS IS OF BULK AT MOST 1048576: true; the input reads as it did. -/
def xformChainsUptoRow : OpenClaim := { program := "ytdgaaceebghcpaa", sum := "863d912fea40271d572dc5ace0ecba76da4976f215c48370d14dd1ca07482810", func := "lantern/lanternlaw04.XformChains", spec := "xformChains", inPlace := ["math.Float64bits", "math.Float64frombits", "math/bits.Add64", "math/bits.Sub64"], unfollowed := true, recurses := true, apart := false, narrowed := true }
def XformChainsUptoSaid : Prop := xformChainsUptoRow.holds Try.pinned (OpenSpec.upto xformChainsSpec)

/-- 'lanternlaw04.XformSame', WHERE WHAT IT READS IS OF BULK AT MOST 1048576: true; the input reads as it did. -/
def xformSameUptoRow : OpenClaim := { program := "ytdgaaceebghcpaa", sum := "863d912fea40271d572dc5ace0ecba76da4976f215c48370d14dd1ca07482810", func := "lantern/lanternlaw04.XformSame", spec := "xformSame", inPlace := ["math.Float64bits", "math.Float64frombits", "math/bits.Add64", "math/bits.Sub64"], unfollowed := true, recurses := true, apart := false, narrowed := true }
def XformSameUptoSaid : Prop := xformSameUptoRow.holds Try.pinned (OpenSpec.upto xformSameSpec)

/-- 'lanternlaw04.XformBacks', WHERE WHAT IT READS IS OF BULK AT MOST 1048576: true; the input reads as it did. -/
def xformBacksUptoRow : OpenClaim := { program := "ytdgaaceebghcpaa", sum := "863d912fea40271d572dc5ace0ecba76da4976f215c48370d14dd1ca07482810", func := "lantern/lanternlaw04.XformBacks", spec := "xformBacks", inPlace := ["math.Float64bits", "math.Float64frombits", "math/bits.Add64", "math/bits.Sub64"], unfollowed := true, recurses := true, named := ["math/bits.divideError", "math/bits.overflowError"], apart := false, narrowed := true }
def XformBacksUptoSaid : Prop := xformBacksUptoRow.holds Try.pinned (OpenSpec.upto xformBacksSpec)

/-- 'lanternlaw03.VecReal', WHERE WHAT IT READS IS OF BULK AT MOST 1048576: true; the input reads as it did. -/
def vecRealUptoRow : OpenClaim := { program := "ytdgaaceebghcpaa", sum := "863d912fea40271d572dc5ace0ecba76da4976f215c48370d14dd1ca07482810", func := "lantern/lanternlaw03.VecReal", spec := "vecReal", inPlace := ["math.Float64bits", "math.Float64frombits", "math/bits.Add64", "math/bits.Sub64"], unfollowed := true, recurses := true, named := ["math/bits.divideError", "math/bits.overflowError"], apart := false, narrowed := true }
def VecRealUptoSaid : Prop := vecRealUptoRow.holds Try.pinned (OpenSpec.upto vecRealSpec)

/-- 'lanternlaw03.VecSwaps', WHERE WHAT IT READS IS OF BULK AT MOST 1048576: true; the input reads as it did. -/
def vecSwapsUptoRow : OpenClaim := { program := "ytdgaaceebghcpaa", sum := "863d912fea40271d572dc5ace0ecba76da4976f215c48370d14dd1ca07482810", func := "lantern/lanternlaw03.VecSwaps", spec := "vecSwaps", inPlace := ["math.Float64bits", "math.Float64frombits", "math/bits.Add64", "math/bits.Sub64"], unfollowed := true, recurses := true, named := ["math/bits.divideError", "math/bits.overflowError"], apart := false, narrowed := true }
def VecSwapsUptoSaid : Prop := vecSwapsUptoRow.holds Try.pinned (OpenSpec.upto vecSwapsSpec)

/-- 'lanternlaw03.VecReckons', WHERE WHAT IT READS IS OF BULK AT MOST 1048576: true; the input reads as it did. -/
def vecReckonsUptoRow : OpenClaim := { program := "ytdgaaceebghcpaa", sum := "863d912fea40271d572dc5ace0ecba76da4976f215c48370d14dd1ca07482810", func := "lantern/lanternlaw03.VecReckons", spec := "vecReckons", inPlace := ["math.Float64bits", "math.Float64frombits", "math/bits.Add64", "math/bits.Sub64"], unfollowed := true, recurses := true, named := ["math/bits.divideError", "math/bits.overflowError"], apart := false, narrowed := true }
def VecReckonsUptoSaid : Prop := vecReckonsUptoRow.holds Try.pinned (OpenSpec.upto vecReckonsSpec)

/-- 'lanternlaw03.VecUpright', WHERE WHAT IT READS IS OF BULK AT MOST 1048576: true; the input reads as it did. -/
def vecUprightUptoRow : OpenClaim := { program := "ytdgaaceebghcpaa", sum := "863d912fea40271d572dc5ace0ecba76da4976f215c48370d14dd1ca07482810", func := "lantern/lanternlaw03.VecUpright", spec := "vecUpright", inPlace := ["math.Float64bits", "math.Float64frombits", "math/bits.Add64", "math/bits.Sub64"], unfollowed := true, recurses := true, named := ["math/bits.divideError", "math/bits.overflowError"], apart := false, narrowed := true }
def VecUprightUptoSaid : Prop := vecUprightUptoRow.holds Try.pinned (OpenSpec.upto vecUprightSpec)

/-- 'lanternlaw03.VecNests', WHERE WHAT IT READS IS OF BULK AT MOST 1048576: true; the input reads as it did. -/
def vecNestsUptoRow : OpenClaim := { program := "ytdgaaceebghcpaa", sum := "863d912fea40271d572dc5ace0ecba76da4976f215c48370d14dd1ca07482810", func := "lantern/lanternlaw03.VecNests", spec := "vecNests", inPlace := ["math.Float64bits", "math.Float64frombits", "math/bits.Add64", "math/bits.Sub64"], unfollowed := true, recurses := true, named := ["math/bits.divideError", "math/bits.overflowError"], apart := false, narrowed := true }
def VecNestsUptoSaid : Prop := vecNestsUptoRow.holds Try.pinned (OpenSpec.upto vecNestsSpec)

/-- 'lanternlaw04.XformMakes', WHERE WHAT IT READS IS OF BULK AT MOST 1048576: true; the input reads as it did. -/
def xformMakesUptoRow : OpenClaim := { program := "ytdgaaceebghcpaa", sum := "863d912fea40271d572dc5ace0ecba76da4976f215c48370d14dd1ca07482810", func := "lantern/lanternlaw04.XformMakes", spec := "xformMakes", inPlace := ["math.Float64bits", "math.Float64frombits", "math/bits.Add64", "math/bits.Sub64"], unfollowed := true, recurses := true, named := ["math/bits.divideError", "math/bits.overflowError"], apart := false, narrowed := true }
def XformMakesUptoSaid : Prop := xformMakesUptoRow.holds Try.pinned (OpenSpec.upto xformMakesSpec)

/-- 'lanternlaw04.XformTurns', WHERE WHAT IT READS IS OF BULK AT MOST 1048576: true; the input reads as it did. -/
def xformTurnsUptoRow : OpenClaim := { program := "ytdgaaceebghcpaa", sum := "863d912fea40271d572dc5ace0ecba76da4976f215c48370d14dd1ca07482810", func := "lantern/lanternlaw04.XformTurns", spec := "xformTurns", inPlace := ["math.Float64bits", "math.Float64frombits", "math/bits.Add64", "math/bits.Sub64"], unfollowed := true, recurses := true, named := ["math/bits.divideError", "math/bits.overflowError"], apart := false, narrowed := true }
def XformTurnsUptoSaid : Prop := xformTurnsUptoRow.holds Try.pinned (OpenSpec.upto xformTurnsSpec)

end Rows
end Go.Proofs.Ytdgaaceebghcpaa
