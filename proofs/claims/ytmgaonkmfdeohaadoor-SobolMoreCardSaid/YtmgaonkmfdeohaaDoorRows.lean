/-
  NARROWER THAN 'FOR EVERY INPUT', by the rows' own cells (each row's printed sentence says how): SobolWords: laid · SobolSums: laid · SobolEven: laid · SobolNet: laid · SobolDraws: laid · SobolMore: laid.
  DERIVED. THE GIVEN ROWS OF THIS SEAT. 6 by the template 'for every input the law returns true; each argument reads behind the call as it read before'; 0 by the template 'total and deterministic' (their statements: YtmgaonkmfdeohaaDoorTotals.lean).
  GIVEN WITH THE SEED: the statements are not yours to turn. If you find one false, say at which input.
  Laid BY PROGRAM, IN A SANDBOX (cutbox-rows.mjs): the forced cells as the released guide's own fill.sh prints them over the translation bb8aa28568dd4063… (all of the seat's roots in one cut). By AI agents, Wed Nov 11 2026. No macro, syntax, notation, axiom, sorry.
-/
import Derived.Test.YtmgaonkmfdeohaaDoorChecked
import GoSem.Claim
import GoSem.ClaimJoined
import GoSem.ClaimMapViews
import Derived.JoinedTies
import Derived.KernelRfl
namespace Go.Proofs.YtmgaonkmfdeohaaDoor
/- THE CELL 'sum', in the pinned program and in every row, IS THE sha256 OF THE DUMP (.gsa) THAT YtmgaonkmfdeohaaDoorProg.lean LOADS. Nothing in Lean hashes anything: it is a label: what it is worth is what the hold of that sum in a sandbox is worth. -/
noncomputable def Tryd.pinned : Pinned := { name := "ytmgaonkmfdeohaadoor", sum := "bb8aa28568dd4063d6b779425c14c82841cb5d8df831feba3f67c3ef7fcc45fa", checked := Tryd.checked }
namespace Rows
def none {H : Type} : Left H := { results := [], args := [] }

/- WHAT THE LISTED PACKAGE-LEVEL VARIABLES READ AS WHEN THE CALL BEGINS. Each datum BY PROGRAM (the guide's laid-datum.mjs) off the statement by which the dump's own 'gosem.cut.vars' lays the variable. In a bare row this is a premise. The card (YtmgaonkmfdeohaaDoorCards.lean) ties it to the program's text. -/
def laid_math_bits_deBruijn32tab {H : Type} : DataW H := .agg [.lit (.int .u8 0), .lit (.int .u8 1), .lit (.int .u8 28), .lit (.int .u8 2), .lit (.int .u8 29), .lit (.int .u8 14), .lit (.int .u8 24), .lit (.int .u8 3), .lit (.int .u8 30), .lit (.int .u8 22), .lit (.int .u8 20), .lit (.int .u8 15), .lit (.int .u8 25), .lit (.int .u8 17), .lit (.int .u8 4), .lit (.int .u8 8), .lit (.int .u8 31), .lit (.int .u8 27), .lit (.int .u8 13), .lit (.int .u8 23), .lit (.int .u8 21), .lit (.int .u8 19), .lit (.int .u8 16), .lit (.int .u8 7), .lit (.int .u8 26), .lit (.int .u8 12), .lit (.int .u8 18), .lit (.int .u8 6), .lit (.int .u8 11), .lit (.int .u8 5), .lit (.int .u8 10), .lit (.int .u8 9)]
def laid_lantern_sobol_plans {H : Type} : DataW H := .agg [.agg [.lit (.int .i64 1), .lit (.int .i64 0), .agg [.lit (.int .u32 1), .lit (.int .u32 0), .lit (.int .u32 0), .lit (.int .u32 0), .lit (.int .u32 0)]], .agg [.lit (.int .i64 2), .lit (.int .i64 1), .agg [.lit (.int .u32 1), .lit (.int .u32 3), .lit (.int .u32 0), .lit (.int .u32 0), .lit (.int .u32 0)]], .agg [.lit (.int .i64 3), .lit (.int .i64 1), .agg [.lit (.int .u32 1), .lit (.int .u32 3), .lit (.int .u32 1), .lit (.int .u32 0), .lit (.int .u32 0)]], .agg [.lit (.int .i64 3), .lit (.int .i64 2), .agg [.lit (.int .u32 1), .lit (.int .u32 1), .lit (.int .u32 1), .lit (.int .u32 0), .lit (.int .u32 0)]], .agg [.lit (.int .i64 4), .lit (.int .i64 1), .agg [.lit (.int .u32 1), .lit (.int .u32 1), .lit (.int .u32 3), .lit (.int .u32 3), .lit (.int .u32 0)]], .agg [.lit (.int .i64 4), .lit (.int .i64 4), .agg [.lit (.int .u32 1), .lit (.int .u32 3), .lit (.int .u32 5), .lit (.int .u32 13), .lit (.int .u32 0)]], .agg [.lit (.int .i64 5), .lit (.int .i64 2), .agg [.lit (.int .u32 1), .lit (.int .u32 1), .lit (.int .u32 5), .lit (.int .u32 5), .lit (.int .u32 17)]]]

/-- 'lanternlaw05.SobolWords': WHATEVER THE INPUT: true; the input reads as it did. -/
def sobolWordsSpec : ChangeSpec := { name := "sobolWords", fn := fun _ => fun
  | [d1, d2] => { results := [.lit (.bool true)], args := [d1, d2] }
  | _ => none }
def sobolWordsRow : OpenClaim := { program := "ytmgaonkmfdeohaadoor", sum := "bb8aa28568dd4063d6b779425c14c82841cb5d8df831feba3f67c3ef7fcc45fa", func := "lantern/lanternlaw05.SobolWords", spec := "sobolWords", named := ["lantern/sobol.plans", "math/bits.deBruijn32tab"], apart := false, laid := [("math/bits.deBruijn32tab", laid_math_bits_deBruijn32tab), ("lantern/sobol.plans", laid_lantern_sobol_plans)] }
def SobolWordsSaid : Prop := sobolWordsRow.holds Tryd.pinned (OpenSpec.ofChange sobolWordsSpec)

/-- ITS FALSE NEIGHBOUR: 'it returns false'. Refute it at one input. -/
def sobolWordsWrong : ChangeSpec := { name := "sobolWords", fn := fun _ => fun
  | [d1, d2] => { results := [.lit (.bool false)], args := [d1, d2] }
  | _ => none }
def SobolWordsWrongFalsely : Prop := sobolWordsRow.holds Tryd.pinned (OpenSpec.ofChange sobolWordsWrong)

/-- 'lanternlaw05.SobolSums': WHATEVER THE INPUT: true; the input reads as it did. -/
def sobolSumsSpec : ChangeSpec := { name := "sobolSums", fn := fun _ => fun
  | [d1, d2, d3] => { results := [.lit (.bool true)], args := [d1, d2, d3] }
  | _ => none }
def sobolSumsRow : OpenClaim := { program := "ytmgaonkmfdeohaadoor", sum := "bb8aa28568dd4063d6b779425c14c82841cb5d8df831feba3f67c3ef7fcc45fa", func := "lantern/lanternlaw05.SobolSums", spec := "sobolSums", named := ["lantern/sobol.plans", "math/bits.deBruijn32tab"], apart := false, laid := [("math/bits.deBruijn32tab", laid_math_bits_deBruijn32tab), ("lantern/sobol.plans", laid_lantern_sobol_plans)] }
def SobolSumsSaid : Prop := sobolSumsRow.holds Tryd.pinned (OpenSpec.ofChange sobolSumsSpec)

/-- ITS FALSE NEIGHBOUR: 'it returns false'. Refute it at one input. -/
def sobolSumsWrong : ChangeSpec := { name := "sobolSums", fn := fun _ => fun
  | [d1, d2, d3] => { results := [.lit (.bool false)], args := [d1, d2, d3] }
  | _ => none }
def SobolSumsWrongFalsely : Prop := sobolSumsRow.holds Tryd.pinned (OpenSpec.ofChange sobolSumsWrong)

/-- 'lanternlaw05.SobolEven': WHATEVER THE INPUT: true; the input reads as it did. -/
def sobolEvenSpec : ChangeSpec := { name := "sobolEven", fn := fun _ => fun
  | [d1, d2, d3, d4] => { results := [.lit (.bool true)], args := [d1, d2, d3, d4] }
  | _ => none }
def sobolEvenRow : OpenClaim := { program := "ytmgaonkmfdeohaadoor", sum := "bb8aa28568dd4063d6b779425c14c82841cb5d8df831feba3f67c3ef7fcc45fa", func := "lantern/lanternlaw05.SobolEven", spec := "sobolEven", named := ["lantern/sobol.plans", "math/bits.deBruijn32tab"], apart := false, laid := [("math/bits.deBruijn32tab", laid_math_bits_deBruijn32tab), ("lantern/sobol.plans", laid_lantern_sobol_plans)] }
def SobolEvenSaid : Prop := sobolEvenRow.holds Tryd.pinned (OpenSpec.ofChange sobolEvenSpec)

/-- ITS FALSE NEIGHBOUR: 'it returns false'. Refute it at one input. -/
def sobolEvenWrong : ChangeSpec := { name := "sobolEven", fn := fun _ => fun
  | [d1, d2, d3, d4] => { results := [.lit (.bool false)], args := [d1, d2, d3, d4] }
  | _ => none }
def SobolEvenWrongFalsely : Prop := sobolEvenRow.holds Tryd.pinned (OpenSpec.ofChange sobolEvenWrong)

/-- 'lanternlaw05.SobolNet': WHATEVER THE INPUT: true; the input reads as it did. -/
def sobolNetSpec : ChangeSpec := { name := "sobolNet", fn := fun _ => fun
  | [d1, d2, d3, d4] => { results := [.lit (.bool true)], args := [d1, d2, d3, d4] }
  | _ => none }
def sobolNetRow : OpenClaim := { program := "ytmgaonkmfdeohaadoor", sum := "bb8aa28568dd4063d6b779425c14c82841cb5d8df831feba3f67c3ef7fcc45fa", func := "lantern/lanternlaw05.SobolNet", spec := "sobolNet", named := ["lantern/sobol.plans", "math/bits.deBruijn32tab"], apart := false, laid := [("math/bits.deBruijn32tab", laid_math_bits_deBruijn32tab), ("lantern/sobol.plans", laid_lantern_sobol_plans)] }
def SobolNetSaid : Prop := sobolNetRow.holds Tryd.pinned (OpenSpec.ofChange sobolNetSpec)

/-- ITS FALSE NEIGHBOUR: 'it returns false'. Refute it at one input. -/
def sobolNetWrong : ChangeSpec := { name := "sobolNet", fn := fun _ => fun
  | [d1, d2, d3, d4] => { results := [.lit (.bool false)], args := [d1, d2, d3, d4] }
  | _ => none }
def SobolNetWrongFalsely : Prop := sobolNetRow.holds Tryd.pinned (OpenSpec.ofChange sobolNetWrong)

/-- 'lanternlaw05.SobolDraws': WHATEVER THE INPUT: true; the input reads as it did. -/
def sobolDrawsSpec : ChangeSpec := { name := "sobolDraws", fn := fun _ => fun
  | [d1, d2, d3, d4] => { results := [.lit (.bool true)], args := [d1, d2, d3, d4] }
  | _ => none }
def sobolDrawsRow : OpenClaim := { program := "ytmgaonkmfdeohaadoor", sum := "bb8aa28568dd4063d6b779425c14c82841cb5d8df831feba3f67c3ef7fcc45fa", func := "lantern/lanternlaw05.SobolDraws", spec := "sobolDraws", named := ["lantern/sobol.plans", "math/bits.deBruijn32tab"], apart := false, laid := [("math/bits.deBruijn32tab", laid_math_bits_deBruijn32tab), ("lantern/sobol.plans", laid_lantern_sobol_plans)] }
def SobolDrawsSaid : Prop := sobolDrawsRow.holds Tryd.pinned (OpenSpec.ofChange sobolDrawsSpec)

/-- ITS FALSE NEIGHBOUR: 'it returns false'. Refute it at one input. -/
def sobolDrawsWrong : ChangeSpec := { name := "sobolDraws", fn := fun _ => fun
  | [d1, d2, d3, d4] => { results := [.lit (.bool false)], args := [d1, d2, d3, d4] }
  | _ => none }
def SobolDrawsWrongFalsely : Prop := sobolDrawsRow.holds Tryd.pinned (OpenSpec.ofChange sobolDrawsWrong)

/-- 'lanternlaw05.SobolMore': WHATEVER THE INPUT: true; the input reads as it did. -/
def sobolMoreSpec : ChangeSpec := { name := "sobolMore", fn := fun _ => fun
  | [d1, d2, d3, d4] => { results := [.lit (.bool true)], args := [d1, d2, d3, d4] }
  | _ => none }
def sobolMoreRow : OpenClaim := { program := "ytmgaonkmfdeohaadoor", sum := "bb8aa28568dd4063d6b779425c14c82841cb5d8df831feba3f67c3ef7fcc45fa", func := "lantern/lanternlaw05.SobolMore", spec := "sobolMore", named := ["lantern/sobol.plans", "math/bits.deBruijn32tab"], apart := false, laid := [("math/bits.deBruijn32tab", laid_math_bits_deBruijn32tab), ("lantern/sobol.plans", laid_lantern_sobol_plans)] }
def SobolMoreSaid : Prop := sobolMoreRow.holds Tryd.pinned (OpenSpec.ofChange sobolMoreSpec)

/-- ITS FALSE NEIGHBOUR: 'it returns false'. Refute it at one input. -/
def sobolMoreWrong : ChangeSpec := { name := "sobolMore", fn := fun _ => fun
  | [d1, d2, d3, d4] => { results := [.lit (.bool false)], args := [d1, d2, d3, d4] }
  | _ => none }
def SobolMoreWrongFalsely : Prop := sobolMoreRow.holds Tryd.pinned (OpenSpec.ofChange sobolMoreWrong)

/- THE SECOND FORM. 'bulk': how many values and letters a reading holds, each counted each time it is reached (what is shared counts as often as it is met; a slice's spare places count too). A statement '..UptoSaid' is the law's where the arguments, and the package variables that the reading takes, are together of bulk at most 1048576: NARROWER than '..Said'. Prove '..Said' where nothing that the law and all that it calls make is longer than what came in: it says more and counts as full. Else prove '..UptoSaid'. A law counts once. -/
mutual
def uptoBulk {H : Type} : DataW H → Nat
  | .lit (.string bytes) => bytes.length + 1
  | .lit _ => 1
  | .nil => 1
  | .ptr d => uptoBulk d + 1
  | .slice elems spare => uptoBulkAll elems + uptoBulkAll spare + 1
  | .agg parts => uptoBulkAll parts + 1
  | .iface _ d => uptoBulk d + 1
  | .map entries => uptoBulkEntries entries + 1
  | .held _ => 1
def uptoBulkAll {H : Type} : List (DataW H) → Nat
  | [] => 0
  | d :: r => uptoBulk d + uptoBulkAll r
def uptoBulkEntries {H : Type} : List (Lit × DataW H) → Nat
  | [] => 0
  | x :: r => uptoBulkEntry x + uptoBulkEntries r
def uptoBulkEntry {H : Type} : Lit × DataW H → Nat
  | (.string bytes, d) => bytes.length + uptoBulk d + 1
  | (_, d) => uptoBulk d + 1
 end
def uptoSmall : (H : Type) → List (DataW H) → Bool := fun _ ds => decide (uptoBulkAll ds ≤ 1048576)
def OpenSpec.upto (s : _root_.Go.ChangeSpec) : _root_.Go.OpenSpec := { _root_.Go.OpenSpec.ofChange s with cond := some uptoSmall }

/-- 'lanternlaw05.SobolWords', WHERE WHAT IT READS IS OF BULK AT MOST 1048576: true; the input reads as it did. -/
def sobolWordsUptoRow : OpenClaim := { program := "ytmgaonkmfdeohaadoor", sum := "bb8aa28568dd4063d6b779425c14c82841cb5d8df831feba3f67c3ef7fcc45fa", func := "lantern/lanternlaw05.SobolWords", spec := "sobolWords", named := ["lantern/sobol.plans", "math/bits.deBruijn32tab"], apart := false, laid := [("math/bits.deBruijn32tab", laid_math_bits_deBruijn32tab), ("lantern/sobol.plans", laid_lantern_sobol_plans)], narrowed := true }
def SobolWordsUptoSaid : Prop := sobolWordsUptoRow.holds Tryd.pinned (OpenSpec.upto sobolWordsSpec)

/-- 'lanternlaw05.SobolSums', WHERE WHAT IT READS IS OF BULK AT MOST 1048576: true; the input reads as it did. -/
def sobolSumsUptoRow : OpenClaim := { program := "ytmgaonkmfdeohaadoor", sum := "bb8aa28568dd4063d6b779425c14c82841cb5d8df831feba3f67c3ef7fcc45fa", func := "lantern/lanternlaw05.SobolSums", spec := "sobolSums", named := ["lantern/sobol.plans", "math/bits.deBruijn32tab"], apart := false, laid := [("math/bits.deBruijn32tab", laid_math_bits_deBruijn32tab), ("lantern/sobol.plans", laid_lantern_sobol_plans)], narrowed := true }
def SobolSumsUptoSaid : Prop := sobolSumsUptoRow.holds Tryd.pinned (OpenSpec.upto sobolSumsSpec)

/-- 'lanternlaw05.SobolEven', WHERE WHAT IT READS IS OF BULK AT MOST 1048576: true; the input reads as it did. -/
def sobolEvenUptoRow : OpenClaim := { program := "ytmgaonkmfdeohaadoor", sum := "bb8aa28568dd4063d6b779425c14c82841cb5d8df831feba3f67c3ef7fcc45fa", func := "lantern/lanternlaw05.SobolEven", spec := "sobolEven", named := ["lantern/sobol.plans", "math/bits.deBruijn32tab"], apart := false, laid := [("math/bits.deBruijn32tab", laid_math_bits_deBruijn32tab), ("lantern/sobol.plans", laid_lantern_sobol_plans)], narrowed := true }
def SobolEvenUptoSaid : Prop := sobolEvenUptoRow.holds Tryd.pinned (OpenSpec.upto sobolEvenSpec)

/-- 'lanternlaw05.SobolNet', WHERE WHAT IT READS IS OF BULK AT MOST 1048576: true; the input reads as it did. -/
def sobolNetUptoRow : OpenClaim := { program := "ytmgaonkmfdeohaadoor", sum := "bb8aa28568dd4063d6b779425c14c82841cb5d8df831feba3f67c3ef7fcc45fa", func := "lantern/lanternlaw05.SobolNet", spec := "sobolNet", named := ["lantern/sobol.plans", "math/bits.deBruijn32tab"], apart := false, laid := [("math/bits.deBruijn32tab", laid_math_bits_deBruijn32tab), ("lantern/sobol.plans", laid_lantern_sobol_plans)], narrowed := true }
def SobolNetUptoSaid : Prop := sobolNetUptoRow.holds Tryd.pinned (OpenSpec.upto sobolNetSpec)

/-- 'lanternlaw05.SobolDraws', WHERE WHAT IT READS IS OF BULK AT MOST 1048576: true; the input reads as it did. -/
def sobolDrawsUptoRow : OpenClaim := { program := "ytmgaonkmfdeohaadoor", sum := "bb8aa28568dd4063d6b779425c14c82841cb5d8df831feba3f67c3ef7fcc45fa", func := "lantern/lanternlaw05.SobolDraws", spec := "sobolDraws", named := ["lantern/sobol.plans", "math/bits.deBruijn32tab"], apart := false, laid := [("math/bits.deBruijn32tab", laid_math_bits_deBruijn32tab), ("lantern/sobol.plans", laid_lantern_sobol_plans)], narrowed := true }
def SobolDrawsUptoSaid : Prop := sobolDrawsUptoRow.holds Tryd.pinned (OpenSpec.upto sobolDrawsSpec)

/-- 'lanternlaw05.SobolMore', WHERE WHAT IT READS IS OF BULK AT MOST 1048576: true; the input reads as it did. -/
def sobolMoreUptoRow : OpenClaim := { program := "ytmgaonkmfdeohaadoor", sum := "bb8aa28568dd4063d6b779425c14c82841cb5d8df831feba3f67c3ef7fcc45fa", func := "lantern/lanternlaw05.SobolMore", spec := "sobolMore", named := ["lantern/sobol.plans", "math/bits.deBruijn32tab"], apart := false, laid := [("math/bits.deBruijn32tab", laid_math_bits_deBruijn32tab), ("lantern/sobol.plans", laid_lantern_sobol_plans)], narrowed := true }
def SobolMoreUptoSaid : Prop := sobolMoreUptoRow.holds Tryd.pinned (OpenSpec.upto sobolMoreSpec)

end Rows
end Go.Proofs.YtmgaonkmfdeohaaDoor
