/-
  DERIVED. GIVEN WITH THE SEED: THE CARDS: each row of YtmgaonkmfdeohaaDoorRows.lean that lists a variable, with what it lists TIED to the program's text (the seventh form; the later family's looks); each row that meets fmt, with fmt's text TOLD by the authors' own Lean function (tested against real Go, not proved from fmt's source: count such statements apart). THE CARD IS WHAT COUNTS. Prove the row's statement (the work); the ties are given (YtmgaonkmfdeohaaDoorTie.lean); close each card by the builder's one call (the guide's Derived/Test/ToyasCard.lean, 'card_holds'). Laid BY PROGRAM, IN A SANDBOX (cutbox-door.mjs). By AI agents, Wed Nov 11 2026. No macro, syntax, notation, axiom, sorry.
-/
import Derived.Test.YtmgaonkmfdeohaaDoorRows
import GoSem.ClaimSeven
namespace Go.Proofs.YtmgaonkmfdeohaaDoor
namespace Rows

/-- THE TIED CARD OF 'lanternlaw05.SobolWords'. -/
def sobolWordsCard : Claim7 := { stood := { row := sobolWordsRow, standIns := [], harness := (true, "3f27b4a431f71f189afeadb868affaba2f9125a04da5266e0f07bb59ea77f976"), looks := false }, kinds := [], alts := [], laidByText := true, laidKinds := [.data, .data], laidTests := true, laidLooks := .later }
def SobolWordsCardSaid : Prop := Claim7.holds Tryd.pinned (.plain (OpenSpec.ofChange sobolWordsSpec)) sobolWordsCard

/-- THE TIED CARD OF 'lanternlaw05.SobolSums'. -/
def sobolSumsCard : Claim7 := { stood := { row := sobolSumsRow, standIns := [], harness := (true, "3f27b4a431f71f189afeadb868affaba2f9125a04da5266e0f07bb59ea77f976"), looks := false }, kinds := [], alts := [], laidByText := true, laidKinds := [.data, .data], laidTests := true, laidLooks := .later }
def SobolSumsCardSaid : Prop := Claim7.holds Tryd.pinned (.plain (OpenSpec.ofChange sobolSumsSpec)) sobolSumsCard

/-- THE TIED CARD OF 'lanternlaw05.SobolEven'. -/
def sobolEvenCard : Claim7 := { stood := { row := sobolEvenRow, standIns := [], harness := (true, "3f27b4a431f71f189afeadb868affaba2f9125a04da5266e0f07bb59ea77f976"), looks := false }, kinds := [], alts := [], laidByText := true, laidKinds := [.data, .data], laidTests := true, laidLooks := .later }
def SobolEvenCardSaid : Prop := Claim7.holds Tryd.pinned (.plain (OpenSpec.ofChange sobolEvenSpec)) sobolEvenCard

/-- THE TIED CARD OF 'lanternlaw05.SobolNet'. -/
def sobolNetCard : Claim7 := { stood := { row := sobolNetRow, standIns := [], harness := (true, "3f27b4a431f71f189afeadb868affaba2f9125a04da5266e0f07bb59ea77f976"), looks := false }, kinds := [], alts := [], laidByText := true, laidKinds := [.data, .data], laidTests := true, laidLooks := .later }
def SobolNetCardSaid : Prop := Claim7.holds Tryd.pinned (.plain (OpenSpec.ofChange sobolNetSpec)) sobolNetCard

/-- THE TIED CARD OF 'lanternlaw05.SobolDraws'. -/
def sobolDrawsCard : Claim7 := { stood := { row := sobolDrawsRow, standIns := [], harness := (true, "3f27b4a431f71f189afeadb868affaba2f9125a04da5266e0f07bb59ea77f976"), looks := false }, kinds := [], alts := [], laidByText := true, laidKinds := [.data, .data], laidTests := true, laidLooks := .later }
def SobolDrawsCardSaid : Prop := Claim7.holds Tryd.pinned (.plain (OpenSpec.ofChange sobolDrawsSpec)) sobolDrawsCard

/-- THE TIED CARD OF 'lanternlaw05.SobolMore'. -/
def sobolMoreCard : Claim7 := { stood := { row := sobolMoreRow, standIns := [], harness := (true, "3f27b4a431f71f189afeadb868affaba2f9125a04da5266e0f07bb59ea77f976"), looks := false }, kinds := [], alts := [], laidByText := true, laidKinds := [.data, .data], laidTests := true, laidLooks := .later }
def SobolMoreCardSaid : Prop := Claim7.holds Tryd.pinned (.plain (OpenSpec.ofChange sobolMoreSpec)) sobolMoreCard

/-- THE SECOND FORM's CARD OF 'lanternlaw05.SobolWords'. -/
def sobolWordsUptoCard : Claim7 := { stood := { row := sobolWordsUptoRow, standIns := [], harness := (true, "3f27b4a431f71f189afeadb868affaba2f9125a04da5266e0f07bb59ea77f976"), looks := false }, kinds := [], alts := [], laidByText := true, laidKinds := [.data, .data], laidTests := true, laidLooks := .later }
def SobolWordsUptoCardSaid : Prop := Claim7.holds Tryd.pinned (.plain (OpenSpec.upto sobolWordsSpec)) sobolWordsUptoCard

/-- THE SECOND FORM's CARD OF 'lanternlaw05.SobolSums'. -/
def sobolSumsUptoCard : Claim7 := { stood := { row := sobolSumsUptoRow, standIns := [], harness := (true, "3f27b4a431f71f189afeadb868affaba2f9125a04da5266e0f07bb59ea77f976"), looks := false }, kinds := [], alts := [], laidByText := true, laidKinds := [.data, .data], laidTests := true, laidLooks := .later }
def SobolSumsUptoCardSaid : Prop := Claim7.holds Tryd.pinned (.plain (OpenSpec.upto sobolSumsSpec)) sobolSumsUptoCard

/-- THE SECOND FORM's CARD OF 'lanternlaw05.SobolEven'. -/
def sobolEvenUptoCard : Claim7 := { stood := { row := sobolEvenUptoRow, standIns := [], harness := (true, "3f27b4a431f71f189afeadb868affaba2f9125a04da5266e0f07bb59ea77f976"), looks := false }, kinds := [], alts := [], laidByText := true, laidKinds := [.data, .data], laidTests := true, laidLooks := .later }
def SobolEvenUptoCardSaid : Prop := Claim7.holds Tryd.pinned (.plain (OpenSpec.upto sobolEvenSpec)) sobolEvenUptoCard

/-- THE SECOND FORM's CARD OF 'lanternlaw05.SobolNet'. -/
def sobolNetUptoCard : Claim7 := { stood := { row := sobolNetUptoRow, standIns := [], harness := (true, "3f27b4a431f71f189afeadb868affaba2f9125a04da5266e0f07bb59ea77f976"), looks := false }, kinds := [], alts := [], laidByText := true, laidKinds := [.data, .data], laidTests := true, laidLooks := .later }
def SobolNetUptoCardSaid : Prop := Claim7.holds Tryd.pinned (.plain (OpenSpec.upto sobolNetSpec)) sobolNetUptoCard

/-- THE SECOND FORM's CARD OF 'lanternlaw05.SobolDraws'. -/
def sobolDrawsUptoCard : Claim7 := { stood := { row := sobolDrawsUptoRow, standIns := [], harness := (true, "3f27b4a431f71f189afeadb868affaba2f9125a04da5266e0f07bb59ea77f976"), looks := false }, kinds := [], alts := [], laidByText := true, laidKinds := [.data, .data], laidTests := true, laidLooks := .later }
def SobolDrawsUptoCardSaid : Prop := Claim7.holds Tryd.pinned (.plain (OpenSpec.upto sobolDrawsSpec)) sobolDrawsUptoCard

/-- THE SECOND FORM's CARD OF 'lanternlaw05.SobolMore'. -/
def sobolMoreUptoCard : Claim7 := { stood := { row := sobolMoreUptoRow, standIns := [], harness := (true, "3f27b4a431f71f189afeadb868affaba2f9125a04da5266e0f07bb59ea77f976"), looks := false }, kinds := [], alts := [], laidByText := true, laidKinds := [.data, .data], laidTests := true, laidLooks := .later }
def SobolMoreUptoCardSaid : Prop := Claim7.holds Tryd.pinned (.plain (OpenSpec.upto sobolMoreSpec)) sobolMoreUptoCard
end Rows
end Go.Proofs.YtmgaonkmfdeohaaDoor
