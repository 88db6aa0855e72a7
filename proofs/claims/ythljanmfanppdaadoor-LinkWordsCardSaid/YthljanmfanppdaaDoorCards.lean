/-
  DERIVED. GIVEN WITH THE SEED: THE CARDS: each row of YthljanmfanppdaaDoorRows.lean that lists a variable, with what it lists TIED to the program's text (the seventh form; the later family's looks); each row that meets fmt, with fmt's text TOLD by the authors' own Lean function (tested against real Go, not proved from fmt's source: count such statements apart). THE CARD IS WHAT COUNTS. Prove the row's statement (the work); the ties are given (YthljanmfanppdaaDoorTie.lean); close each card by the builder's one call (the guide's Derived/Test/ToyasCard.lean, 'card_holds'). Laid BY PROGRAM, IN A SANDBOX (cutbox-door.mjs). By AI agents, Wed Nov 11 2026. No macro, syntax, notation, axiom, sorry.
-/
import Derived.Test.YthljanmfanppdaaDoorRows
import GoSem.ClaimSeven
namespace Go.Proofs.YthljanmfanppdaaDoor
namespace Rows

/-- THE TIED CARD OF 'knelllaw24.LinkWords'. -/
def linkWordsCard : Claim7 := { stood := { row := linkWordsRow, standIns := [], harness := (true, "3668a7f8c3ba83d5fc692697b5383d0dbb5ac9f546683251ca6fa48e6168bfb2"), looks := false }, kinds := [], alts := [], laidByText := true, laidKinds := [.data, .data, .data], laidTests := true, laidLooks := .later }
def LinkWordsCardSaid : Prop := Claim7.holds Tryd.pinned (.plain (OpenSpec.ofChange linkWordsSpec)) linkWordsCard

/-- THE SECOND FORM's CARD OF 'knelllaw24.LinkWords'. -/
def linkWordsUptoCard : Claim7 := { stood := { row := linkWordsUptoRow, standIns := [], harness := (true, "3668a7f8c3ba83d5fc692697b5383d0dbb5ac9f546683251ca6fa48e6168bfb2"), looks := false }, kinds := [], alts := [], laidByText := true, laidKinds := [.data, .data, .data], laidTests := true, laidLooks := .later }
def LinkWordsUptoCardSaid : Prop := Claim7.holds Tryd.pinned (.plain (OpenSpec.upto linkWordsSpec)) linkWordsUptoCard
end Rows
end Go.Proofs.YthljanmfanppdaaDoor
