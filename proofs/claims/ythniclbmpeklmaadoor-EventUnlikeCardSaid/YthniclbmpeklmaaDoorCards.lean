/-
  DERIVED. GIVEN WITH THE SEED: THE CARDS: each row of YthniclbmpeklmaaDoorRows.lean that lists a variable, with what it lists TIED to the program's text (the seventh form; the later family's looks); each row that meets fmt, with fmt's text TOLD by the authors' own Lean function (tested against real Go, not proved from fmt's source: count such statements apart). THE CARD IS WHAT COUNTS. Prove the row's statement (the work); the ties are given (YthniclbmpeklmaaDoorTie.lean); close each card by the builder's one call (the guide's Derived/Test/ToyasCard.lean, 'card_holds'). Laid BY PROGRAM, IN A SANDBOX (cutbox-door.mjs). By AI agents, Wed Nov 11 2026. No macro, syntax, notation, axiom, sorry.
-/
import Derived.Test.YthniclbmpeklmaaDoorRows
import GoSem.ClaimSeven
namespace Go.Proofs.YthniclbmpeklmaaDoor
namespace Rows

/-- THE TIED CARD OF 'knelllaw11.EventTells'. -/
def eventTellsCard : Claim7 := { stood := { row := eventTellsRow, standIns := [], harness := (true, "18a02743491415a075901cd5e0e73282cf8b4c112ba9b51c69dba7fe02fc066b"), looks := false }, kinds := [], alts := [], laidByText := true, laidKinds := [.data, .data, .data], laidTests := true, laidLooks := .later }
def EventTellsCardSaid : Prop := Claim7.holds Tryd.pinned (.plain (OpenSpec.ofChange eventTellsSpec)) eventTellsCard

/-- THE TIED CARD OF 'knelllaw11.EventUnlike'. -/
def eventUnlikeCard : Claim7 := { stood := { row := eventUnlikeRow, standIns := [], harness := (true, "18a02743491415a075901cd5e0e73282cf8b4c112ba9b51c69dba7fe02fc066b"), looks := false }, kinds := [], alts := [], laidByText := true, laidKinds := [.data, .data, .data], laidTests := true, laidLooks := .later }
def EventUnlikeCardSaid : Prop := Claim7.holds Tryd.pinned (.plain (OpenSpec.ofChange eventUnlikeSpec)) eventUnlikeCard

/-- THE TIED CARD OF 'knelllaw11.EventWords'. -/
def eventWordsCard : Claim7 := { stood := { row := eventWordsRow, standIns := [], harness := (true, "18a02743491415a075901cd5e0e73282cf8b4c112ba9b51c69dba7fe02fc066b"), looks := false }, kinds := [], alts := [], laidByText := true, laidKinds := [.data, .data, .data], laidTests := true, laidLooks := .later }
def EventWordsCardSaid : Prop := Claim7.holds Tryd.pinned (.plain (OpenSpec.ofChange eventWordsSpec)) eventWordsCard

/-- THE TIED CARD OF 'knelllaw11.EventLogs'. -/
def eventLogsCard : Claim7 := { stood := { row := eventLogsRow, standIns := [], harness := (true, "18a02743491415a075901cd5e0e73282cf8b4c112ba9b51c69dba7fe02fc066b"), looks := false }, kinds := [], alts := [], laidByText := true, laidKinds := [.data, .data, .data], laidTests := true, laidLooks := .later }
def EventLogsCardSaid : Prop := Claim7.holds Tryd.pinned (.plain (OpenSpec.ofChange eventLogsSpec)) eventLogsCard

/-- THE SECOND FORM's CARD OF 'knelllaw11.EventTells'. -/
def eventTellsUptoCard : Claim7 := { stood := { row := eventTellsUptoRow, standIns := [], harness := (true, "18a02743491415a075901cd5e0e73282cf8b4c112ba9b51c69dba7fe02fc066b"), looks := false }, kinds := [], alts := [], laidByText := true, laidKinds := [.data, .data, .data], laidTests := true, laidLooks := .later }
def EventTellsUptoCardSaid : Prop := Claim7.holds Tryd.pinned (.plain (OpenSpec.upto eventTellsSpec)) eventTellsUptoCard

/-- THE SECOND FORM's CARD OF 'knelllaw11.EventUnlike'. -/
def eventUnlikeUptoCard : Claim7 := { stood := { row := eventUnlikeUptoRow, standIns := [], harness := (true, "18a02743491415a075901cd5e0e73282cf8b4c112ba9b51c69dba7fe02fc066b"), looks := false }, kinds := [], alts := [], laidByText := true, laidKinds := [.data, .data, .data], laidTests := true, laidLooks := .later }
def EventUnlikeUptoCardSaid : Prop := Claim7.holds Tryd.pinned (.plain (OpenSpec.upto eventUnlikeSpec)) eventUnlikeUptoCard

/-- THE SECOND FORM's CARD OF 'knelllaw11.EventWords'. -/
def eventWordsUptoCard : Claim7 := { stood := { row := eventWordsUptoRow, standIns := [], harness := (true, "18a02743491415a075901cd5e0e73282cf8b4c112ba9b51c69dba7fe02fc066b"), looks := false }, kinds := [], alts := [], laidByText := true, laidKinds := [.data, .data, .data], laidTests := true, laidLooks := .later }
def EventWordsUptoCardSaid : Prop := Claim7.holds Tryd.pinned (.plain (OpenSpec.upto eventWordsSpec)) eventWordsUptoCard

/-- THE SECOND FORM's CARD OF 'knelllaw11.EventLogs'. -/
def eventLogsUptoCard : Claim7 := { stood := { row := eventLogsUptoRow, standIns := [], harness := (true, "18a02743491415a075901cd5e0e73282cf8b4c112ba9b51c69dba7fe02fc066b"), looks := false }, kinds := [], alts := [], laidByText := true, laidKinds := [.data, .data, .data], laidTests := true, laidLooks := .later }
def EventLogsUptoCardSaid : Prop := Claim7.holds Tryd.pinned (.plain (OpenSpec.upto eventLogsSpec)) eventLogsUptoCard
end Rows
end Go.Proofs.YthniclbmpeklmaaDoor
