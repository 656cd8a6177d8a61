/-
  DERIVED. GIVEN WITH THE SEED: THE CARDS: each row of YtaaeifggppgieaaGreatDoorRows.lean that lists a variable, with what it lists TIED to the program's text (the seventh form; the later family's looks); each row that meets fmt, with fmt's text TOLD by the authors' own Lean function (tested against real Go, not proved from fmt's source: count such statements apart). THE CARD IS WHAT COUNTS. Prove the row's statement (the work); the ties are given (YtaaeifggppgieaaGreatDoorTie.lean); close each card by the builder's one call (the guide's Derived/Test/ToyasCard.lean, 'card_holds'). Laid BY PROGRAM, IN A SANDBOX (cutbox-door.mjs). By AI agents, Wed Nov 11 2026. No macro, syntax, notation, axiom, sorry.
-/
import Derived.Test.YtaaeifggppgieaaGreatDoorRows
import GoSem.ClaimSeven
namespace Go.Proofs.YtaaeifggppgieaaGreatDoor
namespace Rows

/-- THE TIED CARD OF 'bailiwicklaw24.TextOne'. -/
def textOneCard : Claim7 := { stood := { row := textOneRow, standIns := [], harness := (true, "8775e2aff6a57d30737c4fd0155a1faaddb4e1e79e8c652c364cc2bb9766346a"), looks := true }, kinds := [], alts := [], laidByText := true, laidKinds := [.data, .data, .data, .data, .sentinel, .sentinel, .pinned], laidTests := true, laidLooks := .later }
def TextOneCardSaid : Prop := Claim7.holds Tryz.pinned (.plain (OpenSpec.ofChange textOneSpec)) textOneCard

/-- THE TIED CARD OF 'bailiwicklaw24.TextBack'. -/
def textBackCard : Claim7 := { stood := { row := textBackRow, standIns := [], harness := (true, "8775e2aff6a57d30737c4fd0155a1faaddb4e1e79e8c652c364cc2bb9766346a"), looks := true }, kinds := [], alts := [], laidByText := true, laidKinds := [.data, .data, .data, .data, .sentinel, .sentinel, .pinned], laidTests := true, laidLooks := .later }
def TextBackCardSaid : Prop := Claim7.holds Tryz.pinned (.plain (OpenSpec.ofChange textBackSpec)) textBackCard

/-- THE SECOND FORM's CARD OF 'bailiwicklaw24.TextOne'. -/
def textOneUptoCard : Claim7 := { stood := { row := textOneUptoRow, standIns := [], harness := (true, "8775e2aff6a57d30737c4fd0155a1faaddb4e1e79e8c652c364cc2bb9766346a"), looks := true }, kinds := [], alts := [], laidByText := true, laidKinds := [.data, .data, .data, .data, .sentinel, .sentinel, .pinned], laidTests := true, laidLooks := .later }
def TextOneUptoCardSaid : Prop := Claim7.holds Tryz.pinned (.plain (OpenSpec.upto textOneSpec)) textOneUptoCard

/-- THE SECOND FORM's CARD OF 'bailiwicklaw24.TextBack'. -/
def textBackUptoCard : Claim7 := { stood := { row := textBackUptoRow, standIns := [], harness := (true, "8775e2aff6a57d30737c4fd0155a1faaddb4e1e79e8c652c364cc2bb9766346a"), looks := true }, kinds := [], alts := [], laidByText := true, laidKinds := [.data, .data, .data, .data, .sentinel, .sentinel, .pinned], laidTests := true, laidLooks := .later }
def TextBackUptoCardSaid : Prop := Claim7.holds Tryz.pinned (.plain (OpenSpec.upto textBackSpec)) textBackUptoCard
end Rows
end Go.Proofs.YtaaeifggppgieaaGreatDoor
