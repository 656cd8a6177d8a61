/-
  DERIVED. GIVEN WITH THE SEED: THE CARDS: each row of YtpidemmdmmgalaaGreatDoorRows.lean that lists a variable, with what it lists TIED to the program's text (the seventh form; the later family's looks); each row that meets fmt, with fmt's text TOLD by the authors' own Lean function (tested against real Go, not proved from fmt's source: count such statements apart). THE CARD IS WHAT COUNTS. Prove the row's statement (the work); the ties are given (YtpidemmdmmgalaaGreatDoorTie.lean); close each card by the builder's one call (the guide's Derived/Test/ToyasCard.lean, 'card_holds'). Laid BY PROGRAM, IN A SANDBOX (cutbox-door.mjs). By AI agents, Wed Nov 11 2026. No macro, syntax, notation, axiom, sorry.
-/
import Derived.Test.YtpidemmdmmgalaaGreatDoorRows
import GoSem.ClaimSeven
namespace Go.Proofs.YtpidemmdmmgalaaGreatDoor
namespace Rows

/-- THE TIED CARD OF 'bailiwicklaw21.SeatBytes'. -/
def seatBytesCard : Claim7 := { stood := { row := seatBytesRow, standIns := [], harness := (true, "d799bb577981ddf955afaa4312732883400b67f359eaf38aac1a80db7577ba5d"), looks := true }, kinds := [], alts := [], laidByText := true, laidKinds := [.data], laidTests := true, laidLooks := .later }
def SeatBytesCardSaid : Prop := Claim7.holds Tryz.pinned (.plain (OpenSpec.ofChange seatBytesSpec)) seatBytesCard

/-- THE TIED CARD OF 'bailiwicklaw21.SeatDoes'. -/
def seatDoesCard : Claim7 := { stood := { row := seatDoesRow, standIns := [], harness := (true, "d799bb577981ddf955afaa4312732883400b67f359eaf38aac1a80db7577ba5d"), looks := true }, kinds := [], alts := [], laidByText := true, laidKinds := [.data], laidTests := true, laidLooks := .later }
def SeatDoesCardSaid : Prop := Claim7.holds Tryz.pinned (.plain (OpenSpec.ofChange seatDoesSpec)) seatDoesCard

/-- THE TIED CARD OF 'bailiwicklaw21.SeatRecovers'. -/
def seatRecoversCard : Claim7 := { stood := { row := seatRecoversRow, standIns := [], harness := (true, "d799bb577981ddf955afaa4312732883400b67f359eaf38aac1a80db7577ba5d"), looks := true }, kinds := [], alts := [], laidByText := true, laidKinds := [.data], laidTests := true, laidLooks := .later }
def SeatRecoversCardSaid : Prop := Claim7.holds Tryz.pinned (.plain (OpenSpec.ofChange seatRecoversSpec)) seatRecoversCard

/-- THE TIED CARD OF 'bailiwicklaw21.SeatLogs'. -/
def seatLogsCard : Claim7 := { stood := { row := seatLogsRow, standIns := [], harness := (true, "d799bb577981ddf955afaa4312732883400b67f359eaf38aac1a80db7577ba5d"), looks := true }, kinds := [], alts := [], laidByText := true, laidKinds := [.data], laidTests := true, laidLooks := .later }
def SeatLogsCardSaid : Prop := Claim7.holds Tryz.pinned (.plain (OpenSpec.ofChange seatLogsSpec)) seatLogsCard

/-- THE TIED CARD OF 'bailiwicklaw21.SeatRaw'. -/
def seatRawCard : Claim7 := { stood := { row := seatRawRow, standIns := [], harness := (true, "d799bb577981ddf955afaa4312732883400b67f359eaf38aac1a80db7577ba5d"), looks := true }, kinds := [], alts := [], laidByText := true, laidKinds := [.data], laidTests := true, laidLooks := .later }
def SeatRawCardSaid : Prop := Claim7.holds Tryz.pinned (.plain (OpenSpec.ofChange seatRawSpec)) seatRawCard

/-- THE SECOND FORM's CARD OF 'bailiwicklaw21.SeatBytes'. -/
def seatBytesUptoCard : Claim7 := { stood := { row := seatBytesUptoRow, standIns := [], harness := (true, "d799bb577981ddf955afaa4312732883400b67f359eaf38aac1a80db7577ba5d"), looks := true }, kinds := [], alts := [], laidByText := true, laidKinds := [.data], laidTests := true, laidLooks := .later }
def SeatBytesUptoCardSaid : Prop := Claim7.holds Tryz.pinned (.plain (OpenSpec.upto seatBytesSpec)) seatBytesUptoCard

/-- THE SECOND FORM's CARD OF 'bailiwicklaw21.SeatDoes'. -/
def seatDoesUptoCard : Claim7 := { stood := { row := seatDoesUptoRow, standIns := [], harness := (true, "d799bb577981ddf955afaa4312732883400b67f359eaf38aac1a80db7577ba5d"), looks := true }, kinds := [], alts := [], laidByText := true, laidKinds := [.data], laidTests := true, laidLooks := .later }
def SeatDoesUptoCardSaid : Prop := Claim7.holds Tryz.pinned (.plain (OpenSpec.upto seatDoesSpec)) seatDoesUptoCard

/-- THE SECOND FORM's CARD OF 'bailiwicklaw21.SeatRecovers'. -/
def seatRecoversUptoCard : Claim7 := { stood := { row := seatRecoversUptoRow, standIns := [], harness := (true, "d799bb577981ddf955afaa4312732883400b67f359eaf38aac1a80db7577ba5d"), looks := true }, kinds := [], alts := [], laidByText := true, laidKinds := [.data], laidTests := true, laidLooks := .later }
def SeatRecoversUptoCardSaid : Prop := Claim7.holds Tryz.pinned (.plain (OpenSpec.upto seatRecoversSpec)) seatRecoversUptoCard

/-- THE SECOND FORM's CARD OF 'bailiwicklaw21.SeatLogs'. -/
def seatLogsUptoCard : Claim7 := { stood := { row := seatLogsUptoRow, standIns := [], harness := (true, "d799bb577981ddf955afaa4312732883400b67f359eaf38aac1a80db7577ba5d"), looks := true }, kinds := [], alts := [], laidByText := true, laidKinds := [.data], laidTests := true, laidLooks := .later }
def SeatLogsUptoCardSaid : Prop := Claim7.holds Tryz.pinned (.plain (OpenSpec.upto seatLogsSpec)) seatLogsUptoCard

/-- THE SECOND FORM's CARD OF 'bailiwicklaw21.SeatRaw'. -/
def seatRawUptoCard : Claim7 := { stood := { row := seatRawUptoRow, standIns := [], harness := (true, "d799bb577981ddf955afaa4312732883400b67f359eaf38aac1a80db7577ba5d"), looks := true }, kinds := [], alts := [], laidByText := true, laidKinds := [.data], laidTests := true, laidLooks := .later }
def SeatRawUptoCardSaid : Prop := Claim7.holds Tryz.pinned (.plain (OpenSpec.upto seatRawSpec)) seatRawUptoCard
end Rows
end Go.Proofs.YtpidemmdmmgalaaGreatDoor
