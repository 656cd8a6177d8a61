/-
  DERIVED. GIVEN WITH THE SEED: THE CARDS: each row of YtljahedgdjnohaaDoorRows.lean that lists a variable, with what it lists TIED to the program's text (the seventh form; the later family's looks); each row that meets fmt, with fmt's text TOLD by the authors' own Lean function (tested against real Go, not proved from fmt's source: count such statements apart). THE CARD IS WHAT COUNTS. Prove the row's statement (the work); the ties are given (YtljahedgdjnohaaDoorTie.lean); close each card by the builder's one call (the guide's Derived/Test/ToyasCard.lean, 'card_holds'). Laid BY PROGRAM, IN A SANDBOX (cutbox-door.mjs). By AI agents, Wed Nov 11 2026. No macro, syntax, notation, axiom, sorry.
-/
import Derived.Test.YtljahedgdjnohaaDoorRows
import GoSem.ClaimSeven
namespace Go.Proofs.YtljahedgdjnohaaDoor
namespace Rows

/-- THE TIED CARD OF 'bailiwicklaw01.SetReads'. -/
def setReadsCard : Claim7 := { stood := { row := setReadsRow, standIns := [], harness := (true, "6a38a51306638e73fd7233c7a488522f021d903d2f354294d5c5b93a635fe9e5"), looks := true }, kinds := [], alts := [], laidByText := true, laidKinds := [.data, .data, .data, .data, .sentinel, .sentinel, .pinned], laidTests := true, laidLooks := .later }
def SetReadsCardSaid : Prop := Claim7.holds Tryd.pinned (.plain (OpenSpec.ofChange setReadsSpec)) setReadsCard

/-- THE TIED CARD OF 'bailiwicklaw01.SetBack'. -/
def setBackCard : Claim7 := { stood := { row := setBackRow, standIns := [], harness := (true, "6a38a51306638e73fd7233c7a488522f021d903d2f354294d5c5b93a635fe9e5"), looks := true }, kinds := [], alts := [], laidByText := true, laidKinds := [.data, .data, .data, .data, .sentinel, .sentinel, .pinned], laidTests := true, laidLooks := .later }
def SetBackCardSaid : Prop := Claim7.holds Tryd.pinned (.plain (OpenSpec.ofChange setBackSpec)) setBackCard

/-- THE TIED CARD OF 'bailiwicklaw01.SetRuns'. -/
def setRunsCard : Claim7 := { stood := { row := setRunsRow, standIns := [], harness := (true, "6a38a51306638e73fd7233c7a488522f021d903d2f354294d5c5b93a635fe9e5"), looks := true }, kinds := [], alts := [], laidByText := true, laidKinds := [.data, .data, .data, .data, .sentinel, .sentinel, .pinned], laidTests := true, laidLooks := .later }
def SetRunsCardSaid : Prop := Claim7.holds Tryd.pinned (.plain (OpenSpec.ofChange setRunsSpec)) setRunsCard

/-- THE TIED CARD OF 'bailiwicklaw01.SetRight'. -/
def setRightCard : Claim7 := { stood := { row := setRightRow, standIns := [], harness := (true, "6a38a51306638e73fd7233c7a488522f021d903d2f354294d5c5b93a635fe9e5"), looks := true }, kinds := [], alts := [], laidByText := true, laidKinds := [.data, .data, .data, .data, .sentinel, .sentinel, .pinned], laidTests := true, laidLooks := .later }
def SetRightCardSaid : Prop := Claim7.holds Tryd.pinned (.plain (OpenSpec.ofChange setRightSpec)) setRightCard

/-- THE TIED CARD OF 'bailiwicklaw01.SetLaws'. -/
def setLawsCard : Claim7 := { stood := { row := setLawsRow, standIns := [], harness := (true, "6a38a51306638e73fd7233c7a488522f021d903d2f354294d5c5b93a635fe9e5"), looks := true }, kinds := [], alts := [], laidByText := true, laidKinds := [.data, .data, .data, .data, .sentinel, .sentinel, .pinned], laidTests := true, laidLooks := .later }
def SetLawsCardSaid : Prop := Claim7.holds Tryd.pinned (.plain (OpenSpec.ofChange setLawsSpec)) setLawsCard

/-- THE TIED CARD OF 'bailiwicklaw01.SetTurns'. -/
def setTurnsCard : Claim7 := { stood := { row := setTurnsRow, standIns := [], harness := (true, "6a38a51306638e73fd7233c7a488522f021d903d2f354294d5c5b93a635fe9e5"), looks := true }, kinds := [], alts := [], laidByText := true, laidKinds := [.data, .data, .data, .data, .sentinel, .sentinel, .pinned], laidTests := true, laidLooks := .later }
def SetTurnsCardSaid : Prop := Claim7.holds Tryd.pinned (.plain (OpenSpec.ofChange setTurnsSpec)) setTurnsCard

/-- THE SECOND FORM's CARD OF 'bailiwicklaw01.SetReads'. -/
def setReadsUptoCard : Claim7 := { stood := { row := setReadsUptoRow, standIns := [], harness := (true, "6a38a51306638e73fd7233c7a488522f021d903d2f354294d5c5b93a635fe9e5"), looks := true }, kinds := [], alts := [], laidByText := true, laidKinds := [.data, .data, .data, .data, .sentinel, .sentinel, .pinned], laidTests := true, laidLooks := .later }
def SetReadsUptoCardSaid : Prop := Claim7.holds Tryd.pinned (.plain (OpenSpec.upto setReadsSpec)) setReadsUptoCard

/-- THE SECOND FORM's CARD OF 'bailiwicklaw01.SetBack'. -/
def setBackUptoCard : Claim7 := { stood := { row := setBackUptoRow, standIns := [], harness := (true, "6a38a51306638e73fd7233c7a488522f021d903d2f354294d5c5b93a635fe9e5"), looks := true }, kinds := [], alts := [], laidByText := true, laidKinds := [.data, .data, .data, .data, .sentinel, .sentinel, .pinned], laidTests := true, laidLooks := .later }
def SetBackUptoCardSaid : Prop := Claim7.holds Tryd.pinned (.plain (OpenSpec.upto setBackSpec)) setBackUptoCard

/-- THE SECOND FORM's CARD OF 'bailiwicklaw01.SetRuns'. -/
def setRunsUptoCard : Claim7 := { stood := { row := setRunsUptoRow, standIns := [], harness := (true, "6a38a51306638e73fd7233c7a488522f021d903d2f354294d5c5b93a635fe9e5"), looks := true }, kinds := [], alts := [], laidByText := true, laidKinds := [.data, .data, .data, .data, .sentinel, .sentinel, .pinned], laidTests := true, laidLooks := .later }
def SetRunsUptoCardSaid : Prop := Claim7.holds Tryd.pinned (.plain (OpenSpec.upto setRunsSpec)) setRunsUptoCard

/-- THE SECOND FORM's CARD OF 'bailiwicklaw01.SetRight'. -/
def setRightUptoCard : Claim7 := { stood := { row := setRightUptoRow, standIns := [], harness := (true, "6a38a51306638e73fd7233c7a488522f021d903d2f354294d5c5b93a635fe9e5"), looks := true }, kinds := [], alts := [], laidByText := true, laidKinds := [.data, .data, .data, .data, .sentinel, .sentinel, .pinned], laidTests := true, laidLooks := .later }
def SetRightUptoCardSaid : Prop := Claim7.holds Tryd.pinned (.plain (OpenSpec.upto setRightSpec)) setRightUptoCard

/-- THE SECOND FORM's CARD OF 'bailiwicklaw01.SetLaws'. -/
def setLawsUptoCard : Claim7 := { stood := { row := setLawsUptoRow, standIns := [], harness := (true, "6a38a51306638e73fd7233c7a488522f021d903d2f354294d5c5b93a635fe9e5"), looks := true }, kinds := [], alts := [], laidByText := true, laidKinds := [.data, .data, .data, .data, .sentinel, .sentinel, .pinned], laidTests := true, laidLooks := .later }
def SetLawsUptoCardSaid : Prop := Claim7.holds Tryd.pinned (.plain (OpenSpec.upto setLawsSpec)) setLawsUptoCard

/-- THE SECOND FORM's CARD OF 'bailiwicklaw01.SetTurns'. -/
def setTurnsUptoCard : Claim7 := { stood := { row := setTurnsUptoRow, standIns := [], harness := (true, "6a38a51306638e73fd7233c7a488522f021d903d2f354294d5c5b93a635fe9e5"), looks := true }, kinds := [], alts := [], laidByText := true, laidKinds := [.data, .data, .data, .data, .sentinel, .sentinel, .pinned], laidTests := true, laidLooks := .later }
def SetTurnsUptoCardSaid : Prop := Claim7.holds Tryd.pinned (.plain (OpenSpec.upto setTurnsSpec)) setTurnsUptoCard
end Rows
end Go.Proofs.YtljahedgdjnohaaDoor
