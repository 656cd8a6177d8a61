/-
  DERIVED. GIVEN WITH THE SEED: THE CARDS: each row of YtmhfpopbhiloiaaDoorRows.lean that lists a variable, with what it lists TIED to the program's text (the seventh form; the later family's looks); each row that meets fmt, with fmt's text TOLD by the authors' own Lean function (tested against real Go, not proved from fmt's source: count such statements apart). THE CARD IS WHAT COUNTS. Prove the row's statement (the work); the ties are given (YtmhfpopbhiloiaaDoorTie.lean); close each card by the builder's one call (the guide's Derived/Test/ToyasCard.lean, 'card_holds'). Laid BY PROGRAM, IN A SANDBOX (cutbox-door.mjs). By AI agents, Wed Nov 11 2026. No macro, syntax, notation, axiom, sorry.
-/
import Derived.Test.YtmhfpopbhiloiaaDoorRows
import GoSem.ClaimSeven
namespace Go.Proofs.YtmhfpopbhiloiaaDoor
namespace Rows

/-- THE TIED CARD OF 'bailiwicklaw19.LeaseHears'. -/
def leaseHearsCard : Claim7 := { stood := { row := leaseHearsRow, standIns := [], harness := (true, "7625e72dea5e0df6049e9f72f35f2331923196e41232bee05b2fcd28aaf310d9"), looks := true }, kinds := [], alts := [], laidByText := true, laidKinds := [.data], laidTests := true, laidLooks := .later }
def LeaseHearsCardSaid : Prop := Claim7.holds Tryd.pinned (.plain (OpenSpec.ofChange leaseHearsSpec)) leaseHearsCard

/-- THE TIED CARD OF 'bailiwicklaw19.LeaseTurns'. -/
def leaseTurnsCard : Claim7 := { stood := { row := leaseTurnsRow, standIns := [], harness := (true, "7625e72dea5e0df6049e9f72f35f2331923196e41232bee05b2fcd28aaf310d9"), looks := true }, kinds := [], alts := [], laidByText := true, laidKinds := [.data], laidTests := true, laidLooks := .later }
def LeaseTurnsCardSaid : Prop := Claim7.holds Tryd.pinned (.plain (OpenSpec.ofChange leaseTurnsSpec)) leaseTurnsCard

/-- THE TIED CARD OF 'bailiwicklaw19.LeaseLends'. -/
def leaseLendsCard : Claim7 := { stood := { row := leaseLendsRow, standIns := [], harness := (true, "7625e72dea5e0df6049e9f72f35f2331923196e41232bee05b2fcd28aaf310d9"), looks := true }, kinds := [], alts := [], laidByText := true, laidKinds := [.data], laidTests := true, laidLooks := .later }
def LeaseLendsCardSaid : Prop := Claim7.holds Tryd.pinned (.plain (OpenSpec.ofChange leaseLendsSpec)) leaseLendsCard

/-- THE TIED CARD OF 'bailiwicklaw19.LeaseWithin'. -/
def leaseWithinCard : Claim7 := { stood := { row := leaseWithinRow, standIns := [], harness := (true, "7625e72dea5e0df6049e9f72f35f2331923196e41232bee05b2fcd28aaf310d9"), looks := true }, kinds := [], alts := [], laidByText := true, laidKinds := [.data], laidTests := true, laidLooks := .later }
def LeaseWithinCardSaid : Prop := Claim7.holds Tryd.pinned (.plain (OpenSpec.ofChange leaseWithinSpec)) leaseWithinCard

/-- THE TIED CARD OF 'bailiwicklaw19.LeaseBytes'. -/
def leaseBytesCard : Claim7 := { stood := { row := leaseBytesRow, standIns := [], harness := (true, "7625e72dea5e0df6049e9f72f35f2331923196e41232bee05b2fcd28aaf310d9"), looks := true }, kinds := [], alts := [], laidByText := true, laidKinds := [.data], laidTests := true, laidLooks := .later }
def LeaseBytesCardSaid : Prop := Claim7.holds Tryd.pinned (.plain (OpenSpec.ofChange leaseBytesSpec)) leaseBytesCard

/-- THE SECOND FORM's CARD OF 'bailiwicklaw19.LeaseHears'. -/
def leaseHearsUptoCard : Claim7 := { stood := { row := leaseHearsUptoRow, standIns := [], harness := (true, "7625e72dea5e0df6049e9f72f35f2331923196e41232bee05b2fcd28aaf310d9"), looks := true }, kinds := [], alts := [], laidByText := true, laidKinds := [.data], laidTests := true, laidLooks := .later }
def LeaseHearsUptoCardSaid : Prop := Claim7.holds Tryd.pinned (.plain (OpenSpec.upto leaseHearsSpec)) leaseHearsUptoCard

/-- THE SECOND FORM's CARD OF 'bailiwicklaw19.LeaseTurns'. -/
def leaseTurnsUptoCard : Claim7 := { stood := { row := leaseTurnsUptoRow, standIns := [], harness := (true, "7625e72dea5e0df6049e9f72f35f2331923196e41232bee05b2fcd28aaf310d9"), looks := true }, kinds := [], alts := [], laidByText := true, laidKinds := [.data], laidTests := true, laidLooks := .later }
def LeaseTurnsUptoCardSaid : Prop := Claim7.holds Tryd.pinned (.plain (OpenSpec.upto leaseTurnsSpec)) leaseTurnsUptoCard

/-- THE SECOND FORM's CARD OF 'bailiwicklaw19.LeaseLends'. -/
def leaseLendsUptoCard : Claim7 := { stood := { row := leaseLendsUptoRow, standIns := [], harness := (true, "7625e72dea5e0df6049e9f72f35f2331923196e41232bee05b2fcd28aaf310d9"), looks := true }, kinds := [], alts := [], laidByText := true, laidKinds := [.data], laidTests := true, laidLooks := .later }
def LeaseLendsUptoCardSaid : Prop := Claim7.holds Tryd.pinned (.plain (OpenSpec.upto leaseLendsSpec)) leaseLendsUptoCard

/-- THE SECOND FORM's CARD OF 'bailiwicklaw19.LeaseWithin'. -/
def leaseWithinUptoCard : Claim7 := { stood := { row := leaseWithinUptoRow, standIns := [], harness := (true, "7625e72dea5e0df6049e9f72f35f2331923196e41232bee05b2fcd28aaf310d9"), looks := true }, kinds := [], alts := [], laidByText := true, laidKinds := [.data], laidTests := true, laidLooks := .later }
def LeaseWithinUptoCardSaid : Prop := Claim7.holds Tryd.pinned (.plain (OpenSpec.upto leaseWithinSpec)) leaseWithinUptoCard

/-- THE SECOND FORM's CARD OF 'bailiwicklaw19.LeaseBytes'. -/
def leaseBytesUptoCard : Claim7 := { stood := { row := leaseBytesUptoRow, standIns := [], harness := (true, "7625e72dea5e0df6049e9f72f35f2331923196e41232bee05b2fcd28aaf310d9"), looks := true }, kinds := [], alts := [], laidByText := true, laidKinds := [.data], laidTests := true, laidLooks := .later }
def LeaseBytesUptoCardSaid : Prop := Claim7.holds Tryd.pinned (.plain (OpenSpec.upto leaseBytesSpec)) leaseBytesUptoCard
end Rows
end Go.Proofs.YtmhfpopbhiloiaaDoor
