/-
  DERIVED. GIVEN WITH THE SEED: THE CARDS: each row of YtcncbmpblkgfjaaDoorRows.lean that lists a variable, with what it lists TIED to the program's text (the seventh form; the later family's looks); each row that meets fmt, with fmt's text TOLD by the authors' own Lean function (tested against real Go, not proved from fmt's source: count such statements apart). THE CARD IS WHAT COUNTS. Prove the row's statement (the work); the ties are given (YtcncbmpblkgfjaaDoorTie.lean); close each card by the builder's one call (the guide's Derived/Test/ToyasCard.lean, 'card_holds'). Laid BY PROGRAM, IN A SANDBOX (cutbox-door.mjs). By AI agents, Wed Nov 11 2026. No macro, syntax, notation, axiom, sorry.
-/
import Derived.Test.YtcncbmpblkgfjaaDoorRows
import GoSem.ClaimSeven
namespace Go.Proofs.YtcncbmpblkgfjaaDoor
namespace Rows

/-- THE TIED CARD OF 'bailiwicklaw23.StatLease'. -/
def statLeaseCard : Claim7 := { stood := { row := statLeaseRow, standIns := [], harness := (true, "ebcc1f30f566258a640ca3a39dff5a764c0fbe4e3f8476c5e6eaad995a45f80e"), looks := false }, kinds := [], alts := [], laidByText := true, laidKinds := [.data], laidTests := true, laidLooks := .later }
def StatLeaseCardSaid : Prop := Claim7.holds Tryd.pinned (.plain (OpenSpec.ofChange statLeaseSpec)) statLeaseCard

/-- THE TIED CARD OF 'bailiwicklaw23.StatSums'. -/
def statSumsCard : Claim7 := { stood := { row := statSumsRow, standIns := [], harness := (true, "ebcc1f30f566258a640ca3a39dff5a764c0fbe4e3f8476c5e6eaad995a45f80e"), looks := false }, kinds := [], alts := [], laidByText := true, laidKinds := [.data], laidTests := true, laidLooks := .later }
def StatSumsCardSaid : Prop := Claim7.holds Tryd.pinned (.plain (OpenSpec.ofChange statSumsSpec)) statSumsCard

/-- THE SECOND FORM's CARD OF 'bailiwicklaw23.StatLease'. -/
def statLeaseUptoCard : Claim7 := { stood := { row := statLeaseUptoRow, standIns := [], harness := (true, "ebcc1f30f566258a640ca3a39dff5a764c0fbe4e3f8476c5e6eaad995a45f80e"), looks := false }, kinds := [], alts := [], laidByText := true, laidKinds := [.data], laidTests := true, laidLooks := .later }
def StatLeaseUptoCardSaid : Prop := Claim7.holds Tryd.pinned (.plain (OpenSpec.upto statLeaseSpec)) statLeaseUptoCard

/-- THE SECOND FORM's CARD OF 'bailiwicklaw23.StatSums'. -/
def statSumsUptoCard : Claim7 := { stood := { row := statSumsUptoRow, standIns := [], harness := (true, "ebcc1f30f566258a640ca3a39dff5a764c0fbe4e3f8476c5e6eaad995a45f80e"), looks := false }, kinds := [], alts := [], laidByText := true, laidKinds := [.data], laidTests := true, laidLooks := .later }
def StatSumsUptoCardSaid : Prop := Claim7.holds Tryd.pinned (.plain (OpenSpec.upto statSumsSpec)) statSumsUptoCard
end Rows
end Go.Proofs.YtcncbmpblkgfjaaDoor
