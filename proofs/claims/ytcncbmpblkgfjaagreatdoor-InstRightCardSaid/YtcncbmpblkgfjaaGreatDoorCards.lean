/-
  DERIVED. GIVEN WITH THE SEED: THE CARDS: each row of YtcncbmpblkgfjaaGreatDoorRows.lean that lists a variable, with what it lists TIED to the program's text (the seventh form; the later family's looks); each row that meets fmt, with fmt's text TOLD by the authors' own Lean function (tested against real Go, not proved from fmt's source: count such statements apart). THE CARD IS WHAT COUNTS. Prove the row's statement (the work); the ties are given (YtcncbmpblkgfjaaGreatDoorTie.lean); close each card by the builder's one call (the guide's Derived/Test/ToyasCard.lean, 'card_holds'). Laid BY PROGRAM, IN A SANDBOX (cutbox-door.mjs). By AI agents, Wed Nov 11 2026. No macro, syntax, notation, axiom, sorry.
-/
import Derived.Test.YtcncbmpblkgfjaaGreatDoorRows
import GoSem.ClaimSeven
namespace Go.Proofs.YtcncbmpblkgfjaaGreatDoor
namespace Rows

/-- THE TIED CARD OF 'bailiwicklaw23.StatRight'. -/
def statRightCard : Claim7 := { stood := { row := statRightRow, standIns := [], harness := (true, "d4a29da06e83d9ee681d5dd1bcd6fee143c96ca0f085cfd0097ec466af2d56e7"), looks := false }, kinds := [], alts := [], laidByText := true, laidKinds := [.data], laidTests := true, laidLooks := .later }
def StatRightCardSaid : Prop := Claim7.holds Tryz.pinned (.plain (OpenSpec.ofChange statRightSpec)) statRightCard

/-- THE TIED CARD OF 'bailiwicklaw16.InstRight'. -/
def instRightCard : Claim7 := { stood := { row := instRightRow, standIns := [], harness := (true, "d4a29da06e83d9ee681d5dd1bcd6fee143c96ca0f085cfd0097ec466af2d56e7"), looks := false }, kinds := [], alts := [], laidByText := true, laidKinds := [.data], laidTests := true, laidLooks := .later }
def InstRightCardSaid : Prop := Claim7.holds Tryz.pinned (.plain (OpenSpec.ofChange instRightSpec)) instRightCard

/-- THE TIED CARD OF 'bailiwicklaw16.InstHolds'. -/
def instHoldsCard : Claim7 := { stood := { row := instHoldsRow, standIns := [], harness := (true, "d4a29da06e83d9ee681d5dd1bcd6fee143c96ca0f085cfd0097ec466af2d56e7"), looks := false }, kinds := [], alts := [], laidByText := true, laidKinds := [.data], laidTests := true, laidLooks := .later }
def InstHoldsCardSaid : Prop := Claim7.holds Tryz.pinned (.plain (OpenSpec.ofChange instHoldsSpec)) instHoldsCard

/-- THE TIED CARD OF 'bailiwicklaw16.InstEnds'. -/
def instEndsCard : Claim7 := { stood := { row := instEndsRow, standIns := [], harness := (true, "d4a29da06e83d9ee681d5dd1bcd6fee143c96ca0f085cfd0097ec466af2d56e7"), looks := false }, kinds := [], alts := [], laidByText := true, laidKinds := [.data], laidTests := true, laidLooks := .later }
def InstEndsCardSaid : Prop := Claim7.holds Tryz.pinned (.plain (OpenSpec.ofChange instEndsSpec)) instEndsCard

/-- THE TIED CARD OF 'bailiwicklaw16.InstTimes'. -/
def instTimesCard : Claim7 := { stood := { row := instTimesRow, standIns := [], harness := (true, "d4a29da06e83d9ee681d5dd1bcd6fee143c96ca0f085cfd0097ec466af2d56e7"), looks := false }, kinds := [], alts := [], laidByText := true, laidKinds := [.data], laidTests := true, laidLooks := .later }
def InstTimesCardSaid : Prop := Claim7.holds Tryz.pinned (.plain (OpenSpec.ofChange instTimesSpec)) instTimesCard

/-- THE SECOND FORM's CARD OF 'bailiwicklaw23.StatRight'. -/
def statRightUptoCard : Claim7 := { stood := { row := statRightUptoRow, standIns := [], harness := (true, "d4a29da06e83d9ee681d5dd1bcd6fee143c96ca0f085cfd0097ec466af2d56e7"), looks := false }, kinds := [], alts := [], laidByText := true, laidKinds := [.data], laidTests := true, laidLooks := .later }
def StatRightUptoCardSaid : Prop := Claim7.holds Tryz.pinned (.plain (OpenSpec.upto statRightSpec)) statRightUptoCard

/-- THE SECOND FORM's CARD OF 'bailiwicklaw16.InstRight'. -/
def instRightUptoCard : Claim7 := { stood := { row := instRightUptoRow, standIns := [], harness := (true, "d4a29da06e83d9ee681d5dd1bcd6fee143c96ca0f085cfd0097ec466af2d56e7"), looks := false }, kinds := [], alts := [], laidByText := true, laidKinds := [.data], laidTests := true, laidLooks := .later }
def InstRightUptoCardSaid : Prop := Claim7.holds Tryz.pinned (.plain (OpenSpec.upto instRightSpec)) instRightUptoCard

/-- THE SECOND FORM's CARD OF 'bailiwicklaw16.InstHolds'. -/
def instHoldsUptoCard : Claim7 := { stood := { row := instHoldsUptoRow, standIns := [], harness := (true, "d4a29da06e83d9ee681d5dd1bcd6fee143c96ca0f085cfd0097ec466af2d56e7"), looks := false }, kinds := [], alts := [], laidByText := true, laidKinds := [.data], laidTests := true, laidLooks := .later }
def InstHoldsUptoCardSaid : Prop := Claim7.holds Tryz.pinned (.plain (OpenSpec.upto instHoldsSpec)) instHoldsUptoCard

/-- THE SECOND FORM's CARD OF 'bailiwicklaw16.InstEnds'. -/
def instEndsUptoCard : Claim7 := { stood := { row := instEndsUptoRow, standIns := [], harness := (true, "d4a29da06e83d9ee681d5dd1bcd6fee143c96ca0f085cfd0097ec466af2d56e7"), looks := false }, kinds := [], alts := [], laidByText := true, laidKinds := [.data], laidTests := true, laidLooks := .later }
def InstEndsUptoCardSaid : Prop := Claim7.holds Tryz.pinned (.plain (OpenSpec.upto instEndsSpec)) instEndsUptoCard

/-- THE SECOND FORM's CARD OF 'bailiwicklaw16.InstTimes'. -/
def instTimesUptoCard : Claim7 := { stood := { row := instTimesUptoRow, standIns := [], harness := (true, "d4a29da06e83d9ee681d5dd1bcd6fee143c96ca0f085cfd0097ec466af2d56e7"), looks := false }, kinds := [], alts := [], laidByText := true, laidKinds := [.data], laidTests := true, laidLooks := .later }
def InstTimesUptoCardSaid : Prop := Claim7.holds Tryz.pinned (.plain (OpenSpec.upto instTimesSpec)) instTimesUptoCard
end Rows
end Go.Proofs.YtcncbmpblkgfjaaGreatDoor
