/-
  NARROWER THAN 'FOR EVERY INPUT', by the rows' own cells (each row's printed sentence says how): SeatBytes: laid · SeatDoes: laid · SeatRecovers: laid · SeatLogs: laid · SeatRaw: laid.
  DERIVED. THE GIVEN ROWS OF THIS SEAT. 5 by the template 'for every input the law returns true; each argument reads behind the call as it read before'; 0 by the template 'total and deterministic' (their statements: YtpidemmdmmgalaaGreatDoorTotals.lean).
  GIVEN WITH THE SEED: the statements are not yours to turn. If you find one false, say at which input.
  Laid BY PROGRAM, IN A SANDBOX (cutbox-rows.mjs): the forced cells as the released guide's own fill.sh prints them over the translation 19413b40735c4c68… (all of the seat's roots in one cut). By AI agents, Wed Nov 11 2026. No macro, syntax, notation, axiom, sorry.
-/
import Derived.Test.YtpidemmdmmgalaaGreatDoorChecked
import GoSem.Claim
import GoSem.ClaimJoined
import GoSem.ClaimMapViews
import Derived.JoinedTies
import Derived.KernelRfl
namespace Go.Proofs.YtpidemmdmmgalaaGreatDoor
/- THE CELL 'sum', in the pinned program and in every row, IS THE sha256 OF THE DUMP (.gsa) THAT YtpidemmdmmgalaaGreatDoorProg.lean LOADS. Nothing in Lean hashes anything: it is a label: what it is worth is what the hold of that sum in a sandbox is worth. -/
noncomputable def Tryz.pinned : Pinned := { name := "ytpidemmdmmgalaagreatdoor", sum := "19413b40735c4c6895bffdd9c25dd2dae455beb134099f98a62512156aad8438", checked := Tryz.checked }
namespace Rows
def none {H : Type} : Left H := { results := [], args := [] }

/- WHAT THE LISTED PACKAGE-LEVEL VARIABLES READ AS WHEN THE CALL BEGINS. Each datum BY PROGRAM (the guide's laid-datum.mjs) off the statement by which the dump's own 'gosem.cut.vars' lays the variable. In a bare row this is a premise. The card (YtpidemmdmmgalaaGreatDoorCards.lean) ties it to the program's text. -/
def laid_math_bits_deBruijn64tab {H : Type} : DataW H := .agg [.lit (.int .u8 0), .lit (.int .u8 1), .lit (.int .u8 56), .lit (.int .u8 2), .lit (.int .u8 57), .lit (.int .u8 49), .lit (.int .u8 28), .lit (.int .u8 3), .lit (.int .u8 61), .lit (.int .u8 58), .lit (.int .u8 42), .lit (.int .u8 50), .lit (.int .u8 38), .lit (.int .u8 29), .lit (.int .u8 17), .lit (.int .u8 4), .lit (.int .u8 62), .lit (.int .u8 47), .lit (.int .u8 59), .lit (.int .u8 36), .lit (.int .u8 45), .lit (.int .u8 43), .lit (.int .u8 51), .lit (.int .u8 22), .lit (.int .u8 53), .lit (.int .u8 39), .lit (.int .u8 33), .lit (.int .u8 30), .lit (.int .u8 24), .lit (.int .u8 18), .lit (.int .u8 12), .lit (.int .u8 5), .lit (.int .u8 63), .lit (.int .u8 55), .lit (.int .u8 48), .lit (.int .u8 27), .lit (.int .u8 60), .lit (.int .u8 41), .lit (.int .u8 37), .lit (.int .u8 16), .lit (.int .u8 46), .lit (.int .u8 35), .lit (.int .u8 44), .lit (.int .u8 21), .lit (.int .u8 52), .lit (.int .u8 32), .lit (.int .u8 23), .lit (.int .u8 11), .lit (.int .u8 54), .lit (.int .u8 26), .lit (.int .u8 40), .lit (.int .u8 15), .lit (.int .u8 34), .lit (.int .u8 20), .lit (.int .u8 31), .lit (.int .u8 10), .lit (.int .u8 25), .lit (.int .u8 14), .lit (.int .u8 19), .lit (.int .u8 9), .lit (.int .u8 13), .lit (.int .u8 8), .lit (.int .u8 7), .lit (.int .u8 6)]

/-- 'bailiwicklaw21.SeatBytes': WHATEVER THE INPUT: true; the input reads as it did. -/
def seatBytesSpec : ChangeSpec := { name := "seatBytes", fn := fun _ => fun
  | [d1, d2] => { results := [.lit (.bool true)], args := [d1, d2] }
  | _ => none }
def seatBytesRow : OpenClaim := { program := "ytpidemmdmmgalaagreatdoor", sum := "19413b40735c4c6895bffdd9c25dd2dae455beb134099f98a62512156aad8438", func := "bailiwick/bailiwicklaw21.SeatBytes", spec := "seatBytes", inPlace := ["internal/bytealg.IndexByteString", "internal/bytealg.IndexString", "slices.overlaps[bailiwick/api.Held]"], unfollowed := true, recurses := true, named := ["math/bits.deBruijn64tab", "internal/bytealg.MaxLen"], apart := false, laid := [("math/bits.deBruijn64tab", laid_math_bits_deBruijn64tab)] }
def SeatBytesSaid : Prop := seatBytesRow.holds Tryz.pinned (OpenSpec.ofChange seatBytesSpec)

/-- ITS FALSE NEIGHBOUR: 'it returns false'. Refute it at one input. -/
def seatBytesWrong : ChangeSpec := { name := "seatBytes", fn := fun _ => fun
  | [d1, d2] => { results := [.lit (.bool false)], args := [d1, d2] }
  | _ => none }
def SeatBytesWrongFalsely : Prop := seatBytesRow.holds Tryz.pinned (OpenSpec.ofChange seatBytesWrong)

/-- 'bailiwicklaw21.SeatDoes': WHATEVER THE INPUT: true; the input reads as it did. -/
def seatDoesSpec : ChangeSpec := { name := "seatDoes", fn := fun _ => fun
  | [d1, d2, d3, d4] => { results := [.lit (.bool true)], args := [d1, d2, d3, d4] }
  | _ => none }
def seatDoesRow : OpenClaim := { program := "ytpidemmdmmgalaagreatdoor", sum := "19413b40735c4c6895bffdd9c25dd2dae455beb134099f98a62512156aad8438", func := "bailiwick/bailiwicklaw21.SeatDoes", spec := "seatDoes", inPlace := ["internal/bytealg.IndexByteString", "internal/bytealg.IndexString", "slices.overlaps[bailiwick/api.Held]"], unfollowed := true, recurses := true, named := ["math/bits.deBruijn64tab", "internal/bytealg.MaxLen"], apart := false, laid := [("math/bits.deBruijn64tab", laid_math_bits_deBruijn64tab)] }
def SeatDoesSaid : Prop := seatDoesRow.holds Tryz.pinned (OpenSpec.ofChange seatDoesSpec)

/-- ITS FALSE NEIGHBOUR: 'it returns false'. Refute it at one input. -/
def seatDoesWrong : ChangeSpec := { name := "seatDoes", fn := fun _ => fun
  | [d1, d2, d3, d4] => { results := [.lit (.bool false)], args := [d1, d2, d3, d4] }
  | _ => none }
def SeatDoesWrongFalsely : Prop := seatDoesRow.holds Tryz.pinned (OpenSpec.ofChange seatDoesWrong)

/-- 'bailiwicklaw21.SeatRecovers': WHATEVER THE INPUT: true; the input reads as it did. -/
def seatRecoversSpec : ChangeSpec := { name := "seatRecovers", fn := fun _ => fun
  | [d1, d2, d3, d4, d5, d6] => { results := [.lit (.bool true)], args := [d1, d2, d3, d4, d5, d6] }
  | _ => none }
def seatRecoversRow : OpenClaim := { program := "ytpidemmdmmgalaagreatdoor", sum := "19413b40735c4c6895bffdd9c25dd2dae455beb134099f98a62512156aad8438", func := "bailiwick/bailiwicklaw21.SeatRecovers", spec := "seatRecovers", inPlace := ["internal/bytealg.IndexByteString", "internal/bytealg.IndexString", "slices.overlaps[bailiwick/api.Held]"], unfollowed := true, recurses := true, named := ["math/bits.deBruijn64tab", "internal/bytealg.MaxLen"], apart := false, laid := [("math/bits.deBruijn64tab", laid_math_bits_deBruijn64tab)] }
def SeatRecoversSaid : Prop := seatRecoversRow.holds Tryz.pinned (OpenSpec.ofChange seatRecoversSpec)

/-- ITS FALSE NEIGHBOUR: 'it returns false'. Refute it at one input. -/
def seatRecoversWrong : ChangeSpec := { name := "seatRecovers", fn := fun _ => fun
  | [d1, d2, d3, d4, d5, d6] => { results := [.lit (.bool false)], args := [d1, d2, d3, d4, d5, d6] }
  | _ => none }
def SeatRecoversWrongFalsely : Prop := seatRecoversRow.holds Tryz.pinned (OpenSpec.ofChange seatRecoversWrong)

/-- 'bailiwicklaw21.SeatLogs': WHATEVER THE INPUT: true; the input reads as it did. -/
def seatLogsSpec : ChangeSpec := { name := "seatLogs", fn := fun _ => fun
  | [d1, d2, d3, d4] => { results := [.lit (.bool true)], args := [d1, d2, d3, d4] }
  | _ => none }
def seatLogsRow : OpenClaim := { program := "ytpidemmdmmgalaagreatdoor", sum := "19413b40735c4c6895bffdd9c25dd2dae455beb134099f98a62512156aad8438", func := "bailiwick/bailiwicklaw21.SeatLogs", spec := "seatLogs", inPlace := ["internal/bytealg.IndexByteString", "internal/bytealg.IndexString", "slices.overlaps[bailiwick/api.Held]"], unfollowed := true, recurses := true, named := ["math/bits.deBruijn64tab", "internal/bytealg.MaxLen"], apart := false, laid := [("math/bits.deBruijn64tab", laid_math_bits_deBruijn64tab)] }
def SeatLogsSaid : Prop := seatLogsRow.holds Tryz.pinned (OpenSpec.ofChange seatLogsSpec)

/-- ITS FALSE NEIGHBOUR: 'it returns false'. Refute it at one input. -/
def seatLogsWrong : ChangeSpec := { name := "seatLogs", fn := fun _ => fun
  | [d1, d2, d3, d4] => { results := [.lit (.bool false)], args := [d1, d2, d3, d4] }
  | _ => none }
def SeatLogsWrongFalsely : Prop := seatLogsRow.holds Tryz.pinned (OpenSpec.ofChange seatLogsWrong)

/-- 'bailiwicklaw21.SeatRaw': WHATEVER THE INPUT: true; the input reads as it did. -/
def seatRawSpec : ChangeSpec := { name := "seatRaw", fn := fun _ => fun
  | [d1, d2, d3, d4] => { results := [.lit (.bool true)], args := [d1, d2, d3, d4] }
  | _ => none }
def seatRawRow : OpenClaim := { program := "ytpidemmdmmgalaagreatdoor", sum := "19413b40735c4c6895bffdd9c25dd2dae455beb134099f98a62512156aad8438", func := "bailiwick/bailiwicklaw21.SeatRaw", spec := "seatRaw", inPlace := ["internal/bytealg.IndexByteString", "internal/bytealg.IndexString", "slices.overlaps[bailiwick/api.Held]"], unfollowed := true, recurses := true, named := ["math/bits.deBruijn64tab", "internal/bytealg.MaxLen"], apart := false, laid := [("math/bits.deBruijn64tab", laid_math_bits_deBruijn64tab)] }
def SeatRawSaid : Prop := seatRawRow.holds Tryz.pinned (OpenSpec.ofChange seatRawSpec)

/-- ITS FALSE NEIGHBOUR: 'it returns false'. Refute it at one input. -/
def seatRawWrong : ChangeSpec := { name := "seatRaw", fn := fun _ => fun
  | [d1, d2, d3, d4] => { results := [.lit (.bool false)], args := [d1, d2, d3, d4] }
  | _ => none }
def SeatRawWrongFalsely : Prop := seatRawRow.holds Tryz.pinned (OpenSpec.ofChange seatRawWrong)

/- THE SECOND FORM. 'bulk': how many values and letters a reading holds, each counted each time it is reached (what is shared counts as often as it is met; a slice's spare places count too). A statement '..UptoSaid' is the law's where the arguments, and the package variables that the reading takes, are together of bulk at most 1048576: NARROWER than '..Said'. Prove '..Said' where nothing that the law and all that it calls make is longer than what came in: it says more and counts as full. Else prove '..UptoSaid'. A law counts once. -/
mutual
def uptoBulk {H : Type} : DataW H → Nat
  | .lit (.string bytes) => bytes.length + 1
  | .lit _ => 1
  | .nil => 1
  | .ptr d => uptoBulk d + 1
  | .slice elems spare => uptoBulkAll elems + uptoBulkAll spare + 1
  | .agg parts => uptoBulkAll parts + 1
  | .iface _ d => uptoBulk d + 1
  | .map entries => uptoBulkEntries entries + 1
  | .held _ => 1
def uptoBulkAll {H : Type} : List (DataW H) → Nat
  | [] => 0
  | d :: r => uptoBulk d + uptoBulkAll r
def uptoBulkEntries {H : Type} : List (Lit × DataW H) → Nat
  | [] => 0
  | x :: r => uptoBulkEntry x + uptoBulkEntries r
def uptoBulkEntry {H : Type} : Lit × DataW H → Nat
  | (.string bytes, d) => bytes.length + uptoBulk d + 1
  | (_, d) => uptoBulk d + 1
 end
def uptoSmall : (H : Type) → List (DataW H) → Bool := fun _ ds => decide (uptoBulkAll ds ≤ 1048576)
def OpenSpec.upto (s : _root_.Go.ChangeSpec) : _root_.Go.OpenSpec := { _root_.Go.OpenSpec.ofChange s with cond := some uptoSmall }

/-- 'bailiwicklaw21.SeatBytes', WHERE WHAT IT READS IS OF BULK AT MOST 1048576: true; the input reads as it did. -/
def seatBytesUptoRow : OpenClaim := { program := "ytpidemmdmmgalaagreatdoor", sum := "19413b40735c4c6895bffdd9c25dd2dae455beb134099f98a62512156aad8438", func := "bailiwick/bailiwicklaw21.SeatBytes", spec := "seatBytes", inPlace := ["internal/bytealg.IndexByteString", "internal/bytealg.IndexString", "slices.overlaps[bailiwick/api.Held]"], unfollowed := true, recurses := true, named := ["math/bits.deBruijn64tab", "internal/bytealg.MaxLen"], apart := false, laid := [("math/bits.deBruijn64tab", laid_math_bits_deBruijn64tab)], narrowed := true }
def SeatBytesUptoSaid : Prop := seatBytesUptoRow.holds Tryz.pinned (OpenSpec.upto seatBytesSpec)

/-- 'bailiwicklaw21.SeatDoes', WHERE WHAT IT READS IS OF BULK AT MOST 1048576: true; the input reads as it did. -/
def seatDoesUptoRow : OpenClaim := { program := "ytpidemmdmmgalaagreatdoor", sum := "19413b40735c4c6895bffdd9c25dd2dae455beb134099f98a62512156aad8438", func := "bailiwick/bailiwicklaw21.SeatDoes", spec := "seatDoes", inPlace := ["internal/bytealg.IndexByteString", "internal/bytealg.IndexString", "slices.overlaps[bailiwick/api.Held]"], unfollowed := true, recurses := true, named := ["math/bits.deBruijn64tab", "internal/bytealg.MaxLen"], apart := false, laid := [("math/bits.deBruijn64tab", laid_math_bits_deBruijn64tab)], narrowed := true }
def SeatDoesUptoSaid : Prop := seatDoesUptoRow.holds Tryz.pinned (OpenSpec.upto seatDoesSpec)

/-- 'bailiwicklaw21.SeatRecovers', WHERE WHAT IT READS IS OF BULK AT MOST 1048576: true; the input reads as it did. -/
def seatRecoversUptoRow : OpenClaim := { program := "ytpidemmdmmgalaagreatdoor", sum := "19413b40735c4c6895bffdd9c25dd2dae455beb134099f98a62512156aad8438", func := "bailiwick/bailiwicklaw21.SeatRecovers", spec := "seatRecovers", inPlace := ["internal/bytealg.IndexByteString", "internal/bytealg.IndexString", "slices.overlaps[bailiwick/api.Held]"], unfollowed := true, recurses := true, named := ["math/bits.deBruijn64tab", "internal/bytealg.MaxLen"], apart := false, laid := [("math/bits.deBruijn64tab", laid_math_bits_deBruijn64tab)], narrowed := true }
def SeatRecoversUptoSaid : Prop := seatRecoversUptoRow.holds Tryz.pinned (OpenSpec.upto seatRecoversSpec)

/-- 'bailiwicklaw21.SeatLogs', WHERE WHAT IT READS IS OF BULK AT MOST 1048576: true; the input reads as it did. -/
def seatLogsUptoRow : OpenClaim := { program := "ytpidemmdmmgalaagreatdoor", sum := "19413b40735c4c6895bffdd9c25dd2dae455beb134099f98a62512156aad8438", func := "bailiwick/bailiwicklaw21.SeatLogs", spec := "seatLogs", inPlace := ["internal/bytealg.IndexByteString", "internal/bytealg.IndexString", "slices.overlaps[bailiwick/api.Held]"], unfollowed := true, recurses := true, named := ["math/bits.deBruijn64tab", "internal/bytealg.MaxLen"], apart := false, laid := [("math/bits.deBruijn64tab", laid_math_bits_deBruijn64tab)], narrowed := true }
def SeatLogsUptoSaid : Prop := seatLogsUptoRow.holds Tryz.pinned (OpenSpec.upto seatLogsSpec)

/-- 'bailiwicklaw21.SeatRaw', WHERE WHAT IT READS IS OF BULK AT MOST 1048576: true; the input reads as it did. -/
def seatRawUptoRow : OpenClaim := { program := "ytpidemmdmmgalaagreatdoor", sum := "19413b40735c4c6895bffdd9c25dd2dae455beb134099f98a62512156aad8438", func := "bailiwick/bailiwicklaw21.SeatRaw", spec := "seatRaw", inPlace := ["internal/bytealg.IndexByteString", "internal/bytealg.IndexString", "slices.overlaps[bailiwick/api.Held]"], unfollowed := true, recurses := true, named := ["math/bits.deBruijn64tab", "internal/bytealg.MaxLen"], apart := false, laid := [("math/bits.deBruijn64tab", laid_math_bits_deBruijn64tab)], narrowed := true }
def SeatRawUptoSaid : Prop := seatRawUptoRow.holds Tryz.pinned (OpenSpec.upto seatRawSpec)

end Rows
end Go.Proofs.YtpidemmdmmgalaaGreatDoor
