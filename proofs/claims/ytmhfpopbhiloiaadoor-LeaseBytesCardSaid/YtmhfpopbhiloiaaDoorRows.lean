/-
  NARROWER THAN 'FOR EVERY INPUT', by the rows' own cells (each row's printed sentence says how): LeaseHears: laid · LeaseTurns: laid · LeaseLends: laid · LeaseWithin: laid · LeaseBytes: laid.
  DERIVED. THE GIVEN ROWS OF THIS SEAT. 5 by the template 'for every input the law returns true; each argument reads behind the call as it read before'; 0 by the template 'total and deterministic' (their statements: YtmhfpopbhiloiaaDoorTotals.lean).
  GIVEN WITH THE SEED: the statements are not yours to turn. If you find one false, say at which input.
  Laid BY PROGRAM, IN A SANDBOX (cutbox-rows.mjs): the forced cells as the released guide's own fill.sh prints them over the translation 3de80bd9332fdfed… (all of the seat's roots in one cut). By AI agents, Wed Nov 11 2026. No macro, syntax, notation, axiom, sorry.
-/
import Derived.Test.YtmhfpopbhiloiaaDoorChecked
import GoSem.Claim
import GoSem.ClaimJoined
import GoSem.ClaimMapViews
import Derived.JoinedTies
import Derived.KernelRfl
namespace Go.Proofs.YtmhfpopbhiloiaaDoor
/- THE CELL 'sum', in the pinned program and in every row, IS THE sha256 OF THE DUMP (.gsa) THAT YtmhfpopbhiloiaaDoorProg.lean LOADS. Nothing in Lean hashes anything: it is a label: what it is worth is what the hold of that sum in a sandbox is worth. -/
noncomputable def Tryd.pinned : Pinned := { name := "ytmhfpopbhiloiaadoor", sum := "3de80bd9332fdfed3bdc0ca320efc57914ad49f20d037378e9ffb576d9cbecd5", checked := Tryd.checked }
namespace Rows
def none {H : Type} : Left H := { results := [], args := [] }

/- WHAT THE LISTED PACKAGE-LEVEL VARIABLES READ AS WHEN THE CALL BEGINS. Each datum BY PROGRAM (the guide's laid-datum.mjs) off the statement by which the dump's own 'gosem.cut.vars' lays the variable. In a bare row this is a premise. The card (YtmhfpopbhiloiaaDoorCards.lean) ties it to the program's text. -/
def laid_math_bits_deBruijn64tab {H : Type} : DataW H := .agg [.lit (.int .u8 0), .lit (.int .u8 1), .lit (.int .u8 56), .lit (.int .u8 2), .lit (.int .u8 57), .lit (.int .u8 49), .lit (.int .u8 28), .lit (.int .u8 3), .lit (.int .u8 61), .lit (.int .u8 58), .lit (.int .u8 42), .lit (.int .u8 50), .lit (.int .u8 38), .lit (.int .u8 29), .lit (.int .u8 17), .lit (.int .u8 4), .lit (.int .u8 62), .lit (.int .u8 47), .lit (.int .u8 59), .lit (.int .u8 36), .lit (.int .u8 45), .lit (.int .u8 43), .lit (.int .u8 51), .lit (.int .u8 22), .lit (.int .u8 53), .lit (.int .u8 39), .lit (.int .u8 33), .lit (.int .u8 30), .lit (.int .u8 24), .lit (.int .u8 18), .lit (.int .u8 12), .lit (.int .u8 5), .lit (.int .u8 63), .lit (.int .u8 55), .lit (.int .u8 48), .lit (.int .u8 27), .lit (.int .u8 60), .lit (.int .u8 41), .lit (.int .u8 37), .lit (.int .u8 16), .lit (.int .u8 46), .lit (.int .u8 35), .lit (.int .u8 44), .lit (.int .u8 21), .lit (.int .u8 52), .lit (.int .u8 32), .lit (.int .u8 23), .lit (.int .u8 11), .lit (.int .u8 54), .lit (.int .u8 26), .lit (.int .u8 40), .lit (.int .u8 15), .lit (.int .u8 34), .lit (.int .u8 20), .lit (.int .u8 31), .lit (.int .u8 10), .lit (.int .u8 25), .lit (.int .u8 14), .lit (.int .u8 19), .lit (.int .u8 9), .lit (.int .u8 13), .lit (.int .u8 8), .lit (.int .u8 7), .lit (.int .u8 6)]

/-- 'bailiwicklaw19.LeaseHears': WHATEVER THE INPUT: true; the input reads as it did. -/
def leaseHearsSpec : ChangeSpec := { name := "leaseHears", fn := fun _ => fun
  | [d1, d2, d3, d4] => { results := [.lit (.bool true)], args := [d1, d2, d3, d4] }
  | _ => none }
def leaseHearsRow : OpenClaim := { program := "ytmhfpopbhiloiaadoor", sum := "3de80bd9332fdfed3bdc0ca320efc57914ad49f20d037378e9ffb576d9cbecd5", func := "bailiwick/bailiwicklaw19.LeaseHears", spec := "leaseHears", unfollowed := true, recurses := true, named := ["math/bits.deBruijn64tab"], apart := false, laid := [("math/bits.deBruijn64tab", laid_math_bits_deBruijn64tab)] }
def LeaseHearsSaid : Prop := leaseHearsRow.holds Tryd.pinned (OpenSpec.ofChange leaseHearsSpec)

/-- ITS FALSE NEIGHBOUR: 'it returns false'. Refute it at one input. -/
def leaseHearsWrong : ChangeSpec := { name := "leaseHears", fn := fun _ => fun
  | [d1, d2, d3, d4] => { results := [.lit (.bool false)], args := [d1, d2, d3, d4] }
  | _ => none }
def LeaseHearsWrongFalsely : Prop := leaseHearsRow.holds Tryd.pinned (OpenSpec.ofChange leaseHearsWrong)

/-- 'bailiwicklaw19.LeaseTurns': WHATEVER THE INPUT: true; the input reads as it did. -/
def leaseTurnsSpec : ChangeSpec := { name := "leaseTurns", fn := fun _ => fun
  | [d1, d2, d3, d4] => { results := [.lit (.bool true)], args := [d1, d2, d3, d4] }
  | _ => none }
def leaseTurnsRow : OpenClaim := { program := "ytmhfpopbhiloiaadoor", sum := "3de80bd9332fdfed3bdc0ca320efc57914ad49f20d037378e9ffb576d9cbecd5", func := "bailiwick/bailiwicklaw19.LeaseTurns", spec := "leaseTurns", unfollowed := true, recurses := true, named := ["math/bits.deBruijn64tab"], apart := false, laid := [("math/bits.deBruijn64tab", laid_math_bits_deBruijn64tab)] }
def LeaseTurnsSaid : Prop := leaseTurnsRow.holds Tryd.pinned (OpenSpec.ofChange leaseTurnsSpec)

/-- ITS FALSE NEIGHBOUR: 'it returns false'. Refute it at one input. -/
def leaseTurnsWrong : ChangeSpec := { name := "leaseTurns", fn := fun _ => fun
  | [d1, d2, d3, d4] => { results := [.lit (.bool false)], args := [d1, d2, d3, d4] }
  | _ => none }
def LeaseTurnsWrongFalsely : Prop := leaseTurnsRow.holds Tryd.pinned (OpenSpec.ofChange leaseTurnsWrong)

/-- 'bailiwicklaw19.LeaseLends': WHATEVER THE INPUT: true; the input reads as it did. -/
def leaseLendsSpec : ChangeSpec := { name := "leaseLends", fn := fun _ => fun
  | [d1, d2, d3, d4, d5] => { results := [.lit (.bool true)], args := [d1, d2, d3, d4, d5] }
  | _ => none }
def leaseLendsRow : OpenClaim := { program := "ytmhfpopbhiloiaadoor", sum := "3de80bd9332fdfed3bdc0ca320efc57914ad49f20d037378e9ffb576d9cbecd5", func := "bailiwick/bailiwicklaw19.LeaseLends", spec := "leaseLends", unfollowed := true, recurses := true, named := ["math/bits.deBruijn64tab"], apart := false, laid := [("math/bits.deBruijn64tab", laid_math_bits_deBruijn64tab)] }
def LeaseLendsSaid : Prop := leaseLendsRow.holds Tryd.pinned (OpenSpec.ofChange leaseLendsSpec)

/-- ITS FALSE NEIGHBOUR: 'it returns false'. Refute it at one input. -/
def leaseLendsWrong : ChangeSpec := { name := "leaseLends", fn := fun _ => fun
  | [d1, d2, d3, d4, d5] => { results := [.lit (.bool false)], args := [d1, d2, d3, d4, d5] }
  | _ => none }
def LeaseLendsWrongFalsely : Prop := leaseLendsRow.holds Tryd.pinned (OpenSpec.ofChange leaseLendsWrong)

/-- 'bailiwicklaw19.LeaseWithin': WHATEVER THE INPUT: true; the input reads as it did. -/
def leaseWithinSpec : ChangeSpec := { name := "leaseWithin", fn := fun _ => fun
  | [d1, d2, d3] => { results := [.lit (.bool true)], args := [d1, d2, d3] }
  | _ => none }
def leaseWithinRow : OpenClaim := { program := "ytmhfpopbhiloiaadoor", sum := "3de80bd9332fdfed3bdc0ca320efc57914ad49f20d037378e9ffb576d9cbecd5", func := "bailiwick/bailiwicklaw19.LeaseWithin", spec := "leaseWithin", unfollowed := true, recurses := true, named := ["math/bits.deBruijn64tab"], apart := false, laid := [("math/bits.deBruijn64tab", laid_math_bits_deBruijn64tab)] }
def LeaseWithinSaid : Prop := leaseWithinRow.holds Tryd.pinned (OpenSpec.ofChange leaseWithinSpec)

/-- ITS FALSE NEIGHBOUR: 'it returns false'. Refute it at one input. -/
def leaseWithinWrong : ChangeSpec := { name := "leaseWithin", fn := fun _ => fun
  | [d1, d2, d3] => { results := [.lit (.bool false)], args := [d1, d2, d3] }
  | _ => none }
def LeaseWithinWrongFalsely : Prop := leaseWithinRow.holds Tryd.pinned (OpenSpec.ofChange leaseWithinWrong)

/-- 'bailiwicklaw19.LeaseBytes': WHATEVER THE INPUT: true; the input reads as it did. -/
def leaseBytesSpec : ChangeSpec := { name := "leaseBytes", fn := fun _ => fun
  | [d1, d2] => { results := [.lit (.bool true)], args := [d1, d2] }
  | _ => none }
def leaseBytesRow : OpenClaim := { program := "ytmhfpopbhiloiaadoor", sum := "3de80bd9332fdfed3bdc0ca320efc57914ad49f20d037378e9ffb576d9cbecd5", func := "bailiwick/bailiwicklaw19.LeaseBytes", spec := "leaseBytes", unfollowed := true, recurses := true, named := ["math/bits.deBruijn64tab"], apart := false, laid := [("math/bits.deBruijn64tab", laid_math_bits_deBruijn64tab)] }
def LeaseBytesSaid : Prop := leaseBytesRow.holds Tryd.pinned (OpenSpec.ofChange leaseBytesSpec)

/-- ITS FALSE NEIGHBOUR: 'it returns false'. Refute it at one input. -/
def leaseBytesWrong : ChangeSpec := { name := "leaseBytes", fn := fun _ => fun
  | [d1, d2] => { results := [.lit (.bool false)], args := [d1, d2] }
  | _ => none }
def LeaseBytesWrongFalsely : Prop := leaseBytesRow.holds Tryd.pinned (OpenSpec.ofChange leaseBytesWrong)

/- THE SECOND FORM. 'bulk': how many values and letters a reading holds, each counted each time it is reached (what is shared counts as often as it is met; a slice's spare places count too). A statement '..UptoSaid' is the law's where the arguments, and the package variables that the reading takes, are together of bulk at most 1048576: NARROWER than '..Said'. Prove '..Said' where nothing that the law and all that it calls make is longer than what came in: it says more and counts as full. Else prove '..UptoSaid'. A law counts once. -/
mutual
def uptoBulk {H : Type} : DataW H → Nat
  | .lit (.string bytes) => bytes.length + 1
  | .lit _ => 1
  | .nil => 1
  | .ptr d => uptoBulk d + 1
  | .slice elems spare => uptoBulkAll elems + uptoBulkAll spare + 1
  | .agg parts => uptoBulkAll parts + 1
  | .iface _ d => uptoBulk d + 1
  | .map entries => uptoBulkEntries entries + 1
  | .held _ => 1
def uptoBulkAll {H : Type} : List (DataW H) → Nat
  | [] => 0
  | d :: r => uptoBulk d + uptoBulkAll r
def uptoBulkEntries {H : Type} : List (Lit × DataW H) → Nat
  | [] => 0
  | x :: r => uptoBulkEntry x + uptoBulkEntries r
def uptoBulkEntry {H : Type} : Lit × DataW H → Nat
  | (.string bytes, d) => bytes.length + uptoBulk d + 1
  | (_, d) => uptoBulk d + 1
 end
def uptoSmall : (H : Type) → List (DataW H) → Bool := fun _ ds => decide (uptoBulkAll ds ≤ 1048576)
def OpenSpec.upto (s : _root_.Go.ChangeSpec) : _root_.Go.OpenSpec := { _root_.Go.OpenSpec.ofChange s with cond := some uptoSmall }

/-- 'bailiwicklaw19.LeaseHears', WHERE WHAT IT READS IS OF BULK AT MOST 1048576: true; the input reads as it did. -/
def leaseHearsUptoRow : OpenClaim := { program := "ytmhfpopbhiloiaadoor", sum := "3de80bd9332fdfed3bdc0ca320efc57914ad49f20d037378e9ffb576d9cbecd5", func := "bailiwick/bailiwicklaw19.LeaseHears", spec := "leaseHears", unfollowed := true, recurses := true, named := ["math/bits.deBruijn64tab"], apart := false, laid := [("math/bits.deBruijn64tab", laid_math_bits_deBruijn64tab)], narrowed := true }
def LeaseHearsUptoSaid : Prop := leaseHearsUptoRow.holds Tryd.pinned (OpenSpec.upto leaseHearsSpec)

/-- 'bailiwicklaw19.LeaseTurns', WHERE WHAT IT READS IS OF BULK AT MOST 1048576: true; the input reads as it did. -/
def leaseTurnsUptoRow : OpenClaim := { program := "ytmhfpopbhiloiaadoor", sum := "3de80bd9332fdfed3bdc0ca320efc57914ad49f20d037378e9ffb576d9cbecd5", func := "bailiwick/bailiwicklaw19.LeaseTurns", spec := "leaseTurns", unfollowed := true, recurses := true, named := ["math/bits.deBruijn64tab"], apart := false, laid := [("math/bits.deBruijn64tab", laid_math_bits_deBruijn64tab)], narrowed := true }
def LeaseTurnsUptoSaid : Prop := leaseTurnsUptoRow.holds Tryd.pinned (OpenSpec.upto leaseTurnsSpec)

/-- 'bailiwicklaw19.LeaseLends', WHERE WHAT IT READS IS OF BULK AT MOST 1048576: true; the input reads as it did. -/
def leaseLendsUptoRow : OpenClaim := { program := "ytmhfpopbhiloiaadoor", sum := "3de80bd9332fdfed3bdc0ca320efc57914ad49f20d037378e9ffb576d9cbecd5", func := "bailiwick/bailiwicklaw19.LeaseLends", spec := "leaseLends", unfollowed := true, recurses := true, named := ["math/bits.deBruijn64tab"], apart := false, laid := [("math/bits.deBruijn64tab", laid_math_bits_deBruijn64tab)], narrowed := true }
def LeaseLendsUptoSaid : Prop := leaseLendsUptoRow.holds Tryd.pinned (OpenSpec.upto leaseLendsSpec)

/-- 'bailiwicklaw19.LeaseWithin', WHERE WHAT IT READS IS OF BULK AT MOST 1048576: true; the input reads as it did. -/
def leaseWithinUptoRow : OpenClaim := { program := "ytmhfpopbhiloiaadoor", sum := "3de80bd9332fdfed3bdc0ca320efc57914ad49f20d037378e9ffb576d9cbecd5", func := "bailiwick/bailiwicklaw19.LeaseWithin", spec := "leaseWithin", unfollowed := true, recurses := true, named := ["math/bits.deBruijn64tab"], apart := false, laid := [("math/bits.deBruijn64tab", laid_math_bits_deBruijn64tab)], narrowed := true }
def LeaseWithinUptoSaid : Prop := leaseWithinUptoRow.holds Tryd.pinned (OpenSpec.upto leaseWithinSpec)

/-- 'bailiwicklaw19.LeaseBytes', WHERE WHAT IT READS IS OF BULK AT MOST 1048576: true; the input reads as it did. -/
def leaseBytesUptoRow : OpenClaim := { program := "ytmhfpopbhiloiaadoor", sum := "3de80bd9332fdfed3bdc0ca320efc57914ad49f20d037378e9ffb576d9cbecd5", func := "bailiwick/bailiwicklaw19.LeaseBytes", spec := "leaseBytes", unfollowed := true, recurses := true, named := ["math/bits.deBruijn64tab"], apart := false, laid := [("math/bits.deBruijn64tab", laid_math_bits_deBruijn64tab)], narrowed := true }
def LeaseBytesUptoSaid : Prop := leaseBytesUptoRow.holds Tryd.pinned (OpenSpec.upto leaseBytesSpec)

end Rows
end Go.Proofs.YtmhfpopbhiloiaaDoor
