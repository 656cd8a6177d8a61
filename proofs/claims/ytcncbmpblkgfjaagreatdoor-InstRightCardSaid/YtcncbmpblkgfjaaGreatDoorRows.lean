/-
  NARROWER THAN 'FOR EVERY INPUT', by the rows' own cells (each row's printed sentence says how): StatRight: laid · InstRight: laid · InstHolds: laid · InstEnds: laid · InstTimes: laid.
  DERIVED. THE GIVEN ROWS OF THIS SEAT. 5 by the template 'for every input the law returns true; each argument reads behind the call as it read before'; 0 by the template 'total and deterministic' (their statements: YtcncbmpblkgfjaaGreatDoorTotals.lean).
  GIVEN WITH THE SEED: the statements are not yours to turn. If you find one false, say at which input.
  Laid BY PROGRAM, IN A SANDBOX (cutbox-rows.mjs): the forced cells as the released guide's own fill.sh prints them over the translation 0dc5a46040692e3a… (all of the seat's roots in one cut). By AI agents, Wed Nov 11 2026. No macro, syntax, notation, axiom, sorry.
-/
import Derived.Test.YtcncbmpblkgfjaaGreatDoorChecked
import GoSem.Claim
import GoSem.ClaimJoined
import GoSem.ClaimMapViews
import Derived.JoinedTies
import Derived.KernelRfl
namespace Go.Proofs.YtcncbmpblkgfjaaGreatDoor
/- THE CELL 'sum', in the pinned program and in every row, IS THE sha256 OF THE DUMP (.gsa) THAT YtcncbmpblkgfjaaGreatDoorProg.lean LOADS. Nothing in Lean hashes anything: it is a label: what it is worth is what the hold of that sum in a sandbox is worth. -/
noncomputable def Tryz.pinned : Pinned := { name := "ytcncbmpblkgfjaagreatdoor", sum := "0dc5a46040692e3a11e4c76870a07a87e03a9ffa152a0aff50ea12c70384218e", checked := Tryz.checked }
namespace Rows
def none {H : Type} : Left H := { results := [], args := [] }

/- WHAT THE LISTED PACKAGE-LEVEL VARIABLES READ AS WHEN THE CALL BEGINS. Each datum BY PROGRAM (the guide's laid-datum.mjs) off the statement by which the dump's own 'gosem.cut.vars' lays the variable. In a bare row this is a premise. The card (YtcncbmpblkgfjaaGreatDoorCards.lean) ties it to the program's text. -/
def laid_math_bits_deBruijn64tab {H : Type} : DataW H := .agg [.lit (.int .u8 0), .lit (.int .u8 1), .lit (.int .u8 56), .lit (.int .u8 2), .lit (.int .u8 57), .lit (.int .u8 49), .lit (.int .u8 28), .lit (.int .u8 3), .lit (.int .u8 61), .lit (.int .u8 58), .lit (.int .u8 42), .lit (.int .u8 50), .lit (.int .u8 38), .lit (.int .u8 29), .lit (.int .u8 17), .lit (.int .u8 4), .lit (.int .u8 62), .lit (.int .u8 47), .lit (.int .u8 59), .lit (.int .u8 36), .lit (.int .u8 45), .lit (.int .u8 43), .lit (.int .u8 51), .lit (.int .u8 22), .lit (.int .u8 53), .lit (.int .u8 39), .lit (.int .u8 33), .lit (.int .u8 30), .lit (.int .u8 24), .lit (.int .u8 18), .lit (.int .u8 12), .lit (.int .u8 5), .lit (.int .u8 63), .lit (.int .u8 55), .lit (.int .u8 48), .lit (.int .u8 27), .lit (.int .u8 60), .lit (.int .u8 41), .lit (.int .u8 37), .lit (.int .u8 16), .lit (.int .u8 46), .lit (.int .u8 35), .lit (.int .u8 44), .lit (.int .u8 21), .lit (.int .u8 52), .lit (.int .u8 32), .lit (.int .u8 23), .lit (.int .u8 11), .lit (.int .u8 54), .lit (.int .u8 26), .lit (.int .u8 40), .lit (.int .u8 15), .lit (.int .u8 34), .lit (.int .u8 20), .lit (.int .u8 31), .lit (.int .u8 10), .lit (.int .u8 25), .lit (.int .u8 14), .lit (.int .u8 19), .lit (.int .u8 9), .lit (.int .u8 13), .lit (.int .u8 8), .lit (.int .u8 7), .lit (.int .u8 6)]

/-- 'bailiwicklaw23.StatRight': WHATEVER THE INPUT: true; the input reads as it did. -/
def statRightSpec : ChangeSpec := { name := "statRight", fn := fun _ => fun
  | [d1, d2, d3] => { results := [.lit (.bool true)], args := [d1, d2, d3] }
  | _ => none }
def statRightRow : OpenClaim := { program := "ytcncbmpblkgfjaagreatdoor", sum := "0dc5a46040692e3a11e4c76870a07a87e03a9ffa152a0aff50ea12c70384218e", func := "bailiwick/bailiwicklaw23.StatRight", spec := "statRight", inPlace := ["internal/bytealg.IndexByteString", "internal/bytealg.IndexString"], unfollowed := true, recurses := true, named := ["math/bits.deBruijn64tab", "internal/bytealg.MaxLen"], apart := false, laid := [("math/bits.deBruijn64tab", laid_math_bits_deBruijn64tab)] }
def StatRightSaid : Prop := statRightRow.holds Tryz.pinned (OpenSpec.ofChange statRightSpec)

/-- ITS FALSE NEIGHBOUR: 'it returns false'. Refute it at one input. -/
def statRightWrong : ChangeSpec := { name := "statRight", fn := fun _ => fun
  | [d1, d2, d3] => { results := [.lit (.bool false)], args := [d1, d2, d3] }
  | _ => none }
def StatRightWrongFalsely : Prop := statRightRow.holds Tryz.pinned (OpenSpec.ofChange statRightWrong)

/-- 'bailiwicklaw16.InstRight': WHATEVER THE INPUT: true; the input reads as it did. -/
def instRightSpec : ChangeSpec := { name := "instRight", fn := fun _ => fun
  | [d1, d2, d3, d4] => { results := [.lit (.bool true)], args := [d1, d2, d3, d4] }
  | _ => none }
def instRightRow : OpenClaim := { program := "ytcncbmpblkgfjaagreatdoor", sum := "0dc5a46040692e3a11e4c76870a07a87e03a9ffa152a0aff50ea12c70384218e", func := "bailiwick/bailiwicklaw16.InstRight", spec := "instRight", inPlace := ["internal/bytealg.IndexByteString", "internal/bytealg.IndexString", "slices.overlaps[bailiwick/api.Held]"], unfollowed := true, recurses := true, named := ["math/bits.deBruijn64tab", "internal/bytealg.MaxLen"], apart := false, laid := [("math/bits.deBruijn64tab", laid_math_bits_deBruijn64tab)] }
def InstRightSaid : Prop := instRightRow.holds Tryz.pinned (OpenSpec.ofChange instRightSpec)

/-- ITS FALSE NEIGHBOUR: 'it returns false'. Refute it at one input. -/
def instRightWrong : ChangeSpec := { name := "instRight", fn := fun _ => fun
  | [d1, d2, d3, d4] => { results := [.lit (.bool false)], args := [d1, d2, d3, d4] }
  | _ => none }
def InstRightWrongFalsely : Prop := instRightRow.holds Tryz.pinned (OpenSpec.ofChange instRightWrong)

/-- 'bailiwicklaw16.InstHolds': WHATEVER THE INPUT: true; the input reads as it did. -/
def instHoldsSpec : ChangeSpec := { name := "instHolds", fn := fun _ => fun
  | [d1, d2, d3, d4] => { results := [.lit (.bool true)], args := [d1, d2, d3, d4] }
  | _ => none }
def instHoldsRow : OpenClaim := { program := "ytcncbmpblkgfjaagreatdoor", sum := "0dc5a46040692e3a11e4c76870a07a87e03a9ffa152a0aff50ea12c70384218e", func := "bailiwick/bailiwicklaw16.InstHolds", spec := "instHolds", inPlace := ["internal/bytealg.IndexByteString", "internal/bytealg.IndexString", "slices.overlaps[bailiwick/api.Held]"], unfollowed := true, recurses := true, named := ["math/bits.deBruijn64tab", "internal/bytealg.MaxLen"], apart := false, laid := [("math/bits.deBruijn64tab", laid_math_bits_deBruijn64tab)] }
def InstHoldsSaid : Prop := instHoldsRow.holds Tryz.pinned (OpenSpec.ofChange instHoldsSpec)

/-- ITS FALSE NEIGHBOUR: 'it returns false'. Refute it at one input. -/
def instHoldsWrong : ChangeSpec := { name := "instHolds", fn := fun _ => fun
  | [d1, d2, d3, d4] => { results := [.lit (.bool false)], args := [d1, d2, d3, d4] }
  | _ => none }
def InstHoldsWrongFalsely : Prop := instHoldsRow.holds Tryz.pinned (OpenSpec.ofChange instHoldsWrong)

/-- 'bailiwicklaw16.InstEnds': WHATEVER THE INPUT: true; the input reads as it did. -/
def instEndsSpec : ChangeSpec := { name := "instEnds", fn := fun _ => fun
  | [d1, d2, d3, d4] => { results := [.lit (.bool true)], args := [d1, d2, d3, d4] }
  | _ => none }
def instEndsRow : OpenClaim := { program := "ytcncbmpblkgfjaagreatdoor", sum := "0dc5a46040692e3a11e4c76870a07a87e03a9ffa152a0aff50ea12c70384218e", func := "bailiwick/bailiwicklaw16.InstEnds", spec := "instEnds", inPlace := ["internal/bytealg.IndexByteString", "internal/bytealg.IndexString", "slices.overlaps[bailiwick/api.Held]"], unfollowed := true, recurses := true, named := ["math/bits.deBruijn64tab", "internal/bytealg.MaxLen"], apart := false, laid := [("math/bits.deBruijn64tab", laid_math_bits_deBruijn64tab)] }
def InstEndsSaid : Prop := instEndsRow.holds Tryz.pinned (OpenSpec.ofChange instEndsSpec)

/-- ITS FALSE NEIGHBOUR: 'it returns false'. Refute it at one input. -/
def instEndsWrong : ChangeSpec := { name := "instEnds", fn := fun _ => fun
  | [d1, d2, d3, d4] => { results := [.lit (.bool false)], args := [d1, d2, d3, d4] }
  | _ => none }
def InstEndsWrongFalsely : Prop := instEndsRow.holds Tryz.pinned (OpenSpec.ofChange instEndsWrong)

/-- 'bailiwicklaw16.InstTimes': WHATEVER THE INPUT: true; the input reads as it did. -/
def instTimesSpec : ChangeSpec := { name := "instTimes", fn := fun _ => fun
  | [d1, d2, d3, d4] => { results := [.lit (.bool true)], args := [d1, d2, d3, d4] }
  | _ => none }
def instTimesRow : OpenClaim := { program := "ytcncbmpblkgfjaagreatdoor", sum := "0dc5a46040692e3a11e4c76870a07a87e03a9ffa152a0aff50ea12c70384218e", func := "bailiwick/bailiwicklaw16.InstTimes", spec := "instTimes", inPlace := ["internal/bytealg.IndexByteString", "internal/bytealg.IndexString", "slices.overlaps[bailiwick/api.Held]"], unfollowed := true, recurses := true, named := ["math/bits.deBruijn64tab", "internal/bytealg.MaxLen"], apart := false, laid := [("math/bits.deBruijn64tab", laid_math_bits_deBruijn64tab)] }
def InstTimesSaid : Prop := instTimesRow.holds Tryz.pinned (OpenSpec.ofChange instTimesSpec)

/-- ITS FALSE NEIGHBOUR: 'it returns false'. Refute it at one input. -/
def instTimesWrong : ChangeSpec := { name := "instTimes", fn := fun _ => fun
  | [d1, d2, d3, d4] => { results := [.lit (.bool false)], args := [d1, d2, d3, d4] }
  | _ => none }
def InstTimesWrongFalsely : Prop := instTimesRow.holds Tryz.pinned (OpenSpec.ofChange instTimesWrong)

/- THE SECOND FORM. 'bulk': how many values and letters a reading holds, each counted each time it is reached (what is shared counts as often as it is met; a slice's spare places count too). A statement '..UptoSaid' is the law's where the arguments, and the package variables that the reading takes, are together of bulk at most 1048576: NARROWER than '..Said'. Prove '..Said' where nothing that the law and all that it calls make is longer than what came in: it says more and counts as full. Else prove '..UptoSaid'. A law counts once. -/
mutual
def uptoBulk {H : Type} : DataW H → Nat
  | .lit (.string bytes) => bytes.length + 1
  | .lit _ => 1
  | .nil => 1
  | .ptr d => uptoBulk d + 1
  | .slice elems spare => uptoBulkAll elems + uptoBulkAll spare + 1
  | .agg parts => uptoBulkAll parts + 1
  | .iface _ d => uptoBulk d + 1
  | .map entries => uptoBulkEntries entries + 1
  | .held _ => 1
def uptoBulkAll {H : Type} : List (DataW H) → Nat
  | [] => 0
  | d :: r => uptoBulk d + uptoBulkAll r
def uptoBulkEntries {H : Type} : List (Lit × DataW H) → Nat
  | [] => 0
  | x :: r => uptoBulkEntry x + uptoBulkEntries r
def uptoBulkEntry {H : Type} : Lit × DataW H → Nat
  | (.string bytes, d) => bytes.length + uptoBulk d + 1
  | (_, d) => uptoBulk d + 1
 end
def uptoSmall : (H : Type) → List (DataW H) → Bool := fun _ ds => decide (uptoBulkAll ds ≤ 1048576)
def OpenSpec.upto (s : _root_.Go.ChangeSpec) : _root_.Go.OpenSpec := { _root_.Go.OpenSpec.ofChange s with cond := some uptoSmall }

/-- 'bailiwicklaw23.StatRight', WHERE WHAT IT READS IS OF BULK AT MOST 1048576: true; the input reads as it did. -/
def statRightUptoRow : OpenClaim := { program := "ytcncbmpblkgfjaagreatdoor", sum := "0dc5a46040692e3a11e4c76870a07a87e03a9ffa152a0aff50ea12c70384218e", func := "bailiwick/bailiwicklaw23.StatRight", spec := "statRight", inPlace := ["internal/bytealg.IndexByteString", "internal/bytealg.IndexString"], unfollowed := true, recurses := true, named := ["math/bits.deBruijn64tab", "internal/bytealg.MaxLen"], apart := false, laid := [("math/bits.deBruijn64tab", laid_math_bits_deBruijn64tab)], narrowed := true }
def StatRightUptoSaid : Prop := statRightUptoRow.holds Tryz.pinned (OpenSpec.upto statRightSpec)

/-- 'bailiwicklaw16.InstRight', WHERE WHAT IT READS IS OF BULK AT MOST 1048576: true; the input reads as it did. -/
def instRightUptoRow : OpenClaim := { program := "ytcncbmpblkgfjaagreatdoor", sum := "0dc5a46040692e3a11e4c76870a07a87e03a9ffa152a0aff50ea12c70384218e", func := "bailiwick/bailiwicklaw16.InstRight", spec := "instRight", inPlace := ["internal/bytealg.IndexByteString", "internal/bytealg.IndexString", "slices.overlaps[bailiwick/api.Held]"], unfollowed := true, recurses := true, named := ["math/bits.deBruijn64tab", "internal/bytealg.MaxLen"], apart := false, laid := [("math/bits.deBruijn64tab", laid_math_bits_deBruijn64tab)], narrowed := true }
def InstRightUptoSaid : Prop := instRightUptoRow.holds Tryz.pinned (OpenSpec.upto instRightSpec)

/-- 'bailiwicklaw16.InstHolds', WHERE WHAT IT READS IS OF BULK AT MOST 1048576: true; the input reads as it did. -/
def instHoldsUptoRow : OpenClaim := { program := "ytcncbmpblkgfjaagreatdoor", sum := "0dc5a46040692e3a11e4c76870a07a87e03a9ffa152a0aff50ea12c70384218e", func := "bailiwick/bailiwicklaw16.InstHolds", spec := "instHolds", inPlace := ["internal/bytealg.IndexByteString", "internal/bytealg.IndexString", "slices.overlaps[bailiwick/api.Held]"], unfollowed := true, recurses := true, named := ["math/bits.deBruijn64tab", "internal/bytealg.MaxLen"], apart := false, laid := [("math/bits.deBruijn64tab", laid_math_bits_deBruijn64tab)], narrowed := true }
def InstHoldsUptoSaid : Prop := instHoldsUptoRow.holds Tryz.pinned (OpenSpec.upto instHoldsSpec)

/-- 'bailiwicklaw16.InstEnds', WHERE WHAT IT READS IS OF BULK AT MOST 1048576: true; the input reads as it did. -/
def instEndsUptoRow : OpenClaim := { program := "ytcncbmpblkgfjaagreatdoor", sum := "0dc5a46040692e3a11e4c76870a07a87e03a9ffa152a0aff50ea12c70384218e", func := "bailiwick/bailiwicklaw16.InstEnds", spec := "instEnds", inPlace := ["internal/bytealg.IndexByteString", "internal/bytealg.IndexString", "slices.overlaps[bailiwick/api.Held]"], unfollowed := true, recurses := true, named := ["math/bits.deBruijn64tab", "internal/bytealg.MaxLen"], apart := false, laid := [("math/bits.deBruijn64tab", laid_math_bits_deBruijn64tab)], narrowed := true }
def InstEndsUptoSaid : Prop := instEndsUptoRow.holds Tryz.pinned (OpenSpec.upto instEndsSpec)

/-- 'bailiwicklaw16.InstTimes', WHERE WHAT IT READS IS OF BULK AT MOST 1048576: true; the input reads as it did. -/
def instTimesUptoRow : OpenClaim := { program := "ytcncbmpblkgfjaagreatdoor", sum := "0dc5a46040692e3a11e4c76870a07a87e03a9ffa152a0aff50ea12c70384218e", func := "bailiwick/bailiwicklaw16.InstTimes", spec := "instTimes", inPlace := ["internal/bytealg.IndexByteString", "internal/bytealg.IndexString", "slices.overlaps[bailiwick/api.Held]"], unfollowed := true, recurses := true, named := ["math/bits.deBruijn64tab", "internal/bytealg.MaxLen"], apart := false, laid := [("math/bits.deBruijn64tab", laid_math_bits_deBruijn64tab)], narrowed := true }
def InstTimesUptoSaid : Prop := instTimesUptoRow.holds Tryz.pinned (OpenSpec.upto instTimesSpec)

end Rows
end Go.Proofs.YtcncbmpblkgfjaaGreatDoor
