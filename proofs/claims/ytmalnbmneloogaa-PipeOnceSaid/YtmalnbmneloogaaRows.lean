/-
  No cell of these rows narrows 'for every input' (looked for: loops, veiled, ifaces, maps, wideKeys, modest, calm, conditions, laid).
  DERIVED. THE GIVEN ROWS OF THIS SEAT. 7 by the template 'for every input the law returns true; each argument reads behind the call as it read before'; 0 by the template 'total and deterministic' (their statements: YtmalnbmneloogaaTotals.lean).
  GIVEN WITH THE SEED: the statements are not yours to turn. If you find one false, say at which input.
  Laid BY PROGRAM, IN A SANDBOX (cutbox-rows.mjs): the forced cells as the released guide's own fill.sh prints them over the translation 14d1a0157146f53b… (all of the seat's roots in one cut). By AI agents, Wed Nov 11 2026. No macro, syntax, notation, axiom, sorry.
-/
import Derived.Test.YtmalnbmneloogaaChecked
import GoSem.Claim
import GoSem.ClaimJoined
import GoSem.ClaimMapViews
import Derived.JoinedTies
import Derived.KernelRfl
namespace Go.Proofs.Ytmalnbmneloogaa
/- THE CELL 'sum', in the pinned program and in every row, IS THE sha256 OF THE DUMP (.gsa) THAT YtmalnbmneloogaaProg.lean LOADS. Nothing in Lean hashes anything: it is a label: what it is worth is what the hold of that sum in a sandbox is worth. -/
noncomputable def Try.pinned : Pinned := { name := "ytmalnbmneloogaa", sum := "14d1a0157146f53b92f5a191f0631640897e61165a64f4e77acdd314e10d7b81", checked := Try.checked }
namespace Rows
def none {H : Type} : Left H := { results := [], args := [] }

/-- 'bailiwicklaw18.BagRight': WHATEVER THE INPUT: true; the input reads as it did. -/
def bagRightSpec : ChangeSpec := { name := "bagRight", fn := fun _ => fun
  | [d1, d2, d3, d4] => { results := [.lit (.bool true)], args := [d1, d2, d3, d4] }
  | _ => none }
def bagRightRow : OpenClaim := { program := "ytmalnbmneloogaa", sum := "14d1a0157146f53b92f5a191f0631640897e61165a64f4e77acdd314e10d7b81", func := "bailiwick/bailiwicklaw18.BagRight", spec := "bagRight", unfollowed := true, recurses := true, apart := false }
def BagRightSaid : Prop := bagRightRow.holds Try.pinned (OpenSpec.ofChange bagRightSpec)

/-- ITS FALSE NEIGHBOUR: 'it returns false'. Refute it at one input. -/
def bagRightWrong : ChangeSpec := { name := "bagRight", fn := fun _ => fun
  | [d1, d2, d3, d4] => { results := [.lit (.bool false)], args := [d1, d2, d3, d4] }
  | _ => none }
def BagRightWrongFalsely : Prop := bagRightRow.holds Try.pinned (OpenSpec.ofChange bagRightWrong)

/-- 'bailiwicklaw18.BagKeeps': WHATEVER THE INPUT: true; the input reads as it did. -/
def bagKeepsSpec : ChangeSpec := { name := "bagKeeps", fn := fun _ => fun
  | [d] => { results := [.lit (.bool true)], args := [d] }
  | _ => none }
def bagKeepsRow : OpenClaim := { program := "ytmalnbmneloogaa", sum := "14d1a0157146f53b92f5a191f0631640897e61165a64f4e77acdd314e10d7b81", func := "bailiwick/bailiwicklaw18.BagKeeps", spec := "bagKeeps", unfollowed := true, recurses := true, apart := false }
def BagKeepsSaid : Prop := bagKeepsRow.holds Try.pinned (OpenSpec.ofChange bagKeepsSpec)

/-- ITS FALSE NEIGHBOUR: 'it returns false'. Refute it at one input. -/
def bagKeepsWrong : ChangeSpec := { name := "bagKeeps", fn := fun _ => fun
  | [d] => { results := [.lit (.bool false)], args := [d] }
  | _ => none }
def BagKeepsWrongFalsely : Prop := bagKeepsRow.holds Try.pinned (OpenSpec.ofChange bagKeepsWrong)

/-- 'bailiwicklaw18.BagEnds': WHATEVER THE INPUT: true; the input reads as it did. -/
def bagEndsSpec : ChangeSpec := { name := "bagEnds", fn := fun _ => fun
  | [d1, d2, d3, d4] => { results := [.lit (.bool true)], args := [d1, d2, d3, d4] }
  | _ => none }
def bagEndsRow : OpenClaim := { program := "ytmalnbmneloogaa", sum := "14d1a0157146f53b92f5a191f0631640897e61165a64f4e77acdd314e10d7b81", func := "bailiwick/bailiwicklaw18.BagEnds", spec := "bagEnds", unfollowed := true, recurses := true, apart := false }
def BagEndsSaid : Prop := bagEndsRow.holds Try.pinned (OpenSpec.ofChange bagEndsSpec)

/-- ITS FALSE NEIGHBOUR: 'it returns false'. Refute it at one input. -/
def bagEndsWrong : ChangeSpec := { name := "bagEnds", fn := fun _ => fun
  | [d1, d2, d3, d4] => { results := [.lit (.bool false)], args := [d1, d2, d3, d4] }
  | _ => none }
def BagEndsWrongFalsely : Prop := bagEndsRow.holds Try.pinned (OpenSpec.ofChange bagEndsWrong)

/-- 'bailiwicklaw17.PipeRight': WHATEVER THE INPUT: true; the input reads as it did. -/
def pipeRightSpec : ChangeSpec := { name := "pipeRight", fn := fun _ => fun
  | [d1, d2, d3, d4] => { results := [.lit (.bool true)], args := [d1, d2, d3, d4] }
  | _ => none }
def pipeRightRow : OpenClaim := { program := "ytmalnbmneloogaa", sum := "14d1a0157146f53b92f5a191f0631640897e61165a64f4e77acdd314e10d7b81", func := "bailiwick/bailiwicklaw17.PipeRight", spec := "pipeRight", unfollowed := true, recurses := true, apart := false }
def PipeRightSaid : Prop := pipeRightRow.holds Try.pinned (OpenSpec.ofChange pipeRightSpec)

/-- ITS FALSE NEIGHBOUR: 'it returns false'. Refute it at one input. -/
def pipeRightWrong : ChangeSpec := { name := "pipeRight", fn := fun _ => fun
  | [d1, d2, d3, d4] => { results := [.lit (.bool false)], args := [d1, d2, d3, d4] }
  | _ => none }
def PipeRightWrongFalsely : Prop := pipeRightRow.holds Try.pinned (OpenSpec.ofChange pipeRightWrong)

/-- 'bailiwicklaw17.PipeOnce': WHATEVER THE INPUT: true; the input reads as it did. -/
def pipeOnceSpec : ChangeSpec := { name := "pipeOnce", fn := fun _ => fun
  | [d1, d2] => { results := [.lit (.bool true)], args := [d1, d2] }
  | _ => none }
def pipeOnceRow : OpenClaim := { program := "ytmalnbmneloogaa", sum := "14d1a0157146f53b92f5a191f0631640897e61165a64f4e77acdd314e10d7b81", func := "bailiwick/bailiwicklaw17.PipeOnce", spec := "pipeOnce", unfollowed := true, recurses := true, apart := false }
def PipeOnceSaid : Prop := pipeOnceRow.holds Try.pinned (OpenSpec.ofChange pipeOnceSpec)

/-- ITS FALSE NEIGHBOUR: 'it returns false'. Refute it at one input. -/
def pipeOnceWrong : ChangeSpec := { name := "pipeOnce", fn := fun _ => fun
  | [d1, d2] => { results := [.lit (.bool false)], args := [d1, d2] }
  | _ => none }
def PipeOnceWrongFalsely : Prop := pipeOnceRow.holds Try.pinned (OpenSpec.ofChange pipeOnceWrong)

/-- 'bailiwicklaw17.PipeEpochs': WHATEVER THE INPUT: true; the input reads as it did. -/
def pipeEpochsSpec : ChangeSpec := { name := "pipeEpochs", fn := fun _ => fun
  | [d1, d2, d3, d4] => { results := [.lit (.bool true)], args := [d1, d2, d3, d4] }
  | _ => none }
def pipeEpochsRow : OpenClaim := { program := "ytmalnbmneloogaa", sum := "14d1a0157146f53b92f5a191f0631640897e61165a64f4e77acdd314e10d7b81", func := "bailiwick/bailiwicklaw17.PipeEpochs", spec := "pipeEpochs", unfollowed := true, recurses := true, apart := false }
def PipeEpochsSaid : Prop := pipeEpochsRow.holds Try.pinned (OpenSpec.ofChange pipeEpochsSpec)

/-- ITS FALSE NEIGHBOUR: 'it returns false'. Refute it at one input. -/
def pipeEpochsWrong : ChangeSpec := { name := "pipeEpochs", fn := fun _ => fun
  | [d1, d2, d3, d4] => { results := [.lit (.bool false)], args := [d1, d2, d3, d4] }
  | _ => none }
def PipeEpochsWrongFalsely : Prop := pipeEpochsRow.holds Try.pinned (OpenSpec.ofChange pipeEpochsWrong)

/-- 'bailiwicklaw17.PipeFull': WHATEVER THE INPUT: true; the input reads as it did. -/
def pipeFullSpec : ChangeSpec := { name := "pipeFull", fn := fun _ => fun
  | [d1, d2, d3] => { results := [.lit (.bool true)], args := [d1, d2, d3] }
  | _ => none }
def pipeFullRow : OpenClaim := { program := "ytmalnbmneloogaa", sum := "14d1a0157146f53b92f5a191f0631640897e61165a64f4e77acdd314e10d7b81", func := "bailiwick/bailiwicklaw17.PipeFull", spec := "pipeFull", unfollowed := true, recurses := true, apart := false }
def PipeFullSaid : Prop := pipeFullRow.holds Try.pinned (OpenSpec.ofChange pipeFullSpec)

/-- ITS FALSE NEIGHBOUR: 'it returns false'. Refute it at one input. -/
def pipeFullWrong : ChangeSpec := { name := "pipeFull", fn := fun _ => fun
  | [d1, d2, d3] => { results := [.lit (.bool false)], args := [d1, d2, d3] }
  | _ => none }
def PipeFullWrongFalsely : Prop := pipeFullRow.holds Try.pinned (OpenSpec.ofChange pipeFullWrong)

/- THE SECOND FORM. 'bulk': how many values and letters a reading holds, each counted each time it is reached (what is shared counts as often as it is met; a slice's spare places count too). A statement '..UptoSaid' is the law's where the arguments, and the package variables that the reading takes, are together of bulk at most 1048576: NARROWER than '..Said'. Prove '..Said' where nothing that the law and all that it calls make is longer than what came in: it says more and counts as full. Else prove '..UptoSaid'. A law counts once. -/
mutual
def uptoBulk {H : Type} : DataW H → Nat
  | .lit (.string bytes) => bytes.length + 1
  | .lit _ => 1
  | .nil => 1
  | .ptr d => uptoBulk d + 1
  | .slice elems spare => uptoBulkAll elems + uptoBulkAll spare + 1
  | .agg parts => uptoBulkAll parts + 1
  | .iface _ d => uptoBulk d + 1
  | .map entries => uptoBulkEntries entries + 1
  | .held _ => 1
def uptoBulkAll {H : Type} : List (DataW H) → Nat
  | [] => 0
  | d :: r => uptoBulk d + uptoBulkAll r
def uptoBulkEntries {H : Type} : List (Lit × DataW H) → Nat
  | [] => 0
  | x :: r => uptoBulkEntry x + uptoBulkEntries r
def uptoBulkEntry {H : Type} : Lit × DataW H → Nat
  | (.string bytes, d) => bytes.length + uptoBulk d + 1
  | (_, d) => uptoBulk d + 1
 end
def uptoSmall : (H : Type) → List (DataW H) → Bool := fun _ ds => decide (uptoBulkAll ds ≤ 1048576)
def OpenSpec.upto (s : _root_.Go.ChangeSpec) : _root_.Go.OpenSpec := { _root_.Go.OpenSpec.ofChange s with cond := some uptoSmall }

/-- 'bailiwicklaw18.BagRight', WHERE WHAT IT READS IS OF BULK AT MOST 1048576: true; the input reads as it did. -/
def bagRightUptoRow : OpenClaim := { program := "ytmalnbmneloogaa", sum := "14d1a0157146f53b92f5a191f0631640897e61165a64f4e77acdd314e10d7b81", func := "bailiwick/bailiwicklaw18.BagRight", spec := "bagRight", unfollowed := true, recurses := true, apart := false, narrowed := true }
def BagRightUptoSaid : Prop := bagRightUptoRow.holds Try.pinned (OpenSpec.upto bagRightSpec)

/-- 'bailiwicklaw18.BagKeeps', WHERE WHAT IT READS IS OF BULK AT MOST 1048576: true; the input reads as it did. -/
def bagKeepsUptoRow : OpenClaim := { program := "ytmalnbmneloogaa", sum := "14d1a0157146f53b92f5a191f0631640897e61165a64f4e77acdd314e10d7b81", func := "bailiwick/bailiwicklaw18.BagKeeps", spec := "bagKeeps", unfollowed := true, recurses := true, apart := false, narrowed := true }
def BagKeepsUptoSaid : Prop := bagKeepsUptoRow.holds Try.pinned (OpenSpec.upto bagKeepsSpec)

/-- 'bailiwicklaw18.BagEnds', WHERE WHAT IT READS IS OF BULK AT MOST 1048576: true; the input reads as it did. -/
def bagEndsUptoRow : OpenClaim := { program := "ytmalnbmneloogaa", sum := "14d1a0157146f53b92f5a191f0631640897e61165a64f4e77acdd314e10d7b81", func := "bailiwick/bailiwicklaw18.BagEnds", spec := "bagEnds", unfollowed := true, recurses := true, apart := false, narrowed := true }
def BagEndsUptoSaid : Prop := bagEndsUptoRow.holds Try.pinned (OpenSpec.upto bagEndsSpec)

/-- 'bailiwicklaw17.PipeRight', WHERE WHAT IT READS IS OF BULK AT MOST 1048576: true; the input reads as it did. -/
def pipeRightUptoRow : OpenClaim := { program := "ytmalnbmneloogaa", sum := "14d1a0157146f53b92f5a191f0631640897e61165a64f4e77acdd314e10d7b81", func := "bailiwick/bailiwicklaw17.PipeRight", spec := "pipeRight", unfollowed := true, recurses := true, apart := false, narrowed := true }
def PipeRightUptoSaid : Prop := pipeRightUptoRow.holds Try.pinned (OpenSpec.upto pipeRightSpec)

/-- 'bailiwicklaw17.PipeOnce', WHERE WHAT IT READS IS OF BULK AT MOST 1048576: true; the input reads as it did. -/
def pipeOnceUptoRow : OpenClaim := { program := "ytmalnbmneloogaa", sum := "14d1a0157146f53b92f5a191f0631640897e61165a64f4e77acdd314e10d7b81", func := "bailiwick/bailiwicklaw17.PipeOnce", spec := "pipeOnce", unfollowed := true, recurses := true, apart := false, narrowed := true }
def PipeOnceUptoSaid : Prop := pipeOnceUptoRow.holds Try.pinned (OpenSpec.upto pipeOnceSpec)

/-- 'bailiwicklaw17.PipeEpochs', WHERE WHAT IT READS IS OF BULK AT MOST 1048576: true; the input reads as it did. -/
def pipeEpochsUptoRow : OpenClaim := { program := "ytmalnbmneloogaa", sum := "14d1a0157146f53b92f5a191f0631640897e61165a64f4e77acdd314e10d7b81", func := "bailiwick/bailiwicklaw17.PipeEpochs", spec := "pipeEpochs", unfollowed := true, recurses := true, apart := false, narrowed := true }
def PipeEpochsUptoSaid : Prop := pipeEpochsUptoRow.holds Try.pinned (OpenSpec.upto pipeEpochsSpec)

/-- 'bailiwicklaw17.PipeFull', WHERE WHAT IT READS IS OF BULK AT MOST 1048576: true; the input reads as it did. -/
def pipeFullUptoRow : OpenClaim := { program := "ytmalnbmneloogaa", sum := "14d1a0157146f53b92f5a191f0631640897e61165a64f4e77acdd314e10d7b81", func := "bailiwick/bailiwicklaw17.PipeFull", spec := "pipeFull", unfollowed := true, recurses := true, apart := false, narrowed := true }
def PipeFullUptoSaid : Prop := pipeFullUptoRow.holds Try.pinned (OpenSpec.upto pipeFullSpec)

end Rows
end Go.Proofs.Ytmalnbmneloogaa
