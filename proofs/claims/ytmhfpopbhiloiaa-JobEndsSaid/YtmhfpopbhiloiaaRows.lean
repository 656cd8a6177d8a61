/-
  No cell of these rows narrows 'for every input' (looked for: loops, veiled, ifaces, maps, wideKeys, modest, calm, conditions, laid).
  DERIVED. THE GIVEN ROWS OF THIS SEAT. 7 by the template 'for every input the law returns true; each argument reads behind the call as it read before'; 0 by the template 'total and deterministic' (their statements: YtmhfpopbhiloiaaTotals.lean).
  GIVEN WITH THE SEED: the statements are not yours to turn. If you find one false, say at which input.
  Laid BY PROGRAM, IN A SANDBOX (cutbox-rows.mjs): the forced cells as the released guide's own fill.sh prints them over the translation ebf7a40764200b81… (all of the seat's roots in one cut). By AI agents, Wed Nov 11 2026. No macro, syntax, notation, axiom, sorry.
-/
import Derived.Test.YtmhfpopbhiloiaaChecked
import GoSem.Claim
import GoSem.ClaimJoined
import GoSem.ClaimMapViews
import Derived.JoinedTies
import Derived.KernelRfl
namespace Go.Proofs.Ytmhfpopbhiloiaa
/- THE CELL 'sum', in the pinned program and in every row, IS THE sha256 OF THE DUMP (.gsa) THAT YtmhfpopbhiloiaaProg.lean LOADS. Nothing in Lean hashes anything: it is a label: what it is worth is what the hold of that sum in a sandbox is worth. -/
noncomputable def Try.pinned : Pinned := { name := "ytmhfpopbhiloiaa", sum := "ebf7a40764200b81bf6c967513ed335af9cbaba65f37b40a82c0d9218a6cf15b", checked := Try.checked }
namespace Rows
def none {H : Type} : Left H := { results := [], args := [] }

/-- 'bailiwicklaw07.SpecRight': WHATEVER THE INPUT: true; the input reads as it did. -/
def specRightSpec : ChangeSpec := { name := "specRight", fn := fun _ => fun
  | [d1, d2, d3, d4] => { results := [.lit (.bool true)], args := [d1, d2, d3, d4] }
  | _ => none }
def specRightRow : OpenClaim := { program := "ytmhfpopbhiloiaa", sum := "ebf7a40764200b81bf6c967513ed335af9cbaba65f37b40a82c0d9218a6cf15b", func := "bailiwick/bailiwicklaw07.SpecRight", spec := "specRight", inPlace := ["internal/bytealg.IndexByteString", "internal/bytealg.IndexString"], unfollowed := true, recurses := true, named := ["internal/bytealg.MaxLen"], apart := false }
def SpecRightSaid : Prop := specRightRow.holds Try.pinned (OpenSpec.ofChange specRightSpec)

/-- ITS FALSE NEIGHBOUR: 'it returns false'. Refute it at one input. -/
def specRightWrong : ChangeSpec := { name := "specRight", fn := fun _ => fun
  | [d1, d2, d3, d4] => { results := [.lit (.bool false)], args := [d1, d2, d3, d4] }
  | _ => none }
def SpecRightWrongFalsely : Prop := specRightRow.holds Try.pinned (OpenSpec.ofChange specRightWrong)

/-- 'bailiwicklaw07.SpecNormal': WHATEVER THE INPUT: true; the input reads as it did. -/
def specNormalSpec : ChangeSpec := { name := "specNormal", fn := fun _ => fun
  | [d1, d2, d3] => { results := [.lit (.bool true)], args := [d1, d2, d3] }
  | _ => none }
def specNormalRow : OpenClaim := { program := "ytmhfpopbhiloiaa", sum := "ebf7a40764200b81bf6c967513ed335af9cbaba65f37b40a82c0d9218a6cf15b", func := "bailiwick/bailiwicklaw07.SpecNormal", spec := "specNormal", inPlace := ["internal/bytealg.IndexByteString", "internal/bytealg.IndexString"], unfollowed := true, recurses := true, named := ["internal/bytealg.MaxLen"], apart := false }
def SpecNormalSaid : Prop := specNormalRow.holds Try.pinned (OpenSpec.ofChange specNormalSpec)

/-- ITS FALSE NEIGHBOUR: 'it returns false'. Refute it at one input. -/
def specNormalWrong : ChangeSpec := { name := "specNormal", fn := fun _ => fun
  | [d1, d2, d3] => { results := [.lit (.bool false)], args := [d1, d2, d3] }
  | _ => none }
def SpecNormalWrongFalsely : Prop := specNormalRow.holds Try.pinned (OpenSpec.ofChange specNormalWrong)

/-- 'bailiwicklaw07.SpecParts': WHATEVER THE INPUT: true; the input reads as it did. -/
def specPartsSpec : ChangeSpec := { name := "specParts", fn := fun _ => fun
  | [d1, d2, d3] => { results := [.lit (.bool true)], args := [d1, d2, d3] }
  | _ => none }
def specPartsRow : OpenClaim := { program := "ytmhfpopbhiloiaa", sum := "ebf7a40764200b81bf6c967513ed335af9cbaba65f37b40a82c0d9218a6cf15b", func := "bailiwick/bailiwicklaw07.SpecParts", spec := "specParts", inPlace := ["internal/bytealg.IndexByteString", "internal/bytealg.IndexString"], unfollowed := true, recurses := true, named := ["internal/bytealg.MaxLen"], apart := false }
def SpecPartsSaid : Prop := specPartsRow.holds Try.pinned (OpenSpec.ofChange specPartsSpec)

/-- ITS FALSE NEIGHBOUR: 'it returns false'. Refute it at one input. -/
def specPartsWrong : ChangeSpec := { name := "specParts", fn := fun _ => fun
  | [d1, d2, d3] => { results := [.lit (.bool false)], args := [d1, d2, d3] }
  | _ => none }
def SpecPartsWrongFalsely : Prop := specPartsRow.holds Try.pinned (OpenSpec.ofChange specPartsWrong)

/-- 'bailiwicklaw07.SpecEnds': WHATEVER THE INPUT: true; the input reads as it did. -/
def specEndsSpec : ChangeSpec := { name := "specEnds", fn := fun _ => fun
  | [d1, d2, d3] => { results := [.lit (.bool true)], args := [d1, d2, d3] }
  | _ => none }
def specEndsRow : OpenClaim := { program := "ytmhfpopbhiloiaa", sum := "ebf7a40764200b81bf6c967513ed335af9cbaba65f37b40a82c0d9218a6cf15b", func := "bailiwick/bailiwicklaw07.SpecEnds", spec := "specEnds", inPlace := ["internal/bytealg.IndexByteString", "internal/bytealg.IndexString"], unfollowed := true, recurses := true, named := ["internal/bytealg.MaxLen"], apart := false }
def SpecEndsSaid : Prop := specEndsRow.holds Try.pinned (OpenSpec.ofChange specEndsSpec)

/-- ITS FALSE NEIGHBOUR: 'it returns false'. Refute it at one input. -/
def specEndsWrong : ChangeSpec := { name := "specEnds", fn := fun _ => fun
  | [d1, d2, d3] => { results := [.lit (.bool false)], args := [d1, d2, d3] }
  | _ => none }
def SpecEndsWrongFalsely : Prop := specEndsRow.holds Try.pinned (OpenSpec.ofChange specEndsWrong)

/-- 'bailiwicklaw11.JobRight': WHATEVER THE INPUT: true; the input reads as it did. -/
def jobRightSpec : ChangeSpec := { name := "jobRight", fn := fun _ => fun
  | [d1, d2, d3, d4] => { results := [.lit (.bool true)], args := [d1, d2, d3, d4] }
  | _ => none }
def jobRightRow : OpenClaim := { program := "ytmhfpopbhiloiaa", sum := "ebf7a40764200b81bf6c967513ed335af9cbaba65f37b40a82c0d9218a6cf15b", func := "bailiwick/bailiwicklaw11.JobRight", spec := "jobRight", inPlace := ["internal/bytealg.IndexByteString", "internal/bytealg.IndexString"], unfollowed := true, recurses := true, named := ["internal/bytealg.MaxLen"], apart := false }
def JobRightSaid : Prop := jobRightRow.holds Try.pinned (OpenSpec.ofChange jobRightSpec)

/-- ITS FALSE NEIGHBOUR: 'it returns false'. Refute it at one input. -/
def jobRightWrong : ChangeSpec := { name := "jobRight", fn := fun _ => fun
  | [d1, d2, d3, d4] => { results := [.lit (.bool false)], args := [d1, d2, d3, d4] }
  | _ => none }
def JobRightWrongFalsely : Prop := jobRightRow.holds Try.pinned (OpenSpec.ofChange jobRightWrong)

/-- 'bailiwicklaw11.JobEnds': WHATEVER THE INPUT: true; the input reads as it did. -/
def jobEndsSpec : ChangeSpec := { name := "jobEnds", fn := fun _ => fun
  | [d1, d2, d3, d4] => { results := [.lit (.bool true)], args := [d1, d2, d3, d4] }
  | _ => none }
def jobEndsRow : OpenClaim := { program := "ytmhfpopbhiloiaa", sum := "ebf7a40764200b81bf6c967513ed335af9cbaba65f37b40a82c0d9218a6cf15b", func := "bailiwick/bailiwicklaw11.JobEnds", spec := "jobEnds", inPlace := ["internal/bytealg.IndexByteString", "internal/bytealg.IndexString"], unfollowed := true, recurses := true, named := ["internal/bytealg.MaxLen"], apart := false }
def JobEndsSaid : Prop := jobEndsRow.holds Try.pinned (OpenSpec.ofChange jobEndsSpec)

/-- ITS FALSE NEIGHBOUR: 'it returns false'. Refute it at one input. -/
def jobEndsWrong : ChangeSpec := { name := "jobEnds", fn := fun _ => fun
  | [d1, d2, d3, d4] => { results := [.lit (.bool false)], args := [d1, d2, d3, d4] }
  | _ => none }
def JobEndsWrongFalsely : Prop := jobEndsRow.holds Try.pinned (OpenSpec.ofChange jobEndsWrong)

/-- 'bailiwicklaw11.JobFree': WHATEVER THE INPUT: true; the input reads as it did. -/
def jobFreeSpec : ChangeSpec := { name := "jobFree", fn := fun _ => fun
  | [d1, d2, d3, d4] => { results := [.lit (.bool true)], args := [d1, d2, d3, d4] }
  | _ => none }
def jobFreeRow : OpenClaim := { program := "ytmhfpopbhiloiaa", sum := "ebf7a40764200b81bf6c967513ed335af9cbaba65f37b40a82c0d9218a6cf15b", func := "bailiwick/bailiwicklaw11.JobFree", spec := "jobFree", inPlace := ["internal/bytealg.IndexByteString", "internal/bytealg.IndexString"], unfollowed := true, recurses := true, named := ["internal/bytealg.MaxLen"], apart := false }
def JobFreeSaid : Prop := jobFreeRow.holds Try.pinned (OpenSpec.ofChange jobFreeSpec)

/-- ITS FALSE NEIGHBOUR: 'it returns false'. Refute it at one input. -/
def jobFreeWrong : ChangeSpec := { name := "jobFree", fn := fun _ => fun
  | [d1, d2, d3, d4] => { results := [.lit (.bool false)], args := [d1, d2, d3, d4] }
  | _ => none }
def JobFreeWrongFalsely : Prop := jobFreeRow.holds Try.pinned (OpenSpec.ofChange jobFreeWrong)

/- THE SECOND FORM. 'bulk': how many values and letters a reading holds, each counted each time it is reached (what is shared counts as often as it is met; a slice's spare places count too). A statement '..UptoSaid' is the law's where the arguments, and the package variables that the reading takes, are together of bulk at most 1048576: NARROWER than '..Said'. Prove '..Said' where nothing that the law and all that it calls make is longer than what came in: it says more and counts as full. Else prove '..UptoSaid'. A law counts once. -/
mutual
def uptoBulk {H : Type} : DataW H → Nat
  | .lit (.string bytes) => bytes.length + 1
  | .lit _ => 1
  | .nil => 1
  | .ptr d => uptoBulk d + 1
  | .slice elems spare => uptoBulkAll elems + uptoBulkAll spare + 1
  | .agg parts => uptoBulkAll parts + 1
  | .iface _ d => uptoBulk d + 1
  | .map entries => uptoBulkEntries entries + 1
  | .held _ => 1
def uptoBulkAll {H : Type} : List (DataW H) → Nat
  | [] => 0
  | d :: r => uptoBulk d + uptoBulkAll r
def uptoBulkEntries {H : Type} : List (Lit × DataW H) → Nat
  | [] => 0
  | x :: r => uptoBulkEntry x + uptoBulkEntries r
def uptoBulkEntry {H : Type} : Lit × DataW H → Nat
  | (.string bytes, d) => bytes.length + uptoBulk d + 1
  | (_, d) => uptoBulk d + 1
 end
def uptoSmall : (H : Type) → List (DataW H) → Bool := fun _ ds => decide (uptoBulkAll ds ≤ 1048576)
def OpenSpec.upto (s : _root_.Go.ChangeSpec) : _root_.Go.OpenSpec := { _root_.Go.OpenSpec.ofChange s with cond := some uptoSmall }

/-- 'bailiwicklaw07.SpecRight', WHERE WHAT IT READS IS OF BULK AT MOST 1048576: true; the input reads as it did. -/
def specRightUptoRow : OpenClaim := { program := "ytmhfpopbhiloiaa", sum := "ebf7a40764200b81bf6c967513ed335af9cbaba65f37b40a82c0d9218a6cf15b", func := "bailiwick/bailiwicklaw07.SpecRight", spec := "specRight", inPlace := ["internal/bytealg.IndexByteString", "internal/bytealg.IndexString"], unfollowed := true, recurses := true, named := ["internal/bytealg.MaxLen"], apart := false, narrowed := true }
def SpecRightUptoSaid : Prop := specRightUptoRow.holds Try.pinned (OpenSpec.upto specRightSpec)

/-- 'bailiwicklaw07.SpecNormal', WHERE WHAT IT READS IS OF BULK AT MOST 1048576: true; the input reads as it did. -/
def specNormalUptoRow : OpenClaim := { program := "ytmhfpopbhiloiaa", sum := "ebf7a40764200b81bf6c967513ed335af9cbaba65f37b40a82c0d9218a6cf15b", func := "bailiwick/bailiwicklaw07.SpecNormal", spec := "specNormal", inPlace := ["internal/bytealg.IndexByteString", "internal/bytealg.IndexString"], unfollowed := true, recurses := true, named := ["internal/bytealg.MaxLen"], apart := false, narrowed := true }
def SpecNormalUptoSaid : Prop := specNormalUptoRow.holds Try.pinned (OpenSpec.upto specNormalSpec)

/-- 'bailiwicklaw07.SpecParts', WHERE WHAT IT READS IS OF BULK AT MOST 1048576: true; the input reads as it did. -/
def specPartsUptoRow : OpenClaim := { program := "ytmhfpopbhiloiaa", sum := "ebf7a40764200b81bf6c967513ed335af9cbaba65f37b40a82c0d9218a6cf15b", func := "bailiwick/bailiwicklaw07.SpecParts", spec := "specParts", inPlace := ["internal/bytealg.IndexByteString", "internal/bytealg.IndexString"], unfollowed := true, recurses := true, named := ["internal/bytealg.MaxLen"], apart := false, narrowed := true }
def SpecPartsUptoSaid : Prop := specPartsUptoRow.holds Try.pinned (OpenSpec.upto specPartsSpec)

/-- 'bailiwicklaw07.SpecEnds', WHERE WHAT IT READS IS OF BULK AT MOST 1048576: true; the input reads as it did. -/
def specEndsUptoRow : OpenClaim := { program := "ytmhfpopbhiloiaa", sum := "ebf7a40764200b81bf6c967513ed335af9cbaba65f37b40a82c0d9218a6cf15b", func := "bailiwick/bailiwicklaw07.SpecEnds", spec := "specEnds", inPlace := ["internal/bytealg.IndexByteString", "internal/bytealg.IndexString"], unfollowed := true, recurses := true, named := ["internal/bytealg.MaxLen"], apart := false, narrowed := true }
def SpecEndsUptoSaid : Prop := specEndsUptoRow.holds Try.pinned (OpenSpec.upto specEndsSpec)

/-- 'bailiwicklaw11.JobRight', WHERE WHAT IT READS IS OF BULK AT MOST 1048576: true; the input reads as it did. -/
def jobRightUptoRow : OpenClaim := { program := "ytmhfpopbhiloiaa", sum := "ebf7a40764200b81bf6c967513ed335af9cbaba65f37b40a82c0d9218a6cf15b", func := "bailiwick/bailiwicklaw11.JobRight", spec := "jobRight", inPlace := ["internal/bytealg.IndexByteString", "internal/bytealg.IndexString"], unfollowed := true, recurses := true, named := ["internal/bytealg.MaxLen"], apart := false, narrowed := true }
def JobRightUptoSaid : Prop := jobRightUptoRow.holds Try.pinned (OpenSpec.upto jobRightSpec)

/-- 'bailiwicklaw11.JobEnds', WHERE WHAT IT READS IS OF BULK AT MOST 1048576: true; the input reads as it did. -/
def jobEndsUptoRow : OpenClaim := { program := "ytmhfpopbhiloiaa", sum := "ebf7a40764200b81bf6c967513ed335af9cbaba65f37b40a82c0d9218a6cf15b", func := "bailiwick/bailiwicklaw11.JobEnds", spec := "jobEnds", inPlace := ["internal/bytealg.IndexByteString", "internal/bytealg.IndexString"], unfollowed := true, recurses := true, named := ["internal/bytealg.MaxLen"], apart := false, narrowed := true }
def JobEndsUptoSaid : Prop := jobEndsUptoRow.holds Try.pinned (OpenSpec.upto jobEndsSpec)

/-- 'bailiwicklaw11.JobFree', WHERE WHAT IT READS IS OF BULK AT MOST 1048576: true; the input reads as it did. -/
def jobFreeUptoRow : OpenClaim := { program := "ytmhfpopbhiloiaa", sum := "ebf7a40764200b81bf6c967513ed335af9cbaba65f37b40a82c0d9218a6cf15b", func := "bailiwick/bailiwicklaw11.JobFree", spec := "jobFree", inPlace := ["internal/bytealg.IndexByteString", "internal/bytealg.IndexString"], unfollowed := true, recurses := true, named := ["internal/bytealg.MaxLen"], apart := false, narrowed := true }
def JobFreeUptoSaid : Prop := jobFreeUptoRow.holds Try.pinned (OpenSpec.upto jobFreeSpec)

end Rows
end Go.Proofs.Ytmhfpopbhiloiaa
