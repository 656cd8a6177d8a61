/-
  The law CodeBack holds for every input: the walk of bailiwicklaw08.CodeBack ends in true, and what was there before the call stays as it was. No conditions.
-/
import Derived.Test.YtljahedgdjnohaaCodeP6
import Derived.Test.YtljahedgdjnohaaCodeP2
import Derived.Test.YtljahedgdjnohaaRows
namespace Go.Proofs.Ytljahedgdjnohaa.codeBack
open Go.Av
open Go.ChangeShapes Go.WideShapes Go.ChangeAt Go.RowKit
open Go.ChangeMaps (open_string shut_string)
set_option linter.unusedVariables false
theorem own : ownKnob Try.prog.godebug = none := by kernel_rfl
theorem laidOut : laidOutB Try.prog = true := by kernel_rfl
set_option maxRecDepth 100000 in
theorem lifted (os : Os) (started : os.Started) (H : Type) (enc : TypeId × Value → H) :
    ReturnsInHanded {} Try.checked os 5 .any (Rows.codeBackSpec.pre6 enc Try.prog Try.f5 Rows.codeBackRow.domain false) (Rows.codeBackSpec.post enc Try.prog Try.f5 false true false false) := by
  refine returnsInHanded_of_change_sized (C := Try.checked) own started (by kernel_rfl) Try.func5
    (ChangeSpec.witness6 (enc := enc) (C := Try.checked) false ⟨#[], #[.agg #[.int .i64 0, .int .i64 0, .int .i64 0, .string ByteArray.empty, .bool false, .int .i64 0, .int .i64 0], .slice none 0 0], []⟩ 8 (by kernel_rfl) (by kernel_rfl) (by kernel_rfl) (by kernel_rfl)) ?_
  intro W base args ds gs before hval0 hW hcnd hsz0 _
  have hval : ∀ (j : Nat) t v, Try.f5.params[j]? = some t → args[j]? = some v → Value.okWide Try.prog W .any base t v := hval0
  have hW2 := hW
  obtain ⟨p, q, hA0, hV, rfl, hfz, hnd⟩ := hW
  have hA : DataW.TrodAll enc Try.prog W 0 (fun _ => true) true Try.f5.params.toList args.toList ds p := hA0
  rw [Try.params5] at hA hval
  obtain ⟨v0, vs0, d0, ds0, p0, q0, hargs, rfl, rfl, h0, r0⟩ := trodAll_cons hA
  obtain ⟨v1, vs1, d1, ds1, p1, q1, rfl, rfl, rfl, h1, r1⟩ := trodAll_cons r0
  obtain ⟨rfl, rfl, rfl⟩ := trodAll_nil r1
  obtain rfl : args = #[v0, v1] := by cases args; simp_all
  obtain ⟨rfl, rfl⟩ := trodVars_none hV
  have lt0 : ∀ x ∈ p0, x.block < W.heap.size := by obtain ⟨m, hm⟩ := h0; exact DataW.trod_lt m _ _ _ hm
  obtain ⟨a0, o0, w0⟩ := arg_agg (n := 4) (t := 23) (ts := [3, 3, 3, 9, 4, 2, 3]) (by kernel_rfl) (by kernel_rfl) (.inl ⟨_, Try.underlying22⟩) (hval 0 23 v0 rfl rfl) h0
  obtain ⟨s, rfl, s_w⟩ := spec_dec o0
  have lt1 : ∀ x ∈ p1, x.block < W.heap.size := by obtain ⟨m, hm⟩ := h1; exact DataW.trod_lt m _ _ _ hm
  obtain ⟨a1, o1, w1⟩ := arg_leaf (n := 4) (t := 24) (by kernel_rfl) (hval 1 24 v1 rfl rfl) h1
  obtain ⟨l, rfl⟩ := ints_dec o1
  clear hA0 hval0 hsz0
  refine (ac_row (law08_CodeBack s l []) (.cons w0 (.cons w1 .nil))).mono fun e W2 ⟨he, bel⟩ => ?_
  subst he
  exact ⟨_, rfl, _, _, _, [], _, [], hW2, trodAll_mk1 (shut_bool (UdI.ud (P := Try.prog) (t := 4)) _), (trodAll_cons_mk (Below.trod laidOut (by kernel_rfl) (of_decide_eq_true (by kernel_rfl)) h0 bel lt0) (trodAll_cons_mk (Below.trod laidOut (by kernel_rfl) (of_decide_eq_true (by kernel_rfl)) h1 bel lt1) trodAll_mk0)), rfl, bel.frame _, fun h => by cases h⟩
theorem over : Rows.codeBackRow.holds Try.pinned (OpenSpec.ofChange Rows.codeBackSpec) :=
  OpenClaim.holds_of_wide 5 Try.f5 rfl rfl rfl rfl rfl rfl rfl ⟨rfl, rfl, rfl, rfl, rfl⟩ rfl rfl rfl rfl rfl (by kernel_rfl) Try.func5 (by kernel_rfl)
    (of_decide_eq_true (by kernel_rfl)) (by unfold Func.isWrapper; first | (rw [if_pos (by decide +kernel)]; kernel_rfl) | (rw [if_neg (by decide +kernel)]; exact ⟨rfl, rfl⟩))
    (fun os started H enc _ => lifted os started H enc)
end Go.Proofs.Ytljahedgdjnohaa.codeBack
namespace Go.Proofs.Ytljahedgdjnohaa
/-- The row. -/
theorem codeBack_holds : Rows.CodeBackSaid := codeBack.over
end Go.Proofs.Ytljahedgdjnohaa
