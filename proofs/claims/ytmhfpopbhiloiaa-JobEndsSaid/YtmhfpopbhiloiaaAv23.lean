/-
  TWO STRUCTS OF PLAIN CELLS ARE COMPARED.
-/
import Derived.Test.YtmhfpopbhiloiaaAv21
import Derived.Laws.StructEq
namespace Go.Av
def flatv : AV → Option Value
  | .int k n => some (.int k n)
  | .bool b => some (.bool b)
  | .str s => some (.string s)
  | _ => none
theorem VR.flat_eq {O : Nat → Prop} {w : World} {S : List Slot} {v : AV} {u u' : Value} (h : VR O w S v u) (hf : flatv v = some u') : u = u' := by
  cases h <;> simp [flatv] at hf <;> exact hf
theorem VR.agg_flat {O : Nat → Prop} {w : World} {S : List Slot} {cs : List AV} {us : List Value} {u : Value} (h : VR O w S (.agg cs) u) (hf : cs.map flatv = us.map some) : u = .agg us.toArray := by
  cases h with
  | @agg _ _ vs hn hl h =>
    congr 1
    have hlen : cs.length = us.length := by simpa using congrArg List.length hf
    apply Array.ext
    · simp; omega
    · intro j h1 h2
      have hj : j < cs.length := by omega
      have hju : j < us.length := by omega
      have e : flatv cs[j] = some us[j] := by
        have := congrArg (·[j]?) hf
        simpa [hj, hju] using this
      have := (h j cs[j] vs[j] (List.getElem?_eq_getElem hj) (Array.getElem?_eq_getElem h1)).flat_eq e
      simpa using this
section
variable {P : Program} {N : Nat} {env : Env} {H : Heap} {ty : TypeId}
theorem o_eqAgg {t t' : TypeId} {x y : Operand} {cs ds : List AV} {us vs : List Value} {b : Bool} (hx : aev env x = .agg cs) (hy : aev env y = .agg ds) (hu : cs.map flatv = us.map some) (hv : ds.map flatv = vs.map some)
    (hm : P.eqGuardType P.depth t = false) (hb : ∀ w, (Op.equalIn 10000 t (.agg us.toArray) (.agg vs.toArray)).run P w = .ok b w) : V1 P N (.binOp .eql t x y t') ty env H (.bool b) := by
  intro S a w hc
  have h1 := hc.ev x
  have h2 := hc.ev y
  rw [hx] at h1
  rw [hy] at h2
  have e1 := h1.agg_flat hu
  have e2 := h2.agg_flat hv
  refine ⟨.bool b, fun _ _ _ _ => ?_, .bool⟩
  simp only [execOp, e1, e2, Sem.run_bind, run_eqGuard_agg w .eql t x y _ _ hm, Result.andThen_ok, run_eql_struct, hb w, Sem.run_pure]
theorem o_neAgg {t t' : TypeId} {x y : Operand} {cs ds : List AV} {us vs : List Value} {b : Bool} (hx : aev env x = .agg cs) (hy : aev env y = .agg ds) (hu : cs.map flatv = us.map some) (hv : ds.map flatv = vs.map some)
    (hm : P.eqGuardType P.depth t = false) (hb : ∀ w, (Op.equalIn 10000 t (.agg us.toArray) (.agg vs.toArray)).run P w = .ok b w) : V1 P N (.binOp .neq t x y t') ty env H (.bool (!b)) := by
  intro S a w hc
  have h1 := hc.ev x
  have h2 := hc.ev y
  rw [hx] at h1
  rw [hy] at h2
  have e1 := h1.agg_flat hu
  have e2 := h2.agg_flat hv
  refine ⟨.bool (!b), fun _ _ _ _ => ?_, .bool⟩
  simp only [execOp, e1, e2, Sem.run_bind, run_eqGuard_agg w .neq t x y _ _ hm, Result.andThen_ok, run_neq_struct, hb w, Sem.run_pure]
end
end Go.Av
