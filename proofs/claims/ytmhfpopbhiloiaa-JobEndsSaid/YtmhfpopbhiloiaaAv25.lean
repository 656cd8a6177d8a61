/-
  AN ELEMENT OF AN ARRAY OF ARRAYS.
-/
import Derived.Test.YtmhfpopbhiloiaaAv23
namespace Go.Av
theorem o_indexN {P : Program} {N : Nat} {env : Env} {H : Heap} {ty : TypeId} {t e : TypeId} {x y : Operand} {m sz : Nat} {k : IntKind} {n : Int} {cs ds : List AV} [hs : ArI P t m e] [TyI P e true sz] (hx : aev env x = .agg cs) (hy : aev env y = .int k n) (h0 : 0 ≤ n) (h1 : n < m) (hd : (cs.drop (n.toNat * sz)).take sz = ds) (hle : ds.length = sz) : V1 P N (.index t x y) ty env H (.agg ds) := by
  intro S a w hc
  obtain ⟨vs, he, hn, hl, h⟩ := ev_agg hc hx
  exact ⟨.agg (vs.extract (n.toNat * sz) (n.toNat * sz + sz)), fun _ _ _ _ => by
    simp [execOp, he, ev_int hc hy, Instr.index, asIntOf, run_und hs.ud, h0, h1, run_sz (P := P) (t := e) (agg := true) (sz := sz), run_partN (P := P) (t := e)], part_agg hn hl h hd hle⟩
end Go.Av
