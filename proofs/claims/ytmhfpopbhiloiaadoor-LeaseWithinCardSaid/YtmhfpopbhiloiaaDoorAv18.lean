/-
  AN APPEND TO NOTHING THAT NOBODY WRITES BEHIND IT IS A LIST.
-/
import Derived.Test.YtmhfpopbhiloiaaDoorAv17
namespace Go.Av
section
variable {P : Program} {N : Nat} {B : Base} {env : Env} {H H0 L : Heap} {op : Op} {ty : TypeId}
theorem g_append_new {t t' e : TypeId} {x y : Operand} {sz bytes : Nat} {agg : Bool} {zs : List AV} {ys : List (List AV)} [hu : SlI P t e] [NiI P t'] [TyI P e agg sz] [hz : ZcI P e zs] [ByI P e bytes]
    (hx : aev env x = .nsl) (hy : Src P N env H y sz ys) (hn : zs.length = sz) (hp : 0 < sz) (h63 : ys.length ≤ 9223372036854775807) (hb : ys.length * bytes ≤ 140737488355328) (hbel : ∀ r ∈ ys, AV.bels 0 r = true) :
    V2 P N (.call { callee := .builtin .append, args := #[x, y], argTypes := #[t, t'] }) ty env H (.pl ys) H := by
  have h1 := g_append_nsl (P := P) (N := N) (ty := ty) (t := t) (t' := t') (e := e) (agg := agg) (zs := zs) (bytes := bytes) (H0 := H) (L := []) (k := 0) hx (by rw [List.append_nil]; exact hy) hn hp h63 hb rfl
  have h2 := V2.freezeL (o := ⟨0, sz, ys⟩) (k := 0) h1 rfl rfl rfl hbel
  rw [List.append_nil] at h2
  exact h2
/-- A whole row is written anew. -/
theorem w_storeW {t : TypeId} {x y : Operand} {n k g i sz : Nat} {agg : Bool} {o : AObj} {r cs : List AV} [TyI P t agg sz] (hx : aev env x = .pt (Lid n k) g i 0) (hn : H0.length = n) (hk : L[k]? = some o) (hg : o.gen = g) (hr : o.rows[i]? = some r)
    (hy : aev env y = .agg cs) (hl : cs.length = sz) (hrl : r.length = sz) (hj : sz ≤ o.sz) :
    V2 P N (.store t x y) ty env (H0 ++ L) .junk (H0 ++ L.set k { o with rows := o.rows.set i cs }) :=
  w_storeP (v := .agg cs) (r' := cs) (agg := agg) hx hn hk hg hr hy rfl hl (by omega) (by
    show r.take 0 ++ cs ++ r.drop (0 + sz) = cs
    rw [List.take_zero, List.nil_append, Nat.zero_add, List.drop_of_length_le (by omega), List.append_nil])
end
end Go.Av
