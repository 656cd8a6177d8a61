/-
  A PACKAGE's TABLE THAT NOBODY WRITES: what it holds is known of every world that the call comes to ('know', kept in the environment under a number that no slot has).
-/
import Derived.Test.YtmhfpopbhiloiaaDoorAv21
import Derived.Test.YtmhfpopbhiloiaaDoorAv17
namespace Go.Av
structure Know where
  g : Nat
  tab : List Value
def Kn (K : Know) (S : List Slot) (w : World) : Prop := ¬ own S K.g ∧ K.g < w.heap.size ∧ ∀ j v, K.tab[j]? = some v → w.cell? ⟨K.g, j, none⟩ = some v
abbrev Know.av (K : Know) : AV := .know K.g K.tab
theorem VR.kn {S : List Slot} {w : World} {K : Know} {u : Value} (h : VR (own S) w S K.av u) : Kn K S w := by
  cases h with
  | know ho hg h => exact ⟨ho, hg, h⟩
theorem Kn.vr {S : List Slot} {w : World} {K : Know} {u : Value} (h : Kn K S w) : VR (own S) w S K.av u := .know h.1 h.2.1 h.2.2

/-- A contract in a world whose table is known. -/
def ACT (P : Program) (K : Know) (f : FuncId) (args : List AV) (H : Heap) (R : AOut → Heap → Prop) : Prop :=
  ∀ S w cargs, Kn K S w → HRel H S w → VRs (own S) w S args cargs →
    Calls P f cargs w fun e w' => ∃ o H' S', R o H' ∧ OutR (own S') w' S' o e ∧ HRel H' S' w' ∧ Ext S w S' w'
theorem AC.toT {P : Program} {K : Know} {f : FuncId} {args : List AV} {H : Heap} {R : AOut → Heap → Prop} (h : AC P f args H R) : ACT P K f args H R := fun S w cargs _ => h S w cargs

section
variable {P : Program} {N : Nat} {B : Base} {env : Env} {H H0 L : Heap} {ty : TypeId}
theorem V2.callT {K : Know} {f : Nat} {xs : Array Operand} {ts : Array TypeId} {v : AV} {vs : List AV} {M : Heap} [FnI P f] (hac : ACT P K f vs H (Ret v M)) (hvs : xs.toList.map (aev env) = vs) (hk : get env KT = K.av) :
    V2 P N (.call { callee := .value (.func f), args := xs, argTypes := ts }) ty env H v M := by
  subst hvs
  intro dst pos after guard S a w hc next Q hn hp
  have hkn := hc.env KT
  rw [hk] at hkn
  have hrun : (execOp a.eval ⟨dst, .call { callee := .value (.func f), args := xs, argTypes := ts }, ty, pos, after, guard⟩).run P w = .ok (.enter f (xs.map a.eval)) w := by
    simp [execOp, resolve, Act.eval, Deferred.ofValue, invoke, run_callFunc (P := P) (f := f)]
  unfold Oper.wp
  rw [hrun]
  refine (hac S w (xs.map a.eval) hkn.kn hc.heap (evs_ok hc xs)).mono ?_
  rintro e w' ⟨out, H', S', ⟨rfl, rfl⟩, hout, hh, hx⟩
  cases hout with
  | ret hv => exact hn _ _ _ S' w' ⟨rfl, rfl⟩ hh hx hv
theorem ACT.up {K : Know} {f : FuncId} {vs us : List AV} {R : AOut → Heap → Prop} (h : ACT P K f us H R) (hvs : vs.map AV.up = us) : ACT P K f vs H R := fun S w cargs hk hH hv => h S w cargs hk hH (hvs ▸ hv.up)
theorem V2.callTu {K : Know} {f : Nat} {xs : Array Operand} {ts : Array TypeId} {v : AV} {us : List AV} {M : Heap} [FnI P f] (hac : ACT P K f us H (Ret v M)) (hvs : (xs.toList.map (aev env)).map AV.up = us) (hk : get env KT = K.av) :
    V2 P N (.call { callee := .value (.func f), args := xs, argTypes := ts }) ty env H v M := V2.callT (hac.up hvs) rfl hk
theorem ACT.body {K : Know} {f : FuncId} {N : Nat} {fn : Func} {c : Code} {args : List AV} {R : AOut → Heap → Prop} (rs : List ResultVar) (hf : P.funcs[f]? = some fn) (hb : fn.body = some c) (hr : fn.results = rs.toArray)
    (hN : fn.ntmps = N) (hn : args.length ≤ N) (h : ∀ B, Begun B H args → AWp P N B c (Ends P B rs R) ((KT, K.av) :: params 0 args) (H ++ [])) : ACT P K f args H R := by
  subst hN
  simp only [List.append_nil] at h
  intro S w cargs hkn hH hv
  refine calls_of_wp hf hb ?_
  have hc : CR fn.ntmps ((KT, K.av) :: params 0 args) H S { tmps := cargs ++ Array.replicate (fn.ntmps - cargs.size) undef, defers := [] } w := by
    refine ⟨hH, fun t => ?_, ?_, rfl⟩
    · by_cases hKT : KT = t
      · subst hKT; rw [get_put_same]; exact hkn.vr
      rw [get_put_other _ _ hKT, get_params, if_pos (Nat.zero_le _), Nat.sub_zero]
      by_cases ht : t < args.length
      · have h1 : args.getD t .junk = args[t] := by simp [List.getD, ht]
        have ht' : t < cargs.size := by rw [← hv.1]; exact ht
        have h2 : (cargs ++ Array.replicate (fn.ntmps - cargs.size) undef).getD t undef = cargs[t] := by
          simp [Array.getElem?_append_left ht', ht']
        rw [h1, h2]
        exact hv.2 t _ _ (List.getElem?_eq_getElem ht) (Array.getElem?_eq_getElem ht')
      · have h1 : args.getD t .junk = .junk := by simp [List.getD, List.getElem?_eq_none (Nat.le_of_not_lt ht)]
        rw [h1]; exact .junk
    · have := hv.1
      simp
      omega
  have hbg : Begun ⟨S, w⟩ H args := by
    refine ⟨hH.len.symm, hH.bel, ?_⟩
    rw [AV.bels_iff]
    intro v hv'
    obtain ⟨j, hj⟩ := List.mem_iff_getElem?.1 hv'
    rw [hH.len]
    exact (hv.2 j v _ hj (Array.getElem?_eq_getElem (by rw [← hv.1]; exact (List.getElem?_eq_some_iff.1 hj).1))).bel
  refine wp_mono (h ⟨S, w⟩ hbg S _ w hc (Ext.refl S w)) ?_
  intro e a' w' ⟨x, env', H', S', q, r, c, k⟩
  cases r with
  | nrm =>
    obtain ⟨vs, M, h1, h2, h3⟩ := q
    obtain ⟨u, k1, k2⟩ := results_ok c hr h1
    obtain ⟨S2, m1, m2, m3⟩ := h2.ok c.heap k2 k
    exact ⟨c.defers, u, k1, _, M, S2, h3, .ret m2, m1, m3⟩
  | ret =>
    obtain ⟨vs, M, h1, h2, h3⟩ := q
    obtain ⟨u, k1, k2⟩ := results_ok c hr h1
    obtain ⟨S2, m1, m2, m3⟩ := h2.ok c.heap k2 k
    exact ⟨c.defers, u, k1, _, M, S2, h3, .ret m2, m1, m3⟩
  | brk => exact q.elim
  | pan hv =>
    obtain ⟨M, h2, h3⟩ := q
    obtain ⟨S2, m1, m2, m3⟩ := h2.ok c.heap hv k
    exact ⟨c.defers, _, M, S2, h3, .pan m2, m1, m3⟩

/-- A place in a package's array, and what lies there. -/
theorem o_indexGlob {t e : TypeId} {x y : Operand} {g m n : Nat} {k : IntKind} {sz : Nat} {agg : Bool} [ArI P t m e] [TyI P e agg sz] (hx : aev env x = .raw (.pointer (some ⟨g, 0, none⟩))) (hy : aev env y = .int k (n : Int)) (h1 : n < m) :
    V1 P N (.indexAddr t x y) ty env H (.raw (.pointer (some ⟨g, n * sz, none⟩))) := by
  intro S a w hc
  have hv := hc.ev x
  rw [hx] at hv
  generalize he : a.eval x = u at hv
  cases hv
  refine ⟨.pointer (some ⟨g, n * sz, none⟩), fun _ _ _ _ => ?_, .raw⟩
  simp [execOp, he, ev_int hc hy, run_indexArr (P := P) (t := t) (e := e) (sz := sz) (agg := agg) (n := (n : Int)) (by omega) (by omega), add_none]
theorem o_loadGlob {K : Know} {t : TypeId} {x : Operand} {g j sz : Nat} {v : AV} {u : Value} [TyI P t false sz] (hx : aev env x = .raw (.pointer (some ⟨g, j, none⟩))) (hk : get env KT = K.av) (hg : K.g = g) (hu : K.tab[j]? = some u) (hv : ∀ O w S, VR O w S v u) : V1 P N (.load t x) ty env H v := by
  intro S a w hc
  have hkn := hc.env KT
  rw [hk] at hkn
  have hcell := hkn.kn.2.2 j u hu
  rw [hg] at hcell
  have h := hc.ev x
  rw [hx] at h
  generalize he : a.eval x = y at h
  cases h
  exact ⟨u, fun _ _ _ _ => by simp [execOp, he, Instr.loadAt, Instr.sureAddr, run_loadVar1 (P := P) (t := t) hcell], hv _ _ _⟩
end
end Go.Av
