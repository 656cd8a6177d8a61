/-
  FROM A BODY TO A CALL: results that are temporaries or variables; what is made on the way is forgotten where the call ends.
-/
import Derived.Test.YtmhfpopbhiloiaaDoorAv8
namespace Go.Av

/-- What a result variable holds where the call ends. -/
inductive ResV (P : Program) (env : Env) (H : Heap) : ResultVar → AV → Prop where
  | tmp {t : Nat} {v : AV} (h : get env t = v) : ResV P env H (.tmp t) v
  | cell1 {p t id i j sz : Nat} {o : AObj} {r : List AV} {v : AV} (ty : TyI P t false sz) (h : get env p = .pt id o.gen i j) (hid : H[id]? = some o) (hr : o.rows[i]? = some r) (hv : r[j]? = some v) : ResV P env H (.cell p t) v
  | cellN {p t id i j sz : Nat} {o : AObj} {r cs : List AV} (ty : TyI P t true sz) (h : get env p = .pt id o.gen i j) (hid : H[id]? = some o) (hr : o.rows[i]? = some r) (hv : (r.drop j).take sz = cs) (hn : cs.length = sz) : ResV P env H (.cell p t) (.agg cs)

inductive ResVs (P : Program) (env : Env) (H : Heap) : List ResultVar → List AV → Prop where
  | nil : ResVs P env H [] []
  | cons {r : ResultVar} {rs : List ResultVar} {v : AV} {vs : List AV} (h : ResV P env H r v) (k : ResVs P env H rs vs) : ResVs P env H (r :: rs) (v :: vs)

def tupv : List AV → AV
  | [v] => v
  | vs => .tup vs

/-- What is still known where the call ends: the memory H may be taken for M. -/
def FitV (B : Base) (v : AV) (H M : Heap) : Prop := H = M ∨ ∃ G, H = M ++ G ∧ B.S.length ≤ M.length ∧ v.bel M.length = true ∧ HBel M.length M

def Ends (P : Program) (B : Base) (rs : List ResultVar) (R : AOut → Heap → Prop) : Post
  | .nrm, e, H | .ret, e, H => ∃ vs M, ResVs P e H rs vs ∧ FitV B (tupv vs) H M ∧ R (.ret (tupv vs)) M
  | .pan v, _, H => ∃ M, FitV B v H M ∧ R (.pan v) M
  | .brk _, _, _ => False

section
variable {P : Program} {N : Nat} {B : Base} {Q : Post} {env : Env} {H : Heap}

theorem ResV.run {S : List Slot} {a : Act} {w : World} (hc : CR N env H S a w) {r : ResultVar} {v : AV} (h : ResV P env H r v) : ∃ u, (match r with
    | .tmp t => pure (a.tmps.getD t undef)
    | .cell p t => do loadVar t (← asAddr (a.tmps.getD p undef)) : Sem Value).run P w = .ok u w ∧ VR (own S) w S v u := by
  cases h with
  | @tmp t v h => exact ⟨a.tmps.getD t undef, rfl, h ▸ hc.env t⟩
  | @cell1 p t id i j sz o r v ty h hid hr hv =>
    have h1 := o_load1 (P := P) (N := N) (env := env) (H := H) (ty := 0) (t := t) (x := .tmp p) (sz := sz) h hid hr hv
    obtain ⟨u, k1, k2⟩ := h1 S a w hc
    have k3 := k1 none "" #[] none
    obtain ⟨s, b, arr, et, hs, hp, he, hb, hrow⟩ := hc.ptr (x := .tmp p) h hid
    refine ⟨u, ?_, k2⟩
    have he' : a.tmps.getD p undef = .pointer (some ⟨b, i * o.sz + j, none⟩) := he
    simp only [execOp, he, Instr.loadAt, Instr.sureAddr, Sem.run_bind, Sem.run_pure, Result.andThen_ok] at k3
    simp only [he', asAddr, Sem.run_bind, Sem.run_pure, Result.andThen_ok]
    cases hq : (loadVar t ⟨b, i * o.sz + j, none⟩).run P w with
    | ok x w' =>
      rw [hq] at k3
      simp only [Result.andThen_ok, Result.ok.injEq, Next.value.injEq] at k3
      rw [k3.1, k3.2]
    | halt x w' => rw [hq] at k3; cases k3
  | @cellN p t id i j sz o r cs ty h hid hr hv hn =>
    have h1 := o_loadN (P := P) (N := N) (env := env) (H := H) (ty := 0) (t := t) (x := .tmp p) (sz := sz) h hid hr hv hn
    obtain ⟨u, k1, k2⟩ := h1 S a w hc
    have k3 := k1 none "" #[] none
    obtain ⟨s, b, arr, et, hs, hp, he, hb, hrow⟩ := hc.ptr (x := .tmp p) h hid
    refine ⟨u, ?_, k2⟩
    have he' : a.tmps.getD p undef = .pointer (some ⟨b, i * o.sz + j, none⟩) := he
    simp only [execOp, he, Instr.loadAt, Instr.sureAddr, Sem.run_bind, Sem.run_pure, Result.andThen_ok] at k3
    simp only [he', asAddr, Sem.run_bind, Sem.run_pure, Result.andThen_ok]
    cases hq : (loadVar t ⟨b, i * o.sz + j, none⟩).run P w with
    | ok x w' =>
      rw [hq] at k3
      simp only [Result.andThen_ok, Result.ok.injEq, Next.value.injEq] at k3
      rw [k3.1, k3.2]
    | halt x w' => rw [hq] at k3; cases k3

theorem results_ok {S : List Slot} {a : Act} {w : World} (hc : CR N env H S a w) {fn : Func} {rs : List ResultVar} {vs : List AV} (hr : fn.results = rs.toArray) (h : ResVs P env H rs vs) : ∃ u, (results fn a.tmps).run P w = .ok u w ∧ VR (own S) w S (tupv vs) u := by
  have key : ∀ (f : ResultVar → Sem Value), (∀ r, f r = (match r with
    | .tmp t => pure (a.tmps.getD t undef)
    | .cell p t => do loadVar t (← asAddr (a.tmps.getD p undef)) : Sem Value)) → ∀ (rs : List ResultVar) (vs : List AV), ResVs P env H rs vs → ∃ us : List Value, (rs.mapM f).run P w = .ok us w ∧ us.length = vs.length ∧ ∀ (j : Nat) (v : AV) (u : Value), vs[j]? = some v → us[j]? = some u → VR (own S) w S v u := by
    intro f hf rs
    induction rs with
    | nil => intro vs h; cases h; exact ⟨[], by simp, rfl, fun _ _ _ h => by simp at h⟩
    | cons r rs ih =>
      intro vs h
      cases h with
      | cons h k =>
        obtain ⟨u, h1, h2⟩ := h.run hc
        obtain ⟨us, k1, k2, k3⟩ := ih _ k
        refine ⟨u :: us, ?_, by simp [k2], fun j v x hv hx => ?_⟩
        · rw [List.mapM_cons, hf]
          simp only [Sem.run_bind, h1, k1, Result.andThen_ok, Sem.run_pure]
        · cases j with
          | zero => simp at hv hx; subst hv; subst hx; exact h2
          | succ j => exact k3 j v x (by simpa using hv) (by simpa using hx)
  unfold results
  rw [hr]
  simp only [List.mapM_toArray, Sem.run_bind, Sem.run_map]
  obtain ⟨us, k1, k2, k3⟩ := key (fun r => match r with
    | .tmp t => pure (a.tmps.getD t undef)
    | .cell p t => do loadVar t (← asAddr (a.tmps.getD p undef))) (fun _ => rfl) rs vs h
  erw [k1]
  simp only [Result.andThen_ok, Sem.run_pure]
  match vs, us, k2, k3 with
  | [], [], _, _ => exact ⟨_, rfl, .tup rfl fun _ _ _ h => by simp at h⟩
  | [v], [u], _, k3 => exact ⟨_, rfl, k3 0 v u rfl rfl⟩
  | v :: v' :: vs, u :: u' :: us, k2, k3 =>
    refine ⟨.tuple (u :: u' :: us).toArray, by simp, .tup (by simp at k2; simp [k2]) fun j x y hx hy => k3 j x y hx (by simpa using hy)⟩

theorem FitV.ok {S : List Slot} {w : World} {v : AV} {u : Value} {M : Heap} (hh : HRel H S w) (hv : VR (own S) w S v u) (k : Ext B.S B.w S w) (hf : FitV B v H M) : ∃ S', HRel M S' w ∧ VR (own S') w S' v u ∧ Ext B.S B.w S' w := by
  rcases hf with rfl | ⟨G, rfl, hn, hb, hm⟩
  · exact ⟨S, hh, hv, k⟩
  · have ht : (M ++ G).take M.length = M := by simp
    have := hh.take (n := M.length) (by rw [ht]; exact hm)
    rw [ht] at this
    exact ⟨S.take M.length, this, hv.take (fun b h k => h (own_take k)) hb, k.take hn⟩

theorem AC.body {f : FuncId} {N : Nat} {fn : Func} {c : Code} {args : List AV} {R : AOut → Heap → Prop} (rs : List ResultVar) (hf : P.funcs[f]? = some fn) (hb : fn.body = some c) (hr : fn.results = rs.toArray)
    (hN : fn.ntmps = N) (hn : args.length ≤ N) (h : ∀ B, Begun B H args → AWp P N B c (Ends P B rs R) (params 0 args) (H ++ [])) : AC P f args H R := by
  subst hN
  simp only [List.append_nil] at h
  intro S w cargs hH hv
  refine calls_of_wp hf hb ?_
  have hc : CR fn.ntmps (params 0 args) H S { tmps := cargs ++ Array.replicate (fn.ntmps - cargs.size) undef, defers := [] } w := by
    refine ⟨hH, fun t => ?_, ?_, rfl⟩
    · rw [get_params, if_pos (Nat.zero_le _), Nat.sub_zero]
      by_cases ht : t < args.length
      · have h1 : args.getD t .junk = args[t] := by simp [List.getD, ht]
        have ht' : t < cargs.size := by rw [← hv.1]; exact ht
        have h2 : (cargs ++ Array.replicate (fn.ntmps - cargs.size) undef).getD t undef = cargs[t] := by
          simp [Array.getElem?_append_left ht', ht']
        rw [h1, h2]
        exact hv.2 t _ _ (List.getElem?_eq_getElem ht) (Array.getElem?_eq_getElem ht')
      · have h1 : args.getD t .junk = .junk := by simp [List.getD, List.getElem?_eq_none (Nat.le_of_not_lt ht)]
        rw [h1]; exact .junk
    · have := hv.1
      simp
      omega
  have hbg : Begun ⟨S, w⟩ H args := by
    refine ⟨hH.len.symm, hH.bel, ?_⟩
    rw [AV.bels_iff]
    intro v hv'
    obtain ⟨j, hj⟩ := List.mem_iff_getElem?.1 hv'
    rw [hH.len]
    exact (hv.2 j v _ hj (Array.getElem?_eq_getElem (by rw [← hv.1]; exact (List.getElem?_eq_some_iff.1 hj).1))).bel
  refine wp_mono (h ⟨S, w⟩ hbg S _ w hc (Ext.refl S w)) ?_
  intro e a' w' ⟨x, env', H', S', q, r, c, k⟩
  cases r with
  | nrm =>
    obtain ⟨vs, M, h1, h2, h3⟩ := q
    obtain ⟨u, k1, k2⟩ := results_ok c hr h1
    obtain ⟨S2, m1, m2, m3⟩ := h2.ok c.heap k2 k
    exact ⟨c.defers, u, k1, _, M, S2, h3, .ret m2, m1, m3⟩
  | ret =>
    obtain ⟨vs, M, h1, h2, h3⟩ := q
    obtain ⟨u, k1, k2⟩ := results_ok c hr h1
    obtain ⟨S2, m1, m2, m3⟩ := h2.ok c.heap k2 k
    exact ⟨c.defers, u, k1, _, M, S2, h3, .ret m2, m1, m3⟩
  | brk => exact q.elim
  | pan hv =>
    obtain ⟨M, h2, h3⟩ := q
    obtain ⟨S2, m1, m2, m3⟩ := h2.ok c.heap hv k
    exact ⟨c.defers, _, M, S2, h3, .pan m2, m1, m3⟩

/-- The usual contract: it returns this, and the memory is this. -/
def Ret (v : AV) (M : Heap) : AOut → Heap → Prop := fun o H' => o = .ret v ∧ H' = M

/-- The end, where what was made on the way is forgotten. -/
theorem Ends.done {rs : List ResultVar} {vs : List AV} {v : AV} {M G : Heap} (h : ResVs P env H rs vs) (hv : tupv vs = v) (hH : H = M ++ G) (hM : B.S.length ≤ M.length) (hb : v.bel M.length = true) (hm : HBel M.length M) : Ends P B rs (Ret v M) .ret env H :=
  ⟨vs, M, h, .inr ⟨G, hH, hM, hv ▸ hb, hm⟩, by rw [hv], rfl⟩
theorem Ends.of_nrm {rs : List ResultVar} {R : AOut → Heap → Prop} (h : Ends P B rs R .ret env H) : Ends P B rs R .nrm env H := h
end
end Go.Av
