/-
  THE RULES AS A WALK USES THEM: the memory is 'H0 ++ L': what was there, and the call's own rows, written out.
-/
import Derived.Test.YtmhfpopbhiloiaaDoorAv9
namespace Go.Av

/-- The k-th of the call's own rows. -/
def Lid (n k : Nat) : Nat := n + k
theorem lk {H0 L : Heap} {n k : Nat} {o : AObj} (hn : H0.length = n) (h : L[k]? = some o) : (H0 ++ L)[Lid n k]? = some o := by
  unfold Lid
  rw [List.getElem?_append_right (by omega), ← hn]
  simpa using h
theorem lkF {H0 L : Heap} {id : Nat} {o : AObj} (h : H0[id]? = some o) : (H0 ++ L)[id]? = some o := by
  rw [List.getElem?_append_left (List.getElem?_eq_some_iff.1 h).1]
  exact h
theorem st {H0 L : Heap} {n k : Nat} {o : AObj} (hn : H0.length = n) : (H0 ++ L).set (Lid n k) o = H0 ++ L.set k o := by
  unfold Lid
  rw [List.set_append_right _ _ (by omega), ← hn]
  simp
theorem stF {H0 L : Heap} {id : Nat} {o o' : AObj} (h : H0[id]? = some o) : (H0 ++ L).set id o' = H0.set id o' ++ L :=
  List.set_append_left _ _ (List.getElem?_eq_some_iff.1 h).1

section
variable {P : Program} {N : Nat} {B : Base} {Q R : Post} {K : Env → Heap → Prop} {env : Env} {H H0 L : Heap} {ty : TypeId} {ops : Array Oper} {rest : List Oper} {pos : String} {after : Array Edge}

/-! #### what stands behind a piece of code -/
theorem then_nrm (h : K env H) : AX.andThen K Q .nrm env H := h
theorem then_brk {i : Nat} (h : Q (.brk i) env H) : AX.andThen K Q (.brk i) env H := h
theorem then_ret (h : Q .ret env H) : AX.andThen K Q .ret env H := h
theorem then_pan {v : AV} (h : Q (.pan v) env H) : AX.andThen K Q (.pan v) env H := h
theorem blk_nrm {id : Nat} (h : Q .nrm env H) : AX.inBlock id Q .nrm env H := h
theorem blk_hit {id : Nat} (h : Q .nrm env H) : AX.inBlock id Q (.brk id) env H := by simpa [AX.inBlock] using h
theorem blk_miss {id i : Nat} (hne : (i == id) = false) (h : Q (.brk i) env H) : AX.inBlock id Q (.brk i) env H := by
  have : ¬ i = id := by simpa using hne
  simpa [AX.inBlock, this] using h
theorem blk_ret {id : Nat} (h : Q .ret env H) : AX.inBlock id Q .ret env H := h
theorem blk_pan {id : Nat} {v : AV} (h : Q (.pan v) env H) : AX.inBlock id Q (.pan v) env H := h

/-- A region whose outcome is told: this environment, this memory. -/
theorem aw_region_to {id : Nat} {l : List Oper} (E : Env) (M : Heap) (h : AOps P N B l.toArray l (fun x e H' => x = .nrm ∧ Sub E e ∧ Fit B E H' M) env H) (k : Q .nrm E M) : AWp P N B (.region id l.toArray false) Q env H := by
  refine aw_region (fun S a w hc hb => ?_)
  have key : ∀ (l' : List Oper) (a : Act) (w : World), wpList P l.toArray (Lift N (fun x e H' => x = .nrm ∧ Sub E e ∧ Fit B E H' M) B) l' a w → wpList P l.toArray (Lift N Q B) l' a w := by
    have base : ∀ e a' w', Lift N (fun x e H' => x = .nrm ∧ Sub E e ∧ Fit B E H' M) B e a' w' → Lift N Q B e a' w' := by
      rintro e a' w' ⟨x, env', H', S', ⟨rfl, hs, hf⟩, r, c, k'⟩
      cases r
      obtain ⟨S2, c2, k2⟩ := (c.sub hs).fit k' hf
      exact ⟨.nrm, E, M, S2, k, .nrm, c2, k2⟩
    intro l'
    induction l' with
    | nil => intro a w h; exact base _ _ _ h
    | cons o l' ih =>
      intro a w1 h
      unfold wpList at h ⊢
      split
      · rename_i hw
        rw [if_pos hw] at h
        rcases h with h | ⟨hasks, a0, w0, hq⟩
        · left
          unfold Oper.wp at h ⊢
          generalize (execOp a.eval o).run P w1 = r at *
          cases r with
          | ok n w' =>
            cases n <;> simp only [Oper.upon] at h ⊢ <;> first
              | exact ih _ _ h
              | exact h
              | exact Rows.mono h fun _ _ h => ih _ _ h
              | exact Calls.mono h fun e w'' he => by
                  cases e with
                  | returned v => exact ih _ _ he
                  | panicked ch => exact base _ _ _ he
                  | outgrown => obtain ⟨a0, w0, hq⟩ := he; exact ⟨a0, w0, base _ _ _ hq⟩
          | halt x w' => cases x <;> simp only [Oper.upon] at h ⊢ <;> first | exact base _ _ _ h | exact h
        · exact .inr ⟨hasks, a0, w0, base _ _ _ hq⟩
      · rename_i hw
        rw [if_neg hw] at h
        exact ih _ _ h
  exact key l a w (h S a w hc hb)

/-! #### operations with memory written out -/
theorem o_allocL {t : TypeId} {sz k : Nat} {zs : List AV} [hz : ZcI P t zs] (hn : zs.length = sz) (hp : 0 < sz) (hk : L.length = k) : V2 P N (.alloc t) ty env (H0 ++ L) (.pt (Lid H0.length k) 0 0 0) (H0 ++ (L ++ [⟨0, sz, [zs]⟩])) := by
  have := o_alloc (P := P) (N := N) (env := env) (H := H0 ++ L) (ty := ty) (t := t) (zs := zs) hn hp
  rwa [List.length_append, hk, List.append_assoc] at this
theorem o_boxL {t : TypeId} {x : Operand} {v : AV} {sz k : Nat} {cs : List AV} (hx : aev env x = v) (hv : v.cellish = true) (hcs : v.cells = cs) (hn : cs.length = sz) (hp : 0 < sz) (hk : L.length = k) : V2 P N (.box t x) ty env (H0 ++ L) (.pt (Lid H0.length k) 0 0 0) (H0 ++ (L ++ [⟨0, sz, [cs]⟩])) := by
  have := o_box (P := P) (N := N) (env := env) (H := H0 ++ L) (ty := ty) (t := t) hx hv hcs hn hp
  rwa [List.length_append, hk, List.append_assoc] at this
theorem o_storeL {t : TypeId} {x y : Operand} {n k i j sz : Nat} {agg : Bool} {o : AObj} {r : List AV} {v : AV} [TyI P t agg sz] (hx : aev env x = .pt (Lid n k) o.gen i j) (hn : H0.length = n) (hk : L[k]? = some o) (hr : o.rows[i]? = some r)
    (hy : aev env y = v) (hc : v.cellish = true) (hl : v.cells.length = sz) (hj : j + sz ≤ o.sz) :
    V2 P N (.store t x y) ty env (H0 ++ L) .junk (H0 ++ L.set k { o with rows := o.rows.set i (r.take j ++ v.cells ++ r.drop (j + sz)) }) := by
  have := o_store (P := P) (N := N) (env := env) (H := H0 ++ L) (ty := ty) (t := t) hx (lk hn hk) hr hy hc hl hj
  rwa [st hn] at this
theorem o_storeF {t : TypeId} {x y : Operand} {id i j sz : Nat} {agg : Bool} {o : AObj} {r : List AV} {v : AV} [TyI P t agg sz] (hx : aev env x = .pt id o.gen i j) (hid : H0[id]? = some o) (hr : o.rows[i]? = some r)
    (hy : aev env y = v) (hc : v.cellish = true) (hl : v.cells.length = sz) (hj : j + sz ≤ o.sz) :
    V2 P N (.store t x y) ty env (H0 ++ L) .junk (H0.set id { o with rows := o.rows.set i (r.take j ++ v.cells ++ r.drop (j + sz)) } ++ L) := by
  have := o_store (P := P) (N := N) (env := env) (H := H0 ++ L) (ty := ty) (t := t) hx (lkF hid) hr hy hc hl hj
  rwa [stF hid] at this
theorem o_buildSliceL {t e : TypeId} {n sz k : Nat} {parts : Array (Nat × Operand)} {agg : Bool} {zs cs : List AV} {rows : List (List AV)} [hu : SlI P t e] [TyI P e agg sz] [hz : ZcI P e zs] (hn : zs.length = sz) (hp : 0 < sz) (h0 : 0 < n) (hbig : n * sz ≤ 16777216)
    (hf : afill ((List.range n).map fun i => (i * sz, sz)) (List.replicate n zs).flatten (parts.toList.map fun (i, x) => (i, aev env x)) = some cs) (hrows : rows.flatten = cs) (hw : ∀ r ∈ rows, r.length = sz) (hk : L.length = k) :
    V2 P N (.buildSlice t n parts) ty env (H0 ++ L) (.sl (Lid H0.length k) 0 0 n n) (H0 ++ (L ++ [⟨0, sz, rows⟩])) := by
  have := o_buildSlice (P := P) (N := N) (env := env) (H := H0 ++ L) (ty := ty) (t := t) (e := e) (agg := agg) (zs := zs) hn hp h0 hbig hf hrows hw
  rwa [List.length_append, hk, List.append_assoc] at this
/-- The literal of one element. -/
theorem o_buildSlice1L {t e : TypeId} {sz k : Nat} {x : Operand} {v : AV} {agg : Bool} {zs cs : List AV} [hu : SlI P t e] [TyI P e agg sz] [hz : ZcI P e zs] (hn : zs.length = sz) (hp : 0 < sz) (hbig : sz ≤ 16777216) (hx : aev env x = v) (hv : v.cellish = true) (hcs : v.cells = cs) (hl : cs.length = sz) (hk : L.length = k) :
    V2 P N (.buildSlice t 1 #[(0, x)]) ty env (H0 ++ L) (.sl (Lid H0.length k) 0 0 1 1) (H0 ++ (L ++ [⟨0, sz, [cs]⟩])) := by
  subst hcs
  subst hx
  refine o_buildSliceL (cs := (aev env x).cells) (zs := zs) (agg := agg) (e := e) hn hp (by omega) (by omega) ?_ (by simp) (by simpa using hl) hk
  have h1 : (aev env x).cells.length = sz ∧ 0 + sz ≤ ((List.replicate 1 zs).flatten).length ∧ (aev env x).cellish = true := ⟨hl, by simp [hn], hv⟩
  simp only [afill, List.map_cons, List.map_nil, List.range_succ, List.range_zero, List.nil_append, List.getElem?_cons_zero, Nat.zero_mul]
  rw [if_pos h1]
  simp [hn]
theorem o_makeSliceL {t e : TypeId} {x y : Operand} {k k' : IntKind} {n c sz bytes m : Nat} {agg : Bool} {zs : List AV} [hu : SlI P t e] [TyI P e agg sz] [hz : ZcI P e zs] [hby : ByI P e bytes] (hn : zs.length = sz) (hp : 0 < sz)
    (hx : aev env x = .int k (n : Int)) (hy : aev env y = .int k' (c : Int)) (hnc : n ≤ c) (hb : bytes * c ≤ 281474976710656) (h63 : (c : Int) ≤ 9223372036854775807) (hm : L.length = m) :
    V2 P N (.makeSlice t x y) ty env (H0 ++ L) (.sl (Lid H0.length m) 0 0 n c) (H0 ++ (L ++ [⟨0, sz, List.replicate c zs⟩])) := by
  have := o_makeSlice (P := P) (N := N) (env := env) (H := H0 ++ L) (ty := ty) (t := t) (e := e) (agg := agg) (zs := zs) (bytes := bytes) hn hp hx hy hnc hb h63
  rwa [List.length_append, hm, List.append_assoc] at this
theorem o_append_nslL {t t' e : TypeId} {x y : Operand} {sz bytes k : Nat} {agg : Bool} {zs : List AV} {ys : List (List AV)} [hu : SlI P t e] [NiI P t'] [TyI P e agg sz] [hz : ZcI P e zs] [ByI P e bytes] (hn : zs.length = sz) (hp : 0 < sz)
    (hx : aev env x = .nsl) (hy : Src P N env (H0 ++ L) y sz ys) (hne : 0 < ys.length) (h63 : ys.length ≤ 9223372036854775807) (hb : ys.length * bytes ≤ 140737488355328) (hk : L.length = k) :
    V2 P N (.call { callee := .builtin .append, args := #[x, y], argTypes := #[t, t'] }) ty env (H0 ++ L) (.sl (Lid H0.length k) 0 0 ys.length ys.length) (H0 ++ (L ++ [⟨0, sz, ys⟩])) := by
  have := o_append_nsl (P := P) (N := N) (env := env) (H := H0 ++ L) (ty := ty) (t := t) (t' := t') (e := e) (agg := agg) (zs := zs) (bytes := bytes) hn hp hx hy hne h63 hb
  rwa [List.length_append, hk, List.append_assoc] at this
theorem o_appendL {t t' e : TypeId} {x y : Operand} {n k len cap sz bytes : Nat} {agg : Bool} {zs : List AV} {o : AObj} {ys : List (List AV)} [hu : SlI P t e] [NiI P t'] [TyI P e agg sz] [hz : ZcI P e zs] [ByI P e bytes] (hz' : zs.length = sz)
    (hx : aev env x = .sl (Lid n k) o.gen 0 len cap) (hn : H0.length = n) (hk : L[k]? = some o) (hsz : o.sz = sz) (hlen : len ≤ o.rows.length) (hy : Src P N env (H0 ++ L) y sz ys) (hne : 0 < ys.length) (h63 : len + ys.length ≤ 9223372036854775807) (hb : (len + ys.length) * bytes ≤ 140737488355328) :
    V2 P N (.call { callee := .builtin .append, args := #[x, y], argTypes := #[t, t'] }) ty env (H0 ++ L) (.sl (Lid n k) (o.gen + 1) 0 (len + ys.length) (len + ys.length)) (H0 ++ L.set k ⟨o.gen + 1, o.sz, o.rows.take len ++ ys⟩) := by
  have := o_append (P := P) (N := N) (env := env) (H := H0 ++ L) (ty := ty) (t := t) (t' := t') (e := e) (agg := agg) (zs := zs) (bytes := bytes) hz' hx (lk hn hk) hsz hlen hy hne h63 hb
  rwa [st hn] at this
theorem Src.slL {x : Operand} {n k off len cap sz : Nat} {o : AObj} {ys : List (List AV)} (hx : aev env x = .sl (Lid n k) o.gen off len cap) (hn : H0.length = n) (hk : L[k]? = some o) (hsz : o.sz = sz) (hys : (o.rows.drop off).take len = ys) (hlen : ys.length = len) : Src P N env (H0 ++ L) x sz ys := Src.sl hx (lk hn hk) hsz hys hlen

/-! #### calls of contracts that return one thing -/
theorem ao_ret {d f : Nat} {xs : Array Operand} {ts : Array TypeId} {v : AV} {vs : List AV} {M : Heap} [FnI P f] (hac : AC P f vs H (Ret v M)) (hvs : xs.toList.map (aev env) = vs) (hd : d < N)
    (h : AOps P N B ops rest Q ((d, v) :: env) M) : AOps P N B ops (⟨some d, .call { callee := .value (.func f), args := xs, argTypes := ts }, ty, pos, after, none⟩ :: rest) Q env H :=
  ao_call hvs hd hac (by rintro v' H' ⟨e, rfl⟩; injection e with e; subst e; exact h) (by rintro v' H' ⟨e, _⟩; cases e)
theorem ao_retv {d f : Nat} {x : Operand} {xs : Array Operand} {ts : Array TypeId} {v : AV} {ps qs vs : List AV} {M : Heap} [FnI P f] (hac : AC P f vs H (Ret v M)) (hx : aev env x = .fn (.func f) ps qs) (hvs : ps ++ xs.toList.map (aev env) ++ qs = vs) (hd : d < N)
    (h : AOps P N B ops rest Q ((d, v) :: env) M) : AOps P N B ops (⟨some d, .call { callee := .value x, args := xs, argTypes := ts }, ty, pos, after, none⟩ :: rest) Q env H :=
  ao_callv hx hvs hd hac (by rintro v' H' ⟨e, rfl⟩; injection e with e; subst e; exact h) (by rintro v' H' ⟨e, _⟩; cases e)
theorem V2.call {f : Nat} {xs : Array Operand} {ts : Array TypeId} {v : AV} {vs : List AV} {M : Heap} [FnI P f] (hac : AC P f vs H (Ret v M)) (hvs : xs.toList.map (aev env) = vs) :
    V2 P N (.call { callee := .value (.func f), args := xs, argTypes := ts }) ty env H v M := by
  subst hvs
  intro dst pos after guard S a w hc next Q hn hp
  refine AOp.call (P := P) (N := N) (o := ⟨dst, .call { callee := .value (.func f), args := xs, argTypes := ts }, ty, pos, after, guard⟩) (f := f) (fun S a w hc => ⟨xs.map a.eval, ?_, evs_ok hc xs⟩) hac S a w hc next Q ?_ ?_
  · simp [execOp, resolve, Act.eval, Deferred.ofValue, invoke, run_callFunc (P := P) (f := f)]
  · rintro v' u H' S' w' ⟨e, rfl⟩
    injection e with e
    subst e
    exact hn _ u _ S' w' ⟨rfl, rfl⟩
  · rintro v' u H' S' w' ⟨e, _⟩
    cases e

theorem wrap64_ok {n : Int} (h1 : -9223372036854775808 ≤ n) (h2 : n ≤ 9223372036854775807) : IntKind.i64.wrap n = n := by rw [IntKind.wrap_i64]; omega
end
end Go.Av
