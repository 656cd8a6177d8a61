/-
  THE RULES ONCE MORE, in the order in which a walk comes to know their parts; case distinctions on a slot; regions whose outcome is one bool.
-/
import Derived.Test.YtmhfpopbhiloiaaDoorAv10
namespace Go.Av

section
variable {P : Program} {N : Nat} {B : Base} {Q R : Post} {K : Env → Heap → Prop} {env : Env} {H H0 L : Heap} {ty : TypeId} {ops : Array Oper} {rest : List Oper} {op : Op} {pos : String} {after : Array Edge}

theorem w_nilCheck {x : Operand} {id g i j : Nat} {o : AObj} (hx : aev env x = .pt id g i j) (hid : H[id]? = some o) (hg : o.gen = g) : V1 P N (.nilCheck x) ty env H (.pt id g i j) := by subst hg; exact o_nilCheck hx hid
theorem w_load1 {t : TypeId} {x : Operand} {id g i j sz : Nat} {o : AObj} {r : List AV} {v : AV} [TyI P t false sz] (hx : aev env x = .pt id g i j) (hid : H[id]? = some o) (hg : o.gen = g) (hr : o.rows[i]? = some r) (hv : r[j]? = some v) : V1 P N (.load t x) ty env H v := by subst hg; exact o_load1 hx hid hr hv
theorem w_loadN {t : TypeId} {x : Operand} {id g i j sz : Nat} {o : AObj} {r cs : List AV} [TyI P t true sz] (hx : aev env x = .pt id g i j) (hid : H[id]? = some o) (hg : o.gen = g) (hr : o.rows[i]? = some r) (hv : (r.drop j).take sz = cs) (hn : cs.length = sz) : V1 P N (.load t x) ty env H (.agg cs) := by subst hg; exact o_loadN hx hid hr hv hn
/-- A whole row. -/
theorem w_loadR {t : TypeId} {x : Operand} {id g i sz : Nat} {o : AObj} {r : List AV} [TyI P t true sz] (hx : aev env x = .pt id g i 0) (hid : H[id]? = some o) (hg : o.gen = g) (hr : o.rows[i]? = some r) (hn : r.length = sz) : V1 P N (.load t x) ty env H (.agg r) := by
  subst hg; exact o_loadN hx hid hr (by rw [List.drop_zero, ← hn, List.take_length]) hn
theorem w_loadRp {t : TypeId} {x : Operand} {i sz : Nat} {xs : List (List AV)} {r : List AV} [TyI P t true sz] (hx : aev env x = .pp xs i 0) (hr : xs[i]? = some r) (hn : r.length = sz) : V1 P N (.load t x) ty env H (.agg r) :=
  o_loadNp hx hr (by rw [List.drop_zero, ← hn, List.take_length]) hn
theorem w_fieldAddr {s ft : TypeId} {x : Operand} {f off id g i j sz : Nat} {agg : Bool} {o : AObj} [FldI P s f off ft] [TyI P ft agg sz] (hx : aev env x = .pt id g i j) (hid : H[id]? = some o) (hg : o.gen = g) (h0 : sz ≠ 0) : V1 P N (.fieldAddr s x f) ty env H (.pt id g i (j + off)) := by subst hg; exact o_fieldAddr (agg := agg) (ft := ft) h0 hx hid
theorem w_fieldAddrp {s ft : TypeId} {x : Operand} {f off i j sz : Nat} {agg : Bool} {xs : List (List AV)} [FldI P s f off ft] [TyI P ft agg sz] (hx : aev env x = .pp xs i j) (h0 : sz ≠ 0) : V1 P N (.fieldAddr s x f) ty env H (.pp xs i (j + off)) := o_fieldAddrp (agg := agg) (ft := ft) h0 hx
theorem w_indexAddr {t e : TypeId} {x y : Operand} {id g off len cap : Nat} {k : IntKind} {n : Int} {sz : Nat} {agg : Bool} {o : AObj} [SlI P t e] [TyI P e agg sz] (hx : aev env x = .sl id g off len cap) (hid : H[id]? = some o) (hg : o.gen = g) (hsz : o.sz = sz)
    (hy : aev env y = .int k n) (h0 : 0 ≤ n) (h1 : n < len) : V1 P N (.indexAddr t x y) ty env H (.pt id g (off + n.toNat) 0) := by subst hg; exact o_indexAddr (agg := agg) (e := e) hx hid hsz hy h0 h1
/-- The index is a Nat. -/
theorem w_indexAddrN {t e : TypeId} {x y : Operand} {id g off len cap : Nat} {k : IntKind} {n : Nat} {sz : Nat} {agg : Bool} {o : AObj} [SlI P t e] [TyI P e agg sz] (hx : aev env x = .sl id g off len cap) (hid : H[id]? = some o) (hg : o.gen = g) (hsz : o.sz = sz)
    (hy : aev env y = .int k (n : Int)) (h1 : n < len) : V1 P N (.indexAddr t x y) ty env H (.pt id g (off + n) 0) := by subst hg; exact o_indexAddr (agg := agg) (e := e) hx hid hsz hy (by omega) (by omega)
theorem w_indexAddrp {t e : TypeId} {x y : Operand} {xs : List (List AV)} {k : IntKind} {n : Int} {sz : Nat} {agg : Bool} {r : List AV} [SlI P t e] [TyI P e agg sz] (hx : aev env x = .pl xs)
    (hy : aev env y = .int k n) (h0 : 0 ≤ n) (hr : xs[n.toNat]? = some r) (hsz : r.length = sz) : V1 P N (.indexAddr t x y) ty env H (.pp xs n.toNat 0) := o_indexAddrp (agg := agg) (e := e) hx hy h0 hr hsz
theorem w_indexAddrpN {t e : TypeId} {x y : Operand} {xs : List (List AV)} {k : IntKind} {n : Nat} {sz : Nat} {agg : Bool} {r : List AV} [SlI P t e] [TyI P e agg sz] (hx : aev env x = .pl xs)
    (hy : aev env y = .int k (n : Int)) (hr : xs[n]? = some r) (hsz : r.length = sz) : V1 P N (.indexAddr t x y) ty env H (.pp xs n 0) := o_indexAddrp (agg := agg) (e := e) hx hy (by omega) hr hsz
theorem w_indexArr {t e : TypeId} {x y : Operand} {id g i j m : Nat} {k : IntKind} {n : Int} {sz : Nat} {agg : Bool} {o : AObj} [ArI P t m e] [TyI P e agg sz] (hx : aev env x = .pt id g i j) (hid : H[id]? = some o) (hg : o.gen = g)
    (hy : aev env y = .int k n) (h0 : 0 ≤ n) (h1 : n < m) : V1 P N (.indexAddr t x y) ty env H (.pt id g i (j + n.toNat * sz)) := by subst hg; exact o_indexArr (agg := agg) (e := e) hx hid hy h0 h1
theorem w_lens {x : Operand} {t e : TypeId} {id g off len cap : Nat} {o : AObj} [hu : SlI P t e] (hx : aev env x = .sl id g off len cap) (hid : H[id]? = some o) (hg : o.gen = g) : V1 P N (.call { callee := .builtin .len, args := #[x], argTypes := #[t] }) ty env H (.int .i64 (len : Int)) := by subst hg; exact o_lens (e := e) hx hid
theorem w_slices {t e : TypeId} {x : Operand} {lo hi : Option Operand} {id g off len cap l h sz : Nat} {agg : Bool} {o : AObj} [hu : SlI P t e] [TyI P e agg sz] (hx : aev env x = .sl id g off len cap) (hid : H[id]? = some o) (hg : o.gen = g) (hsz : o.sz = sz) (hl : Bd env lo 0 l) (hh : Bd env hi len h) (h1 : l ≤ h) (h2 : h ≤ max len cap) :
    V1 P N (.slice t x lo hi Option.none) ty env H (.sl id g (off + l) (h - l) (cap - l)) := by subst hg; exact o_slices (agg := agg) (e := e) hx hid hsz hl hh h1 h2
theorem w_slice00s {t e : TypeId} {x hi mx : Operand} {lo : Option Operand} {k k' : IntKind} {id g off len cap sz : Nat} {agg : Bool} {o : AObj} [hu : SlI P t e] [TyI P e agg sz] (hx : aev env x = .sl id g off len cap) (hid : H[id]? = some o) (hg : o.gen = g) (hl : Bd env lo 0 0) (hh : aev env hi = .int k 0) (hm : aev env mx = .int k' 0) :
    V1 P N (.slice t x lo (Option.some hi) (Option.some mx)) ty env H .nsl := by subst hg; exact o_slice00s (agg := agg) (e := e) hx hid hl hh hm
theorem w_store {t : TypeId} {x y : Operand} {n k g i j sz : Nat} {agg : Bool} {o : AObj} {r : List AV} {v : AV} [TyI P t agg sz] (hx : aev env x = .pt (Lid n k) g i j) (hn : H0.length = n) (hk : L[k]? = some o) (hg : o.gen = g) (hr : o.rows[i]? = some r)
    (hy : aev env y = v) (hc : v.cellish = true) (hl : v.cells.length = sz) (hj : j + sz ≤ o.sz) :
    V2 P N (.store t x y) ty env (H0 ++ L) .junk (H0 ++ L.set k { o with rows := o.rows.set i (r.take j ++ v.cells ++ r.drop (j + sz)) }) := by subst hg; exact o_storeL (agg := agg) hx hn hk hr hy hc hl hj
/-- The row as it stands behind. -/
theorem w_storeP {t : TypeId} {x y : Operand} {n k g i j sz : Nat} {agg : Bool} {o : AObj} {r r' : List AV} {v : AV} [TyI P t agg sz] (hx : aev env x = .pt (Lid n k) g i j) (hn : H0.length = n) (hk : L[k]? = some o) (hg : o.gen = g) (hr : o.rows[i]? = some r)
    (hy : aev env y = v) (hc : v.cellish = true) (hl : v.cells.length = sz) (hj : j + sz ≤ o.sz) (hr' : r.take j ++ v.cells ++ r.drop (j + sz) = r') :
    V2 P N (.store t x y) ty env (H0 ++ L) .junk (H0 ++ L.set k { o with rows := o.rows.set i r' }) := by subst hr'; exact w_store (agg := agg) hx hn hk hg hr hy hc hl hj
theorem w_storeFP {t : TypeId} {x y : Operand} {id g i j sz : Nat} {agg : Bool} {o : AObj} {r r' : List AV} {v : AV} [TyI P t agg sz] (hx : aev env x = .pt id g i j) (hid : H0[id]? = some o) (hg : o.gen = g) (hr : o.rows[i]? = some r)
    (hy : aev env y = v) (hc : v.cellish = true) (hl : v.cells.length = sz) (hj : j + sz ≤ o.sz) (hr' : r.take j ++ v.cells ++ r.drop (j + sz) = r') :
    V2 P N (.store t x y) ty env (H0 ++ L) .junk (H0.set id { o with rows := o.rows.set i r' } ++ L) := by
  subst hr'; subst hg; exact o_storeF (agg := agg) hx hid hr hy hc hl hj
theorem w_storeF {t : TypeId} {x y : Operand} {id g i j sz : Nat} {agg : Bool} {o : AObj} {r : List AV} {v : AV} [TyI P t agg sz] (hx : aev env x = .pt id g i j) (hid : H0[id]? = some o) (hg : o.gen = g) (hr : o.rows[i]? = some r)
    (hy : aev env y = v) (hc : v.cellish = true) (hl : v.cells.length = sz) (hj : j + sz ≤ o.sz) :
    V2 P N (.store t x y) ty env (H0 ++ L) .junk (H0.set id { o with rows := o.rows.set i (r.take j ++ v.cells ++ r.drop (j + sz)) } ++ L) := by subst hg; exact o_storeF (agg := agg) hx hid hr hy hc hl hj
theorem w_append {t t' e : TypeId} {x y : Operand} {n k g len cap sz bytes : Nat} {agg : Bool} {zs : List AV} {o : AObj} {ys : List (List AV)} [hu : SlI P t e] [NiI P t'] [TyI P e agg sz] [hz : ZcI P e zs] [ByI P e bytes]
    (hx : aev env x = .sl (Lid n k) g 0 len cap) (hn : H0.length = n) (hk : L[k]? = some o) (hg : o.gen = g) (hsz : o.sz = sz) (hy : Src P N env (H0 ++ L) y sz ys) (hz' : zs.length = sz) (hlen : len ≤ o.rows.length) (hne : 0 < ys.length) (h63 : len + ys.length ≤ 9223372036854775807) (hb : (len + ys.length) * bytes ≤ 140737488355328) :
    V2 P N (.call { callee := .builtin .append, args := #[x, y], argTypes := #[t, t'] }) ty env (H0 ++ L) (.sl (Lid n k) (g + 1) 0 (len + ys.length) (len + ys.length)) (H0 ++ L.set k ⟨g + 1, o.sz, o.rows.take len ++ ys⟩) := by subst hg; exact o_appendL (agg := agg) (e := e) hz' hx hn hk hsz hlen hy hne h63 hb
theorem w_srcs {x : Operand} {n k g off len cap sz : Nat} {o : AObj} {ys : List (List AV)} (hx : aev env x = .sl (Lid n k) g off len cap) (hn : H0.length = n) (hk : L[k]? = some o) (hg : o.gen = g) (hsz : o.sz = sz) (hys : (o.rows.drop off).take len = ys) (hlen : ys.length = len) : Src P N env (H0 ++ L) x sz ys := by subst hg; exact Src.slL hx hn hk hsz hys hlen
/-- A row of the call's own, whole. -/
theorem w_src1 {x : Operand} {n k g len cap sz : Nat} {o : AObj} (hx : aev env x = .sl (Lid n k) g 0 len cap) (hn : H0.length = n) (hk : L[k]? = some o) (hg : o.gen = g) (hsz : o.sz = sz) (hlen : o.rows.length = len) : Src P N env (H0 ++ L) x sz o.rows := by subst hg; exact Src.slL hx hn hk hsz (by rw [List.drop_zero, ← hlen, List.take_length]) hlen

/-- A slot's bool: both ways. -/
theorem CR.know {S : List Slot} {a : Act} {w : World} {g : Nat} {v : AV} (h : CR N env H S a w) (hv : get env g = v) : CR N ((g, v) :: env) H S a w :=
  ⟨h.heap, fun t => by
    by_cases e : g = t
    · subst e; rw [get_put_same, ← hv]; exact h.env g
    · rw [get_put_other _ _ e]; exact h.env t, h.size, h.defers⟩
theorem ao_know {l : List Oper} {g : Nat} {v : AV} (hv : get env g = v) (h : AOps P N B ops l Q ((g, v) :: env) H) : AOps P N B ops l Q env H := fun S a w hc hb => h S a w (hc.know hv) hb
theorem aw_know {c : Code} {g : Nat} {v : AV} (hv : get env g = v) (h : AWp P N B c Q ((g, v) :: env) H) : AWp P N B c Q env H := fun S a w hc hb => h S a w (hc.know hv) hb
theorem ao_split {d : Option Nat} {g j : Nat} {want b : Bool} (hj : (ops[j]?).bind (·.dst) = some g) (hb : get env g = .bool b)
    (h1 : b = true → AOps P N B ops (⟨d, op, ty, pos, after, some (j, want)⟩ :: rest) Q ((g, .bool true) :: env) H)
    (h2 : b = false → AOps P N B ops (⟨d, op, ty, pos, after, some (j, want)⟩ :: rest) Q ((g, .bool false) :: env) H) : AOps P N B ops (⟨d, op, ty, pos, after, some (j, want)⟩ :: rest) Q env H := by
  have _ := hj
  cases b
  · exact ao_know hb (h2 rfl)
  · exact ao_know hb (h1 rfl)
theorem ao_y {d g j : Nat} {want : Bool} {v : AV} {H' : Heap} (hj : (ops[j]?).bind (·.dst) = some g) (hb : get env g = .bool want) (hd : d < N) (h1 : V2 P N op ty env H v H') (h : AOps P N B ops rest Q ((d, v) :: env) H') : AOps P N B ops (⟨some d, op, ty, pos, after, some (j, want)⟩ :: rest) Q env H := ao_gy hj hb hd h1 h
theorem ao_y1 {d g j : Nat} {want : Bool} {v : AV} (hj : (ops[j]?).bind (·.dst) = some g) (hb : get env g = .bool want) (hd : d < N) (h1 : V1 P N op ty env H v) (h : AOps P N B ops rest Q ((d, v) :: env) H) : AOps P N B ops (⟨some d, op, ty, pos, after, some (j, want)⟩ :: rest) Q env H := ao_gy hj hb hd h1.toV2 h
theorem ao_nT {d g j : Nat} (hj : (ops[j]?).bind (·.dst) = some g) (hb : get env g = .bool false) (hd : d < N) (h : AOps P N B ops rest Q ((d, .tup []) :: env) H) : AOps P N B ops (⟨some d, op, ty, pos, after, some (j, true)⟩ :: rest) Q env H := ao_gn hj hb (by decide) hd h
theorem ao_nF {d g j : Nat} (hj : (ops[j]?).bind (·.dst) = some g) (hb : get env g = .bool true) (hd : d < N) (h : AOps P N B ops rest Q ((d, .tup []) :: env) H) : AOps P N B ops (⟨some d, op, ty, pos, after, some (j, false)⟩ :: rest) Q env H := ao_gn hj hb (by decide) hd h

theorem ao_nU {d g j : Nat} {want : Bool} (hj : (ops[j]?).bind (·.dst) = some g) (hb : get env g = .tup []) (hd : d < N) (h : AOps P N B ops rest Q ((d, .tup []) :: env) H) : AOps P N B ops (⟨some d, op, ty, pos, after, some (j, want)⟩ :: rest) Q env H := ao_unasked rfl hj hb (by rintro _ ⟨⟩; exact hd) h

theorem Sub.put {E : Env} {d : Nat} {v : AV} (h : get E d = .junk) (k : Sub E env) : Sub E ((d, v) :: env) := fun t => by
  by_cases e : d = t
  · subst e; exact .inl h
  · rw [get_put_other _ _ e]; exact k t
/-- A slot that keeps its value. -/
theorem Sub.put_same {E : Env} {d : Nat} {v : AV} (h : get E d = v) (k : Sub E env) : Sub E ((d, v) :: env) := fun t => by
  by_cases e : d = t
  · subst e; rw [get_put_same]; exact .inr h.symm
  · rw [get_put_other _ _ e]; exact k t
/-- All that was known stays, but for slot t. -/
def SubX (t : Nat) (E env : Env) : Prop := ∀ s, s ≠ t → get E s = .junk ∨ get env s = get E s
theorem SubX.refl (t : Nat) (env : Env) : SubX t env env := fun _ _ => .inr rfl
theorem SubX.at {t : Nat} {E : Env} {v : AV} (k : SubX t E env) : SubX t E ((t, v) :: env) := fun s hs => by
  rw [get_put_other _ _ (Ne.symm hs)]; exact k s hs
theorem SubX.put {t d : Nat} {E : Env} {v : AV} (h : get E d = .junk) (k : SubX t E env) : SubX t E ((d, v) :: env) := fun s hs => by
  by_cases e : d = s
  · subst e; exact .inl h
  · rw [get_put_other _ _ e]; exact k s hs
theorem SubX.put_same {t d : Nat} {E : Env} {v : AV} (h : get E d = v) (k : SubX t E env) : SubX t E ((d, v) :: env) := fun s hs => by
  by_cases e : d = s
  · subst e; rw [get_put_same]; exact .inr h.symm
  · rw [get_put_other _ _ e]; exact k s hs
theorem SubX.sub {t : Nat} {E : Env} {v : AV} (h : get env t = v) (k : SubX t E env) : Sub ((t, v) :: E) env := fun s => by
  by_cases e : t = s
  · subst e; rw [get_put_same]; exact .inr h
  · rw [get_put_other _ _ e]; exact k s (Ne.symm e)
/-- The outcome of a region: slot t holds v; all that was known stays. -/
def Out (_ : Base) (env : Env) (t : Nat) (v : AV) (H : Heap) : Post := fun x e H' => x = .nrm ∧ get e t = v ∧ SubX t env e ∧ H' = H
theorem Out.mk {t : Nat} {v : AV} {e : Env} (h : get e t = v) (k : SubX t env e) : Out B env t v H .nrm e H := ⟨rfl, h, k, rfl⟩
theorem aw_out {id : Nat} {l : List Oper} (t : Nat) (v : AV) (h : AOps P N B l.toArray l (Out B env t v H) env H) (k : Q .nrm ((t, v) :: env) H) : AWp P N B (.region id l.toArray false) Q env H := by
  refine aw_region_to ((t, v) :: env) H (fun S a w hc hb => ?_) k
  have base : ∀ e a' w', Lift N (Out B env t v H) B e a' w' → Lift N (fun x e H' => x = .nrm ∧ Sub ((t, v) :: env) e ∧ Fit B ((t, v) :: env) H' H) B e a' w' := by
    rintro e a' w' ⟨x, env', H', S', ⟨rfl, h1, h2, rfl⟩, r, c, k'⟩
    exact ⟨.nrm, env', H', S', ⟨rfl, h2.sub h1, .inl rfl⟩, r, c, k'⟩
  have key : ∀ (l' : List Oper) (a : Act) (w : World), wpList P l.toArray (Lift N (Out B env t v H) B) l' a w → wpList P l.toArray (Lift N (fun x e H' => x = .nrm ∧ Sub ((t, v) :: env) e ∧ Fit B ((t, v) :: env) H' H) B) l' a w := by
    intro l'
    induction l' with
    | nil => intro a w h; exact base _ _ _ h
    | cons o l' ih =>
      intro a w1 h
      unfold wpList at h ⊢
      split
      · rename_i hw
        rw [if_pos hw] at h
        rcases h with h | ⟨hasks, a0, w0, hq⟩
        · left
          unfold Oper.wp at h ⊢
          generalize (execOp a.eval o).run P w1 = r at *
          cases r with
          | ok n w' =>
            cases n <;> simp only [Oper.upon] at h ⊢ <;> first
              | exact ih _ _ h
              | exact h
              | exact Rows.mono h fun _ _ h => ih _ _ h
              | exact Calls.mono h fun e w'' he => by
                  cases e with
                  | returned v => exact ih _ _ he
                  | panicked ch => exact base _ _ _ he
                  | outgrown => obtain ⟨a0, w0, hq⟩ := he; exact ⟨a0, w0, base _ _ _ hq⟩
          | halt x w' => cases x <;> simp only [Oper.upon] at h ⊢ <;> first | exact base _ _ _ h | exact h
        · exact .inr ⟨hasks, a0, w0, base _ _ _ hq⟩
      · rename_i hw
        rw [if_neg hw] at h
        exact ih _ _ h
  exact key l a w (h S a w hc hb)

theorem aw_freezeL {c : Code} {n k g off len cap : Nat} {o : AObj} {ys : List (List AV)} (t : Nat) (ht : get env t = .sl (Lid n k) g off len cap) (hn : H0.length = n) (hk : L[k]? = some o) (hg : o.gen = g) (hys : (o.rows.drop off).take len = ys) (hlen : ys.length = len) (hp : ∀ r ∈ ys, AV.bels 0 r = true)
    (h : AWp P N B c Q ((t, .pl ys) :: env) (H0 ++ L.set k ⟨g + 1, o.sz, []⟩)) : AWp P N B c Q env (H0 ++ L) := by
  subst hg
  refine aw_freeze t ht (lk hn hk) hys hlen hp ?_
  rw [st hn]
  exact h
/-- A whole row. -/
theorem aw_freeze1 {c : Code} {n k g len cap : Nat} {o : AObj} (t : Nat) (ht : get env t = .sl (Lid n k) g 0 len cap) (hn : H0.length = n) (hk : L[k]? = some o) (hg : o.gen = g) (hlen : o.rows.length = len) (hp : ∀ r ∈ o.rows, AV.bels 0 r = true)
    (h : AWp P N B c Q ((t, .pl o.rows) :: env) (H0 ++ L.set k ⟨g + 1, o.sz, []⟩)) : AWp P N B c Q env (H0 ++ L) :=
  aw_freezeL t ht hn hk hg (by rw [List.drop_zero, ← hlen, List.take_length]) hlen hp h
theorem aw_ghostL {c : Code} {k : Nat} (t sz : Nat) (ht : get env t = .nsl) (hp : 0 < sz) (hk : L.length = k) (h : AWp P N B c Q ((t, .sl (Lid H0.length k) 0 0 0 0) :: env) (H0 ++ (L ++ [⟨0, sz, []⟩]))) : AWp P N B c Q env (H0 ++ L) := by
  refine aw_ghost t sz ht hp ?_
  rw [List.length_append, hk, List.append_assoc]
  exact h

theorem r_tmp {t : Nat} {rs : List ResultVar} {v : AV} {vs : List AV} (h : get env t = v) (k : ResVs P env H rs vs) : ResVs P env H (.tmp t :: rs) (v :: vs) := .cons (.tmp h) k
theorem r_cell1 {p t id g i j sz : Nat} {o : AObj} {r : List AV} {v : AV} {rs : List ResultVar} {vs : List AV} [ty : TyI P t false sz] (h : get env p = .pt id g i j) (hid : H[id]? = some o) (hg : o.gen = g) (hr : o.rows[i]? = some r) (hv : r[j]? = some v) (k : ResVs P env H rs vs) : ResVs P env H (.cell p t :: rs) (v :: vs) := by subst hg; exact .cons (.cell1 ty h hid hr hv) k
theorem r_cellR {p t id g i sz : Nat} {o : AObj} {r : List AV} {rs : List ResultVar} {vs : List AV} [ty : TyI P t true sz] (h : get env p = .pt id g i 0) (hid : H[id]? = some o) (hg : o.gen = g) (hr : o.rows[i]? = some r) (hn : r.length = sz) (k : ResVs P env H rs vs) : ResVs P env H (.cell p t :: rs) (.agg r :: vs) := by subst hg; exact .cons (.cellN ty h hid hr (by rw [List.drop_zero, ← hn, List.take_length]) hn) k
/-- The end of a call whose result names no row of its own. -/
theorem e_done {rs : List ResultVar} {vs : List AV} {v : AV} {args : List AV} (hB : Begun B H args) (h : ResVs P env (H ++ L) rs vs) (hv : tupv vs = v) (hb : v.bel H.length = true) : Ends P B rs (Ret v H) .ret env (H ++ L) :=
  Ends.done h hv rfl (by rw [hB.len]; exact Nat.le_refl _) hb hB.heap
end
end Go.Av
