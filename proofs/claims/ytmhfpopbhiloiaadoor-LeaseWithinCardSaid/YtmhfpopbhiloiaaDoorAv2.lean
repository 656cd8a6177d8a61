/-
  WALKING CODE OVER THE ABSTRACT MEMORY: what 'AWp' (of code), 'AOps' (of a region's operations), 'AOp' (of one operation) and 'AC' (of a call) say, and the rules of control.
-/
import Derived.Test.YtmhfpopbhiloiaaDoorAv1
namespace Go.Av

/-- How a piece of code is left. -/
inductive AX where
  | nrm
  | brk (id : Nat)
  | ret
  | pan (v : AV)

inductive XR (O : Nat → Prop) (w : World) (S : List Slot) : AX → Exit → Prop where
  | nrm : XR O w S .nrm .normal
  | brk {i : Nat} : XR O w S (.brk i) (.exit i)
  | ret : XR O w S .ret .ret
  | pan {v : AV} {u : Value} (h : VR O w S v u) : XR O w S (.pan v) (.panic [{ v := u, recovered := false }])

theorem XR.ext {S S' : List Slot} {w w' : World} {x : AX} {e : Exit} (h : XR (own S) w S x e) (k : Ext S w S' w') : XR (own S') w' S' x e := by
  cases h with
  | nrm => exact .nrm
  | brk => exact .brk
  | ret => exact .ret
  | pan h => exact .pan (h.ext k)

abbrev Post := AX → Env → Heap → Prop

/-- Where the call began. -/
structure Base where
  S : List Slot
  w : World

def Lift (N : Nat) (Q : Post) (B : Base) : Exit → Act → World → Prop := fun e a' w' =>
  ∃ x env' H' S', Q x env' H' ∧ XR (own S') w' S' x e ∧ CR N env' H' S' a' w' ∧ Ext B.S B.w S' w'

theorem Lift.mono {N : Nat} {Q Q' : Post} {B : Base} {e : Exit} {a' : Act} {w' : World} (h : Lift N Q B e a' w') (hq : ∀ x env H, Q x env H → Q' x env H) : Lift N Q' B e a' w' :=
  let ⟨x, env', H', S', q, r⟩ := h
  ⟨x, env', H', S', hq _ _ _ q, r⟩

def AWp (P : Program) (N : Nat) (B : Base) (c : Code) (Q : Post) (env : Env) (H : Heap) : Prop :=
  ∀ S a w, CR N env H S a w → Ext B.S B.w S w → c.wp P (Lift N Q B) a w

def AOps (P : Program) (N : Nat) (B : Base) (ops : Array Oper) (l : List Oper) (Q : Post) (env : Env) (H : Heap) : Prop :=
  ∀ S a w, CR N env H S a w → Ext B.S B.w S w → wpList P ops (Lift N Q B) l a w

/-- One operation: it yields a value (K) or panics with one (X). -/
def AOp (P : Program) (N : Nat) (o : Oper) (env : Env) (H : Heap) (K X : AV → Heap → Prop) : Prop :=
  ∀ S a w, CR N env H S a w → ∀ (next : Act → World → Prop) (Q : Exit → Act → World → Prop),
    (∀ v u H' S' w', K v H' → HRel H' S' w' → Ext S w S' w' → VR (own S') w' S' v u → next (a.put o.dst u) w') →
    (∀ v u H' S' w', X v H' → HRel H' S' w' → Ext S w S' w' → VR (own S') w' S' v u → Q (.panic [{ v := u, recovered := false }]) a w') →
    o.wp P a w next Q

/-- What a call comes to. -/
inductive AOut where
  | ret (v : AV)
  | pan (v : AV)

inductive OutR (O : Nat → Prop) (w : World) (S : List Slot) : AOut → Ending → Prop where
  | ret {v : AV} {u : Value} (h : VR O w S v u) : OutR O w S (.ret v) (.returned u)
  | pan {v : AV} {u : Value} (h : VR O w S v u) : OutR O w S (.pan v) (.panicked [{ v := u, recovered := false }])

def VRs (O : Nat → Prop) (w : World) (S : List Slot) (vs : List AV) (us : Array Value) : Prop :=
  vs.length = us.size ∧ ∀ (i : Nat) (v : AV) (u : Value), vs[i]? = some v → us[i]? = some u → VR O w S v u

def AC (P : Program) (f : FuncId) (args : List AV) (H : Heap) (R : AOut → Heap → Prop) : Prop :=
  ∀ S w cargs, HRel H S w → VRs (own S) w S args cargs →
    Calls P f cargs w fun e w' => ∃ o H' S', R o H' ∧ OutR (own S') w' S' o e ∧ HRel H' S' w' ∧ Ext S w S' w'

theorem AC.mono {P : Program} {f : FuncId} {args : List AV} {H : Heap} {R R' : AOut → Heap → Prop} (h : AC P f args H R) (hr : ∀ o H', R o H' → R' o H') : AC P f args H R' :=
  fun S w cargs hH hv => (h S w cargs hH hv).mono fun _ _ ⟨o, H', S', q, r⟩ => ⟨o, H', S', hr _ _ q, r⟩

theorem VRs.ext {S S' : List Slot} {w w' : World} {vs : List AV} {us : Array Value} (h : VRs (own S) w S vs us) (k : Ext S w S' w') : VRs (own S') w' S' vs us :=
  ⟨h.1, fun i v u hv hu => (h.2 i v u hv hu).ext k⟩

section
variable {P : Program} {N : Nat} {B : Base} {Q : Post} {env : Env} {H : Heap}

theorem AWp.mono {c : Code} {Q' : Post} (h : AWp P N B c Q env H) (hq : ∀ x e H, Q x e H → Q' x e H) : AWp P N B c Q' env H :=
  fun S a w hc hb => wp_mono (h S a w hc hb) fun _ _ _ q => q.mono hq

/-- What follows in a sequence. -/
def AX.andThen (K : Env → Heap → Prop) (Q : Post) : Post
  | .nrm, e, H => K e H
  | x, e, H => Q x e H

theorem aw_seq {x y : Code} (h : AWp P N B x (AX.andThen (fun e H => AWp P N B y Q e H) Q) env H) : AWp P N B (.seq x y) Q env H := by
  intro S a w hc hb
  refine wp_seq (wp_mono (h S a w hc hb) ?_)
  intro e a' w' ⟨x, env', H', S', q, r, c, k⟩
  cases r with
  | nrm => exact q S' a' w' c k
  | brk => exact ⟨_, env', H', S', q, .brk, c, k⟩
  | ret => exact ⟨_, env', H', S', q, .ret, c, k⟩
  | pan hv => exact ⟨_, env', H', S', q, .pan hv, c, k⟩

theorem aw_skip (h : Q .nrm env H) : AWp P N B .skip Q env H := fun S _ _ hc hb => wp_skip ⟨.nrm, env, H, S, h, .nrm, hc, hb⟩
theorem aw_exit {id : Nat} (h : Q (.brk id) env H) : AWp P N B (.exit id) Q env H := fun S _ _ hc hb => wp_exit ⟨.brk id, env, H, S, h, .brk, hc, hb⟩
theorem aw_ret (h : Q .ret env H) : AWp P N B .ret Q env H := fun S _ _ hc hb => wp_ret ⟨.ret, env, H, S, h, .ret, hc, hb⟩

/-- What a block catches. -/
def AX.inBlock (id : Nat) (Q : Post) : Post
  | .brk i, e, H => if i = id then Q .nrm e H else Q (.brk i) e H
  | x, e, H => Q x e H

theorem aw_block {id : Nat} {c : Code} (h : AWp P N B c (AX.inBlock id Q) env H) : AWp P N B (.block id c) Q env H := by
  intro S a w hc hb
  refine wp_block (wp_mono (h S a w hc hb) ?_)
  intro e a' w' ⟨x, env', H', S', q, r, c, k⟩
  cases r with
  | nrm => exact ⟨_, env', H', S', q, .nrm, c, k⟩
  | @brk i =>
    simp only [AX.inBlock] at q
    simp only [Exit.inBlock]
    split at q
    · rename_i e; rw [if_pos e]; exact ⟨_, env', H', S', q, .nrm, c, k⟩
    · rename_i e; rw [if_neg e]; exact ⟨_, env', H', S', q, .brk, c, k⟩
  | ret => exact ⟨_, env', H', S', q, .ret, c, k⟩
  | pan hv => exact ⟨_, env', H', S', q, .pan hv, c, k⟩

/-! ### Constants and operands -/
def ofLeaf : Value → AV
  | .bool b => .bool b
  | .int k n => .int k n
  | .float k b => .flt k b
  | .string s => .str s
  | .pointer none => .nptr
  | .slice _ 0 0 => .nsl
  | .nilFunc => .nfn
  | .nilIface => .nifc
  | _ => .junk
def ofVal : Value → AV
  | .agg cs => if (cs.toList.map ofLeaf).all AV.leaf then .agg (cs.toList.map ofLeaf) else .junk
  | v => ofLeaf v

theorem ofLeaf_ok (O : Nat → Prop) (w : World) (S : List Slot) (v : Value) : VR O w S (ofLeaf v) v := by
  unfold ofLeaf
  split <;> constructor
theorem ofVal_ok (O : Nat → Prop) (w : World) (S : List Slot) (v : Value) : VR O w S (ofVal v) v := by
  unfold ofVal
  split
  · rename_i cs
    split
    · rename_i h
      refine .agg (by simp) (fun j v hv => ?_) (fun j v u hv hu => ?_)
      · exact List.all_eq_true.1 h v (List.mem_of_getElem? hv)
      · have h1 : cs.toList[j]? = some u := by simpa using hu
        rw [List.getElem?_map, h1] at hv
        obtain rfl := Option.some.inj hv
        exact ofLeaf_ok O w S u
    · exact .junk
  · exact ofLeaf_ok O w S v

def aev (env : Env) : Operand → AV
  | .tmp t => get env t
  | .const v => ofVal v
  | .global g => .raw (.pointer (some ⟨g, 0, none⟩))
  | .func f => .fn (.func f) [] []

theorem CR.ev {S : List Slot} {a : Act} {w : World} (h : CR N env H S a w) (x : Operand) : VR (own S) w S (aev env x) (a.eval x) := by
  cases x with
  | tmp t => exact h.env t
  | const v => exact ofVal_ok _ _ _ v
  | global g => exact .raw
  | func f => exact .fn rfl rfl (fun _ _ _ h => by simp at h) (fun _ _ _ h => by simp at h)

theorem aw_cond {c : Operand} {x y : Code} {b : Bool} (hc : aev env c = .bool b) (h1 : b = true → AWp P N B x Q env H) (h2 : b = false → AWp P N B y Q env H) : AWp P N B (.cond c x y) Q env H := by
  intro S a w h hb
  have hv := h.ev c
  rw [hc] at hv
  generalize hu : a.eval c = u at hv
  cases hv
  exact wp_cond_split hu (fun e => h1 e S a w h hb) (fun e => h2 e S a w h hb)

/-- To know less of the environment. -/
def Sub (E env : Env) : Prop := ∀ t, get E t = .junk ∨ get env t = get E t
theorem Sub.nil : Sub [] env := fun _ => .inl rfl
theorem Sub.cons {d : Nat} {v : AV} {E : Env} (h : get env d = v) (k : Sub E env) : Sub ((d, v) :: E) env := fun t => by
  by_cases e : d = t
  · subst e; rw [get_put_same]; exact .inr h
  · rw [get_put_other _ _ e]; exact k t
theorem Sub.refl (env : Env) : Sub env env := fun _ => .inr rfl
theorem CR.sub {S : List Slot} {a : Act} {w : World} {E : Env} (h : CR N env H S a w) (k : Sub E env) : CR N E H S a w :=
  ⟨h.heap, fun t => by rcases k t with e | e
                       · rw [e]; exact .junk
                       · rw [← e]; exact h.env t, h.size, h.defers⟩
theorem aw_sub {c : Code} {E : Env} (k : Sub E env) (h : AWp P N B c Q E H) : AWp P N B c Q env H := fun S a w hc hb => h S a w (hc.sub k) hb

/-! ### What may be forgotten of the memory -/
mutual
/-- It names no row from n on. -/
def AV.bel (n : Nat) : AV → Bool
  | .sl id _ _ _ _ | .pt id _ _ _ => decide (id < n)
  | .agg cs | .tup cs => AV.bels n cs
  | .fn _ p q => AV.bels n p && AV.bels n q
  | .ifc _ v => AV.bel n v
  | _ => true
def AV.bels (n : Nat) : List AV → Bool
  | [] => true
  | v :: vs => AV.bel n v && AV.bels n vs
end
theorem AV.bels_iff (n : Nat) : ∀ vs : List AV, AV.bels n vs = true ↔ ∀ v ∈ vs, AV.bel n v = true
  | [] => by simp [AV.bels]
  | v :: vs => by simp [AV.bels, AV.bels_iff n vs]
theorem AV.bels_get {n : Nat} {vs : List AV} (h : AV.bels n vs = true) {j : Nat} {v : AV} (hj : vs[j]? = some v) : AV.bel n v = true := (AV.bels_iff n vs).1 h v (List.mem_of_getElem? hj)

theorem VR.bel {O : Nat → Prop} {w : World} {S : List Slot} {v : AV} {u : Value} (h : VR O w S v u) : v.bel S.length = true := by
  induction h with
  | sl s hs _ _ _ => simpa [AV.bel] using (List.getElem?_eq_some_iff.1 hs).1
  | pt s hs _ _ _ => simpa [AV.bel] using (List.getElem?_eq_some_iff.1 hs).1
  | agg hn _ _ ih =>
    simp only [AV.bel, AV.bels_iff]
    intro v hv
    obtain ⟨j, hj⟩ := List.mem_iff_getElem?.1 hv
    exact ih j v _ hj (Array.getElem?_eq_getElem (by rw [← hn]; exact (List.getElem?_eq_some_iff.1 hj).1))
  | tup hn _ ih =>
    simp only [AV.bel, AV.bels_iff]
    intro v hv
    obtain ⟨j, hj⟩ := List.mem_iff_getElem?.1 hv
    exact ih j v _ hj (Array.getElem?_eq_getElem (by rw [← hn]; exact (List.getElem?_eq_some_iff.1 hj).1))
  | fn hp hq _ _ ih1 ih2 =>
    simp only [AV.bel, AV.bels_iff, Bool.and_eq_true]
    refine ⟨fun v hv => ?_, fun v hv => ?_⟩
    · obtain ⟨j, hj⟩ := List.mem_iff_getElem?.1 hv
      exact ih1 j v _ hj (Array.getElem?_eq_getElem (by rw [← hp]; exact (List.getElem?_eq_some_iff.1 hj).1))
    · obtain ⟨j, hj⟩ := List.mem_iff_getElem?.1 hv
      exact ih2 j v _ hj (Array.getElem?_eq_getElem (by rw [← hq]; exact (List.getElem?_eq_some_iff.1 hj).1))
  | ifc _ ih => exact ih
  | _ => rfl

theorem own_take {S : List Slot} {n b : Nat} (h : own (S.take n) b) : own S b := by
  obtain ⟨i, s, hs, hp⟩ := h
  rw [List.getElem?_take] at hs
  split at hs
  · exact ⟨i, s, hs, hp⟩
  · cases hs

theorem VR.take {O : Nat → Prop} {w : World} {S : List Slot} {v : AV} {u : Value} (h : VR O w S v u) {O' : Nat → Prop} (hO : ∀ b, ¬ O b → ¬ O' b) {n : Nat} : v.bel n = true → VR O' w (S.take n) v u := by
  have hw : Stp O O' w w := ⟨Nat.le_refl _, fun b _ h => ⟨hO b h, rfl⟩, fun _ arr _ h => ⟨arr, h, rfl⟩⟩
  induction h with
  | sl s hs hg h1 h =>
    intro hb
    simp [AV.bel] at hb
    exact .sl s (by rw [List.getElem?_take, if_pos hb]; exact hs) hg h1 h
  | pt s hs hg h1 h =>
    intro hb
    simp [AV.bel] at hb
    exact .pt s (by rw [List.getElem?_take, if_pos hb]; exact hs) hg h1 h
  | agg hn hl _ ih => intro hb; exact .agg hn hl fun j v u hv hu => ih j v u hv hu (AV.bels_get hb hv)
  | tup hn _ ih => intro hb; exact .tup hn fun j v u hv hu => ih j v u hv hu (AV.bels_get hb hv)
  | fn hp hq _ _ ih1 ih2 =>
    intro hb
    simp only [AV.bel, Bool.and_eq_true] at hb
    exact .fn hp hq (fun j v u hv hu => ih1 j v u hv hu (AV.bels_get hb.1 hv)) (fun j v u hv hu => ih2 j v u hv hu (AV.bels_get hb.2 hv))
  | ifc _ ih => intro hb; exact .ifc (ih hb)
  | pl base sz u hc hb hs hm hl hv _ => intro _; exact .pl base sz u hc (fun hx => ⟨(hb hx).1, hO _ (hb hx).2.1, (hb hx).2.2⟩) hs hm hl (fun i j r v hr hv' => (hv i j r v hr hv').mono hw (SExt.refl _))
  | pp base sz u hb hs hm hl hv _ => intro _; exact .pp base sz u ⟨hO _ hb.1, hb.2⟩ hs hm hl (fun i j r v hr hv' => (hv i j r v hr hv').mono hw (SExt.refl _))
  | junk => intro _; exact .junk
  | int => intro _; exact .int
  | bool => intro _; exact .bool
  | str => intro _; exact .str
  | flt => intro _; exact .flt
  | nsl => intro _; exact .nsl
  | nptr => intro _; exact .nptr
  | nfn => intro _; exact .nfn
  | nifc => intro _; exact .nifc
  | raw => intro _; exact .raw
  | know ho hg h => intro _; exact .know (hO _ ho) hg h

/-- No row of M names a row from n on. -/
def HBel (n : Nat) (M : Heap) : Prop := ∀ o ∈ M, ∀ r ∈ o.rows, AV.bels n r = true
def EBel (n : Nat) (E : Env) : Prop := ∀ t, (get E t).bel n = true
theorem EBel.nil {n : Nat} : EBel n [] := fun _ => rfl
theorem EBel.cons {n d : Nat} {v : AV} {E : Env} (h : v.bel n = true) (k : EBel n E) : EBel n ((d, v) :: E) := fun t => by
  by_cases e : d = t
  · subst e; rw [get_put_same]; exact h
  · rw [get_put_other _ _ e]; exact k t

theorem HRel.bel {S : List Slot} {w : World} (h : HRel H S w) : HBel H.length H := by
  intro o ho r hr
  obtain ⟨id, hid⟩ := List.mem_iff_getElem?.1 ho
  obtain ⟨i, hi⟩ := List.mem_iff_getElem?.1 hr
  have hlt : id < S.length := by rw [← h.len]; exact (List.getElem?_eq_some_iff.1 hid).1
  have ok := h.obj id o _ hid (List.getElem?_eq_getElem hlt)
  rw [AV.bels_iff]
  intro v hv
  obtain ⟨j, hj⟩ := List.mem_iff_getElem?.1 hv
  cases hp : S[id].place with
  | none => rw [ok.nope hp] at hi; simp at hi
  | some b =>
    obtain ⟨arr, ty, _, _, h3⟩ := ok.lies b hp
    obtain ⟨_, u, _, hvr⟩ := (h3 i r hi).2 j v hj
    rw [h.len]
    exact hvr.bel

theorem HRel.take {S : List Slot} {w : World} {n : Nat} (h : HRel H S w) (hb : HBel n (H.take n)) : HRel (H.take n) (S.take n) w := by
  refine ⟨by simp [h.len], fun id o s ho hs => ?_, fun i j si sj b hi hj => ?_⟩
  · rw [List.getElem?_take] at ho hs
    split at ho
    · rename_i hlt
      rw [if_pos hlt] at hs
      have ok := h.obj id o s ho hs
      refine ⟨ok.gen, ok.sz, ok.pos, ok.nope, fun b hp => ?_⟩
      obtain ⟨arr, ty, h1, h2, h3⟩ := ok.lies b hp
      refine ⟨arr, ty, h1, h2, fun i r hr => ⟨(h3 i r hr).1, fun j v hv => ?_⟩⟩
      obtain ⟨hl, u, hu, hvr⟩ := (h3 i r hr).2 j v hv
      have hbel : v.bel n = true := AV.bels_get (hb o (List.mem_of_getElem? (by rw [List.getElem?_take, if_pos hlt]; exact ho)) r (List.mem_of_getElem? hr)) hv
      exact ⟨hl, u, hu, hvr.take (fun b h k => h (own_take k)) hbel⟩
    · cases ho
  · rw [List.getElem?_take] at hi hj
    split at hi
    · split at hj
      · exact h.inj i j si sj b hi hj
      · cases hj
    · cases hi

theorem Ext.take {S S' : List Slot} {w w' : World} {n : Nat} (h : Ext S w S' w') (hn : S.length ≤ n) : Ext S w (S'.take n) w' :=
  ⟨h.os, h.tape, h.output, ⟨h.stp.size, fun b hb ho => ⟨fun k => (h.stp.old b hb ho).1 (own_take k), (h.stp.old b hb ho).2⟩, h.stp.cells⟩, fun id s hs => by
    obtain ⟨s', h1, h2⟩ := h.slots id s hs
    have hlt : id < n := Nat.lt_of_lt_of_le (List.getElem?_eq_some_iff.1 hs).1 hn
    exact ⟨s', by rw [List.getElem?_take, if_pos hlt]; exact h1, h2⟩⟩

/-- The memory H' may be taken for M, in the environment E. -/
def Fit (B : Base) (E : Env) (H' M : Heap) : Prop := H' = M ∨ ∃ G, H' = M ++ G ∧ B.S.length ≤ M.length ∧ EBel M.length E ∧ HBel M.length M

theorem Fit.refl (E : Env) (M : Heap) : Fit B E M M := .inl rfl
theorem CR.fit {S : List Slot} {a : Act} {w : World} {M : Heap} (h : CR N env H S a w) (k : Ext B.S B.w S w) (hf : Fit B env H M) : ∃ S', CR N env M S' a w ∧ Ext B.S B.w S' w := by
  rcases hf with rfl | ⟨G, rfl, hn, he, hm⟩
  · exact ⟨S, h, k⟩
  · have ht : (M ++ G).take M.length = M := by simp
    refine ⟨S.take M.length, ⟨?_, fun t => (h.env t).take (fun b h k => h (own_take k)) (he t), h.size, h.defers⟩, k.take hn⟩
    have := h.heap.take (n := M.length) (by rw [ht]; exact hm)
    rwa [ht] at this
theorem aw_fit {c : Code} {M : Heap} (hf : Fit B env H M) (h : AWp P N B c Q env M) : AWp P N B c Q env H := fun _ a w hc hb =>
  let ⟨S', hc', hb'⟩ := hc.fit hb hf
  h S' a w hc' hb'

/-- A loop: a family of environments and memories, each with what holds of it and a number that every round lowers. -/
theorem aw_loop {c : Code} {G : Type} (I : G → Prop) (E : G → Env) (M : G → Heap) (μ : G → Nat) (g0 : G) (h0 : I g0) (he : Sub (E g0) env) (hH : Fit B (E g0) H (M g0))
    (round : ∀ g, I g → AWp P N B c (AX.andThen (fun e H' => ∃ g', μ g' < μ g ∧ I g' ∧ Sub (E g') e ∧ Fit B (E g') H' (M g')) Q) (E g) (M g)) : AWp P N B (.loop c) Q env H := by
  intro S a w hc hb
  obtain ⟨S0, hc0, hb0⟩ := (hc.sub he).fit hb hH
  refine wp_loop_ghost (fun n a' w' => ∃ g S', μ g = n ∧ I g ∧ CR N (E g) (M g) S' a' w' ∧ Ext B.S B.w S' w') (μ g0) ⟨g0, S0, rfl, h0, hc0, hb0⟩ ?_
  rintro n a1 w1 ⟨g, S1, rfl, hI, hc1, k1⟩
  refine wp_mono (round g hI S1 a1 w1 hc1 k1) ?_
  intro e a' w' ⟨x, env', H', S', q, r, c, k⟩
  cases r with
  | nrm =>
    obtain ⟨g', hm, hI', hs, hf⟩ := q
    obtain ⟨S2, hc2, k2⟩ := (c.sub hs).fit k hf
    exact ⟨μ g', hm, g', S2, rfl, hI', hc2, k2⟩
  | brk => exact ⟨_, env', H', S', q, .brk, c, k⟩
  | ret => exact ⟨_, env', H', S', q, .ret, c, k⟩
  | pan hv => exact ⟨_, env', H', S', q, .pan hv, c, k⟩

/-! ### Regions -/
theorem aw_region {id : Nat} {l : List Oper} (h : AOps P N B l.toArray l Q env H) : AWp P N B (.region id l.toArray false) Q env H :=
  fun S a w hc hb => wp_region_lit (h S a w hc hb)

variable {ops : Array Oper} {rest : List Oper}
theorem ao_nil (h : Q .nrm env H) : AOps P N B ops [] Q env H := fun S _ _ hc hb => wpList_nil ⟨.nrm, env, H, S, h, .nrm, hc, hb⟩

/-- One operation after another. -/
theorem ao_cons {o : Oper} (hg : o.guard = none) (hd : ∀ t, o.dst = some t → t < N) {K X : AV → Heap → Prop} (h : AOp P N o env H K X)
    (hK : ∀ v H', K v H' → AOps P N B ops rest Q (put env o.dst v) H') (hX : ∀ v H', X v H' → Q (.pan v) env H') : AOps P N B ops (o :: rest) Q env H := by
  intro S a w hc hb
  refine wpList_plain hg fun next hnext => ?_
  refine h S a w hc next _ ?_ ?_
  · intro v u H' S' w' hk hh hx hv
    exact hnext _ _ (hK v H' hk S' _ w' (hc.put hx hh hd hv) (hb.trans hx))
  · intro v u H' S' w' hk hh hx hv
    exact ⟨.pan v, env, H', S', hX v H' hk, .pan hv, hc.step hx hh, hb.trans hx⟩

theorem yielded_of {S : List Slot} {a : Act} {w : World} (hc : CR N env H S a w) {j d : Nat} {b : Bool} (hj : (ops[j]?).bind (·.dst) = some d) (hb : get env d = .bool b) : yielded ops a.tmps j = some b := by
  have hv := hc.env d
  rw [hb] at hv
  unfold yielded
  rw [hj]
  have : a.tmps.getD d undef = .bool b := by cases hq : a.tmps.getD d undef <;> rw [hq] at hv <;> cases hv; rfl
  cases hq : a.tmps[d]? with
  | none => simp [hq, undef] at this
  | some u =>
    have : u = .bool b := by simpa [hq] using this
    subst this
    simp [hq]

theorem not_yielded {S : List Slot} {a : Act} {w : World} (hc : CR N env H S a w) {j d : Nat} (hj : (ops[j]?).bind (·.dst) = some d) (hb : get env d = .tup []) : yielded ops a.tmps j = none := by
  have hv := hc.env d
  rw [hb] at hv
  unfold yielded
  rw [hj]
  have : a.tmps.getD d undef = .tuple #[] := by
    cases hq : a.tmps.getD d undef <;> rw [hq] at hv <;> cases hv
    rename_i hn _
    rw [Array.size_eq_zero_iff.1 hn.symm]
  cases hq : a.tmps[d]? with
  | none => simp [hq]
  | some u =>
    have : u = .tuple #[] := by simpa [hq] using this
    subst this
    simp [hq]

theorem undef_ok {O : Nat → Prop} {w : World} {S : List Slot} : VR O w S (.tup []) undef := .tup rfl fun _ _ _ h => by simp at h

/-- An operation that stands under a condition of another one's. -/
theorem ao_skipped {o : Oper} {j : Nat} {want b : Bool} {d : Nat} (hg : o.guard = some (j, want)) (hj : (ops[j]?).bind (·.dst) = some d) (hb : get env d = .bool b) (hne : b ≠ want) (hd : ∀ t, o.dst = some t → t < N)
    (h : AOps P N B ops rest Q (put env o.dst (.tup [])) H) : AOps P N B ops (o :: rest) Q env H := by
  intro S a w hc hB
  refine wpList_step fun next hnext => ?_
  rw [if_neg (by simp [Region.wanted, hg, yielded_of hc hj hb, hne])]
  exact hnext _ _ (h S _ w (hc.put (Ext.refl S w) hc.heap hd undef_ok) hB)
/-- The other one has not been carried out itself. -/
theorem ao_unasked {o : Oper} {j : Nat} {want : Bool} {d : Nat} (hg : o.guard = some (j, want)) (hj : (ops[j]?).bind (·.dst) = some d) (hb : get env d = .tup []) (hd : ∀ t, o.dst = some t → t < N)
    (h : AOps P N B ops rest Q (put env o.dst (.tup [])) H) : AOps P N B ops (o :: rest) Q env H := by
  intro S a w hc hB
  refine wpList_step fun next hnext => ?_
  rw [if_neg (by simp [Region.wanted, hg, not_yielded hc hj hb])]
  exact hnext _ _ (h S _ w (hc.put (Ext.refl S w) hc.heap hd undef_ok) hB)

theorem ao_wanted {o : Oper} {j : Nat} {want : Bool} {d : Nat} (hg : o.guard = some (j, want)) (hj : (ops[j]?).bind (·.dst) = some d) (hb : get env d = .bool want) (hd : ∀ t, o.dst = some t → t < N) {K X : AV → Heap → Prop} (h : AOp P N o env H K X)
    (hK : ∀ v H', K v H' → AOps P N B ops rest Q (put env o.dst v) H') (hX : ∀ v H', X v H' → Q (.pan v) env H') : AOps P N B ops (o :: rest) Q env H := by
  intro S a w hc hB
  refine wpList_step fun next hnext => ?_
  rw [if_pos (by simp [Region.wanted, hg, yielded_of hc hj hb])]
  refine h S a w hc next _ ?_ ?_
  · intro v u H' S' w' hk hh hx hv
    exact hnext _ _ (hK v H' hk S' _ w' (hc.put hx hh hd hv) (hB.trans hx))
  · intro v u H' S' w' hk hh hx hv
    exact ⟨.pan v, env, H', S', hX v H' hk, .pan hv, hc.step hx hh, hB.trans hx⟩

/-! ### From a body to a call -/
def params : Nat → List AV → Env
  | _, [] => []
  | i, v :: vs => (i, v) :: params (i + 1) vs
def retv (env : Env) : List Nat → AV
  | [t] => get env t
  | ts => .tup (ts.map (get env))
def BodyPost (ts : List Nat) (R : AOut → Heap → Prop) : Post
  | .nrm, e, H | .ret, e, H => R (.ret (retv e ts)) H
  | .pan v, _, H => R (.pan v) H
  | .brk _, _, _ => False

theorem get_params (vs : List AV) : ∀ (i t : Nat), get (params i vs) t = if i ≤ t then vs.getD (t - i) .junk else .junk := by
  induction vs with
  | nil => intro i t; simp [params, get]
  | cons v vs ih =>
    intro i t
    by_cases e : i = t
    · subst e; simp [params, get]
    · rw [params, get_put_other _ _ e, ih]
      by_cases h : i ≤ t
      · rw [if_pos h, if_pos (by omega), show t - i = (t - (i + 1)) + 1 by omega]; simp
      · rw [if_neg h, if_neg (by omega)]

def resv (tmps : Array Value) : List Nat → Value
  | [t] => tmps.getD t undef
  | ts => .tuple (ts.map fun t => tmps.getD t undef).toArray
theorem results_tmps {fn : Func} {ts : List Nat} (h : fn.results = (ts.map ResultVar.tmp).toArray) (tmps : Array Value) (w : World) :
    (results fn tmps).run P w = .ok (resv tmps ts) w := by
  have hm : ∀ (f : ResultVar → Sem Value), (∀ t, f (.tmp t) = pure (tmps.getD t undef)) → ∀ l : List Nat, ((l.map ResultVar.tmp).mapM f).run P w = .ok (l.map fun t => tmps.getD t undef) w := by
    intro f hf l
    induction l with
    | nil => simp
    | cons t l ih => simp only [List.map_cons, List.mapM_cons, Sem.run_bind, hf, Sem.run_pure, Result.andThen_ok, ih]
  unfold results
  rw [h]
  simp only [List.mapM_toArray, Sem.run_bind, Sem.run_map]
  rw [hm _ (fun _ => rfl)]
  simp only [Result.andThen_ok, Sem.run_pure]
  congr 1
  match ts with
  | [] => simp [resv]
  | [t] => simp [resv]
  | t :: u :: r => simp [resv]

/-- What is known where a call begins. -/
structure Begun (B : Base) (H : Heap) (args : List AV) : Prop where
  len : B.S.length = H.length
  heap : HBel H.length H
  args : AV.bels H.length args = true

theorem AC.of_body {f : FuncId} {fn : Func} {c : Code} {args : List AV} {R : AOut → Heap → Prop} (ts : List Nat) (hf : P.funcs[f]? = some fn) (hb : fn.body = some c) (hr : fn.results = (ts.map ResultVar.tmp).toArray)
    (hn : args.length ≤ fn.ntmps) (h : ∀ B, Begun B H args → AWp P fn.ntmps B c (BodyPost ts R) (params 0 args) H) : AC P f args H R := by
  intro S w cargs hH hv
  refine calls_of_wp hf hb ?_
  have hc : CR fn.ntmps (params 0 args) H S { tmps := cargs ++ Array.replicate (fn.ntmps - cargs.size) undef, defers := [] } w := by
    refine ⟨hH, fun t => ?_, ?_, rfl⟩
    · rw [get_params, if_pos (Nat.zero_le _), Nat.sub_zero]
      by_cases ht : t < args.length
      · have h1 : args.getD t .junk = args[t] := by simp [List.getD, ht]
        have ht' : t < cargs.size := by rw [← hv.1]; exact ht
        have h2 : (cargs ++ Array.replicate (fn.ntmps - cargs.size) undef).getD t undef = cargs[t] := by
          simp [Array.getElem?_append_left ht', ht']
        rw [h1, h2]
        exact hv.2 t _ _ (List.getElem?_eq_getElem ht) (Array.getElem?_eq_getElem ht')
      · have h1 : args.getD t .junk = .junk := by simp [List.getD, List.getElem?_eq_none (Nat.le_of_not_lt ht)]
        rw [h1]; exact .junk
    · have := hv.1
      simp
      omega
  have hbg : Begun ⟨S, w⟩ H args := by
    refine ⟨hH.len.symm, hH.bel, ?_⟩
    rw [AV.bels_iff]
    intro v hv'
    obtain ⟨j, hj⟩ := List.mem_iff_getElem?.1 hv'
    rw [hH.len]
    exact (hv.2 j v _ hj (Array.getElem?_eq_getElem (by rw [← hv.1]; exact (List.getElem?_eq_some_iff.1 hj).1))).bel
  refine wp_mono (h ⟨S, w⟩ hbg S _ w hc (Ext.refl S w)) ?_
  intro e a' w' ⟨x, env', H', S', q, r, c, k⟩
  have hres : ∃ u, (results fn a'.tmps).run P w' = .ok u w' ∧ VR (own S') w' S' (retv env' ts) u := by
    refine ⟨_, results_tmps hr a'.tmps w', ?_⟩
    match ts with
    | [] => exact .tup rfl fun _ _ _ h => by simp at h
    | [t] => exact c.env t
    | t :: u :: r =>
      refine .tup (by simp) fun j v x hv hx => ?_
      simp only [List.getElem?_map, List.getElem?_toArray] at hv hx
      cases hj : (t :: u :: r)[j]? with
      | none => simp [hj] at hv
      | some y =>
        rw [hj] at hv hx
        obtain rfl := Option.some.inj hv
        obtain rfl := Option.some.inj hx
        exact c.env y
  cases r with
  | nrm => obtain ⟨u, h1, h2⟩ := hres; exact ⟨c.defers, u, h1, _, H', S', q, .ret h2, c.heap, k⟩
  | ret => obtain ⟨u, h1, h2⟩ := hres; exact ⟨c.defers, u, h1, _, H', S', q, .ret h2, c.heap, k⟩
  | brk => exact q.elim
  | pan hv => exact ⟨c.defers, _, H', S', q, .pan hv, c.heap, k⟩
end
end Go.Av
