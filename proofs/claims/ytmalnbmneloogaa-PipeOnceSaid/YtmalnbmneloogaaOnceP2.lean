/- Parts of the proof: rules for an abstract memory, plain laws, and walks through the program. -/
import Derived.Test.YtmalnbmneloogaaOnceP0
import Derived.Test.YtmalnbmneloogaaOnceP1
import Derived.Laws.Strings
import Derived.Lib.SlBytesConst
import Derived.Test.YtmalnbmneloogaaProg
import Derived.KernelRfl
set_option linter.unusedVariables false
set_option linter.unusedSimpArgs false
/-
  WHAT IS MADE, AND NEVER WRITTEN AGAIN, IS A LIST AT ONCE.
-/
namespace Go.Av

theorem str_eq (p q : ByteArray) : (p.toList == q.toList) = decide (p = q) := by
  rw [ByteArray.toList_eq, ByteArray.toList_eq, Bool.eq_iff_iff]
  simp
  constructor
  · intro h; cases p; cases q; simp_all
  · rintro rfl; rfl
theorem bytes_eq (p q : List UInt8) : decide ((⟨p.toArray⟩ : ByteArray) = ⟨q.toArray⟩) = decide (p = q) := by simp
theorem o_seqd {P : Program} {N : Nat} {env : Env} {H : Heap} {ty : TypeId} {x y : Operand} {t t' : TypeId} {p q : ByteArray} (hx : aev env x = .str p) (hy : aev env y = .str q) : V1 P N (.binOp .eql t x y t') ty env H (.bool (decide (p = q))) := str_eq p q ▸ o_seq hx hy
theorem o_sned {P : Program} {N : Nat} {env : Env} {H : Heap} {ty : TypeId} {x y : Operand} {t t' : TypeId} {p q : ByteArray} (hx : aev env x = .str p) (hy : aev env y = .str q) : V1 P N (.binOp .neq t x y t') ty env H (.bool (!decide (p = q))) := str_eq p q ▸ o_sne hx hy
theorem zadd {α : Type} {xs : List α} {k : Nat} {r : α} (h : xs[k]? = some r) : xs[0 + k]? = some r := by rw [Nat.zero_add]; exact h
/-- A slice with nothing in it, and no room, is an empty list. -/
def AV.up1 : AV → AV
  | .nsl => .pl []
  | v => v
def AV.up : AV → AV
  | .nsl => .pl []
  | .agg cs => .agg (cs.map AV.up1)
  | v => v
theorem VR.up1 {O : Nat → Prop} {w : World} {S : List Slot} {v : AV} {u : Value} (h : VR O w S v u) : VR O w S v.up1 u := by
  cases h with
  | nsl => exact .pl (xs := []) default 0 (fun _ _ => undef) (Nat.zero_le _) (fun h => absurd rfl h) (fun _ _ h => by simp at h) (fun _ h => by simp at h) (fun _ _ _ _ h => by simp at h) (fun _ _ _ _ h => by simp at h)
  | sl s hs hg h1 h => exact .sl s hs hg h1 h
  | pt s hs hg h1 h => exact .pt s hs hg h1 h
  | pl base sz u hc hb hs hm hl hv => exact .pl base sz u hc hb hs hm hl hv
  | pp base sz u hb hs hm hl hv => exact .pp base sz u hb hs hm hl hv
  | agg hn hl h => exact .agg hn hl h
  | tup hn h => exact .tup hn h
  | fn hp hq h1 h2 => exact .fn hp hq h1 h2
  | ifc h => exact .ifc h
  | know h1 h2 h3 h4 => exact .know h1 h2 h3 h4
  | _ => constructor
theorem AV.up1_leaf (v : AV) : v.up1.leaf = v.leaf := by cases v <;> rfl
theorem VR.up {O : Nat → Prop} {w : World} {S : List Slot} {v : AV} {u : Value} (h : VR O w S v u) : VR O w S v.up u := by
  cases h with
  | @agg _ cs vs hn hl h =>
    refine .agg (by simpa using hn) (fun j v hv => ?_) (fun j v u hv hu => ?_)
    · rw [List.getElem?_map] at hv
      cases hc : cs[j]? with
      | none => simp [hc] at hv
      | some c => simp [hc] at hv; subst hv; rw [AV.up1_leaf]; exact hl j c hc
    · rw [List.getElem?_map] at hv
      cases hc : cs[j]? with
      | none => simp [hc] at hv
      | some c => simp [hc] at hv; subst hv; exact (h j c u hc hu).up1
  | nsl => exact VR.nsl.up1
  | sl s hs hg h1 h => exact .sl s hs hg h1 h
  | pt s hs hg h1 h => exact .pt s hs hg h1 h
  | pl base sz u hc hb hs hm hl hv => exact .pl base sz u hc hb hs hm hl hv
  | pp base sz u hb hs hm hl hv => exact .pp base sz u hb hs hm hl hv
  | tup hn h => exact .tup hn h
  | fn hp hq h1 h2 => exact .fn hp hq h1 h2
  | ifc h => exact .ifc h
  | know h1 h2 h3 h4 => exact .know h1 h2 h3 h4
  | _ => constructor
def AObj.up (o : AObj) : AObj := { o with rows := o.rows.map (·.map AV.up1) }
theorem HRel.up {H : Heap} {S : List Slot} {w : World} (h : HRel H S w) {id : Nat} {o : AObj} (hid : H[id]? = some o) : HRel (H.set id o.up) S w := by
  refine ⟨by simpa using h.len, fun id' o' s' ho' hs' => ?_, h.inj⟩
  by_cases e : id = id'
  · subst e
    rw [List.getElem?_set_self (List.getElem?_eq_some_iff.1 hid).1] at ho'
    obtain rfl := Option.some.inj ho'
    have ok := h.obj id o s' hid hs'
    refine ⟨ok.gen, ok.sz, ok.pos, fun hn => by simp [AObj.up, ok.nope hn], fun b hb => ?_⟩
    obtain ⟨arr, ty, h1, h2, h3⟩ := ok.lies b hb
    refine ⟨arr, ty, h1, by simpa [AObj.up] using h2, fun i r hr => ?_⟩
    simp only [AObj.up, List.getElem?_map] at hr
    cases hc : o.rows[i]? with
    | none => simp [hc] at hr
    | some r0 =>
      simp [hc] at hr
      subst hr
      obtain ⟨k1, k2⟩ := h3 i r0 hc
      refine ⟨by simpa [AObj.up] using k1, fun j v hv => ?_⟩
      rw [List.getElem?_map] at hv
      cases hc2 : r0[j]? with
      | none => simp [hc2] at hv
      | some c =>
        simp [hc2] at hv
        subst hv
        obtain ⟨k3, u, k4, k5⟩ := k2 j c hc2
        exact ⟨by rw [AV.up1_leaf]; exact k3, u, k4, k5.up1⟩
  · rw [List.getElem?_set_ne e] at ho'
    exact h.obj id' o' s' ho' hs'
theorem aw_upL {P : Program} {N : Nat} {B : Base} {Q : Post} {env : Env} {H0 L : Heap} {c : Code} (k : Nat) {o : AObj} (hk : L[k]? = some o) (h : AWp P N B c Q env (H0 ++ L.set k o.up)) : AWp P N B c Q env (H0 ++ L) := fun S a w hc hb =>
  h S a w ⟨by have := hc.heap.up (lk (H0 := H0) rfl hk); rwa [st rfl] at this, hc.env, hc.size, hc.defers⟩ hb
theorem aw_up {P : Program} {N : Nat} {B : Base} {Q : Post} {env : Env} {H : Heap} {c : Code} (t : Nat) {v : AV} (ht : get env t = v) (h : AWp P N B c Q ((t, v.up) :: env) H) : AWp P N B c Q env H := fun S a w hc hb =>
  h S a w ⟨hc.heap, fun t' => by
    by_cases e : t = t'
    · subst e; rw [get_put_same, ← ht]; exact (hc.env t).up
    · rw [get_put_other _ _ e]; exact hc.env t', hc.size, hc.defers⟩ hb
theorem V1.up {P : Program} {N : Nat} {op : Op} {ty : TypeId} {env : Env} {H : Heap} {v : AV} (h : V1 P N op ty env H v) : V1 P N op ty env H v.up := fun S a w hc =>
  let ⟨u, h1, h2⟩ := h S a w hc
  ⟨u, h1, h2.up⟩

theorem fill_arr {S : List Slot} {w : World} (n sz : Nat) : ∀ (parts : List (Nat × AV)) (us : List (Nat × Value)) (cs cs' : List AV) (vs : Array Value),
    parts.length = us.length → (∀ (j : Nat) (x : Nat × AV) (y : Nat × Value), parts[j]? = some x → us[j]? = some y → x.1 = y.1 ∧ VR (own S) w S x.2 y.2) → CellsR S w cs vs → afill ((List.range n).map fun i => (i * sz, sz)) cs parts = some cs' →
    ∃ vs', Instr.fill (fun i => some (i * sz, sz)) vs us = some vs' ∧ CellsR S w cs' vs' := by
  intro parts
  induction parts with
  | nil =>
    intro us cs cs' vs hl _ h he
    cases us with
    | nil => simp [afill] at he; subst he; exact ⟨vs, rfl, h⟩
    | cons y us => simp at hl
  | cons x parts ih =>
    intro us cs cs' vs hl hr h he
    cases us with
    | nil => simp at hl
    | cons y us =>
      obtain ⟨i, v⟩ := x
      obtain ⟨i', u⟩ := y
      obtain ⟨hi, hv⟩ := hr 0 _ _ rfl rfl
      simp only at hi hv
      subst hi
      unfold afill at he
      cases hpl : ((List.range n).map fun i => (i * sz, sz))[i]? with
      | none => rw [hpl] at he; cases he
      | some x =>
        have hx : x = (i * sz, sz) := by
          rw [List.getElem?_map] at hpl
          cases hi : (List.range n)[i]? with
          | none => simp [hi] at hpl
          | some k =>
            have hk : k = i := by
              have := List.getElem?_eq_some_iff.1 hi
              obtain ⟨hlt, e⟩ := this
              simpa using e.symm
            rw [hi] at hpl
            subst hk
            exact (Option.some.inj hpl).symm
        subst hx
        rw [hpl] at he
        simp only at he
        split at he
        · rename_i hcnd
          obtain ⟨c1, c2, c3⟩ := hcnd
          obtain ⟨k1, _, k3⟩ := hv.cells c3
          have hput := h.put ⟨k1, k3⟩ (off := i * sz) (by omega)
          rw [c1] at hput
          obtain ⟨vs', e1, e2⟩ := ih us _ cs' _ (by simpa using hl) (fun j x y hx hy => hr (j + 1) x y hx hy) hput he
          refine ⟨vs', ?_, e2⟩
          have hif : (decide (u.cells.size ≠ sz) || decide (i * sz + u.cells.size > vs.size)) = false := by
            have := h.1
            simp
            omega
          unfold Instr.fill
          simp only [hif, Bool.false_eq_true, if_false]
          exact e1
        · cases he
theorem o_buildArr {P : Program} {N : Nat} {env : Env} {H : Heap} {ty t e : TypeId} {n sz : Nat} {agg : Bool} {parts : Array (Nat × Operand)} {zs cs : List AV} [hz : ZcI P t zs] [ha : ArI P t n e] [TyI P e agg sz] (hf : afill ((List.range n).map fun i => (i * sz, sz)) zs (parts.toList.map fun (i, x) => (i, aev env x)) = some cs) :
    V1 P N (.build t parts) ty env H (.agg cs) := by
  intro S a w hc
  obtain ⟨z, hz1, hz2⟩ := run_zc (P := P) (t := t) S w
  obtain ⟨h1, h2⟩ := parts_ok hc parts
  obtain ⟨vs', e1, e2⟩ := fill_arr (S := S) (w := w) n sz _ _ zs cs z.cells h1 h2 hz2 hf
  refine ⟨.agg vs', fun _ _ _ _ => ?_, e2.agg⟩
  simp only [execOp, Instr.build, Sem.run_bind, hz1, Result.andThen_ok, run_und ha.ud, run_sz (P := P) (t := e) (agg := agg) (sz := sz), e1, Sem.run_pure]


/-- A constant text's bytes: they are read, and never written. -/
theorem ao_litb {P : Program} {N : Nat} {B : Base} {Q : Post} {env : Env} {H : Heap} {ops : Array Oper} {rest : List Oper} {t e : TypeId} {n d1 d2 : Nat} {parts : Array (Nat × Operand)} {ty1 ty2 : TypeId} {pos1 pos2 : String} {after1 after2 : Array Edge} {zs cs : List AV} (bs : List UInt8)
    [hu : SlI P t e] [hue : UdI P e (.int .u8)] [TyI P e false 1] [hz : ZcI P e zs] (hn : zs.length = 1) (h0 : 0 < n) (hbig : n ≤ 16777216)
    (hf : afill ((List.range n).map fun i => (i * 1, 1)) (List.replicate n zs).flatten (parts.toList.map fun (i, x) => (i, aev env x)) = some cs) (hcs : cs = bs.map fun b => .int .u8 (b.toNat : Int)) (hd1 : d1 < N) (hd2 : d2 < N)
    (h : AOps P N B ops rest Q ((d2, .pl (bs.map brow)) :: (d1, .junk) :: env) H) :
    AOps P N B ops (⟨some d1, .buildSlice t n parts, ty1, pos1, after1, none⟩ :: ⟨some d2, .convert t t (.tmp d1), ty2, pos2, after2, none⟩ :: rest) Q env H := by
  intro S a w hc hb
  obtain ⟨z, hz1, hz2⟩ := run_zc (P := P) (t := e) S w
  obtain ⟨h1, h2⟩ := parts_ok hc parts
  have hrep := hz2.rep (by omega) n
  rw [hn] at hrep
  obtain ⟨vs', e1, e2⟩ := fill_arr (S := S) (w := w) n 1 _ _ (List.replicate n zs).flatten cs _ h1 h2 hrep hf
  have hlen : cs.length = vs'.size := e2.1
  have hcl : cs.length = n := by
    have hfl : ∀ (parts : List (Nat × AV)) (cs cs' : List AV), afill ((List.range n).map fun i => (i * 1, 1)) cs parts = some cs' → cs'.length = cs.length := by
      intro parts
      induction parts with
      | nil => intro cs cs' he; simp [afill] at he; rw [he]
      | cons x parts ih =>
        intro cs cs' he
        obtain ⟨i, v⟩ := x
        unfold afill at he
        split at he
        · cases he
        · split at he
          · rename_i hcnd
            have := ih _ _ he
            rw [this]
            simp
            omega
          · cases he
    have := hfl _ _ _ hf
    have h3 : ((List.replicate n zs).flatten).length = n := by simp [hn]
    rw [this, h3]
  have hbl : bs.length = n := by rw [← hcl, hcs]; simp
  have hr1 : ∀ pos after, (execOp a.eval ⟨some d1, .buildSlice t n parts, ty1, pos, after, none⟩).run P w = .ok (.value (.slice (some ⟨w.heap.size, 0, none⟩) n n)) (w.alloc (.cells vs' e)) := by
    intro pos after
    have hne : ¬ (n * 1 = 0) := by omega
    have hnb : ¬ (n * 1 > 2 ^ 24) := by omega
    simp only [execOp, Instr.buildSlice, Sem.run_bind, run_und hu.ud, Result.andThen_ok, run_sz (P := P) (t := e) (agg := false) (sz := 1), hnb, hne, if_false, hz1, Sem.run_pure, e1]
    simp [newRow]
  refine wpList_plain rfl fun next hnext => ?_
  unfold Oper.wp
  rw [hr1]
  refine hnext _ _ ?_
  refine wpList_plain rfl fun next2 hnext2 => ?_
  have hev : (a.put (some d1) (.slice (some ⟨w.heap.size, 0, none⟩) n n)).eval (.tmp d1) = .slice (some ⟨w.heap.size, 0, none⟩) n n := by
    simp [Act.eval, Act.put, hc.size, hd1]
  have hr2 : (execOp (a.put (some d1) (.slice (some ⟨w.heap.size, 0, none⟩) n n)).eval ⟨some d2, .convert t t (.tmp d1), ty2, pos2, after2, none⟩).run P (w.alloc (.cells vs' e)) = .ok (.value (.slice (some ⟨w.heap.size, 0, none⟩) n n)) (w.alloc (.cells vs' e (vs'.size, vs'.size + 1))) := by
    have := Lib.run_convert_bytes_const (P := P) w t e vs' n n hu.ud hue.ud
    simp only [execOp, hev, Sem.run_bind, this, Result.andThen_ok, Sem.run_pure]
  unfold Oper.wp
  rw [hr2]
  refine hnext2 _ _ ?_
  have hold : ∀ b, b < w.heap.size → (w.alloc (.cells vs' e (vs'.size, vs'.size + 1))).heap[b]? = w.heap[b]? := fun b hb => (by first | exact heap_alloc_old w _ b hb | exact heap_alloc_old w _ hb)
  have hx : Ext S w S (w.alloc (.cells vs' e (vs'.size, vs'.size + 1))) := ⟨rfl, rfl, rfl, ⟨by simp, fun b hb ho => ⟨ho, hold b hb⟩, fun b arr ty hb' => ⟨arr, by rw [hold b (Array.getElem?_eq_some_iff.1 hb').1]; exact hb', rfl⟩⟩, SExt.refl S⟩
  have hh := same_heap hc.heap hx hold
  have c1 := hc.put (d := some d1) (v := .junk) (u := .slice (some ⟨w.heap.size, 0, none⟩) n n) hx hh (by rintro _ ⟨⟩; exact hd1) .junk
  have hv : VR (own S) (w.alloc (.cells vs' e (vs'.size, vs'.size + 1))) S (.pl (bs.map brow)) (.slice (some ⟨w.heap.size, 0, none⟩) n n) := by
    have key : ∀ i (hi : i < bs.length), vs'[i]? = some (.int .u8 (bs[i].toNat : Int)) := by
      intro i hi
      have h3 : cs[i]? = some (.int .u8 (bs[i].toNat : Int)) := by rw [hcs, List.getElem?_map, List.getElem?_eq_getElem hi]; rfl
      obtain ⟨_, u, h4, h5⟩ := e2.2 i _ h3
      cases h5
      exact h4
    have hl2 : (bs.map brow).length = n := by simp [hbl]
    rw [← hl2]
    refine .pl ⟨w.heap.size, 0, none⟩ 1 (fun i _ => vs'.getD i undef) (Nat.le_refl _) (fun _ => ⟨rfl, fun ho => absurd (own_lt hc.heap ho) (Nat.lt_irrefl _), by simp⟩) (fun i r hr => ?_) (fun i hi j hj => ?_) (fun i j r v hr hv => ?_) (fun i j r v hr hv => ?_)
    · rw [List.getElem?_map] at hr
      cases hq : bs[i]? with
      | none => simp [hq] at hr
      | some b => simp [hq] at hr; subst hr; rfl
    · obtain rfl : j = 0 := by omega
      have hi' : i < bs.length := by simpa using hi
      have hk := key i hi'
      rw [Nat.mul_one, Nat.add_zero, add_none, Nat.zero_add]
      simp only [World.cell?, World.alloc, Array.getElem?_push, if_true, hk]
      simp [hk]
    · rw [List.getElem?_map] at hr
      cases hq : bs[i]? with
      | none => simp [hq] at hr
      | some b =>
        simp [hq] at hr; subst hr
        cases j with
        | zero => simp [brow] at hv; subst hv; rfl
        | succ j => simp [brow] at hv
    · rw [List.getElem?_map] at hr
      cases hq : bs[i]? with
      | none => simp [hq] at hr
      | some b =>
        simp [hq] at hr; subst hr
        cases j with
        | zero =>
          simp [brow] at hv; subst hv
          obtain ⟨hi, rfl⟩ := List.getElem?_eq_some_iff.1 hq
          simp only [Array.getD_eq_getD_getElem?, key i hi, Option.getD_some]
          exact .int
        | succ j => simp [brow] at hv
  have c2 := c1.put (Ext.refl S _) hh (d := some d2) (by rintro _ ⟨⟩; exact hd2) hv
  exact h S _ _ c2 (hb.trans hx)

theorem vfreeze {H : Heap} {S S' : List Slot} {w w' : World} {o : AObj} {off len cap : Nat} {ys : List (List AV)} {u : Value} (h0 : HRel H S w) (hx : Ext S w S' w') (hh : HRel (H ++ [o]) S' w')
    (hv : VR (own S') w' S' (.sl H.length o.gen off len cap) u) (hys : (o.rows.drop off).take len = ys) (hlen : ys.length = len) (hp : ∀ r ∈ ys, AV.bels 0 r = true) :
    ∃ S'', HRel H S'' w' ∧ Ext S w S'' w' ∧ VR (own S'') w' S'' (.pl ys) u := by
  let a : Act := { tmps := #[u], defers := [] }
  have hc : CR 1 [(0, .sl H.length o.gen off len cap)] (H ++ [o]) S' a w' := ⟨hh, fun t => by
    cases t with
    | zero => exact hv
    | succ t => exact .junk, rfl, rfl⟩
  obtain ⟨S2, h2, x2⟩ := hc.freeze (B := ⟨S, w⟩) (t := 0) (id := H.length) (cap := cap) (o := o) hx rfl (by simp) hys hlen hp
  have h3 := h2.sub (E := [(0, .pl ys)]) (Sub.cons rfl Sub.nil)
  rw [List.set_append_right _ _ (Nat.le_refl _)] at h3
  simp only [Nat.sub_self, List.set_cons_zero] at h3
  have hb : (AV.pl ys).bel H.length = true := by
    exact rfl
  obtain ⟨S4, h4, x4⟩ := h3.fit (B := ⟨S, w⟩) (M := H) x2 (.inr ⟨[⟨o.gen + 1, o.sz, []⟩], rfl, by rw [h0.len]; exact Nat.le_refl _, EBel.cons hb EBel.nil, h0.bel⟩)
  exact ⟨S4, h4.heap, x4, h4.env 0⟩

theorem vbump {H : Heap} {S S' : List Slot} {w w' : World} {id len cap m : Nat} (hm : m ≤ max cap len) {o : AObj} {u : Value} (hx : Ext S w S' w') (hh : HRel H S' w') (hid : H[id]? = some o)
    (hv : VR (own S') w' S' (.sl id o.gen 0 len cap) u) :
    ∃ S'', HRel (H.set id ⟨o.gen + 1, o.sz, o.rows.take len⟩) S'' w' ∧ Ext S w S'' w' ∧ VR (own S'') w' S'' (.sl id (o.gen + 1) 0 len m) u := by
  obtain ⟨s, hs, ok⟩ := hh.slot hid
  have hlt : id < S'.length := (List.getElem?_eq_some_iff.1 hs).1
  have hltH : id < H.length := (List.getElem?_eq_some_iff.1 hid).1
  have hown : ∀ b, own (S'.set id ⟨s.gen + 1, s.sz, s.place⟩) b ↔ own S' b := by
    intro b
    constructor
    · rintro ⟨i, si, hi, hpi⟩
      by_cases e : id = i
      · subst e
        rw [List.getElem?_set_self hlt] at hi
        obtain rfl := Option.some.inj hi
        exact ⟨id, s, hs, hpi⟩
      · rw [List.getElem?_set_ne e] at hi
        exact ⟨i, si, hi, hpi⟩
    · rintro ⟨i, si, hi, hpi⟩
      by_cases e : id = i
      · subst e
        rw [hs] at hi
        obtain rfl := Option.some.inj hi
        exact ⟨id, _, List.getElem?_set_self hlt, hpi⟩
      · exact ⟨i, si, by rw [List.getElem?_set_ne e]; exact hi, hpi⟩
  have hx2 : Ext S' w' (S'.set id ⟨s.gen + 1, s.sz, s.place⟩) w' := ⟨rfl, rfl, rfl, ⟨Nat.le_refl _, fun b _ ho => ⟨fun k => ho ((hown b).1 k), rfl⟩, fun _ arr _ h => ⟨arr, h, rfl⟩⟩, SExt.bump hs (by simp)⟩
  have hh2 : HRel (H.set id ⟨o.gen + 1, o.sz, o.rows.take len⟩) (S'.set id ⟨s.gen + 1, s.sz, s.place⟩) w' := by
    refine ⟨by simpa using hh.len, fun id' o' s' ho' hs' => ?_, fun i j si sj b hi hj hbi hbj => ?_⟩
    · by_cases e : id = id'
      · subst e
        rw [List.getElem?_set_self hlt] at hs'
        rw [List.getElem?_set_self hltH] at ho'
        obtain rfl := Option.some.inj hs'
        obtain rfl := Option.some.inj ho'
        refine ⟨by simp [ok.gen], ok.sz, ok.pos, fun hn => by simp [ok.nope hn], fun b hb => ?_⟩
        obtain ⟨arr, ty', h1, h2⟩ := ok.row hb
        have h2' := h2.mono hx2.stp hx2.slots
        refine ⟨arr, ty', h1, Nat.le_trans (Nat.mul_le_mul_right _ (by simp; omega)) h2'.1, fun i r hr => h2'.2 i r ?_⟩
        rw [List.getElem?_take] at hr
        split at hr
        · exact hr
        · cases hr
      · rw [List.getElem?_set_ne e] at ho' hs'
        have ok' := hh.obj id' o' s' ho' hs'
        refine ⟨ok'.gen, ok'.sz, ok'.pos, ok'.nope, fun b hb => ?_⟩
        obtain ⟨arr, ty', h1, h2⟩ := ok'.row hb
        exact ⟨arr, ty', h1, (h2.mono hx2.stp hx2.slots).1, (h2.mono hx2.stp hx2.slots).2⟩
    · have key : ∀ {i : Nat} {si : Slot}, (S'.set id ⟨s.gen + 1, s.sz, s.place⟩)[i]? = some si → ∃ ti : Slot, S'[i]? = some ti ∧ ti.place = si.place := by
        intro i si h
        by_cases e : id = i
        · subst e
          rw [List.getElem?_set_self hlt] at h
          obtain rfl := Option.some.inj h
          exact ⟨s, hs, rfl⟩
        · rw [List.getElem?_set_ne e] at h
          exact ⟨si, h, rfl⟩
      obtain ⟨ti, hti, hpi⟩ := key hi
      obtain ⟨tj, htj, hpj⟩ := key hj
      exact hh.inj i j ti tj b hti htj (hpi.trans hbi) (hpj.trans hbj)
  refine ⟨_, hh2, hx.trans hx2, ?_⟩
  cases hv with
  | sl s' hs' hg h1 hsl =>
    rw [hs] at hs'
    obtain rfl := Option.some.inj hs'
    refine .sl ⟨s.gen + 1, s.sz, s.place⟩ (List.getElem?_set_self hlt) (by simp [ok.gen]) h1 fun _ => ?_
    obtain ⟨c, hc1, hc2, hsl⟩ := hsl ok.gen.symm
    exact ⟨c, by omega, hc2, hsl⟩

theorem VRs.up {O : Nat → Prop} {w : World} {S : List Slot} {vs : List AV} {us : Array Value} (h : VRs O w S vs us) : VRs O w S (vs.map AV.up) us := by
  refine ⟨by simpa using h.1, fun i v u hv hu => ?_⟩
  rw [List.getElem?_map] at hv
  cases hc : vs[i]? with
  | none => simp [hc] at hv
  | some c => simp [hc] at hv; subst hv; exact (h.2 i c u hc hu).up
theorem AC.up {P : Program} {f : FuncId} {vs us : List AV} {H : Heap} {R : AOut → Heap → Prop} (h : AC P f us H R) (hvs : vs.map AV.up = us) : AC P f vs H R := fun S w cargs hH hv => h S w cargs hH (hvs ▸ hv.up)

section
variable {P : Program} {N : Nat} {B : Base} {env : Env} {H H0 L : Heap} {op : Op} {ty : TypeId}
theorem V2.freeze {o : AObj} {g off len cap : Nat} {ys : List (List AV)} (h : V2 P N op ty env H (.sl H.length g off len cap) (H ++ [o])) (hg : o.gen = g) (hys : (o.rows.drop off).take len = ys) (hlen : ys.length = len) (hp : ∀ r ∈ ys, AV.bels 0 r = true) :
    V2 P N op ty env H (.pl ys) H := by
  subst hg
  intro dst pos after guard S a w hc next Q hn hq
  refine h dst pos after guard S a w hc next Q ?_ (fun _ _ _ _ _ hf => hf.elim)
  rintro v u H' S' w' ⟨rfl, rfl⟩ hh hx hv
  obtain ⟨S2, h2, x2, v2⟩ := vfreeze hc.heap hx hh hv hys hlen hp
  exact hn _ _ _ S2 w' ⟨rfl, rfl⟩ h2 x2 v2
theorem V2.freeze1 {o : AObj} {g len cap : Nat} (h : V2 P N op ty env H (.sl H.length g 0 len cap) (H ++ [o])) (hg : o.gen = g) (hlen : o.rows.length = len) (hp : ∀ r ∈ o.rows, AV.bels 0 r = true) :
    V2 P N op ty env H (.pl o.rows) H := h.freeze hg (by rw [List.drop_zero, ← hlen, List.take_length]) hlen hp
theorem V2.freezeL {o : AObj} {g k len cap : Nat} (h : V2 P N op ty env (H0 ++ L) (.sl (Lid H0.length k) g 0 len cap) (H0 ++ (L ++ [o]))) (hk : L.length = k) (hg : o.gen = g) (hlen : o.rows.length = len) (hp : ∀ r ∈ o.rows, AV.bels 0 r = true) :
    V2 P N op ty env (H0 ++ L) (.pl o.rows) (H0 ++ L) := by
  rw [← Lid_app hk, ← List.append_assoc] at h
  exact V2.freeze1 (g := g) (len := len) (cap := cap) (by simpa [Lid] using h) hg hlen hp
/-- A nil slice, or one with no room, is an empty list. -/
theorem V2.nslpl (h : V2 P N op ty env H .nsl H) : V2 P N op ty env H (.pl []) H := by
  intro dst pos after guard S a w hc next Q hn hq
  refine h dst pos after guard S a w hc next Q ?_ (fun _ _ _ _ _ hf => hf.elim)
  rintro v u H' S' w' ⟨rfl, rfl⟩ hh hx hv
  refine hn _ _ _ S' w' ⟨rfl, rfl⟩ hh hx ?_
  cases hv with
  | @nsl _ ad => exact .pl (xs := []) default 0 (fun _ _ => undef) (Nat.zero_le _) (fun h => absurd rfl h) (fun _ _ h => by simp at h) (fun _ h => by simp at h) (fun _ _ _ _ h => by simp at h) (fun _ _ _ _ h => by simp at h)

theorem V2.ghost (h : V2 P N op ty env H .nsl H) (sz : Nat) (hp : 0 < sz) : V2 P N op ty env H (.sl H.length 0 0 0 0) (H ++ [⟨0, sz, []⟩]) := by
  intro dst pos after guard S a w hc next Q hn hq
  refine h dst pos after guard S a w hc next Q ?_ (fun _ _ _ _ _ hf => hf.elim)
  rintro v u H' S' w' ⟨rfl, rfl⟩ hh hx hv
  have hc1 : CR 1 [(0, .nsl)] H' S' { tmps := #[u], defers := [] } w' := ⟨hh, fun t => by
    cases t with
    | zero => exact hv
    | succ t => exact .junk, rfl, rfl⟩
  obtain ⟨S2, h2, x2⟩ := hc1.ghost (B := ⟨S, w⟩) (t := 0) hx rfl hp
  exact hn _ _ _ S2 w' ⟨rfl, rfl⟩ h2.heap x2 (h2.env 0)
theorem V2.bump {id len cap m : Nat} {o : AObj} (hm : m ≤ max cap len) (h : V2 P N op ty env H (.sl id o.gen 0 len cap) H) (hid : H[id]? = some o) : V2 P N op ty env H (.sl id (o.gen + 1) 0 len m) (H.set id ⟨o.gen + 1, o.sz, o.rows.take len⟩) := by
  intro dst pos after guard S a w hc next Q hn hq
  refine h dst pos after guard S a w hc next Q ?_ (fun _ _ _ _ _ hf => hf.elim)
  rintro v u H' S' w' ⟨rfl, rfl⟩ hh hx hv
  obtain ⟨S2, h2, x2, v2⟩ := vbump hm hx hh hid hv
  exact hn _ _ _ S2 w' ⟨rfl, rfl⟩ h2 x2 v2

/-- Append to a slice with nothing in it, and no room: a row of the call's own, whatever comes. -/
theorem g_append_nsl {t t' e : TypeId} {x y : Operand} {sz bytes k : Nat} {agg : Bool} {zs : List AV} {ys : List (List AV)} [hu : SlI P t e] [NiI P t'] [TyI P e agg sz] [hz : ZcI P e zs] [ByI P e bytes]
    (hx : aev env x = .nsl) (hy : Src P N env (H0 ++ L) y sz ys) (hn : zs.length = sz) (hp : 0 < sz) (h63 : ys.length ≤ 9223372036854775807) (hb : ys.length * bytes ≤ 140737488355328) (hk : L.length = k) :
    V2 P N (.call { callee := .builtin .append, args := #[x, y], argTypes := #[t, t'] }) ty env (H0 ++ L) (.sl (Lid H0.length k) 0 0 ys.length ys.length) (H0 ++ (L ++ [⟨0, sz, ys⟩])) := by
  rcases Nat.eq_zero_or_pos ys.length with h0 | h0
  · have : ys = [] := List.eq_nil_of_length_eq_zero h0
    subst this
    have := (o_append_nsl0 (P := P) (N := N) (env := env) (H := H0 ++ L) (ty := ty) (t := t) (t' := t') (e := e) (agg := agg) (sz := sz) hx hy).ghost sz hp
    rw [List.length_append, hk, List.append_assoc] at this
    exact this
  · exact o_append_nslL (agg := agg) (e := e) (zs := zs) hn hp hx hy h0 h63 hb hk
/-- Append to a row of the call's own, whatever comes. -/
theorem g_append {t t' e : TypeId} {x y : Operand} {n k g len cap sz bytes : Nat} {agg : Bool} {zs : List AV} {o : AObj} {ys : List (List AV)} [hu : SlI P t e] [NiI P t'] [TyI P e agg sz] [hz : ZcI P e zs] [ByI P e bytes]
    (hx : aev env x = .sl (Lid n k) g 0 len cap) (hn : H0.length = n) (hk : L[k]? = some o) (hg : o.gen = g) (hsz : o.sz = sz) (hy : Src P N env (H0 ++ L) y sz ys) (hz' : zs.length = sz) (hlen : len ≤ o.rows.length) (h63 : len + ys.length ≤ 9223372036854775807) (hb : (len + ys.length) * bytes ≤ 140737488355328) :
    V2 P N (.call { callee := .builtin .append, args := #[x, y], argTypes := #[t, t'] }) ty env (H0 ++ L) (.sl (Lid n k) (g + 1) 0 (len + ys.length) (len + ys.length)) (H0 ++ L.set k ⟨g + 1, o.sz, o.rows.take len ++ ys⟩) := by
  rcases Nat.eq_zero_or_pos ys.length with h0 | h0
  · have : ys = [] := List.eq_nil_of_length_eq_zero h0
    subst this
    subst hg
    have := (o_append0 (P := P) (N := N) (env := env) (H := H0 ++ L) (ty := ty) (t := t) (t' := t') (e := e) (agg := agg) (sz := sz) hx (lk hn hk) hy).bump (m := len) (by omega) (lk hn hk)
    rw [st hn] at this
    simpa using this
  · exact w_append (agg := agg) (e := e) (zs := zs) hx hn hk hg hsz hy hz' hlen h0 h63 hb
/-- Cleared: what was known of the row from there on is let go. -/
theorem o_clear {t e : TypeId} {x : Operand} {id off len cap sz : Nat} {agg : Bool} {zs : List AV} {o : AObj} [hu : SlI P t e] [TyI P e agg sz] [hz : ZcI P e zs] (hx : aev env x = .sl id o.gen off len cap) (hid : H[id]? = some o) (hsz : o.sz = sz) (hn : zs.length = sz) :
    V2 P N (.call { callee := .builtin .clear, args := #[x], argTypes := #[t] }) ty env H (.tup []) (H.set id { o with rows := o.rows.take off }) := by
  intro dst pos after guard S a w hc next Q hnext _
  obtain ⟨s, c, hsl, ok, hcc, hlc, h⟩ := hc.slc hx hid
  have hlt : id < S.length := (List.getElem?_eq_some_iff.1 hsl).1
  obtain ⟨z, hz1, hz2⟩ := run_zc (P := P) (t := e) S w
  have key : ∀ w1, (Builtin.clear_ #[t] ty #[a.eval x]).run P w = .ok (.tuple #[]) w1 → (∃ H', (H' = H.set id { o with rows := o.rows.take off }) ∧ HRel H' S w1 ∧ Ext S w S w1) → Oper.wp P ⟨dst, .call { callee := .builtin .clear, args := #[x], argTypes := #[t] }, ty, pos, after, guard⟩ a w next Q := by
    rintro w1 hr ⟨H', rfl, hh, hx'⟩
    have hrun : (execOp a.eval ⟨dst, .call { callee := .builtin .clear, args := #[x], argTypes := #[t] }, ty, pos, after, guard⟩).run P w = .ok (.value (.tuple #[])) w1 := by
      simp [execOp, resolve, invoke, builtin, hr]
    unfold Oper.wp
    rw [hrun]
    exact hnext _ _ _ _ _ ⟨rfl, rfl⟩ hh hx' undef_ok
  have take_hrel : ∀ (hnil : o.rows.take off = o.rows ∨ s.place = none ∨ True), HRel (H.set id { o with rows := o.rows.take off }) S w := by
    intro _
    refine ⟨by simpa using hc.heap.len, fun id' o' s' ho' hs' => ?_, hc.heap.inj⟩
    by_cases e : id = id'
    · subst e
      rw [List.getElem?_set_self (List.getElem?_eq_some_iff.1 hid).1] at ho'
      obtain rfl := Option.some.inj ho'
      rw [hsl] at hs'
      obtain rfl := Option.some.inj hs'
      refine ⟨ok.gen, ok.sz, ok.pos, fun hn => by simp [ok.nope hn], fun b hb => ?_⟩
      obtain ⟨arr, ty', h1, h2⟩ := ok.row hb
      refine ⟨arr, ty', h1, Nat.le_trans (Nat.mul_le_mul_right _ (by simp; omega)) h2.1, fun i r hr => h2.2 i r ?_⟩
      rw [List.getElem?_take] at hr
      split at hr
      · exact hr
      · cases hr
    · rw [List.getElem?_set_ne e] at ho'
      exact hc.heap.obj id' o' s' ho' hs'
  rcases h with ⟨h0, ad, he⟩ | ⟨b, arr, et, hp, he, hbl, hfit, hrow⟩
  · refine key w ?_ ⟨_, rfl, take_hrel (.inr (.inr trivial)), Ext.refl S w⟩
    rw [he]
    cases ad <;> simp [Builtin.clear_, run_und hu.ud]
  · rcases Nat.eq_zero_or_pos len with h0 | h0
    · subst h0
      refine key w ?_ ⟨_, rfl, take_hrel (.inr (.inr trivial)), Ext.refl S w⟩
      rw [he]
      simp [Builtin.clear_, run_und hu.ud]
    · have hzn : z.cells.size = sz := by
        have := hz2.1
        omega
      have hvs : (Builtin.zeroCells z.cells len).toList.length = len * sz := by rw [Array.length_toList, size_zeroCells, hzn]
      have hfit2 : off * o.sz + (Builtin.zeroCells z.cells len).toList.length ≤ arr.size := by
        rw [hvs, hsz, ← Nat.add_mul]
        rw [hsz] at hfit
        exact Nat.le_trans (Nat.mul_le_mul_right _ (by omega)) hfit
      have hone : ∀ v ∈ (Builtin.zeroCells z.cells len).toList, v.oneCell' = true := by
        intro v hv
        obtain ⟨i, hi⟩ := List.mem_iff_getElem?.1 hv
        rw [Array.getElem?_toList] at hi
        have hi2 := (Array.getElem?_eq_some_iff.1 hi).1
        have hpos : 0 < z.cells.size := by
          rcases Nat.eq_zero_or_pos z.cells.size with e | e
          · rw [size_zeroCells, e] at hi2; simp at hi2
          · exact e
        have hm : i % z.cells.size < z.cells.size := Nat.mod_lt _ hpos
        have hv2 : v = z.cells[i % z.cells.size] := by
          have := (Array.getElem?_eq_some_iff.1 hi).2
          rw [← this]
          simp [Builtin.zeroCells, hm]
        have hj : i % z.cells.size < zs.length := by rw [hn, ← hzn]; exact hm
        obtain ⟨h1, u, h2, h3⟩ := hz2.2 _ _ (List.getElem?_eq_getElem hj)
        rw [Array.getElem?_eq_getElem hm] at h2
        rw [hv2, Option.some.inj h2]
        exact h3.one h1
      have hst := run_storeCells_at P b (off * o.sz) et (Builtin.zeroCells z.cells len).toList 0 arr w hbl (by simpa using hfit2) hone
      simp only [Nat.add_zero] at hst
      have hw := hc.heap.write (rows' := o.rows.take off) (arr' := (arr.toList.take (off * o.sz) ++ (Builtin.zeroCells z.cells len).toList ++ arr.toList.drop (off * o.sz + (Builtin.zeroCells z.cells len).toList.length)).toArray) hid hsl hp hbl (by simp only [List.size_toArray, List.length_append, List.length_take, List.length_drop, Array.length_toList] at *; omega) ?_
      · refine key _ ?_ ⟨_, rfl, hw.1, hw.2⟩
        rw [he]
        have hl : ∃ m, len = m + 1 := ⟨len - 1, by omega⟩
        obtain ⟨m, rfl⟩ := hl
        simp [Builtin.clear_, run_und hu.ud, hz1, hst]
      · refine ⟨?_, fun i r hr => ?_⟩
        · have := hrow.1
          have h2 : (o.rows.take off).length * o.sz ≤ o.rows.length * o.sz := Nat.mul_le_mul_right _ (by simp; omega)
          simp only [List.size_toArray, List.length_append, List.length_take, List.length_drop, Array.length_toList] at *
          omega
        · have hi : i < off := by
            have := (List.getElem?_eq_some_iff.1 hr).1
            simp at this; omega
          have hr' : o.rows[i]? = some r := by
            rw [List.getElem?_take, if_pos hi] at hr; exact hr
          obtain ⟨k1, k2⟩ := hrow.2 i r hr'
          refine ⟨k1, fun j v hv => ?_⟩
          obtain ⟨k3, u, k4, k5⟩ := k2 j v hv
          have hj : j < o.sz := by rw [← k1]; exact (List.getElem?_eq_some_iff.1 hv).1
          have hlt2 : i * o.sz + j < off * o.sz := by
            have : (i + 1) * o.sz ≤ off * o.sz := Nat.mul_le_mul_right _ hi
            rw [Nat.succ_mul] at this
            omega
          refine ⟨k3, u, ?_, k5⟩
          have hlt3 : i * o.sz + j < arr.size := (Array.getElem?_eq_some_iff.1 k4).1
          rw [List.getElem?_toArray, List.append_assoc, List.getElem?_append_left (by simp; omega), List.getElem?_take, if_pos hlt2, Array.getElem?_toList]
          exact k4
/-- A literal that is never written again. -/
theorem g_lit1 {t e : TypeId} {sz : Nat} {x : Operand} {v : AV} {agg : Bool} {zs cs : List AV} [hu : SlI P t e] [TyI P e agg sz] [hz : ZcI P e zs] (hn : zs.length = sz) (hp : 0 < sz) (hbig : sz ≤ 16777216) (hx : aev env x = v) (hv : v.cellish = true) (hcs : v.cells = cs) (hl : cs.length = sz) (hb : AV.bels 0 cs = true) :
    V2 P N (.buildSlice t 1 #[(0, x)]) ty env H (.pl [cs]) H := by
  have h1 := o_buildSlice1L (P := P) (N := N) (env := env) (H0 := H) (L := []) (ty := ty) (t := t) (e := e) (agg := agg) (zs := zs) hn hp hbig hx hv hcs hl rfl
  have := V2.freezeL (L := []) h1 rfl rfl rfl (by intro r hr; simp only [List.mem_singleton] at hr; subst hr; exact hb)
  simpa using this
theorem w_clear {t e : TypeId} {x : Operand} {n k g off len cap sz : Nat} {agg : Bool} {zs : List AV} {o : AObj} [hu : SlI P t e] [TyI P e agg sz] [hz : ZcI P e zs] (hx : aev env x = .sl (Lid n k) g off len cap) (hn : H0.length = n) (hk : L[k]? = some o) (hg : o.gen = g) (hsz : o.sz = sz) (hz' : zs.length = sz) :
    V2 P N (.call { callee := .builtin .clear, args := #[x], argTypes := #[t] }) ty env (H0 ++ L) (.tup []) (H0 ++ L.set k { o with rows := o.rows.take off }) := by
  subst hg
  have := o_clear (P := P) (N := N) (env := env) (H := H0 ++ L) (ty := ty) (t := t) (e := e) (agg := agg) (zs := zs) hx (lk hn hk) hsz hz'
  rwa [st hn] at this
/-- A cut with its room. -/
theorem o_slices3 {t e : TypeId} {x hi mx : Operand} {lo : Option Operand} {k k' : IntKind} {id g off len cap l h m sz : Nat} {agg : Bool} {o : AObj} [hu : SlI P t e] [TyI P e agg sz] (hx : aev env x = .sl id g off len cap) (hid : H[id]? = some o) (hg : o.gen = g) (hsz : o.sz = sz) (hl : Bd env lo 0 l) (hh : aev env hi = .int k (h : Int)) (hm : aev env mx = .int k' (m : Int)) (h1 : l ≤ h) (h2 : h ≤ m) (h3 : m ≤ max len cap) :
    V1 P N (.slice t x lo (Option.some hi) (Option.some mx)) ty env H (.sl id g (off + l) (h - l) (m - l)) := by
  subst hg
  intro S a w hc
  obtain ⟨s, c, hs, ok, hcc, hlc, hh2⟩ := hc.slc hx hid
  rcases hh2 with ⟨h0, ad, he⟩ | ⟨b, arr, et, hp, he, hb, hfit, hrow⟩
  · obtain rfl : m = 0 := by omega
    obtain rfl : h = 0 := by omega
    obtain rfl : l = 0 := by omega
    have el : len = 0 := by omega
    subst el
    have hb' := run_sliceBounds3 (P := P) hc true (len := 0) (cap := 0) hl hh hm h1 (by omega) (by omega)
    refine ⟨.slice ad 0 0, fun _ _ _ _ => ?_, .sl s hs (by rw [ok.gen]; exact Nat.le_refl _) rfl fun _ => ⟨0, by omega, by omega, .inl ⟨rfl, ad, rfl⟩⟩⟩
    simp [execOp, he, Instr.sliceAt, Instr.slice, run_und hu.ud, hb', run_sz (P := P) (t := e) (agg := agg) (sz := sz)]
  · have hb' := run_sliceBounds3 (P := P) hc true (len := len) (cap := c) hl hh hm h1 h2 (by omega)
    refine ⟨.slice (if m = l then some ⟨b, off * o.sz, none⟩ else some ⟨b, (off + l) * o.sz, none⟩) (h - l) (m - l), fun _ _ _ _ => ?_, .sl s hs (by rw [ok.gen]; exact Nat.le_refl _) rfl fun _ => ⟨m - l, by omega, by omega, ?_⟩⟩
    · have e1 : (⟨b, off * o.sz, none⟩ : Addr).add (l * sz) = ⟨b, (off + l) * o.sz, none⟩ := by rw [add_none, hsz, Nat.add_mul]
      simp [execOp, he, Instr.sliceAt, Instr.slice, run_und hu.ud, hb', run_sz (P := P) (t := e) (agg := agg) (sz := sz), e1]
    · by_cases e1 : m = l
      · left
        refine ⟨by omega, some ⟨b, off * o.sz, none⟩, ?_⟩
        rw [if_pos e1, show h - l = 0 by omega, show m - l = 0 by omega]
      · right
        refine ⟨b, arr, et, hp, by rw [if_neg e1, ok.sz], hb, ?_⟩
        rw [← ok.sz]
        refine Nat.le_trans (Nat.mul_le_mul_right _ ?_) hfit
        omega
/-- Append, and the room is still known. -/
theorem o_appendT {t t' e : TypeId} {x y : Operand} {id g len cap sz bytes : Nat} {agg : Bool} {zs : List AV} {o : AObj} {ys : List (List AV)} (m : Nat) [hu : SlI P t e] [NiI P t'] [TyI P e agg sz] [hz : ZcI P e zs] [ByI P e bytes]
    (hx : aev env x = .sl id g 0 len cap) (hid : H[id]? = some o) (hg : o.gen = g) (hsz : o.sz = sz) (hy : Src P N env H y sz ys) (hz' : zs.length = sz) (hlen : len ≤ o.rows.length) (h63 : len + ys.length ≤ 9223372036854775807) (hb : (len + ys.length) * bytes ≤ 140737488355328) (hm : m ≤ max cap (len + ys.length)) :
    V2 P N (.call { callee := .builtin .append, args := #[x, y], argTypes := #[t, t'] }) ty env H (.sl id (g + 1) 0 (len + ys.length) m) (H.set id ⟨g + 1, o.sz, o.rows.take len ++ ys⟩) := by
  subst hg
  rcases Nat.eq_zero_or_pos ys.length with h0 | h0
  · have : ys = [] := List.eq_nil_of_length_eq_zero h0
    subst this
    have := (o_append0 (P := P) (N := N) (env := env) (H := H) (ty := ty) (t := t) (t' := t') (e := e) (agg := agg) (sz := sz) hx hid hy).bump (m := m) (by simpa using hm) hid
    simpa using this
  · exact o_appendM (agg := agg) (e := e) (zs := zs) hz' hx hid hsz hlen hy h0 h63 hb hm
theorem w_appendF {t t' e : TypeId} {x y : Operand} {id g len cap sz bytes : Nat} {agg : Bool} {zs : List AV} {o : AObj} {ys : List (List AV)} (m : Nat) [hu : SlI P t e] [NiI P t'] [TyI P e agg sz] [hz : ZcI P e zs] [ByI P e bytes]
    (hx : aev env x = .sl id g 0 len cap) (hid : H0[id]? = some o) (hg : o.gen = g) (hsz : o.sz = sz) (hy : Src P N env (H0 ++ L) y sz ys) (hz' : zs.length = sz) (hlen : len ≤ o.rows.length) (h63 : len + ys.length ≤ 9223372036854775807) (hb : (len + ys.length) * bytes ≤ 140737488355328) (hm : m ≤ max cap (len + ys.length)) :
    V2 P N (.call { callee := .builtin .append, args := #[x, y], argTypes := #[t, t'] }) ty env (H0 ++ L) (.sl id (g + 1) 0 (len + ys.length) m) (H0.set id ⟨g + 1, o.sz, o.rows.take len ++ ys⟩ ++ L) := by
  have := o_appendT (P := P) (N := N) (env := env) (H := H0 ++ L) (ty := ty) (t := t) (t' := t') (e := e) (agg := agg) (zs := zs) (bytes := bytes) m hx (lkF hid) hg hsz hy hz' hlen h63 hb hm
  rwa [stF hid] at this
theorem w_clearF {t e : TypeId} {x : Operand} {id g off len cap sz : Nat} {agg : Bool} {zs : List AV} {o : AObj} [hu : SlI P t e] [TyI P e agg sz] [hz : ZcI P e zs] (hx : aev env x = .sl id g off len cap) (hid : H0[id]? = some o) (hg : o.gen = g) (hsz : o.sz = sz) (hz' : zs.length = sz) :
    V2 P N (.call { callee := .builtin .clear, args := #[x], argTypes := #[t] }) ty env (H0 ++ L) (.tup []) (H0.set id { o with rows := o.rows.take off } ++ L) := by
  subst hg
  have := o_clear (P := P) (N := N) (env := env) (H := H0 ++ L) (ty := ty) (t := t) (e := e) (agg := agg) (zs := zs) hx (lkF hid) hsz hz'
  rwa [stF hid] at this
/-- The call ends; a row that was there before has been turned. -/
theorem e_doneF {B : Base} {rs : List ResultVar} {vs : List AV} {v : AV} {args : List AV} {M : Heap} (hB : Begun B H args) (h : ResVs P env (M ++ L) rs vs) (hv : tupv vs = v) (hb : v.bel H.length = true) (hl : M.length = H.length) (hM : HBel H.length M) : Ends P B rs (Ret v M) .ret env (M ++ L) := by
  refine ⟨vs, M, h, .inr ⟨L, rfl, by rw [hB.len, hl]; exact Nat.le_refl _, by rw [hv, hl]; exact hb, by rw [hl]; exact hM⟩, by rw [hv], rfl⟩
theorem HBel.set {n : Nat} {M : Heap} (h : HBel n M) (id : Nat) (o : AObj) (ho : ∀ r ∈ o.rows, AV.bels n r = true) : HBel n (M.set id o) := fun o' ho' => by
  rcases List.mem_or_eq_of_mem_set ho' with h1 | rfl
  · exact h o' h1
  · exact ho
/-- A call that is given slices with nothing in them. -/
theorem V2.callu {f : Nat} {xs : Array Operand} {ts : Array TypeId} {v : AV} {us : List AV} {M : Heap} [FnI P f] (hac : AC P f us H (Ret v M)) (hvs : (xs.toList.map (aev env)).map AV.up = us) :
    V2 P N (.call { callee := .value (.func f), args := xs, argTypes := ts }) ty env H v M := V2.call (hac.up hvs) rfl
/-- A call that turns a row of the call's own. -/
theorem V2.callo3 {f g n c id' : Nat} {xs : Array Operand} {ts : Array TypeId} {vs : List AV} {o : AObj} {k : Nat} [FnI P f] (hac : AC P f vs (H0 ++ L) (Ret (.sl id' g 0 n c) ((H0 ++ L).set id' o))) (hvs : xs.toList.map (aev env) = vs) (hk : id' = Lid H0.length k) :
    V2 P N (.call { callee := .value (.func f), args := xs, argTypes := ts }) ty env (H0 ++ L) (.sl (Lid H0.length k) g 0 n c) (H0 ++ L.set k o) := by
  subst hk
  have := V2.call (N := N) (ty := ty) (ts := ts) hac hvs
  rwa [st rfl] at this
end

/-! #### where two ways meet -/
def JoinP (B : Base) (E : Env) (M : Heap) (Q : Post) : Post
  | .nrm, e, H => Sub E e ∧ Fit B E H M
  | x, e, H => Q x e H
section
variable {P : Program} {N : Nat} {B : Base} {Q : Post} {env : Env} {H : Heap}
theorem aw_joinQ {x : Code} (E : Env) (M : Heap) (h : AWp P N B x (JoinP B E M Q) env H) (k : Q .nrm E M) : AWp P N B x Q env H := by
  intro S a w hc hb
  refine wp_mono (h S a w hc hb) ?_
  rintro e a' w' ⟨ax, env', H', S', hj, r, c', k'⟩
  cases ax with
  | nrm =>
    cases r
    obtain ⟨S2, c2, k2⟩ := (c'.sub hj.1).fit k' hj.2
    exact ⟨.nrm, E, M, S2, k, .nrm, c2, k2⟩
  | brk i => exact ⟨_, env', H', S', hj, r, c', k'⟩
  | ret => exact ⟨_, env', H', S', hj, r, c', k'⟩
  | pan v => exact ⟨_, env', H', S', hj, r, c', k'⟩
theorem join_nrm {E : Env} {M : Heap} (h1 : Sub E env) (h2 : Fit B E H M) : JoinP B E M Q .nrm env H := ⟨h1, h2⟩
theorem join_ret {E : Env} {M : Heap} (h : Q .ret env H) : JoinP B E M Q .ret env H := h
theorem join_brk {E : Env} {M : Heap} {i : Nat} (h : Q (.brk i) env H) : JoinP B E M Q (.brk i) env H := h
end

/-! #### regions that draw, as1 a walk uses them -/
/-- The memory has these rows, and some more. -/
def AtR (H0 L0 : Heap) (k : Nat) (H : Heap) : Prop := ∃ G : Heap, H = H0 ++ G ∧ G[k]? = L0[k]?
def Pre (H0 L0 H : Heap) : Prop := ∃ G, H = H0 ++ (L0 ++ G)
section
variable {P : Program} {N : Nat} {B : Base} {ops : Array Oper} {a : Option Nat} {C : Heap → Prop} {F : Env → Heap → Prop} {Q : Post}
variable {fuel : Nat} {listed : Array Bool} {env : Env} {H H0 L : Heap} {op : Op} {ty : TypeId} {pos : String} {after : Array Edge} {v : AV} {id : Nat} {l : List Oper}
theorem yet_done {X : Prop} {i : Nat} (h : listed.getD i true = true) : Yet (some i) listed → X := fun k => by
  have : listed.getD i true = false := k
  rw [h] at this
  cases this
theorem aw_drawP (hm : P.follows .mixedOrders = true) (a : Option Nat) (k : Nat) (h : AAny P N B l.toArray a (Pre H0 (L.take k)) (Q .nrm) l.length (Array.replicate l.length false) env (H0 ++ L)) : AWp P N B (.region id l.toArray true) Q env (H0 ++ L) := aw_draw hm a _ h
/-- Nothing in memory is asked. -/
theorem aw_draw0 (hm : P.follows .mixedOrders = true) (h : AAny P N B l.toArray none (fun _ => True) (Q .nrm) l.length (Array.replicate l.length false) env H) : AWp P N B (.region id l.toArray true) Q env H := aw_draw hm none _ h
/-- One row is as1 it was. -/
theorem aw_drawR (hm : P.follows .mixedOrders = true) (a : Option Nat) (k : Nat) (h : AAny P N B l.toArray a (AtR H0 L k) (Q .nrm) l.length (Array.replicate l.length false) env (H0 ++ L)) : AWp P N B (.region id l.toArray true) Q env (H0 ++ L) := aw_draw hm a _ h
theorem aqr {d k : Nat} {L0 : Heap} (i : Nat) (hi : ops[i]? = some ⟨some d, op, ty, pos, after, none⟩) (hB : firstB ops listed a i = true) (hd : DN d N) (h1 : ∀ G : Heap, G[k]? = L0[k]? → V1 P N op ty (renv ⟨some d, op, ty, pos, after, none⟩ env) (H0 ++ G) v)
    (h : AAny P N B ops a (AtR H0 L0 k) F fuel (listed.setIfInBounds i true) ((d, v) :: env) H) : AAny P N B ops a (AtR H0 L0 k) F (fuel + 1) listed env H :=
  aq1 i hi hB hd (by rintro _ ⟨G, rfl, hG⟩; exact h1 G hG) h
theorem aqyr {d j g k : Nat} {want : Bool} {L0 : Heap} (i : Nat) (hi : ops[i]? = some ⟨some d, op, ty, pos, after, some (j, want)⟩) (hB : firstB ops listed a i = true) (hd : DN d N) (hj : (ops[j]?).bind (·.dst) = some g) (hb : get env g = .bool want)
    (h1 : ∀ G : Heap, G[k]? = L0[k]? → V1 P N op ty (renv ⟨some d, op, ty, pos, after, some (j, want)⟩ env) (H0 ++ G) v)
    (h : AAny P N B ops a (AtR H0 L0 k) F fuel (listed.setIfInBounds i true) ((d, v) :: env) H) : AAny P N B ops a (AtR H0 L0 k) F (fuel + 1) listed env H :=
  aqy1 i hi hB hd hj hb (by rintro _ ⟨G, rfl, hG⟩; exact h1 G hG) h
theorem aw_of_out {c : Code} (t : Nat) (v : AV) (h : AWp P N B c (Out B env t v H) env H) (k : Q .nrm ((t, v) :: env) H) : AWp P N B c Q env H := by
  intro S a w hc hb
  refine Code.wp_mono ?_ (h S a w hc hb)
  rintro e a' w' ⟨x, e', H', S', ⟨rfl, hv, hs, rfl⟩, r, c', k'⟩
  cases r
  exact ⟨.nrm, _, _, S', k, .nrm, c'.sub (hs.sub hv), k'⟩
theorem aq02 {d : Nat} (i : Nat) (hi : ops[i]? = some ⟨some d, op, ty, pos, after, none⟩) (hB : firstB0 ops listed a i = true) (hd : DN d N) (h1 : ∀ H', V2 P N op ty (renv ⟨some d, op, ty, pos, after, none⟩ env) H' v H')
    (h : AAny P N B ops a C F fuel (listed.setIfInBounds i true) ((d, v) :: env) H) : AAny P N B ops a C F (fuel + 1) listed env H :=
  aa_first0 i hi hB (by rintro _ ⟨⟩; exact hd) (.inl ⟨rfl, fun H _ => h1 H _ _ _ _⟩) h
theorem aqy0 {d j g : Nat} {want : Bool} (i : Nat) (hi : ops[i]? = some ⟨some d, op, ty, pos, after, some (j, want)⟩) (hB : firstB0 ops listed a i = true) (hd : DN d N) (hj : (ops[j]?).bind (·.dst) = some g) (hb : get env g = .bool want)
    (h1 : ∀ H', V1 P N op ty (renv ⟨some d, op, ty, pos, after, some (j, want)⟩ env) H' v)
    (h : AAny P N B ops a C F fuel (listed.setIfInBounds i true) ((d, v) :: env) H) : AAny P N B ops a C F (fuel + 1) listed env H :=
  aa_first0 i hi hB (by rintro _ ⟨⟩; exact hd) (.inl ⟨⟨g, hj, .inl ⟨want, hb, by simp⟩⟩, fun H hC => (h1 H).toV2 _ _ _ _⟩) h
theorem aqy02 {d j g : Nat} {want : Bool} (i : Nat) (hi : ops[i]? = some ⟨some d, op, ty, pos, after, some (j, want)⟩) (hB : firstB0 ops listed a i = true) (hd : DN d N) (hj : (ops[j]?).bind (·.dst) = some g) (hb : get env g = .bool want)
    (h1 : ∀ H', V2 P N op ty (renv ⟨some d, op, ty, pos, after, some (j, want)⟩ env) H' v H')
    (h : AAny P N B ops a C F fuel (listed.setIfInBounds i true) ((d, v) :: env) H) : AAny P N B ops a C F (fuel + 1) listed env H :=
  aa_first0 i hi hB (by rintro _ ⟨⟩; exact hd) (.inl ⟨⟨g, hj, .inl ⟨want, hb, by simp⟩⟩, fun H hC => h1 H _ _ _ _⟩) h
theorem aqn0 {d j g : Nat} {want c : Bool} (i : Nat) (hi : ops[i]? = some ⟨some d, op, ty, pos, after, some (j, want)⟩) (hB : firstB0 ops listed a i = true) (hd : DN d N) (hj : (ops[j]?).bind (·.dst) = some g) (hb : get env g = .bool c) (hc : (c == want) = false)
    (h : AAny P N B ops a C F fuel (listed.setIfInBounds i true) ((d, .tup []) :: env) H) : AAny P N B ops a C F (fuel + 1) listed env H :=
  aa_first0 i hi hB (by rintro _ ⟨⟩; exact hd) (.inr ⟨⟨g, hj, .inl ⟨c, hb, hc.symm⟩⟩, rfl⟩) h
theorem aqu0 {d j g : Nat} {want : Bool} (i : Nat) (hi : ops[i]? = some ⟨some d, op, ty, pos, after, some (j, want)⟩) (hB : firstB0 ops listed a i = true) (hd : DN d N) (hj : (ops[j]?).bind (·.dst) = some g) (hb : get env g = .tup [])
    (h : AAny P N B ops a C F fuel (listed.setIfInBounds i true) ((d, .tup []) :: env) H) : AAny P N B ops a C F (fuel + 1) listed env H :=
  aa_first0 i hi hB (by rintro _ ⟨⟩; exact hd) (.inr ⟨⟨g, hj, .inr ⟨hb, rfl⟩⟩, rfl⟩) h
/-- By what the first rows hold. -/
theorem aqp {d : Nat} {L0 : Heap} (i : Nat) (hi : ops[i]? = some ⟨some d, op, ty, pos, after, none⟩) (hB : firstB ops listed a i = true) (hd : DN d N) (h1 : ∀ G, V1 P N op ty (renv ⟨some d, op, ty, pos, after, none⟩ env) (H0 ++ (L0 ++ G)) v)
    (h : AAny P N B ops a (Pre H0 L0) F fuel (listed.setIfInBounds i true) ((d, v) :: env) H) : AAny P N B ops a (Pre H0 L0) F (fuel + 1) listed env H :=
  aq1 i hi hB hd (by rintro _ ⟨G, rfl⟩; exact h1 G) h
theorem aqyp {d j g : Nat} {want : Bool} {L0 : Heap} (i : Nat) (hi : ops[i]? = some ⟨some d, op, ty, pos, after, some (j, want)⟩) (hB : firstB ops listed a i = true) (hd : DN d N) (hj : (ops[j]?).bind (·.dst) = some g) (hb : get env g = .bool want)
    (h1 : ∀ G, V1 P N op ty (renv ⟨some d, op, ty, pos, after, some (j, want)⟩ env) (H0 ++ (L0 ++ G)) v)
    (h : AAny P N B ops a (Pre H0 L0) F fuel (listed.setIfInBounds i true) ((d, v) :: env) H) : AAny P N B ops a (Pre H0 L0) F (fuel + 1) listed env H :=
  aqy1 i hi hB hd hj hb (by rintro _ ⟨G, rfl⟩; exact h1 G) h
end
end Go.Av

/-
  WHAT THE PROGRAM's TABLES SAY OF THE TYPES AND FUNCTIONS THAT THE WALKS MEET. Laid by a program of this session's own.
-/
namespace Go.Av
open Go.Proofs
instance ty1 : TyI Try.prog 1 false 1 := ⟨by kernel_rfl, by kernel_rfl⟩
instance no1 : NoI Try.prog 1 := ⟨by kernel_rfl⟩
instance by1 : ByI Try.prog 1 8 := ⟨by kernel_rfl⟩
instance zc1 : ZcI Try.prog 1 [.nfn] := ⟨.nilFunc, by kernel_rfl, rfl, rfl⟩
instance ty2 : TyI Try.prog 2 false 1 := ⟨by kernel_rfl, by kernel_rfl⟩
instance no2 : NoI Try.prog 2 := ⟨by kernel_rfl⟩
instance by2 : ByI Try.prog 2 8 := ⟨by kernel_rfl⟩
instance ud2 : UdI Try.prog 2 (.int .i64) := ⟨by kernel_rfl⟩
instance zc2 : ZcI Try.prog 2 [.int .i64 0] := ⟨.int .i64 0, by kernel_rfl, rfl, rfl⟩
instance ty3 : TyI Try.prog 3 false 1 := ⟨by kernel_rfl, by kernel_rfl⟩
instance no3 : NoI Try.prog 3 := ⟨by kernel_rfl⟩
instance by3 : ByI Try.prog 3 8 := ⟨by kernel_rfl⟩
instance ud3 : UdI Try.prog 3 (.int .i64) := ⟨by kernel_rfl⟩
instance zc3 : ZcI Try.prog 3 [.int .i64 0] := ⟨.int .i64 0, by kernel_rfl, rfl, rfl⟩
instance ty4 : TyI Try.prog 4 false 1 := ⟨by kernel_rfl, by kernel_rfl⟩
instance no4 : NoI Try.prog 4 := ⟨by kernel_rfl⟩
instance by4 : ByI Try.prog 4 1 := ⟨by kernel_rfl⟩
instance ud4 : UdI Try.prog 4 .bool := ⟨by kernel_rfl⟩
instance zc4 : ZcI Try.prog 4 [.bool false] := ⟨.bool false, by kernel_rfl, rfl, rfl⟩
instance ty5 : TyI Try.prog 5 false 1 := ⟨by kernel_rfl, by kernel_rfl⟩
instance no5 : NoI Try.prog 5 := ⟨by kernel_rfl⟩
instance by5 : ByI Try.prog 5 1 := ⟨by kernel_rfl⟩
instance ud5 : UdI Try.prog 5 (.int .u8) := ⟨by kernel_rfl⟩
instance zc5 : ZcI Try.prog 5 [.int .u8 0] := ⟨.int .u8 0, by kernel_rfl, rfl, rfl⟩
instance ty9 : TyI Try.prog 9 false 1 := ⟨by kernel_rfl, by kernel_rfl⟩
instance no9 : NoI Try.prog 9 := ⟨by kernel_rfl⟩
instance by9 : ByI Try.prog 9 16 := ⟨by kernel_rfl⟩
instance ud9 : UdI Try.prog 9 .string := ⟨by kernel_rfl⟩
instance ni9 : NiI Try.prog 9 := ⟨.inr (by kernel_rfl)⟩
instance zc9 : ZcI Try.prog 9 [.str ⟨#[]⟩] := ⟨.string ⟨#[]⟩, by kernel_rfl, rfl, rfl⟩
instance ty12 : TyI Try.prog 12 false 1 := ⟨by kernel_rfl, by kernel_rfl⟩
instance no12 : NoI Try.prog 12 := ⟨by kernel_rfl⟩
instance by12 : ByI Try.prog 12 8 := ⟨by kernel_rfl⟩
instance ud12 : UdI Try.prog 12 (.int .u64) := ⟨by kernel_rfl⟩
instance zc12 : ZcI Try.prog 12 [.int .u64 0] := ⟨.int .u64 0, by kernel_rfl, rfl, rfl⟩
instance ty13 : TyI Try.prog 13 true 2 := ⟨by kernel_rfl, by kernel_rfl⟩
instance no13 : NoI Try.prog 13 := ⟨by kernel_rfl⟩
instance by13 : ByI Try.prog 13 24 := ⟨by kernel_rfl⟩
instance fl13_0 : FldI Try.prog 13 0 0 9 := ⟨by kernel_rfl⟩
instance fl13_1 : FldI Try.prog 13 1 1 12 := ⟨by kernel_rfl⟩
instance st13 : StI Try.prog 13 [(0, 1), (1, 1)] := ⟨by kernel_rfl⟩
instance zc13 : ZcI Try.prog 13 [.str ⟨#[]⟩, .int .u64 0] := ⟨.agg #[.string ⟨#[]⟩, .int .u64 0], by kernel_rfl, rfl, rfl⟩
instance ty20 : TyI Try.prog 20 false 1 := ⟨by kernel_rfl, by kernel_rfl⟩
instance by20 : ByI Try.prog 20 16 := ⟨by kernel_rfl⟩
instance zc20 : ZcI Try.prog 20 [.nifc] := ⟨.nilIface, by kernel_rfl, rfl, rfl⟩
instance ty21 : TyI Try.prog 21 false 1 := ⟨by kernel_rfl, by kernel_rfl⟩
instance no21 : NoI Try.prog 21 := ⟨by kernel_rfl⟩
instance by21 : ByI Try.prog 21 4 := ⟨by kernel_rfl⟩
instance ud21 : UdI Try.prog 21 (.int .i32) := ⟨by kernel_rfl⟩
instance zc21 : ZcI Try.prog 21 [.int .i32 0] := ⟨.int .i32 0, by kernel_rfl, rfl, rfl⟩
instance ty22 : TyI Try.prog 22 false 1 := ⟨by kernel_rfl, by kernel_rfl⟩
instance no22 : NoI Try.prog 22 := ⟨by kernel_rfl⟩
instance by22 : ByI Try.prog 22 24 := ⟨by kernel_rfl⟩
instance sl22 : SlI Try.prog 22 35 := ⟨by kernel_rfl⟩
instance ni22 : NiI Try.prog 22 := ⟨.inl ⟨35, by kernel_rfl⟩⟩
instance zc22 : ZcI Try.prog 22 [.nsl] := ⟨.slice none 0 0, by kernel_rfl, rfl, rfl⟩
instance ty23 : TyI Try.prog 23 false 1 := ⟨by kernel_rfl, by kernel_rfl⟩
instance no23 : NoI Try.prog 23 := ⟨by kernel_rfl⟩
instance by23 : ByI Try.prog 23 24 := ⟨by kernel_rfl⟩
instance sl23 : SlI Try.prog 23 5 := ⟨by kernel_rfl⟩
instance ni23 : NiI Try.prog 23 := ⟨.inl ⟨5, by kernel_rfl⟩⟩
instance zc23 : ZcI Try.prog 23 [.nsl] := ⟨.slice none 0 0, by kernel_rfl, rfl, rfl⟩
instance ty24 : TyI Try.prog 24 true 4 := ⟨by kernel_rfl, by kernel_rfl⟩
instance no24 : NoI Try.prog 24 := ⟨by kernel_rfl⟩
instance by24 : ByI Try.prog 24 48 := ⟨by kernel_rfl⟩
instance fl24_0 : FldI Try.prog 24 0 0 3 := ⟨by kernel_rfl⟩
instance fl24_1 : FldI Try.prog 24 1 1 3 := ⟨by kernel_rfl⟩
instance fl24_2 : FldI Try.prog 24 2 2 3 := ⟨by kernel_rfl⟩
instance fl24_3 : FldI Try.prog 24 3 3 23 := ⟨by kernel_rfl⟩
instance st24 : StI Try.prog 24 [(0, 1), (1, 1), (2, 1), (3, 1)] := ⟨by kernel_rfl⟩
instance zc24 : ZcI Try.prog 24 [.int .i64 0, .int .i64 0, .int .i64 0, .nsl] := ⟨.agg #[.int .i64 0, .int .i64 0, .int .i64 0, .slice none 0 0], by kernel_rfl, rfl, rfl⟩
instance ty25 : TyI Try.prog 25 true 4 := ⟨by kernel_rfl, by kernel_rfl⟩
instance no25 : NoI Try.prog 25 := ⟨by kernel_rfl⟩
instance by25 : ByI Try.prog 25 48 := ⟨by kernel_rfl⟩
instance fl25_0 : FldI Try.prog 25 0 0 3 := ⟨by kernel_rfl⟩
instance fl25_1 : FldI Try.prog 25 1 1 3 := ⟨by kernel_rfl⟩
instance fl25_2 : FldI Try.prog 25 2 2 3 := ⟨by kernel_rfl⟩
instance fl25_3 : FldI Try.prog 25 3 3 23 := ⟨by kernel_rfl⟩
instance st25 : StI Try.prog 25 [(0, 1), (1, 1), (2, 1), (3, 1)] := ⟨by kernel_rfl⟩
instance zc25 : ZcI Try.prog 25 [.int .i64 0, .int .i64 0, .int .i64 0, .nsl] := ⟨.agg #[.int .i64 0, .int .i64 0, .int .i64 0, .slice none 0 0], by kernel_rfl, rfl, rfl⟩
instance ty26 : TyI Try.prog 26 false 1 := ⟨by kernel_rfl, by kernel_rfl⟩
instance no26 : NoI Try.prog 26 := ⟨by kernel_rfl⟩
instance by26 : ByI Try.prog 26 8 := ⟨by kernel_rfl⟩
instance zc26 : ZcI Try.prog 26 [.nfn] := ⟨.nilFunc, by kernel_rfl, rfl, rfl⟩
instance ty27 : TyI Try.prog 27 false 1 := ⟨by kernel_rfl, by kernel_rfl⟩
instance no27 : NoI Try.prog 27 := ⟨by kernel_rfl⟩
instance by27 : ByI Try.prog 27 8 := ⟨by kernel_rfl⟩
instance zc27 : ZcI Try.prog 27 [.nfn] := ⟨.nilFunc, by kernel_rfl, rfl, rfl⟩
instance ty28 : TyI Try.prog 28 false 1 := ⟨by kernel_rfl, by kernel_rfl⟩
instance no28 : NoI Try.prog 28 := ⟨by kernel_rfl⟩
instance by28 : ByI Try.prog 28 8 := ⟨by kernel_rfl⟩
instance ud28 : UdI Try.prog 28 (.int .i64) := ⟨by kernel_rfl⟩
instance zc28 : ZcI Try.prog 28 [.int .i64 0] := ⟨.int .i64 0, by kernel_rfl, rfl, rfl⟩
instance ty30 : TyI Try.prog 30 false 1 := ⟨by kernel_rfl, by kernel_rfl⟩
instance no30 : NoI Try.prog 30 := ⟨by kernel_rfl⟩
instance by30 : ByI Try.prog 30 8 := ⟨by kernel_rfl⟩
instance zc30 : ZcI Try.prog 30 [.nfn] := ⟨.nilFunc, by kernel_rfl, rfl, rfl⟩
instance ty32 : TyI Try.prog 32 false 1 := ⟨by kernel_rfl, by kernel_rfl⟩
instance no32 : NoI Try.prog 32 := ⟨by kernel_rfl⟩
instance by32 : ByI Try.prog 32 8 := ⟨by kernel_rfl⟩
instance zc32 : ZcI Try.prog 32 [.nfn] := ⟨.nilFunc, by kernel_rfl, rfl, rfl⟩
instance ty33 : TyI Try.prog 33 false 1 := ⟨by kernel_rfl, by kernel_rfl⟩
instance no33 : NoI Try.prog 33 := ⟨by kernel_rfl⟩
instance by33 : ByI Try.prog 33 8 := ⟨by kernel_rfl⟩
instance zc33 : ZcI Try.prog 33 [.nfn] := ⟨.nilFunc, by kernel_rfl, rfl, rfl⟩
instance ty34 : TyI Try.prog 34 true 5 := ⟨by kernel_rfl, by kernel_rfl⟩
instance no34 : NoI Try.prog 34 := ⟨by kernel_rfl⟩
instance by34 : ByI Try.prog 34 56 := ⟨by kernel_rfl⟩
instance fl34_0 : FldI Try.prog 34 0 0 3 := ⟨by kernel_rfl⟩
instance fl34_1 : FldI Try.prog 34 1 1 25 := ⟨by kernel_rfl⟩
instance st34 : StI Try.prog 34 [(0, 1), (1, 4)] := ⟨by kernel_rfl⟩
instance zc34 : ZcI Try.prog 34 [.int .i64 0, .int .i64 0, .int .i64 0, .int .i64 0, .nsl] := ⟨.agg #[.int .i64 0, .int .i64 0, .int .i64 0, .int .i64 0, .slice none 0 0], by kernel_rfl, rfl, rfl⟩
instance ty35 : TyI Try.prog 35 true 5 := ⟨by kernel_rfl, by kernel_rfl⟩
instance no35 : NoI Try.prog 35 := ⟨by kernel_rfl⟩
instance by35 : ByI Try.prog 35 56 := ⟨by kernel_rfl⟩
instance fl35_0 : FldI Try.prog 35 0 0 3 := ⟨by kernel_rfl⟩
instance fl35_1 : FldI Try.prog 35 1 1 25 := ⟨by kernel_rfl⟩
instance st35 : StI Try.prog 35 [(0, 1), (1, 4)] := ⟨by kernel_rfl⟩
instance zc35 : ZcI Try.prog 35 [.int .i64 0, .int .i64 0, .int .i64 0, .int .i64 0, .nsl] := ⟨.agg #[.int .i64 0, .int .i64 0, .int .i64 0, .int .i64 0, .slice none 0 0], by kernel_rfl, rfl, rfl⟩
instance ty37 : TyI Try.prog 37 false 1 := ⟨by kernel_rfl, by kernel_rfl⟩
instance no37 : NoI Try.prog 37 := ⟨by kernel_rfl⟩
instance by37 : ByI Try.prog 37 8 := ⟨by kernel_rfl⟩
instance zc37 : ZcI Try.prog 37 [.nfn] := ⟨.nilFunc, by kernel_rfl, rfl, rfl⟩
instance ty39 : TyI Try.prog 39 false 1 := ⟨by kernel_rfl, by kernel_rfl⟩
instance no39 : NoI Try.prog 39 := ⟨by kernel_rfl⟩
instance by39 : ByI Try.prog 39 8 := ⟨by kernel_rfl⟩
instance zc39 : ZcI Try.prog 39 [.nfn] := ⟨.nilFunc, by kernel_rfl, rfl, rfl⟩
instance ty40 : TyI Try.prog 40 false 1 := ⟨by kernel_rfl, by kernel_rfl⟩
instance no40 : NoI Try.prog 40 := ⟨by kernel_rfl⟩
instance by40 : ByI Try.prog 40 8 := ⟨by kernel_rfl⟩
instance zc40 : ZcI Try.prog 40 [.nfn] := ⟨.nilFunc, by kernel_rfl, rfl, rfl⟩
instance ty41 : TyI Try.prog 41 false 1 := ⟨by kernel_rfl, by kernel_rfl⟩
instance no41 : NoI Try.prog 41 := ⟨by kernel_rfl⟩
instance by41 : ByI Try.prog 41 8 := ⟨by kernel_rfl⟩
instance zc41 : ZcI Try.prog 41 [.nfn] := ⟨.nilFunc, by kernel_rfl, rfl, rfl⟩
instance ty42 : TyI Try.prog 42 false 1 := ⟨by kernel_rfl, by kernel_rfl⟩
instance no42 : NoI Try.prog 42 := ⟨by kernel_rfl⟩
instance by42 : ByI Try.prog 42 8 := ⟨by kernel_rfl⟩
instance zc42 : ZcI Try.prog 42 [.nfn] := ⟨.nilFunc, by kernel_rfl, rfl, rfl⟩
instance ty43 : TyI Try.prog 43 false 1 := ⟨by kernel_rfl, by kernel_rfl⟩
instance no43 : NoI Try.prog 43 := ⟨by kernel_rfl⟩
instance by43 : ByI Try.prog 43 24 := ⟨by kernel_rfl⟩
instance sl43 : SlI Try.prog 43 3 := ⟨by kernel_rfl⟩
instance ni43 : NiI Try.prog 43 := ⟨.inl ⟨3, by kernel_rfl⟩⟩
instance zc43 : ZcI Try.prog 43 [.nsl] := ⟨.slice none 0 0, by kernel_rfl, rfl, rfl⟩
instance ty44 : TyI Try.prog 44 false 1 := ⟨by kernel_rfl, by kernel_rfl⟩
instance no44 : NoI Try.prog 44 := ⟨by kernel_rfl⟩
instance by44 : ByI Try.prog 44 8 := ⟨by kernel_rfl⟩
instance zc44 : ZcI Try.prog 44 [.nfn] := ⟨.nilFunc, by kernel_rfl, rfl, rfl⟩
instance ty45 : TyI Try.prog 45 false 1 := ⟨by kernel_rfl, by kernel_rfl⟩
instance no45 : NoI Try.prog 45 := ⟨by kernel_rfl⟩
instance by45 : ByI Try.prog 45 8 := ⟨by kernel_rfl⟩
instance zc45 : ZcI Try.prog 45 [.nfn] := ⟨.nilFunc, by kernel_rfl, rfl, rfl⟩
instance ty46 : TyI Try.prog 46 false 1 := ⟨by kernel_rfl, by kernel_rfl⟩
instance no46 : NoI Try.prog 46 := ⟨by kernel_rfl⟩
instance by46 : ByI Try.prog 46 8 := ⟨by kernel_rfl⟩
instance zc46 : ZcI Try.prog 46 [.nfn] := ⟨.nilFunc, by kernel_rfl, rfl, rfl⟩
instance ty47 : TyI Try.prog 47 false 1 := ⟨by kernel_rfl, by kernel_rfl⟩
instance no47 : NoI Try.prog 47 := ⟨by kernel_rfl⟩
instance by47 : ByI Try.prog 47 24 := ⟨by kernel_rfl⟩
instance sl47 : SlI Try.prog 47 50 := ⟨by kernel_rfl⟩
instance ni47 : NiI Try.prog 47 := ⟨.inl ⟨50, by kernel_rfl⟩⟩
instance zc47 : ZcI Try.prog 47 [.nsl] := ⟨.slice none 0 0, by kernel_rfl, rfl, rfl⟩
instance ty48 : TyI Try.prog 48 true 200 := ⟨by kernel_rfl, by kernel_rfl⟩
instance no48 : NoI Try.prog 48 := ⟨by kernel_rfl⟩
instance by48 : ByI Try.prog 48 1600 := ⟨by kernel_rfl⟩
instance ar48 : ArI Try.prog 48 200 3 := ⟨by kernel_rfl⟩
instance zc48 : ZcI Try.prog 48 (List.replicate 200 (.int .i64 0)) := ⟨.agg (Array.replicate 200 (.int .i64 0)), by kernel_rfl, by kernel_rfl, by kernel_rfl⟩
instance ty49 : TyI Try.prog 49 true 2 := ⟨by kernel_rfl, by kernel_rfl⟩
instance no49 : NoI Try.prog 49 := ⟨by kernel_rfl⟩
instance by49 : ByI Try.prog 49 2 := ⟨by kernel_rfl⟩
instance fl49_0 : FldI Try.prog 49 0 0 5 := ⟨by kernel_rfl⟩
instance fl49_1 : FldI Try.prog 49 1 1 5 := ⟨by kernel_rfl⟩
instance st49 : StI Try.prog 49 [(0, 1), (1, 1)] := ⟨by kernel_rfl⟩
instance zc49 : ZcI Try.prog 49 [.int .u8 0, .int .u8 0] := ⟨.agg #[.int .u8 0, .int .u8 0], by kernel_rfl, rfl, rfl⟩
instance ty50 : TyI Try.prog 50 true 2 := ⟨by kernel_rfl, by kernel_rfl⟩
instance no50 : NoI Try.prog 50 := ⟨by kernel_rfl⟩
instance by50 : ByI Try.prog 50 2 := ⟨by kernel_rfl⟩
instance fl50_0 : FldI Try.prog 50 0 0 5 := ⟨by kernel_rfl⟩
instance fl50_1 : FldI Try.prog 50 1 1 5 := ⟨by kernel_rfl⟩
instance st50 : StI Try.prog 50 [(0, 1), (1, 1)] := ⟨by kernel_rfl⟩
instance zc50 : ZcI Try.prog 50 [.int .u8 0, .int .u8 0] := ⟨.agg #[.int .u8 0, .int .u8 0], by kernel_rfl, rfl, rfl⟩
instance ty51 : TyI Try.prog 51 false 1 := ⟨by kernel_rfl, by kernel_rfl⟩
instance no51 : NoI Try.prog 51 := ⟨by kernel_rfl⟩
instance by51 : ByI Try.prog 51 8 := ⟨by kernel_rfl⟩
instance zc51 : ZcI Try.prog 51 [.nfn] := ⟨.nilFunc, by kernel_rfl, rfl, rfl⟩
instance ty52 : TyI Try.prog 52 false 1 := ⟨by kernel_rfl, by kernel_rfl⟩
instance no52 : NoI Try.prog 52 := ⟨by kernel_rfl⟩
instance by52 : ByI Try.prog 52 24 := ⟨by kernel_rfl⟩
instance sl52 : SlI Try.prog 52 25 := ⟨by kernel_rfl⟩
instance ni52 : NiI Try.prog 52 := ⟨.inl ⟨25, by kernel_rfl⟩⟩
instance zc52 : ZcI Try.prog 52 [.nsl] := ⟨.slice none 0 0, by kernel_rfl, rfl, rfl⟩
instance ty53 : TyI Try.prog 53 true 4 := ⟨by kernel_rfl, by kernel_rfl⟩
instance no53 : NoI Try.prog 53 := ⟨by kernel_rfl⟩
instance by53 : ByI Try.prog 53 48 := ⟨by kernel_rfl⟩
instance fl53_0 : FldI Try.prog 53 0 0 3 := ⟨by kernel_rfl⟩
instance fl53_1 : FldI Try.prog 53 1 1 52 := ⟨by kernel_rfl⟩
instance fl53_2 : FldI Try.prog 53 2 2 3 := ⟨by kernel_rfl⟩
instance fl53_3 : FldI Try.prog 53 3 3 3 := ⟨by kernel_rfl⟩
instance st53 : StI Try.prog 53 [(0, 1), (1, 1), (2, 1), (3, 1)] := ⟨by kernel_rfl⟩
instance zc53 : ZcI Try.prog 53 [.int .i64 0, .nsl, .int .i64 0, .int .i64 0] := ⟨.agg #[.int .i64 0, .slice none 0 0, .int .i64 0, .int .i64 0], by kernel_rfl, rfl, rfl⟩
instance ty54 : TyI Try.prog 54 true 4 := ⟨by kernel_rfl, by kernel_rfl⟩
instance no54 : NoI Try.prog 54 := ⟨by kernel_rfl⟩
instance by54 : ByI Try.prog 54 48 := ⟨by kernel_rfl⟩
instance fl54_0 : FldI Try.prog 54 0 0 3 := ⟨by kernel_rfl⟩
instance fl54_1 : FldI Try.prog 54 1 1 52 := ⟨by kernel_rfl⟩
instance fl54_2 : FldI Try.prog 54 2 2 3 := ⟨by kernel_rfl⟩
instance fl54_3 : FldI Try.prog 54 3 3 3 := ⟨by kernel_rfl⟩
instance st54 : StI Try.prog 54 [(0, 1), (1, 1), (2, 1), (3, 1)] := ⟨by kernel_rfl⟩
instance zc54 : ZcI Try.prog 54 [.int .i64 0, .nsl, .int .i64 0, .int .i64 0] := ⟨.agg #[.int .i64 0, .slice none 0 0, .int .i64 0, .int .i64 0], by kernel_rfl, rfl, rfl⟩
instance ty55 : TyI Try.prog 55 false 1 := ⟨by kernel_rfl, by kernel_rfl⟩
instance no55 : NoI Try.prog 55 := ⟨by kernel_rfl⟩
instance by55 : ByI Try.prog 55 8 := ⟨by kernel_rfl⟩
instance zc55 : ZcI Try.prog 55 [.nfn] := ⟨.nilFunc, by kernel_rfl, rfl, rfl⟩
instance ty57 : TyI Try.prog 57 false 1 := ⟨by kernel_rfl, by kernel_rfl⟩
instance no57 : NoI Try.prog 57 := ⟨by kernel_rfl⟩
instance by57 : ByI Try.prog 57 8 := ⟨by kernel_rfl⟩
instance zc57 : ZcI Try.prog 57 [.nfn] := ⟨.nilFunc, by kernel_rfl, rfl, rfl⟩
instance ty59 : TyI Try.prog 59 false 1 := ⟨by kernel_rfl, by kernel_rfl⟩
instance no59 : NoI Try.prog 59 := ⟨by kernel_rfl⟩
instance by59 : ByI Try.prog 59 8 := ⟨by kernel_rfl⟩
instance zc59 : ZcI Try.prog 59 [.nfn] := ⟨.nilFunc, by kernel_rfl, rfl, rfl⟩
instance ty61 : TyI Try.prog 61 false 1 := ⟨by kernel_rfl, by kernel_rfl⟩
instance no61 : NoI Try.prog 61 := ⟨by kernel_rfl⟩
instance by61 : ByI Try.prog 61 8 := ⟨by kernel_rfl⟩
instance zc61 : ZcI Try.prog 61 [.nfn] := ⟨.nilFunc, by kernel_rfl, rfl, rfl⟩
instance ty62 : TyI Try.prog 62 false 1 := ⟨by kernel_rfl, by kernel_rfl⟩
instance no62 : NoI Try.prog 62 := ⟨by kernel_rfl⟩
instance by62 : ByI Try.prog 62 8 := ⟨by kernel_rfl⟩
instance zc62 : ZcI Try.prog 62 [.nfn] := ⟨.nilFunc, by kernel_rfl, rfl, rfl⟩
instance ty63 : TyI Try.prog 63 false 1 := ⟨by kernel_rfl, by kernel_rfl⟩
instance no63 : NoI Try.prog 63 := ⟨by kernel_rfl⟩
instance by63 : ByI Try.prog 63 8 := ⟨by kernel_rfl⟩
instance zc63 : ZcI Try.prog 63 [.nfn] := ⟨.nilFunc, by kernel_rfl, rfl, rfl⟩
instance ty64 : TyI Try.prog 64 false 1 := ⟨by kernel_rfl, by kernel_rfl⟩
instance no64 : NoI Try.prog 64 := ⟨by kernel_rfl⟩
instance by64 : ByI Try.prog 64 8 := ⟨by kernel_rfl⟩
instance zc64 : ZcI Try.prog 64 [.nfn] := ⟨.nilFunc, by kernel_rfl, rfl, rfl⟩
instance ty65 : TyI Try.prog 65 false 1 := ⟨by kernel_rfl, by kernel_rfl⟩
instance no65 : NoI Try.prog 65 := ⟨by kernel_rfl⟩
instance by65 : ByI Try.prog 65 8 := ⟨by kernel_rfl⟩
instance zc65 : ZcI Try.prog 65 [.nfn] := ⟨.nilFunc, by kernel_rfl, rfl, rfl⟩
instance ty66 : TyI Try.prog 66 false 1 := ⟨by kernel_rfl, by kernel_rfl⟩
instance no66 : NoI Try.prog 66 := ⟨by kernel_rfl⟩
instance by66 : ByI Try.prog 66 8 := ⟨by kernel_rfl⟩
instance zc66 : ZcI Try.prog 66 [.nfn] := ⟨.nilFunc, by kernel_rfl, rfl, rfl⟩
instance ty67 : TyI Try.prog 67 false 1 := ⟨by kernel_rfl, by kernel_rfl⟩
instance no67 : NoI Try.prog 67 := ⟨by kernel_rfl⟩
instance by67 : ByI Try.prog 67 8 := ⟨by kernel_rfl⟩
instance zc67 : ZcI Try.prog 67 [.nfn] := ⟨.nilFunc, by kernel_rfl, rfl, rfl⟩
instance ty68 : TyI Try.prog 68 false 1 := ⟨by kernel_rfl, by kernel_rfl⟩
instance no68 : NoI Try.prog 68 := ⟨by kernel_rfl⟩
instance by68 : ByI Try.prog 68 2 := ⟨by kernel_rfl⟩
instance ud68 : UdI Try.prog 68 (.int .u16) := ⟨by kernel_rfl⟩
instance zc68 : ZcI Try.prog 68 [.int .u16 0] := ⟨.int .u16 0, by kernel_rfl, rfl, rfl⟩
instance ty69 : TyI Try.prog 69 false 1 := ⟨by kernel_rfl, by kernel_rfl⟩
instance no69 : NoI Try.prog 69 := ⟨by kernel_rfl⟩
instance by69 : ByI Try.prog 69 24 := ⟨by kernel_rfl⟩
instance sl69 : SlI Try.prog 69 78 := ⟨by kernel_rfl⟩
instance ni69 : NiI Try.prog 69 := ⟨.inl ⟨78, by kernel_rfl⟩⟩
instance zc69 : ZcI Try.prog 69 [.nsl] := ⟨.slice none 0 0, by kernel_rfl, rfl, rfl⟩
instance ty70 : TyI Try.prog 70 false 1 := ⟨by kernel_rfl, by kernel_rfl⟩
instance no70 : NoI Try.prog 70 := ⟨by kernel_rfl⟩
instance by70 : ByI Try.prog 70 8 := ⟨by kernel_rfl⟩
instance zc70 : ZcI Try.prog 70 [.nptr] := ⟨.pointer none, by kernel_rfl, rfl, rfl⟩
instance ty71 : TyI Try.prog 71 true 8 := ⟨by kernel_rfl, by kernel_rfl⟩
instance no71 : NoI Try.prog 71 := ⟨by kernel_rfl⟩
instance by71 : ByI Try.prog 71 96 := ⟨by kernel_rfl⟩
instance ar71 : ArI Try.prog 71 2 54 := ⟨by kernel_rfl⟩
instance zc71 : ZcI Try.prog 71 [.int .i64 0, .nsl, .int .i64 0, .int .i64 0, .int .i64 0, .nsl, .int .i64 0, .int .i64 0] := ⟨.agg #[.int .i64 0, .slice none 0 0, .int .i64 0, .int .i64 0, .int .i64 0, .slice none 0 0, .int .i64 0, .int .i64 0], by kernel_rfl, rfl, rfl⟩
instance ty72 : TyI Try.prog 72 true 2 := ⟨by kernel_rfl, by kernel_rfl⟩
instance no72 : NoI Try.prog 72 := ⟨by kernel_rfl⟩
instance by72 : ByI Try.prog 72 48 := ⟨by kernel_rfl⟩
instance ar72 : ArI Try.prog 72 2 52 := ⟨by kernel_rfl⟩
instance zc72 : ZcI Try.prog 72 [.nsl, .nsl] := ⟨.agg #[.slice none 0 0, .slice none 0 0], by kernel_rfl, rfl, rfl⟩
instance ty73 : TyI Try.prog 73 false 1 := ⟨by kernel_rfl, by kernel_rfl⟩
instance no73 : NoI Try.prog 73 := ⟨by kernel_rfl⟩
instance by73 : ByI Try.prog 73 24 := ⟨by kernel_rfl⟩
instance sl73 : SlI Try.prog 73 23 := ⟨by kernel_rfl⟩
instance ni73 : NiI Try.prog 73 := ⟨.inl ⟨23, by kernel_rfl⟩⟩
instance zc73 : ZcI Try.prog 73 [.nsl] := ⟨.slice none 0 0, by kernel_rfl, rfl, rfl⟩
instance ty74 : TyI Try.prog 74 true 2 := ⟨by kernel_rfl, by kernel_rfl⟩
instance no74 : NoI Try.prog 74 := ⟨by kernel_rfl⟩
instance by74 : ByI Try.prog 74 48 := ⟨by kernel_rfl⟩
instance ar74 : ArI Try.prog 74 2 73 := ⟨by kernel_rfl⟩
instance zc74 : ZcI Try.prog 74 [.nsl, .nsl] := ⟨.agg #[.slice none 0 0, .slice none 0 0], by kernel_rfl, rfl, rfl⟩
instance ty75 : TyI Try.prog 75 true 14 := ⟨by kernel_rfl, by kernel_rfl⟩
instance no75 : NoI Try.prog 75 := ⟨by kernel_rfl⟩
instance by75 : ByI Try.prog 75 240 := ⟨by kernel_rfl⟩
instance fl75_0 : FldI Try.prog 75 0 0 71 := ⟨by kernel_rfl⟩
instance fl75_1 : FldI Try.prog 75 1 8 72 := ⟨by kernel_rfl⟩
instance fl75_2 : FldI Try.prog 75 2 10 74 := ⟨by kernel_rfl⟩
instance fl75_3 : FldI Try.prog 75 3 12 74 := ⟨by kernel_rfl⟩
instance st75 : StI Try.prog 75 [(0, 8), (8, 2), (10, 2), (12, 2)] := ⟨by kernel_rfl⟩
instance zc75 : ZcI Try.prog 75 [.int .i64 0, .nsl, .int .i64 0, .int .i64 0, .int .i64 0, .nsl, .int .i64 0, .int .i64 0, .nsl, .nsl, .nsl, .nsl, .nsl, .nsl] := ⟨.agg #[.int .i64 0, .slice none 0 0, .int .i64 0, .int .i64 0, .int .i64 0, .slice none 0 0, .int .i64 0, .int .i64 0, .slice none 0 0, .slice none 0 0, .slice none 0 0, .slice none 0 0, .slice none 0 0, .slice none 0 0], by kernel_rfl, rfl, rfl⟩
instance ty76 : TyI Try.prog 76 true 14 := ⟨by kernel_rfl, by kernel_rfl⟩
instance no76 : NoI Try.prog 76 := ⟨by kernel_rfl⟩
instance by76 : ByI Try.prog 76 240 := ⟨by kernel_rfl⟩
instance fl76_0 : FldI Try.prog 76 0 0 71 := ⟨by kernel_rfl⟩
instance fl76_1 : FldI Try.prog 76 1 8 72 := ⟨by kernel_rfl⟩
instance fl76_2 : FldI Try.prog 76 2 10 74 := ⟨by kernel_rfl⟩
instance fl76_3 : FldI Try.prog 76 3 12 74 := ⟨by kernel_rfl⟩
instance st76 : StI Try.prog 76 [(0, 8), (8, 2), (10, 2), (12, 2)] := ⟨by kernel_rfl⟩
instance zc76 : ZcI Try.prog 76 [.int .i64 0, .nsl, .int .i64 0, .int .i64 0, .int .i64 0, .nsl, .int .i64 0, .int .i64 0, .nsl, .nsl, .nsl, .nsl, .nsl, .nsl] := ⟨.agg #[.int .i64 0, .slice none 0 0, .int .i64 0, .int .i64 0, .int .i64 0, .slice none 0 0, .int .i64 0, .int .i64 0, .slice none 0 0, .slice none 0 0, .slice none 0 0, .slice none 0 0, .slice none 0 0, .slice none 0 0], by kernel_rfl, rfl, rfl⟩
instance ty77 : TyI Try.prog 77 true 4 := ⟨by kernel_rfl, by kernel_rfl⟩
instance no77 : NoI Try.prog 77 := ⟨by kernel_rfl⟩
instance by77 : ByI Try.prog 77 32 := ⟨by kernel_rfl⟩
instance fl77_0 : FldI Try.prog 77 0 0 5 := ⟨by kernel_rfl⟩
instance fl77_1 : FldI Try.prog 77 1 1 4 := ⟨by kernel_rfl⟩
instance fl77_2 : FldI Try.prog 77 2 2 5 := ⟨by kernel_rfl⟩
instance fl77_3 : FldI Try.prog 77 3 3 23 := ⟨by kernel_rfl⟩
instance st77 : StI Try.prog 77 [(0, 1), (1, 1), (2, 1), (3, 1)] := ⟨by kernel_rfl⟩
instance zc77 : ZcI Try.prog 77 [.int .u8 0, .bool false, .int .u8 0, .nsl] := ⟨.agg #[.int .u8 0, .bool false, .int .u8 0, .slice none 0 0], by kernel_rfl, rfl, rfl⟩
instance ty78 : TyI Try.prog 78 true 4 := ⟨by kernel_rfl, by kernel_rfl⟩
instance no78 : NoI Try.prog 78 := ⟨by kernel_rfl⟩
instance by78 : ByI Try.prog 78 32 := ⟨by kernel_rfl⟩
instance fl78_0 : FldI Try.prog 78 0 0 5 := ⟨by kernel_rfl⟩
instance fl78_1 : FldI Try.prog 78 1 1 4 := ⟨by kernel_rfl⟩
instance fl78_2 : FldI Try.prog 78 2 2 5 := ⟨by kernel_rfl⟩
instance fl78_3 : FldI Try.prog 78 3 3 23 := ⟨by kernel_rfl⟩
instance st78 : StI Try.prog 78 [(0, 1), (1, 1), (2, 1), (3, 1)] := ⟨by kernel_rfl⟩
instance zc78 : ZcI Try.prog 78 [.int .u8 0, .bool false, .int .u8 0, .nsl] := ⟨.agg #[.int .u8 0, .bool false, .int .u8 0, .slice none 0 0], by kernel_rfl, rfl, rfl⟩
instance ty79 : TyI Try.prog 79 false 1 := ⟨by kernel_rfl, by kernel_rfl⟩
instance no79 : NoI Try.prog 79 := ⟨by kernel_rfl⟩
instance by79 : ByI Try.prog 79 8 := ⟨by kernel_rfl⟩
instance zc79 : ZcI Try.prog 79 [.nfn] := ⟨.nilFunc, by kernel_rfl, rfl, rfl⟩
instance ty80 : TyI Try.prog 80 false 1 := ⟨by kernel_rfl, by kernel_rfl⟩
instance no80 : NoI Try.prog 80 := ⟨by kernel_rfl⟩
instance by80 : ByI Try.prog 80 8 := ⟨by kernel_rfl⟩
instance zc80 : ZcI Try.prog 80 [.nfn] := ⟨.nilFunc, by kernel_rfl, rfl, rfl⟩
instance ty81 : TyI Try.prog 81 false 1 := ⟨by kernel_rfl, by kernel_rfl⟩
instance no81 : NoI Try.prog 81 := ⟨by kernel_rfl⟩
instance by81 : ByI Try.prog 81 8 := ⟨by kernel_rfl⟩
instance zc81 : ZcI Try.prog 81 [.nfn] := ⟨.nilFunc, by kernel_rfl, rfl, rfl⟩
instance ty82 : TyI Try.prog 82 false 1 := ⟨by kernel_rfl, by kernel_rfl⟩
instance no82 : NoI Try.prog 82 := ⟨by kernel_rfl⟩
instance by82 : ByI Try.prog 82 8 := ⟨by kernel_rfl⟩
instance zc82 : ZcI Try.prog 82 [.nfn] := ⟨.nilFunc, by kernel_rfl, rfl, rfl⟩
instance ty83 : TyI Try.prog 83 false 1 := ⟨by kernel_rfl, by kernel_rfl⟩
instance no83 : NoI Try.prog 83 := ⟨by kernel_rfl⟩
instance by83 : ByI Try.prog 83 8 := ⟨by kernel_rfl⟩
instance zc83 : ZcI Try.prog 83 [.nfn] := ⟨.nilFunc, by kernel_rfl, rfl, rfl⟩
instance ty84 : TyI Try.prog 84 false 1 := ⟨by kernel_rfl, by kernel_rfl⟩
instance no84 : NoI Try.prog 84 := ⟨by kernel_rfl⟩
instance by84 : ByI Try.prog 84 8 := ⟨by kernel_rfl⟩
instance zc84 : ZcI Try.prog 84 [.nfn] := ⟨.nilFunc, by kernel_rfl, rfl, rfl⟩
instance ty85 : TyI Try.prog 85 false 1 := ⟨by kernel_rfl, by kernel_rfl⟩
instance no85 : NoI Try.prog 85 := ⟨by kernel_rfl⟩
instance by85 : ByI Try.prog 85 8 := ⟨by kernel_rfl⟩
instance zc85 : ZcI Try.prog 85 [.nfn] := ⟨.nilFunc, by kernel_rfl, rfl, rfl⟩
instance ty86 : TyI Try.prog 86 false 1 := ⟨by kernel_rfl, by kernel_rfl⟩
instance no86 : NoI Try.prog 86 := ⟨by kernel_rfl⟩
instance by86 : ByI Try.prog 86 8 := ⟨by kernel_rfl⟩
instance zc86 : ZcI Try.prog 86 [.nfn] := ⟨.nilFunc, by kernel_rfl, rfl, rfl⟩
instance ty87 : TyI Try.prog 87 false 1 := ⟨by kernel_rfl, by kernel_rfl⟩
instance no87 : NoI Try.prog 87 := ⟨by kernel_rfl⟩
instance by87 : ByI Try.prog 87 8 := ⟨by kernel_rfl⟩
instance zc87 : ZcI Try.prog 87 [.nfn] := ⟨.nilFunc, by kernel_rfl, rfl, rfl⟩
instance ty88 : TyI Try.prog 88 false 1 := ⟨by kernel_rfl, by kernel_rfl⟩
instance no88 : NoI Try.prog 88 := ⟨by kernel_rfl⟩
instance by88 : ByI Try.prog 88 8 := ⟨by kernel_rfl⟩
instance zc88 : ZcI Try.prog 88 [.nfn] := ⟨.nilFunc, by kernel_rfl, rfl, rfl⟩
instance ty89 : TyI Try.prog 89 false 1 := ⟨by kernel_rfl, by kernel_rfl⟩
instance no89 : NoI Try.prog 89 := ⟨by kernel_rfl⟩
instance by89 : ByI Try.prog 89 8 := ⟨by kernel_rfl⟩
instance zc89 : ZcI Try.prog 89 [.nfn] := ⟨.nilFunc, by kernel_rfl, rfl, rfl⟩
instance ty90 : TyI Try.prog 90 false 1 := ⟨by kernel_rfl, by kernel_rfl⟩
instance no90 : NoI Try.prog 90 := ⟨by kernel_rfl⟩
instance by90 : ByI Try.prog 90 8 := ⟨by kernel_rfl⟩
instance zc90 : ZcI Try.prog 90 [.nfn] := ⟨.nilFunc, by kernel_rfl, rfl, rfl⟩
instance ty91 : TyI Try.prog 91 false 1 := ⟨by kernel_rfl, by kernel_rfl⟩
instance no91 : NoI Try.prog 91 := ⟨by kernel_rfl⟩
instance by91 : ByI Try.prog 91 8 := ⟨by kernel_rfl⟩
instance zc91 : ZcI Try.prog 91 [.nfn] := ⟨.nilFunc, by kernel_rfl, rfl, rfl⟩
instance ty92 : TyI Try.prog 92 false 1 := ⟨by kernel_rfl, by kernel_rfl⟩
instance no92 : NoI Try.prog 92 := ⟨by kernel_rfl⟩
instance by92 : ByI Try.prog 92 8 := ⟨by kernel_rfl⟩
instance zc92 : ZcI Try.prog 92 [.nfn] := ⟨.nilFunc, by kernel_rfl, rfl, rfl⟩
instance ty93 : TyI Try.prog 93 false 1 := ⟨by kernel_rfl, by kernel_rfl⟩
instance no93 : NoI Try.prog 93 := ⟨by kernel_rfl⟩
instance by93 : ByI Try.prog 93 8 := ⟨by kernel_rfl⟩
instance zc93 : ZcI Try.prog 93 [.nfn] := ⟨.nilFunc, by kernel_rfl, rfl, rfl⟩
instance ty94 : TyI Try.prog 94 true 3 := ⟨by kernel_rfl, by kernel_rfl⟩
instance no94 : NoI Try.prog 94 := ⟨by kernel_rfl⟩
instance by94 : ByI Try.prog 94 24 := ⟨by kernel_rfl⟩
instance ar94 : ArI Try.prog 94 3 3 := ⟨by kernel_rfl⟩
instance zc94 : ZcI Try.prog 94 [.int .i64 0, .int .i64 0, .int .i64 0] := ⟨.agg #[.int .i64 0, .int .i64 0, .int .i64 0], by kernel_rfl, rfl, rfl⟩
instance ty95 : TyI Try.prog 95 false 1 := ⟨by kernel_rfl, by kernel_rfl⟩
instance no95 : NoI Try.prog 95 := ⟨by kernel_rfl⟩
instance by95 : ByI Try.prog 95 8 := ⟨by kernel_rfl⟩
instance zc95 : ZcI Try.prog 95 [.nfn] := ⟨.nilFunc, by kernel_rfl, rfl, rfl⟩
instance ty96 : TyI Try.prog 96 false 1 := ⟨by kernel_rfl, by kernel_rfl⟩
instance no96 : NoI Try.prog 96 := ⟨by kernel_rfl⟩
instance by96 : ByI Try.prog 96 8 := ⟨by kernel_rfl⟩
instance zc96 : ZcI Try.prog 96 [.nfn] := ⟨.nilFunc, by kernel_rfl, rfl, rfl⟩
instance ty97 : TyI Try.prog 97 false 1 := ⟨by kernel_rfl, by kernel_rfl⟩
instance no97 : NoI Try.prog 97 := ⟨by kernel_rfl⟩
instance by97 : ByI Try.prog 97 8 := ⟨by kernel_rfl⟩
instance zc97 : ZcI Try.prog 97 [.nfn] := ⟨.nilFunc, by kernel_rfl, rfl, rfl⟩
instance ty103 : TyI Try.prog 103 false 1 := ⟨by kernel_rfl, by kernel_rfl⟩
instance no103 : NoI Try.prog 103 := ⟨by kernel_rfl⟩
instance by103 : ByI Try.prog 103 8 := ⟨by kernel_rfl⟩
instance zc103 : ZcI Try.prog 103 [.nfn] := ⟨.nilFunc, by kernel_rfl, rfl, rfl⟩
instance ty104 : TyI Try.prog 104 false 1 := ⟨by kernel_rfl, by kernel_rfl⟩
instance no104 : NoI Try.prog 104 := ⟨by kernel_rfl⟩
instance by104 : ByI Try.prog 104 4 := ⟨by kernel_rfl⟩
instance ud104 : UdI Try.prog 104 (.int .u32) := ⟨by kernel_rfl⟩
instance zc104 : ZcI Try.prog 104 [.int .u32 0] := ⟨.int .u32 0, by kernel_rfl, rfl, rfl⟩
instance ty107 : TyI Try.prog 107 false 1 := ⟨by kernel_rfl, by kernel_rfl⟩
instance no107 : NoI Try.prog 107 := ⟨by kernel_rfl⟩
instance by107 : ByI Try.prog 107 8 := ⟨by kernel_rfl⟩
instance zc107 : ZcI Try.prog 107 [.nfn] := ⟨.nilFunc, by kernel_rfl, rfl, rfl⟩
instance ty108 : TyI Try.prog 108 false 1 := ⟨by kernel_rfl, by kernel_rfl⟩
instance no108 : NoI Try.prog 108 := ⟨by kernel_rfl⟩
instance by108 : ByI Try.prog 108 8 := ⟨by kernel_rfl⟩
instance zc108 : ZcI Try.prog 108 [.nptr] := ⟨.pointer none, by kernel_rfl, rfl, rfl⟩
instance fn3 : FnI Try.prog 3 := ⟨by kernel_rfl⟩
instance fn4 : FnI Try.prog 4 := ⟨by kernel_rfl⟩
instance fn5 : FnI Try.prog 5 := ⟨by kernel_rfl⟩
instance fn6 : FnI Try.prog 6 := ⟨by kernel_rfl⟩
instance fn7 : FnI Try.prog 7 := ⟨by kernel_rfl⟩
instance fn8 : FnI Try.prog 8 := ⟨by kernel_rfl⟩
instance fn9 : FnI Try.prog 9 := ⟨by kernel_rfl⟩
instance fn10 : FnI Try.prog 10 := ⟨by kernel_rfl⟩
instance fn11 : FnI Try.prog 11 := ⟨by kernel_rfl⟩
instance fn12 : FnI Try.prog 12 := ⟨by kernel_rfl⟩
instance fn13 : FnI Try.prog 13 := ⟨by kernel_rfl⟩
instance fn14 : FnI Try.prog 14 := ⟨by kernel_rfl⟩
instance fn15 : FnI Try.prog 15 := ⟨by kernel_rfl⟩
instance fn16 : FnI Try.prog 16 := ⟨by kernel_rfl⟩
instance fn17 : FnI Try.prog 17 := ⟨by kernel_rfl⟩
instance fn18 : FnI Try.prog 18 := ⟨by kernel_rfl⟩
instance fn19 : FnI Try.prog 19 := ⟨by kernel_rfl⟩
instance fn20 : FnI Try.prog 20 := ⟨by kernel_rfl⟩
instance fn21 : FnI Try.prog 21 := ⟨by kernel_rfl⟩
instance fn22 : FnI Try.prog 22 := ⟨by kernel_rfl⟩
instance fn23 : FnI Try.prog 23 := ⟨by kernel_rfl⟩
instance fn24 : FnI Try.prog 24 := ⟨by kernel_rfl⟩
instance fn25 : FnI Try.prog 25 := ⟨by kernel_rfl⟩
instance fn26 : FnI Try.prog 26 := ⟨by kernel_rfl⟩
instance fn27 : FnI Try.prog 27 := ⟨by kernel_rfl⟩
instance fn28 : FnI Try.prog 28 := ⟨by kernel_rfl⟩
instance fn29 : FnI Try.prog 29 := ⟨by kernel_rfl⟩
instance fn30 : FnI Try.prog 30 := ⟨by kernel_rfl⟩
instance fn31 : FnI Try.prog 31 := ⟨by kernel_rfl⟩
instance fn32 : FnI Try.prog 32 := ⟨by kernel_rfl⟩
instance fn33 : FnI Try.prog 33 := ⟨by kernel_rfl⟩
instance fn34 : FnI Try.prog 34 := ⟨by kernel_rfl⟩
instance fn35 : FnI Try.prog 35 := ⟨by kernel_rfl⟩
instance fn36 : FnI Try.prog 36 := ⟨by kernel_rfl⟩
instance fn37 : FnI Try.prog 37 := ⟨by kernel_rfl⟩
instance fn38 : FnI Try.prog 38 := ⟨by kernel_rfl⟩
instance fn39 : FnI Try.prog 39 := ⟨by kernel_rfl⟩
instance fn40 : FnI Try.prog 40 := ⟨by kernel_rfl⟩
instance fn41 : FnI Try.prog 41 := ⟨by kernel_rfl⟩
instance fn42 : FnI Try.prog 42 := ⟨by kernel_rfl⟩
instance fn43 : FnI Try.prog 43 := ⟨by kernel_rfl⟩
instance fn44 : FnI Try.prog 44 := ⟨by kernel_rfl⟩
instance fn45 : FnI Try.prog 45 := ⟨by kernel_rfl⟩
instance fn46 : FnI Try.prog 46 := ⟨by kernel_rfl⟩
instance fn47 : FnI Try.prog 47 := ⟨by kernel_rfl⟩
instance fn48 : FnI Try.prog 48 := ⟨by kernel_rfl⟩
instance fn49 : FnI Try.prog 49 := ⟨by kernel_rfl⟩
instance fn50 : FnI Try.prog 50 := ⟨by kernel_rfl⟩
instance fn51 : FnI Try.prog 51 := ⟨by kernel_rfl⟩
instance fn52 : FnI Try.prog 52 := ⟨by kernel_rfl⟩
instance fn53 : FnI Try.prog 53 := ⟨by kernel_rfl⟩
instance fn54 : FnI Try.prog 54 := ⟨by kernel_rfl⟩
theorem mixed : Try.prog.follows .mixedOrders = true := by kernel_rfl
end Go.Av

namespace Go.Av
open Go.Proofs
set_option maxRecDepth 10000
set_option linter.unusedSimpArgs false
set_option linter.unusedVariables false

theorem pipe_within (n l : Int) (H : Heap) : AC Try.prog 52 [.int .i64 n, .int .i64 l] H (Ret (.bool (decide (l ≤ n) && decide (n ≤ 1073741824))) H) := by
  refine AC.body (N := 12) [.tmp 4] Try.func52 rfl rfl rfl (Nat.le_of_ble_eq_true rfl) fun B hB => ?_
  repeat (first | refine then_nrm ?_ | refine blk_nrm ?_ | refine then_brk ?_ | refine blk_hit ?_ | refine blk_miss rfl ?_ | refine then_ret ?_ | refine blk_ret ?_ | refine aw_seq ?_ | refine aw_block ?_ | refine aw_skip ?_ | refine aw_exit ?_ | refine aw_ret ?_)
  refine Z5 ?_
  repeat (first | refine then_nrm ?_ | refine blk_nrm ?_ | refine then_brk ?_ | refine blk_hit ?_ | refine blk_miss rfl ?_ | refine then_ret ?_ | refine blk_ret ?_ | refine aw_seq ?_ | refine aw_block ?_ | refine aw_skip ?_ | refine aw_exit ?_ | refine aw_ret ?_)
  refine aw_out 4 (.bool (decide (l ≤ n) && decide (n ≤ 1073741824))) ?_ ?_
  · refine Z6 ?_
    refine Z6 ?_
    refine Z7 ?_
    refine Z8 ?_
    refine ao_split rfl rfl (fun hg3 => ?_) (fun hg3 => ?_)
    · refine Z9 ?_
      refine Za ?_
      exact Ze
    · refine Zg ?_
      exact Ze
  repeat (first | refine then_nrm ?_ | refine blk_nrm ?_ | refine then_brk ?_ | refine blk_hit ?_ | refine blk_miss rfl ?_ | refine then_ret ?_ | refine blk_ret ?_ | refine aw_seq ?_ | refine aw_block ?_ | refine aw_skip ?_ | refine aw_exit ?_ | refine aw_ret ?_)
  exact Zh

abbrev eB (b : UInt8) : List AV := [.int .u8 (b.toNat : Int)]
structure Packet where
  epoch : Int
  seq : Int
  ack : Int
  body : List UInt8
  deriving DecidableEq
abbrev ePacket (x : Packet) : List AV := [.int .i64 x.epoch, .int .i64 x.seq, .int .i64 x.ack, .pl (x.body.map brow)]
def fine (x : Packet) : Bool := (decide (0 ≤ x.epoch) && decide (x.epoch ≤ 1073741824)) && (decide (0 ≤ x.seq) && decide (x.seq ≤ 1073741824)) && (decide (0 ≤ x.ack) && decide (x.ack ≤ 1073741824)) && decide ((x.body.length : Int) ≤ 4096) && (decide (0 < x.seq) || ((x.body.length : Int) == 0))

theorem pipe_Fine (x : Packet) (H : Heap) : AC Try.prog 33 [.agg (ePacket x)] H (Ret (.bool (fine x)) H) := by
  refine AC.body (N := 33) [.tmp 2] Try.func33 rfl rfl rfl (Nat.le_of_ble_eq_true rfl) fun B hB => ?_
  repeat (first | refine then_nrm ?_ | refine blk_nrm ?_ | refine then_brk ?_ | refine blk_hit ?_ | refine blk_miss rfl ?_ | refine then_ret ?_ | refine blk_ret ?_ | refine aw_seq ?_ | refine aw_block ?_ | refine aw_skip ?_ | refine aw_exit ?_ | refine aw_ret ?_)
  refine aw_region ?_
  refine Zi ?_
  refine Z4 ?_
  repeat (first | refine then_nrm ?_ | refine blk_nrm ?_ | refine then_brk ?_ | refine blk_hit ?_ | refine blk_miss rfl ?_ | refine then_ret ?_ | refine blk_ret ?_ | refine aw_seq ?_ | refine aw_block ?_ | refine aw_skip ?_ | refine aw_exit ?_ | refine aw_ret ?_)
  refine aw_out 2 (.bool (fine x)) ?_ ?_
  · refine Zl ?_
    refine Zm ?_
    refine Z8 ?_
    refine ao_split rfl rfl (fun hg3 => ?_) (fun hg3 => ?_)
    · refine Zo ?_
      refine Zp ?_
      refine Zq ?_
      refine ao_split rfl rfl (fun hg8 => ?_) (fun hg8 => ?_)
      · refine Zo ?_
        refine Zp ?_
        refine Zq ?_
        refine ao_split rfl rfl (fun hg13 => ?_) (fun hg13 => ?_)
        · refine Zt ?_
          refine Za ?_
          refine Zq ?_
          refine ao_split rfl rfl (fun hg19 => ?_) (fun hg19 => ?_)
          · refine Zo ?_
            refine Zu ?_
            refine Zv ?_
            refine ao_split rfl rfl (fun hg23 => ?_) (fun hg23 => ?_)
            · refine Zy ?_
              refine Zz ?_
              exact Z10
            · refine Zt ?_
              refine Z11 ?_
              refine Zz ?_
              exact Z10
          · refine Zg ?_
            refine Z16 ?_
            exact Z10
        · refine Zg ?_
          refine Zg ?_
          refine Z17 ?_
          refine Z16 ?_
          exact Z10
      · refine Z19 ?_
        refine Zg ?_
        refine Z17 ?_
        refine Z16 ?_
        exact Z10
    · refine Z18 ?_
      refine Zq ?_
      refine Z19 ?_
      refine Zg ?_
      refine Z17 ?_
      refine Z16 ?_
      exact Z10
  repeat (first | refine then_nrm ?_ | refine blk_nrm ?_ | refine then_brk ?_ | refine blk_hit ?_ | refine blk_miss rfl ?_ | refine then_ret ?_ | refine blk_ret ?_ | refine aw_seq ?_ | refine aw_block ?_ | refine aw_skip ?_ | refine aw_exit ?_ | refine aw_ret ?_)
  exact Zh

structure Way where
  to : Int
  p : Packet
  deriving DecidableEq
abbrev eWay (w : Way) : List AV := [.int .i64 w.to, .int .i64 w.p.epoch, .int .i64 w.p.seq, .int .i64 w.p.ack, .pl (w.p.body.map brow)]
def may (w : Way) : Bool := fine w.p && decide (0 ≤ w.to) && decide (w.to < 8)
theorem bag_may (x : Way) (H : Heap) : AC Try.prog 42 [.agg (eWay x)] H (Ret (.bool (may x)) H) := by
  refine AC.body (N := 16) [.tmp 2] Try.func42 rfl rfl rfl (Nat.le_of_ble_eq_true rfl) fun B hB => ?_
  repeat (first | refine then_nrm ?_ | refine blk_nrm ?_ | refine then_brk ?_ | refine blk_hit ?_ | refine blk_miss rfl ?_ | refine then_ret ?_ | refine blk_ret ?_ | refine aw_seq ?_ | refine aw_block ?_ | refine aw_skip ?_ | refine aw_exit ?_ | refine aw_ret ?_)
  refine aw_region ?_
  refine Z1a ?_
  refine Z4 ?_
  repeat (first | refine then_nrm ?_ | refine blk_nrm ?_ | refine then_brk ?_ | refine blk_hit ?_ | refine blk_miss rfl ?_ | refine then_ret ?_ | refine blk_ret ?_ | refine aw_seq ?_ | refine aw_block ?_ | refine aw_skip ?_ | refine aw_exit ?_ | refine aw_ret ?_)
  refine aw_out 2 (.bool (may x)) ?_ ?_
  · refine Zj ?_
    refine Z1b ?_
    refine ao_ret (pipe_Fine _ _) rfl (by decide) ?_
    refine Z8 ?_
    refine ao_split rfl rfl (fun hg3 => ?_) (fun hg3 => ?_)
    · refine Zo ?_
      refine Z1c ?_
      refine Zq ?_
      refine ao_split rfl rfl (fun hg8 => ?_) (fun hg8 => ?_)
      · refine Zo ?_
        refine Z1d ?_
        refine Zc ?_
        exact Z1e
      · refine Z18 ?_
        refine Zc ?_
        exact Z1e
    · refine Z18 ?_
      refine Zq ?_
      refine Z18 ?_
      refine Zc ?_
      exact Z1e
  repeat (first | refine then_nrm ?_ | refine blk_nrm ?_ | refine then_brk ?_ | refine blk_hit ?_ | refine blk_miss rfl ?_ | refine then_ret ?_ | refine blk_ret ?_ | refine aw_seq ?_ | refine aw_block ?_ | refine aw_skip ?_ | refine aw_exit ?_ | refine aw_ret ?_)
  exact Zh
theorem bag_Right_1 (x : Way) (H : Heap) : AC Try.prog 45 [.agg (eWay x)] H (Ret (.bool (!may x)) H) := by
  refine AC.body (N := 6) [.tmp 2] Try.func45 rfl rfl rfl (Nat.le_of_ble_eq_true rfl) fun B hB => ?_
  repeat (first | refine then_nrm ?_ | refine blk_nrm ?_ | refine then_brk ?_ | refine blk_hit ?_ | refine blk_miss rfl ?_ | refine then_ret ?_ | refine blk_ret ?_ | refine aw_seq ?_ | refine aw_block ?_ | refine aw_skip ?_ | refine aw_exit ?_ | refine aw_ret ?_)
  refine aw_region ?_
  refine Z1a ?_
  refine Z4 ?_
  repeat (first | refine then_nrm ?_ | refine blk_nrm ?_ | refine then_brk ?_ | refine blk_hit ?_ | refine blk_miss rfl ?_ | refine then_ret ?_ | refine blk_ret ?_ | refine aw_seq ?_ | refine aw_block ?_ | refine aw_skip ?_ | refine aw_exit ?_ | refine aw_ret ?_)
  refine aw_region ?_
  refine Z1f ?_
  refine ao_ret (bag_may _ _) rfl (by decide) ?_
  refine Z1g ?_
  refine Z4 ?_
  repeat (first | refine then_nrm ?_ | refine blk_nrm ?_ | refine then_brk ?_ | refine blk_hit ?_ | refine blk_miss rfl ?_ | refine then_ret ?_ | refine blk_ret ?_ | refine aw_seq ?_ | refine aw_block ?_ | refine aw_skip ?_ | refine aw_exit ?_ | refine aw_ret ?_)
  exact Zh

theorem bytes_Clone (b : List UInt8) (H : Heap) (hn : b.length ≤ 140737488355328) : AC Try.prog 49 [.pl (b.map brow)] H (Ret (.pl (b.map brow)) H) := by
  refine AC.body (N := 8) [.tmp 2] Try.func49 rfl rfl rfl (Nat.le_of_ble_eq_true rfl) fun B hB => ?_
  repeat (first | refine then_nrm ?_ | refine blk_nrm ?_ | refine then_brk ?_ | refine blk_hit ?_ | refine blk_miss rfl ?_ | refine then_ret ?_ | refine blk_ret ?_ | refine aw_seq ?_ | refine aw_block ?_ | refine aw_skip ?_ | refine aw_exit ?_ | refine aw_ret ?_)
  refine aw_region ?_
  refine Z1i ?_
  repeat (first | refine then_nrm ?_ | refine blk_nrm ?_ | refine then_brk ?_ | refine blk_hit ?_ | refine blk_miss rfl ?_ | refine then_ret ?_ | refine blk_ret ?_ | refine aw_seq ?_ | refine aw_block ?_ | refine aw_skip ?_ | refine aw_exit ?_ | refine aw_ret ?_)
  refine aw_region ?_
  refine ao1 (by decide) (o_move (v := .pl _) rfl) ?_
  refine ao_cons rfl (by rintro _ ⟨⟩; decide) (o_eqNil rfl rfl _ _ _ _) ?_ (fun _ _ h => h.elim)
  rintro _ _ ⟨nb, rfl, hnb, rfl⟩
  refine Z3 ?_
  repeat (first | refine then_nrm ?_ | refine blk_nrm ?_ | refine then_brk ?_ | refine blk_hit ?_ | refine blk_miss rfl ?_ | refine then_ret ?_ | refine blk_ret ?_ | refine aw_seq ?_ | refine aw_block ?_ | refine aw_skip ?_ | refine aw_exit ?_ | refine aw_ret ?_)
  refine aw_cond rfl (fun hc => ?_) (fun hc => ?_)
  · subst hc
    have hb : b = [] := by
      cases b with
      | nil => rfl
      | cons x b => simp at hnb
    subst hb
    repeat (first | refine then_nrm ?_ | refine blk_nrm ?_ | refine then_brk ?_ | refine blk_hit ?_ | refine blk_miss rfl ?_ | refine then_ret ?_ | refine blk_ret ?_ | refine aw_seq ?_ | refine aw_block ?_ | refine aw_skip ?_ | refine aw_exit ?_ | refine aw_ret ?_)
    refine aw_region ?_
    refine Z1i ?_
    repeat (first | refine then_nrm ?_ | refine blk_nrm ?_ | refine then_brk ?_ | refine blk_hit ?_ | refine blk_miss rfl ?_ | refine then_ret ?_ | refine blk_ret ?_ | refine aw_seq ?_ | refine aw_block ?_ | refine aw_skip ?_ | refine aw_exit ?_)
    refine aw_nslpl 2 rfl ?_
    exact aw_ret (e_done hB (r_tmp rfl .nil) rfl rfl)
  · by_cases hb : b = []
    · subst hb
      repeat (first | refine then_nrm ?_ | refine blk_nrm ?_ | refine then_brk ?_ | refine blk_hit ?_ | refine blk_miss rfl ?_ | refine then_ret ?_ | refine blk_ret ?_ | refine aw_seq ?_ | refine aw_block ?_ | refine aw_skip ?_ | refine aw_exit ?_ | refine aw_ret ?_)
      refine aw_region ?_
      refine Z1j ?_
      refine Z1k ?_
      refine ao2 (by rintro _ ⟨⟩; decide) (o_append_nsl0 rfl (Src.pl (sz := 1) rfl (by simp))) ?_
      refine Z1i ?_
      repeat (first | refine then_nrm ?_ | refine blk_nrm ?_ | refine then_brk ?_ | refine blk_hit ?_ | refine blk_miss rfl ?_ | refine then_ret ?_ | refine blk_ret ?_ | refine aw_seq ?_ | refine aw_block ?_ | refine aw_skip ?_ | refine aw_exit ?_)
      refine aw_nslpl 2 rfl ?_
      exact aw_ret (e_done hB (r_tmp rfl .nil) rfl rfl)
    · repeat (first | refine then_nrm ?_ | refine blk_nrm ?_ | refine then_brk ?_ | refine blk_hit ?_ | refine blk_miss rfl ?_ | refine then_ret ?_ | refine blk_ret ?_ | refine aw_seq ?_ | refine aw_block ?_ | refine aw_skip ?_ | refine aw_exit ?_ | refine aw_ret ?_)
      refine aw_region ?_
      refine Z1j ?_
      refine Z1k ?_
      refine ao2 (by rintro _ ⟨⟩; decide) (o_append_nslL (sz := 1) rfl (by decide) rfl (Src.pl rfl (by simp [brow])) (by simpa [List.length_pos_iff] using hb) (by simp; omega) (by simp; omega) rfl) ?_
      refine Z1i ?_
      repeat (first | refine then_nrm ?_ | refine blk_nrm ?_ | refine then_brk ?_ | refine blk_hit ?_ | refine blk_miss rfl ?_ | refine then_ret ?_ | refine blk_ret ?_ | refine aw_seq ?_ | refine aw_block ?_ | refine aw_skip ?_ | refine aw_exit ?_)
      refine aw_freeze1 2 rfl rfl rfl rfl rfl (by simp [brow, AV.bels, AV.bel]) ?_
      exact aw_ret (e_done hB (r_tmp rfl .nil) rfl rfl)
end Go.Av

namespace Go.Av
open Go.Proofs
set_option maxRecDepth 10000
set_option linter.unusedSimpArgs false
set_option linter.unusedVariables false

theorem eWay_bel (n : Nat) (w : Way) : AV.bels n (eWay w) = true := rfl
theorem bag_copied (x : Way) (H : Heap) (hn : x.p.body.length ≤ 140737488355328) : AC Try.prog 43 [.agg (eWay x)] H (Ret (.agg (eWay x)) H) := by
  refine AC.body (N := 10) [.cell 2 35] Try.func43 rfl rfl rfl (Nat.le_of_ble_eq_true rfl) fun B hB => ?_
  repeat (first | refine then_nrm ?_ | refine blk_nrm ?_ | refine then_brk ?_ | refine blk_hit ?_ | refine blk_miss rfl ?_ | refine then_ret ?_ | refine blk_ret ?_ | refine aw_seq ?_ | refine aw_block ?_ | refine aw_skip ?_ | refine aw_exit ?_ | refine aw_ret ?_)
  refine aw_region ?_
  refine Z1a ?_
  refine Z1l ?_
  refine Z3 ?_
  repeat (first | refine then_nrm ?_ | refine blk_nrm ?_ | refine then_brk ?_ | refine blk_hit ?_ | refine blk_miss rfl ?_ | refine then_ret ?_ | refine blk_ret ?_ | refine aw_seq ?_ | refine aw_block ?_ | refine aw_skip ?_ | refine aw_exit ?_ | refine aw_ret ?_)
  refine aw_region ?_
  refine Zj ?_
  refine Z1m ?_
  refine Z1n ?_
  refine Zj ?_
  refine Zj ?_
  first | refine ao2 (by rintro _ ⟨⟩) (w_storeP (sz := 1) (v := .sl _ _ _ _ _) (r' := [_, _, _, _, _]) rfl rfl rfl rfl rfl rfl rfl rfl (Nat.le_of_ble_eq_true rfl) rfl) ?_ | refine ao2 (by rintro _ ⟨⟩) (w_storeP (sz := 1) (v := .pl _) (r' := [_, _, _, _, _]) rfl rfl rfl rfl rfl rfl rfl rfl (Nat.le_of_ble_eq_true rfl) rfl) ?_ | refine ao2 (by rintro _ ⟨⟩) (w_storeP (sz := 1) (v := .nsl) (r' := [_, _, _, _, _]) rfl rfl rfl rfl rfl rfl rfl rfl (Nat.le_of_ble_eq_true rfl) rfl) ?_ | refine ao2 (by rintro _ ⟨⟩) (w_storeFP (sz := 1) (v := .sl _ _ _ _ _) (r' := [_, _, _, _, _]) rfl hF rfl rfl rfl rfl rfl (Nat.le_of_ble_eq_true rfl) rfl) ?_ | refine ao2 (by rintro _ ⟨⟩) (w_storeFP (sz := 1) (v := .sl _ _ _ _ _) (r' := [_, _, _, _, _]) rfl hF1 rfl rfl rfl rfl rfl (Nat.le_of_ble_eq_true rfl) rfl) ?_ | refine ao2 (by rintro _ ⟨⟩) (w_storeFP (sz := 1) (v := .pl _) (r' := [_, _, _, _, _]) rfl hF rfl rfl rfl rfl rfl (Nat.le_of_ble_eq_true rfl) rfl) ?_ | refine ao2 (by rintro _ ⟨⟩) (w_storeFP (sz := 1) (v := .pl _) (r' := [_, _, _, _, _]) rfl hF1 rfl rfl rfl rfl rfl (Nat.le_of_ble_eq_true rfl) rfl) ?_ | refine ao2 (by rintro _ ⟨⟩) (w_storeFP (sz := 1) (v := .nsl) (r' := [_, _, _, _, _]) rfl hF rfl rfl rfl rfl rfl (Nat.le_of_ble_eq_true rfl) rfl) ?_ | refine ao2 (by rintro _ ⟨⟩) (w_storeFP (sz := 1) (v := .nsl) (r' := [_, _, _, _, _]) rfl hF1 rfl rfl rfl rfl rfl (Nat.le_of_ble_eq_true rfl) rfl) ?_
  refine Z3 ?_
  repeat (first | refine then_nrm ?_ | refine blk_nrm ?_ | refine then_brk ?_ | refine blk_hit ?_ | refine blk_miss rfl ?_ | refine then_ret ?_ | refine blk_ret ?_ | refine aw_seq ?_ | refine aw_block ?_ | refine aw_skip ?_ | refine aw_exit ?_ | refine aw_ret ?_)
  refine aw_region ?_
  refine Z1f ?_
  refine Z1o ?_
  refine Z3 ?_
  repeat (first | refine then_nrm ?_ | refine blk_nrm ?_ | refine then_brk ?_ | refine blk_hit ?_ | refine blk_miss rfl ?_ | refine then_ret ?_ | refine blk_ret ?_ | refine aw_seq ?_ | refine aw_block ?_ | refine aw_skip ?_ | refine aw_exit ?_ | refine aw_ret ?_)
  exact e_done hB (r_cellR rfl (lk rfl rfl) rfl rfl rfl .nil) rfl rfl

theorem bag_clone (l : List Way) (H : Heap) (hl : l.length ≤ 1000000) (hw : ∀ x ∈ l, x.p.body.length ≤ 140737488355328) : AC Try.prog 41 [.pl (l.map eWay)] H (Ret (.sl (Lid H.length 0) l.length 0 l.length l.length) (H ++ [⟨l.length, 5, l.map eWay⟩])) := by
  refine AC.body (N := 19) [.tmp 2] Try.func41 rfl rfl rfl (Nat.le_of_ble_eq_true rfl) fun B hB => ?_
  repeat (first | refine then_nrm ?_ | refine blk_nrm ?_ | refine then_brk ?_ | refine blk_hit ?_ | refine blk_miss rfl ?_ | refine then_ret ?_ | refine blk_ret ?_ | refine aw_seq ?_ | refine aw_block ?_ | refine aw_skip ?_ | refine aw_exit ?_ | refine aw_ret ?_)
  refine aw_region ?_
  refine Z1i ?_
  repeat (first | refine then_nrm ?_ | refine blk_nrm ?_ | refine then_brk ?_ | refine blk_hit ?_ | refine blk_miss rfl ?_ | refine then_ret ?_ | refine blk_ret ?_ | refine aw_seq ?_ | refine aw_block ?_ | refine aw_skip ?_ | refine aw_exit ?_ | refine aw_ret ?_)
  refine aw_region ?_
  refine Z1i ?_
  repeat (first | refine then_nrm ?_ | refine blk_nrm ?_ | refine then_brk ?_ | refine blk_hit ?_ | refine blk_miss rfl ?_ | refine then_ret ?_ | refine blk_ret ?_ | refine aw_seq ?_ | refine aw_block ?_ | refine aw_skip ?_ | refine aw_exit ?_)
  refine aw_ghostL (k := 0) 3 5 rfl (by decide) rfl ?_
  repeat (first | refine then_nrm ?_ | refine blk_nrm ?_ | refine then_brk ?_ | refine blk_hit ?_ | refine blk_miss rfl ?_ | refine then_ret ?_ | refine blk_ret ?_ | refine aw_seq ?_ | refine aw_block ?_ | refine aw_skip ?_ | refine aw_exit ?_ | refine aw_ret ?_)
  refine Z1p ?_
  refine Z1q ?_
  refine Z1r ?_
  repeat (first | refine then_nrm ?_ | refine blk_nrm ?_ | refine then_brk ?_ | refine blk_hit ?_ | refine blk_miss rfl ?_ | refine then_ret ?_ | refine blk_ret ?_ | refine aw_seq ?_ | refine aw_block ?_ | refine aw_skip ?_ | refine aw_exit ?_ | refine aw_ret ?_)
  refine aw_loop (G := Nat) (fun k => k ≤ l.length) (fun k => [(6, .pl (l.map eWay)), (7, .int .i64 (l.length : Int)), (8, .int .i64 (k : Int)), (3, .sl (Lid H.length 0) k 0 k k)]) (fun k => H ++ [⟨k, 5, (l.take k).map eWay⟩]) (fun k => l.length - k) 0 (Nat.zero_le _) (by repeat (first | exact Sub.nil | refine Sub.cons (by first | rfl | (simp [get]; done)) ?_)) (Fit.refl _ _) ?_
  intro k hk
  repeat (first | refine then_nrm ?_ | refine blk_nrm ?_ | refine then_brk ?_ | refine blk_hit ?_ | refine blk_miss rfl ?_ | refine then_ret ?_ | refine blk_ret ?_ | refine aw_seq ?_ | refine aw_block ?_ | refine aw_skip ?_ | refine aw_exit ?_ | refine aw_ret ?_)
  refine aw_region ?_
  refine Z1s ?_
  refine Z3 ?_
  repeat (first | refine then_nrm ?_ | refine blk_nrm ?_ | refine then_brk ?_ | refine blk_hit ?_ | refine blk_miss rfl ?_ | refine then_ret ?_ | refine blk_ret ?_ | refine aw_seq ?_ | refine aw_block ?_ | refine aw_skip ?_ | refine aw_exit ?_ | refine aw_ret ?_)
  refine aw_cond rfl (fun hc => ?_) (fun hc => ?_)
  · have hlt : k < l.length := by simpa using hc
    obtain ⟨x, hx, hxl⟩ := get_in hlt
    have hr := map_get eWay hx
    have hb := hw x hxl
    repeat (first | refine then_nrm ?_ | refine blk_nrm ?_ | refine then_brk ?_ | refine blk_hit ?_ | refine blk_miss rfl ?_ | refine then_ret ?_ | refine blk_ret ?_ | refine aw_seq ?_ | refine aw_block ?_ | refine aw_skip ?_ | refine aw_exit ?_ | refine aw_ret ?_)
    refine aw_region ?_
    refine Z1t ?_
    refine Z1f ?_
    refine Z1l ?_
    refine Z1o ?_
    refine Z3 ?_
    repeat (first | refine then_nrm ?_ | refine blk_nrm ?_ | refine then_brk ?_ | refine blk_hit ?_ | refine blk_miss rfl ?_ | refine then_ret ?_ | refine blk_ret ?_ | refine aw_seq ?_ | refine aw_block ?_ | refine aw_skip ?_ | refine aw_exit ?_ | refine aw_ret ?_)
    refine Z1p ?_
    refine Z1f ?_
    refine ao_ret (bag_copied _ _ (hw _ (by assumption))) rfl (by decide) ?_
    refine Z1u ?_
    refine Z1v ?_
    refine Z1i ?_
    repeat (first | refine then_nrm ?_ | refine blk_nrm ?_ | refine then_brk ?_ | refine blk_hit ?_ | refine blk_miss rfl ?_ | refine then_ret ?_ | refine blk_ret ?_ | refine aw_seq ?_ | refine aw_block ?_ | refine aw_skip ?_ | refine aw_exit ?_ | refine aw_ret ?_)
    refine aw_region ?_
    refine Z1w ?_
    refine Z1r ?_
    repeat (first | refine then_nrm ?_ | refine blk_nrm ?_ | refine then_brk ?_ | refine blk_hit ?_ | refine blk_miss rfl ?_ | refine then_ret ?_ | refine blk_ret ?_ | refine aw_seq ?_ | refine aw_block ?_ | refine aw_skip ?_ | refine aw_exit ?_ | refine aw_ret ?_)
    refine ⟨k + 1, by omega, by omega, (by repeat (first | exact Sub.nil | refine Sub.cons (by first | rfl | (simp [get]; done)) ?_)), Fit.loc hB (by rw [take_snoc_map eWay hx]; rfl) (by repeat (first | exact EBel.nil | refine EBel.cons (by first | rfl | (simp [AV.bel, AV.bels, Lid]; done) | (simp [AV.bel, AV.bels, Lid]; omega)) ?_)) ?_⟩
    intro o ho r hr
    simp only [List.mem_singleton] at ho
    subst ho
    exact rows_bel (eWay_bel _) _ r hr
  · have : k = l.length := by simp at hc; omega
    subst this
    rw [List.take_length]
    repeat (first | refine then_nrm ?_ | refine blk_nrm ?_ | refine then_brk ?_ | refine blk_hit ?_ | refine blk_miss rfl ?_ | refine then_ret ?_ | refine blk_ret ?_ | refine aw_seq ?_ | refine aw_block ?_ | refine aw_skip ?_ | refine aw_exit ?_ | refine aw_ret ?_)
    refine Z1p ?_
    refine Z1i ?_
    repeat (first | refine then_nrm ?_ | refine blk_nrm ?_ | refine then_brk ?_ | refine blk_hit ?_ | refine blk_miss rfl ?_ | refine then_ret ?_ | refine blk_ret ?_ | refine aw_seq ?_ | refine aw_block ?_ | refine aw_skip ?_ | refine aw_exit ?_ | refine aw_ret ?_)
    exact e_keep (G := []) hB (r_tmp rfl .nil) rfl rfl (by simp [AV.bel, Lid]) (by simpa using fun x _ => eWay_bel _ x)

end Go.Av

namespace Go.Av
open Go.Proofs
set_option maxRecDepth 10000
set_option linter.unusedSimpArgs false
set_option linter.unusedVariables false


/-- What IndexFunc finds. -/
def ixf {α : Type} (p : α → Bool) (l : List α) : Int := match l.findIdx? p with
  | some n => n
  | none => -1
theorem ixf_some {α : Type} {p : α → Bool} {l : List α} {k : Nat} {x : α} (hx : l[k]? = some x) (hp : p x = true) (hno : ∀ y ∈ l.take k, p y = false) : ixf p l = k := by
  have : l.findIdx? p = some k := by
    rw [List.findIdx?_eq_some_iff_getElem]
    obtain ⟨h1, h2⟩ := List.getElem?_eq_some_iff.1 hx
    refine ⟨h1, by rw [h2]; exact hp, fun j hj => ?_⟩
    have hj' : j < l.length := Nat.lt_trans hj h1
    have := hno l[j] (List.mem_iff_getElem?.2 ⟨j, by rw [List.getElem?_take, if_pos hj]; exact List.getElem?_eq_getElem hj'⟩)
    simp [this]
  simp [ixf, this]
theorem ixf_none {α : Type} {p : α → Bool} {l : List α} (hno : ∀ y ∈ l, p y = false) : ixf p l = -1 := by
  have : l.findIdx? p = none := by rw [List.findIdx?_eq_none_iff]; simpa using hno
  simp [ixf, this]
theorem ixf_nonneg {α : Type} (p : α → Bool) (l : List α) : decide (0 ≤ ixf p l) = l.any p := by
  rw [Bool.eq_iff_iff]
  unfold ixf
  cases h : l.findIdx? p with
  | none =>
    rw [List.findIdx?_eq_none_iff] at h
    simp
    simpa using h
  | some n =>
    rw [List.findIdx?_eq_some_iff_getElem] at h
    obtain ⟨h1, h2, _⟩ := h
    simp
    exact ⟨_, List.getElem_mem h1, h2⟩
theorem take_snoc_get {α : Type} {l : List α} {k : Nat} {x : α} (hx : l[k]? = some x) : l.take (k + 1) = l.take k ++ [x] := by
  obtain ⟨h1, h2⟩ := List.getElem?_eq_some_iff.1 hx
  rw [List.take_add_one, hx]; rfl

theorem slices_IndexFunc_bag (l : List Way) (H : Heap) (hl : l.length ≤ 1000000) : AC Try.prog 53 [.pl (l.map eWay), .fn (.func 45) [] []] H (Ret (.int .i64 (ixf (fun x => !may x) l)) H) := by
  refine AC.body (N := 19) [.tmp 4] Try.func53 rfl rfl rfl (Nat.le_of_ble_eq_true rfl) fun B hB => ?_
  repeat (first | refine then_nrm ?_ | refine blk_nrm ?_ | refine then_brk ?_ | refine blk_hit ?_ | refine blk_miss rfl ?_ | refine then_ret ?_ | refine blk_ret ?_ | refine aw_seq ?_ | refine aw_block ?_ | refine aw_skip ?_ | refine aw_exit ?_ | refine aw_ret ?_)
  refine Z1z ?_
  repeat (first | refine then_nrm ?_ | refine blk_nrm ?_ | refine then_brk ?_ | refine blk_hit ?_ | refine blk_miss rfl ?_ | refine then_ret ?_ | refine blk_ret ?_ | refine aw_seq ?_ | refine aw_block ?_ | refine aw_skip ?_ | refine aw_exit ?_ | refine aw_ret ?_)
  refine Z1p ?_
  refine Z1q ?_
  refine Z1r ?_
  repeat (first | refine then_nrm ?_ | refine blk_nrm ?_ | refine then_brk ?_ | refine blk_hit ?_ | refine blk_miss rfl ?_ | refine then_ret ?_ | refine blk_ret ?_ | refine aw_seq ?_ | refine aw_block ?_ | refine aw_skip ?_ | refine aw_exit ?_)
  refine aw_loop (G := Nat) (fun k => k ≤ l.length ∧ ∀ y ∈ l.take k, (!may y) = false) (fun k => [(0, .pl (l.map eWay)), (1, .fn (.func 45) [] []), (7, .int .i64 (l.length : Int)), (8, .int .i64 (k : Int))]) (fun _ => H ++ []) (fun k => l.length - k) 0 ⟨Nat.zero_le _, by simp⟩ (by repeat (first | exact Sub.nil | refine Sub.cons (by first | rfl | (simp [get]; done)) ?_)) (Fit.refl _ _) ?_
  rintro k ⟨hk, hno⟩
  repeat (first | refine then_nrm ?_ | refine blk_nrm ?_ | refine then_brk ?_ | refine blk_hit ?_ | refine blk_miss rfl ?_ | refine then_ret ?_ | refine blk_ret ?_ | refine aw_seq ?_ | refine aw_block ?_ | refine aw_skip ?_ | refine aw_exit ?_ | refine aw_ret ?_)
  refine aw_region ?_
  refine Z1s ?_
  refine Z3 ?_
  repeat (first | refine then_nrm ?_ | refine blk_nrm ?_ | refine then_brk ?_ | refine blk_hit ?_ | refine blk_miss rfl ?_ | refine then_ret ?_ | refine blk_ret ?_ | refine aw_seq ?_ | refine aw_block ?_ | refine aw_skip ?_ | refine aw_exit ?_ | refine aw_ret ?_)
  refine aw_cond rfl (fun hc => ?_) (fun hc => ?_)
  · have hlt : k < l.length := by simpa using hc
    obtain ⟨x, hx, hxl⟩ := get_in hlt
    have hr := map_get eWay hx
    repeat (first | refine then_nrm ?_ | refine blk_nrm ?_ | refine then_brk ?_ | refine blk_hit ?_ | refine blk_miss rfl ?_ | refine then_ret ?_ | refine blk_ret ?_ | refine aw_seq ?_ | refine aw_block ?_ | refine aw_skip ?_ | refine aw_exit ?_ | refine aw_ret ?_)
    refine Z20 ?_
    refine Z1y ?_
    repeat (first | refine then_nrm ?_ | refine blk_nrm ?_ | refine then_brk ?_ | refine blk_hit ?_ | refine blk_miss rfl ?_ | refine then_ret ?_ | refine blk_ret ?_ | refine aw_seq ?_ | refine aw_block ?_ | refine aw_skip ?_ | refine aw_exit ?_ | refine aw_ret ?_)
    refine aw_region ?_
    refine Z21 ?_
    refine Z1k ?_
    refine Z6 ?_
    refine Z1t ?_
    refine Z1f ?_
    refine ao_retv (bag_Right_1 x _) rfl rfl (by decide) ?_
    refine Z3 ?_
    repeat (first | refine then_nrm ?_ | refine blk_nrm ?_ | refine then_brk ?_ | refine blk_hit ?_ | refine blk_miss rfl ?_ | refine then_ret ?_ | refine blk_ret ?_ | refine aw_seq ?_ | refine aw_block ?_ | refine aw_skip ?_ | refine aw_exit ?_ | refine aw_ret ?_)
    refine aw_cond rfl (fun hc => ?_) (fun hc => ?_)
    · repeat (first | refine then_nrm ?_ | refine blk_nrm ?_ | refine then_brk ?_ | refine blk_hit ?_ | refine blk_miss rfl ?_ | refine then_ret ?_ | refine blk_ret ?_ | refine aw_seq ?_ | refine aw_block ?_ | refine aw_skip ?_ | refine aw_exit ?_ | refine aw_ret ?_)
      refine Z20 ?_
      refine Z1y ?_
      repeat (first | refine then_nrm ?_ | refine blk_nrm ?_ | refine then_brk ?_ | refine blk_hit ?_ | refine blk_miss rfl ?_ | refine then_ret ?_ | refine blk_ret ?_ | refine aw_seq ?_ | refine aw_block ?_ | refine aw_skip ?_ | refine aw_exit ?_ | refine aw_ret ?_)
      rw [ixf_some hx hc hno]
      exact Zh
    · repeat (first | refine then_nrm ?_ | refine blk_nrm ?_ | refine then_brk ?_ | refine blk_hit ?_ | refine blk_miss rfl ?_ | refine then_ret ?_ | refine blk_ret ?_ | refine aw_seq ?_ | refine aw_block ?_ | refine aw_skip ?_ | refine aw_exit ?_ | refine aw_ret ?_)
      refine aw_region ?_
      refine Z1w ?_
      refine Z1r ?_
      repeat (first | refine then_nrm ?_ | refine blk_nrm ?_ | refine then_brk ?_ | refine blk_hit ?_ | refine blk_miss rfl ?_ | refine then_ret ?_ | refine blk_ret ?_ | refine aw_seq ?_ | refine aw_block ?_ | refine aw_skip ?_ | refine aw_exit ?_ | refine aw_ret ?_)
      refine ⟨k + 1, by omega, ⟨by omega, ?_⟩, (by repeat (first | exact Sub.nil | refine Sub.cons (by first | rfl | (simp [get]; done)) ?_)), .refl _ _⟩
      rw [take_snoc_get hx]
      intro y hy
      rcases List.mem_append.1 hy with h | h
      · exact hno y h
      · simp only [List.mem_singleton] at h
        subst h
        exact hc
  · have : k = l.length := by simp at hc; omega
    subst this
    rw [List.take_length] at hno
    rw [ixf_none hno]
    repeat (first | refine then_nrm ?_ | refine blk_nrm ?_ | refine then_brk ?_ | refine blk_hit ?_ | refine blk_miss rfl ?_ | refine then_ret ?_ | refine blk_ret ?_ | refine aw_seq ?_ | refine aw_block ?_ | refine aw_skip ?_ | refine aw_exit ?_ | refine aw_ret ?_)
    refine Z1z ?_
    repeat (first | refine then_nrm ?_ | refine blk_nrm ?_ | refine then_brk ?_ | refine blk_hit ?_ | refine blk_miss rfl ?_ | refine then_ret ?_ | refine blk_ret ?_ | refine aw_seq ?_ | refine aw_block ?_ | refine aw_skip ?_ | refine aw_exit ?_ | refine aw_ret ?_)
    exact Zh

theorem slices_ContainsFunc_bag (l : List Way) (H : Heap) (hl : l.length ≤ 1000000) : AC Try.prog 44 [.pl (l.map eWay), .fn (.func 45) [] []] H (Ret (.bool (l.any fun x => !may x)) H) := by
  refine AC.body (N := 9) [.tmp 4] Try.func44 rfl rfl rfl (Nat.le_of_ble_eq_true rfl) fun B hB => ?_
  repeat (first | refine then_nrm ?_ | refine blk_nrm ?_ | refine then_brk ?_ | refine blk_hit ?_ | refine blk_miss rfl ?_ | refine then_ret ?_ | refine blk_ret ?_ | refine aw_seq ?_ | refine aw_block ?_ | refine aw_skip ?_ | refine aw_exit ?_ | refine aw_ret ?_)
  refine Z5 ?_
  repeat (first | refine then_nrm ?_ | refine blk_nrm ?_ | refine then_brk ?_ | refine blk_hit ?_ | refine blk_miss rfl ?_ | refine then_ret ?_ | refine blk_ret ?_ | refine aw_seq ?_ | refine aw_block ?_ | refine aw_skip ?_ | refine aw_exit ?_ | refine aw_ret ?_)
  refine Z1p ?_
  refine Z21 ?_
  refine ao_ret (slices_IndexFunc_bag _ _ (by assumption)) rfl (by decide) ?_
  refine Z7 ?_
  refine Z4 ?_
  repeat (first | refine then_nrm ?_ | refine blk_nrm ?_ | refine then_brk ?_ | refine blk_hit ?_ | refine blk_miss rfl ?_ | refine then_ret ?_ | refine blk_ret ?_ | refine aw_seq ?_ | refine aw_block ?_ | refine aw_skip ?_ | refine aw_exit ?_ | refine aw_ret ?_)
  rw [← ixf_nonneg]
  exact Zh

/-- Right bag? -/
def bright (l : List Way) : Bool := decide ((l.length : Int) ≤ 256) && l.all may
theorem bag_Right (l : List Way) (H : Heap) (hl : l.length ≤ 1000000) : AC Try.prog 14 [.pl (l.map eWay)] H (Ret (.bool (bright l)) H) := by
  have hb : bright l = (decide ((l.length : Int) ≤ 256) && !(l.any fun x => !may x)) := by simp [bright, List.all_eq_not_any_not]
  rw [hb]
  refine AC.body (N := 11) [.tmp 2] Try.func14 rfl rfl rfl (Nat.le_of_ble_eq_true rfl) fun B hB => ?_
  repeat (first | refine then_nrm ?_ | refine blk_nrm ?_ | refine then_brk ?_ | refine blk_hit ?_ | refine blk_miss rfl ?_ | refine then_ret ?_ | refine blk_ret ?_ | refine aw_seq ?_ | refine aw_block ?_ | refine aw_skip ?_ | refine aw_exit ?_ | refine aw_ret ?_)
  refine Z5 ?_
  repeat (first | refine then_nrm ?_ | refine blk_nrm ?_ | refine then_brk ?_ | refine blk_hit ?_ | refine blk_miss rfl ?_ | refine then_ret ?_ | refine blk_ret ?_ | refine aw_seq ?_ | refine aw_block ?_ | refine aw_skip ?_ | refine aw_exit ?_ | refine aw_ret ?_)
  refine aw_out 2 (.bool (decide ((l.length : Int) ≤ 256) && !(l.any fun x => !may x))) ?_ ?_
  · refine Z22 ?_
    refine Z23 ?_
    refine Z8 ?_
    refine ao_split rfl rfl (fun hg3 => ?_) (fun hg3 => ?_)
    · refine Z24 ?_
      refine ao_y rfl rfl (by decide) (V2.call (slices_ContainsFunc_bag _ _ (by assumption)) rfl) ?_
      refine Z25 ?_
      exact Ze
    · refine Z18 ?_
      exact Ze
  repeat (first | refine then_nrm ?_ | refine blk_nrm ?_ | refine then_brk ?_ | refine blk_hit ?_ | refine blk_miss rfl ?_ | refine then_ret ?_ | refine blk_ret ?_ | refine aw_seq ?_ | refine aw_block ?_ | refine aw_skip ?_ | refine aw_exit ?_ | refine aw_ret ?_)
  exact Zh
def bthere (l : List Way) (at_ : Int) : Int := if bright l = false then 1 else if at_ < 0 ∨ (l.length : Int) ≤ at_ then 6 else 0
theorem bag_there (l : List Way) (i : Int) (H : Heap) (hl : l.length ≤ 1000000) : AC Try.prog 46 [.pl (l.map eWay), .int .i64 i] H (Ret (.int .i64 (bthere l i)) H) := by
  refine AC.body (N := 18) [.tmp 4] Try.func46 rfl rfl rfl (Nat.le_of_ble_eq_true rfl) fun B hB => ?_
  repeat (first | refine then_nrm ?_ | refine blk_nrm ?_ | refine then_brk ?_ | refine blk_hit ?_ | refine blk_miss rfl ?_ | refine then_ret ?_ | refine blk_ret ?_ | refine aw_seq ?_ | refine aw_block ?_ | refine aw_skip ?_ | refine aw_exit ?_ | refine aw_ret ?_)
  refine Z1z ?_
  repeat (first | refine then_nrm ?_ | refine blk_nrm ?_ | refine then_brk ?_ | refine blk_hit ?_ | refine blk_miss rfl ?_ | refine then_ret ?_ | refine blk_ret ?_ | refine aw_seq ?_ | refine aw_block ?_ | refine aw_skip ?_ | refine aw_exit ?_ | refine aw_ret ?_)
  refine Z1p ?_
  refine Z26 ?_
  refine Z1g ?_
  refine Z4 ?_
  repeat (first | refine then_nrm ?_ | refine blk_nrm ?_ | refine then_brk ?_ | refine blk_hit ?_ | refine blk_miss rfl ?_ | refine then_ret ?_ | refine blk_ret ?_ | refine aw_seq ?_ | refine aw_block ?_ | refine aw_skip ?_ | refine aw_exit ?_ | refine aw_ret ?_)
  refine aw_cond rfl (fun hc => ?_) (fun hc => ?_)
  · repeat (first | refine then_nrm ?_ | refine blk_nrm ?_ | refine then_brk ?_ | refine blk_hit ?_ | refine blk_miss rfl ?_ | refine then_ret ?_ | refine blk_ret ?_ | refine aw_seq ?_ | refine aw_block ?_ | refine aw_skip ?_ | refine aw_exit ?_ | refine aw_ret ?_)
    refine Z1z ?_
    repeat (first | refine then_nrm ?_ | refine blk_nrm ?_ | refine then_brk ?_ | refine blk_hit ?_ | refine blk_miss rfl ?_ | refine then_ret ?_ | refine blk_ret ?_ | refine aw_seq ?_ | refine aw_block ?_ | refine aw_skip ?_ | refine aw_exit ?_ | refine aw_ret ?_)
    rw [show bthere l i = 1 by simp_all [bthere]]
    exact Zh
  · repeat (first | refine then_nrm ?_ | refine blk_nrm ?_ | refine then_brk ?_ | refine blk_hit ?_ | refine blk_miss rfl ?_ | refine then_ret ?_ | refine blk_ret ?_ | refine aw_seq ?_ | refine aw_block ?_ | refine aw_skip ?_ | refine aw_exit ?_ | refine aw_ret ?_)
    refine aw_out 9 (.bool (decide (i < 0) || decide ((l.length : Int) ≤ i))) ?_ ?_
    · refine Z6 ?_
      refine Z1s ?_
      refine Z8 ?_
      refine ao_split rfl rfl (fun hg2 => ?_) (fun hg2 => ?_)
      · refine Zy ?_
        exact Ze
      · refine Z9 ?_
        refine Z24 ?_
        refine Zs ?_
        refine Z1c ?_
        exact Ze
    repeat (first | refine then_nrm ?_ | refine blk_nrm ?_ | refine then_brk ?_ | refine blk_hit ?_ | refine blk_miss rfl ?_ | refine then_ret ?_ | refine blk_ret ?_ | refine aw_seq ?_ | refine aw_block ?_ | refine aw_skip ?_ | refine aw_exit ?_ | refine aw_ret ?_)
    refine aw_cond rfl (fun hc => ?_) (fun hc => ?_)
    · repeat (first | refine then_nrm ?_ | refine blk_nrm ?_ | refine then_brk ?_ | refine blk_hit ?_ | refine blk_miss rfl ?_ | refine then_ret ?_ | refine blk_ret ?_ | refine aw_seq ?_ | refine aw_block ?_ | refine aw_skip ?_ | refine aw_exit ?_ | refine aw_ret ?_)
      refine Z1z ?_
      repeat (first | refine then_nrm ?_ | refine blk_nrm ?_ | refine then_brk ?_ | refine blk_hit ?_ | refine blk_miss rfl ?_ | refine then_ret ?_ | refine blk_ret ?_ | refine aw_seq ?_ | refine aw_block ?_ | refine aw_skip ?_ | refine aw_exit ?_ | refine aw_ret ?_)
      rw [show bthere l i = 6 by simp_all [bthere]]
      exact Zh
    · repeat (first | refine then_nrm ?_ | refine blk_nrm ?_ | refine then_brk ?_ | refine blk_hit ?_ | refine blk_miss rfl ?_ | refine then_ret ?_ | refine blk_ret ?_ | refine aw_seq ?_ | refine aw_block ?_ | refine aw_skip ?_ | refine aw_exit ?_ | refine aw_ret ?_)
      refine Z1z ?_
      repeat (first | refine then_nrm ?_ | refine blk_nrm ?_ | refine then_brk ?_ | refine blk_hit ?_ | refine blk_miss rfl ?_ | refine then_ret ?_ | refine blk_ret ?_ | refine aw_seq ?_ | refine aw_block ?_ | refine aw_skip ?_ | refine aw_exit ?_ | refine aw_ret ?_)
      rw [show bthere l i = 0 by simp_all [bthere]]
      exact Zh
end Go.Av

namespace Go.Av
open Go.Proofs
set_option maxRecDepth 10000
set_option linter.unusedSimpArgs false
set_option linter.unusedVariables false


theorem ways_bel (n : Nat) (l : List Way) : ∀ r ∈ l.map eWay, AV.bels n r = true := rows_bel (eWay_bel n) l
theorem ways_len (l : List Way) : ∀ r ∈ l.map eWay, r.length = 5 := rows_len (e := eWay) (n := 5) (fun _ => rfl) l
theorem ints_bel (n : Nat) (l : List Int) : ∀ r ∈ l.map (fun i => [AV.int .i64 i]), AV.bels n r = true := rows_bel (fun _ => rfl) l

theorem slices_Delete_bag (l : List Way) (i id g : Nat) (H : Heap) (hid : H[id]? = some ⟨g, 5, l.map eWay⟩) (hi : i < l.length) (hl : l.length ≤ 1000000) :
    AC Try.prog 47 [.sl id g 0 l.length l.length, .int .i64 (i : Int), .int .i64 ((i + 1 : Nat) : Int)] H (Ret (.sl id (g + 1) 0 (l.length - 1) l.length) (H.set id ⟨g + 1, 5, (l.eraseIdx i).map eWay⟩)) := by
  have hF := hid
  have e1 : ((l.map eWay).drop (i + 1)).take (l.length - (i + 1)) = (l.drop (i + 1)).map eWay := by
    rw [List.map_drop, List.take_of_length_le (by simp)]
  have e2 : ((l.drop (i + 1)).map eWay).length = l.length - (i + 1) := by simp
  have e3 : (l.map eWay).take i ++ (l.drop (i + 1)).map eWay = (l.eraseIdx i).map eWay := by
    rw [List.eraseIdx_eq_take_drop_succ, List.map_append, List.map_take]
  have e4 : i + ((l.drop (i + 1)).map eWay).length = l.length - 1 := by rw [e2]; omega
  refine AC.body (N := 33) [.tmp 6] Try.func47 rfl rfl rfl (Nat.le_of_ble_eq_true rfl) fun B hB => ?_
  repeat (first | refine then_nrm ?_ | refine blk_nrm ?_ | refine then_brk ?_ | refine blk_hit ?_ | refine blk_miss rfl ?_ | refine then_ret ?_ | refine blk_ret ?_ | refine aw_seq ?_ | refine aw_block ?_ | refine aw_skip ?_ | refine aw_exit ?_ | refine aw_ret ?_)
  refine aw_region ?_
  refine Z1i ?_
  repeat (first | refine then_nrm ?_ | refine blk_nrm ?_ | refine then_brk ?_ | refine blk_hit ?_ | refine blk_miss rfl ?_ | refine then_ret ?_ | refine blk_ret ?_ | refine aw_seq ?_ | refine aw_block ?_ | refine aw_skip ?_ | refine aw_exit ?_ | refine aw_ret ?_)
  refine Z1p ?_
  refine Z6 ?_
  refine Z6 ?_
  refine Z1k ?_
  refine Z27 ?_
  refine ao1 (by decide) (o_slices3 rfl (lkF hF) rfl rfl (.some rfl rfl) rfl rfl (by omega) (by omega) (by omega)) ?_
  refine Z3 ?_
  repeat (first | refine then_nrm ?_ | refine blk_nrm ?_ | refine then_brk ?_ | refine blk_hit ?_ | refine blk_miss rfl ?_ | refine then_ret ?_ | refine blk_ret ?_ | refine aw_seq ?_ | refine aw_block ?_ | refine aw_skip ?_ | refine aw_exit ?_ | refine aw_ret ?_)
  refine Z20 ?_
  refine Z6 ?_
  refine Z28 ?_
  refine Z3 ?_
  repeat (first | refine then_nrm ?_ | refine blk_nrm ?_ | refine then_brk ?_ | refine blk_hit ?_ | refine blk_miss rfl ?_ | refine then_ret ?_ | refine blk_ret ?_ | refine aw_seq ?_ | refine aw_block ?_ | refine aw_skip ?_ | refine aw_exit ?_ | refine aw_ret ?_)
  refine aw_cond rfl (fun hc => ?_) (fun hc => ?_)
  · simp at hc; omega
  · repeat (first | refine then_nrm ?_ | refine blk_nrm ?_ | refine then_brk ?_ | refine blk_hit ?_ | refine blk_miss rfl ?_ | refine then_ret ?_ | refine blk_ret ?_ | refine aw_seq ?_ | refine aw_block ?_ | refine aw_skip ?_ | refine aw_exit ?_ | refine aw_ret ?_)
    refine Z1p ?_
    refine Z27 ?_
    refine Z1y ?_
    repeat (first | refine then_nrm ?_ | refine blk_nrm ?_ | refine then_brk ?_ | refine blk_hit ?_ | refine blk_miss rfl ?_ | refine then_ret ?_ | refine blk_ret ?_ | refine aw_seq ?_ | refine aw_block ?_ | refine aw_skip ?_ | refine aw_exit ?_ | refine aw_ret ?_)
    refine aw_drawP mixed (some 6) 999 ?_
    refine Z29 ?_
    refine Z2a ?_
    refine Z2b ?_
    refine aqp 2 rfl (by decide +kernel) (by decide) (fun G => w_slices rfl (lkF hF) rfl rfl .none (.some rfl rfl) (by omega) (by omega)) ?_
    first | refine aq0 3 rfl (by decide +kernel) (by decide) (fun _ => o_move (v := .sl _ _ _ _ _) rfl) ?_ | refine aq0 3 rfl (by decide +kernel) (by decide) (fun _ => o_move (v := .pl _) rfl) ?_ | refine aq0 3 rfl (by decide +kernel) (by decide) (fun _ => o_move (v := .nsl) rfl) ?_
    refine Z2c ?_
    refine aqp 5 rfl (by decide +kernel) (by decide) (fun G => w_slices rfl (lkF hF) rfl rfl (.some rfl rfl) .none (by omega) (by omega)) ?_
    refine aqs 6 rfl (by decide +kernel) (by first | exact fun _ => trivial | exact fun _ => ⟨_, rfl⟩ | exact fun _ => ⟨_, rfl, rfl⟩ | exact yet_done (by decide +kernel)) (by rintro _ ⟨⟩; decide) (w_appendF l.length rfl hF rfl rfl (Src.sl (o := ⟨g, 5, l.map eWay⟩) rfl (lkF hF) rfl (by rw [Nat.zero_add]; exact e1) e2) rfl (by simp; omega) (by rw [e2]; omega) (by rw [e2]; omega) (by omega)) ?_
    first | refine aq0 7 rfl (by decide +kernel) (by decide) (fun _ => o_assign (v := .sl _ _ _ _ _) rfl) ?_ | refine aq0 7 rfl (by decide +kernel) (by decide) (fun _ => o_assign (v := .pl _) rfl) ?_ | refine aq0 7 rfl (by decide +kernel) (by decide) (fun _ => o_assign (v := .nsl) rfl) ?_
    refine Z2d ?_
    simp only [Nat.sub_zero, e4, e3]
    have hF2 : (H.set id ⟨g + 1, 5, (l.eraseIdx i).map eWay⟩)[id]? = some ⟨g + 1, 5, (l.eraseIdx i).map eWay⟩ := List.getElem?_set_self (List.getElem?_eq_some_iff.1 hid).1
    repeat (first | refine then_nrm ?_ | refine blk_nrm ?_ | refine then_brk ?_ | refine blk_hit ?_ | refine blk_miss rfl ?_ | refine then_ret ?_ | refine blk_ret ?_ | refine aw_seq ?_ | refine aw_block ?_ | refine aw_skip ?_ | refine aw_exit ?_ | refine aw_ret ?_)
    refine Z1p ?_
    refine Z1k ?_
    refine ao1 (by decide) (w_lens rfl (lkF hF2) rfl) ?_
    refine Z6 ?_
    refine ao1 (by decide) (w_slices (l := l.length - 1) (h := l.length) rfl (lkF hF2) rfl rfl (.some rfl rfl) (.some rfl (by simp)) (by omega) (by omega)) ?_
    refine ao2 (by rintro _ ⟨⟩) (w_clearF rfl hF2 rfl rfl rfl) ?_
    refine Z3 ?_
    rw [show ((l.eraseIdx i).map eWay).take (0 + (l.length - 1)) = (l.eraseIdx i).map eWay from List.take_of_length_le (by simp [List.length_eraseIdx, hi]), List.set_set]
    repeat (first | refine then_nrm ?_ | refine blk_nrm ?_ | refine then_brk ?_ | refine blk_hit ?_ | refine blk_miss rfl ?_ | refine then_ret ?_ | refine blk_ret ?_ | refine aw_seq ?_ | refine aw_block ?_ | refine aw_skip ?_ | refine aw_exit ?_ | refine aw_ret ?_)
    refine Z1p ?_
    refine Z1i ?_
    repeat (first | refine then_nrm ?_ | refine blk_nrm ?_ | refine then_brk ?_ | refine blk_hit ?_ | refine blk_miss rfl ?_ | refine then_ret ?_ | refine blk_ret ?_ | refine aw_seq ?_ | refine aw_block ?_ | refine aw_skip ?_ | refine aw_exit ?_ | refine aw_ret ?_)
    refine e_doneF hB (r_tmp rfl .nil) rfl ?_ (by simp) (hB.heap.set _ _ (ways_bel _ _))
    simp [AV.bel]
    exact (List.getElem?_eq_some_iff.1 hid).1

/-! ### bag -/
structure BagOut where
  l : List Way
  e : Int
def bPut (l : List Way) (to : Int) (x : Packet) : List Way × Int :=
  if !bright l || !may ⟨to, x⟩ then (l, 1) else if (l.length : Int) = 256 then (l, 5) else (l ++ [⟨to, x⟩], 0)
def way0 : Way := ⟨0, 0, 0, 0, []⟩
def bTake (l : List Way) (i : Int) : List Way × Way × Int :=
  if bthere l i ≠ 0 then (l, way0, bthere l i) else (l.eraseIdx i.toNat, l.getD i.toNat way0, 0)
def bTwice (l : List Way) (i : Int) : List Way × Int :=
  if bthere l i ≠ 0 then (l, bthere l i) else bPut l (l.getD i.toNat way0).to (l.getD i.toNat way0).p

/-- A clone that nobody writes. -/
theorem bag_cloneP {ty : TypeId} {N : Nat} {env : Env} {H : Heap} {xs : Array Operand} {ts : Array TypeId} (l : List Way) (hl : l.length ≤ 1000000) (hw : ∀ x ∈ l, x.p.body.length ≤ 140737488355328) (hvs : xs.toList.map (aev env) = [.pl (l.map eWay)]) :
    V2 Try.prog N (.call { callee := .value (.func 41), args := xs, argTypes := ts }) ty env H (.pl (l.map eWay)) H :=
  V2.freeze1 (V2.call (bag_clone l H hl hw) hvs) rfl (by simp) (ways_bel 0 l)

theorem bag_Put (l : List Way) (to : Int) (x : Packet) (H : Heap) (hl : l.length ≤ 1000000) (hw : ∀ x ∈ l, x.p.body.length ≤ 140737488355328) (hx : x.body.length ≤ 140737488355328) :
    AC Try.prog 12 [.pl (l.map eWay), .int .i64 to, .agg (ePacket x)] H (Ret (.tup [.pl ((bPut l to x).1.map eWay), .int .i64 (bPut l to x).2]) H) := by
  refine AC.body (N := 35) [.tmp 6, .tmp 7] Try.func12 rfl rfl rfl (Nat.le_of_ble_eq_true rfl) fun B hB => ?_
  repeat (first | refine then_nrm ?_ | refine blk_nrm ?_ | refine then_brk ?_ | refine blk_hit ?_ | refine blk_miss rfl ?_ | refine then_ret ?_ | refine blk_ret ?_ | refine aw_seq ?_ | refine aw_block ?_ | refine aw_skip ?_ | refine aw_exit ?_ | refine aw_ret ?_)
  refine aw_region ?_
  refine Zi ?_
  refine Z1h ?_
  refine Z1y ?_
  repeat (first | refine then_nrm ?_ | refine blk_nrm ?_ | refine then_brk ?_ | refine blk_hit ?_ | refine blk_miss rfl ?_ | refine then_ret ?_ | refine blk_ret ?_ | refine aw_seq ?_ | refine aw_block ?_ | refine aw_skip ?_ | refine aw_exit ?_ | refine aw_ret ?_)
  refine Z2e ?_
  refine Z29 ?_
  refine Z2a ?_
  refine Z2f ?_
  refine Z2g ?_
  refine aq0 4 rfl (by decide +kernel) (by decide) (fun _ => V1.up (o_build (cs := [.int _ _, .int _ _, .int _ _, .int _ _, _]) rfl)) ?_
  refine aa_all [1, 5] (by decide +kernel) (by simp) (by first | exact fun _ => trivial | exact fun _ => ⟨_, rfl⟩ | exact fun _ => ⟨_, rfl, rfl⟩ | exact yet_done (by decide +kernel)) ?_
  simp only [List.forall_mem_cons, List.not_mem_nil, false_implies, implies_true, and_true]
  refine ⟨?_, ?_⟩
  refine aat rfl (by rintro _ ⟨⟩; decide) (V2.callo (bag_clone l _ hl hw) rfl rfl) ?_
  refine aqs 5 rfl (by decide +kernel) (by first | exact fun _ => trivial | exact fun _ => ⟨_, rfl⟩ | exact fun _ => ⟨_, rfl, rfl⟩ | exact yet_done (by decide +kernel)) (by rintro _ ⟨⟩; decide) (o_allocL (sz := 5) rfl (by decide) rfl) ?_
  refine Z2h ?_
  refine Z2i ?_
  refine Z2d ?_
  rotate_left
  refine aat rfl (by rintro _ ⟨⟩; decide) (o_allocL (sz := 5) rfl (by decide) rfl) ?_
  refine aqs 1 rfl (by decide +kernel) (by first | exact fun _ => trivial | exact fun _ => ⟨_, rfl⟩ | exact fun _ => ⟨_, rfl, rfl⟩ | exact yet_done (by decide +kernel)) (by rintro _ ⟨⟩; decide) (V2.callo (bag_clone l _ hl hw) rfl rfl) ?_
  refine Z2h ?_
  refine Z2i ?_
  refine Z2d ?_
  rotate_left
  all_goals
    repeat (first | refine then_nrm ?_ | refine blk_nrm ?_ | refine then_brk ?_ | refine blk_hit ?_ | refine blk_miss rfl ?_ | refine then_ret ?_ | refine blk_ret ?_ | refine aw_seq ?_ | refine aw_block ?_ | refine aw_skip ?_ | refine aw_exit ?_ | refine aw_ret ?_)
    refine aw_out 15 (.bool (!bright l || !may ⟨to, x⟩)) ?_ ?_
    · refine Z1k ?_
      refine Z26 ?_
      refine Z1g ?_
      refine Z8 ?_
      refine ao_split rfl rfl (fun hg3 => ?_) (fun hg3 => ?_)
      · refine Z2j ?_
        exact Ze
      · first | refine ao_y1 rfl rfl (by decide) (w_loadR rfl (lk rfl rfl) rfl rfl rfl) ?_ | refine ao_y1 rfl rfl (by decide) (w_loadR rfl (lk rfl rfl) rfl (zadd hr) rfl) ?_ | refine ao_y1 rfl rfl (by decide) (w_loadR rfl (lk rfl rfl) rfl (zadd hr1) rfl) ?_ | refine ao_y1 rfl rfl (by decide) (w_loadR rfl (lk rfl rfl) rfl (zadd hr2) rfl) ?_ | refine ao_y1 rfl rfl (by decide) (w_loadRp rfl hr rfl) ?_ | refine ao_y1 rfl rfl (by decide) (w_loadRp rfl hr1 rfl) ?_ | refine ao_y1 rfl rfl (by decide) (w_loadRp rfl hr2 rfl) ?_ | refine ao_y1 rfl rfl (by decide) (w_loadN (cs := [_, _, _, _, _]) rfl (lk rfl rfl) rfl rfl rfl rfl) ?_ | refine ao_y1 rfl rfl (by decide) (o_loadNp (cs := [_, _, _, _, _]) rfl hr rfl rfl) ?_ | refine ao_y1 rfl rfl (by decide) (o_loadNp (cs := [_, _, _, _, _]) rfl hr1 rfl rfl) ?_ | refine ao_y1 rfl rfl (by decide) (o_loadNp (cs := [_, _, _, _, _]) rfl hr2 rfl rfl) ?_ | refine ao_y1 rfl rfl (by decide) (w_loadR rfl (lkF hF) rfl rfl rfl) ?_ | refine ao_y1 rfl rfl (by decide) (w_loadN (cs := [_, _, _, _, _]) rfl (lkF hF) rfl rfl rfl rfl) ?_
        refine ao_y rfl rfl (by decide) (V2.call (bag_may ⟨to, x⟩ _) rfl) ?_
        refine Z25 ?_
        exact Ze
    repeat (first | refine then_nrm ?_ | refine blk_nrm ?_ | refine then_brk ?_ | refine blk_hit ?_ | refine blk_miss rfl ?_ | refine then_ret ?_ | refine blk_ret ?_ | refine aw_seq ?_ | refine aw_block ?_ | refine aw_skip ?_ | refine aw_exit ?_ | refine aw_ret ?_)
    refine aw_cond rfl (fun hc => ?_) (fun hc => ?_)
    · have hc0 := hc
      repeat (first | refine then_nrm ?_ | refine blk_nrm ?_ | refine then_brk ?_ | refine blk_hit ?_ | refine blk_miss rfl ?_ | refine then_ret ?_ | refine blk_ret ?_ | refine aw_seq ?_ | refine aw_block ?_ | refine aw_skip ?_ | refine aw_exit ?_ | refine aw_ret ?_)
      refine Z1p ?_
      refine Z1h ?_
      refine Z1y ?_
      repeat (first | refine then_nrm ?_ | refine blk_nrm ?_ | refine then_brk ?_ | refine blk_hit ?_ | refine blk_miss rfl ?_ | refine then_ret ?_ | refine blk_ret ?_ | refine aw_seq ?_ | refine aw_block ?_ | refine aw_skip ?_ | refine aw_exit ?_)
      refine Z2k ?_
      refine aw_ret ?_
      rw [show bPut l to x = (l, 1) by simp [bPut, hc]]
      exact Z2l
    · have hc0 := hc
      repeat (first | refine then_nrm ?_ | refine blk_nrm ?_ | refine then_brk ?_ | refine blk_hit ?_ | refine blk_miss rfl ?_ | refine then_ret ?_ | refine blk_ret ?_ | refine aw_seq ?_ | refine aw_block ?_ | refine aw_skip ?_ | refine aw_exit ?_ | refine aw_ret ?_)
      refine Z1p ?_
      refine Z1q ?_
      refine Z28 ?_
      refine Z4 ?_
      repeat (first | refine then_nrm ?_ | refine blk_nrm ?_ | refine then_brk ?_ | refine blk_hit ?_ | refine blk_miss rfl ?_ | refine then_ret ?_ | refine blk_ret ?_ | refine aw_seq ?_ | refine aw_block ?_ | refine aw_skip ?_ | refine aw_exit ?_ | refine aw_ret ?_)
      refine aw_cond rfl (fun hc => ?_) (fun hc => ?_)
      · repeat (first | refine then_nrm ?_ | refine blk_nrm ?_ | refine then_brk ?_ | refine blk_hit ?_ | refine blk_miss rfl ?_ | refine then_ret ?_ | refine blk_ret ?_ | refine aw_seq ?_ | refine aw_block ?_ | refine aw_skip ?_ | refine aw_exit ?_ | refine aw_ret ?_)
        refine Z1p ?_
        refine Z1h ?_
        refine Z1y ?_
        repeat (first | refine then_nrm ?_ | refine blk_nrm ?_ | refine then_brk ?_ | refine blk_hit ?_ | refine blk_miss rfl ?_ | refine then_ret ?_ | refine blk_ret ?_ | refine aw_seq ?_ | refine aw_block ?_ | refine aw_skip ?_ | refine aw_exit ?_)
        refine Z2k ?_
        refine aw_ret ?_
        rw [show bPut l to x = (l, 5) by simp [bPut, hc0]; simpa using hc]
        exact Z2l
      · repeat (first | refine then_nrm ?_ | refine blk_nrm ?_ | refine then_brk ?_ | refine blk_hit ?_ | refine blk_miss rfl ?_ | refine then_ret ?_ | refine blk_ret ?_ | refine aw_seq ?_ | refine aw_block ?_ | refine aw_skip ?_ | refine aw_exit ?_ | refine aw_ret ?_)
        refine Z1p ?_
        refine Z1f ?_
        refine ao_ret (bag_copied ⟨to, x⟩ _ hx) rfl (by decide) ?_
        refine Z1u ?_
        refine Z1v ?_
        refine Z1h ?_
        refine Z1y ?_
        repeat (first | refine then_nrm ?_ | refine blk_nrm ?_ | refine then_brk ?_ | refine blk_hit ?_ | refine blk_miss rfl ?_ | refine then_ret ?_ | refine blk_ret ?_ | refine aw_seq ?_ | refine aw_block ?_ | refine aw_skip ?_ | refine aw_exit ?_)
        refine aw_freezeL (ys := (l ++ [Way.mk to x]).map eWay) 6 rfl rfl rfl rfl (by simp only [List.map_append, List.map_cons, List.map_nil, List.drop_zero]; rw [List.take_of_length_le (by simp), List.take_of_length_le (by simp)]) (by simp) (ways_bel 0 _) ?_
        refine aw_ret ?_
        rw [show bPut l to x = (l ++ [⟨to, x⟩], 0) by simp [bPut, hc0]; simpa using hc]
        exact Z2l


theorem bag_Take (l : List Way) (i : Int) (H : Heap) (hl : l.length ≤ 1000000) (hw : ∀ x ∈ l, x.p.body.length ≤ 140737488355328) :
    AC Try.prog 17 [.pl (l.map eWay), .int .i64 i] H (Ret (.tup [.pl ((bTake l i).1.map eWay), .agg (eWay (bTake l i).2.1), .int .i64 (bTake l i).2.2]) H) := by
  refine AC.body (N := 30) [.tmp 4, .cell 5 35, .tmp 6] Try.func17 rfl rfl rfl (Nat.le_of_ble_eq_true rfl) fun B hB => ?_
  repeat (first | refine then_nrm ?_ | refine blk_nrm ?_ | refine then_brk ?_ | refine blk_hit ?_ | refine blk_miss rfl ?_ | refine then_ret ?_ | refine blk_ret ?_ | refine aw_seq ?_ | refine aw_block ?_ | refine aw_skip ?_ | refine aw_exit ?_ | refine aw_ret ?_)
  refine aw_region ?_
  refine Z1h ?_
  refine Z1l ?_
  refine Z1y ?_
  repeat (first | refine then_nrm ?_ | refine blk_nrm ?_ | refine then_brk ?_ | refine blk_hit ?_ | refine blk_miss rfl ?_ | refine then_ret ?_ | refine blk_ret ?_ | refine aw_seq ?_ | refine aw_block ?_ | refine aw_skip ?_ | refine aw_exit ?_ | refine aw_ret ?_)
  refine Z1p ?_
  refine ao2 (by rintro _ ⟨⟩; decide) (V2.callo (bag_clone l _ hl hw) rfl rfl) ?_
  refine Z1i ?_
  repeat (first | refine then_nrm ?_ | refine blk_nrm ?_ | refine then_brk ?_ | refine blk_hit ?_ | refine blk_miss rfl ?_ | refine then_ret ?_ | refine blk_ret ?_ | refine aw_seq ?_ | refine aw_block ?_ | refine aw_skip ?_ | refine aw_exit ?_ | refine aw_ret ?_)
  refine Z1p ?_
  refine Z6 ?_
  refine ao_ret (bag_there _ _ _ (by assumption)) rfl (by decide) ?_
  refine Z1y ?_
  repeat (first | refine then_nrm ?_ | refine blk_nrm ?_ | refine then_brk ?_ | refine blk_hit ?_ | refine blk_miss rfl ?_ | refine then_ret ?_ | refine blk_ret ?_ | refine aw_seq ?_ | refine aw_block ?_ | refine aw_skip ?_ | refine aw_exit ?_ | refine aw_ret ?_)
  refine Z20 ?_
  refine Z2m ?_
  refine Z3 ?_
  repeat (first | refine then_nrm ?_ | refine blk_nrm ?_ | refine then_brk ?_ | refine blk_hit ?_ | refine blk_miss rfl ?_ | refine then_ret ?_ | refine blk_ret ?_ | refine aw_seq ?_ | refine aw_block ?_ | refine aw_skip ?_ | refine aw_exit ?_ | refine aw_ret ?_)
  refine aw_cond rfl (fun hc => ?_) (fun hc => ?_)
  · repeat (first | refine then_nrm ?_ | refine blk_nrm ?_ | refine then_brk ?_ | refine blk_hit ?_ | refine blk_miss rfl ?_ | refine then_ret ?_ | refine blk_ret ?_ | refine aw_seq ?_ | refine aw_block ?_ | refine aw_skip ?_ | refine aw_exit ?_ | refine aw_ret ?_)
    refine Z1p ?_
    refine ao1 (by decide) (V1.up (o_build (cs := [.int _ _, .int _ _, .int _ _, .int _ _, _]) rfl)) ?_
    refine Z6 ?_
    refine Z1h ?_
    refine Z1o ?_
    refine Z1y ?_
    repeat (first | refine then_nrm ?_ | refine blk_nrm ?_ | refine then_brk ?_ | refine blk_hit ?_ | refine blk_miss rfl ?_ | refine then_ret ?_ | refine blk_ret ?_ | refine aw_seq ?_ | refine aw_block ?_ | refine aw_skip ?_ | refine aw_exit ?_)
    refine aw_freeze1 4 rfl rfl rfl rfl (by simp) (ways_bel 0 l) ?_
    refine aw_ret ?_
    rw [show bTake l i = (l, way0, bthere l i) by rw [bTake, if_pos (by simpa using hc)]]
    exact Z2n
  · have h0 : bthere l i = 0 := by simpa using hc
    have hb : 0 ≤ i ∧ i < l.length := by
      unfold bthere at h0
      split at h0
      · cases h0
      · split at h0
        · cases h0
        · omega
    obtain ⟨k, rfl⟩ : ∃ k : Nat, i = k := ⟨i.toNat, by omega⟩
    have hk : k < l.length := by omega
    obtain ⟨x, hx, hxl⟩ := get_in hk
    have hr := map_get eWay hx
    repeat (first | refine then_nrm ?_ | refine blk_nrm ?_ | refine then_brk ?_ | refine blk_hit ?_ | refine blk_miss rfl ?_ | refine then_ret ?_ | refine blk_ret ?_ | refine aw_seq ?_ | refine aw_block ?_ | refine aw_skip ?_ | refine aw_exit ?_ | refine aw_ret ?_)
    refine Z1p ?_
    refine Z6 ?_
    refine Z1t ?_
    refine Z1f ?_
    refine Z1l ?_
    refine Z1o ?_
    refine Z3 ?_
    repeat (first | refine then_nrm ?_ | refine blk_nrm ?_ | refine then_brk ?_ | refine blk_hit ?_ | refine blk_miss rfl ?_ | refine then_ret ?_ | refine blk_ret ?_ | refine aw_seq ?_ | refine aw_block ?_ | refine aw_skip ?_ | refine aw_exit ?_ | refine aw_ret ?_)
    refine aw_drawR mixed (some 7) 2 ?_
    refine Z29 ?_
    refine Z2a ?_
    refine Z2b ?_
    refine Z2f ?_
    first | refine aq0 3 rfl (by decide +kernel) (by decide) (fun _ => o_add rfl rfl (wrap64_ok (by omega) (by omega))) ?_ | refine aq0 3 rfl (by decide +kernel) (by decide) (fun _ => o_add rfl rfl rfl) ?_
    first | refine aqr 5 rfl (by decide +kernel) (by decide) (fun G hG => w_loadR rfl (lk rfl hG) rfl rfl rfl) ?_ | refine aqr 5 rfl (by decide +kernel) (by decide) (fun G hG => w_loadR rfl (lk rfl hG) rfl (zadd hr) rfl) ?_ | refine aqr 5 rfl (by decide +kernel) (by decide) (fun G hG => w_loadR rfl (lk rfl hG) rfl (zadd hr1) rfl) ?_ | refine aqr 5 rfl (by decide +kernel) (by decide) (fun G hG => w_loadR rfl (lk rfl hG) rfl (zadd hr2) rfl) ?_ | refine aqr 5 rfl (by decide +kernel) (by decide) (fun G hG => w_loadRp rfl hr rfl) ?_ | refine aqr 5 rfl (by decide +kernel) (by decide) (fun G hG => w_loadRp rfl hr1 rfl) ?_ | refine aqr 5 rfl (by decide +kernel) (by decide) (fun G hG => w_loadRp rfl hr2 rfl) ?_ | refine aqr 5 rfl (by decide +kernel) (by decide) (fun G hG => w_loadN (cs := [_, _, _, _, _]) rfl (lk rfl hG) rfl rfl rfl rfl) ?_ | refine aqr 5 rfl (by decide +kernel) (by decide) (fun G hG => o_loadNp (cs := [_, _, _, _, _]) rfl hr rfl rfl) ?_ | refine aqr 5 rfl (by decide +kernel) (by decide) (fun G hG => o_loadNp (cs := [_, _, _, _, _]) rfl hr1 rfl rfl) ?_ | refine aqr 5 rfl (by decide +kernel) (by decide) (fun G hG => o_loadNp (cs := [_, _, _, _, _]) rfl hr2 rfl rfl) ?_ | refine aqr 5 rfl (by decide +kernel) (by decide) (fun G hG => w_loadR rfl (lkF hF) rfl rfl rfl) ?_ | refine aqr 5 rfl (by decide +kernel) (by decide) (fun G hG => w_loadN (cs := [_, _, _, _, _]) rfl (lkF hF) rfl rfl rfl rfl) ?_
    refine aqs 4 rfl (by decide +kernel) (by first | exact fun _ => trivial | exact fun _ => ⟨_, rfl⟩ | exact fun _ => ⟨_, rfl, rfl⟩ | exact yet_done (by decide +kernel)) (by rintro _ ⟨⟩; decide) (V2.callo3 (slices_Delete_bag l k _ _ _ (lk rfl rfl) hk hl) rfl rfl) ?_
    refine Z2h ?_
    refine Z2i ?_
    refine aq0 8 rfl (by decide +kernel) (by decide) (fun _ => o_assign (v := .int _ _) rfl) ?_
    refine Z2d ?_
    repeat (first | refine then_nrm ?_ | refine blk_nrm ?_ | refine then_brk ?_ | refine blk_hit ?_ | refine blk_miss rfl ?_ | refine then_ret ?_ | refine blk_ret ?_ | refine aw_seq ?_ | refine aw_block ?_ | refine aw_skip ?_ | refine aw_exit ?_)
    refine aw_freezeL (ys := (l.eraseIdx k).map eWay) 4 rfl rfl rfl rfl (by rw [List.drop_zero, List.take_of_length_le (by simp [List.length_eraseIdx, hk])]) (by simp [List.length_eraseIdx, hk]) (ways_bel 0 _) ?_
    refine aw_ret ?_
    rw [show bTake l k = (l.eraseIdx k, x, 0) by simp [bTake, h0, hx]]
    exact Z2n
end Go.Av

namespace Go.Av
open Go.Proofs
set_option maxRecDepth 10000
set_option linter.unusedSimpArgs false
set_option linter.unusedVariables false

/-! ### what loops find -/
theorem all_step {α : Type} {l : List α} {k : Nat} {x : α} {p : α → Bool} (hx : l[k]? = some x) (h : (l.take k).all p = true) (hp : p x = true) : (l.take (k + 1)).all p = true := by
  rw [take_snoc_get hx, List.all_append, h]; simp [hp]
theorem all_fail {α : Type} {l : List α} {x : α} {p : α → Bool} (hx : x ∈ l) (hp : p x = false) : l.all p = false := by
  rw [List.all_eq_false]; exact ⟨x, hx, by simp [hp]⟩
theorem eq_step {α : Type} {a b : List α} {k : Nat} {x : α} (hx : a[k]? = some x) (hy : b[k]? = some x) (h : a.take k = b.take k) : a.take (k + 1) = b.take (k + 1) := by
  rw [take_snoc_get hx, take_snoc_get hy, h]
theorem eq_done {α : Type} {a b : List α} (hn : a.length = b.length) (h : a.take a.length = b.take a.length) : a = b := by
  rw [List.take_length, hn, List.take_length] at h; exact h
theorem ne_at {α : Type} {a b : List α} {k : Nat} {x y : α} (hx : a[k]? = some x) (hy : b[k]? = some y) (h : x ≠ y) : a ≠ b := by
  rintro rfl; rw [hx] at hy; exact h (Option.some.inj hy)
theorem packet_ne (x y : Packet) : (x.epoch != y.epoch || x.seq != y.seq || x.ack != y.ack || !decide (x.body = y.body)) = !decide (x = y) := by
  cases x; cases y; simp [Bool.and_assoc]; grind

set_option maxHeartbeats 0 in
theorem ref17_Packets (a b : List Packet) (H : Heap) (ha : a.length ≤ 1000000) : AC Try.prog 36 [.pl (a.map ePacket), .pl (b.map ePacket)] H (Ret (.bool (decide (a = b))) H) := by
  refine AC.body (N := 69) [.tmp 4] Try.func36 rfl rfl rfl (Nat.le_of_ble_eq_true rfl) fun B hB => ?_
  repeat (first | refine then_nrm ?_ | refine blk_nrm ?_ | refine then_brk ?_ | refine blk_hit ?_ | refine blk_miss rfl ?_ | refine then_ret ?_ | refine blk_ret ?_ | refine aw_seq ?_ | refine aw_block ?_ | refine aw_skip ?_ | refine aw_exit ?_ | refine aw_ret ?_)
  refine Z5 ?_
  repeat (first | refine then_nrm ?_ | refine blk_nrm ?_ | refine then_brk ?_ | refine blk_hit ?_ | refine blk_miss rfl ?_ | refine then_ret ?_ | refine blk_ret ?_ | refine aw_seq ?_ | refine aw_block ?_ | refine aw_skip ?_ | refine aw_exit ?_ | refine aw_ret ?_)
  refine Z1p ?_
  refine Z1q ?_
  refine Z22 ?_
  refine Z2m ?_
  refine Z3 ?_
  repeat (first | refine then_nrm ?_ | refine blk_nrm ?_ | refine then_brk ?_ | refine blk_hit ?_ | refine blk_miss rfl ?_ | refine then_ret ?_ | refine blk_ret ?_ | refine aw_seq ?_ | refine aw_block ?_ | refine aw_skip ?_ | refine aw_exit ?_ | refine aw_ret ?_)
  refine aw_cond rfl (fun hc => ?_) (fun hc => ?_)
  · repeat (first | refine then_nrm ?_ | refine blk_nrm ?_ | refine then_brk ?_ | refine blk_hit ?_ | refine blk_miss rfl ?_ | refine then_ret ?_ | refine blk_ret ?_ | refine aw_seq ?_ | refine aw_block ?_ | refine aw_skip ?_ | refine aw_exit ?_ | refine aw_ret ?_)
    refine Z5 ?_
    repeat (first | refine then_nrm ?_ | refine blk_nrm ?_ | refine then_brk ?_ | refine blk_hit ?_ | refine blk_miss rfl ?_ | refine then_ret ?_ | refine blk_ret ?_ | refine aw_seq ?_ | refine aw_block ?_ | refine aw_skip ?_ | refine aw_exit ?_ | refine aw_ret ?_)
    rw [show decide (a = b) = false by simp at hc; simp; rintro rfl; exact hc rfl]
    exact Zh
  have hn : a.length = b.length := by simp at hc; omega
  repeat (first | refine then_nrm ?_ | refine blk_nrm ?_ | refine then_brk ?_ | refine blk_hit ?_ | refine blk_miss rfl ?_ | refine then_ret ?_ | refine blk_ret ?_ | refine aw_seq ?_ | refine aw_block ?_ | refine aw_skip ?_ | refine aw_exit ?_ | refine aw_ret ?_)
  refine Z1z ?_
  repeat (first | refine then_nrm ?_ | refine blk_nrm ?_ | refine then_brk ?_ | refine blk_hit ?_ | refine blk_miss rfl ?_ | refine then_ret ?_ | refine blk_ret ?_ | refine aw_seq ?_ | refine aw_block ?_ | refine aw_skip ?_ | refine aw_exit ?_)
  refine aw_loop (G := Nat) (fun k => k ≤ a.length ∧ a.take k = b.take k) (fun k => [(0, .pl (a.map ePacket)), (1, .pl (b.map ePacket)), (5, .int .i64 (k : Int))]) (fun _ => H ++ []) (fun k => a.length - k) 0 ⟨Nat.zero_le _, by simp⟩ (by repeat (first | exact Sub.nil | refine Sub.cons (by first | rfl | (simp [get]; done)) ?_)) (Fit.refl _ _) ?_
  rintro k ⟨hk, hno⟩
  repeat (first | refine then_nrm ?_ | refine blk_nrm ?_ | refine then_brk ?_ | refine blk_hit ?_ | refine blk_miss rfl ?_ | refine then_ret ?_ | refine blk_ret ?_ | refine aw_seq ?_ | refine aw_block ?_ | refine aw_skip ?_ | refine aw_exit ?_ | refine aw_ret ?_)
  refine Z20 ?_
  refine Z22 ?_
  refine Z1s ?_
  refine Z3 ?_
  repeat (first | refine then_nrm ?_ | refine blk_nrm ?_ | refine then_brk ?_ | refine blk_hit ?_ | refine blk_miss rfl ?_ | refine then_ret ?_ | refine blk_ret ?_ | refine aw_seq ?_ | refine aw_block ?_ | refine aw_skip ?_ | refine aw_exit ?_ | refine aw_ret ?_)
  refine aw_cond rfl (fun hc => ?_) (fun hc => ?_)
  · have hlt : k < a.length := by simpa using hc
    obtain ⟨x, hx, hxl⟩ := get_in hlt
    obtain ⟨y, hy, hyl⟩ := get_in (l := b) (show k < b.length by omega)
    have hr := map_get ePacket hx
    have hr1 := map_get ePacket hy
    repeat (first | refine then_nrm ?_ | refine blk_nrm ?_ | refine then_brk ?_ | refine blk_hit ?_ | refine blk_miss rfl ?_ | refine then_ret ?_ | refine blk_ret ?_ | refine aw_seq ?_ | refine aw_block ?_ | refine aw_skip ?_ | refine aw_exit ?_ | refine aw_ret ?_)
    refine aw_of_out 68 (.bool (x.epoch != y.epoch || x.seq != y.seq || x.ack != y.ack || !decide (x.body = y.body))) ?_ ?_
    · refine Z2e ?_
      refine Z29 ?_
      refine Z2a ?_
      refine Z2b ?_
      refine Z2o ?_
      refine Z2p ?_
      first | refine aqp 4 rfl (by decide +kernel) (by decide) (fun G => w_load1 (v := .int _ _) rfl (lk rfl rfl) rfl rfl rfl) ?_ | refine aqp 4 rfl (by decide +kernel) (by decide) (fun G => w_load1 (v := .int _ _) rfl (lk rfl rfl) rfl (zadd hr) rfl) ?_ | refine aqp 4 rfl (by decide +kernel) (by decide) (fun G => w_load1 (v := .int _ _) rfl (lk rfl rfl) rfl (zadd hr1) rfl) ?_ | refine aqp 4 rfl (by decide +kernel) (by decide) (fun G => w_load1 (v := .int _ _) rfl (lk rfl rfl) rfl (zadd hr2) rfl) ?_ | refine aqp 4 rfl (by decide +kernel) (by decide) (fun G => o_load1p (v := .int _ _) rfl hr rfl) ?_ | refine aqp 4 rfl (by decide +kernel) (by decide) (fun G => o_load1p (v := .int _ _) rfl hr1 rfl) ?_ | refine aqp 4 rfl (by decide +kernel) (by decide) (fun G => o_load1p (v := .int _ _) rfl hr2 rfl) ?_ | refine aqp 4 rfl (by decide +kernel) (by decide) (fun G => w_load1 (v := .int _ _) rfl (lkF hF) rfl rfl rfl) ?_
      refine Z2q ?_
      refine Z2r ?_
      first | refine aqp 7 rfl (by decide +kernel) (by decide) (fun G => w_indexAddrpN rfl rfl hr rfl) ?_ | refine aqp 7 rfl (by decide +kernel) (by decide) (fun G => w_indexAddrpN rfl rfl hr1 rfl) ?_ | refine aqp 7 rfl (by decide +kernel) (by decide) (fun G => w_indexAddrpN rfl rfl hr2 rfl) ?_ | refine aqp 7 rfl (by decide +kernel) (by decide) (fun G => w_indexAddrN rfl (lk rfl rfl) rfl rfl rfl (by omega)) ?_ | refine aqp 7 rfl (by decide +kernel) (by decide) (fun G => w_indexAddrp rfl rfl (by omega) hr rfl) ?_ | refine aqp 7 rfl (by decide +kernel) (by decide) (fun G => w_indexAddrp rfl rfl (by omega) hr1 rfl) ?_ | refine aqp 7 rfl (by decide +kernel) (by decide) (fun G => w_indexAddrp rfl rfl (by omega) hr2 rfl) ?_ | refine aqp 7 rfl (by decide +kernel) (by decide) (fun G => w_indexAddr rfl (lk rfl rfl) rfl rfl rfl (by omega) (by omega)) ?_
      refine Z2s ?_
      first | refine aqp 9 rfl (by decide +kernel) (by decide) (fun G => w_load1 (v := .int _ _) rfl (lk rfl rfl) rfl rfl rfl) ?_ | refine aqp 9 rfl (by decide +kernel) (by decide) (fun G => w_load1 (v := .int _ _) rfl (lk rfl rfl) rfl (zadd hr) rfl) ?_ | refine aqp 9 rfl (by decide +kernel) (by decide) (fun G => w_load1 (v := .int _ _) rfl (lk rfl rfl) rfl (zadd hr1) rfl) ?_ | refine aqp 9 rfl (by decide +kernel) (by decide) (fun G => w_load1 (v := .int _ _) rfl (lk rfl rfl) rfl (zadd hr2) rfl) ?_ | refine aqp 9 rfl (by decide +kernel) (by decide) (fun G => o_load1p (v := .int _ _) rfl hr rfl) ?_ | refine aqp 9 rfl (by decide +kernel) (by decide) (fun G => o_load1p (v := .int _ _) rfl hr1 rfl) ?_ | refine aqp 9 rfl (by decide +kernel) (by decide) (fun G => o_load1p (v := .int _ _) rfl hr2 rfl) ?_ | refine aqp 9 rfl (by decide +kernel) (by decide) (fun G => w_load1 (v := .int _ _) rfl (lkF hF) rfl rfl rfl) ?_
      refine aq0 10 rfl (by decide +kernel) (by decide) (fun _ => o_ne rfl rfl) ?_
      refine aq0 11 rfl (by decide +kernel) (by decide) (fun _ => o_move (v := .bool _) rfl) ?_
      refine aq_split (g := 28) rfl (fun hg11 => ?_) (fun hg11 => ?_)
      · refine aqn0 (g := 28) 12 rfl (by decide +kernel) (by decide) rfl rfl rfl ?_
        refine aqn0 (g := 28) 13 rfl (by decide +kernel) (by decide) rfl rfl rfl ?_
        refine aqn0 (g := 28) 14 rfl (by decide +kernel) (by decide) rfl rfl rfl ?_
        refine aqn0 (g := 28) 15 rfl (by decide +kernel) (by decide) rfl rfl rfl ?_
        refine aqn0 (g := 28) 16 rfl (by decide +kernel) (by decide) rfl rfl rfl ?_
        refine aqn0 (g := 28) 17 rfl (by decide +kernel) (by decide) rfl rfl rfl ?_
        refine aqn0 (g := 28) 18 rfl (by decide +kernel) (by decide) rfl rfl rfl ?_
        refine aqn0 (g := 28) 19 rfl (by decide +kernel) (by decide) rfl rfl rfl ?_
        refine aqn0 (g := 28) 20 rfl (by decide +kernel) (by decide) rfl rfl rfl ?_
        refine aqn0 (g := 28) 21 rfl (by decide +kernel) (by decide) rfl rfl rfl ?_
        refine aqn0 (g := 28) 22 rfl (by decide +kernel) (by decide) rfl rfl rfl ?_
        refine Z2t ?_
        refine Z2u ?_
        refine Z2v ?_
        refine Z2w ?_
        refine Z2x ?_
        refine Z2y ?_
        refine Z2z ?_
        refine Z30 ?_
        refine Z31 ?_
        refine Z32 ?_
        refine Z33 ?_
        refine Z34 ?_
        refine Z35 ?_
        refine Z36 ?_
        refine Z37 ?_
        refine Z38 ?_
        refine Z39 ?_
        refine Z3a ?_
        refine Z3b ?_
        refine Z3c ?_
        refine Z3d ?_
        refine Z3e ?_
        refine Z3f ?_
        refine Z3g ?_
        refine Z3h ?_
        refine Z3i ?_
        refine Z3j ?_
        refine Z3k ?_
        refine Z3l ?_
        exact Z3m
      · first | refine aqy0 (g := 28) 12 rfl (by decide +kernel) (by decide) rfl rfl (fun _ => o_move (v := .sl _ _ _ _ _) rfl) ?_ | refine aqy0 (g := 28) 12 rfl (by decide +kernel) (by decide) rfl rfl (fun _ => o_move (v := .pl _) rfl) ?_ | refine aqy0 (g := 28) 12 rfl (by decide +kernel) (by decide) rfl rfl (fun _ => o_move (v := .nsl) rfl) ?_
        refine aqy0 (g := 28) 13 rfl (by decide +kernel) (by decide) rfl rfl (fun _ => o_move (v := .int _ _) rfl) ?_
        first | refine aqyp (g := 28) 14 rfl (by decide +kernel) (by decide) rfl rfl (fun G => w_indexAddrpN rfl rfl hr rfl) ?_ | refine aqyp (g := 28) 14 rfl (by decide +kernel) (by decide) rfl rfl (fun G => w_indexAddrpN rfl rfl hr1 rfl) ?_ | refine aqyp (g := 28) 14 rfl (by decide +kernel) (by decide) rfl rfl (fun G => w_indexAddrpN rfl rfl hr2 rfl) ?_ | refine aqyp (g := 28) 14 rfl (by decide +kernel) (by decide) rfl rfl (fun G => w_indexAddrN rfl (lk rfl rfl) rfl rfl rfl (by omega)) ?_ | refine aqyp (g := 28) 14 rfl (by decide +kernel) (by decide) rfl rfl (fun G => w_indexAddrp rfl rfl (by omega) hr rfl) ?_ | refine aqyp (g := 28) 14 rfl (by decide +kernel) (by decide) rfl rfl (fun G => w_indexAddrp rfl rfl (by omega) hr1 rfl) ?_ | refine aqyp (g := 28) 14 rfl (by decide +kernel) (by decide) rfl rfl (fun G => w_indexAddrp rfl rfl (by omega) hr2 rfl) ?_ | refine aqyp (g := 28) 14 rfl (by decide +kernel) (by decide) rfl rfl (fun G => w_indexAddr rfl (lk rfl rfl) rfl rfl rfl (by omega) (by omega)) ?_
        first | refine aqyp (g := 28) 15 rfl (by decide +kernel) (by decide) rfl rfl (fun G => w_fieldAddr rfl (lk rfl rfl) rfl (by decide)) ?_ | refine aqyp (g := 28) 15 rfl (by decide +kernel) (by decide) rfl rfl (fun G => w_fieldAddrp rfl (by decide)) ?_ | refine aqyp (g := 28) 15 rfl (by decide +kernel) (by decide) rfl rfl (fun G => w_fieldAddr rfl (lkF hF) rfl (by decide)) ?_
        first | refine aqyp (g := 28) 16 rfl (by decide +kernel) (by decide) rfl rfl (fun G => w_load1 (v := .int _ _) rfl (lk rfl rfl) rfl rfl rfl) ?_ | refine aqyp (g := 28) 16 rfl (by decide +kernel) (by decide) rfl rfl (fun G => w_load1 (v := .int _ _) rfl (lk rfl rfl) rfl (zadd hr) rfl) ?_ | refine aqyp (g := 28) 16 rfl (by decide +kernel) (by decide) rfl rfl (fun G => w_load1 (v := .int _ _) rfl (lk rfl rfl) rfl (zadd hr1) rfl) ?_ | refine aqyp (g := 28) 16 rfl (by decide +kernel) (by decide) rfl rfl (fun G => w_load1 (v := .int _ _) rfl (lk rfl rfl) rfl (zadd hr2) rfl) ?_ | refine aqyp (g := 28) 16 rfl (by decide +kernel) (by decide) rfl rfl (fun G => o_load1p (v := .int _ _) rfl hr rfl) ?_ | refine aqyp (g := 28) 16 rfl (by decide +kernel) (by decide) rfl rfl (fun G => o_load1p (v := .int _ _) rfl hr1 rfl) ?_ | refine aqyp (g := 28) 16 rfl (by decide +kernel) (by decide) rfl rfl (fun G => o_load1p (v := .int _ _) rfl hr2 rfl) ?_ | refine aqyp (g := 28) 16 rfl (by decide +kernel) (by decide) rfl rfl (fun G => w_load1 (v := .int _ _) rfl (lkF hF) rfl rfl rfl) ?_
        first | refine aqy0 (g := 28) 17 rfl (by decide +kernel) (by decide) rfl rfl (fun _ => o_move (v := .sl _ _ _ _ _) rfl) ?_ | refine aqy0 (g := 28) 17 rfl (by decide +kernel) (by decide) rfl rfl (fun _ => o_move (v := .pl _) rfl) ?_ | refine aqy0 (g := 28) 17 rfl (by decide +kernel) (by decide) rfl rfl (fun _ => o_move (v := .nsl) rfl) ?_
        refine aqy0 (g := 28) 18 rfl (by decide +kernel) (by decide) rfl rfl (fun _ => o_move (v := .int _ _) rfl) ?_
        first | refine aqyp (g := 28) 19 rfl (by decide +kernel) (by decide) rfl rfl (fun G => w_indexAddrpN rfl rfl hr rfl) ?_ | refine aqyp (g := 28) 19 rfl (by decide +kernel) (by decide) rfl rfl (fun G => w_indexAddrpN rfl rfl hr1 rfl) ?_ | refine aqyp (g := 28) 19 rfl (by decide +kernel) (by decide) rfl rfl (fun G => w_indexAddrpN rfl rfl hr2 rfl) ?_ | refine aqyp (g := 28) 19 rfl (by decide +kernel) (by decide) rfl rfl (fun G => w_indexAddrN rfl (lk rfl rfl) rfl rfl rfl (by omega)) ?_ | refine aqyp (g := 28) 19 rfl (by decide +kernel) (by decide) rfl rfl (fun G => w_indexAddrp rfl rfl (by omega) hr rfl) ?_ | refine aqyp (g := 28) 19 rfl (by decide +kernel) (by decide) rfl rfl (fun G => w_indexAddrp rfl rfl (by omega) hr1 rfl) ?_ | refine aqyp (g := 28) 19 rfl (by decide +kernel) (by decide) rfl rfl (fun G => w_indexAddrp rfl rfl (by omega) hr2 rfl) ?_ | refine aqyp (g := 28) 19 rfl (by decide +kernel) (by decide) rfl rfl (fun G => w_indexAddr rfl (lk rfl rfl) rfl rfl rfl (by omega) (by omega)) ?_
        first | refine aqyp (g := 28) 20 rfl (by decide +kernel) (by decide) rfl rfl (fun G => w_fieldAddr rfl (lk rfl rfl) rfl (by decide)) ?_ | refine aqyp (g := 28) 20 rfl (by decide +kernel) (by decide) rfl rfl (fun G => w_fieldAddrp rfl (by decide)) ?_ | refine aqyp (g := 28) 20 rfl (by decide +kernel) (by decide) rfl rfl (fun G => w_fieldAddr rfl (lkF hF) rfl (by decide)) ?_
        first | refine aqyp (g := 28) 21 rfl (by decide +kernel) (by decide) rfl rfl (fun G => w_load1 (v := .int _ _) rfl (lk rfl rfl) rfl rfl rfl) ?_ | refine aqyp (g := 28) 21 rfl (by decide +kernel) (by decide) rfl rfl (fun G => w_load1 (v := .int _ _) rfl (lk rfl rfl) rfl (zadd hr) rfl) ?_ | refine aqyp (g := 28) 21 rfl (by decide +kernel) (by decide) rfl rfl (fun G => w_load1 (v := .int _ _) rfl (lk rfl rfl) rfl (zadd hr1) rfl) ?_ | refine aqyp (g := 28) 21 rfl (by decide +kernel) (by decide) rfl rfl (fun G => w_load1 (v := .int _ _) rfl (lk rfl rfl) rfl (zadd hr2) rfl) ?_ | refine aqyp (g := 28) 21 rfl (by decide +kernel) (by decide) rfl rfl (fun G => o_load1p (v := .int _ _) rfl hr rfl) ?_ | refine aqyp (g := 28) 21 rfl (by decide +kernel) (by decide) rfl rfl (fun G => o_load1p (v := .int _ _) rfl hr1 rfl) ?_ | refine aqyp (g := 28) 21 rfl (by decide +kernel) (by decide) rfl rfl (fun G => o_load1p (v := .int _ _) rfl hr2 rfl) ?_ | refine aqyp (g := 28) 21 rfl (by decide +kernel) (by decide) rfl rfl (fun G => w_load1 (v := .int _ _) rfl (lkF hF) rfl rfl rfl) ?_
        refine aqy0 (g := 28) 22 rfl (by decide +kernel) (by decide) rfl rfl (fun _ => o_ne rfl rfl) ?_
        refine Z2t ?_
        refine Z2u ?_
        refine aq_split (g := 41) rfl (fun hg24 => ?_) (fun hg24 => ?_)
        · refine Z2v ?_
          refine Z2w ?_
          refine Z2x ?_
          refine Z2y ?_
          refine Z2z ?_
          refine Z30 ?_
          refine Z31 ?_
          refine Z32 ?_
          refine Z33 ?_
          refine Z34 ?_
          refine Z35 ?_
          refine Z36 ?_
          refine Z37 ?_
          refine Z38 ?_
          refine Z39 ?_
          refine Z3a ?_
          refine Z3b ?_
          refine Z3c ?_
          refine Z3d ?_
          refine Z3e ?_
          refine Z3f ?_
          refine Z3g ?_
          refine Z3h ?_
          refine Z3i ?_
          refine Z3j ?_
          refine Z3k ?_
          refine Z3l ?_
          exact Z3m
        · first | refine aqy0 (g := 41) 25 rfl (by decide +kernel) (by decide) rfl rfl (fun _ => o_move (v := .sl _ _ _ _ _) rfl) ?_ | refine aqy0 (g := 41) 25 rfl (by decide +kernel) (by decide) rfl rfl (fun _ => o_move (v := .pl _) rfl) ?_ | refine aqy0 (g := 41) 25 rfl (by decide +kernel) (by decide) rfl rfl (fun _ => o_move (v := .nsl) rfl) ?_
          refine aqy0 (g := 41) 26 rfl (by decide +kernel) (by decide) rfl rfl (fun _ => o_move (v := .int _ _) rfl) ?_
          first | refine aqyp (g := 41) 27 rfl (by decide +kernel) (by decide) rfl rfl (fun G => w_indexAddrpN rfl rfl hr rfl) ?_ | refine aqyp (g := 41) 27 rfl (by decide +kernel) (by decide) rfl rfl (fun G => w_indexAddrpN rfl rfl hr1 rfl) ?_ | refine aqyp (g := 41) 27 rfl (by decide +kernel) (by decide) rfl rfl (fun G => w_indexAddrpN rfl rfl hr2 rfl) ?_ | refine aqyp (g := 41) 27 rfl (by decide +kernel) (by decide) rfl rfl (fun G => w_indexAddrN rfl (lk rfl rfl) rfl rfl rfl (by omega)) ?_ | refine aqyp (g := 41) 27 rfl (by decide +kernel) (by decide) rfl rfl (fun G => w_indexAddrp rfl rfl (by omega) hr rfl) ?_ | refine aqyp (g := 41) 27 rfl (by decide +kernel) (by decide) rfl rfl (fun G => w_indexAddrp rfl rfl (by omega) hr1 rfl) ?_ | refine aqyp (g := 41) 27 rfl (by decide +kernel) (by decide) rfl rfl (fun G => w_indexAddrp rfl rfl (by omega) hr2 rfl) ?_ | refine aqyp (g := 41) 27 rfl (by decide +kernel) (by decide) rfl rfl (fun G => w_indexAddr rfl (lk rfl rfl) rfl rfl rfl (by omega) (by omega)) ?_
          first | refine aqyp (g := 41) 28 rfl (by decide +kernel) (by decide) rfl rfl (fun G => w_fieldAddr rfl (lk rfl rfl) rfl (by decide)) ?_ | refine aqyp (g := 41) 28 rfl (by decide +kernel) (by decide) rfl rfl (fun G => w_fieldAddrp rfl (by decide)) ?_ | refine aqyp (g := 41) 28 rfl (by decide +kernel) (by decide) rfl rfl (fun G => w_fieldAddr rfl (lkF hF) rfl (by decide)) ?_
          first | refine aqyp (g := 41) 29 rfl (by decide +kernel) (by decide) rfl rfl (fun G => w_load1 (v := .int _ _) rfl (lk rfl rfl) rfl rfl rfl) ?_ | refine aqyp (g := 41) 29 rfl (by decide +kernel) (by decide) rfl rfl (fun G => w_load1 (v := .int _ _) rfl (lk rfl rfl) rfl (zadd hr) rfl) ?_ | refine aqyp (g := 41) 29 rfl (by decide +kernel) (by decide) rfl rfl (fun G => w_load1 (v := .int _ _) rfl (lk rfl rfl) rfl (zadd hr1) rfl) ?_ | refine aqyp (g := 41) 29 rfl (by decide +kernel) (by decide) rfl rfl (fun G => w_load1 (v := .int _ _) rfl (lk rfl rfl) rfl (zadd hr2) rfl) ?_ | refine aqyp (g := 41) 29 rfl (by decide +kernel) (by decide) rfl rfl (fun G => o_load1p (v := .int _ _) rfl hr rfl) ?_ | refine aqyp (g := 41) 29 rfl (by decide +kernel) (by decide) rfl rfl (fun G => o_load1p (v := .int _ _) rfl hr1 rfl) ?_ | refine aqyp (g := 41) 29 rfl (by decide +kernel) (by decide) rfl rfl (fun G => o_load1p (v := .int _ _) rfl hr2 rfl) ?_ | refine aqyp (g := 41) 29 rfl (by decide +kernel) (by decide) rfl rfl (fun G => w_load1 (v := .int _ _) rfl (lkF hF) rfl rfl rfl) ?_
          first | refine aqy0 (g := 41) 30 rfl (by decide +kernel) (by decide) rfl rfl (fun _ => o_move (v := .sl _ _ _ _ _) rfl) ?_ | refine aqy0 (g := 41) 30 rfl (by decide +kernel) (by decide) rfl rfl (fun _ => o_move (v := .pl _) rfl) ?_ | refine aqy0 (g := 41) 30 rfl (by decide +kernel) (by decide) rfl rfl (fun _ => o_move (v := .nsl) rfl) ?_
          refine aqy0 (g := 41) 31 rfl (by decide +kernel) (by decide) rfl rfl (fun _ => o_move (v := .int _ _) rfl) ?_
          first | refine aqyp (g := 41) 32 rfl (by decide +kernel) (by decide) rfl rfl (fun G => w_indexAddrpN rfl rfl hr rfl) ?_ | refine aqyp (g := 41) 32 rfl (by decide +kernel) (by decide) rfl rfl (fun G => w_indexAddrpN rfl rfl hr1 rfl) ?_ | refine aqyp (g := 41) 32 rfl (by decide +kernel) (by decide) rfl rfl (fun G => w_indexAddrpN rfl rfl hr2 rfl) ?_ | refine aqyp (g := 41) 32 rfl (by decide +kernel) (by decide) rfl rfl (fun G => w_indexAddrN rfl (lk rfl rfl) rfl rfl rfl (by omega)) ?_ | refine aqyp (g := 41) 32 rfl (by decide +kernel) (by decide) rfl rfl (fun G => w_indexAddrp rfl rfl (by omega) hr rfl) ?_ | refine aqyp (g := 41) 32 rfl (by decide +kernel) (by decide) rfl rfl (fun G => w_indexAddrp rfl rfl (by omega) hr1 rfl) ?_ | refine aqyp (g := 41) 32 rfl (by decide +kernel) (by decide) rfl rfl (fun G => w_indexAddrp rfl rfl (by omega) hr2 rfl) ?_ | refine aqyp (g := 41) 32 rfl (by decide +kernel) (by decide) rfl rfl (fun G => w_indexAddr rfl (lk rfl rfl) rfl rfl rfl (by omega) (by omega)) ?_
          first | refine aqyp (g := 41) 33 rfl (by decide +kernel) (by decide) rfl rfl (fun G => w_fieldAddr rfl (lk rfl rfl) rfl (by decide)) ?_ | refine aqyp (g := 41) 33 rfl (by decide +kernel) (by decide) rfl rfl (fun G => w_fieldAddrp rfl (by decide)) ?_ | refine aqyp (g := 41) 33 rfl (by decide +kernel) (by decide) rfl rfl (fun G => w_fieldAddr rfl (lkF hF) rfl (by decide)) ?_
          first | refine aqyp (g := 41) 34 rfl (by decide +kernel) (by decide) rfl rfl (fun G => w_load1 (v := .int _ _) rfl (lk rfl rfl) rfl rfl rfl) ?_ | refine aqyp (g := 41) 34 rfl (by decide +kernel) (by decide) rfl rfl (fun G => w_load1 (v := .int _ _) rfl (lk rfl rfl) rfl (zadd hr) rfl) ?_ | refine aqyp (g := 41) 34 rfl (by decide +kernel) (by decide) rfl rfl (fun G => w_load1 (v := .int _ _) rfl (lk rfl rfl) rfl (zadd hr1) rfl) ?_ | refine aqyp (g := 41) 34 rfl (by decide +kernel) (by decide) rfl rfl (fun G => w_load1 (v := .int _ _) rfl (lk rfl rfl) rfl (zadd hr2) rfl) ?_ | refine aqyp (g := 41) 34 rfl (by decide +kernel) (by decide) rfl rfl (fun G => o_load1p (v := .int _ _) rfl hr rfl) ?_ | refine aqyp (g := 41) 34 rfl (by decide +kernel) (by decide) rfl rfl (fun G => o_load1p (v := .int _ _) rfl hr1 rfl) ?_ | refine aqyp (g := 41) 34 rfl (by decide +kernel) (by decide) rfl rfl (fun G => o_load1p (v := .int _ _) rfl hr2 rfl) ?_ | refine aqyp (g := 41) 34 rfl (by decide +kernel) (by decide) rfl rfl (fun G => w_load1 (v := .int _ _) rfl (lkF hF) rfl rfl rfl) ?_
          refine aqy0 (g := 41) 35 rfl (by decide +kernel) (by decide) rfl rfl (fun _ => o_ne rfl rfl) ?_
          refine Z36 ?_
          refine Z37 ?_
          refine aq_split (g := 54) rfl (fun hg37 => ?_) (fun hg37 => ?_)
          · refine Z38 ?_
            refine Z39 ?_
            refine Z3a ?_
            refine Z3b ?_
            refine Z3c ?_
            refine Z3d ?_
            refine Z3e ?_
            refine Z3f ?_
            refine Z3g ?_
            refine Z3h ?_
            refine Z3i ?_
            refine Z3j ?_
            refine Z3k ?_
            refine Z3l ?_
            exact Z3m
          · first | refine aqy0 (g := 54) 38 rfl (by decide +kernel) (by decide) rfl rfl (fun _ => o_move (v := .sl _ _ _ _ _) rfl) ?_ | refine aqy0 (g := 54) 38 rfl (by decide +kernel) (by decide) rfl rfl (fun _ => o_move (v := .pl _) rfl) ?_ | refine aqy0 (g := 54) 38 rfl (by decide +kernel) (by decide) rfl rfl (fun _ => o_move (v := .nsl) rfl) ?_
            refine aqy0 (g := 54) 39 rfl (by decide +kernel) (by decide) rfl rfl (fun _ => o_move (v := .int _ _) rfl) ?_
            first | refine aqyp (g := 54) 40 rfl (by decide +kernel) (by decide) rfl rfl (fun G => w_indexAddrpN rfl rfl hr rfl) ?_ | refine aqyp (g := 54) 40 rfl (by decide +kernel) (by decide) rfl rfl (fun G => w_indexAddrpN rfl rfl hr1 rfl) ?_ | refine aqyp (g := 54) 40 rfl (by decide +kernel) (by decide) rfl rfl (fun G => w_indexAddrpN rfl rfl hr2 rfl) ?_ | refine aqyp (g := 54) 40 rfl (by decide +kernel) (by decide) rfl rfl (fun G => w_indexAddrN rfl (lk rfl rfl) rfl rfl rfl (by omega)) ?_ | refine aqyp (g := 54) 40 rfl (by decide +kernel) (by decide) rfl rfl (fun G => w_indexAddrp rfl rfl (by omega) hr rfl) ?_ | refine aqyp (g := 54) 40 rfl (by decide +kernel) (by decide) rfl rfl (fun G => w_indexAddrp rfl rfl (by omega) hr1 rfl) ?_ | refine aqyp (g := 54) 40 rfl (by decide +kernel) (by decide) rfl rfl (fun G => w_indexAddrp rfl rfl (by omega) hr2 rfl) ?_ | refine aqyp (g := 54) 40 rfl (by decide +kernel) (by decide) rfl rfl (fun G => w_indexAddr rfl (lk rfl rfl) rfl rfl rfl (by omega) (by omega)) ?_
            first | refine aqyp (g := 54) 41 rfl (by decide +kernel) (by decide) rfl rfl (fun G => w_fieldAddr rfl (lk rfl rfl) rfl (by decide)) ?_ | refine aqyp (g := 54) 41 rfl (by decide +kernel) (by decide) rfl rfl (fun G => w_fieldAddrp rfl (by decide)) ?_ | refine aqyp (g := 54) 41 rfl (by decide +kernel) (by decide) rfl rfl (fun G => w_fieldAddr rfl (lkF hF) rfl (by decide)) ?_
            first | refine aqyp (g := 54) 42 rfl (by decide +kernel) (by decide) rfl rfl (fun G => w_load1 (v := .sl _ _ _ _ _) rfl (lk rfl rfl) rfl rfl rfl) ?_ | refine aqyp (g := 54) 42 rfl (by decide +kernel) (by decide) rfl rfl (fun G => w_load1 (v := .pl _) rfl (lk rfl rfl) rfl rfl rfl) ?_ | refine aqyp (g := 54) 42 rfl (by decide +kernel) (by decide) rfl rfl (fun G => w_load1 (v := .nsl) rfl (lk rfl rfl) rfl rfl rfl) ?_ | refine aqyp (g := 54) 42 rfl (by decide +kernel) (by decide) rfl rfl (fun G => w_load1 (v := .sl _ _ _ _ _) rfl (lk rfl rfl) rfl (zadd hr) rfl) ?_ | refine aqyp (g := 54) 42 rfl (by decide +kernel) (by decide) rfl rfl (fun G => w_load1 (v := .sl _ _ _ _ _) rfl (lk rfl rfl) rfl (zadd hr1) rfl) ?_ | refine aqyp (g := 54) 42 rfl (by decide +kernel) (by decide) rfl rfl (fun G => w_load1 (v := .sl _ _ _ _ _) rfl (lk rfl rfl) rfl (zadd hr2) rfl) ?_ | refine aqyp (g := 54) 42 rfl (by decide +kernel) (by decide) rfl rfl (fun G => w_load1 (v := .pl _) rfl (lk rfl rfl) rfl (zadd hr) rfl) ?_ | refine aqyp (g := 54) 42 rfl (by decide +kernel) (by decide) rfl rfl (fun G => w_load1 (v := .pl _) rfl (lk rfl rfl) rfl (zadd hr1) rfl) ?_ | refine aqyp (g := 54) 42 rfl (by decide +kernel) (by decide) rfl rfl (fun G => w_load1 (v := .pl _) rfl (lk rfl rfl) rfl (zadd hr2) rfl) ?_ | refine aqyp (g := 54) 42 rfl (by decide +kernel) (by decide) rfl rfl (fun G => w_load1 (v := .nsl) rfl (lk rfl rfl) rfl (zadd hr) rfl) ?_ | refine aqyp (g := 54) 42 rfl (by decide +kernel) (by decide) rfl rfl (fun G => w_load1 (v := .nsl) rfl (lk rfl rfl) rfl (zadd hr1) rfl) ?_ | refine aqyp (g := 54) 42 rfl (by decide +kernel) (by decide) rfl rfl (fun G => w_load1 (v := .nsl) rfl (lk rfl rfl) rfl (zadd hr2) rfl) ?_ | refine aqyp (g := 54) 42 rfl (by decide +kernel) (by decide) rfl rfl (fun G => o_load1p (v := .sl _ _ _ _ _) rfl hr rfl) ?_ | refine aqyp (g := 54) 42 rfl (by decide +kernel) (by decide) rfl rfl (fun G => o_load1p (v := .sl _ _ _ _ _) rfl hr1 rfl) ?_ | refine aqyp (g := 54) 42 rfl (by decide +kernel) (by decide) rfl rfl (fun G => o_load1p (v := .sl _ _ _ _ _) rfl hr2 rfl) ?_ | refine aqyp (g := 54) 42 rfl (by decide +kernel) (by decide) rfl rfl (fun G => o_load1p (v := .pl _) rfl hr rfl) ?_ | refine aqyp (g := 54) 42 rfl (by decide +kernel) (by decide) rfl rfl (fun G => o_load1p (v := .pl _) rfl hr1 rfl) ?_ | refine aqyp (g := 54) 42 rfl (by decide +kernel) (by decide) rfl rfl (fun G => o_load1p (v := .pl _) rfl hr2 rfl) ?_ | refine aqyp (g := 54) 42 rfl (by decide +kernel) (by decide) rfl rfl (fun G => o_load1p (v := .nsl) rfl hr rfl) ?_ | refine aqyp (g := 54) 42 rfl (by decide +kernel) (by decide) rfl rfl (fun G => o_load1p (v := .nsl) rfl hr1 rfl) ?_ | refine aqyp (g := 54) 42 rfl (by decide +kernel) (by decide) rfl rfl (fun G => o_load1p (v := .nsl) rfl hr2 rfl) ?_ | refine aqyp (g := 54) 42 rfl (by decide +kernel) (by decide) rfl rfl (fun G => w_load1 (v := .sl _ _ _ _ _) rfl (lkF hF) rfl rfl rfl) ?_ | refine aqyp (g := 54) 42 rfl (by decide +kernel) (by decide) rfl rfl (fun G => w_load1 (v := .pl _) rfl (lkF hF) rfl rfl rfl) ?_ | refine aqyp (g := 54) 42 rfl (by decide +kernel) (by decide) rfl rfl (fun G => w_load1 (v := .nsl) rfl (lkF hF) rfl rfl rfl) ?_
            first | refine aqy0 (g := 54) 43 rfl (by decide +kernel) (by decide) rfl rfl (fun _ => o_bytesStr rfl) ?_ | refine aqy0 (g := 54) 43 rfl (by decide +kernel) (by decide) rfl rfl (fun _ => o_bytesStr_nsl rfl) ?_
            first | refine aqy0 (g := 54) 44 rfl (by decide +kernel) (by decide) rfl rfl (fun _ => o_move (v := .sl _ _ _ _ _) rfl) ?_ | refine aqy0 (g := 54) 44 rfl (by decide +kernel) (by decide) rfl rfl (fun _ => o_move (v := .pl _) rfl) ?_ | refine aqy0 (g := 54) 44 rfl (by decide +kernel) (by decide) rfl rfl (fun _ => o_move (v := .nsl) rfl) ?_
            refine aqy0 (g := 54) 45 rfl (by decide +kernel) (by decide) rfl rfl (fun _ => o_move (v := .int _ _) rfl) ?_
            first | refine aqyp (g := 54) 46 rfl (by decide +kernel) (by decide) rfl rfl (fun G => w_indexAddrpN rfl rfl hr rfl) ?_ | refine aqyp (g := 54) 46 rfl (by decide +kernel) (by decide) rfl rfl (fun G => w_indexAddrpN rfl rfl hr1 rfl) ?_ | refine aqyp (g := 54) 46 rfl (by decide +kernel) (by decide) rfl rfl (fun G => w_indexAddrpN rfl rfl hr2 rfl) ?_ | refine aqyp (g := 54) 46 rfl (by decide +kernel) (by decide) rfl rfl (fun G => w_indexAddrN rfl (lk rfl rfl) rfl rfl rfl (by omega)) ?_ | refine aqyp (g := 54) 46 rfl (by decide +kernel) (by decide) rfl rfl (fun G => w_indexAddrp rfl rfl (by omega) hr rfl) ?_ | refine aqyp (g := 54) 46 rfl (by decide +kernel) (by decide) rfl rfl (fun G => w_indexAddrp rfl rfl (by omega) hr1 rfl) ?_ | refine aqyp (g := 54) 46 rfl (by decide +kernel) (by decide) rfl rfl (fun G => w_indexAddrp rfl rfl (by omega) hr2 rfl) ?_ | refine aqyp (g := 54) 46 rfl (by decide +kernel) (by decide) rfl rfl (fun G => w_indexAddr rfl (lk rfl rfl) rfl rfl rfl (by omega) (by omega)) ?_
            first | refine aqyp (g := 54) 47 rfl (by decide +kernel) (by decide) rfl rfl (fun G => w_fieldAddr rfl (lk rfl rfl) rfl (by decide)) ?_ | refine aqyp (g := 54) 47 rfl (by decide +kernel) (by decide) rfl rfl (fun G => w_fieldAddrp rfl (by decide)) ?_ | refine aqyp (g := 54) 47 rfl (by decide +kernel) (by decide) rfl rfl (fun G => w_fieldAddr rfl (lkF hF) rfl (by decide)) ?_
            first | refine aqyp (g := 54) 48 rfl (by decide +kernel) (by decide) rfl rfl (fun G => w_load1 (v := .sl _ _ _ _ _) rfl (lk rfl rfl) rfl rfl rfl) ?_ | refine aqyp (g := 54) 48 rfl (by decide +kernel) (by decide) rfl rfl (fun G => w_load1 (v := .pl _) rfl (lk rfl rfl) rfl rfl rfl) ?_ | refine aqyp (g := 54) 48 rfl (by decide +kernel) (by decide) rfl rfl (fun G => w_load1 (v := .nsl) rfl (lk rfl rfl) rfl rfl rfl) ?_ | refine aqyp (g := 54) 48 rfl (by decide +kernel) (by decide) rfl rfl (fun G => w_load1 (v := .sl _ _ _ _ _) rfl (lk rfl rfl) rfl (zadd hr) rfl) ?_ | refine aqyp (g := 54) 48 rfl (by decide +kernel) (by decide) rfl rfl (fun G => w_load1 (v := .sl _ _ _ _ _) rfl (lk rfl rfl) rfl (zadd hr1) rfl) ?_ | refine aqyp (g := 54) 48 rfl (by decide +kernel) (by decide) rfl rfl (fun G => w_load1 (v := .sl _ _ _ _ _) rfl (lk rfl rfl) rfl (zadd hr2) rfl) ?_ | refine aqyp (g := 54) 48 rfl (by decide +kernel) (by decide) rfl rfl (fun G => w_load1 (v := .pl _) rfl (lk rfl rfl) rfl (zadd hr) rfl) ?_ | refine aqyp (g := 54) 48 rfl (by decide +kernel) (by decide) rfl rfl (fun G => w_load1 (v := .pl _) rfl (lk rfl rfl) rfl (zadd hr1) rfl) ?_ | refine aqyp (g := 54) 48 rfl (by decide +kernel) (by decide) rfl rfl (fun G => w_load1 (v := .pl _) rfl (lk rfl rfl) rfl (zadd hr2) rfl) ?_ | refine aqyp (g := 54) 48 rfl (by decide +kernel) (by decide) rfl rfl (fun G => w_load1 (v := .nsl) rfl (lk rfl rfl) rfl (zadd hr) rfl) ?_ | refine aqyp (g := 54) 48 rfl (by decide +kernel) (by decide) rfl rfl (fun G => w_load1 (v := .nsl) rfl (lk rfl rfl) rfl (zadd hr1) rfl) ?_ | refine aqyp (g := 54) 48 rfl (by decide +kernel) (by decide) rfl rfl (fun G => w_load1 (v := .nsl) rfl (lk rfl rfl) rfl (zadd hr2) rfl) ?_ | refine aqyp (g := 54) 48 rfl (by decide +kernel) (by decide) rfl rfl (fun G => o_load1p (v := .sl _ _ _ _ _) rfl hr rfl) ?_ | refine aqyp (g := 54) 48 rfl (by decide +kernel) (by decide) rfl rfl (fun G => o_load1p (v := .sl _ _ _ _ _) rfl hr1 rfl) ?_ | refine aqyp (g := 54) 48 rfl (by decide +kernel) (by decide) rfl rfl (fun G => o_load1p (v := .sl _ _ _ _ _) rfl hr2 rfl) ?_ | refine aqyp (g := 54) 48 rfl (by decide +kernel) (by decide) rfl rfl (fun G => o_load1p (v := .pl _) rfl hr rfl) ?_ | refine aqyp (g := 54) 48 rfl (by decide +kernel) (by decide) rfl rfl (fun G => o_load1p (v := .pl _) rfl hr1 rfl) ?_ | refine aqyp (g := 54) 48 rfl (by decide +kernel) (by decide) rfl rfl (fun G => o_load1p (v := .pl _) rfl hr2 rfl) ?_ | refine aqyp (g := 54) 48 rfl (by decide +kernel) (by decide) rfl rfl (fun G => o_load1p (v := .nsl) rfl hr rfl) ?_ | refine aqyp (g := 54) 48 rfl (by decide +kernel) (by decide) rfl rfl (fun G => o_load1p (v := .nsl) rfl hr1 rfl) ?_ | refine aqyp (g := 54) 48 rfl (by decide +kernel) (by decide) rfl rfl (fun G => o_load1p (v := .nsl) rfl hr2 rfl) ?_ | refine aqyp (g := 54) 48 rfl (by decide +kernel) (by decide) rfl rfl (fun G => w_load1 (v := .sl _ _ _ _ _) rfl (lkF hF) rfl rfl rfl) ?_ | refine aqyp (g := 54) 48 rfl (by decide +kernel) (by decide) rfl rfl (fun G => w_load1 (v := .pl _) rfl (lkF hF) rfl rfl rfl) ?_ | refine aqyp (g := 54) 48 rfl (by decide +kernel) (by decide) rfl rfl (fun G => w_load1 (v := .nsl) rfl (lkF hF) rfl rfl rfl) ?_
            first | refine aqy0 (g := 54) 49 rfl (by decide +kernel) (by decide) rfl rfl (fun _ => o_bytesStr rfl) ?_ | refine aqy0 (g := 54) 49 rfl (by decide +kernel) (by decide) rfl rfl (fun _ => o_bytesStr_nsl rfl) ?_
            refine aqy0 (g := 54) 50 rfl (by decide +kernel) (by decide) rfl rfl (fun _ => o_sned rfl rfl) ?_
            refine Z3l ?_
            exact Z3m
    rw [packet_ne]
    repeat (first | refine then_nrm ?_ | refine blk_nrm ?_ | refine then_brk ?_ | refine blk_hit ?_ | refine blk_miss rfl ?_ | refine then_ret ?_ | refine blk_ret ?_ | refine aw_seq ?_ | refine aw_block ?_ | refine aw_skip ?_ | refine aw_exit ?_ | refine aw_ret ?_)
    refine aw_cond rfl (fun hc => ?_) (fun hc => ?_)
    · repeat (first | refine then_nrm ?_ | refine blk_nrm ?_ | refine then_brk ?_ | refine blk_hit ?_ | refine blk_miss rfl ?_ | refine then_ret ?_ | refine blk_ret ?_ | refine aw_seq ?_ | refine aw_block ?_ | refine aw_skip ?_ | refine aw_exit ?_ | refine aw_ret ?_)
      refine Z5 ?_
      repeat (first | refine then_nrm ?_ | refine blk_nrm ?_ | refine then_brk ?_ | refine blk_hit ?_ | refine blk_miss rfl ?_ | refine then_ret ?_ | refine blk_ret ?_ | refine aw_seq ?_ | refine aw_block ?_ | refine aw_skip ?_ | refine aw_exit ?_ | refine aw_ret ?_)
      rw [show decide (a = b) = false by simp at hc; simpa using ne_at hx hy hc]
      exact Zh
    · have : x = y := by simpa using hc
      subst this
      repeat (first | refine then_nrm ?_ | refine blk_nrm ?_ | refine then_brk ?_ | refine blk_hit ?_ | refine blk_miss rfl ?_ | refine then_ret ?_ | refine blk_ret ?_ | refine aw_seq ?_ | refine aw_block ?_ | refine aw_skip ?_ | refine aw_exit ?_ | refine aw_ret ?_)
      refine Z20 ?_
      refine Z3n ?_
      repeat (first | refine then_nrm ?_ | refine blk_nrm ?_ | refine then_brk ?_ | refine blk_hit ?_ | refine blk_miss rfl ?_ | refine then_ret ?_ | refine blk_ret ?_ | refine aw_seq ?_ | refine aw_block ?_ | refine aw_skip ?_ | refine aw_exit ?_ | refine aw_ret ?_)
      exact ⟨k + 1, by omega, ⟨by omega, eq_step hx hy hno⟩, (by repeat (first | exact Sub.nil | refine Sub.cons (by first | rfl | (simp [get]; done)) ?_)), .refl _ _⟩
  · have : k = a.length := by simp at hc; omega
    subst this
    rw [show decide (a = b) = true by simpa using eq_done hn hno]
    repeat (first | refine then_nrm ?_ | refine blk_nrm ?_ | refine then_brk ?_ | refine blk_hit ?_ | refine blk_miss rfl ?_ | refine then_ret ?_ | refine blk_ret ?_ | refine aw_seq ?_ | refine aw_block ?_ | refine aw_skip ?_ | refine aw_exit ?_ | refine aw_ret ?_)
    refine Z5 ?_
    repeat (first | refine then_nrm ?_ | refine blk_nrm ?_ | refine then_brk ?_ | refine blk_hit ?_ | refine blk_miss rfl ?_ | refine then_ret ?_ | refine blk_ret ?_ | refine aw_seq ?_ | refine aw_block ?_ | refine aw_skip ?_ | refine aw_exit ?_ | refine aw_ret ?_)
    exact Zh
end Go.Av

namespace Go.Av
open Go.Proofs
set_option maxRecDepth 10000
set_option linter.unusedSimpArgs false
set_option linter.unusedVariables false

theorem ref17_Fine (x : Packet) (H : Heap) : AC Try.prog 34 [.agg (ePacket x)] H (Ret (.bool (fine x)) H) := by
  refine AC.body (N := 38) [.tmp 2] Try.func34 rfl rfl rfl (Nat.le_of_ble_eq_true rfl) fun B hB => ?_
  repeat (first | refine then_nrm ?_ | refine blk_nrm ?_ | refine then_brk ?_ | refine blk_hit ?_ | refine blk_miss rfl ?_ | refine then_ret ?_ | refine blk_ret ?_ | refine aw_seq ?_ | refine aw_block ?_ | refine aw_skip ?_ | refine aw_exit ?_ | refine aw_ret ?_)
  refine aw_region ?_
  refine Zi ?_
  refine Z4 ?_
  repeat (first | refine then_nrm ?_ | refine blk_nrm ?_ | refine then_brk ?_ | refine blk_hit ?_ | refine blk_miss rfl ?_ | refine then_ret ?_ | refine blk_ret ?_ | refine aw_seq ?_ | refine aw_block ?_ | refine aw_skip ?_ | refine aw_exit ?_ | refine aw_ret ?_)
  refine aw_region ?_
  refine Zl ?_
  refine Zl ?_
  refine Zl ?_
  refine ao1 (by decide) (V1.up (o_buildArr (cs := [.int _ _, .int _ _, .int _ _]) rfl)) ?_
  refine Z1r ?_
  repeat (first | refine then_nrm ?_ | refine blk_nrm ?_ | refine then_brk ?_ | refine blk_hit ?_ | refine blk_miss rfl ?_ | refine then_ret ?_ | refine blk_ret ?_ | refine aw_seq ?_ | refine aw_block ?_ | refine aw_skip ?_ | refine aw_exit ?_)
  refine aw_loop (G := Nat) (fun k => k ≤ 3 ∧ ∀ n ∈ [x.epoch, x.seq, x.ack].take k, 0 ≤ n ∧ n ≤ 1073741824) (fun k => [(1, .pt (Lid H.length 0) 0 0 0), (11, .agg ([x.epoch, x.seq, x.ack].map fun n => .int .i64 n)), (12, .int .i64 (k : Int))]) (fun _ => H ++ [⟨0, 4, [ePacket x]⟩]) (fun k => 3 - k) 0 ⟨Nat.zero_le _, by simp⟩ (by repeat (first | exact Sub.nil | refine Sub.cons (by first | rfl | (simp [get]; done)) ?_)) (Fit.refl _ _) ?_
  rintro k ⟨hk, hno⟩
  repeat (first | refine then_nrm ?_ | refine blk_nrm ?_ | refine then_brk ?_ | refine blk_hit ?_ | refine blk_miss rfl ?_ | refine then_ret ?_ | refine blk_ret ?_ | refine aw_seq ?_ | refine aw_block ?_ | refine aw_skip ?_ | refine aw_exit ?_ | refine aw_ret ?_)
  refine aw_region ?_
  refine Z1s ?_
  refine Z3 ?_
  repeat (first | refine then_nrm ?_ | refine blk_nrm ?_ | refine then_brk ?_ | refine blk_hit ?_ | refine blk_miss rfl ?_ | refine then_ret ?_ | refine blk_ret ?_ | refine aw_seq ?_ | refine aw_block ?_ | refine aw_skip ?_ | refine aw_exit ?_ | refine aw_ret ?_)
  refine aw_cond rfl (fun hc => ?_) (fun hc => ?_)
  · have hlt : k < [x.epoch, x.seq, x.ack].length := by simp at hc; show k < 3; omega
    obtain ⟨n, hx, hxl⟩ := get_in hlt
    have hr : ([x.epoch, x.seq, x.ack].map fun n => AV.int .i64 n)[(k : Int).toNat * 1]? = some (.int .i64 n) := by rw [Int.toNat_natCast, Nat.mul_one, List.getElem?_map, hx]; rfl
    have hlt' : k < 3 := hlt
    repeat (first | refine then_nrm ?_ | refine blk_nrm ?_ | refine then_brk ?_ | refine blk_hit ?_ | refine blk_miss rfl ?_ | refine then_ret ?_ | refine blk_ret ?_ | refine aw_seq ?_ | refine aw_block ?_ | refine aw_skip ?_ | refine aw_exit ?_ | refine aw_ret ?_)
    refine aw_region ?_
    refine ao1 (by decide) (o_index1 (v := .int _ _) rfl rfl (by omega) (by omega) hr) ?_
    refine Z1y ?_
    repeat (first | refine then_nrm ?_ | refine blk_nrm ?_ | refine then_brk ?_ | refine blk_hit ?_ | refine blk_miss rfl ?_ | refine then_ret ?_ | refine blk_ret ?_ | refine aw_seq ?_ | refine aw_block ?_ | refine aw_skip ?_ | refine aw_exit ?_ | refine aw_ret ?_)
    refine aw_out 20 (.bool (decide (n < 0) || decide (1073741824 < n))) ?_ ?_
    · refine Z6 ?_
      refine Z1s ?_
      refine Z8 ?_
      refine ao_split rfl rfl (fun hg2 => ?_) (fun hg2 => ?_)
      · refine Zx ?_
        refine Zb ?_
        exact Zd
      · refine Z9 ?_
        refine Zu ?_
        refine Zb ?_
        exact Zd
    repeat (first | refine then_nrm ?_ | refine blk_nrm ?_ | refine then_brk ?_ | refine blk_hit ?_ | refine blk_miss rfl ?_ | refine then_ret ?_ | refine blk_ret ?_ | refine aw_seq ?_ | refine aw_block ?_ | refine aw_skip ?_ | refine aw_exit ?_ | refine aw_ret ?_)
    refine aw_cond rfl (fun hc => ?_) (fun hc => ?_)
    · repeat (first | refine then_nrm ?_ | refine blk_nrm ?_ | refine then_brk ?_ | refine blk_hit ?_ | refine blk_miss rfl ?_ | refine then_ret ?_ | refine blk_ret ?_ | refine aw_seq ?_ | refine aw_block ?_ | refine aw_skip ?_ | refine aw_exit ?_ | refine aw_ret ?_)
      refine Z5 ?_
      repeat (first | refine then_nrm ?_ | refine blk_nrm ?_ | refine then_brk ?_ | refine blk_hit ?_ | refine blk_miss rfl ?_ | refine then_ret ?_ | refine blk_ret ?_ | refine aw_seq ?_ | refine aw_block ?_ | refine aw_skip ?_ | refine aw_exit ?_ | refine aw_ret ?_)
      rw [show fine x = false by simp at hc hxl; rcases hxl with rfl | rfl | rfl <;> simp [fine] <;> omega]
      exact Zh
    · repeat (first | refine then_nrm ?_ | refine blk_nrm ?_ | refine then_brk ?_ | refine blk_hit ?_ | refine blk_miss rfl ?_ | refine then_ret ?_ | refine blk_ret ?_ | refine aw_seq ?_ | refine aw_block ?_ | refine aw_skip ?_ | refine aw_exit ?_ | refine aw_ret ?_)
      refine aw_region ?_
      refine Z1w ?_
      refine Z1r ?_
      repeat (first | refine then_nrm ?_ | refine blk_nrm ?_ | refine then_brk ?_ | refine blk_hit ?_ | refine blk_miss rfl ?_ | refine then_ret ?_ | refine blk_ret ?_ | refine aw_seq ?_ | refine aw_block ?_ | refine aw_skip ?_ | refine aw_exit ?_ | refine aw_ret ?_)
      refine ⟨k + 1, by omega, ⟨by omega, ?_⟩, (by repeat (first | exact Sub.nil | refine Sub.cons (by first | rfl | (simp [get]; done)) ?_)), Fit.loc hB rfl (by repeat (first | exact EBel.nil | refine EBel.cons (by first | rfl | (simp [AV.bel, AV.bels, Lid]; done) | (simp [AV.bel, AV.bels, Lid]; omega)) ?_)) (by simp [AV.bel, AV.bels])⟩
      rw [take_snoc_get hx]
      intro y hy
      rcases List.mem_append.1 hy with h | h
      · exact hno y h
      · simp only [List.mem_singleton] at h
        subst h
        simpa using hc
  · have : k = 3 := by simp at hc; omega
    subst this
    simp at hno
    obtain ⟨⟨h1, h2⟩, ⟨h3, h4⟩, h5, h6⟩ := hno
    repeat (first | refine then_nrm ?_ | refine blk_nrm ?_ | refine then_brk ?_ | refine blk_hit ?_ | refine blk_miss rfl ?_ | refine then_ret ?_ | refine blk_ret ?_ | refine aw_seq ?_ | refine aw_block ?_ | refine aw_skip ?_ | refine aw_exit ?_ | refine aw_ret ?_)
    refine aw_out 2 (.bool (decide ((x.body.length : Int) ≤ 4096) && !(x.seq == 0 && decide (0 < (x.body.length : Int))))) ?_ ?_
    · refine Z1m ?_
      refine Z1q ?_
      refine Z23 ?_
      refine Z8 ?_
      refine ao_split rfl rfl (fun hg4 => ?_) (fun hg4 => ?_)
      · refine Z3o ?_
        refine Zv ?_
        refine ao_split rfl rfl (fun hg8 => ?_) (fun hg8 => ?_)
        · refine Z3p ?_
          refine Zz ?_
          refine Z25 ?_
          exact Ze
        · refine Zg ?_
          refine Zg ?_
          refine Zz ?_
          refine Z25 ?_
          exact Ze
      · refine Zg ?_
        refine Z15 ?_
        refine Zg ?_
        exact Ze
    repeat (first | refine then_nrm ?_ | refine blk_nrm ?_ | refine then_brk ?_ | refine blk_hit ?_ | refine blk_miss rfl ?_ | refine then_ret ?_ | refine blk_ret ?_ | refine aw_seq ?_ | refine aw_block ?_ | refine aw_skip ?_ | refine aw_exit ?_ | refine aw_ret ?_)
    have h7 : (0 < x.seq) ↔ ¬ x.seq = 0 := by omega
    have hf : fine x = (decide ((x.body.length : Int) ≤ 4096) && !(x.seq == 0 && decide (0 < (x.body.length : Int)))) := by
      rw [Bool.eq_iff_iff]
      simp [fine, h1, h2, h3, h4, h5, h6, h7]
    rw [hf]
    exact Zh
end Go.Av

/-
  A ROW OF THE CALL's OWN IS LENT TO A CALL THAT ONLY READS IT: there it is a list; behind the call it is a row again.
-/
namespace Go.Av

/-- Values that name no memory. -/
def AV.flat : AV → Bool
  | .int .. | .bool _ | .str _ | .flt .. | .nptr | .nifc | .nfn | .nsl | .junk => true
  | _ => false
theorem VR.flat {O O' : Nat → Prop} {w w' : World} {S S' : List Slot} {v : AV} {u : Value} (h : VR O w S v u) (hf : v.flat = true) : VR O' w' S' v u := by
  cases h <;> first | (simp [AV.flat] at hf; done) | constructor
theorem VR.free {O : Nat → Prop} {w : World} {S : List Slot} {v : AV} {u : Value} (h : VR O w S v u) (hb : v.bel 0 = true) : VR (own []) w [] v u :=
  (h.pur hb).mono ⟨Nat.le_refl _, fun b _ _ => ⟨by rintro ⟨i, s, hs, _⟩; simp at hs, rfl⟩, fun _ arr _ h => ⟨arr, h, rfl⟩⟩ (SExt.refl _)

/-- What a callee that only reads sees of a cell. -/
inductive Lend1 (H : Heap) : AV → AV → Prop where
  | sl {id off len cap : Nat} {o : AObj} {ys : List (List AV)} (hid : H[id]? = some o) (hp : ∀ r ∈ ys, AV.bels 0 r = true) (hys : (o.rows.drop off).take len = ys) (hlen : ys.length = len) : Lend1 H (.sl id o.gen off len cap) (.pl ys)
  | same {v : AV} (hb : v.bel 0 = true) (hl : v.leaf = true) : Lend1 H v v
inductive Lends (H : Heap) : List AV → List AV → Prop where
  | nil : Lends H [] []
  | cons {a b : AV} {as1 bs : List AV} (h : Lend1 H a b) (k : Lends H as1 bs) : Lends H (a :: as1) (b :: bs)
inductive Lend (H : Heap) : AV → AV → Prop where
  | one {a b : AV} (h : Lend1 H a b) : Lend H a b
  | agg {cs ds : List AV} (h : Lends H cs ds) : Lend H (.agg cs) (.agg ds)
  | pure {v : AV} (hb : v.bel 0 = true) : Lend H v v
inductive LendAll (H : Heap) : List AV → List AV → Prop where
  | nil : LendAll H [] []
  | cons {a b : AV} {as1 bs : List AV} (h : Lend H a b) (k : LendAll H as1 bs) : LendAll H (a :: as1) (b :: bs)

theorem Lend1.leaf {H : Heap} {a b : AV} (h : Lend1 H a b) : b.leaf = true := by cases h <;> first | rfl | assumption
theorem Lends.get {H : Heap} : ∀ {as1 bs : List AV}, Lends H as1 bs → as1.length = bs.length ∧ ∀ (j : Nat) (b : AV), bs[j]? = some b → ∃ a, as1[j]? = some a ∧ Lend1 H a b
  | _, _, .nil => ⟨rfl, fun j b h => by simp at h⟩
  | _, _, .cons h k => by
    obtain ⟨h1, h2⟩ := k.get
    refine ⟨by simp [h1], fun j b hb => ?_⟩
    cases j with
    | zero => simp at hb; subst hb; exact ⟨_, rfl, h⟩
    | succ j => simpa using h2 j b (by simpa using hb)
theorem LendAll.get {H : Heap} : ∀ {as1 bs : List AV}, LendAll H as1 bs → as1.length = bs.length ∧ ∀ (j : Nat) (b : AV), bs[j]? = some b → ∃ a, as1[j]? = some a ∧ Lend H a b
  | _, _, .nil => ⟨rfl, fun j b h => by simp at h⟩
  | _, _, .cons h k => by
    obtain ⟨h1, h2⟩ := k.get
    refine ⟨by simp [h1], fun j b hb => ?_⟩
    cases j with
    | zero => simp at hb; subst hb; exact ⟨_, rfl, h⟩
    | succ j => simpa using h2 j b (by simpa using hb)

theorem Lend1.vr {H : Heap} {S : List Slot} {w : World} (hh : HRel H S w) {a b : AV} {u : Value} (h : Lend1 H a b) (hv : VR (own S) w S a u) : VR (own []) w [] b u := by
  cases h with
  | same hb _ => exact hv.free hb
  | @sl id off len cap o ys hid hp hys hlen =>
    obtain ⟨s, hs, ok⟩ := hh.slot hid
    have hc : CR 1 [(0, .sl id o.gen off len cap)] H S { tmps := #[u], defers := [] } w := ⟨hh, fun t => by
      cases t with
      | zero => exact hv
      | succ t => exact .junk, rfl, rfl⟩
    obtain ⟨S', hc', _⟩ := hc.freeze (B := ⟨S, w⟩) (t := 0) (id := id) (cap := cap) (o := o) (Ext.refl S w) rfl hid hys hlen hp
    have := hc'.env 0
    rw [get_put_same] at this
    exact this.free rfl
theorem Lend.vr {H : Heap} {S : List Slot} {w : World} (hh : HRel H S w) {a b : AV} {u : Value} (h : Lend H a b) (hv : VR (own S) w S a u) : VR (own []) w [] b u := by
  cases h with
  | one h => exact h.vr hh hv
  | pure hb => exact hv.free hb
  | agg h =>
    obtain ⟨h1, h2⟩ := h.get
    cases hv with
    | agg hn hl hvr =>
      refine .agg (h1.symm.trans hn) (fun j v hj => ?_) (fun j v u hj hu => ?_)
      · obtain ⟨a, _, ha⟩ := h2 j v hj
        exact ha.leaf
      · obtain ⟨a, haj, ha⟩ := h2 j v hj
        exact ha.vr hh (hvr j a u haj hu)

section
variable {P : Program} {N : Nat} {env : Env} {H : Heap} {ty : TypeId}
/-- A call that only reads, and hands back a plain value. -/
theorem V2.lend {f : Nat} {xs : Array Operand} {ts : Array TypeId} {v : AV} {us : List AV} [FnI P f] (hac : AC P f us [] (Ret v [])) (hl : LendAll H (xs.toList.map (aev env)) us) (hf : v.flat = true) :
    V2 P N (.call { callee := .value (.func f), args := xs, argTypes := ts }) ty env H v H := by
  refine V2.call (vs := xs.toList.map (aev env)) ?_ rfl
  intro S w cargs hH hv
  obtain ⟨h1, h2⟩ := hl.get
  have hv' : VRs (own []) w [] us cargs := ⟨h1.symm.trans hv.1, fun i b u hb hu => by
    obtain ⟨a, ha, hab⟩ := h2 i b hb
    exact hab.vr hH (hv.2 i a u ha hu)⟩
  refine (hac [] w cargs ⟨rfl, fun _ _ _ h => by simp at h, fun _ _ _ _ _ h => by simp at h⟩ hv').mono ?_
  rintro e w' ⟨o, H', S', ⟨rfl, rfl⟩, ho, hh, hx⟩
  have hno : ∀ b, ¬ own [] b := by rintro b ⟨i, s, hs, _⟩; simp at hs
  have hold : ∀ b, b < w.heap.size → w'.heap[b]? = w.heap[b]? := fun b hb => (hx.stp.old b hb (hno b)).2
  have hx' : Ext S w S w' := ⟨hx.os, hx.tape, hx.output, ⟨hx.stp.size, fun b hb ho => ⟨ho, hold b hb⟩, hx.stp.cells⟩, SExt.refl S⟩
  refine ⟨.ret v, H, S, ⟨rfl, rfl⟩, ?_, same_heap hH hx' hold, hx'⟩
  cases ho with
  | ret hvr => exact .ret (hvr.flat hf)

/-- A cell of a row is told otherwise: what lies there is also v2. -/
theorem HRel.retell {H : Heap} {S : List Slot} {w : World} (h : HRel H S w) {k i j b : Nat} {o : AObj} {s : Slot} {r : List AV} {v2 : AV} {arr : Array Value} {ty : TypeId} {u : Value} (hk : H[k]? = some o) (hs : S[k]? = some s) (hp : s.place = some b) (hb : w.heap[b]? = some (Obj.cells arr ty (0, 0)))
    (hr : o.rows[i]? = some r) (hj : j < r.length) (hu : arr[i * o.sz + j]? = some u) (hl : v2.leaf = true) (hv : VR (own S) w S v2 u) : HRel (H.set k { o with rows := o.rows.set i (r.set j v2) }) S w := by
  refine ⟨by simpa using h.len, fun id' o' s' ho' hs' => ?_, h.inj⟩
  by_cases e : k = id'
  · subst e
    rw [List.getElem?_set_self (List.getElem?_eq_some_iff.1 hk).1] at ho'
    obtain rfl := Option.some.inj ho'
    rw [hs] at hs'
    obtain rfl := Option.some.inj hs'
    have ok := h.obj k o s hk hs
    refine ⟨ok.gen, ok.sz, ok.pos, fun hn => (by rw [hp] at hn; cases hn), fun b' hb' => ?_⟩
    obtain ⟨arr', ty', h1, h2, h3⟩ := ok.lies b' hb'
    rw [hp] at hb'
    obtain rfl := Option.some.inj hb'
    rw [hb] at h1
    injection h1 with h1
    injection h1 with h1 h1'
    subst h1
    refine ⟨arr, ty, hb, by simpa using h2, fun i' r' hr' => ?_⟩
    by_cases ei : i = i'
    · subst ei
      have hil : i < o.rows.length := (List.getElem?_eq_some_iff.1 hr).1
      rw [List.getElem?_set_self hil] at hr'
      obtain rfl := Option.some.inj hr'
      obtain ⟨k1, k2⟩ := h3 i r hr
      refine ⟨by simpa using k1, fun j' v' hv' => ?_⟩
      by_cases ej : j = j'
      · subst ej
        rw [List.getElem?_set_self hj] at hv'
        obtain rfl := Option.some.inj hv'
        exact ⟨hl, u, hu, hv⟩
      · rw [List.getElem?_set_ne ej] at hv'
        exact k2 j' v' hv'
    · rw [List.getElem?_set_ne ei] at hr'
      exact h3 i' r' hr'
  · rw [List.getElem?_set_ne e] at ho'
    exact h.obj id' o' s' ho' hs'

/-- A row is let go, and the cell that leads to it holds a list from then on. -/
theorem CR.freezeC {B : Base} {S : List Slot} {a : Act} {w : World} {k i j id off len cap : Nat} {o q : AObj} {r : List AV} {ys : List (List AV)} (h : CR N env H S a w) (hx : Ext B.S B.w S w) (hk : H[k]? = some q) (hr : q.rows[i]? = some r) (hj : r[j]? = some (.sl id o.gen off len cap)) (hne : id ≠ k)
    (hid : H[id]? = some o) (hys : (o.rows.drop off).take len = ys) (hlen : ys.length = len) (hp : ∀ r ∈ ys, AV.bels 0 r = true) :
    ∃ S', CR N env ((H.set id ⟨o.gen + 1, o.sz, []⟩).set k { q with rows := q.rows.set i (r.set j (.pl ys)) }) S' a w ∧ Ext B.S B.w S' w := by
  obtain ⟨s, hs, ok⟩ := h.heap.slot hk
  have hil := (List.getElem?_eq_some_iff.1 hr).1
  cases hpl : s.place with
  | none => rw [ok.nope hpl] at hil; simp at hil
  | some b =>
    obtain ⟨arr, ty, h1, h2, h3⟩ := ok.lies b hpl
    obtain ⟨k1, k2⟩ := h3 i r hr
    obtain ⟨_, u, hu, hv⟩ := k2 j _ hj
    have hc : CR 1 [(0, .sl id o.gen off len cap)] H S { tmps := #[u], defers := [] } w := ⟨h.heap, fun t => by
      cases t with
      | zero => exact hv
      | succ t => exact .junk, rfl, rfl⟩
    obtain ⟨S', hc', hx'⟩ := hc.freeze (B := ⟨S, w⟩) (t := 0) (id := id) (cap := cap) (o := o) (Ext.refl S w) rfl hid hys hlen hp
    have hv2 := hc'.env 0
    rw [get_put_same] at hv2
    have hk' : (H.set id ⟨o.gen + 1, o.sz, []⟩)[k]? = some q := by rw [List.getElem?_set_ne hne]; exact hk
    obtain ⟨s', hs', ok'⟩ := hc'.heap.slot hk'
    obtain ⟨s2, hs2, hg, he⟩ := hx'.slots k s hs
    rw [hs'] at hs2
    obtain rfl := Option.some.inj hs2
    have hpl' : s'.place = some b := (he (by rw [← ok'.gen, ok.gen])).2.trans hpl
    have hh := hc'.heap.retell (v2 := .pl ys) hk' hs' hpl' h1 hr (List.getElem?_eq_some_iff.1 hj).1 hu rfl hv2
    exact ⟨S', ⟨hh, fun t => (h.env t).ext hx', h.size, h.defers⟩, hx.trans hx'⟩
theorem aw_freezeC {B : Base} {Q : Post} {c : Code} {L : Heap} {H0 : Heap} {n k i j kid g off len cap : Nat} {o q : AObj} {r : List AV} {ys : List (List AV)} (k' : Nat) (hk' : k' = k) (hk : L[k]? = some q) (hr : q.rows[i]? = some r) (hj : r[j]? = some (.sl (Lid n kid) g off len cap)) (hn : H0.length = n) (hne : kid ≠ k)
    (hid : L[kid]? = some o) (hg : o.gen = g) (hys : (o.rows.drop off).take len = ys) (hlen : ys.length = len) (hp : ∀ r ∈ ys, AV.bels 0 r = true)
    (h : AWp P N B c Q env (H0 ++ (L.set kid ⟨g + 1, o.sz, []⟩).set k { q with rows := q.rows.set i (r.set j (.pl ys)) })) : AWp P N B c Q env (H0 ++ L) := fun S a w hc hb => by
  subst hg
  obtain ⟨S', hc', hb'⟩ := hc.freezeC (id := Lid n kid) (k := Lid n k) hb (lk hn hk) hr hj (by unfold Lid; omega) (lk hn hid) hys hlen hp
  rw [st hn, st hn] at hc'
  exact h S' a w hc' hb'
end
end Go.Av

namespace Go.Av
open Go.Proofs
set_option maxRecDepth 10000
set_option linter.unusedSimpArgs false
set_option linter.unusedVariables false


theorem ePacket_bel (n : Nat) (x : Packet) : AV.bels n (ePacket x) = true := rfl
theorem packets_bel (n : Nat) (l : List Packet) : ∀ r ∈ l.map ePacket, AV.bels n r = true := rows_bel (ePacket_bel n) l
theorem packets_len (l : List Packet) : ∀ r ∈ l.map ePacket, r.length = 4 := rows_len (e := ePacket) (n := 4) (fun _ => rfl) l
theorem take_map_len' {α β : Type} (e : α → β) (l : List α) : (l.map e).take l.length = l.map e := List.take_of_length_le (by simp)

structure Pipe where
  epoch : Int
  out : List Packet
  next : Int
  want : Int
  deriving DecidableEq
abbrev ePipe (p : Pipe) : List AV := [.int .i64 p.epoch, .pl (p.out.map ePacket), .int .i64 p.next, .int .i64 p.want]

theorem pipe_copied (l : List Packet) (H : Heap) (hl : l.length ≤ 1000000) (hw : ∀ x ∈ l, x.body.length ≤ 140737488355328) : AC Try.prog 48 [.pl (l.map ePacket)] H (Ret (.sl (Lid H.length 0) l.length 0 l.length l.length) (H ++ [⟨l.length, 4, l.map ePacket⟩])) := by
  refine AC.body (N := 22) [.tmp 2] Try.func48 rfl rfl rfl (Nat.le_of_ble_eq_true rfl) fun B hB => ?_
  refine Z3r ?_
  refine Z1i ?_
  refine Z3r ?_
  refine Z3t ?_
  refine aw_ghostL (k := 0) 3 4 rfl (by decide) rfl ?_
  refine Z3v ?_
  refine Z3x ?_
  refine aw_loop (G := Nat) (fun k => k ≤ l.length) (fun k => [(6, .pl (l.map ePacket)), (7, .int .i64 (l.length : Int)), (8, .int .i64 (k : Int)), (3, .sl (Lid H.length 0) k 0 k k)]) (fun k => H ++ [⟨k, 4, (l.take k).map ePacket⟩]) (fun k => l.length - k) 0 (Nat.zero_le _) (by repeat (first | exact Sub.nil | refine Sub.cons (by first | rfl | (simp [get]; done)) ?_)) (Fit.refl _ _) ?_
  intro k hk
  refine Z3r ?_
  refine Z3y ?_
  refine aw_cond rfl (fun hc => ?_) (fun hc => ?_)
  · have hlt : k < l.length := by simpa using hc
    obtain ⟨x, hx, hxl⟩ := get_in hlt
    have hr := map_get ePacket hx
    have hb := hw x hxl
    refine Z3r ?_
    refine Z1t ?_
    refine Z1b ?_
    refine Z3z ?_
    refine Z40 ?_
    refine Z3 ?_
    refine Z41 ?_
    refine Z1n ?_
    refine Zj ?_
    refine Z42 ?_
    refine Z3 ?_
    refine Z3u ?_
    refine Z1b ?_
    refine Z43 ?_
    refine Z1v ?_
    refine Z1i ?_
    refine Z3r ?_
    refine Z1w ?_
    refine Z3x ?_
    refine ⟨k + 1, by omega, by omega, (by repeat (first | exact Sub.nil | refine Sub.cons (by first | rfl | (simp [get]; done)) ?_)), Fit.loc hB (by rw [take_snoc_map ePacket hx]; rfl) (by repeat (first | exact EBel.nil | refine EBel.cons (by first | rfl | (simp [AV.bel, AV.bels, Lid]; done) | (simp [AV.bel, AV.bels, Lid]; omega)) ?_)) ?_⟩
    intro o ho r hr
    simp only [List.mem_singleton] at ho
    subst ho
    exact packets_bel _ _ r hr
  · have : k = l.length := by simp at hc; omega
    subst this
    rw [List.take_length]
    refine Z3u ?_
    refine Z1h ?_
    refine Z3w ?_
    exact e_keep (G := []) hB (r_tmp rfl .nil) rfl rfl (by simp [AV.bel, Lid]) (by simpa using fun x _ => ePacket_bel _ x)
end Go.Av

namespace Go.Av
open Go.Proofs
set_option maxRecDepth 10000
set_option linter.unusedSimpArgs false
set_option linter.unusedVariables false


def pok (p : Pipe) (j : Nat) (x : Packet) : Bool := x.seq == p.next - (p.out.length : Int) + (j : Int) && x.epoch == p.epoch && x.ack == 0 && decide ((x.body.length : Int) ≤ 4096)
def phead (p : Pipe) : Bool := decide (0 ≤ p.epoch) && decide (p.epoch ≤ 1073741824) && decide (1 ≤ p.next) && decide (p.next ≤ 1073741824) && decide (1 ≤ p.want) && decide (p.want ≤ 1073741824) && decide ((p.out.length : Int) ≤ 16) && decide ((p.out.length : Int) < p.next)
def pright (p : Pipe) : Bool := phead p && (List.range p.out.length).all fun j => match p.out[j]? with
  | some x => pok p j x
  | none => true
theorem pright_iff (p : Pipe) : pright p = true ↔ phead p = true ∧ ∀ j x, p.out[j]? = some x → pok p j x = true := by
  unfold pright
  rw [Bool.and_eq_true, List.all_eq_true]
  refine and_congr Iff.rfl ⟨fun h j x hx => ?_, fun h j hj => ?_⟩
  · have := h j (by simpa using (List.getElem?_eq_some_iff.1 hx).1)
    rw [hx] at this
    exact this
  · cases hx : p.out[j]? with
    | none => rfl
    | some x => exact h j x hx
theorem pright_false {p : Pipe} {j : Nat} {x : Packet} (hx : p.out[j]? = some x) (h : pok p j x = false) : pright p = false := by
  cases hp : pright p with
  | false => rfl
  | true => have := ((pright_iff p).1 hp).2 j x hx; rw [h] at this; cases this

set_option maxHeartbeats 0 in
theorem pipe_Right (p : Pipe) (H : Heap) : AC Try.prog 31 [.agg (ePipe p)] H (Ret (.bool (pright p)) H) := by
  refine AC.body (N := 73) [.tmp 2] Try.func31 rfl rfl rfl (Nat.le_of_ble_eq_true rfl) fun B hB => ?_
  refine Z44 ?_
  refine Z45 ?_
  refine aw_out 34 (.bool (!phead p)) ?_ ?_
  · refine Zl ?_
    refine Zm ?_
    refine Z1g ?_
    refine Z8 ?_
    refine ao_split rfl rfl (fun hg4 => ?_) (fun hg4 => ?_)
    · refine Z46 ?_
      refine Z46 ?_
      refine Z46 ?_
      refine Zy ?_
      refine Zx ?_
      refine Zb ?_
      exact Z47
    · refine Zo ?_
      refine Zp ?_
      refine Z25 ?_
      refine Zq ?_
      refine ao_split rfl rfl (fun hg10 => ?_) (fun hg10 => ?_)
      · refine Z46 ?_
        refine Z46 ?_
        refine Zy ?_
        refine Zx ?_
        refine Zb ?_
        exact Z47
      · refine Zo ?_
        refine Zp ?_
        refine Z25 ?_
        refine Zq ?_
        refine ao_split rfl rfl (fun hg16 => ?_) (fun hg16 => ?_)
        · refine Z46 ?_
          refine Zy ?_
          refine Zx ?_
          refine Zb ?_
          exact Z47
        · refine Z3p ?_
          refine Zq ?_
          refine ao_split rfl rfl (fun hg22 => ?_) (fun hg22 => ?_)
          · refine Zy ?_
            refine Zx ?_
            refine Zb ?_
            exact Z47
          · refine Zt ?_
            refine Zo ?_
            refine Z1c ?_
            refine Zb ?_
            exact Z47
  refine Z3q ?_
  refine aw_cond rfl (fun hc => ?_) (fun hc => ?_)
  · refine Z48 ?_
    rw [show pright p = false by simp at hc; simp [pright, hc]]
    exact Zh
  have hh : phead p = true := by simpa using hc
  have hh' := hh
  simp only [phead, Bool.and_eq_true, decide_eq_true_eq] at hh'
  obtain ⟨⟨⟨⟨⟨⟨⟨g1, g2⟩, g3⟩, g4⟩, g5⟩, g6⟩, g7⟩, g8⟩ := hh'
  refine Z41 ?_
  refine Z1q ?_
  refine Z1r ?_
  refine Z3s ?_
  refine aw_loop (G := Nat) (fun k => k ≤ p.out.length ∧ ∀ j, j < k → ∀ x, p.out[j]? = some x → pok p j x = true) (fun k => [(1, .pt (Lid H.length 0) 0 0 0), (36, .pl (p.out.map ePacket)), (37, .int .i64 (p.out.length : Int)), (38, .int .i64 (k : Int))]) (fun k => H ++ [⟨0, 4, [ePipe p]⟩]) (fun k => p.out.length - k) 0 ⟨Nat.zero_le _, fun j hj => by omega⟩ (by repeat (first | exact Sub.nil | refine Sub.cons (by first | rfl | (simp [get]; done)) ?_)) (Fit.refl _ _) ?_
  rintro k ⟨hk, hno⟩
  refine Z3r ?_
  refine Z3y ?_
  refine aw_cond rfl (fun hc => ?_) (fun hc => ?_)
  · have hlt : k < p.out.length := by simpa using hc
    obtain ⟨x, hx, hxl⟩ := get_in hlt
    have hr := map_get ePacket hx
    refine Z49 ?_
    refine Z1t ?_
    refine Z1b ?_
    refine Z3z ?_
    refine Z1x ?_
    refine Z40 ?_
    refine Z3w ?_
    refine aw_out 71 (.bool (!pok p k x)) ?_ ?_
    · refine Zl ?_
      refine Zl ?_
      refine Z1m ?_
      refine Z1q ?_
      refine ao1 (by decide) (o_sub (r := p.next - (p.out.length : Int)) rfl rfl (by rw [List.length_map]; exact wrap64_ok (by omega) (by omega))) ?_
      refine Z6 ?_
      refine ao1 (by decide) (o_add (r := p.next - (p.out.length : Int) + (k : Int)) rfl rfl (wrap64_ok (by omega) (by omega))) ?_
      refine Z2m ?_
      refine Z8 ?_
      refine ao_split rfl rfl (fun hg11 => ?_) (fun hg11 => ?_)
      · refine Zx ?_
        refine Z4d ?_
        exact Z4e
      · refine Zo ?_
        refine Z4g ?_
        refine Zq ?_
        refine ao_split rfl rfl (fun hg18 => ?_) (fun hg18 => ?_)
        · refine Z4c ?_
          exact Z4e
        · refine Z4g ?_
          refine Zq ?_
          refine ao_split rfl rfl (fun hg23 => ?_) (fun hg23 => ?_)
          · refine Z4b ?_
            exact Z4e
          · refine Z3p ?_
            refine Zb ?_
            exact Z4e
    refine Z3q ?_
    refine aw_cond rfl (fun hc => ?_) (fun hc => ?_)
    · refine Z48 ?_
      rw [pright_false hx (by simpa using hc)]
      exact Zh
    · refine Z3r ?_
      refine Z1w ?_
      refine Z3x ?_
      refine ⟨k + 1, by omega, ⟨by omega, fun j hj y hy => ?_⟩, (by repeat (first | exact Sub.nil | refine Sub.cons (by first | rfl | (simp [get]; done)) ?_)), Fit.loc hB rfl (by repeat (first | exact EBel.nil | refine EBel.cons (by first | rfl | (simp [AV.bel, AV.bels, Lid]; done) | (simp [AV.bel, AV.bels, Lid]; omega)) ?_)) (by simp [AV.bel, AV.bels])⟩
      rcases Nat.lt_or_eq_of_le (Nat.le_of_lt_succ hj) with h | h
      · exact hno j h y hy
      · subst h
        rw [hx] at hy
        obtain rfl := Option.some.inj hy
        simpa using hc
  · have : k = p.out.length := by simp at hc; omega
    subst this
    rw [(pright_iff p).2 ⟨hh, fun j x hx => hno j (List.getElem?_eq_some_iff.1 hx).1 x hx⟩]
    refine Z48 ?_
    exact Zh

def pNew (e : Int) : Pipe × Int := if 0 ≤ e ∧ e ≤ 1073741824 then (⟨e, [], 1, 1⟩, 0) else (⟨0, [], 0, 0⟩, 1)
theorem pipe_New (e : Int) (H : Heap) : AC Try.prog 30 [.int .i64 e] H (Ret (.tup [.agg (ePipe (pNew e).1), .int .i64 (pNew e).2]) H) := by
  refine AC.body (N := 10) [.cell 2 54, .tmp 3] Try.func30 rfl rfl rfl (Nat.le_of_ble_eq_true rfl) fun B hB => ?_
  refine Z3r ?_
  refine Z3z ?_
  refine Z1y ?_
  refine Z49 ?_
  refine Zm ?_
  refine Z4h ?_
  refine aw_cond rfl (fun hc => ?_) (fun hc => ?_)
  · refine Z3r ?_
    refine Z4i ?_
    refine Z40 ?_
    refine Z4j ?_
    rw [show pNew e = (⟨0, [], 0, 0⟩, 1) by rw [pNew, if_neg (by intro h; simp at hc; omega)]]
    exact Z4k
  · refine Z49 ?_
    refine Z4i ?_
    refine Z40 ?_
    refine Z4j ?_
    rw [show pNew e = (⟨e, [], 1, 1⟩, 0) by rw [pNew, if_pos (by simp at hc; omega)]]
    exact Z4k
end Go.Av

namespace Go.Av
open Go.Proofs
set_option maxRecDepth 10000
set_option linter.unusedSimpArgs false
set_option linter.unusedVariables false

def phead0 (p : Pipe) : Bool := decide (0 ≤ p.epoch) && decide (p.epoch ≤ 1073741824) && decide (1 ≤ p.next) && decide (p.next ≤ 1073741824) && decide (1 ≤ p.want) && decide (p.want ≤ 1073741824) && decide ((p.out.length : Int) ≤ 16)
theorem phead_0 (p : Pipe) : phead p = (phead0 p && decide ((p.out.length : Int) < p.next)) := rfl

set_option maxHeartbeats 0 in
theorem ref17_Right (p : Pipe) (H : Heap) : AC Try.prog 32 [.agg (ePipe p)] H (Ret (.bool (pright p)) H) := by
  refine AC.body (N := 83) [.tmp 2] Try.func32 rfl rfl rfl (Nat.le_of_ble_eq_true rfl) fun B hB => ?_
  refine Z44 ?_
  refine Z45 ?_
  refine aw_out 39 (.bool (!phead0 p)) ?_ ?_
  · refine Zl ?_
    refine Z1s ?_
    refine Z8 ?_
    refine ao_split rfl rfl (fun hg3 => ?_) (fun hg3 => ?_)
    · refine Z4a ?_
      refine Z4a ?_
      refine Z4a ?_
      refine Z4d ?_
      exact Z4l
    · refine Zo ?_
      refine Zu ?_
      refine Zq ?_
      refine ao_split rfl rfl (fun hg8 => ?_) (fun hg8 => ?_)
      · refine Z4a ?_
        refine Z4a ?_
        refine Z4d ?_
        exact Z4l
      · refine Zo ?_
        refine Z1d ?_
        refine Zq ?_
        refine ao_split rfl rfl (fun hg13 => ?_) (fun hg13 => ?_)
        · refine Z4a ?_
          refine Z4d ?_
          exact Z4l
        · refine Zo ?_
          refine Zu ?_
          refine Zq ?_
          refine ao_split rfl rfl (fun hg18 => ?_) (fun hg18 => ?_)
          · refine Z4d ?_
            exact Z4l
          · refine Zo ?_
            refine Z1d ?_
            refine Zq ?_
            refine ao_split rfl rfl (fun hg23 => ?_) (fun hg23 => ?_)
            · refine Z4c ?_
              exact Z4l
            · refine Zo ?_
              refine Zu ?_
              refine Zq ?_
              refine ao_split rfl rfl (fun hg28 => ?_) (fun hg28 => ?_)
              · refine Z4b ?_
                exact Z4l
              · refine Z3p ?_
                refine Zb ?_
                exact Z4l
  refine Z3q ?_
  refine aw_cond rfl (fun hc => ?_) (fun hc => ?_)
  · refine Z48 ?_
    rw [show pright p = false by simp at hc; simp [pright, phead_0, hc]]
    exact Zh
  have hh : phead0 p = true := by simpa using hc
  have hh' := hh
  simp only [phead0, Bool.and_eq_true, decide_eq_true_eq] at hh'
  obtain ⟨⟨⟨⟨⟨⟨g1, g2⟩, g3⟩, g4⟩, g5⟩, g6⟩, g7⟩ := hh'
  refine Z4m ?_
  refine Z1y ?_
  refine Z41 ?_
  refine Z1q ?_
  refine ao1 (by decide) (o_sub (r := (p.out.length : Int) - 1) rfl rfl (by rw [List.length_map]; exact wrap64_ok (by omega) (by omega))) ?_
  refine Z4n ?_
  refine aw_loop (G := Nat) (fun m => m ≤ p.out.length ∧ ∀ j, p.out.length - m ≤ j → ∀ x, p.out[j]? = some x → pok p j x = true ∧ 1 ≤ p.next - (p.out.length : Int) + (j : Int)) (fun m => [(1, .pt (Lid H.length 0) 0 0 0), (3, .int .i64 (p.next - (m : Int))), (4, .int .i64 ((p.out.length : Int) - 1 - (m : Int)))]) (fun m => H ++ [⟨0, 4, [ePipe p]⟩]) (fun m => p.out.length - m) 0 ⟨Nat.zero_le _, fun j hj x hx => by have := (List.getElem?_eq_some_iff.1 hx).1; omega⟩ (by rw [show p.next - ((0 : Nat) : Int) = p.next by omega, show (p.out.length : Int) - 1 - ((0 : Nat) : Int) = (p.out.length : Int) - 1 by omega]; exact (by repeat (first | exact Sub.nil | refine Sub.cons (by first | rfl | (simp [get]; done)) ?_))) (Fit.refl _ _) ?_
  rintro m ⟨hm, hno⟩
  refine Z49 ?_
  refine Z7 ?_
  refine Z3w ?_
  refine aw_cond rfl (fun hc => ?_) (fun hc => ?_)
  · have hlt : m < p.out.length := by simp at hc; omega
    obtain ⟨i, hi⟩ : ∃ i : Nat, (p.out.length : Int) - 1 - (m : Int) = (i : Int) := ⟨p.out.length - 1 - m, by omega⟩
    have hil : i < p.out.length := by omega
    obtain ⟨x, hx, hxl⟩ := get_in hil
    have hr := map_get ePacket hx
    have hw : p.next - (m : Int) - 1 = p.next - (p.out.length : Int) + (i : Int) := by omega
    rw [hi]
    refine Z49 ?_
    refine ao1 (by decide) (o_sub (r := p.next - (p.out.length : Int) + (i : Int)) rfl rfl (by rw [← hw]; exact wrap64_ok (by omega) (by omega))) ?_
    refine Z1y ?_
    refine Z41 ?_
    refine Z6 ?_
    refine Z1t ?_
    refine Z1b ?_
    refine Z3z ?_
    refine Z40 ?_
    refine Z3w ?_
    refine aw_out 82 (.bool (decide (p.next - (p.out.length : Int) + (i : Int) < 1) || !pok p i x)) ?_ ?_
    · refine Z6 ?_
      refine Z1s ?_
      refine Z8 ?_
      refine ao_split rfl rfl (fun hg2 => ?_) (fun hg2 => ?_)
      · refine Z46 ?_
        refine Zx ?_
        refine Z4d ?_
        exact Z4e
      · refine Zo ?_
        refine Z4o ?_
        refine Zq ?_
        refine ao_split rfl rfl (fun hg8 => ?_) (fun hg8 => ?_)
        · refine Zx ?_
          refine Z4d ?_
          exact Z4e
        · refine Zo ?_
          refine Z4g ?_
          refine Zq ?_
          refine ao_split rfl rfl (fun hg15 => ?_) (fun hg15 => ?_)
          · refine Z4c ?_
            exact Z4e
          · refine Z4g ?_
            refine Zq ?_
            refine ao_split rfl rfl (fun hg20 => ?_) (fun hg20 => ?_)
            · refine Z4b ?_
              exact Z4e
            · refine Z3p ?_
              refine Zb ?_
              exact Z4e
    refine Z3q ?_
    refine aw_cond rfl (fun hc => ?_) (fun hc => ?_)
    · refine Z48 ?_
      rw [show pright p = false by
        simp at hc
        rcases hc with hc | hc
        · rw [pright, phead_0, show decide ((p.out.length : Int) < p.next) = false by simp; omega, Bool.and_false, Bool.false_and]
        · exact pright_false hx hc]
      exact Zh
    · simp at hc
      refine Z49 ?_
      refine ao1 (by decide) (o_sub (r := (p.out.length : Int) - 1 - ((m + 1 : Nat) : Int)) rfl rfl (by rw [show (p.out.length : Int) - 1 - ((m + 1 : Nat) : Int) = (i : Int) - 1 by omega]; exact wrap64_ok (by omega) (by omega))) ?_
      refine Z4j ?_
      refine ⟨m + 1, by omega, ⟨by omega, fun j hj y hy => ?_⟩, ?_, Fit.loc hB rfl (by rw [show p.next - ((m + 1 : Nat) : Int) = p.next - (p.out.length : Int) + (i : Int) by omega]; exact (by repeat (first | exact EBel.nil | refine EBel.cons (by first | rfl | (simp [AV.bel, AV.bels, Lid]; done) | (simp [AV.bel, AV.bels, Lid]; omega)) ?_))) (by simp [AV.bel, AV.bels])⟩
      · rcases Nat.lt_or_ge j (p.out.length - m) with h | h
        · have : j = i := by omega
          subst this
          rw [hx] at hy
          obtain rfl := Option.some.inj hy
          exact ⟨hc.2, hc.1⟩
        · exact hno j h y hy
      · rw [show p.next - ((m + 1 : Nat) : Int) = p.next - (p.out.length : Int) + (i : Int) by omega]
        exact (by repeat (first | exact Sub.nil | refine Sub.cons (by first | rfl | (simp [get]; done)) ?_))
  · have : m = p.out.length := by simp at hc; omega
    subst this
    rw [(pright_iff p).2 ⟨by
      rw [phead_0, hh, Bool.true_and, decide_eq_true_eq]
      rcases Nat.eq_zero_or_pos p.out.length with h | h
      · omega
      · obtain ⟨x, hx, _⟩ := get_in h
        have := (hno 0 (by omega) x hx).2
        omega, fun j x hx => (hno j (by omega) x hx).1⟩]
    refine Z48 ?_
    exact Zh
end Go.Av

namespace Go.Av
open Go.Proofs
set_option maxRecDepth 10000
set_option linter.unusedSimpArgs false
set_option linter.unusedVariables false

def pshort (p : Pipe) : Bool := decide ((p.out.length : Int) ≤ 20) && p.out.all fun x => decide ((x.body.length : Int) ≤ 5000)
theorem pshort_facts {p : Pipe} (h : pshort p = true) : p.out.length ≤ 20 ∧ ∀ x ∈ p.out, x.body.length ≤ 5000 := by
  simp [pshort] at h
  exact ⟨by omega, fun x hx => by have := h.2 x hx; omega⟩
theorem all_step2 {α : Type} {l : List α} {k : Nat} {x : α} {p : α → Bool} (hx : l[k]? = some x) (h : (l.take k).all p = true) (hp : p x = true) : (l.take (k + 1)).all p = true := all_step hx h hp
theorem ref17_Short (p : Pipe) (H : Heap) : AC Try.prog 25 [.agg (ePipe p)] H (Ret (.bool (pshort p)) H) := by
  refine AC.body (N := 23) [.tmp 2] Try.func25 rfl rfl rfl (Nat.le_of_ble_eq_true rfl) fun B hB => ?_
  refine Z44 ?_
  refine Z4 ?_
  refine Z3r ?_
  refine Z4n ?_
  refine aw_loop (G := Nat) (fun k => (k ≤ p.out.length ∧ k ≤ 20) ∧ ((p.out.take k).all fun x => decide ((x.body.length : Int) ≤ 5000)) = true) (fun k => [(1, .pt (Lid H.length 0) 0 0 0), (3, .int .i64 (k : Int))]) (fun _ => H ++ [⟨0, 4, [ePipe p]⟩]) (fun k => p.out.length - k) 0 ⟨⟨Nat.zero_le _, by omega⟩, by simp⟩ (by repeat (first | exact Sub.nil | refine Sub.cons (by first | rfl | (simp [get]; done)) ?_)) (Fit.refl _ _) ?_
  rintro k ⟨⟨hk, hk20⟩, hno⟩
  refine Z49 ?_
  refine Z1m ?_
  refine Z1q ?_
  refine Z3y ?_
  refine aw_cond rfl (fun hc => ?_) (fun hc => ?_)
  · have hlt : k < p.out.length := by simpa using hc
    obtain ⟨x, hx, hxl⟩ := get_in hlt
    have hr := map_get ePacket hx
    refine Z3q ?_
    refine aw_out 22 (.bool (decide (20 ≤ (k : Int)) || decide (5000 < (x.body.length : Int)))) ?_ ?_
    · refine Z6 ?_
      refine Z7 ?_
      refine Z8 ?_
      refine ao_split rfl rfl (fun hg2 => ?_) (fun hg2 => ?_)
      · refine Zy ?_
        refine Z4b ?_
        exact Z4p
      · refine Zr ?_
        refine Z9 ?_
        refine Z4q ?_
        refine Z3p ?_
        exact Z4r
    refine Z3q ?_
    refine aw_cond rfl (fun hc => ?_) (fun hc => ?_)
    · refine Z48 ?_
      rw [show pshort p = false by
        simp at hc
        rcases hc with hc | hc
        · rw [pshort, show decide ((p.out.length : Int) ≤ 20) = false by simp; omega, Bool.false_and]
        · rw [pshort, all_fail (p := fun x : Packet => decide ((x.body.length : Int) ≤ 5000)) hxl (by simp; omega), Bool.and_false]]
      exact Zh
    · simp at hc
      refine Z4t ?_
      exact ⟨k + 1, by omega, ⟨⟨by omega, by omega⟩, all_step hx hno (by simp; omega)⟩, (by repeat (first | exact Sub.nil | refine Sub.cons (by first | rfl | (simp [get]; done)) ?_)), .refl _ _⟩
  · have : k = p.out.length := by simp at hc; omega
    subst this
    rw [List.take_length] at hno
    rw [show pshort p = true by simp only [pshort, hno, Bool.and_true, decide_eq_true_eq]; omega]
    refine Z48 ?_
    exact Zh

theorem ref17_Same (a b : Pipe) (H : Heap) (ha : a.out.length ≤ 1000000) : AC Try.prog 35 [.agg (ePipe a), .agg (ePipe b)] H (Ret (.bool (decide (a = b))) H) := by
  have he : decide (a = b) = (a.epoch == b.epoch && a.next == b.next && a.want == b.want && decide (a.out = b.out)) := by
    cases a; cases b; simp [Bool.beq_eq_decide_eq]; grind
  rw [he]
  refine AC.body (N := 31) [.tmp 4] Try.func35 rfl rfl rfl (Nat.le_of_ble_eq_true rfl) fun B hB => ?_
  refine Z44 ?_
  refine Zi ?_
  refine Z45 ?_
  refine aw_out 4 (.bool (a.epoch == b.epoch && a.next == b.next && a.want == b.want && decide (a.out = b.out))) ?_ ?_
  · refine Zl ?_
    refine Zl ?_
    refine Z28 ?_
    refine Z8 ?_
    refine ao_split rfl rfl (fun hg5 => ?_) (fun hg5 => ?_)
    · refine Zo ?_
      refine Z3o ?_
      refine Zq ?_
      refine ao_split rfl rfl (fun hg12 => ?_) (fun hg12 => ?_)
      · refine Zo ?_
        refine Z3o ?_
        refine Zq ?_
        refine ao_split rfl rfl (fun hg19 => ?_) (fun hg19 => ?_)
        · refine Zr ?_
          refine Zr ?_
          refine ao_y rfl rfl (by decide) (V2.call (ref17_Packets a.out b.out _ ha) rfl) ?_
          refine Zc ?_
          exact Z4p
        · refine Zg ?_
          refine Z18 ?_
          refine Zc ?_
          exact Z4p
      · refine Zg ?_
        refine Z19 ?_
        refine Z18 ?_
        refine Zc ?_
        exact Z4p
    · refine Zg ?_
      refine Z19 ?_
      refine Z19 ?_
      refine Z18 ?_
      refine Zc ?_
      exact Z4p
  refine Z3q ?_
  exact Zh
end Go.Av

namespace Go.Av
open Go.Proofs
set_option maxRecDepth 10000
set_option linter.unusedSimpArgs false
set_option linter.unusedVariables false


def pSay (p : Pipe) (b : List UInt8) : Pipe × Int :=
  if !pright p then (p, 1) else if 4096 < b.length then (p, 4) else if p.out.length = 16 then (p, 5) else if p.next = 1073741824 then (p, 9)
  else (⟨p.epoch, p.out ++ [⟨p.epoch, p.next, 0, b⟩], p.next + 1, p.want⟩, 0)
theorem pright_facts {p : Pipe} (h : pright p = true) : 0 ≤ p.epoch ∧ p.epoch ≤ 1073741824 ∧ 1 ≤ p.next ∧ p.next ≤ 1073741824 ∧ 1 ≤ p.want ∧ p.want ≤ 1073741824 ∧ p.out.length ≤ 16 ∧ (p.out.length : Int) < p.next := by
  have := ((pright_iff p).1 h).1
  simp only [phead, Bool.and_eq_true, decide_eq_true_eq] at this
  omega
/-- The end as1 a reading call sees it. -/
theorem lend_pipe {H0 L : Heap} {p : Pipe} {n k : Nat} (hn : H0.length = n) (hk : L[k]? = some ⟨p.out.length, 4, p.out.map ePacket⟩) :
    LendAll (H0 ++ L) [.agg [.int .i64 p.epoch, .sl (Lid n k) p.out.length 0 p.out.length p.out.length, .int .i64 p.next, .int .i64 p.want]] [.agg (ePipe p)] :=
  .cons (.agg (.cons (.same rfl rfl) (.cons (.sl (o := ⟨p.out.length, 4, p.out.map ePacket⟩) (lk hn hk) (packets_bel 0 _) (by rw [List.drop_zero]; exact take_map_len' _ _) (by simp)) (.cons (.same rfl rfl) (.cons (.same rfl rfl) .nil))))) .nil

theorem pipe_Say (p : Pipe) (b : List UInt8) (H : Heap) (hl : p.out.length ≤ 1000000) (hw : ∀ x ∈ p.out, x.body.length ≤ 140737488355328) (hb : b.length ≤ 140737488355328) :
    AC Try.prog 26 [.agg (ePipe p), .pl (b.map brow)] H (Ret (.tup [.agg (ePipe (pSay p b).1), .int .i64 (pSay p b).2]) H) := by
  refine AC.body (N := 48) [.cell 4 54, .tmp 5] Try.func26 rfl rfl rfl (Nat.le_of_ble_eq_true rfl) fun B hB => ?_
  refine Z44 ?_
  refine Z3z ?_
  refine Z1y ?_
  refine Z41 ?_
  refine Z4u ?_
  refine Zj ?_
  refine Z42 ?_
  refine Z3 ?_
  refine Z4v ?_
  refine Z4w ?_
  refine Z1g ?_
  refine Z45 ?_
  refine aw_cond rfl (fun hc => ?_) (fun hc => ?_)
  · have hp : pright p = false := by simpa using hc
    refine Z4y ?_
    refine Z4z ?_
    refine aw_ret ?_
    rw [show pSay p b = (p, 1) by simp [pSay, hp]]
    exact Z4k
  have hp : pright p = true := by simpa using hc
  refine Z3v ?_
  refine Z50 ?_
  refine Z45 ?_
  refine aw_cond rfl (fun hc => ?_) (fun hc => ?_)
  · have hb4 : 4096 < b.length := by simp at hc; omega
    refine Z4y ?_
    refine Z4z ?_
    refine aw_ret ?_
    rw [show pSay p b = (p, 4) by simp [pSay, hp, hb4]]
    exact Z4k
  have hb4 : ¬ 4096 < b.length := by simp at hc; omega
  refine Z41 ?_
  refine Z1q ?_
  refine Z28 ?_
  refine Z45 ?_
  refine aw_cond rfl (fun hc => ?_) (fun hc => ?_)
  · have h16 : p.out.length = 16 := by simp at hc; omega
    refine Z4y ?_
    refine Z4z ?_
    refine aw_ret ?_
    rw [show pSay p b = (p, 5) by simp [pSay, hp, hb4, h16]]
    exact Z4k
  have h16 : ¬ p.out.length = 16 := by simp at hc; omega
  refine Z4m ?_
  refine Z28 ?_
  refine Z45 ?_
  refine aw_cond rfl (fun hc => ?_) (fun hc => ?_)
  · have hn : p.next = 1073741824 := by simpa using hc
    refine Z4y ?_
    refine Z4z ?_
    refine aw_ret ?_
    rw [show pSay p b = (p, 9) by simp [pSay, hp, hb4, h16, hn]]
    exact Z4k
  have hn : ¬ p.next = 1073741824 := by simpa using hc
  have hf := pright_facts hp
  refine Z3q ?_
  refine aw_drawR mixed (some 12) 0 ?_
  refine Z29 ?_
  first | refine aqr 0 rfl (by decide +kernel) (by decide) (fun G hG => w_fieldAddr rfl (lk rfl hG) rfl (by decide)) ?_ | refine aqr 0 rfl (by decide +kernel) (by decide) (fun G hG => w_fieldAddrp rfl (by decide)) ?_ | refine aqr 0 rfl (by decide +kernel) (by decide) (fun G hG => w_fieldAddr rfl (lkF hF) rfl (by decide)) ?_
  first | refine aqr 1 rfl (by decide +kernel) (by decide) (fun G hG => w_load1 (v := .sl _ _ _ _ _) rfl (lk rfl hG) rfl rfl rfl) ?_ | refine aqr 1 rfl (by decide +kernel) (by decide) (fun G hG => w_load1 (v := .pl _) rfl (lk rfl hG) rfl rfl rfl) ?_ | refine aqr 1 rfl (by decide +kernel) (by decide) (fun G hG => w_load1 (v := .nsl) rfl (lk rfl hG) rfl rfl rfl) ?_ | refine aqr 1 rfl (by decide +kernel) (by decide) (fun G hG => w_load1 (v := .sl _ _ _ _ _) rfl (lk rfl hG) rfl (zadd hr) rfl) ?_ | refine aqr 1 rfl (by decide +kernel) (by decide) (fun G hG => w_load1 (v := .sl _ _ _ _ _) rfl (lk rfl hG) rfl (zadd hr1) rfl) ?_ | refine aqr 1 rfl (by decide +kernel) (by decide) (fun G hG => w_load1 (v := .sl _ _ _ _ _) rfl (lk rfl hG) rfl (zadd hr2) rfl) ?_ | refine aqr 1 rfl (by decide +kernel) (by decide) (fun G hG => w_load1 (v := .pl _) rfl (lk rfl hG) rfl (zadd hr) rfl) ?_ | refine aqr 1 rfl (by decide +kernel) (by decide) (fun G hG => w_load1 (v := .pl _) rfl (lk rfl hG) rfl (zadd hr1) rfl) ?_ | refine aqr 1 rfl (by decide +kernel) (by decide) (fun G hG => w_load1 (v := .pl _) rfl (lk rfl hG) rfl (zadd hr2) rfl) ?_ | refine aqr 1 rfl (by decide +kernel) (by decide) (fun G hG => w_load1 (v := .nsl) rfl (lk rfl hG) rfl (zadd hr) rfl) ?_ | refine aqr 1 rfl (by decide +kernel) (by decide) (fun G hG => w_load1 (v := .nsl) rfl (lk rfl hG) rfl (zadd hr1) rfl) ?_ | refine aqr 1 rfl (by decide +kernel) (by decide) (fun G hG => w_load1 (v := .nsl) rfl (lk rfl hG) rfl (zadd hr2) rfl) ?_ | refine aqr 1 rfl (by decide +kernel) (by decide) (fun G hG => o_load1p (v := .sl _ _ _ _ _) rfl hr rfl) ?_ | refine aqr 1 rfl (by decide +kernel) (by decide) (fun G hG => o_load1p (v := .sl _ _ _ _ _) rfl hr1 rfl) ?_ | refine aqr 1 rfl (by decide +kernel) (by decide) (fun G hG => o_load1p (v := .sl _ _ _ _ _) rfl hr2 rfl) ?_ | refine aqr 1 rfl (by decide +kernel) (by decide) (fun G hG => o_load1p (v := .pl _) rfl hr rfl) ?_ | refine aqr 1 rfl (by decide +kernel) (by decide) (fun G hG => o_load1p (v := .pl _) rfl hr1 rfl) ?_ | refine aqr 1 rfl (by decide +kernel) (by decide) (fun G hG => o_load1p (v := .pl _) rfl hr2 rfl) ?_ | refine aqr 1 rfl (by decide +kernel) (by decide) (fun G hG => o_load1p (v := .nsl) rfl hr rfl) ?_ | refine aqr 1 rfl (by decide +kernel) (by decide) (fun G hG => o_load1p (v := .nsl) rfl hr1 rfl) ?_ | refine aqr 1 rfl (by decide +kernel) (by decide) (fun G hG => o_load1p (v := .nsl) rfl hr2 rfl) ?_ | refine aqr 1 rfl (by decide +kernel) (by decide) (fun G hG => w_load1 (v := .sl _ _ _ _ _) rfl (lkF hF) rfl rfl rfl) ?_ | refine aqr 1 rfl (by decide +kernel) (by decide) (fun G hG => w_load1 (v := .pl _) rfl (lkF hF) rfl rfl rfl) ?_ | refine aqr 1 rfl (by decide +kernel) (by decide) (fun G hG => w_load1 (v := .nsl) rfl (lkF hF) rfl rfl rfl) ?_
  first | refine aqr 2 rfl (by decide +kernel) (by decide) (fun G hG => w_fieldAddr rfl (lk rfl hG) rfl (by decide)) ?_ | refine aqr 2 rfl (by decide +kernel) (by decide) (fun G hG => w_fieldAddrp rfl (by decide)) ?_ | refine aqr 2 rfl (by decide +kernel) (by decide) (fun G hG => w_fieldAddr rfl (lkF hF) rfl (by decide)) ?_
  first | refine aqr 3 rfl (by decide +kernel) (by decide) (fun G hG => w_load1 (v := .int _ _) rfl (lk rfl hG) rfl rfl rfl) ?_ | refine aqr 3 rfl (by decide +kernel) (by decide) (fun G hG => w_load1 (v := .int _ _) rfl (lk rfl hG) rfl (zadd hr) rfl) ?_ | refine aqr 3 rfl (by decide +kernel) (by decide) (fun G hG => w_load1 (v := .int _ _) rfl (lk rfl hG) rfl (zadd hr1) rfl) ?_ | refine aqr 3 rfl (by decide +kernel) (by decide) (fun G hG => w_load1 (v := .int _ _) rfl (lk rfl hG) rfl (zadd hr2) rfl) ?_ | refine aqr 3 rfl (by decide +kernel) (by decide) (fun G hG => o_load1p (v := .int _ _) rfl hr rfl) ?_ | refine aqr 3 rfl (by decide +kernel) (by decide) (fun G hG => o_load1p (v := .int _ _) rfl hr1 rfl) ?_ | refine aqr 3 rfl (by decide +kernel) (by decide) (fun G hG => o_load1p (v := .int _ _) rfl hr2 rfl) ?_ | refine aqr 3 rfl (by decide +kernel) (by decide) (fun G hG => w_load1 (v := .int _ _) rfl (lkF hF) rfl rfl rfl) ?_
  refine Z51 ?_
  refine Z52 ?_
  first | refine aq0 6 rfl (by decide +kernel) (by decide) (fun _ => o_move (v := .sl _ _ _ _ _) rfl) ?_ | refine aq0 6 rfl (by decide +kernel) (by decide) (fun _ => o_move (v := .pl _) rfl) ?_ | refine aq0 6 rfl (by decide +kernel) (by decide) (fun _ => o_move (v := .nsl) rfl) ?_
  refine aq02 7 rfl (by decide +kernel) (by decide) (fun _ => V2.call (bytes_Clone b _ hb) rfl) ?_
  refine aq0 8 rfl (by decide +kernel) (by decide) (fun _ => V1.up (o_build (cs := [.int _ _, .int _ _, .int _ _, _]) rfl)) ?_
  refine aq02 9 rfl (by decide +kernel) (by decide) (fun _ => g_lit1 (sz := 4) (v := .agg (ePacket ⟨p.epoch, p.next, 0, b⟩)) (cs := ePacket ⟨p.epoch, p.next, 0, b⟩) rfl (by decide) (by decide) rfl rfl rfl rfl rfl) ?_
  refine aqs 10 rfl (by decide +kernel) (by first | exact fun _ => trivial | exact fun _ => ⟨_, rfl⟩ | exact fun _ => ⟨_, rfl, rfl⟩ | exact yet_done (by decide +kernel)) (by rintro _ ⟨⟩; decide) (w_append rfl rfl rfl rfl rfl (Src.pl (ys := [ePacket ⟨p.epoch, p.next, 0, b⟩]) rfl (packets_len [⟨p.epoch, p.next, 0, b⟩])) rfl (by simp) (by simp) (by simp; omega) (by simp; omega)) ?_
  first | refine aqr 11 rfl (by decide +kernel) (by decide) (fun G hG => w_fieldAddr rfl (lk rfl hG) rfl (by decide)) ?_ | refine aqr 11 rfl (by decide +kernel) (by decide) (fun G hG => w_fieldAddrp rfl (by decide)) ?_ | refine aqr 11 rfl (by decide +kernel) (by decide) (fun G hG => w_fieldAddr rfl (lkF hF) rfl (by decide)) ?_
  first | refine aqs 12 rfl (by decide +kernel) (by first | exact fun _ => trivial | exact fun _ => ⟨_, rfl⟩ | exact fun _ => ⟨_, rfl, rfl⟩ | exact yet_done (by decide +kernel)) (by rintro _ ⟨⟩) (w_storeP (sz := 1) (v := .sl _ _ _ _ _) (r' := [_, _, _, _]) rfl rfl rfl rfl rfl rfl rfl rfl (Nat.le_of_ble_eq_true rfl) rfl) ?_ | refine aqs 12 rfl (by decide +kernel) (by first | exact fun _ => trivial | exact fun _ => ⟨_, rfl⟩ | exact fun _ => ⟨_, rfl, rfl⟩ | exact yet_done (by decide +kernel)) (by rintro _ ⟨⟩) (w_storeP (sz := 1) (v := .pl _) (r' := [_, _, _, _]) rfl rfl rfl rfl rfl rfl rfl rfl (Nat.le_of_ble_eq_true rfl) rfl) ?_ | refine aqs 12 rfl (by decide +kernel) (by first | exact fun _ => trivial | exact fun _ => ⟨_, rfl⟩ | exact fun _ => ⟨_, rfl, rfl⟩ | exact yet_done (by decide +kernel)) (by rintro _ ⟨⟩) (w_storeP (sz := 1) (v := .nsl) (r' := [_, _, _, _]) rfl rfl rfl rfl rfl rfl rfl rfl (Nat.le_of_ble_eq_true rfl) rfl) ?_ | refine aqs 12 rfl (by decide +kernel) (by first | exact fun _ => trivial | exact fun _ => ⟨_, rfl⟩ | exact fun _ => ⟨_, rfl, rfl⟩ | exact yet_done (by decide +kernel)) (by rintro _ ⟨⟩) (w_storeFP (sz := 1) (v := .sl _ _ _ _ _) (r' := [_, _, _, _]) rfl hF rfl rfl rfl rfl rfl (Nat.le_of_ble_eq_true rfl) rfl) ?_ | refine aqs 12 rfl (by decide +kernel) (by first | exact fun _ => trivial | exact fun _ => ⟨_, rfl⟩ | exact fun _ => ⟨_, rfl, rfl⟩ | exact yet_done (by decide +kernel)) (by rintro _ ⟨⟩) (w_storeFP (sz := 1) (v := .sl _ _ _ _ _) (r' := [_, _, _, _]) rfl hF1 rfl rfl rfl rfl rfl (Nat.le_of_ble_eq_true rfl) rfl) ?_ | refine aqs 12 rfl (by decide +kernel) (by first | exact fun _ => trivial | exact fun _ => ⟨_, rfl⟩ | exact fun _ => ⟨_, rfl, rfl⟩ | exact yet_done (by decide +kernel)) (by rintro _ ⟨⟩) (w_storeFP (sz := 1) (v := .pl _) (r' := [_, _, _, _]) rfl hF rfl rfl rfl rfl rfl (Nat.le_of_ble_eq_true rfl) rfl) ?_ | refine aqs 12 rfl (by decide +kernel) (by first | exact fun _ => trivial | exact fun _ => ⟨_, rfl⟩ | exact fun _ => ⟨_, rfl, rfl⟩ | exact yet_done (by decide +kernel)) (by rintro _ ⟨⟩) (w_storeFP (sz := 1) (v := .pl _) (r' := [_, _, _, _]) rfl hF1 rfl rfl rfl rfl rfl (Nat.le_of_ble_eq_true rfl) rfl) ?_ | refine aqs 12 rfl (by decide +kernel) (by first | exact fun _ => trivial | exact fun _ => ⟨_, rfl⟩ | exact fun _ => ⟨_, rfl, rfl⟩ | exact yet_done (by decide +kernel)) (by rintro _ ⟨⟩) (w_storeFP (sz := 1) (v := .nsl) (r' := [_, _, _, _]) rfl hF rfl rfl rfl rfl rfl (Nat.le_of_ble_eq_true rfl) rfl) ?_ | refine aqs 12 rfl (by decide +kernel) (by first | exact fun _ => trivial | exact fun _ => ⟨_, rfl⟩ | exact fun _ => ⟨_, rfl, rfl⟩ | exact yet_done (by decide +kernel)) (by rintro _ ⟨⟩) (w_storeFP (sz := 1) (v := .nsl) (r' := [_, _, _, _]) rfl hF1 rfl rfl rfl rfl rfl (Nat.le_of_ble_eq_true rfl) rfl) ?_
  refine Z2d ?_
  refine Z4m ?_
  refine Z1w ?_
  refine Zj ?_
  refine Z53 ?_
  refine Z3 ?_
  refine Z4y ?_
  refine Z54 ?_
  refine aw_ret ?_
  rw [show pSay p b = (⟨p.epoch, p.out ++ [⟨p.epoch, p.next, 0, b⟩], p.next + 1, p.want⟩, 0) by simp [pSay, hp, hb4, h16, hn]]
  exact Z4k
end Go.Av

/-
  AN APPEND TO NOTHING THAT NOBODY WRITES BEHIND IT IS A LIST.
-/
namespace Go.Av
section
variable {P : Program} {N : Nat} {B : Base} {env : Env} {H H0 L : Heap} {op : Op} {ty : TypeId}
theorem g_append_new {t t' e : TypeId} {x y : Operand} {sz bytes : Nat} {agg : Bool} {zs : List AV} {ys : List (List AV)} [hu : SlI P t e] [NiI P t'] [TyI P e agg sz] [hz : ZcI P e zs] [ByI P e bytes]
    (hx : aev env x = .nsl) (hy : Src P N env H y sz ys) (hn : zs.length = sz) (hp : 0 < sz) (h63 : ys.length ≤ 9223372036854775807) (hb : ys.length * bytes ≤ 140737488355328) (hbel : ∀ r ∈ ys, AV.bels 0 r = true) :
    V2 P N (.call { callee := .builtin .append, args := #[x, y], argTypes := #[t, t'] }) ty env H (.pl ys) H := by
  have h1 := g_append_nsl (P := P) (N := N) (ty := ty) (t := t) (t' := t') (e := e) (agg := agg) (zs := zs) (bytes := bytes) (H0 := H) (L := []) (k := 0) hx (by rw [List.append_nil]; exact hy) hn hp h63 hb rfl
  have h2 := V2.freezeL (o := ⟨0, sz, ys⟩) (k := 0) h1 rfl rfl rfl hbel
  rw [List.append_nil] at h2
  exact h2
/-- A whole row is written anew. -/
theorem w_storeW {t : TypeId} {x y : Operand} {n k g i sz : Nat} {agg : Bool} {o : AObj} {r cs : List AV} [TyI P t agg sz] (hx : aev env x = .pt (Lid n k) g i 0) (hn : H0.length = n) (hk : L[k]? = some o) (hg : o.gen = g) (hr : o.rows[i]? = some r)
    (hy : aev env y = .agg cs) (hl : cs.length = sz) (hrl : r.length = sz) (hj : sz ≤ o.sz) :
    V2 P N (.store t x y) ty env (H0 ++ L) .junk (H0 ++ L.set k { o with rows := o.rows.set i cs }) :=
  w_storeP (v := .agg cs) (r' := cs) (agg := agg) hx hn hk hg hr hy rfl hl (by omega) (by
    show r.take 0 ++ cs ++ r.drop (0 + sz) = cs
    rw [List.take_zero, List.nil_append, Nat.zero_add, List.drop_of_length_le (by omega), List.append_nil])
end
end Go.Av

namespace Go.Av
open Go.Proofs
set_option maxRecDepth 10000
set_option linter.unusedSimpArgs false
set_option linter.unusedVariables false

theorem bytes_len (b : List UInt8) : ∀ r ∈ b.map brow, r.length = 1 := rows_len (e := brow) (n := 1) (fun _ => rfl) b
theorem bytes_bel (n : Nat) (b : List UInt8) : ∀ r ∈ b.map brow, AV.bels n r = true := rows_bel (e := brow) (fun _ => rfl) b


theorem ref17_Say (p : Pipe) (b : List UInt8) (H : Heap) (hl : p.out.length ≤ 1000000) (hb : b.length ≤ 140737488355328) :
    AC Try.prog 27 [.agg (ePipe p), .pl (b.map brow)] H (Ret (.tup [.agg (ePipe (pSay p b).1), .int .i64 (pSay p b).2]) H) := by
  refine AC.body (N := 43) [.cell 4 54, .tmp 5] Try.func27 rfl rfl rfl (Nat.le_of_ble_eq_true rfl) fun B hB => ?_
  refine Z44 ?_
  refine Z3z ?_
  refine Z55 ?_
  refine Z56 ?_
  refine Z4h ?_
  refine aw_cond rfl (fun hc => ?_) (fun hc => ?_)
  · have hp : pright p = false := by simpa using hc
    refine Z4x ?_
    refine Z4j ?_
    rw [show pSay p b = (p, 1) by simp [pSay, hp]]
    exact Z4k
  have hp : pright p = true := by simpa using hc
  have hf := pright_facts hp
  refine Z3v ?_
  refine Z50 ?_
  refine Z3w ?_
  refine aw_cond rfl (fun hc => ?_) (fun hc => ?_)
  · have hb4 : 4096 < b.length := by simp at hc; omega
    refine Z4x ?_
    refine Z4j ?_
    rw [show pSay p b = (p, 4) by simp [pSay, hp, hb4]]
    exact Z4k
  have hb4 : ¬ 4096 < b.length := by simp at hc; omega
  refine Z41 ?_
  refine Z1q ?_
  refine Z7 ?_
  refine Z3w ?_
  refine aw_cond rfl (fun hc => ?_) (fun hc => ?_)
  · have h16 : p.out.length = 16 := by simp at hc; omega
    refine Z4x ?_
    refine Z4j ?_
    rw [show pSay p b = (p, 5) by simp [pSay, hp, hb4, h16]]
    exact Z4k
  have h16 : ¬ p.out.length = 16 := by simp at hc; omega
  refine Z4m ?_
  refine Z7 ?_
  refine Z3w ?_
  refine aw_cond rfl (fun hc => ?_) (fun hc => ?_)
  · have hn : p.next = 1073741824 := by simp at hc; omega
    refine Z4x ?_
    refine Z4j ?_
    rw [show pSay p b = (p, 9) by simp [pSay, hp, hb4, h16, hn]]
    exact Z4k
  have hn : ¬ p.next = 1073741824 := by simp at hc; omega
  refine Z3q ?_
  refine aw_drawR mixed (some 15) 0 ?_
  refine Z29 ?_
  refine aq02 0 rfl (by decide +kernel) (by decide) (fun _ => o_buildSlice0) ?_
  first | refine aqr 1 rfl (by decide +kernel) (by decide) (fun G hG => w_fieldAddr rfl (lk rfl hG) rfl (by decide)) ?_ | refine aqr 1 rfl (by decide +kernel) (by decide) (fun G hG => w_fieldAddrp rfl (by decide)) ?_ | refine aqr 1 rfl (by decide +kernel) (by decide) (fun G hG => w_fieldAddr rfl (lkF hF) rfl (by decide)) ?_
  first | refine aqr 2 rfl (by decide +kernel) (by decide) (fun G hG => w_load1 (v := .sl _ _ _ _ _) rfl (lk rfl hG) rfl rfl rfl) ?_ | refine aqr 2 rfl (by decide +kernel) (by decide) (fun G hG => w_load1 (v := .pl _) rfl (lk rfl hG) rfl rfl rfl) ?_ | refine aqr 2 rfl (by decide +kernel) (by decide) (fun G hG => w_load1 (v := .nsl) rfl (lk rfl hG) rfl rfl rfl) ?_ | refine aqr 2 rfl (by decide +kernel) (by decide) (fun G hG => w_load1 (v := .sl _ _ _ _ _) rfl (lk rfl hG) rfl (zadd hr) rfl) ?_ | refine aqr 2 rfl (by decide +kernel) (by decide) (fun G hG => w_load1 (v := .sl _ _ _ _ _) rfl (lk rfl hG) rfl (zadd hr1) rfl) ?_ | refine aqr 2 rfl (by decide +kernel) (by decide) (fun G hG => w_load1 (v := .sl _ _ _ _ _) rfl (lk rfl hG) rfl (zadd hr2) rfl) ?_ | refine aqr 2 rfl (by decide +kernel) (by decide) (fun G hG => w_load1 (v := .pl _) rfl (lk rfl hG) rfl (zadd hr) rfl) ?_ | refine aqr 2 rfl (by decide +kernel) (by decide) (fun G hG => w_load1 (v := .pl _) rfl (lk rfl hG) rfl (zadd hr1) rfl) ?_ | refine aqr 2 rfl (by decide +kernel) (by decide) (fun G hG => w_load1 (v := .pl _) rfl (lk rfl hG) rfl (zadd hr2) rfl) ?_ | refine aqr 2 rfl (by decide +kernel) (by decide) (fun G hG => w_load1 (v := .nsl) rfl (lk rfl hG) rfl (zadd hr) rfl) ?_ | refine aqr 2 rfl (by decide +kernel) (by decide) (fun G hG => w_load1 (v := .nsl) rfl (lk rfl hG) rfl (zadd hr1) rfl) ?_ | refine aqr 2 rfl (by decide +kernel) (by decide) (fun G hG => w_load1 (v := .nsl) rfl (lk rfl hG) rfl (zadd hr2) rfl) ?_ | refine aqr 2 rfl (by decide +kernel) (by decide) (fun G hG => o_load1p (v := .sl _ _ _ _ _) rfl hr rfl) ?_ | refine aqr 2 rfl (by decide +kernel) (by decide) (fun G hG => o_load1p (v := .sl _ _ _ _ _) rfl hr1 rfl) ?_ | refine aqr 2 rfl (by decide +kernel) (by decide) (fun G hG => o_load1p (v := .sl _ _ _ _ _) rfl hr2 rfl) ?_ | refine aqr 2 rfl (by decide +kernel) (by decide) (fun G hG => o_load1p (v := .pl _) rfl hr rfl) ?_ | refine aqr 2 rfl (by decide +kernel) (by decide) (fun G hG => o_load1p (v := .pl _) rfl hr1 rfl) ?_ | refine aqr 2 rfl (by decide +kernel) (by decide) (fun G hG => o_load1p (v := .pl _) rfl hr2 rfl) ?_ | refine aqr 2 rfl (by decide +kernel) (by decide) (fun G hG => o_load1p (v := .nsl) rfl hr rfl) ?_ | refine aqr 2 rfl (by decide +kernel) (by decide) (fun G hG => o_load1p (v := .nsl) rfl hr1 rfl) ?_ | refine aqr 2 rfl (by decide +kernel) (by decide) (fun G hG => o_load1p (v := .nsl) rfl hr2 rfl) ?_ | refine aqr 2 rfl (by decide +kernel) (by decide) (fun G hG => w_load1 (v := .sl _ _ _ _ _) rfl (lkF hF) rfl rfl rfl) ?_ | refine aqr 2 rfl (by decide +kernel) (by decide) (fun G hG => w_load1 (v := .pl _) rfl (lkF hF) rfl rfl rfl) ?_ | refine aqr 2 rfl (by decide +kernel) (by decide) (fun G hG => w_load1 (v := .nsl) rfl (lkF hF) rfl rfl rfl) ?_
  refine Z51 ?_
  refine Z52 ?_
  first | refine aqr 6 rfl (by decide +kernel) (by decide) (fun G hG => w_fieldAddr rfl (lk rfl hG) rfl (by decide)) ?_ | refine aqr 6 rfl (by decide +kernel) (by decide) (fun G hG => w_fieldAddrp rfl (by decide)) ?_ | refine aqr 6 rfl (by decide +kernel) (by decide) (fun G hG => w_fieldAddr rfl (lkF hF) rfl (by decide)) ?_
  first | refine aqr 7 rfl (by decide +kernel) (by decide) (fun G hG => w_load1 (v := .int _ _) rfl (lk rfl hG) rfl rfl rfl) ?_ | refine aqr 7 rfl (by decide +kernel) (by decide) (fun G hG => w_load1 (v := .int _ _) rfl (lk rfl hG) rfl (zadd hr) rfl) ?_ | refine aqr 7 rfl (by decide +kernel) (by decide) (fun G hG => w_load1 (v := .int _ _) rfl (lk rfl hG) rfl (zadd hr1) rfl) ?_ | refine aqr 7 rfl (by decide +kernel) (by decide) (fun G hG => w_load1 (v := .int _ _) rfl (lk rfl hG) rfl (zadd hr2) rfl) ?_ | refine aqr 7 rfl (by decide +kernel) (by decide) (fun G hG => o_load1p (v := .int _ _) rfl hr rfl) ?_ | refine aqr 7 rfl (by decide +kernel) (by decide) (fun G hG => o_load1p (v := .int _ _) rfl hr1 rfl) ?_ | refine aqr 7 rfl (by decide +kernel) (by decide) (fun G hG => o_load1p (v := .int _ _) rfl hr2 rfl) ?_ | refine aqr 7 rfl (by decide +kernel) (by decide) (fun G hG => w_load1 (v := .int _ _) rfl (lkF hF) rfl rfl rfl) ?_
  refine aq02 8 rfl (by decide +kernel) (by decide) (fun _ => o_buildSlice0) ?_
  first | refine aq0 9 rfl (by decide +kernel) (by decide) (fun _ => o_move (v := .sl _ _ _ _ _) rfl) ?_ | refine aq0 9 rfl (by decide +kernel) (by decide) (fun _ => o_move (v := .pl _) rfl) ?_ | refine aq0 9 rfl (by decide +kernel) (by decide) (fun _ => o_move (v := .nsl) rfl) ?_
  refine aqs 3 rfl (by decide +kernel) (by first | exact fun _ => trivial | exact fun _ => ⟨_, rfl⟩ | exact fun _ => ⟨_, rfl, rfl⟩ | exact yet_done (by decide +kernel)) (by rintro _ ⟨⟩; decide) (g_append_nsl rfl (Src.pl rfl (packets_len p.out)) rfl (by decide) (by simp; omega) (by simp; omega) rfl) ?_
  refine aq02 10 rfl (by decide +kernel) (by decide) (fun _ => g_append_new (sz := 1) (bytes := 1) rfl (Src.pl rfl (bytes_len b)) rfl (by decide) (by simp; omega) (by simp; omega) (bytes_bel 0 b)) ?_
  refine aq0 11 rfl (by decide +kernel) (by decide) (fun _ => V1.up (o_build (cs := [.int _ _, .int _ _, .int _ _, _]) rfl)) ?_
  refine aq02 12 rfl (by decide +kernel) (by decide) (fun _ => g_lit1 (sz := 4) (v := .agg (ePacket ⟨p.epoch, p.next, 0, b⟩)) (cs := ePacket ⟨p.epoch, p.next, 0, b⟩) rfl (by decide) (by decide) rfl rfl rfl rfl rfl) ?_
  refine aqs 13 rfl (by decide +kernel) (by first | exact fun _ => trivial | exact fun _ => ⟨_, rfl⟩ | exact fun _ => ⟨_, rfl, rfl⟩ | exact yet_done (by decide +kernel)) (by rintro _ ⟨⟩; decide) (w_append rfl rfl rfl rfl rfl (Src.pl (ys := [ePacket ⟨p.epoch, p.next, 0, b⟩]) rfl (packets_len [⟨p.epoch, p.next, 0, b⟩])) rfl (by simp) (by simp) (by simp; omega) (by simp; omega)) ?_
  first | refine aqr 14 rfl (by decide +kernel) (by decide) (fun G hG => w_fieldAddr rfl (lk rfl hG) rfl (by decide)) ?_ | refine aqr 14 rfl (by decide +kernel) (by decide) (fun G hG => w_fieldAddrp rfl (by decide)) ?_ | refine aqr 14 rfl (by decide +kernel) (by decide) (fun G hG => w_fieldAddr rfl (lkF hF) rfl (by decide)) ?_
  first | refine aqs 15 rfl (by decide +kernel) (by first | exact fun _ => trivial | exact fun _ => ⟨_, rfl⟩ | exact fun _ => ⟨_, rfl, rfl⟩ | exact yet_done (by decide +kernel)) (by rintro _ ⟨⟩) (w_storeP (sz := 1) (v := .sl _ _ _ _ _) (r' := [_, _, _, _]) rfl rfl rfl rfl rfl rfl rfl rfl (Nat.le_of_ble_eq_true rfl) rfl) ?_ | refine aqs 15 rfl (by decide +kernel) (by first | exact fun _ => trivial | exact fun _ => ⟨_, rfl⟩ | exact fun _ => ⟨_, rfl, rfl⟩ | exact yet_done (by decide +kernel)) (by rintro _ ⟨⟩) (w_storeP (sz := 1) (v := .pl _) (r' := [_, _, _, _]) rfl rfl rfl rfl rfl rfl rfl rfl (Nat.le_of_ble_eq_true rfl) rfl) ?_ | refine aqs 15 rfl (by decide +kernel) (by first | exact fun _ => trivial | exact fun _ => ⟨_, rfl⟩ | exact fun _ => ⟨_, rfl, rfl⟩ | exact yet_done (by decide +kernel)) (by rintro _ ⟨⟩) (w_storeP (sz := 1) (v := .nsl) (r' := [_, _, _, _]) rfl rfl rfl rfl rfl rfl rfl rfl (Nat.le_of_ble_eq_true rfl) rfl) ?_ | refine aqs 15 rfl (by decide +kernel) (by first | exact fun _ => trivial | exact fun _ => ⟨_, rfl⟩ | exact fun _ => ⟨_, rfl, rfl⟩ | exact yet_done (by decide +kernel)) (by rintro _ ⟨⟩) (w_storeFP (sz := 1) (v := .sl _ _ _ _ _) (r' := [_, _, _, _]) rfl hF rfl rfl rfl rfl rfl (Nat.le_of_ble_eq_true rfl) rfl) ?_ | refine aqs 15 rfl (by decide +kernel) (by first | exact fun _ => trivial | exact fun _ => ⟨_, rfl⟩ | exact fun _ => ⟨_, rfl, rfl⟩ | exact yet_done (by decide +kernel)) (by rintro _ ⟨⟩) (w_storeFP (sz := 1) (v := .sl _ _ _ _ _) (r' := [_, _, _, _]) rfl hF1 rfl rfl rfl rfl rfl (Nat.le_of_ble_eq_true rfl) rfl) ?_ | refine aqs 15 rfl (by decide +kernel) (by first | exact fun _ => trivial | exact fun _ => ⟨_, rfl⟩ | exact fun _ => ⟨_, rfl, rfl⟩ | exact yet_done (by decide +kernel)) (by rintro _ ⟨⟩) (w_storeFP (sz := 1) (v := .pl _) (r' := [_, _, _, _]) rfl hF rfl rfl rfl rfl rfl (Nat.le_of_ble_eq_true rfl) rfl) ?_ | refine aqs 15 rfl (by decide +kernel) (by first | exact fun _ => trivial | exact fun _ => ⟨_, rfl⟩ | exact fun _ => ⟨_, rfl, rfl⟩ | exact yet_done (by decide +kernel)) (by rintro _ ⟨⟩) (w_storeFP (sz := 1) (v := .pl _) (r' := [_, _, _, _]) rfl hF1 rfl rfl rfl rfl rfl (Nat.le_of_ble_eq_true rfl) rfl) ?_ | refine aqs 15 rfl (by decide +kernel) (by first | exact fun _ => trivial | exact fun _ => ⟨_, rfl⟩ | exact fun _ => ⟨_, rfl, rfl⟩ | exact yet_done (by decide +kernel)) (by rintro _ ⟨⟩) (w_storeFP (sz := 1) (v := .nsl) (r' := [_, _, _, _]) rfl hF rfl rfl rfl rfl rfl (Nat.le_of_ble_eq_true rfl) rfl) ?_ | refine aqs 15 rfl (by decide +kernel) (by first | exact fun _ => trivial | exact fun _ => ⟨_, rfl⟩ | exact fun _ => ⟨_, rfl, rfl⟩ | exact yet_done (by decide +kernel)) (by rintro _ ⟨⟩) (w_storeFP (sz := 1) (v := .nsl) (r' := [_, _, _, _]) rfl hF1 rfl rfl rfl rfl rfl (Nat.le_of_ble_eq_true rfl) rfl) ?_
  refine Z2d ?_
  refine Z4m ?_
  refine Z1w ?_
  refine Zj ?_
  refine Z53 ?_
  refine Z3 ?_
  refine Z4y ?_
  refine Z54 ?_
  refine aw_ret ?_
  rw [show pSay p b = (⟨p.epoch, p.out ++ [⟨p.epoch, p.next, 0, b⟩], p.next + 1, p.want⟩, 0) by simp [pSay, hp, hb4, h16, hn]]
  exact Z4k
end Go.Av

namespace Go.Av
open Go.Proofs
set_option maxRecDepth 10000
set_option linter.unusedSimpArgs false
set_option linter.unusedVariables false


abbrev ackd (p : Pipe) (x : Packet) : Packet := ⟨x.epoch, x.seq, p.want - 1, x.body⟩
def pGoes (p : Pipe) : List Packet := if !pright p then [] else if p.out = [] then [⟨p.epoch, 0, p.want - 1, []⟩] else p.out.map (ackd p)

theorem goes_get (f : Packet → Packet) {l : List Packet} {k : Nat} {x : Packet} (hx : l[k]? = some x) : ((l.take k).map f ++ l.drop k)[k]? = some x := by
  have hk : k < l.length := (List.getElem?_eq_some_iff.1 hx).1
  rw [List.getElem?_append_right (by simp; omega)]
  simp [Nat.min_eq_left (Nat.le_of_lt hk), hx]
theorem goes_set (f : Packet → Packet) {l : List Packet} {k : Nat} {x : Packet} (hx : l[k]? = some x) : ((l.take k).map f ++ l.drop k).set k (f x) = (l.take (k + 1)).map f ++ l.drop (k + 1) := by
  have hk : k < l.length := (List.getElem?_eq_some_iff.1 hx).1
  rw [take_snoc_get hx, List.set_append_right _ _ (by simp; omega)]
  have : l.drop k = x :: l.drop (k + 1) := by rw [List.drop_eq_getElem_cons hk]; rw [List.getElem?_eq_getElem hk] at hx; rw [Option.some.inj hx]
  rw [this]
  simp [Nat.min_eq_left (Nat.le_of_lt hk)]

theorem pipe_Goes (p : Pipe) (H : Heap) (hl : p.out.length ≤ 1000000) (hw : ∀ x ∈ p.out, x.body.length ≤ 140737488355328) :
    AC Try.prog 37 [.agg (ePipe p)] H (Ret (.pl ((pGoes p).map ePacket)) H) := by
  refine AC.body (N := 32) [.tmp 2] Try.func37 rfl rfl rfl (Nat.le_of_ble_eq_true rfl) fun B hB => ?_
  refine Z44 ?_
  refine Z1i ?_
  refine Z4v ?_
  refine ao_ret (pipe_Right _ _) rfl (by decide) ?_
  refine Z4h ?_
  refine aw_cond rfl (fun hc => ?_) (fun hc => ?_)
  · have hp : pright p = false := by simpa using hc
    refine Z3r ?_
    refine Z3t ?_
    refine aw_nslpl 2 rfl ?_
    refine aw_ret ?_
    rw [show pGoes p = [] by simp [pGoes, hp]]
    exact Zh
  have hp : pright p = true := by simpa using hc
  have hf := pright_facts hp
  refine Z41 ?_
  refine Z4u ?_
  refine Z1i ?_
  refine Z3v ?_
  refine Z28 ?_
  refine Z3w ?_
  refine aw_cond rfl (fun hc => ?_) (fun hc => ?_)
  · have h0 : p.out = [] := List.eq_nil_of_length_eq_zero (by simpa using hc)
    rw [show pGoes p = [ackd p ⟨p.epoch, 0, 0, []⟩] by simp [pGoes, hp, h0, ackd]]
    refine Z4m ?_
    refine Z57 ?_
    refine Z43 ?_
    refine Z1i ?_
    refine Z3v ?_
    refine Z1r ?_
    refine Z3s ?_
    refine aw_loop (G := Nat) (fun k => k ≤ 1) (fun k => [(1, .pt (Lid H.length 0) 0 0 0), (3, .sl (Lid H.length 2) 0 0 1 1), (19, .int .i64 (1 : Int)), (20, .int .i64 (k : Int))]) (fun k => H ++ [⟨0, 4, [ePipe p]⟩, ⟨p.out.length, 4, p.out.map ePacket⟩, ⟨0, 4, ((([⟨p.epoch, 0, 0, []⟩] : List Packet).take k).map (ackd p) ++ ([⟨p.epoch, 0, 0, []⟩] : List Packet).drop k).map ePacket⟩]) (fun k => 1 - k) 0 (Nat.zero_le _) (by repeat (first | exact Sub.nil | refine Sub.cons (by first | rfl | (simp [get]; done)) ?_)) (Fit.refl _ _) ?_
    intro k hk
    refine Z3r ?_
    refine Z3y ?_
    refine aw_cond rfl (fun hc => ?_) (fun hc => ?_)
    · have hlt : k < 1 := by simp at hc; omega
      obtain rfl : k = 0 := by omega
      have hx : ([⟨p.epoch, 0, 0, []⟩] : List Packet)[0]? = some ⟨p.epoch, 0, 0, []⟩ := rfl
      have hr := map_get ePacket (goes_get (ackd p) hx)
      refine Z49 ?_
      refine Z1y ?_
      refine Z58 ?_
      refine Zl ?_
      refine Z59 ?_
      refine Z1t ?_
      refine Zj ?_
      refine ao2 (by rintro _ ⟨⟩) (w_storeP (sz := 1) (v := .int _ _) (r' := ePacket (ackd p ⟨p.epoch, 0, 0, []⟩)) rfl rfl rfl rfl (zadd hr) rfl rfl rfl (Nat.le_of_ble_eq_true rfl) rfl) ?_
      refine Z3 ?_
      refine Z3r ?_
      refine Z1w ?_
      refine Z3x ?_
      exact ⟨1, by omega, by omega, (by repeat (first | exact Sub.nil | refine Sub.cons (by first | rfl | (simp [get]; done)) ?_)), .refl _ _⟩
    · have : k = 1 := by simp at hc; omega
      subst this
      refine Z3u ?_
      refine Z3t ?_
      refine aw_freezeL (ys := [ackd p ⟨p.epoch, 0, 0, []⟩].map ePacket) 2 rfl rfl rfl rfl rfl rfl (packets_bel 0 _) ?_
      refine aw_ret ?_
      exact Zh
  · have h0 : p.out ≠ [] := by rintro e; simp [e] at hc
    rw [show pGoes p = p.out.map (ackd p) by simp [pGoes, hp, h0]]
    refine Z3v ?_
    refine Z1r ?_
    refine Z3s ?_
    refine aw_loop (G := Nat) (fun k => k ≤ p.out.length) (fun k => [(1, .pt (Lid H.length 0) 0 0 0), (3, .sl (Lid H.length 1) p.out.length 0 p.out.length p.out.length), (19, .int .i64 (p.out.length : Int)), (20, .int .i64 (k : Int))]) (fun k => H ++ [⟨0, 4, [ePipe p]⟩, ⟨p.out.length, 4, ((p.out.take k).map (ackd p) ++ p.out.drop k).map ePacket⟩]) (fun k => p.out.length - k) 0 (Nat.zero_le _) (by repeat (first | exact Sub.nil | refine Sub.cons (by first | rfl | (simp [get]; done)) ?_)) (Fit.refl _ _) ?_
    intro k hk
    refine Z3r ?_
    refine Z3y ?_
    refine aw_cond rfl (fun hc => ?_) (fun hc => ?_)
    · have hlt : k < p.out.length := by simpa using hc
      obtain ⟨x, hx, hxl⟩ := get_in hlt
      have hr := map_get ePacket (goes_get (ackd p) hx)
      refine Z49 ?_
      refine Z1y ?_
      refine Z58 ?_
      refine Zl ?_
      refine Z59 ?_
      refine Z1t ?_
      refine Zj ?_
      refine ao2 (by rintro _ ⟨⟩) (w_storeP (sz := 1) (v := .int _ _) (r' := ePacket (ackd p x)) rfl rfl rfl rfl (zadd hr) rfl rfl rfl (Nat.le_of_ble_eq_true rfl) rfl) ?_
      refine Z3 ?_
      try rw [Nat.zero_add]
      rw [← List.map_set, goes_set (ackd p) hx]
      refine Z3r ?_
      refine Z1w ?_
      refine Z3x ?_
      exact ⟨k + 1, by omega, by omega, (by repeat (first | exact Sub.nil | refine Sub.cons (by first | rfl | (simp [get]; done)) ?_)), .refl _ _⟩
    · have : k = p.out.length := by simp at hc; omega
      subst this
      rw [List.take_length, List.drop_length, List.append_nil]
      refine Z3u ?_
      refine Z3t ?_
      refine Z5a ?_
      refine aw_ret ?_
      exact Zh

theorem ref17_Goes (p : Pipe) (H : Heap) (hl : p.out.length ≤ 1000000) :
    AC Try.prog 38 [.agg (ePipe p)] H (Ret (.pl ((pGoes p).map ePacket)) H) := by
  refine AC.body (N := 41) [.tmp 2] Try.func38 rfl rfl rfl (Nat.le_of_ble_eq_true rfl) fun B hB => ?_
  refine Z44 ?_
  refine Z1i ?_
  refine Z4v ?_
  refine Z56 ?_
  refine Z4h ?_
  refine aw_cond rfl (fun hc => ?_) (fun hc => ?_)
  · have hp : pright p = false := by simpa using hc
    refine Z3r ?_
    refine Z3t ?_
    refine aw_nslpl 2 rfl ?_
    refine aw_ret ?_
    rw [show pGoes p = [] by simp [pGoes, hp]]
    exact Zh
  have hp : pright p = true := by simpa using hc
  have hf := pright_facts hp
  refine Z41 ?_
  refine Z1q ?_
  refine Z28 ?_
  refine Z3w ?_
  refine aw_cond rfl (fun hc => ?_) (fun hc => ?_)
  · have h0 : p.out = [] := List.eq_nil_of_length_eq_zero (by simpa using hc)
    rw [show pGoes p = [⟨p.epoch, 0, p.want - 1, []⟩] by simp [pGoes, hp, h0]]
    refine Z4m ?_
    refine Zl ?_
    refine Z59 ?_
    refine Z57 ?_
    refine Z43 ?_
    refine Z3t ?_
    refine aw_freezeL (ys := [(⟨p.epoch, 0, p.want - 1, []⟩ : Packet)].map ePacket) 2 rfl rfl rfl rfl rfl rfl (packets_bel 0 _) ?_
    refine aw_ret ?_
    exact Zh
  · have h0 : p.out ≠ [] := by rintro e; simp [e] at hc
    rw [show pGoes p = p.out.map (ackd p) by simp [pGoes, hp, h0]]
    refine Z3r ?_
    refine Z3t ?_
    refine aw_ghostL (k := 1) 3 4 rfl (by decide) rfl ?_
    refine Z3r ?_
    refine Z4n ?_
    refine aw_loop (G := Nat) (fun k => k ≤ p.out.length) (fun k => [(1, .pt (Lid H.length 0) 0 0 0), (3, .sl (Lid H.length 1) k 0 k k), (4, .int .i64 (k : Int))]) (fun k => H ++ [⟨0, 4, [ePipe p]⟩, ⟨k, 4, ((p.out.map (ackd p)).take k).map ePacket⟩]) (fun k => p.out.length - k) 0 (Nat.zero_le _) (by repeat (first | exact Sub.nil | refine Sub.cons (by first | rfl | (simp [get]; done)) ?_)) (Fit.refl _ _) ?_
    intro k hk
    refine Z49 ?_
    refine Z1m ?_
    refine Z1q ?_
    refine Z3y ?_
    refine aw_cond rfl (fun hc => ?_) (fun hc => ?_)
    · have hlt : k < p.out.length := by simp at hc; omega
      obtain ⟨x, hx, hxl⟩ := get_in hlt
      have hr := map_get ePacket hx
      refine Z41 ?_
      refine Z6 ?_
      refine Z1t ?_
      refine Z1b ?_
      refine Z3z ?_
      refine Z40 ?_
      refine Z3 ?_
      refine Z4m ?_
      refine Z59 ?_
      refine Zj ?_
      refine Z53 ?_
      refine Z3 ?_
      refine Z3u ?_
      refine Z1b ?_
      refine Z43 ?_
      refine Z1v ?_
      refine Z1i ?_
      refine Z4t ?_
      refine ⟨k + 1, by omega, by omega, (by repeat (first | exact Sub.nil | refine Sub.cons (by first | rfl | (simp [get]; done)) ?_)), Fit.loc hB (by rw [← take_snoc_map ePacket (l := p.out.map (ackd p)) (x := ackd p x) (by rw [List.getElem?_map, hx]; rfl)]; rfl) (by repeat (first | exact EBel.nil | refine EBel.cons (by first | rfl | (simp [AV.bel, AV.bels, Lid]; done) | (simp [AV.bel, AV.bels, Lid]; omega)) ?_)) ?_⟩
      intro o ho r hr
      simp only [List.mem_cons, List.not_mem_nil, or_false] at ho
      rcases ho with rfl | rfl
      · simp only [List.mem_singleton] at hr; subst hr; rfl
      · exact packets_bel _ _ r hr
    · have : k = p.out.length := by simp at hc; omega
      subst this
      rw [show (p.out.map (ackd p)).take p.out.length = p.out.map (ackd p) from List.take_of_length_le (by simp)]
      refine Z3u ?_
      refine Z3t ?_
      refine Z5a ?_
      refine aw_ret ?_
      exact Zh
end Go.Av

namespace Go.Av
open Go.Proofs
set_option maxRecDepth 10000
set_option linter.unusedSimpArgs false
set_option linter.unusedVariables false

theorem set_id {α : Type} {l : List α} {i : Nat} {x : α} (h : l[i]? = some x) : l.set i x = l := by
  apply List.ext_getElem?
  intro j
  by_cases e : i = j
  · subst e; rw [List.getElem?_set_self (List.getElem?_eq_some_iff.1 h).1, h]
  · rw [List.getElem?_set_ne e]

theorem Fit.locF {B : Base} {E : Env} {H M L : Heap} {args : List AV} (hB : Begun B H args) (hl : M.length = H.length) (hE : EBel H.length E) (hM : HBel H.length M) : Fit B E (M ++ L) (M ++ []) := by
  rw [List.append_nil]
  exact .inr ⟨L, rfl, by rw [hl, hB.len]; exact Nat.le_refl _, by rw [hl]; exact hE, by rw [hl]; exact hM⟩

theorem pipe_Come_1 (x : Packet) (ack : Int) (ia : Nat) (H : Heap) (ha : H[ia]? = some ⟨0, 1, [[.int .i64 ack]]⟩) : AC Try.prog 51 [.agg (ePacket x), .pt ia 0 0 0] H (Ret (.bool (decide (x.seq ≤ ack))) H) := by
  have hF := ha
  refine AC.body (N := 8) [.tmp 3] Try.func51 rfl rfl rfl (Nat.le_of_ble_eq_true rfl) fun B hB => ?_
  refine Z44 ?_
  refine Z4 ?_
  refine Z4m ?_
  refine Zk ?_
  refine Z23 ?_
  refine Z45 ?_
  exact Zh

theorem slices_IndexFunc_pipe (l : List Packet) (ack : Int) (id g ia : Nat) (H : Heap) (hl : l.length ≤ 1000000) (hid : H[id]? = some ⟨g, 4, l.map ePacket⟩) (ha : H[ia]? = some ⟨0, 1, [[.int .i64 ack]]⟩) :
    AC Try.prog 54 [.sl id g 0 l.length l.length, .fn (.func 51) [] [.pt ia 0 0 0]] H (Ret (.int .i64 (ixf (fun x => decide (x.seq ≤ ack)) l)) H) := by
  have hF := hid
  refine AC.body (N := 19) [.tmp 4] Try.func54 rfl rfl rfl (Nat.le_of_ble_eq_true rfl) fun B hB => ?_
  refine Z3r ?_
  refine Z1y ?_
  refine Z3v ?_
  refine Z1r ?_
  refine Z3s ?_
  refine aw_loop (G := Nat) (fun k => k ≤ l.length ∧ ∀ y ∈ l.take k, decide (y.seq ≤ ack) = false) (fun k => [(0, .sl id g 0 l.length l.length), (1, .fn (.func 51) [] [.pt ia 0 0 0]), (7, .int .i64 (l.length : Int)), (8, .int .i64 (k : Int))]) (fun _ => H ++ []) (fun k => l.length - k) 0 ⟨Nat.zero_le _, by simp⟩ (by repeat (first | exact Sub.nil | refine Sub.cons (by first | rfl | (simp [get]; done)) ?_)) (Fit.refl _ _) ?_
  rintro k ⟨hk, hno⟩
  refine Z3r ?_
  refine Z3y ?_
  refine aw_cond rfl (fun hc => ?_) (fun hc => ?_)
  · have hlt : k < l.length := by simp at hc; omega
    obtain ⟨x, hx, hxl⟩ := get_in hlt
    have hr := map_get ePacket hx
    refine Z49 ?_
    refine Z1y ?_
    refine Z3r ?_
    refine Z21 ?_
    refine Z1k ?_
    refine Z6 ?_
    refine Z5b ?_
    refine Z5c ?_
    refine ao_retv (pipe_Come_1 x ack ia _ (lkF ha)) rfl rfl (by decide) ?_
    refine Z3w ?_
    refine aw_cond rfl (fun hc => ?_) (fun hc => ?_)
    · refine Z49 ?_
      refine Z4j ?_
      rw [ixf_some (p := fun x : Packet => decide (x.seq ≤ ack)) hx hc hno]
      exact Zh
    · refine Z3r ?_
      refine Z1w ?_
      refine Z3x ?_
      refine ⟨k + 1, by omega, ⟨by omega, ?_⟩, (by repeat (first | exact Sub.nil | refine Sub.cons (by first | rfl | (simp [get]; done)) ?_)), .refl _ _⟩
      rw [take_snoc_get hx]
      intro y hy
      rcases List.mem_append.1 hy with h | h
      · exact hno y h
      · simp only [List.mem_singleton] at h
        subst h
        exact hc
  · have : k = l.length := by simp at hc; omega
    subst this
    rw [List.take_length] at hno
    rw [ixf_none (p := fun x : Packet => decide (x.seq ≤ ack)) hno]
    refine Z3r ?_
    refine Z4j ?_
    exact Zh

/-! What DeleteFunc's loop keeps. -/
structure DelSt where
  rows : List Packet
  j : Nat
  i : Nat
def DelOk (l : List Packet) (p : Packet → Bool) (s : DelSt) : Prop :=
  s.rows.length = l.length ∧ s.rows.take s.i = (l.take s.j).filter p ∧ s.rows.drop s.j = l.drop s.j ∧ s.i < s.j ∧ s.j ≤ l.length
theorem DelOk.start {l : List Packet} {p : Packet → Bool} {k : Nat} {x : Packet} (hx : l[k]? = some x) (hp : p x = false) (hno : ∀ y ∈ l.take k, p y = true) : DelOk l p ⟨l, k + 1, k⟩ := by
  have hk := (List.getElem?_eq_some_iff.1 hx).1
  refine ⟨rfl, ?_, rfl, Nat.lt_succ_self _, hk⟩
  rw [take_snoc_get hx, List.filter_append, List.filter_eq_self.2 hno]
  simp [hp]
theorem DelOk.get {l : List Packet} {p : Packet → Bool} {s : DelSt} (h : DelOk l p s) {x : Packet} (hx : l[s.j]? = some x) : s.rows[s.j]? = some x := by
  obtain ⟨h1, h2, h3, h4, h5⟩ := h
  have := congrArg (·[0]?) h3
  simpa [hx] using this
theorem DelOk.drop {l : List Packet} {p : Packet → Bool} {s : DelSt} (h : DelOk l p s) {x : Packet} (hx : l[s.j]? = some x) (hp : p x = false) : DelOk l p ⟨s.rows, s.j + 1, s.i⟩ := by
  obtain ⟨h1, h2, h3, h4, h5⟩ := h
  have hk := (List.getElem?_eq_some_iff.1 hx).1
  refine ⟨h1, ?_, ?_, by simp only; omega, hk⟩
  · rw [take_snoc_get hx, List.filter_append, h2]
    simp [hp]
  · have := congrArg (List.drop 1) h3
    simpa [List.drop_drop, Nat.add_comm] using this
theorem DelOk.keep {l : List Packet} {p : Packet → Bool} {s : DelSt} (h : DelOk l p s) {x : Packet} (hx : l[s.j]? = some x) (hp : p x = true) : DelOk l p ⟨s.rows.set s.i x, s.j + 1, s.i + 1⟩ := by
  obtain ⟨h1, h2, h3, h4, h5⟩ := h
  have hk := (List.getElem?_eq_some_iff.1 hx).1
  refine ⟨by simpa using h1, ?_, ?_, by simp only; omega, hk⟩
  · rw [take_snoc_get hx, List.filter_append, ← h2]
    simp only
    rw [take_snoc_get (x := x) (List.getElem?_set_self (by omega)), List.take_set, List.set_eq_of_length_le (by simp; omega)]
    simp [hp]
  · have := congrArg (List.drop 1) h3
    simp only
    rw [List.drop_set_of_lt (by omega)]
    simpa [List.drop_drop, Nat.add_comm] using this
theorem DelOk.fin {l : List Packet} {p : Packet → Bool} {s : DelSt} (h : DelOk l p s) (hj : s.j = l.length) : s.rows.take s.i = l.filter p ∧ s.i = (l.filter p).length := by
  obtain ⟨h1, h2, h3, h4, h5⟩ := h
  have e : s.rows.take s.i = l.filter p := by rw [h2, hj, List.take_length]
  refine ⟨e, ?_⟩
  rw [← e, List.length_take]
  omega

theorem slices_DeleteFunc_pipe (l : List Packet) (ack : Int) (id g ia : Nat) (H : Heap) (hl : l.length ≤ 1000000) (hid : H[id]? = some ⟨g, 4, l.map ePacket⟩) (ha : H[ia]? = some ⟨0, 1, [[.int .i64 ack]]⟩) (hne : id ≠ ia) :
    AC Try.prog 50 [.sl id g 0 l.length l.length, .fn (.func 51) [] [.pt ia 0 0 0]] H
      (Ret (.sl id g 0 (l.filter fun y => !decide (y.seq ≤ ack)).length l.length) (H.set id ⟨g, 4, (l.filter fun y => !decide (y.seq ≤ ack)).map ePacket⟩)) := by
  have hlt := (List.getElem?_eq_some_iff.1 hid).1
  have hlta := (List.getElem?_eq_some_iff.1 ha).1
  refine AC.body (N := 42) [.tmp 4] Try.func50 rfl rfl rfl (Nat.le_of_ble_eq_true rfl) fun B hB => ?_
  refine Z3r ?_
  refine Z1i ?_
  refine Z3u ?_
  refine Z21 ?_
  refine ao_ret (slices_IndexFunc_pipe l ack id g ia _ hl (lkF hid) (lkF ha)) rfl (by decide) ?_
  refine Z1y ?_
  refine Z49 ?_
  refine Z28 ?_
  refine Z3w ?_
  refine aw_cond rfl (fun hc => ?_) (fun hc => ?_)
  · have hall : ∀ y ∈ l, (!decide (y.seq ≤ ack)) = true := by
      have h1 := ixf_nonneg (fun x : Packet => decide (x.seq ≤ ack)) l
      simp only [beq_iff_eq] at hc
      rw [hc] at h1
      intro y hy
      cases hd : decide (y.seq ≤ ack) with
      | false => rfl
      | true =>
        have : (l.any fun x => decide (x.seq ≤ ack)) = true := List.any_eq_true.2 ⟨y, hy, hd⟩
        rw [this] at h1
        cases h1
    refine Z3u ?_
    refine Z1h ?_
    refine Z3w ?_
    rw [List.filter_eq_self.2 hall, set_id hid]
    exact e_doneF hB (r_tmp rfl .nil) rfl (by simpa [AV.bel] using hlt) rfl hB.heap
  obtain ⟨k, x, hx, hp, hno, hk⟩ : ∃ k x, l[k]? = some x ∧ decide (x.seq ≤ ack) = true ∧ (∀ y ∈ l.take k, (!decide (y.seq ≤ ack)) = true) ∧ ixf (fun x : Packet => decide (x.seq ≤ ack)) l = (k : Int) := by
    unfold ixf at hc ⊢
    cases h : l.findIdx? (fun x : Packet => decide (x.seq ≤ ack)) with
    | none => simp [h] at hc
    | some n =>
      rw [List.findIdx?_eq_some_iff_getElem] at h
      obtain ⟨h1, h2, h3⟩ := h
      refine ⟨n, l[n], List.getElem?_eq_getElem h1, h2, fun y hy => ?_, rfl⟩
      obtain ⟨j, hj⟩ := List.mem_iff_getElem?.1 hy
      rw [List.getElem?_take] at hj
      split at hj
      · rename_i hjn
        obtain ⟨h4, h5⟩ := List.getElem?_eq_some_iff.1 hj
        have := h3 j hjn
        rw [h5] at this
        simpa using this
      · cases hj
  rw [hk] at hc
  simp only [hk]
  have hkl := (List.getElem?_eq_some_iff.1 hx).1
  refine Z4s ?_
  refine Z4n ?_
  refine aw_loop (G := DelSt) (DelOk l fun y => !decide (y.seq ≤ ack)) (fun s => [(0, .sl id g 0 l.length l.length), (1, .fn (.func 51) [] [.pt ia 0 0 0]), (5, .int .i64 (s.i : Int)), (6, .int .i64 (s.j : Int))]) (fun s => H.set id ⟨g, 4, s.rows.map ePacket⟩ ++ []) (fun s => l.length - s.j) ⟨l, k + 1, k⟩ (DelOk.start hx (by simpa using hp) hno) (by repeat (first | exact Sub.nil | refine Sub.cons (by first | rfl | (simp [get]; done)) ?_)) (by rw [set_id hid]; exact Fit.refl _ _) ?_
  intro s hs
  have ⟨h1, h2, h3, h4, h5⟩ := hs
  have hF : (H.set id ⟨g, 4, s.rows.map ePacket⟩)[id]? = some ⟨g, 4, s.rows.map ePacket⟩ := List.getElem?_set_self hlt
  have hF1 : (H.set id ⟨g, 4, s.rows.map ePacket⟩)[ia]? = some ⟨0, 1, [[.int .i64 ack]]⟩ := by rw [List.getElem?_set_ne hne]; exact ha
  refine Z49 ?_
  refine Z1k ?_
  refine Z27 ?_
  refine Z3y ?_
  refine aw_cond rfl (fun hc => ?_) (fun hc => ?_)
  · have hlt2 : s.j < l.length := by simp at hc; omega
    obtain ⟨y, hy, hyl⟩ := get_in hlt2
    have hr := map_get ePacket (hs.get hy)
    obtain ⟨z, hz⟩ : ∃ z, s.rows[s.i]? = some z := get_of_lt (by omega)
    refine Z58 ?_
    refine Z5b ?_
    refine Z5c ?_
    refine Z3z ?_
    refine Z40 ?_
    refine Z3 ?_
    refine Z3r ?_
    refine Z21 ?_
    refine Z1b ?_
    refine ao_retv (pipe_Come_1 y ack ia _ (lkF hF1)) rfl rfl (by decide) ?_
    refine Z4h ?_
    refine aw_cond rfl (fun hc => ?_) (fun hc => ?_)
    · refine Z58 ?_
      refine Z1b ?_
      refine Z5b ?_
      refine ao2 (by rintro _ ⟨⟩) (w_storeFP (sz := 4) (v := .agg (ePacket y)) (r' := ePacket y) rfl hF rfl (zadd (map_get ePacket hz)) rfl rfl rfl (Nat.le_of_ble_eq_true rfl) rfl) ?_
      refine Z3 ?_
      refine Z4s ?_
      refine Z1y ?_
      refine Z4t ?_
      rw [List.set_set, Nat.zero_add, ← List.map_set]
      exact ⟨_, by simp only; omega, hs.keep hy hc, (by repeat (first | exact Sub.nil | refine Sub.cons (by first | rfl | (simp [get]; done)) ?_)), Fit.locF hB (by simp) (by repeat (first | exact EBel.nil | refine EBel.cons (by first | rfl | (simp [AV.bel, AV.bels, Lid]; done) | (simp [AV.bel, AV.bels, Lid]; omega)) ?_)) (hB.heap.set _ _ (packets_bel _ _))⟩
    · refine Z4t ?_
      exact ⟨_, by simp only; omega, hs.drop hy hc, (by repeat (first | exact Sub.nil | refine Sub.cons (by first | rfl | (simp [get]; done)) ?_)), Fit.locF hB (by simp) (by repeat (first | exact EBel.nil | refine EBel.cons (by first | rfl | (simp [AV.bel, AV.bels, Lid]; done) | (simp [AV.bel, AV.bels, Lid]; omega)) ?_)) (hB.heap.set _ _ (packets_bel _ _))⟩
  · have hj : s.j = l.length := by simp at hc; omega
    obtain ⟨e1, e2⟩ := hs.fin hj
    refine Z58 ?_
    refine ao1 (by decide) (w_slices rfl (lkF hF) rfl rfl (.some rfl rfl) .none (by omega) (by omega)) ?_
    refine ao2 (by rintro _ ⟨⟩) (w_clearF rfl hF rfl rfl rfl) ?_
    refine Z3 ?_
    have hF2 : (H.set id ⟨g, 4, (l.filter fun y => !decide (y.seq ≤ ack)).map ePacket⟩)[id]? = some ⟨g, 4, (l.filter fun y => !decide (y.seq ≤ ack)).map ePacket⟩ := List.getElem?_set_self hlt
    rw [Nat.zero_add, ← List.map_take, e1, List.set_set]
    refine Z58 ?_
    refine ao1 (by decide) (w_slices rfl (lkF hF2) rfl rfl .none (.some rfl rfl) (by omega) (by omega)) ?_
    refine Z1h ?_
    refine Z3w ?_
    rw [← e2]
    exact e_doneF hB (r_tmp rfl .nil) rfl (by simpa [AV.bel] using hlt) (by simp) (hB.heap.set _ _ (packets_bel _ _))
end Go.Av

