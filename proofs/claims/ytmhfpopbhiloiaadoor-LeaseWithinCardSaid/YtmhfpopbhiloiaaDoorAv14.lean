/-
  WHAT IS MADE, AND NEVER WRITTEN AGAIN, IS A LIST AT ONCE.
-/
import Derived.Test.YtmhfpopbhiloiaaDoorAv13
import Derived.Laws.Strings
import Derived.Lib.SlBytesConst
namespace Go.Av

theorem str_eq (p q : ByteArray) : (p.toList == q.toList) = decide (p = q) := by
  rw [ByteArray.toList_eq, ByteArray.toList_eq, Bool.eq_iff_iff]
  simp
  constructor
  · intro h; cases p; cases q; simp_all
  · rintro rfl; rfl
theorem bytes_eq (p q : List UInt8) : decide ((⟨p.toArray⟩ : ByteArray) = ⟨q.toArray⟩) = decide (p = q) := by simp
theorem o_seqd {P : Program} {N : Nat} {env : Env} {H : Heap} {ty : TypeId} {x y : Operand} {t t' : TypeId} {p q : ByteArray} (hx : aev env x = .str p) (hy : aev env y = .str q) : V1 P N (.binOp .eql t x y t') ty env H (.bool (decide (p = q))) := str_eq p q ▸ o_seq hx hy
theorem o_sned {P : Program} {N : Nat} {env : Env} {H : Heap} {ty : TypeId} {x y : Operand} {t t' : TypeId} {p q : ByteArray} (hx : aev env x = .str p) (hy : aev env y = .str q) : V1 P N (.binOp .neq t x y t') ty env H (.bool (!decide (p = q))) := str_eq p q ▸ o_sne hx hy
theorem zadd {α : Type} {xs : List α} {k : Nat} {r : α} (h : xs[k]? = some r) : xs[0 + k]? = some r := by rw [Nat.zero_add]; exact h
/-- A slice with nothing in it, and no room, is an empty list. -/
def AV.up1 : AV → AV
  | .nsl => .pl []
  | v => v
def AV.up : AV → AV
  | .nsl => .pl []
  | .agg cs => .agg (cs.map AV.up1)
  | v => v
theorem VR.up1 {O : Nat → Prop} {w : World} {S : List Slot} {v : AV} {u : Value} (h : VR O w S v u) : VR O w S v.up1 u := by
  cases h with
  | nsl => exact .pl (xs := []) default 0 (fun _ _ => undef) (Nat.zero_le _) (fun h => absurd rfl h) (fun _ _ h => by simp at h) (fun _ h => by simp at h) (fun _ _ _ _ h => by simp at h) (fun _ _ _ _ h => by simp at h)
  | sl s hs hg h1 h => exact .sl s hs hg h1 h
  | pt s hs hg h1 h => exact .pt s hs hg h1 h
  | pl base sz u hc hb hs hm hl hv => exact .pl base sz u hc hb hs hm hl hv
  | pp base sz u hb hs hm hl hv => exact .pp base sz u hb hs hm hl hv
  | agg hn hl h => exact .agg hn hl h
  | tup hn h => exact .tup hn h
  | fn hp hq h1 h2 => exact .fn hp hq h1 h2
  | ifc h => exact .ifc h
  | know h1 h2 h3 => exact .know h1 h2 h3
  | _ => constructor
theorem AV.up1_leaf (v : AV) : v.up1.leaf = v.leaf := by cases v <;> rfl
theorem VR.up {O : Nat → Prop} {w : World} {S : List Slot} {v : AV} {u : Value} (h : VR O w S v u) : VR O w S v.up u := by
  cases h with
  | @agg _ cs vs hn hl h =>
    refine .agg (by simpa using hn) (fun j v hv => ?_) (fun j v u hv hu => ?_)
    · rw [List.getElem?_map] at hv
      cases hc : cs[j]? with
      | none => simp [hc] at hv
      | some c => simp [hc] at hv; subst hv; rw [AV.up1_leaf]; exact hl j c hc
    · rw [List.getElem?_map] at hv
      cases hc : cs[j]? with
      | none => simp [hc] at hv
      | some c => simp [hc] at hv; subst hv; exact (h j c u hc hu).up1
  | nsl => exact VR.nsl.up1
  | sl s hs hg h1 h => exact .sl s hs hg h1 h
  | pt s hs hg h1 h => exact .pt s hs hg h1 h
  | pl base sz u hc hb hs hm hl hv => exact .pl base sz u hc hb hs hm hl hv
  | pp base sz u hb hs hm hl hv => exact .pp base sz u hb hs hm hl hv
  | tup hn h => exact .tup hn h
  | fn hp hq h1 h2 => exact .fn hp hq h1 h2
  | ifc h => exact .ifc h
  | know h1 h2 h3 => exact .know h1 h2 h3
  | _ => constructor
def AObj.up (o : AObj) : AObj := { o with rows := o.rows.map (·.map AV.up1) }
theorem HRel.up {H : Heap} {S : List Slot} {w : World} (h : HRel H S w) {id : Nat} {o : AObj} (hid : H[id]? = some o) : HRel (H.set id o.up) S w := by
  refine ⟨by simpa using h.len, fun id' o' s' ho' hs' => ?_, h.inj⟩
  by_cases e : id = id'
  · subst e
    rw [List.getElem?_set_self (List.getElem?_eq_some_iff.1 hid).1] at ho'
    obtain rfl := Option.some.inj ho'
    have ok := h.obj id o s' hid hs'
    refine ⟨ok.gen, ok.sz, ok.pos, fun hn => by simp [AObj.up, ok.nope hn], fun b hb => ?_⟩
    obtain ⟨arr, ty, h1, h2, h3⟩ := ok.lies b hb
    refine ⟨arr, ty, h1, by simpa [AObj.up] using h2, fun i r hr => ?_⟩
    simp only [AObj.up, List.getElem?_map] at hr
    cases hc : o.rows[i]? with
    | none => simp [hc] at hr
    | some r0 =>
      simp [hc] at hr
      subst hr
      obtain ⟨k1, k2⟩ := h3 i r0 hc
      refine ⟨by simpa [AObj.up] using k1, fun j v hv => ?_⟩
      rw [List.getElem?_map] at hv
      cases hc2 : r0[j]? with
      | none => simp [hc2] at hv
      | some c =>
        simp [hc2] at hv
        subst hv
        obtain ⟨k3, u, k4, k5⟩ := k2 j c hc2
        exact ⟨by rw [AV.up1_leaf]; exact k3, u, k4, k5.up1⟩
  · rw [List.getElem?_set_ne e] at ho'
    exact h.obj id' o' s' ho' hs'
theorem aw_upL {P : Program} {N : Nat} {B : Base} {Q : Post} {env : Env} {H0 L : Heap} {c : Code} (k : Nat) {o : AObj} (hk : L[k]? = some o) (h : AWp P N B c Q env (H0 ++ L.set k o.up)) : AWp P N B c Q env (H0 ++ L) := fun S a w hc hb =>
  h S a w ⟨by have := hc.heap.up (lk (H0 := H0) rfl hk); rwa [st rfl] at this, hc.env, hc.size, hc.defers⟩ hb
theorem aw_up {P : Program} {N : Nat} {B : Base} {Q : Post} {env : Env} {H : Heap} {c : Code} (t : Nat) {v : AV} (ht : get env t = v) (h : AWp P N B c Q ((t, v.up) :: env) H) : AWp P N B c Q env H := fun S a w hc hb =>
  h S a w ⟨hc.heap, fun t' => by
    by_cases e : t = t'
    · subst e; rw [get_put_same, ← ht]; exact (hc.env t).up
    · rw [get_put_other _ _ e]; exact hc.env t', hc.size, hc.defers⟩ hb
theorem V1.up {P : Program} {N : Nat} {op : Op} {ty : TypeId} {env : Env} {H : Heap} {v : AV} (h : V1 P N op ty env H v) : V1 P N op ty env H v.up := fun S a w hc =>
  let ⟨u, h1, h2⟩ := h S a w hc
  ⟨u, h1, h2.up⟩

theorem fill_arr {S : List Slot} {w : World} (n sz : Nat) : ∀ (parts : List (Nat × AV)) (us : List (Nat × Value)) (cs cs' : List AV) (vs : Array Value),
    parts.length = us.length → (∀ (j : Nat) (x : Nat × AV) (y : Nat × Value), parts[j]? = some x → us[j]? = some y → x.1 = y.1 ∧ VR (own S) w S x.2 y.2) → CellsR S w cs vs → afill ((List.range n).map fun i => (i * sz, sz)) cs parts = some cs' →
    ∃ vs', Instr.fill (fun i => some (i * sz, sz)) vs us = some vs' ∧ CellsR S w cs' vs' := by
  intro parts
  induction parts with
  | nil =>
    intro us cs cs' vs hl _ h he
    cases us with
    | nil => simp [afill] at he; subst he; exact ⟨vs, rfl, h⟩
    | cons y us => simp at hl
  | cons x parts ih =>
    intro us cs cs' vs hl hr h he
    cases us with
    | nil => simp at hl
    | cons y us =>
      obtain ⟨i, v⟩ := x
      obtain ⟨i', u⟩ := y
      obtain ⟨hi, hv⟩ := hr 0 _ _ rfl rfl
      simp only at hi hv
      subst hi
      unfold afill at he
      cases hpl : ((List.range n).map fun i => (i * sz, sz))[i]? with
      | none => rw [hpl] at he; cases he
      | some x =>
        have hx : x = (i * sz, sz) := by
          rw [List.getElem?_map] at hpl
          cases hi : (List.range n)[i]? with
          | none => simp [hi] at hpl
          | some k =>
            have hk : k = i := by
              have := List.getElem?_eq_some_iff.1 hi
              obtain ⟨hlt, e⟩ := this
              simpa using e.symm
            rw [hi] at hpl
            subst hk
            exact (Option.some.inj hpl).symm
        subst hx
        rw [hpl] at he
        simp only at he
        split at he
        · rename_i hcnd
          obtain ⟨c1, c2, c3⟩ := hcnd
          obtain ⟨k1, _, k3⟩ := hv.cells c3
          have hput := h.put ⟨k1, k3⟩ (off := i * sz) (by omega)
          rw [c1] at hput
          obtain ⟨vs', e1, e2⟩ := ih us _ cs' _ (by simpa using hl) (fun j x y hx hy => hr (j + 1) x y hx hy) hput he
          refine ⟨vs', ?_, e2⟩
          have hif : (decide (u.cells.size ≠ sz) || decide (i * sz + u.cells.size > vs.size)) = false := by
            have := h.1
            simp
            omega
          unfold Instr.fill
          simp only [hif, Bool.false_eq_true, if_false]
          exact e1
        · cases he
theorem o_buildArr {P : Program} {N : Nat} {env : Env} {H : Heap} {ty t e : TypeId} {n sz : Nat} {agg : Bool} {parts : Array (Nat × Operand)} {zs cs : List AV} [hz : ZcI P t zs] [ha : ArI P t n e] [TyI P e agg sz] (hf : afill ((List.range n).map fun i => (i * sz, sz)) zs (parts.toList.map fun (i, x) => (i, aev env x)) = some cs) :
    V1 P N (.build t parts) ty env H (.agg cs) := by
  intro S a w hc
  obtain ⟨z, hz1, hz2⟩ := run_zc (P := P) (t := t) S w
  obtain ⟨h1, h2⟩ := parts_ok hc parts
  obtain ⟨vs', e1, e2⟩ := fill_arr (S := S) (w := w) n sz _ _ zs cs z.cells h1 h2 hz2 hf
  refine ⟨.agg vs', fun _ _ _ _ => ?_, e2.agg⟩
  simp only [execOp, Instr.build, Sem.run_bind, hz1, Result.andThen_ok, run_und ha.ud, run_sz (P := P) (t := e) (agg := agg) (sz := sz), e1, Sem.run_pure]


/-- A constant text's bytes: they are read, and never written. -/
theorem ao_litb {P : Program} {N : Nat} {B : Base} {Q : Post} {env : Env} {H : Heap} {ops : Array Oper} {rest : List Oper} {t e : TypeId} {n d1 d2 : Nat} {parts : Array (Nat × Operand)} {ty1 ty2 : TypeId} {pos1 pos2 : String} {after1 after2 : Array Edge} {zs cs : List AV} (bs : List UInt8)
    [hu : SlI P t e] [hue : UdI P e (.int .u8)] [TyI P e false 1] [hz : ZcI P e zs] (hn : zs.length = 1) (h0 : 0 < n) (hbig : n ≤ 16777216)
    (hf : afill ((List.range n).map fun i => (i * 1, 1)) (List.replicate n zs).flatten (parts.toList.map fun (i, x) => (i, aev env x)) = some cs) (hcs : cs = bs.map fun b => .int .u8 (b.toNat : Int)) (hd1 : d1 < N) (hd2 : d2 < N)
    (h : AOps P N B ops rest Q ((d2, .pl (bs.map brow)) :: (d1, .junk) :: env) H) :
    AOps P N B ops (⟨some d1, .buildSlice t n parts, ty1, pos1, after1, none⟩ :: ⟨some d2, .convert t t (.tmp d1), ty2, pos2, after2, none⟩ :: rest) Q env H := by
  intro S a w hc hb
  obtain ⟨z, hz1, hz2⟩ := run_zc (P := P) (t := e) S w
  obtain ⟨h1, h2⟩ := parts_ok hc parts
  have hrep := hz2.rep (by omega) n
  rw [hn] at hrep
  obtain ⟨vs', e1, e2⟩ := fill_arr (S := S) (w := w) n 1 _ _ (List.replicate n zs).flatten cs _ h1 h2 hrep hf
  have hlen : cs.length = vs'.size := e2.1
  have hcl : cs.length = n := by
    have hfl : ∀ (parts : List (Nat × AV)) (cs cs' : List AV), afill ((List.range n).map fun i => (i * 1, 1)) cs parts = some cs' → cs'.length = cs.length := by
      intro parts
      induction parts with
      | nil => intro cs cs' he; simp [afill] at he; rw [he]
      | cons x parts ih =>
        intro cs cs' he
        obtain ⟨i, v⟩ := x
        unfold afill at he
        split at he
        · cases he
        · split at he
          · rename_i hcnd
            have := ih _ _ he
            rw [this]
            simp
            omega
          · cases he
    have := hfl _ _ _ hf
    have h3 : ((List.replicate n zs).flatten).length = n := by simp [hn]
    rw [this, h3]
  have hbl : bs.length = n := by rw [← hcl, hcs]; simp
  have hr1 : ∀ pos after, (execOp a.eval ⟨some d1, .buildSlice t n parts, ty1, pos, after, none⟩).run P w = .ok (.value (.slice (some ⟨w.heap.size, 0, none⟩) n n)) (w.alloc (.cells vs' e)) := by
    intro pos after
    have hne : ¬ (n * 1 = 0) := by omega
    have hnb : ¬ (n * 1 > 2 ^ 24) := by omega
    simp only [execOp, Instr.buildSlice, Sem.run_bind, run_und hu.ud, Result.andThen_ok, run_sz (P := P) (t := e) (agg := false) (sz := 1), hnb, hne, if_false, hz1, Sem.run_pure, e1]
    simp [newRow]
  refine wpList_plain rfl fun next hnext => ?_
  unfold Oper.wp
  rw [hr1]
  refine hnext _ _ ?_
  refine wpList_plain rfl fun next2 hnext2 => ?_
  have hev : (a.put (some d1) (.slice (some ⟨w.heap.size, 0, none⟩) n n)).eval (.tmp d1) = .slice (some ⟨w.heap.size, 0, none⟩) n n := by
    simp [Act.eval, Act.put, hc.size, hd1]
  have hr2 : (execOp (a.put (some d1) (.slice (some ⟨w.heap.size, 0, none⟩) n n)).eval ⟨some d2, .convert t t (.tmp d1), ty2, pos2, after2, none⟩).run P (w.alloc (.cells vs' e)) = .ok (.value (.slice (some ⟨w.heap.size, 0, none⟩) n n)) (w.alloc (.cells vs' e (vs'.size, vs'.size + 1))) := by
    have := Lib.run_convert_bytes_const (P := P) w t e vs' n n hu.ud hue.ud
    simp only [execOp, hev, Sem.run_bind, this, Result.andThen_ok, Sem.run_pure]
  unfold Oper.wp
  rw [hr2]
  refine hnext2 _ _ ?_
  have hold : ∀ b, b < w.heap.size → (w.alloc (.cells vs' e (vs'.size, vs'.size + 1))).heap[b]? = w.heap[b]? := fun b hb => heap_alloc_old w _ b hb
  have hx : Ext S w S (w.alloc (.cells vs' e (vs'.size, vs'.size + 1))) := ⟨rfl, rfl, rfl, ⟨by simp, fun b hb ho => ⟨ho, hold b hb⟩, fun b arr ty hb' => ⟨arr, by rw [hold b (Array.getElem?_eq_some_iff.1 hb').1]; exact hb', rfl⟩⟩, SExt.refl S⟩
  have hh := same_heap hc.heap hx hold
  have c1 := hc.put (d := some d1) (v := .junk) (u := .slice (some ⟨w.heap.size, 0, none⟩) n n) hx hh (by rintro _ ⟨⟩; exact hd1) .junk
  have hv : VR (own S) (w.alloc (.cells vs' e (vs'.size, vs'.size + 1))) S (.pl (bs.map brow)) (.slice (some ⟨w.heap.size, 0, none⟩) n n) := by
    have key : ∀ i (hi : i < bs.length), vs'[i]? = some (.int .u8 (bs[i].toNat : Int)) := by
      intro i hi
      have h3 : cs[i]? = some (.int .u8 (bs[i].toNat : Int)) := by rw [hcs, List.getElem?_map, List.getElem?_eq_getElem hi]; rfl
      obtain ⟨_, u, h4, h5⟩ := e2.2 i _ h3
      cases h5
      exact h4
    have hl2 : (bs.map brow).length = n := by simp [hbl]
    rw [← hl2]
    refine .pl ⟨w.heap.size, 0, none⟩ 1 (fun i _ => vs'.getD i undef) (Nat.le_refl _) (fun _ => ⟨rfl, fun ho => absurd (own_lt hc.heap ho) (Nat.lt_irrefl _), by simp⟩) (fun i r hr => ?_) (fun i hi j hj => ?_) (fun i j r v hr hv => ?_) (fun i j r v hr hv => ?_)
    · rw [List.getElem?_map] at hr
      cases hq : bs[i]? with
      | none => simp [hq] at hr
      | some b => simp [hq] at hr; subst hr; rfl
    · obtain rfl : j = 0 := by omega
      have hi' : i < bs.length := by simpa using hi
      have hk := key i hi'
      rw [Nat.mul_one, Nat.add_zero, add_none, Nat.zero_add]
      simp only [World.cell?, World.alloc, Array.getElem?_push, if_true, hk]
      simp [hk]
    · rw [List.getElem?_map] at hr
      cases hq : bs[i]? with
      | none => simp [hq] at hr
      | some b =>
        simp [hq] at hr; subst hr
        cases j with
        | zero => simp [brow] at hv; subst hv; rfl
        | succ j => simp [brow] at hv
    · rw [List.getElem?_map] at hr
      cases hq : bs[i]? with
      | none => simp [hq] at hr
      | some b =>
        simp [hq] at hr; subst hr
        cases j with
        | zero =>
          simp [brow] at hv; subst hv
          obtain ⟨hi, rfl⟩ := List.getElem?_eq_some_iff.1 hq
          simp only [Array.getD_eq_getD_getElem?, key i hi, Option.getD_some]
          exact .int
        | succ j => simp [brow] at hv
  have c2 := c1.put (Ext.refl S _) hh (d := some d2) (by rintro _ ⟨⟩; exact hd2) hv
  exact h S _ _ c2 (hb.trans hx)

theorem vfreeze {H : Heap} {S S' : List Slot} {w w' : World} {o : AObj} {off len cap : Nat} {ys : List (List AV)} {u : Value} (h0 : HRel H S w) (hx : Ext S w S' w') (hh : HRel (H ++ [o]) S' w')
    (hv : VR (own S') w' S' (.sl H.length o.gen off len cap) u) (hys : (o.rows.drop off).take len = ys) (hlen : ys.length = len) (hp : ∀ r ∈ ys, AV.bels 0 r = true) :
    ∃ S'', HRel H S'' w' ∧ Ext S w S'' w' ∧ VR (own S'') w' S'' (.pl ys) u := by
  let a : Act := { tmps := #[u], defers := [] }
  have hc : CR 1 [(0, .sl H.length o.gen off len cap)] (H ++ [o]) S' a w' := ⟨hh, fun t => by
    cases t with
    | zero => exact hv
    | succ t => exact .junk, rfl, rfl⟩
  obtain ⟨S2, h2, x2⟩ := hc.freeze (B := ⟨S, w⟩) (t := 0) (id := H.length) (cap := cap) (o := o) hx rfl (by simp) hys hlen hp
  have h3 := h2.sub (E := [(0, .pl ys)]) (Sub.cons rfl Sub.nil)
  rw [List.set_append_right _ _ (Nat.le_refl _)] at h3
  simp only [Nat.sub_self, List.set_cons_zero] at h3
  have hb : (AV.pl ys).bel H.length = true := by
    exact rfl
  obtain ⟨S4, h4, x4⟩ := h3.fit (B := ⟨S, w⟩) (M := H) x2 (.inr ⟨[⟨o.gen + 1, o.sz, []⟩], rfl, by rw [h0.len]; exact Nat.le_refl _, EBel.cons hb EBel.nil, h0.bel⟩)
  exact ⟨S4, h4.heap, x4, h4.env 0⟩

theorem vbump {H : Heap} {S S' : List Slot} {w w' : World} {id len cap m : Nat} (hm : m ≤ max cap len) {o : AObj} {u : Value} (hx : Ext S w S' w') (hh : HRel H S' w') (hid : H[id]? = some o)
    (hv : VR (own S') w' S' (.sl id o.gen 0 len cap) u) :
    ∃ S'', HRel (H.set id ⟨o.gen + 1, o.sz, o.rows.take len⟩) S'' w' ∧ Ext S w S'' w' ∧ VR (own S'') w' S'' (.sl id (o.gen + 1) 0 len m) u := by
  obtain ⟨s, hs, ok⟩ := hh.slot hid
  have hlt : id < S'.length := (List.getElem?_eq_some_iff.1 hs).1
  have hltH : id < H.length := (List.getElem?_eq_some_iff.1 hid).1
  have hown : ∀ b, own (S'.set id ⟨s.gen + 1, s.sz, s.place⟩) b ↔ own S' b := by
    intro b
    constructor
    · rintro ⟨i, si, hi, hpi⟩
      by_cases e : id = i
      · subst e
        rw [List.getElem?_set_self hlt] at hi
        obtain rfl := Option.some.inj hi
        exact ⟨id, s, hs, hpi⟩
      · rw [List.getElem?_set_ne e] at hi
        exact ⟨i, si, hi, hpi⟩
    · rintro ⟨i, si, hi, hpi⟩
      by_cases e : id = i
      · subst e
        rw [hs] at hi
        obtain rfl := Option.some.inj hi
        exact ⟨id, _, List.getElem?_set_self hlt, hpi⟩
      · exact ⟨i, si, by rw [List.getElem?_set_ne e]; exact hi, hpi⟩
  have hx2 : Ext S' w' (S'.set id ⟨s.gen + 1, s.sz, s.place⟩) w' := ⟨rfl, rfl, rfl, ⟨Nat.le_refl _, fun b _ ho => ⟨fun k => ho ((hown b).1 k), rfl⟩, fun _ arr _ h => ⟨arr, h, rfl⟩⟩, SExt.bump hs (by simp)⟩
  have hh2 : HRel (H.set id ⟨o.gen + 1, o.sz, o.rows.take len⟩) (S'.set id ⟨s.gen + 1, s.sz, s.place⟩) w' := by
    refine ⟨by simpa using hh.len, fun id' o' s' ho' hs' => ?_, fun i j si sj b hi hj hbi hbj => ?_⟩
    · by_cases e : id = id'
      · subst e
        rw [List.getElem?_set_self hlt] at hs'
        rw [List.getElem?_set_self hltH] at ho'
        obtain rfl := Option.some.inj hs'
        obtain rfl := Option.some.inj ho'
        refine ⟨by simp [ok.gen], ok.sz, ok.pos, fun hn => by simp [ok.nope hn], fun b hb => ?_⟩
        obtain ⟨arr, ty', h1, h2⟩ := ok.row hb
        have h2' := h2.mono hx2.stp hx2.slots
        refine ⟨arr, ty', h1, Nat.le_trans (Nat.mul_le_mul_right _ (by simp; omega)) h2'.1, fun i r hr => h2'.2 i r ?_⟩
        rw [List.getElem?_take] at hr
        split at hr
        · exact hr
        · cases hr
      · rw [List.getElem?_set_ne e] at ho' hs'
        have ok' := hh.obj id' o' s' ho' hs'
        refine ⟨ok'.gen, ok'.sz, ok'.pos, ok'.nope, fun b hb => ?_⟩
        obtain ⟨arr, ty', h1, h2⟩ := ok'.row hb
        exact ⟨arr, ty', h1, (h2.mono hx2.stp hx2.slots).1, (h2.mono hx2.stp hx2.slots).2⟩
    · have key : ∀ {i : Nat} {si : Slot}, (S'.set id ⟨s.gen + 1, s.sz, s.place⟩)[i]? = some si → ∃ ti : Slot, S'[i]? = some ti ∧ ti.place = si.place := by
        intro i si h
        by_cases e : id = i
        · subst e
          rw [List.getElem?_set_self hlt] at h
          obtain rfl := Option.some.inj h
          exact ⟨s, hs, rfl⟩
        · rw [List.getElem?_set_ne e] at h
          exact ⟨si, h, rfl⟩
      obtain ⟨ti, hti, hpi⟩ := key hi
      obtain ⟨tj, htj, hpj⟩ := key hj
      exact hh.inj i j ti tj b hti htj (hpi.trans hbi) (hpj.trans hbj)
  refine ⟨_, hh2, hx.trans hx2, ?_⟩
  cases hv with
  | sl s' hs' hg h1 hsl =>
    rw [hs] at hs'
    obtain rfl := Option.some.inj hs'
    refine .sl ⟨s.gen + 1, s.sz, s.place⟩ (List.getElem?_set_self hlt) (by simp [ok.gen]) h1 fun _ => ?_
    obtain ⟨c, hc1, hc2, hsl⟩ := hsl ok.gen.symm
    exact ⟨c, by omega, hc2, hsl⟩

theorem VRs.up {O : Nat → Prop} {w : World} {S : List Slot} {vs : List AV} {us : Array Value} (h : VRs O w S vs us) : VRs O w S (vs.map AV.up) us := by
  refine ⟨by simpa using h.1, fun i v u hv hu => ?_⟩
  rw [List.getElem?_map] at hv
  cases hc : vs[i]? with
  | none => simp [hc] at hv
  | some c => simp [hc] at hv; subst hv; exact (h.2 i c u hc hu).up
theorem AC.up {P : Program} {f : FuncId} {vs us : List AV} {H : Heap} {R : AOut → Heap → Prop} (h : AC P f us H R) (hvs : vs.map AV.up = us) : AC P f vs H R := fun S w cargs hH hv => h S w cargs hH (hvs ▸ hv.up)

section
variable {P : Program} {N : Nat} {B : Base} {env : Env} {H H0 L : Heap} {op : Op} {ty : TypeId}
theorem V2.freeze {o : AObj} {g off len cap : Nat} {ys : List (List AV)} (h : V2 P N op ty env H (.sl H.length g off len cap) (H ++ [o])) (hg : o.gen = g) (hys : (o.rows.drop off).take len = ys) (hlen : ys.length = len) (hp : ∀ r ∈ ys, AV.bels 0 r = true) :
    V2 P N op ty env H (.pl ys) H := by
  subst hg
  intro dst pos after guard S a w hc next Q hn hq
  refine h dst pos after guard S a w hc next Q ?_ (fun _ _ _ _ _ hf => hf.elim)
  rintro v u H' S' w' ⟨rfl, rfl⟩ hh hx hv
  obtain ⟨S2, h2, x2, v2⟩ := vfreeze hc.heap hx hh hv hys hlen hp
  exact hn _ _ _ S2 w' ⟨rfl, rfl⟩ h2 x2 v2
theorem V2.freeze1 {o : AObj} {g len cap : Nat} (h : V2 P N op ty env H (.sl H.length g 0 len cap) (H ++ [o])) (hg : o.gen = g) (hlen : o.rows.length = len) (hp : ∀ r ∈ o.rows, AV.bels 0 r = true) :
    V2 P N op ty env H (.pl o.rows) H := h.freeze hg (by rw [List.drop_zero, ← hlen, List.take_length]) hlen hp
theorem V2.freezeL {o : AObj} {g k len cap : Nat} (h : V2 P N op ty env (H0 ++ L) (.sl (Lid H0.length k) g 0 len cap) (H0 ++ (L ++ [o]))) (hk : L.length = k) (hg : o.gen = g) (hlen : o.rows.length = len) (hp : ∀ r ∈ o.rows, AV.bels 0 r = true) :
    V2 P N op ty env (H0 ++ L) (.pl o.rows) (H0 ++ L) := by
  rw [← Lid_app hk, ← List.append_assoc] at h
  exact V2.freeze1 (g := g) (len := len) (cap := cap) (by simpa [Lid] using h) hg hlen hp
/-- A nil slice, or one with no room, is an empty list. -/
theorem V2.nslpl (h : V2 P N op ty env H .nsl H) : V2 P N op ty env H (.pl []) H := by
  intro dst pos after guard S a w hc next Q hn hq
  refine h dst pos after guard S a w hc next Q ?_ (fun _ _ _ _ _ hf => hf.elim)
  rintro v u H' S' w' ⟨rfl, rfl⟩ hh hx hv
  refine hn _ _ _ S' w' ⟨rfl, rfl⟩ hh hx ?_
  cases hv with
  | @nsl _ ad => exact .pl (xs := []) default 0 (fun _ _ => undef) (Nat.zero_le _) (fun h => absurd rfl h) (fun _ _ h => by simp at h) (fun _ h => by simp at h) (fun _ _ _ _ h => by simp at h) (fun _ _ _ _ h => by simp at h)

theorem V2.ghost (h : V2 P N op ty env H .nsl H) (sz : Nat) (hp : 0 < sz) : V2 P N op ty env H (.sl H.length 0 0 0 0) (H ++ [⟨0, sz, []⟩]) := by
  intro dst pos after guard S a w hc next Q hn hq
  refine h dst pos after guard S a w hc next Q ?_ (fun _ _ _ _ _ hf => hf.elim)
  rintro v u H' S' w' ⟨rfl, rfl⟩ hh hx hv
  have hc1 : CR 1 [(0, .nsl)] H' S' { tmps := #[u], defers := [] } w' := ⟨hh, fun t => by
    cases t with
    | zero => exact hv
    | succ t => exact .junk, rfl, rfl⟩
  obtain ⟨S2, h2, x2⟩ := hc1.ghost (B := ⟨S, w⟩) (t := 0) hx rfl hp
  exact hn _ _ _ S2 w' ⟨rfl, rfl⟩ h2.heap x2 (h2.env 0)
theorem V2.bump {id len cap m : Nat} {o : AObj} (hm : m ≤ max cap len) (h : V2 P N op ty env H (.sl id o.gen 0 len cap) H) (hid : H[id]? = some o) : V2 P N op ty env H (.sl id (o.gen + 1) 0 len m) (H.set id ⟨o.gen + 1, o.sz, o.rows.take len⟩) := by
  intro dst pos after guard S a w hc next Q hn hq
  refine h dst pos after guard S a w hc next Q ?_ (fun _ _ _ _ _ hf => hf.elim)
  rintro v u H' S' w' ⟨rfl, rfl⟩ hh hx hv
  obtain ⟨S2, h2, x2, v2⟩ := vbump hm hx hh hid hv
  exact hn _ _ _ S2 w' ⟨rfl, rfl⟩ h2 x2 v2

/-- Append to a slice with nothing in it, and no room: a row of the call's own, whatever comes. -/
theorem g_append_nsl {t t' e : TypeId} {x y : Operand} {sz bytes k : Nat} {agg : Bool} {zs : List AV} {ys : List (List AV)} [hu : SlI P t e] [NiI P t'] [TyI P e agg sz] [hz : ZcI P e zs] [ByI P e bytes]
    (hx : aev env x = .nsl) (hy : Src P N env (H0 ++ L) y sz ys) (hn : zs.length = sz) (hp : 0 < sz) (h63 : ys.length ≤ 9223372036854775807) (hb : ys.length * bytes ≤ 140737488355328) (hk : L.length = k) :
    V2 P N (.call { callee := .builtin .append, args := #[x, y], argTypes := #[t, t'] }) ty env (H0 ++ L) (.sl (Lid H0.length k) 0 0 ys.length ys.length) (H0 ++ (L ++ [⟨0, sz, ys⟩])) := by
  rcases Nat.eq_zero_or_pos ys.length with h0 | h0
  · have : ys = [] := List.eq_nil_of_length_eq_zero h0
    subst this
    have := (o_append_nsl0 (P := P) (N := N) (env := env) (H := H0 ++ L) (ty := ty) (t := t) (t' := t') (e := e) (agg := agg) (sz := sz) hx hy).ghost sz hp
    rw [List.length_append, hk, List.append_assoc] at this
    exact this
  · exact o_append_nslL (agg := agg) (e := e) (zs := zs) hn hp hx hy h0 h63 hb hk
/-- Append to a row of the call's own, whatever comes. -/
theorem g_append {t t' e : TypeId} {x y : Operand} {n k g len cap sz bytes : Nat} {agg : Bool} {zs : List AV} {o : AObj} {ys : List (List AV)} [hu : SlI P t e] [NiI P t'] [TyI P e agg sz] [hz : ZcI P e zs] [ByI P e bytes]
    (hx : aev env x = .sl (Lid n k) g 0 len cap) (hn : H0.length = n) (hk : L[k]? = some o) (hg : o.gen = g) (hsz : o.sz = sz) (hy : Src P N env (H0 ++ L) y sz ys) (hz' : zs.length = sz) (hlen : len ≤ o.rows.length) (h63 : len + ys.length ≤ 9223372036854775807) (hb : (len + ys.length) * bytes ≤ 140737488355328) :
    V2 P N (.call { callee := .builtin .append, args := #[x, y], argTypes := #[t, t'] }) ty env (H0 ++ L) (.sl (Lid n k) (g + 1) 0 (len + ys.length) (len + ys.length)) (H0 ++ L.set k ⟨g + 1, o.sz, o.rows.take len ++ ys⟩) := by
  rcases Nat.eq_zero_or_pos ys.length with h0 | h0
  · have : ys = [] := List.eq_nil_of_length_eq_zero h0
    subst this
    subst hg
    have := (o_append0 (P := P) (N := N) (env := env) (H := H0 ++ L) (ty := ty) (t := t) (t' := t') (e := e) (agg := agg) (sz := sz) hx (lk hn hk) hy).bump (m := len) (by omega) (lk hn hk)
    rw [st hn] at this
    simpa using this
  · exact w_append (agg := agg) (e := e) (zs := zs) hx hn hk hg hsz hy hz' hlen h0 h63 hb
/-- Cleared: what was known of the row from there on is let go. -/
theorem o_clear {t e : TypeId} {x : Operand} {id off len cap sz : Nat} {agg : Bool} {zs : List AV} {o : AObj} [hu : SlI P t e] [TyI P e agg sz] [hz : ZcI P e zs] (hx : aev env x = .sl id o.gen off len cap) (hid : H[id]? = some o) (hsz : o.sz = sz) (hn : zs.length = sz) :
    V2 P N (.call { callee := .builtin .clear, args := #[x], argTypes := #[t] }) ty env H (.tup []) (H.set id { o with rows := o.rows.take off }) := by
  intro dst pos after guard S a w hc next Q hnext _
  obtain ⟨s, c, hsl, ok, hcc, hlc, h⟩ := hc.slc hx hid
  have hlt : id < S.length := (List.getElem?_eq_some_iff.1 hsl).1
  obtain ⟨z, hz1, hz2⟩ := run_zc (P := P) (t := e) S w
  have key : ∀ w1, (Builtin.clear_ #[t] ty #[a.eval x]).run P w = .ok (.tuple #[]) w1 → (∃ H', (H' = H.set id { o with rows := o.rows.take off }) ∧ HRel H' S w1 ∧ Ext S w S w1) → Oper.wp P ⟨dst, .call { callee := .builtin .clear, args := #[x], argTypes := #[t] }, ty, pos, after, guard⟩ a w next Q := by
    rintro w1 hr ⟨H', rfl, hh, hx'⟩
    have hrun : (execOp a.eval ⟨dst, .call { callee := .builtin .clear, args := #[x], argTypes := #[t] }, ty, pos, after, guard⟩).run P w = .ok (.value (.tuple #[])) w1 := by
      simp [execOp, resolve, invoke, builtin, hr]
    unfold Oper.wp
    rw [hrun]
    exact hnext _ _ _ _ _ ⟨rfl, rfl⟩ hh hx' undef_ok
  have take_hrel : ∀ (hnil : o.rows.take off = o.rows ∨ s.place = none ∨ True), HRel (H.set id { o with rows := o.rows.take off }) S w := by
    intro _
    refine ⟨by simpa using hc.heap.len, fun id' o' s' ho' hs' => ?_, hc.heap.inj⟩
    by_cases e : id = id'
    · subst e
      rw [List.getElem?_set_self (List.getElem?_eq_some_iff.1 hid).1] at ho'
      obtain rfl := Option.some.inj ho'
      rw [hsl] at hs'
      obtain rfl := Option.some.inj hs'
      refine ⟨ok.gen, ok.sz, ok.pos, fun hn => by simp [ok.nope hn], fun b hb => ?_⟩
      obtain ⟨arr, ty', h1, h2⟩ := ok.row hb
      refine ⟨arr, ty', h1, Nat.le_trans (Nat.mul_le_mul_right _ (by simp; omega)) h2.1, fun i r hr => h2.2 i r ?_⟩
      rw [List.getElem?_take] at hr
      split at hr
      · exact hr
      · cases hr
    · rw [List.getElem?_set_ne e] at ho'
      exact hc.heap.obj id' o' s' ho' hs'
  rcases h with ⟨h0, ad, he⟩ | ⟨b, arr, et, hp, he, hbl, hfit, hrow⟩
  · refine key w ?_ ⟨_, rfl, take_hrel (.inr (.inr trivial)), Ext.refl S w⟩
    rw [he]
    cases ad <;> simp [Builtin.clear_, run_und hu.ud]
  · rcases Nat.eq_zero_or_pos len with h0 | h0
    · subst h0
      refine key w ?_ ⟨_, rfl, take_hrel (.inr (.inr trivial)), Ext.refl S w⟩
      rw [he]
      simp [Builtin.clear_, run_und hu.ud]
    · have hzn : z.cells.size = sz := by
        have := hz2.1
        omega
      have hvs : (Builtin.zeroCells z.cells len).toList.length = len * sz := by rw [Array.length_toList, size_zeroCells, hzn]
      have hfit2 : off * o.sz + (Builtin.zeroCells z.cells len).toList.length ≤ arr.size := by
        rw [hvs, hsz, ← Nat.add_mul]
        rw [hsz] at hfit
        exact Nat.le_trans (Nat.mul_le_mul_right _ (by omega)) hfit
      have hone : ∀ v ∈ (Builtin.zeroCells z.cells len).toList, v.oneCell' = true := by
        intro v hv
        obtain ⟨i, hi⟩ := List.mem_iff_getElem?.1 hv
        rw [Array.getElem?_toList] at hi
        have hi2 := (Array.getElem?_eq_some_iff.1 hi).1
        have hpos : 0 < z.cells.size := by
          rcases Nat.eq_zero_or_pos z.cells.size with e | e
          · rw [size_zeroCells, e] at hi2; simp at hi2
          · exact e
        have hm : i % z.cells.size < z.cells.size := Nat.mod_lt _ hpos
        have hv2 : v = z.cells[i % z.cells.size] := by
          have := (Array.getElem?_eq_some_iff.1 hi).2
          rw [← this]
          simp [Builtin.zeroCells, hm]
        have hj : i % z.cells.size < zs.length := by rw [hn, ← hzn]; exact hm
        obtain ⟨h1, u, h2, h3⟩ := hz2.2 _ _ (List.getElem?_eq_getElem hj)
        rw [Array.getElem?_eq_getElem hm] at h2
        rw [hv2, Option.some.inj h2]
        exact h3.one h1
      have hst := run_storeCells_at P b (off * o.sz) et (Builtin.zeroCells z.cells len).toList 0 arr w hbl (by simpa using hfit2) hone
      simp only [Nat.add_zero] at hst
      have hw := hc.heap.write (rows' := o.rows.take off) (arr' := (arr.toList.take (off * o.sz) ++ (Builtin.zeroCells z.cells len).toList ++ arr.toList.drop (off * o.sz + (Builtin.zeroCells z.cells len).toList.length)).toArray) hid hsl hp hbl (by simp only [List.size_toArray, List.length_append, List.length_take, List.length_drop, Array.length_toList] at *; omega) ?_
      · refine key _ ?_ ⟨_, rfl, hw.1, hw.2⟩
        rw [he]
        have hl : ∃ m, len = m + 1 := ⟨len - 1, by omega⟩
        obtain ⟨m, rfl⟩ := hl
        simp [Builtin.clear_, run_und hu.ud, hz1, hst]
      · refine ⟨?_, fun i r hr => ?_⟩
        · have := hrow.1
          have h2 : (o.rows.take off).length * o.sz ≤ o.rows.length * o.sz := Nat.mul_le_mul_right _ (by simp; omega)
          simp only [List.size_toArray, List.length_append, List.length_take, List.length_drop, Array.length_toList] at *
          omega
        · have hi : i < off := by
            have := (List.getElem?_eq_some_iff.1 hr).1
            simp at this; omega
          have hr' : o.rows[i]? = some r := by
            rw [List.getElem?_take, if_pos hi] at hr; exact hr
          obtain ⟨k1, k2⟩ := hrow.2 i r hr'
          refine ⟨k1, fun j v hv => ?_⟩
          obtain ⟨k3, u, k4, k5⟩ := k2 j v hv
          have hj : j < o.sz := by rw [← k1]; exact (List.getElem?_eq_some_iff.1 hv).1
          have hlt2 : i * o.sz + j < off * o.sz := by
            have : (i + 1) * o.sz ≤ off * o.sz := Nat.mul_le_mul_right _ hi
            rw [Nat.succ_mul] at this
            omega
          refine ⟨k3, u, ?_, k5⟩
          have hlt3 : i * o.sz + j < arr.size := (Array.getElem?_eq_some_iff.1 k4).1
          rw [List.getElem?_toArray, List.append_assoc, List.getElem?_append_left (by simp; omega), List.getElem?_take, if_pos hlt2, Array.getElem?_toList]
          exact k4
/-- A literal that is never written again. -/
theorem g_lit1 {t e : TypeId} {sz : Nat} {x : Operand} {v : AV} {agg : Bool} {zs cs : List AV} [hu : SlI P t e] [TyI P e agg sz] [hz : ZcI P e zs] (hn : zs.length = sz) (hp : 0 < sz) (hbig : sz ≤ 16777216) (hx : aev env x = v) (hv : v.cellish = true) (hcs : v.cells = cs) (hl : cs.length = sz) (hb : AV.bels 0 cs = true) :
    V2 P N (.buildSlice t 1 #[(0, x)]) ty env H (.pl [cs]) H := by
  have h1 := o_buildSlice1L (P := P) (N := N) (env := env) (H0 := H) (L := []) (ty := ty) (t := t) (e := e) (agg := agg) (zs := zs) hn hp hbig hx hv hcs hl rfl
  have := V2.freezeL (L := []) h1 rfl rfl rfl (by intro r hr; simp only [List.mem_singleton] at hr; subst hr; exact hb)
  simpa using this
theorem w_clear {t e : TypeId} {x : Operand} {n k g off len cap sz : Nat} {agg : Bool} {zs : List AV} {o : AObj} [hu : SlI P t e] [TyI P e agg sz] [hz : ZcI P e zs] (hx : aev env x = .sl (Lid n k) g off len cap) (hn : H0.length = n) (hk : L[k]? = some o) (hg : o.gen = g) (hsz : o.sz = sz) (hz' : zs.length = sz) :
    V2 P N (.call { callee := .builtin .clear, args := #[x], argTypes := #[t] }) ty env (H0 ++ L) (.tup []) (H0 ++ L.set k { o with rows := o.rows.take off }) := by
  subst hg
  have := o_clear (P := P) (N := N) (env := env) (H := H0 ++ L) (ty := ty) (t := t) (e := e) (agg := agg) (zs := zs) hx (lk hn hk) hsz hz'
  rwa [st hn] at this
/-- A cut with its room. -/
theorem o_slices3 {t e : TypeId} {x hi mx : Operand} {lo : Option Operand} {k k' : IntKind} {id g off len cap l h m sz : Nat} {agg : Bool} {o : AObj} [hu : SlI P t e] [TyI P e agg sz] (hx : aev env x = .sl id g off len cap) (hid : H[id]? = some o) (hg : o.gen = g) (hsz : o.sz = sz) (hl : Bd env lo 0 l) (hh : aev env hi = .int k (h : Int)) (hm : aev env mx = .int k' (m : Int)) (h1 : l ≤ h) (h2 : h ≤ m) (h3 : m ≤ max len cap) :
    V1 P N (.slice t x lo (Option.some hi) (Option.some mx)) ty env H (.sl id g (off + l) (h - l) (m - l)) := by
  subst hg
  intro S a w hc
  obtain ⟨s, c, hs, ok, hcc, hlc, hh2⟩ := hc.slc hx hid
  rcases hh2 with ⟨h0, ad, he⟩ | ⟨b, arr, et, hp, he, hb, hfit, hrow⟩
  · obtain rfl : m = 0 := by omega
    obtain rfl : h = 0 := by omega
    obtain rfl : l = 0 := by omega
    have el : len = 0 := by omega
    subst el
    have hb' := run_sliceBounds3 (P := P) hc true (len := 0) (cap := 0) hl hh hm h1 (by omega) (by omega)
    refine ⟨.slice ad 0 0, fun _ _ _ _ => ?_, .sl s hs (by rw [ok.gen]; exact Nat.le_refl _) rfl fun _ => ⟨0, by omega, by omega, .inl ⟨rfl, ad, rfl⟩⟩⟩
    simp [execOp, he, Instr.sliceAt, Instr.slice, run_und hu.ud, hb', run_sz (P := P) (t := e) (agg := agg) (sz := sz)]
  · have hb' := run_sliceBounds3 (P := P) hc true (len := len) (cap := c) hl hh hm h1 h2 (by omega)
    refine ⟨.slice (if m = l then some ⟨b, off * o.sz, none⟩ else some ⟨b, (off + l) * o.sz, none⟩) (h - l) (m - l), fun _ _ _ _ => ?_, .sl s hs (by rw [ok.gen]; exact Nat.le_refl _) rfl fun _ => ⟨m - l, by omega, by omega, ?_⟩⟩
    · have e1 : (⟨b, off * o.sz, none⟩ : Addr).add (l * sz) = ⟨b, (off + l) * o.sz, none⟩ := by rw [add_none, hsz, Nat.add_mul]
      simp [execOp, he, Instr.sliceAt, Instr.slice, run_und hu.ud, hb', run_sz (P := P) (t := e) (agg := agg) (sz := sz), e1]
    · by_cases e1 : m = l
      · left
        refine ⟨by omega, some ⟨b, off * o.sz, none⟩, ?_⟩
        rw [if_pos e1, show h - l = 0 by omega, show m - l = 0 by omega]
      · right
        refine ⟨b, arr, et, hp, by rw [if_neg e1, ok.sz], hb, ?_⟩
        rw [← ok.sz]
        refine Nat.le_trans (Nat.mul_le_mul_right _ ?_) hfit
        omega
/-- Append, and the room is still known. -/
theorem o_appendT {t t' e : TypeId} {x y : Operand} {id g len cap sz bytes : Nat} {agg : Bool} {zs : List AV} {o : AObj} {ys : List (List AV)} (m : Nat) [hu : SlI P t e] [NiI P t'] [TyI P e agg sz] [hz : ZcI P e zs] [ByI P e bytes]
    (hx : aev env x = .sl id g 0 len cap) (hid : H[id]? = some o) (hg : o.gen = g) (hsz : o.sz = sz) (hy : Src P N env H y sz ys) (hz' : zs.length = sz) (hlen : len ≤ o.rows.length) (h63 : len + ys.length ≤ 9223372036854775807) (hb : (len + ys.length) * bytes ≤ 140737488355328) (hm : m ≤ max cap (len + ys.length)) :
    V2 P N (.call { callee := .builtin .append, args := #[x, y], argTypes := #[t, t'] }) ty env H (.sl id (g + 1) 0 (len + ys.length) m) (H.set id ⟨g + 1, o.sz, o.rows.take len ++ ys⟩) := by
  subst hg
  rcases Nat.eq_zero_or_pos ys.length with h0 | h0
  · have : ys = [] := List.eq_nil_of_length_eq_zero h0
    subst this
    have := (o_append0 (P := P) (N := N) (env := env) (H := H) (ty := ty) (t := t) (t' := t') (e := e) (agg := agg) (sz := sz) hx hid hy).bump (m := m) (by simpa using hm) hid
    simpa using this
  · exact o_appendM (agg := agg) (e := e) (zs := zs) hz' hx hid hsz hlen hy h0 h63 hb hm
theorem w_appendF {t t' e : TypeId} {x y : Operand} {id g len cap sz bytes : Nat} {agg : Bool} {zs : List AV} {o : AObj} {ys : List (List AV)} (m : Nat) [hu : SlI P t e] [NiI P t'] [TyI P e agg sz] [hz : ZcI P e zs] [ByI P e bytes]
    (hx : aev env x = .sl id g 0 len cap) (hid : H0[id]? = some o) (hg : o.gen = g) (hsz : o.sz = sz) (hy : Src P N env (H0 ++ L) y sz ys) (hz' : zs.length = sz) (hlen : len ≤ o.rows.length) (h63 : len + ys.length ≤ 9223372036854775807) (hb : (len + ys.length) * bytes ≤ 140737488355328) (hm : m ≤ max cap (len + ys.length)) :
    V2 P N (.call { callee := .builtin .append, args := #[x, y], argTypes := #[t, t'] }) ty env (H0 ++ L) (.sl id (g + 1) 0 (len + ys.length) m) (H0.set id ⟨g + 1, o.sz, o.rows.take len ++ ys⟩ ++ L) := by
  have := o_appendT (P := P) (N := N) (env := env) (H := H0 ++ L) (ty := ty) (t := t) (t' := t') (e := e) (agg := agg) (zs := zs) (bytes := bytes) m hx (lkF hid) hg hsz hy hz' hlen h63 hb hm
  rwa [stF hid] at this
theorem w_clearF {t e : TypeId} {x : Operand} {id g off len cap sz : Nat} {agg : Bool} {zs : List AV} {o : AObj} [hu : SlI P t e] [TyI P e agg sz] [hz : ZcI P e zs] (hx : aev env x = .sl id g off len cap) (hid : H0[id]? = some o) (hg : o.gen = g) (hsz : o.sz = sz) (hz' : zs.length = sz) :
    V2 P N (.call { callee := .builtin .clear, args := #[x], argTypes := #[t] }) ty env (H0 ++ L) (.tup []) (H0.set id { o with rows := o.rows.take off } ++ L) := by
  subst hg
  have := o_clear (P := P) (N := N) (env := env) (H := H0 ++ L) (ty := ty) (t := t) (e := e) (agg := agg) (zs := zs) hx (lkF hid) hsz hz'
  rwa [stF hid] at this
/-- The call ends; a row that was there before has been turned. -/
theorem e_doneF {B : Base} {rs : List ResultVar} {vs : List AV} {v : AV} {args : List AV} {M : Heap} (hB : Begun B H args) (h : ResVs P env (M ++ L) rs vs) (hv : tupv vs = v) (hb : v.bel H.length = true) (hl : M.length = H.length) (hM : HBel H.length M) : Ends P B rs (Ret v M) .ret env (M ++ L) := by
  refine ⟨vs, M, h, .inr ⟨L, rfl, by rw [hB.len, hl]; exact Nat.le_refl _, by rw [hv, hl]; exact hb, by rw [hl]; exact hM⟩, by rw [hv], rfl⟩
theorem HBel.set {n : Nat} {M : Heap} (h : HBel n M) (id : Nat) (o : AObj) (ho : ∀ r ∈ o.rows, AV.bels n r = true) : HBel n (M.set id o) := fun o' ho' => by
  rcases List.mem_or_eq_of_mem_set ho' with h1 | rfl
  · exact h o' h1
  · exact ho
/-- A call that is given slices with nothing in them. -/
theorem V2.callu {f : Nat} {xs : Array Operand} {ts : Array TypeId} {v : AV} {us : List AV} {M : Heap} [FnI P f] (hac : AC P f us H (Ret v M)) (hvs : (xs.toList.map (aev env)).map AV.up = us) :
    V2 P N (.call { callee := .value (.func f), args := xs, argTypes := ts }) ty env H v M := V2.call (hac.up hvs) rfl
/-- A call that turns a row of the call's own. -/
theorem V2.callo3 {f g n c id' : Nat} {xs : Array Operand} {ts : Array TypeId} {vs : List AV} {o : AObj} {k : Nat} [FnI P f] (hac : AC P f vs (H0 ++ L) (Ret (.sl id' g 0 n c) ((H0 ++ L).set id' o))) (hvs : xs.toList.map (aev env) = vs) (hk : id' = Lid H0.length k) :
    V2 P N (.call { callee := .value (.func f), args := xs, argTypes := ts }) ty env (H0 ++ L) (.sl (Lid H0.length k) g 0 n c) (H0 ++ L.set k o) := by
  subst hk
  have := V2.call (N := N) (ty := ty) (ts := ts) hac hvs
  rwa [st rfl] at this
end

/-! #### where two ways meet -/
def JoinP (B : Base) (E : Env) (M : Heap) (Q : Post) : Post
  | .nrm, e, H => Sub E e ∧ Fit B E H M
  | x, e, H => Q x e H
section
variable {P : Program} {N : Nat} {B : Base} {Q : Post} {env : Env} {H : Heap}
theorem aw_joinQ {x : Code} (E : Env) (M : Heap) (h : AWp P N B x (JoinP B E M Q) env H) (k : Q .nrm E M) : AWp P N B x Q env H := by
  intro S a w hc hb
  refine wp_mono (h S a w hc hb) ?_
  rintro e a' w' ⟨ax, env', H', S', hj, r, c', k'⟩
  cases ax with
  | nrm =>
    cases r
    obtain ⟨S2, c2, k2⟩ := (c'.sub hj.1).fit k' hj.2
    exact ⟨.nrm, E, M, S2, k, .nrm, c2, k2⟩
  | brk i => exact ⟨_, env', H', S', hj, r, c', k'⟩
  | ret => exact ⟨_, env', H', S', hj, r, c', k'⟩
  | pan v => exact ⟨_, env', H', S', hj, r, c', k'⟩
theorem join_nrm {E : Env} {M : Heap} (h1 : Sub E env) (h2 : Fit B E H M) : JoinP B E M Q .nrm env H := ⟨h1, h2⟩
theorem join_ret {E : Env} {M : Heap} (h : Q .ret env H) : JoinP B E M Q .ret env H := h
theorem join_brk {E : Env} {M : Heap} {i : Nat} (h : Q (.brk i) env H) : JoinP B E M Q (.brk i) env H := h
end

/-! #### regions that draw, as a walk uses them -/
/-- The memory has these rows, and some more. -/
def AtR (H0 L0 : Heap) (k : Nat) (H : Heap) : Prop := ∃ G : Heap, H = H0 ++ G ∧ G[k]? = L0[k]?
def Pre (H0 L0 H : Heap) : Prop := ∃ G, H = H0 ++ (L0 ++ G)
section
variable {P : Program} {N : Nat} {B : Base} {ops : Array Oper} {a : Option Nat} {C : Heap → Prop} {F : Env → Heap → Prop} {Q : Post}
variable {fuel : Nat} {listed : Array Bool} {env : Env} {H H0 L : Heap} {op : Op} {ty : TypeId} {pos : String} {after : Array Edge} {v : AV} {id : Nat} {l : List Oper}
theorem yet_done {X : Prop} {i : Nat} (h : listed.getD i true = true) : Yet (some i) listed → X := fun k => by
  have : listed.getD i true = false := k
  rw [h] at this
  cases this
theorem aw_drawP (hm : P.follows .mixedOrders = true) (a : Option Nat) (k : Nat) (h : AAny P N B l.toArray a (Pre H0 (L.take k)) (Q .nrm) l.length (Array.replicate l.length false) env (H0 ++ L)) : AWp P N B (.region id l.toArray true) Q env (H0 ++ L) := aw_draw hm a _ h
/-- Nothing in memory is asked. -/
theorem aw_draw0 (hm : P.follows .mixedOrders = true) (h : AAny P N B l.toArray none (fun _ => True) (Q .nrm) l.length (Array.replicate l.length false) env H) : AWp P N B (.region id l.toArray true) Q env H := aw_draw hm none _ h
/-- One row is as it was. -/
theorem aw_drawR (hm : P.follows .mixedOrders = true) (a : Option Nat) (k : Nat) (h : AAny P N B l.toArray a (AtR H0 L k) (Q .nrm) l.length (Array.replicate l.length false) env (H0 ++ L)) : AWp P N B (.region id l.toArray true) Q env (H0 ++ L) := aw_draw hm a _ h
theorem aqr {d k : Nat} {L0 : Heap} (i : Nat) (hi : ops[i]? = some ⟨some d, op, ty, pos, after, none⟩) (hB : firstB ops listed a i = true) (hd : DN d N) (h1 : ∀ G : Heap, G[k]? = L0[k]? → V1 P N op ty (renv ⟨some d, op, ty, pos, after, none⟩ env) (H0 ++ G) v)
    (h : AAny P N B ops a (AtR H0 L0 k) F fuel (listed.setIfInBounds i true) ((d, v) :: env) H) : AAny P N B ops a (AtR H0 L0 k) F (fuel + 1) listed env H :=
  aq1 i hi hB hd (by rintro _ ⟨G, rfl, hG⟩; exact h1 G hG) h
theorem aqyr {d j g k : Nat} {want : Bool} {L0 : Heap} (i : Nat) (hi : ops[i]? = some ⟨some d, op, ty, pos, after, some (j, want)⟩) (hB : firstB ops listed a i = true) (hd : DN d N) (hj : (ops[j]?).bind (·.dst) = some g) (hb : get env g = .bool want)
    (h1 : ∀ G : Heap, G[k]? = L0[k]? → V1 P N op ty (renv ⟨some d, op, ty, pos, after, some (j, want)⟩ env) (H0 ++ G) v)
    (h : AAny P N B ops a (AtR H0 L0 k) F fuel (listed.setIfInBounds i true) ((d, v) :: env) H) : AAny P N B ops a (AtR H0 L0 k) F (fuel + 1) listed env H :=
  aqy1 i hi hB hd hj hb (by rintro _ ⟨G, rfl, hG⟩; exact h1 G hG) h
theorem aw_of_out {c : Code} (t : Nat) (v : AV) (h : AWp P N B c (Out B env t v H) env H) (k : Q .nrm ((t, v) :: env) H) : AWp P N B c Q env H := by
  intro S a w hc hb
  refine Code.wp_mono ?_ (h S a w hc hb)
  rintro e a' w' ⟨x, e', H', S', ⟨rfl, hv, hs, rfl⟩, r, c', k'⟩
  cases r
  exact ⟨.nrm, _, _, S', k, .nrm, c'.sub (hs.sub hv), k'⟩
theorem aq02 {d : Nat} (i : Nat) (hi : ops[i]? = some ⟨some d, op, ty, pos, after, none⟩) (hB : firstB0 ops listed a i = true) (hd : DN d N) (h1 : ∀ H', V2 P N op ty (renv ⟨some d, op, ty, pos, after, none⟩ env) H' v H')
    (h : AAny P N B ops a C F fuel (listed.setIfInBounds i true) ((d, v) :: env) H) : AAny P N B ops a C F (fuel + 1) listed env H :=
  aa_first0 i hi hB (by rintro _ ⟨⟩; exact hd) (.inl ⟨rfl, fun H _ => h1 H _ _ _ _⟩) h
theorem aqy0 {d j g : Nat} {want : Bool} (i : Nat) (hi : ops[i]? = some ⟨some d, op, ty, pos, after, some (j, want)⟩) (hB : firstB0 ops listed a i = true) (hd : DN d N) (hj : (ops[j]?).bind (·.dst) = some g) (hb : get env g = .bool want)
    (h1 : ∀ H', V1 P N op ty (renv ⟨some d, op, ty, pos, after, some (j, want)⟩ env) H' v)
    (h : AAny P N B ops a C F fuel (listed.setIfInBounds i true) ((d, v) :: env) H) : AAny P N B ops a C F (fuel + 1) listed env H :=
  aa_first0 i hi hB (by rintro _ ⟨⟩; exact hd) (.inl ⟨⟨g, hj, .inl ⟨want, hb, by simp⟩⟩, fun H hC => (h1 H).toV2 _ _ _ _⟩) h
theorem aqy02 {d j g : Nat} {want : Bool} (i : Nat) (hi : ops[i]? = some ⟨some d, op, ty, pos, after, some (j, want)⟩) (hB : firstB0 ops listed a i = true) (hd : DN d N) (hj : (ops[j]?).bind (·.dst) = some g) (hb : get env g = .bool want)
    (h1 : ∀ H', V2 P N op ty (renv ⟨some d, op, ty, pos, after, some (j, want)⟩ env) H' v H')
    (h : AAny P N B ops a C F fuel (listed.setIfInBounds i true) ((d, v) :: env) H) : AAny P N B ops a C F (fuel + 1) listed env H :=
  aa_first0 i hi hB (by rintro _ ⟨⟩; exact hd) (.inl ⟨⟨g, hj, .inl ⟨want, hb, by simp⟩⟩, fun H hC => h1 H _ _ _ _⟩) h
theorem aqn0 {d j g : Nat} {want c : Bool} (i : Nat) (hi : ops[i]? = some ⟨some d, op, ty, pos, after, some (j, want)⟩) (hB : firstB0 ops listed a i = true) (hd : DN d N) (hj : (ops[j]?).bind (·.dst) = some g) (hb : get env g = .bool c) (hc : (c == want) = false)
    (h : AAny P N B ops a C F fuel (listed.setIfInBounds i true) ((d, .tup []) :: env) H) : AAny P N B ops a C F (fuel + 1) listed env H :=
  aa_first0 i hi hB (by rintro _ ⟨⟩; exact hd) (.inr ⟨⟨g, hj, .inl ⟨c, hb, hc.symm⟩⟩, rfl⟩) h
theorem aqu0 {d j g : Nat} {want : Bool} (i : Nat) (hi : ops[i]? = some ⟨some d, op, ty, pos, after, some (j, want)⟩) (hB : firstB0 ops listed a i = true) (hd : DN d N) (hj : (ops[j]?).bind (·.dst) = some g) (hb : get env g = .tup [])
    (h : AAny P N B ops a C F fuel (listed.setIfInBounds i true) ((d, .tup []) :: env) H) : AAny P N B ops a C F (fuel + 1) listed env H :=
  aa_first0 i hi hB (by rintro _ ⟨⟩; exact hd) (.inr ⟨⟨g, hj, .inr ⟨hb, rfl⟩⟩, rfl⟩) h
/-- By what the first rows hold. -/
theorem aqp {d : Nat} {L0 : Heap} (i : Nat) (hi : ops[i]? = some ⟨some d, op, ty, pos, after, none⟩) (hB : firstB ops listed a i = true) (hd : DN d N) (h1 : ∀ G, V1 P N op ty (renv ⟨some d, op, ty, pos, after, none⟩ env) (H0 ++ (L0 ++ G)) v)
    (h : AAny P N B ops a (Pre H0 L0) F fuel (listed.setIfInBounds i true) ((d, v) :: env) H) : AAny P N B ops a (Pre H0 L0) F (fuel + 1) listed env H :=
  aq1 i hi hB hd (by rintro _ ⟨G, rfl⟩; exact h1 G) h
theorem aqyp {d j g : Nat} {want : Bool} {L0 : Heap} (i : Nat) (hi : ops[i]? = some ⟨some d, op, ty, pos, after, some (j, want)⟩) (hB : firstB ops listed a i = true) (hd : DN d N) (hj : (ops[j]?).bind (·.dst) = some g) (hb : get env g = .bool want)
    (h1 : ∀ G, V1 P N op ty (renv ⟨some d, op, ty, pos, after, some (j, want)⟩ env) (H0 ++ (L0 ++ G)) v)
    (h : AAny P N B ops a (Pre H0 L0) F fuel (listed.setIfInBounds i true) ((d, v) :: env) H) : AAny P N B ops a (Pre H0 L0) F (fuel + 1) listed env H :=
  aqy1 i hi hB hd hj hb (by rintro _ ⟨G, rfl⟩; exact h1 G) h
end
end Go.Av
