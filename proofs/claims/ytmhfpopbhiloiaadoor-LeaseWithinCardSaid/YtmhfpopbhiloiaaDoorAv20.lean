/-
  A TEXT IS GONE THROUGH, RUNE BY RUNE: the iterator lies in a block of its own that no abstract value leads to.
-/
import Derived.Test.YtmhfpopbhiloiaaDoorAv18
import Derived.Lib.OthersKept
import Derived.Laws.RangeString
import Derived.Scope
namespace Go.Av

/-- Two worlds that differ in one block alone, which holds no cells. -/
structure But (r : Nat) (w w' : World) : Prop where
  os : w'.os = w.os
  tape : w'.tape = w.tape
  output : w'.output = w.output
  size : w'.heap.size = w.heap.size
  other : ∀ j, j ≠ r → w'.heap[j]? = w.heap[j]?
  none : ∀ arr ty fz, w.heap[r]? ≠ some (Obj.cells arr ty fz)
theorem But.cells {r : Nat} {w w' : World} (h : But r w w') {b : Nat} {arr : Array Value} {ty : TypeId} {fz : Nat × Nat} (hb : w.heap[b]? = some (Obj.cells arr ty fz)) : w'.heap[b]? = some (Obj.cells arr ty fz) := by
  by_cases e : b = r
  · subst e; exact absurd hb (h.none _ _ _)
  · rw [h.other b e]; exact hb
theorem But.cell {r : Nat} {w w' : World} (h : But r w w') {a : Addr} {v : Value} (hc : w.cell? a = some v) : w'.cell? a = some v := by
  by_cases e : a.block = r
  · unfold World.cell? at hc
    split at hc
    · rename_i c x y hq; rw [e] at hq; exact absurd hq (h.none _ _ _)
    · cases hc
  · exact (World.cell?_of_block (h.other a.block e)).trans hc
theorem VR.but {r : Nat} {w w' : World} (hw : But r w w') {O : Nat → Prop} {S : List Slot} {v : AV} {u : Value} (h : VR O w S v u) : VR O w' S v u := by
  induction h with
  | junk => exact .junk
  | int => exact .int
  | bool => exact .bool
  | str => exact .str
  | flt => exact .flt
  | nsl => exact .nsl
  | nptr => exact .nptr
  | nfn => exact .nfn
  | nifc => exact .nifc
  | raw => exact .raw
  | know ho hg h => exact .know ho (by rw [hw.size]; exact hg) fun j v hv => hw.cell (h j v hv)
  | ifc _ ih => exact .ifc ih
  | pl base sz u hc hb hs hm hl _ ih =>
    exact .pl base sz u hc (fun hx => ⟨(hb hx).1, (hb hx).2.1, by rw [hw.size]; exact (hb hx).2.2⟩) hs (fun i hi j hj => hw.cell (hm i hi j hj)) hl ih
  | pp base sz u hb hs hm hl _ ih =>
    exact .pp base sz u ⟨hb.1, by rw [hw.size]; exact hb.2⟩ hs (fun i hi j hj => hw.cell (hm i hi j hj)) hl ih
  | sl s hs hg h1 h =>
    refine .sl s hs hg h1 fun e => ?_
    obtain ⟨c, hc, hl, h⟩ := h e
    refine ⟨c, hc, hl, ?_⟩
    rcases h with h | ⟨b, arr, ty, hp, hu, hb, hsz⟩
    · exact .inl h
    · exact .inr ⟨b, arr, ty, hp, hu, hw.cells hb, hsz⟩
  | pt s hs hg h1 h => exact .pt s hs hg h1 h
  | agg hn hl _ ih => exact .agg hn hl ih
  | tup hn _ ih => exact .tup hn ih
  | fn hp hq _ _ ih1 ih2 => exact .fn hp hq ih1 ih2
theorem HRel.but {r : Nat} {H : Heap} {S : List Slot} {w w' : World} (hh : HRel H S w) (hw : But r w w') : HRel H S w' := by
  refine ⟨hh.len, fun id o s ho hs => ?_, hh.inj⟩
  have ok := hh.obj id o s ho hs
  refine ⟨ok.gen, ok.sz, ok.pos, ok.nope, fun b hb => ?_⟩
  obtain ⟨arr, ty, h1, h2, h3⟩ := ok.lies b hb
  refine ⟨arr, ty, hw.cells h1, h2, fun i r hr => ?_⟩
  obtain ⟨k1, k2⟩ := h3 i r hr
  refine ⟨k1, fun j v hv => ?_⟩
  obtain ⟨k3, u, k4, k5⟩ := k2 j v hv
  exact ⟨k3, u, k4, k5.but hw⟩
theorem HRel.notOwn {H : Heap} {S : List Slot} {w : World} (hh : HRel H S w) {r : Nat} (hn : ∀ arr ty fz, w.heap[r]? ≠ some (Obj.cells arr ty fz)) : ¬ own S r := by
  rintro ⟨i, s, hs, hp⟩
  have hlt : i < H.length := by rw [hh.len]; exact (List.getElem?_eq_some_iff.1 hs).1
  have ok := hh.obj i H[i] s (List.getElem?_eq_getElem hlt) hs
  obtain ⟨arr, ty, h1, _⟩ := ok.lies r hp
  exact hn _ _ _ h1

section
variable {P : Program} {N : Nat} {B : Base} {Q : Post} {env : Env} {H : Heap}
abbrev itv (r : Nat) : Value := .pointer (some ⟨r, 0, none⟩)

/-- The run stands in a loop over a text. -/
structure ItAt (N : Nat) (B : Base) (it r : Nat) (s : ByteArray) (pos : Nat) (E : Env) (H : Heap) (a : Act) (w : World) (S : List Slot) : Prop where
  cr : CR N ((it, .raw (itv r)) :: E) H S a w
  ext : Ext B.S B.w S w
  obj : w.heap[r]? = some (.stringIter s pos)
  new : B.w.heap.size ≤ r

theorem ItAt.next {it r pos pos' : Nat} {s : ByteArray} {E : Env} {S : List Slot} {a : Act} {w : World} (h : ItAt N B it r s pos E H a w S) : ItAt N B it r s pos' E H a (w.iterAt r s pos') S := by
  have hn : ∀ arr ty fz, w.heap[r]? ≠ some (Obj.cells arr ty fz) := by intro arr ty fz e; rw [h.obj] at e; cases e
  have hb : But r w (w.iterAt r s pos') := ⟨rfl, rfl, rfl, Lib.iterAt_size w r s pos', fun j hj => Lib.iterAt_other w r j s pos' hj, hn⟩
  have hno := h.cr.heap.notOwn hn
  refine ⟨⟨h.cr.heap.but hb, fun t => (h.cr.env t).but hb, h.cr.size, h.cr.defers⟩, ?_, Lib.iterAt_heap w r s pos pos' h.obj, h.new⟩
  have hx := h.ext
  refine ⟨hx.os, hx.tape, hx.output, ⟨by rw [hb.size]; exact hx.stp.size, fun b hbs ho => ?_, fun b arr ty hc => ?_⟩, hx.slots⟩
  · obtain ⟨k1, k2⟩ := hx.stp.old b hbs ho
    exact ⟨k1, by rw [hb.other b (by have := h.new; omega)]; exact k2⟩
  · obtain ⟨arr', k1, k2⟩ := hx.stp.cells b arr ty hc
    exact ⟨arr', hb.cells k1, k2⟩

theorem decode_pos (s : ByteArray) (i : Nat) : 1 ≤ (Utf8.decode s i).2 := by
  unfold Utf8.decode
  simp only
  repeat' split
  all_goals simp

theorem aw_rangeStr {k1 k2 b t it nx okt : Nat} {x : Operand} {tx ty1 ty2 ty3 ty4 : TypeId} {p1 p2 p3 p4 : String} {f1 f2 f3 f4 : Array Edge} {body : Code} {s : ByteArray} [hu : UdI P tx .string]
    (hx : aev env x = .str s) (ht : t < N) (hit : it < N) (hnx : nx < N) (hok : okt < N) (hne : it ≠ t) (hne2 : nx ≠ it) (hne3 : okt ≠ it)
    (I : Nat → Prop) (E : Nat → Env) (h0 : I 0) (hE : Sub (E 0) ((t, .str s) :: env))
    (round : ∀ (pos r : Nat) (B' : Base), pos < s.size → I pos → B'.S.length = H.length → AWp P N B' body (AX.andThen (fun e H' => I (pos + (Utf8.decode s pos).2) ∧ Sub ((it, .raw (itv r)) :: E (pos + (Utf8.decode s pos).2)) e ∧ H' = H) (AX.inBlock b Q))
      ((okt, .bool true) :: (nx, .tup [.bool true, .int .i64 (pos : Int), .int .i32 ((Utf8.decode s pos).1 : Int)]) :: (it, .raw (itv r)) :: E pos) H)
    (fin : ∀ (pos r : Nat), ¬ pos < s.size → I pos → Q .nrm ((okt, .bool false) :: (nx, .tup [.bool false]) :: (it, .raw (itv r)) :: E pos) H) :
    AWp P N B (.seq (.region k1 [⟨some t, .move x, ty1, p1, f1, none⟩, ⟨some it, .range tx (.tmp t), ty2, p2, f2, none⟩].toArray false)
      (.block b (.loop (.seq (.region k2 [⟨some nx, .next (.tmp it) true, ty3, p3, f3, none⟩, ⟨some okt, .extract (.tmp nx) 0, ty4, p4, f4, none⟩].toArray false) (.seq (.cond (.tmp okt) .skip (.exit b)) body))))) Q env H := by
  intro S a w hc hb
  refine wp_seq (wp_region_lit ?_)
  refine wpList_plain rfl fun next hnext => ?_
  have hv := hc.ev x
  rw [hx] at hv
  unfold Oper.wp
  rw [show ∀ pos after guard, (execOp a.eval ⟨some t, .move x, ty1, pos, after, guard⟩).run P w = .ok (.value (a.eval x)) w from fun _ _ _ => rfl]
  refine hnext _ _ ?_
  have c1 := hc.put (d := some t) (Ext.refl S w) hc.heap (by rintro _ ⟨⟩; exact ht) hv
  generalize a.eval x = u at hv c1 ⊢
  cases hv
  refine wpList_plain rfl fun next2 hnext2 => ?_
  have hev : (a.put (some t) (.string s)).eval (.tmp t) = .string s := by simp [Act.eval, Act.put, hc.size, ht]
  have hr2 : ∀ pos after guard, (execOp (a.put (some t) (.string s)).eval ⟨some it, .range tx (.tmp t), ty2, pos, after, guard⟩).run P w = .ok (.value (itv w.heap.size)) (w.iter s 0) := by
    intro pos after guard
    simp only [execOp, hev, Sem.run_bind, run_range_string w tx s hu.ud, Result.andThen_ok, Sem.run_pure]
  unfold Oper.wp
  rw [hr2]
  refine hnext2 _ _ ?_
  have hold : ∀ b, b < w.heap.size → (w.iter s 0).heap[b]? = w.heap[b]? := fun b hb => heap_alloc_old w _ b hb
  have hx' : Ext S w S (w.iter s 0) := ⟨rfl, rfl, rfl, ⟨by simp [World.iter], fun b hb ho => ⟨ho, hold b hb⟩, fun b arr ty hb' => ⟨arr, by rw [hold b (Array.getElem?_eq_some_iff.1 hb').1]; exact hb', rfl⟩⟩, SExt.refl S⟩
  have hh := same_heap hc.heap hx' hold
  have c2 := c1.put (d := some it) (v := .raw (itv w.heap.size)) (u := itv w.heap.size) hx' hh (by rintro _ ⟨⟩; exact hit) .raw
  have hsub : Sub ((it, .raw (itv w.heap.size)) :: E 0) ((it, .raw (itv w.heap.size)) :: (t, .str s) :: env) := fun t' => by
    by_cases e : it = t'
    · subst e; rw [get_put_same, get_put_same]; exact .inr rfl
    · rw [get_put_other _ _ e, get_put_other _ _ e]; exact hE t'
  refine wpList_nil ?_
  refine wp_block (wp_loop_ghost (fun n a' w' => ∃ pos S', n = s.size - pos ∧ I pos ∧ ItAt N B it w.heap.size s pos (E pos) H a' w' S') (s.size - 0) ⟨0, S, rfl, h0, ⟨c2.sub hsub, hb.trans hx', World.iter_heap w s 0, hb.stp.size⟩⟩ ?_)
  rintro n a1 w1 ⟨pos, S1, rfl, hI, h1⟩
  refine wp_seq (wp_region_lit ?_)
  refine wpList_plain rfl fun next hnext => ?_
  have hevit : a1.eval (.tmp it) = itv w.heap.size := by
    have := h1.cr.ev (.tmp it)
    rw [show aev ((it, AV.raw (itv w.heap.size)) :: E pos) (.tmp it) = .raw (itv w.heap.size) from get_put_same _ _ _] at this
    generalize a1.eval (.tmp it) = u at this
    cases this
    rfl
  by_cases hp : pos < s.size
  · have hrn : ∀ pos' after guard, (execOp a1.eval ⟨some nx, .next (.tmp it) true, ty3, pos', after, guard⟩).run P w1 = .ok (.value (.tuple #[.bool true, .int .i64 pos, .int .i32 (Utf8.decode s pos).1])) (w1.iterAt w.heap.size s (pos + (Utf8.decode s pos).2)) := by
      intro pos' after guard
      simp only [execOp, hevit, Sem.run_bind, Lib.run_next_any_at w1 w.heap.size s pos ty3 h1.obj hp, Result.andThen_ok, Sem.run_pure]
    unfold Oper.wp
    rw [hrn]
    refine hnext _ _ ?_
    have h2 := h1.next (pos' := pos + (Utf8.decode s pos).2)
    have c3 := h2.cr.put (d := some nx) (v := .tup [.bool true, .int .i64 (pos : Int), .int .i32 ((Utf8.decode s pos).1 : Int)]) (Ext.refl S1 _) h2.cr.heap (by rintro _ ⟨⟩; exact hnx) (.tup (vs := #[.bool true, .int .i64 pos, .int .i32 (Utf8.decode s pos).1]) rfl fun j v u hv hu => by
      match j, hv, hu with
      | 0, hv, hu => simp at hv hu; subst hv; subst hu; exact .bool
      | 1, hv, hu => simp at hv hu; subst hv; subst hu; exact .int
      | 2, hv, hu => simp at hv hu; subst hv; subst hu; exact .int
      | j + 3, hv, hu => simp at hv)
    refine wpList_plain rfl fun next2 hnext2 => ?_
    obtain ⟨u, hru, hvu⟩ := (o_extract (P := P) (N := N) (env := (nx, .tup [.bool true, .int .i64 (pos : Int), .int .i32 ((Utf8.decode s pos).1 : Int)]) :: (it, .raw (itv w.heap.size)) :: E pos) (H := H) (ty := ty4) (x := .tmp nx) (i := 0) (v := .bool true) (get_put_same ((it, .raw (itv w.heap.size)) :: E pos) nx (.tup [.bool true, .int .i64 (pos : Int), .int .i32 ((Utf8.decode s pos).1 : Int)])) rfl) S1 _ _ c3
    unfold Oper.wp
    rw [hru]
    refine hnext2 _ _ ?_
    have c4 := c3.put (d := some okt) (Ext.refl S1 _) c3.heap (by rintro _ ⟨⟩; exact hok) hvu
    refine wpList_nil ?_
    have hevok := c4.ev (.tmp okt)
    rw [show ∀ e : Env, aev (Av.put e (some okt) (.bool true)) (.tmp okt) = .bool true from fun e => get_put_same _ _ _] at hevok
    generalize hu2 : Act.eval _ (.tmp okt) = u2 at hevok
    cases hevok
    refine wp_seq (wp_cond_true hu2 (wp_skip ?_))
    refine wp_mono (round pos w.heap.size ⟨S1, w1.iterAt w.heap.size s (pos + (Utf8.decode s pos).2)⟩ hp hI (by rw [← h2.cr.heap.len]) S1 _ _ c4 (Ext.refl _ _)) ?_
    intro e a' w' ⟨x', env', H', S', q, r, c, k⟩
    have kx : Ext B.S B.w S' w' := h2.ext.trans k
    cases r with
    | nrm =>
      obtain ⟨hI', hs, rfl⟩ := q
      have hr : w.heap.size < (w1.iterAt w.heap.size s (pos + (Utf8.decode s pos).2)).heap.size := (Array.getElem?_eq_some_iff.1 h2.obj).1
      have hno := h2.cr.heap.notOwn (r := w.heap.size) (by intro arr ty fz e; rw [h2.obj] at e; cases e)
      refine ⟨s.size - (pos + (Utf8.decode s pos).2), by have := decode_pos s pos; omega, pos + (Utf8.decode s pos).2, S', rfl, hI', c.sub hs, kx, ?_, h1.new⟩
      rw [(k.stp.old _ hr hno).2]
      exact h2.obj
    | @brk i =>
      simp only [AX.andThen, AX.inBlock] at q
      simp only [Exit.then, Exit.inBlock]
      split at q
      · rename_i e; rw [if_pos e]; exact ⟨_, env', H', S', q, .nrm, c, kx⟩
      · rename_i e; rw [if_neg e]; exact ⟨_, env', H', S', q, .brk, c, kx⟩
    | ret => exact ⟨_, env', H', S', q, .ret, c, kx⟩
    | pan hv => exact ⟨_, env', H', S', q, .pan hv, c, kx⟩
  · have hrn : ∀ pos' after guard, (execOp a1.eval ⟨some nx, .next (.tmp it) true, ty3, pos', after, guard⟩).run P w1 = .ok (.value (.tuple #[.bool false])) w1 := by
      intro pos' after guard
      simp only [execOp, hevit, Sem.run_bind, Lib.run_next_end_at w1 w.heap.size s pos ty3 h1.obj hp, Result.andThen_ok, Sem.run_pure]
    unfold Oper.wp
    rw [hrn]
    refine hnext _ _ ?_
    have c3 := h1.cr.put (d := some nx) (v := .tup [.bool false]) (Ext.refl S1 _) h1.cr.heap (by rintro _ ⟨⟩; exact hnx) (.tup (vs := #[.bool false]) rfl fun j v u hv hu => by
      match j, hv, hu with
      | 0, hv, hu => simp at hv hu; subst hv; subst hu; exact .bool
      | j + 1, hv, hu => simp at hv)
    refine wpList_plain rfl fun next2 hnext2 => ?_
    obtain ⟨u, hru, hvu⟩ := (o_extract (P := P) (N := N) (env := (nx, .tup [.bool false]) :: (it, .raw (itv w.heap.size)) :: E pos) (H := H) (ty := ty4) (x := .tmp nx) (i := 0) (v := .bool false) (get_put_same ((it, .raw (itv w.heap.size)) :: E pos) nx (.tup [.bool false])) rfl) S1 _ _ c3
    unfold Oper.wp
    rw [hru]
    refine hnext2 _ _ ?_
    have c4 := c3.put (d := some okt) (Ext.refl S1 _) c3.heap (by rintro _ ⟨⟩; exact hok) hvu
    refine wpList_nil ?_
    have hevok := c4.ev (.tmp okt)
    rw [show ∀ e : Env, aev (Av.put e (some okt) (.bool false)) (.tmp okt) = .bool false from fun e => get_put_same _ _ _] at hevok
    generalize hu2 : Act.eval _ (.tmp okt) = u2 at hevok
    cases hevok
    refine wp_seq (wp_cond_false hu2 (wp_exit ?_))
    simp only [Exit.then, Exit.inBlock, if_true]
    exact ⟨.nrm, _, H, S1, fin pos w.heap.size hp hI, .nrm, c4, h1.ext⟩

theorem aw_scope {c : Code} (h : AWp P N B c Q env H) : AWp P N B (.scope c) Q env H := by
  intro S a w hc hb
  refine wp_scope_straight (wp_mono (h S a w hc hb) ?_)
  intro e a' w' ⟨x, env', H', S', q, r, c, k⟩
  cases r with
  | nrm => exact ⟨_, env', H', S', q, .nrm, c, k⟩
  | brk => exact ⟨_, env', H', S', q, .brk, c, k⟩
  | ret => exact ⟨_, env', H', S', q, .ret, c, k⟩
  | pan hv => exact ⟨_, env', H', S', q, .pan hv, c, k⟩
end
end Go.Av
