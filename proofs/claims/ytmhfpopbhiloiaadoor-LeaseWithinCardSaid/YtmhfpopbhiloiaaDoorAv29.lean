/-
  APPEND ONTO A SLICE THAT DOES NOT BEGIN AT ITS ROW's HEAD (a queue): in place, or into a new row. AND where many ways meet.
-/
import Derived.Test.YtmhfpopbhiloiaaDoorAv14
namespace Go.Av
section
variable {P : Program} {N : Nat} {B : Base} {Q : Post} {env : Env} {H H0 L : Heap} {ty : TypeId} {ops : Array Oper} {rest : List Oper}
theorem o_appendO {t t' e : TypeId} {x y : Operand} {id off len cap sz bytes : Nat} {agg : Bool} {zs : List AV} {o : AObj} {ys : List (List AV)} [hu : SlI P t e] [NiI P t'] [TyI P e agg sz] [hz : ZcI P e zs] [ByI P e bytes] (hn : zs.length = sz)
    (hx : aev env x = .sl id o.gen off len cap) (hid : H[id]? = some o) (hsz : o.sz = sz) (hlen : off + len ≤ o.rows.length) (hy : Src P N env H y sz ys) (h63 : len + ys.length ≤ 9223372036854775807) (hb : (len + ys.length) * bytes ≤ 140737488355328) (hne : 0 < ys.length) (dst : Option Nat) (pos : String) (after : Array Edge) (guard : Option (Nat × Bool)) :
    AOp P N ⟨dst, .call { callee := .builtin .append, args := #[x, y], argTypes := #[t, t'] }, ty, pos, after, guard⟩ env H
      (fun v H' => ∃ js, (js = o.rows.take off ∨ js = []) ∧ v = .sl id (o.gen + 1) js.length (len + ys.length) (len + ys.length) ∧ H' = H.set id ⟨o.gen + 1, o.sz, js ++ (o.rows.drop off).take len ++ ys⟩) (fun _ _ => False) := by
  intro S a w hc next Q hnext _
  obtain ⟨news, hs⟩ := hy S a w hc
  obtain ⟨s, c, hsl, ok, hcc, hlc, h⟩ := hc.slc hx hid
  have hlt : id < S.length := (List.getElem?_eq_some_iff.1 hsl).1
  have hgen : s.gen = o.gen := ok.gen.symm
  have hssz : s.sz = sz := by rw [← ok.sz]; exact hsz
  have hnl := hs.cells.1
  rw [flat_length hs.wide] at hnl
  generalize hms : (o.rows.drop off).take len = ms
  have hml : ms.length = len := by rw [← hms, List.length_take, List.length_drop]; omega
  have hmg : ∀ i r, ms[i]? = some r → o.rows[off + i]? = some r := by
    intro i r hr
    rw [← hms, List.getElem?_take] at hr
    split at hr
    · rwa [List.getElem?_drop] at hr
    · cases hr
  -- what grows into a new block
  have grown : ∀ (ad : Option Addr) (olds : Array Value), a.eval x = .slice ad len c → c < len + ys.length → (∀ w', w'.heap = w.heap → (Builtin.firstCells sz len (.slice ad len c)).run P w' = .ok olds w') →
      CellsR S w ms.flatten olds → (∀ r ∈ ms, r.length = sz) → Oper.wp P ⟨dst, .call { callee := .builtin .append, args := #[x, y], argTypes := #[t, t'] }, ty, pos, after, guard⟩ a w next Q := by
    intro ad olds he hroom hold hco hwo
    obtain ⟨cap', rest, h1, h2, hr⟩ := run_append_out (P := P) (t := t) (t' := t') (e := e) (ty := ty) (sz := sz) (bytes := bytes) (agg := agg) (zs := zs) hs hold hroom h63 hb
    have hm := Made.drew_alloc w (olds ++ news ++ rest) e
    have hwide : ∀ r ∈ ms ++ ys, r.length = sz := by
      intro r hr
      rcases List.mem_append.1 hr with h | h
      · exact hwo r h
      · exact hs.wide r h
    have hrow0 : RowOK (own S) S w sz (olds ++ news ++ rest) (ms ++ ys) := RowOK.of_cells hwide (by rw [List.flatten_append]; exact hco.append hs.cells)
    have hx' : Ext S w (S.set id ⟨s.gen + 1, s.sz, some w.heap.size⟩) (w.drew.alloc (.cells (olds ++ news ++ rest) e)) := by
      refine ⟨hm.os, hm.tape, hm.output, ⟨by rw [hm.size]; omega, fun b hb' ho => ⟨fun k => ?_, hm.old b hb'⟩, fun b arr ty hb' => ⟨arr, by rw [hm.old b (Array.getElem?_eq_some_iff.1 hb').1]; exact hb', rfl⟩⟩, SExt.bump hsl (by simp)⟩
      obtain ⟨i, si, hi, hpi⟩ := k
      by_cases e1 : id = i
      · subst e1
        rw [List.getElem?_set_self hlt] at hi
        obtain rfl := Option.some.inj hi
        simp at hpi
        omega
      · rw [List.getElem?_set_ne e1] at hi
        exact ho ⟨i, si, hi, hpi⟩
    have hh := hc.heap.move (rows' := ms ++ ys) hid hsl hx' (fun j sj hj hpj => by
        have := own_lt hc.heap ⟨j, sj, hj, hpj⟩
        omega) (fun j sj b' hj _ hpj => hm.old b' (own_lt hc.heap ⟨j, sj, hj, hpj⟩)) hm.new (by rw [hsz]; exact hrow0.mono hx'.stp hx'.slots)
    have hrun : (execOp a.eval ⟨dst, .call { callee := .builtin .append, args := #[x, y], argTypes := #[t, t'] }, ty, pos, after, guard⟩).run P w = .ok (.value (.slice (some ⟨w.heap.size, 0, none⟩) (len + ys.length) cap')) (w.drew.alloc (.cells (olds ++ news ++ rest) e)) := by
      simp [execOp, resolve, invoke, builtin, he, hr]
    unfold Oper.wp
    rw [hrun]
    refine hnext _ _ _ _ _ ⟨[], .inr rfl, rfl, by rw [List.nil_append, hms]⟩ hh hx' ?_
    refine .sl ⟨s.gen + 1, s.sz, some w.heap.size⟩ (List.getElem?_set_self hlt) (by simp [hgen]) rfl fun _ => ⟨cap', by omega, h1, .inr ⟨w.heap.size, _, _, rfl, by simp, hm.new, ?_⟩⟩
    have hol := hco.1
    rw [flat_length hwo] at hol
    simp only [Array.size_append, ← hnl, ← hol, h2, hn, hml, ← Nat.add_mul, Nat.zero_add, List.length_nil]
    rw [hssz]
    exact Nat.mul_le_mul_right _ (by omega)
  rcases h with ⟨h0, ad, he⟩ | ⟨b, arr, et, hp, he, hbl, hfit, hrow⟩
  · have el : len = 0 := by omega
    subst el
    subst h0
    have : ms = [] := List.eq_nil_of_length_eq_zero hml
    subst this
    refine grown ad #[] he (by omega) (fun w' _ => ?_) ⟨by simp, fun _ _ h => by simp at h⟩ (by simp)
    cases ad with
    | none => rfl
    | some ad => simp [Builtin.firstCells, loadCells, loadCellsFrom]
  · have hwa : ∀ r ∈ o.rows, r.length = sz := by
      intro r hr
      obtain ⟨i, hi⟩ := List.mem_iff_getElem?.1 hr
      rw [← hsz]
      exact (hrow.2 i r hi).1
    have hwo : ∀ r ∈ ms, r.length = sz := by
      intro r hr
      obtain ⟨i, hi⟩ := List.mem_iff_getElem?.1 hr
      exact hwa r (List.mem_of_getElem? (hmg i r hi))
    by_cases hroom : len + ys.length ≤ c
    · -- in place
      have hr := run_append_in (P := P) (t := t) (t' := t') (e := e) (ty := ty) (agg := agg) hs (base := some ⟨b, off * o.sz, none⟩) hroom
      generalize hM : off + len = M at hlen
      have hpo : off * o.sz + len * sz = M * sz := by rw [hsz, ← Nat.add_mul, hM]
      have hfit2 : M * sz + news.size ≤ arr.size := by
        rw [← hnl, ← Nat.add_mul]
        rw [hsz] at hfit
        exact Nat.le_trans (Nat.mul_le_mul_right _ (by omega)) hfit
      have hst := run_storeCells_at P b (M * sz) et news.toList 0 arr w hbl (by simpa using hfit2) hs.one
      simp only [Nat.add_zero, Array.length_toList] at hst
      have hsize : (arr.toList.take (M * sz) ++ news.toList ++ arr.toList.drop (M * sz + news.size)).toArray.size = arr.size := by
        simp
        omega
      have ho : own S b := ⟨id, s, hsl, hp⟩
      have hx' : Ext S w (S.set id ⟨s.gen + 1, s.sz, some b⟩) (w.setRow b (arr.toList.take (M * sz) ++ news.toList ++ arr.toList.drop (M * sz + news.size)).toArray) := by
        refine .of_row ho rfl rfl rfl (by simp) (fun k _ hk => setRow_other w b k _ hk) (fun a' t'' h' => ?_) (fun k hk hno k' => ?_) (SExt.bump hsl (by simp))
        · rw [hbl] at h'
          injection h' with h'
          injection h' with h1 h2
          subst h1; subst h2
          exact ⟨_, setRow_heap w b arr _ et (0, 0) hbl, hsize⟩
        · obtain ⟨i, si, hi, hpi⟩ := k'
          by_cases e1 : id = i
          · subst e1
            rw [List.getElem?_set_self hlt] at hi
            obtain rfl := Option.some.inj hi
            simp at hpi
            subst hpi
            exact hno ho
          · rw [List.getElem?_set_ne e1] at hi
            exact hno ⟨i, si, hi, hpi⟩
      have hsplit : o.rows.take M = o.rows.take off ++ ms := by rw [← hM, ← hms, List.take_add]
      have hwt : ∀ r ∈ o.rows.take M, r.length = sz := fun r hr => hwa r (List.mem_of_mem_take hr)
      have hwide : ∀ r ∈ o.rows.take M ++ ys, r.length = sz := by
        intro r hr
        rcases List.mem_append.1 hr with h | h
        · exact hwt r h
        · exact hs.wide r h
      have hrow' : RowOK (own S) S w sz (arr.toList.take (M * sz) ++ news.toList ++ arr.toList.drop (M * sz + news.size)).toArray (o.rows.take M ++ ys) := by
        have e1 : (arr.toList.take (M * sz) ++ news.toList ++ arr.toList.drop (M * sz + news.size)).toArray = (arr.toList.take (M * sz)).toArray ++ news ++ (arr.toList.drop (M * sz + news.size)).toArray := by
          simp
        rw [e1]
        refine RowOK.of_cells hwide ?_
        rw [List.flatten_append]
        refine CellsR.append ?_ hs.cells
        have hl2 : (o.rows.take M).flatten.length = M * sz := by rw [flat_length hwt, List.length_take, Nat.min_eq_left hlen]
        have hle : M * sz ≤ arr.size := by omega
        refine ⟨by rw [hl2]; simp; omega, fun k v hk => ?_⟩
        have hklt : k < M * sz := by rw [← hl2]; exact (List.getElem?_eq_some_iff.1 hk).1
        have hpos : 0 < sz := by rcases Nat.eq_zero_or_pos sz with e | e; · subst e; simp at hklt
                                 · exact e
        have hi : k / sz < (o.rows.take M).length := by rw [List.length_take, Nat.min_eq_left hlen]; exact (Nat.div_lt_iff_lt_mul hpos).2 hklt
        have hj : k % sz < sz := Nat.mod_lt _ hpos
        have hk' : k / sz * sz + k % sz = k := Nat.div_add_mod' k sz
        have h3 := flat_get hwt (List.getElem?_eq_getElem hi) hj
        rw [hk', hk] at h3
        have h4 : o.rows[k / sz]? = some (o.rows.take M)[k / sz] := by
          have := List.getElem?_eq_getElem hi
          rw [List.getElem?_take] at this
          split at this
          · exact this
          · cases this
        obtain ⟨k1, u, k2, k3⟩ := (hrow.2 _ _ h4).2 _ v h3.symm
        rw [hsz, hk'] at k2
        exact ⟨k1, u, by simp [hklt, k2], k3⟩
      have hh := hc.heap.move (rows' := o.rows.take M ++ ys) hid hsl hx' (fun j sj hj hpj => hc.heap.inj j id sj s b hj hsl hpj hp) (fun j sj b' hj hne' hpj => setRow_other w b b' _ (fun e => hne' (hc.heap.inj j id sj s b hj hsl (e ▸ hpj) hp)))
        (setRow_heap w b arr _ et (0, 0) hbl) (by rw [hsz]; exact hrow'.mono hx'.stp hx'.slots)
      have hrun : (execOp a.eval ⟨dst, .call { callee := .builtin .append, args := #[x, y], argTypes := #[t, t'] }, ty, pos, after, guard⟩).run P w = .ok (.value (.slice (some ⟨b, off * o.sz, none⟩) (len + ys.length) c)) (w.setRow b (arr.toList.take (M * sz) ++ news.toList ++ arr.toList.drop (M * sz + news.size)).toArray) := by
        simp only [add_none, hpo, hst] at hr
        simp [execOp, resolve, invoke, builtin, he, hr]
      unfold Oper.wp
      rw [hrun]
      have hol : (o.rows.take off).length = off := by rw [List.length_take]; omega
      refine hnext _ _ _ _ _ ⟨o.rows.take off, .inl rfl, rfl, by rw [hms, ← hsplit]⟩ hh hx' ?_
      refine .sl ⟨s.gen + 1, s.sz, some b⟩ (List.getElem?_set_self hlt) (by simp [hgen]) rfl fun _ => ⟨c, by omega, by omega, .inr ⟨b, _, _, rfl, by simp [hol, hssz, hsz], setRow_heap w b arr _ et (0, 0) hbl, ?_⟩⟩
      rw [hsize, hssz, hol, ← hsz]
      exact hfit
    · -- into a new block
      have hcell : ∀ k, k < len * sz → w.cell? ((⟨b, off * o.sz, none⟩ : Addr).add k) = some ((fun k => arr.getD (off * sz + k) undef) k) := by
        intro k hk
        have : off * sz + k < arr.size := by
          have h1 : (off + len) * o.sz ≤ (off + c) * o.sz := Nat.mul_le_mul_right _ (by omega)
          rw [hsz, Nat.add_mul] at h1
          rw [hsz] at hfit
          omega
        rw [add_none, cell_of_row w b _ arr _ _ hbl, hsz]
        simp [this]
      have hco : CellsR S w ms.flatten ((List.range (ms.length * sz)).map fun k => arr.getD (off * sz + k) undef).toArray := flat_cells hwo fun i r hr j v hv' => by
        obtain ⟨h1, u, h2, h3⟩ := (hrow.2 _ r (hmg i r hr)).2 j v hv'
        refine ⟨h1, ?_⟩
        rw [hsz] at h2
        have e : arr.getD (off * sz + (i * sz + j)) undef = u := by rw [← Nat.add_assoc, ← Nat.add_mul]; simp [h2]
        rw [e]
        exact h3
      rw [hml] at hco
      exact grown (some ⟨b, off * o.sz, none⟩) _ he (by omega) (fun w' hw' => first_cells hcell w' hw') hco hwo
/-- As a walk uses it. -/
theorem ao_appO {t t' e : TypeId} {x y : Operand} {n k g off len cap sz bytes d : Nat} {agg : Bool} {zs : List AV} {o : AObj} {ys : List (List AV)} {pos : String} {after : Array Edge} [hu : SlI P t e] [NiI P t'] [TyI P e agg sz] [hz : ZcI P e zs] [ByI P e bytes]
    (hd : d < N) (hx : aev env x = .sl (Lid n k) g off len cap) (hn : H0.length = n) (hk : L[k]? = some o) (hg : o.gen = g) (hsz : o.sz = sz) (hy : Src P N env (H0 ++ L) y sz ys) (hz' : zs.length = sz) (hlen : off + len ≤ o.rows.length) (hne : 0 < ys.length) (h63 : len + ys.length ≤ 9223372036854775807) (hb : (len + ys.length) * bytes ≤ 140737488355328)
    (h : ∀ js, (js = o.rows.take off ∨ js = []) → AOps P N B ops rest Q ((d, .sl (Lid n k) (g + 1) js.length (len + ys.length) (len + ys.length)) :: env) (H0 ++ L.set k ⟨g + 1, o.sz, js ++ (o.rows.drop off).take len ++ ys⟩)) :
    AOps P N B ops (⟨some d, .call { callee := .builtin .append, args := #[x, y], argTypes := #[t, t'] }, ty, pos, after, none⟩ :: rest) Q env (H0 ++ L) := by
  subst hg
  refine ao_cons rfl (by rintro _ ⟨⟩; exact hd) (o_appendO (agg := agg) (e := e) (zs := zs) (bytes := bytes) hz' hx (lk hn hk) hsz hlen hy h63 hb hne _ _ _ _) ?_ (fun _ _ h => h.elim)
  rintro _ _ ⟨js, hjs, rfl, rfl⟩
  rw [st hn]
  exact h js hjs
end

/-! #### where many ways meet -/
def JoinG (B : Base) {G : Type} (I : G → Prop) (E : G → Env) (M : G → Heap) (Q : Post) : Post
  | .nrm, e, H => ∃ g, I g ∧ Sub (E g) e ∧ Fit B (E g) H (M g)
  | x, e, H => Q x e H
section
variable {P : Program} {N : Nat} {B : Base} {Q : Post} {env : Env} {H : Heap}
theorem aw_joinG {x : Code} {G : Type} (I : G → Prop) (E : G → Env) (M : G → Heap) (h : AWp P N B x (JoinG B I E M Q) env H) (k : ∀ g, I g → Q .nrm (E g) (M g)) : AWp P N B x Q env H := by
  intro S a w hc hb
  refine wp_mono (h S a w hc hb) ?_
  rintro e a' w' ⟨ax, env', H', S', hj, r, c', k'⟩
  cases ax with
  | nrm =>
    cases r
    obtain ⟨g, hi, hs, hf⟩ := hj
    obtain ⟨S2, c2, k2⟩ := (c'.sub hs).fit k' hf
    exact ⟨.nrm, E g, M g, S2, k g hi, .nrm, c2, k2⟩
  | brk i => exact ⟨_, env', H', S', hj, r, c', k'⟩
  | ret => exact ⟨_, env', H', S', hj, r, c', k'⟩
  | pan v => exact ⟨_, env', H', S', hj, r, c', k'⟩
theorem joinG_nrm {G : Type} {I : G → Prop} {E : G → Env} {M : G → Heap} (g : G) (hi : I g) (h1 : Sub (E g) env) (h2 : Fit B (E g) H (M g)) : JoinG B I E M Q .nrm env H := ⟨g, hi, h1, h2⟩
theorem joinG_ret {G : Type} {I : G → Prop} {E : G → Env} {M : G → Heap} (h : Q .ret env H) : JoinG B I E M Q .ret env H := h
theorem joinG_brk {G : Type} {I : G → Prop} {E : G → Env} {M : G → Heap} {i : Nat} (h : Q (.brk i) env H) : JoinG B I E M Q (.brk i) env H := h
end
end Go.Av
