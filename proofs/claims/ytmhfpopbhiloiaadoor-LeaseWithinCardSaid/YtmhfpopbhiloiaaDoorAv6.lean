/-
  THE RULES OF WHAT MAKES MEMORY (new variables, literals, make, append, copy), OF CALLS, AND OF THE STEPS THAT ARE THE PROOF's OWN (a row is no longer written: it becomes a list; a nil slice is given a row).
-/
import Derived.Test.YtmhfpopbhiloiaaDoorAv5
namespace Go.Av

/-! ### Filling -/
def afill (pl : List (Nat × Nat)) : List AV → List (Nat × AV) → Option (List AV)
  | cells, [] => some cells
  | cells, (i, v) :: rest =>
    match pl[i]? with
    | none => none
    | some (off, size) => if v.cells.length = size ∧ off + size ≤ cells.length ∧ v.cellish = true then afill pl (cells.take off ++ v.cells ++ cells.drop (off + size)) rest else none

/-- Cells of the model under cells from above. -/
def CellsR (S : List Slot) (w : World) (cs : List AV) (us : Array Value) : Prop :=
  cs.length = us.size ∧ ∀ (j : Nat) (v : AV), cs[j]? = some v → v.leaf = true ∧ ∃ u, us[j]? = some u ∧ VR (own S) w S v u

theorem foldl_set (vs : List Value) : ∀ (off j0 : Nat) (cs : Array Value), off + j0 + vs.length ≤ cs.size →
    ((vs.zipIdx j0).foldl (fun cs (x : Value × Nat) => cs.setIfInBounds (off + x.2) x.1) cs).toList = cs.toList.take (off + j0) ++ vs ++ cs.toList.drop (off + j0 + vs.length) := by
  induction vs with
  | nil => intro off j0 cs _; simp
  | cons v vs ih =>
    intro off j0 cs h
    simp only [List.length_cons] at h
    rw [List.zipIdx_cons, List.foldl_cons, ih off (j0 + 1) _ (by simp; omega)]
    have e := list_seg_step cs.toList (off + j0) v vs (by simp; omega)
    simp only [Array.toList_setIfInBounds, List.length_cons]
    rw [show off + (j0 + 1) = off + j0 + 1 by omega]
    exact e

theorem CellsR.put {S : List Slot} {w : World} {cs ds : List AV} {us : Array Value} {ws : Array Value} {off : Nat} (h : CellsR S w cs us) (hd : CellsR S w ds ws) (hfit : off + ds.length ≤ cs.length) :
    CellsR S w (cs.take off ++ ds ++ cs.drop (off + ds.length)) (ws.zipIdx.foldl (fun cs (c, j) => cs.setIfInBounds (off + j) c) us) := by
  have hl := h.1
  have hl2 := hd.1
  have e : (ws.zipIdx.foldl (fun cs (c, j) => cs.setIfInBounds (off + j) c) us).toList = us.toList.take off ++ ws.toList ++ us.toList.drop (off + ws.toList.length) := by
    have := foldl_set ws.toList off 0 us (by simp; omega)
    simp only [Nat.add_zero] at this
    rw [← this]
    congr 1
    rw [← Array.foldl_toList, Array.toList_zipIdx]
  have hsz : (ws.zipIdx.foldl (fun cs (c, j) => cs.setIfInBounds (off + j) c) us).size = us.size := by
    rw [← Array.length_toList, e]
    simp
    omega
  refine ⟨by rw [hsz]; simp; omega, fun j v hv => ?_⟩
  rw [← Array.getElem?_toList, e]
  rw [List.append_assoc] at hv ⊢
  have h1 : (cs.take off).length = off := by simp; omega
  have h2 : (us.toList.take off).length = off := by simp; omega
  by_cases hj : j < off
  · rw [List.getElem?_append_left (by omega), List.getElem?_take, if_pos hj] at hv
    obtain ⟨hl, u, hu, hr⟩ := h.2 j v hv
    exact ⟨hl, u, by rw [List.getElem?_append_left (by omega), List.getElem?_take, if_pos hj]; simpa using hu, hr⟩
  · rw [List.getElem?_append_right (by omega), h1] at hv
    rw [List.getElem?_append_right (by omega), h2]
    by_cases hj2 : j < off + ds.length
    · rw [List.getElem?_append_left (by omega)] at hv
      obtain ⟨hl, u, hu, hr⟩ := hd.2 (j - off) v hv
      exact ⟨hl, u, by rw [List.getElem?_append_left (by simp; omega)]; simpa using hu, hr⟩
    · rw [List.getElem?_append_right (by omega), List.getElem?_drop] at hv
      obtain ⟨hl, u, hu, hr⟩ := h.2 _ v hv
      refine ⟨hl, u, ?_, hr⟩
      rw [List.getElem?_append_right (by simp; omega), List.getElem?_drop]
      rw [show off + ws.toList.length + (j - off - ws.toList.length) = off + ds.length + (j - off - ds.length) by simp; omega]
      simpa using hu

theorem fill_ok {S : List Slot} {w : World} {pl : List (Nat × Nat)} {place : Nat → Option (Nat × Nat)} (hp : ∀ i, place i = pl[i]?) : ∀ (parts : List (Nat × AV)) (us : List (Nat × Value)) (cs cs' : List AV) (vs : Array Value),
    parts.length = us.length → (∀ (j : Nat) (x : Nat × AV) (y : Nat × Value), parts[j]? = some x → us[j]? = some y → x.1 = y.1 ∧ VR (own S) w S x.2 y.2) → CellsR S w cs vs → afill pl cs parts = some cs' →
    ∃ vs', Instr.fill place vs us = some vs' ∧ CellsR S w cs' vs'
  | [], [], cs, cs', vs, _, _, h, he => by
    simp [afill] at he
    subst he
    exact ⟨vs, rfl, h⟩
  | (i, v) :: parts, (i', u) :: us, cs, cs', vs, hn, hr, h, he => by
    obtain ⟨hi, hv⟩ := hr 0 _ _ rfl rfl
    simp only at hi hv
    subst hi
    unfold afill at he
    cases hpl : pl[i]? with
    | none => rw [hpl] at he; cases he
    | some x =>
      obtain ⟨off, size⟩ := x
      rw [hpl] at he
      simp only at he
      split at he
      · rename_i hc
        obtain ⟨h1, h2, h3⟩ := hc
        obtain ⟨k1, _, k3⟩ := hv.cells h3
        have hd : CellsR S w v.cells u.cells := ⟨k1, k3⟩
        have hput := h.put hd (off := off) (by omega)
        rw [h1] at hput
        obtain ⟨vs', e1, e2⟩ := fill_ok hp parts us _ cs' _ (by simpa using hn) (fun j x y hx hy => hr (j + 1) x y hx hy) hput he
        refine ⟨vs', ?_, e2⟩
        have hif : (decide (u.cells.size ≠ size) || decide (off + u.cells.size > vs.size)) = false := by
          have := h.1
          simp
          omega
        unfold Instr.fill
        rw [hp, hpl]
        simp only
        simp only [hif, Bool.false_eq_true, if_false]
        exact e1
      · cases he
  | [], _ :: _, _, _, _, hn, _, _, _ => by simp at hn
  | _ :: _, [], _, _, _, hn, _, _, _ => by simp at hn

theorem CellsR.leaf1 {S : List Slot} {w : World} {v : Value} (h : (ofLeaf v).leaf = true) : CellsR S w [ofLeaf v] #[v] := ⟨rfl, fun j x hx => by
  cases j with
  | zero => simp at hx; subst hx; exact ⟨h, v, by simp, ofLeaf_ok _ _ _ v⟩
  | succ j => simp at hx⟩
/-- A constant's cells. -/
theorem CellsR.of_val {S : List Slot} {w : World} {z : Value} {cs : List AV} (h : z.cells.toList.map ofLeaf = cs) (hl : cs.all AV.leaf = true) : CellsR S w cs z.cells := by
  subst h
  refine ⟨by simp, fun j v hv => ⟨List.all_eq_true.1 hl v (List.mem_of_getElem? hv), ?_⟩⟩
  rw [List.getElem?_map] at hv
  cases hj : z.cells.toList[j]? with
  | none => simp [hj] at hv
  | some u =>
    rw [hj] at hv
    obtain rfl := Option.some.inj hv
    exact ⟨u, by simpa using hj, ofLeaf_ok _ _ _ u⟩

/-- The zero value's cells. -/
class ZcI (P : Program) (t : TypeId) (cs : outParam (List AV)) : Prop where
  ze : ∃ z, (P.info? t).bind (·.zero) = some z ∧ z.cells.toList.map ofLeaf = cs ∧ cs.all AV.leaf = true
/-- A struct's fields: where, how wide. -/
class StI (P : Program) (t : TypeId) (pl : outParam (List (Nat × Nat))) : Prop where
  ud : (match P.underlying t with | some (.struct fs) => fs.toList.mapM (fun f => (P.info? f.type).map fun i => (f.offset, i.size)) | _ => none) = some pl

theorem run_zc {P : Program} {t : TypeId} {cs : List AV} [h : ZcI P t cs] (S : List Slot) (w : World) : ∃ z, (zeroValue t).run P w = .ok z w ∧ CellsR S w cs z.cells := by
  obtain ⟨z, h1, h2, h3⟩ := h.ze
  refine ⟨z, ?_, .of_val h2 h3⟩
  cases hd : P.info? t with
  | none => simp [hd] at h1
  | some i => simp [hd] at h1; simp [zeroValue, typeInfo, hd, h1]

theorem mapM_option_some {α β : Type} {f : α → Option β} : ∀ {l : List α} {r : List β}, l.mapM f = some r → l.length = r.length ∧ ∀ (i : Nat) (x : α), l[i]? = some x → f x = r[i]?
  | [], r, h => by simp at h; subst h; simp
  | x :: l, r, h => by
    simp only [List.mapM_cons] at h
    cases hx : f x with
    | none => simp [hx] at h
    | some y =>
      cases hl : l.mapM f with
      | none => simp [hx, hl] at h
      | some ys =>
        simp [hx, hl] at h
        subst h
        obtain ⟨h1, h2⟩ := mapM_option_some hl
        refine ⟨by simp [h1], fun i z hz => ?_⟩
        cases i with
        | zero => simp at hz; subst hz; simpa using hx
        | succ i => simpa using h2 i z (by simpa using hz)

theorem run_places {P : Program} (w : World) : ∀ (l : List Field) (pl : List (Nat × Nat)), l.mapM (fun f => (P.info? f.type).map fun i => (f.offset, i.size)) = some pl →
    (l.mapM (m := Sem) fun f => do pure (f.offset, ← sizeOf f.type)).run P w = .ok pl w
  | [], pl, h => by simp at h; subst h; simp
  | f :: l, pl, h => by
    simp only [List.mapM_cons] at h
    cases hx : P.info? f.type with
    | none => simp [hx] at h
    | some i =>
      cases hl : l.mapM (fun f => (P.info? f.type).map fun i => (f.offset, i.size)) with
      | none => simp [hx, hl] at h
      | some ys =>
        simp [hx, hl] at h
        subst h
        have ih := run_places w l ys hl
        simp only [List.mapM_cons, Sem.run_bind, sizeOf, typeInfo, run_program, Result.andThen_ok, hx, Sem.run_pure] at ih ⊢
        rw [ih]
        simp

section
variable {P : Program} {N : Nat} {B : Base} {Q : Post} {env : Env} {H : Heap} {ty : TypeId} {ops : Array Oper} {rest : List Oper}

theorem parts_ok {S : List Slot} {a : Act} {w : World} (hc : CR N env H S a w) (parts : Array (Nat × Operand)) : (parts.toList.map fun (i, x) => (i, aev env x)).length = (parts.map fun (i, x) => (i, a.eval x)).toList.length ∧
    ∀ (j : Nat) (x : Nat × AV) (y : Nat × Value), (parts.toList.map fun (i, x) => (i, aev env x))[j]? = some x → (parts.map fun (i, x) => (i, a.eval x)).toList[j]? = some y → x.1 = y.1 ∧ VR (own S) w S x.2 y.2 := by
  refine ⟨by simp, fun j x y hx hy => ?_⟩
  simp only [Array.toList_map, List.getElem?_map] at hx hy
  cases hj : parts.toList[j]? with
  | none => simp [hj] at hx
  | some p =>
    rw [hj] at hx hy
    obtain rfl := Option.some.inj hx
    obtain rfl := Option.some.inj hy
    exact ⟨rfl, hc.ev p.2⟩

theorem CellsR.agg {S : List Slot} {w : World} {cs : List AV} {us : Array Value} (h : CellsR S w cs us) : VR (own S) w S (.agg cs) (.agg us) :=
  .agg h.1 (fun j v hv => (h.2 j v hv).1) (fun j v u hv hu => by
    obtain ⟨_, u', hu', hr⟩ := h.2 j v hv
    rw [hu] at hu'
    obtain rfl := Option.some.inj hu'
    exact hr)

/-- A struct's literal. -/
theorem o_build {t : TypeId} {parts : Array (Nat × Operand)} {pl : List (Nat × Nat)} {zs cs : List AV} [hz : ZcI P t zs] [hs : StI P t pl] (hf : afill pl zs (parts.toList.map fun (i, x) => (i, aev env x)) = some cs) : V1 P N (.build t parts) ty env H (.agg cs) := by
  intro S a w hc
  obtain ⟨z, hz1, hz2⟩ := run_zc (P := P) (t := t) S w
  obtain ⟨h1, h2⟩ := parts_ok hc parts
  obtain ⟨vs', e1, e2⟩ := fill_ok (S := S) (w := w) (place := (pl.toArray[·]?)) (pl := pl) (fun i => by simp) _ _ zs cs z.cells h1 h2 hz2 hf
  refine ⟨.agg vs', fun _ _ _ _ => ?_, e2.agg⟩
  have hu := hs.ud
  cases hd : P.underlying t with
  | none => simp [hd] at hu
  | some d =>
    rw [hd] at hu
    cases d <;> simp only [] at hu <;> try (cases hu; done)
    rename_i fs
    have hp := run_places (P := P) w fs.toList pl hu
    have hp' : (fs.mapM (m := Sem) fun f => do pure (f.offset, ← sizeOf f.type)).run P w = .ok pl.toArray w := by
      have e : fs = fs.toList.toArray := by simp
      rw [e, List.mapM_toArray, Sem.run_map, hp]
      simp
    simp only [execOp, Instr.build, Sem.run_bind, hz1, Result.andThen_ok, run_und hd, hp', e1, Sem.run_pure]

/-! ### New variables -/
theorem CellsR.row {S : List Slot} {w : World} {cs : List AV} {us : Array Value} {sz : Nat} (h : CellsR S w cs us) (hn : cs.length = sz) : RowOK (own S) S w sz us [cs] := by
  refine ⟨by simp [← h.1, hn], fun i r hr => ?_⟩
  cases i with
  | zero =>
    simp at hr
    subst hr
    exact ⟨hn, fun j v hv => by simpa using h.2 j v hv⟩
  | succ i => simp at hr

theorem new_ptr {S : List Slot} {H : Heap} {w w' : World} {sz : Nat} (hlen : H.length = S.length) : VR (own (S ++ [⟨0, sz, some w.heap.size⟩])) w' (S ++ [⟨0, sz, some w.heap.size⟩]) (.pt H.length 0 0 0) (.pointer (some ⟨w.heap.size, 0, none⟩)) := by
  refine .pt ⟨0, sz, some w.heap.size⟩ (by rw [hlen]; exact SExt.last S _) (Nat.le_refl _) rfl fun _ => ⟨w.heap.size, rfl, by simp⟩

theorem o_alloc {t : TypeId} {sz : Nat} {zs : List AV} [hz : ZcI P t zs] (hn : zs.length = sz) (hp : 0 < sz) : V2 P N (.alloc t) ty env H (.pt H.length 0 0 0) (H ++ [⟨0, sz, [zs]⟩]) := by
  intro dst pos after guard S a w hc next Q hnext _
  obtain ⟨z, hz1, hz2⟩ := run_zc (P := P) (t := t) S w
  have hm := Made.alloc w z.cells t
  obtain ⟨hh, hx⟩ := hc.heap.made hm hp (hz2.row hn)
  have hrun : (execOp a.eval ⟨dst, .alloc t, ty, pos, after, guard⟩).run P w = .ok (.value (.pointer (some ⟨w.heap.size, 0, none⟩))) (w.alloc (.cells z.cells t)) := by
    simp [execOp, Instr.alloc, hz1, newVar, newRow]
  unfold Oper.wp
  rw [hrun]
  exact hnext _ _ _ _ _ ⟨rfl, rfl⟩ hh hx (new_ptr hc.heap.len)
theorem o_box {t : TypeId} {x : Operand} {v : AV} {sz : Nat} {cs : List AV} (hx : aev env x = v) (hv : v.cellish = true) (hcs : v.cells = cs) (hn : cs.length = sz) (hp : 0 < sz) : V2 P N (.box t x) ty env H (.pt H.length 0 0 0) (H ++ [⟨0, sz, [cs]⟩]) := by
  intro dst pos after guard S a w hc next Q hnext _
  have hvr := hc.ev x
  rw [hx] at hvr
  obtain ⟨h1, _, h3⟩ := hvr.cells hv
  subst hcs
  have hm := Made.alloc w (a.eval x).cells t
  obtain ⟨hh, hx'⟩ := hc.heap.made hm hp (CellsR.row ⟨h1, h3⟩ hn)
  have hrun : (execOp a.eval ⟨dst, .box t x, ty, pos, after, guard⟩).run P w = .ok (.value (.pointer (some ⟨w.heap.size, 0, none⟩))) (w.alloc (.cells (a.eval x).cells t)) := by
    simp [execOp, Instr.box, newVar, newRow]
  unfold Oper.wp
  rw [hrun]
  exact hnext _ _ _ _ _ ⟨rfl, rfl⟩ hh hx' (new_ptr hc.heap.len)

theorem new_slc {S : List Slot} {H : Heap} {w w' : World} {sz n c : Nat} {arr : Array Value} {et : TypeId} (hlen : H.length = S.length) (hnew : w'.heap[w.heap.size]? = some (Obj.cells arr et (0, 0))) (hsz : c * sz ≤ arr.size) (hc : n ≤ c) :
    VR (own (S ++ [⟨0, sz, some w.heap.size⟩])) w' (S ++ [⟨0, sz, some w.heap.size⟩]) (.sl H.length 0 0 n n) (.slice (some ⟨w.heap.size, 0, none⟩) n c) := by
  refine .sl ⟨0, sz, some w.heap.size⟩ (by rw [hlen]; exact SExt.last S _) (Nat.le_refl _) rfl fun _ => ⟨c, hc, hc, .inr ⟨w.heap.size, arr, et, rfl, by simp, hnew, by simpa using hsz⟩⟩

/-- Rows of one width, laid one behind the other. -/
theorem rows_of_flat {S : List Slot} {w : World} {sz : Nat} {rows : List (List AV)} {us : Array Value} (hw : ∀ r ∈ rows, r.length = sz) (h : CellsR S w rows.flatten us) : RowOK (own S) S w sz us rows := by
  have hget : ∀ (rows : List (List AV)), (∀ r ∈ rows, r.length = sz) → ∀ (i : Nat) (r : List AV) (j : Nat), rows[i]? = some r → j < sz → rows.flatten[i * sz + j]? = r[j]? := by
    intro rows
    induction rows with
    | nil => intro _ i r j hr _; simp at hr
    | cons x rows ih =>
      intro hw i r j hr hj
      have hx : x.length = sz := hw x (by simp)
      cases i with
      | zero =>
        simp at hr
        subst hr
        rw [List.flatten_cons, List.getElem?_append_left (by omega)]
        simp
      | succ i =>
        have := ih (fun r h => hw r (by simp [h])) i r j (by simpa using hr) hj
        rw [List.flatten_cons, List.getElem?_append_right (by rw [hx, Nat.succ_mul]; omega), hx, show (i + 1) * sz + j - sz = i * sz + j by rw [Nat.succ_mul]; omega]
        exact this
  have hlen : ∀ (rows : List (List AV)), (∀ r ∈ rows, r.length = sz) → rows.flatten.length = rows.length * sz := by
    intro rows
    induction rows with
    | nil => simp
    | cons x rows ih => intro hw; rw [List.flatten_cons, List.length_append, ih (fun r h => hw r (by simp [h])), hw x (by simp), List.length_cons, Nat.succ_mul]; omega
  refine ⟨by rw [← h.1, hlen rows hw]; exact Nat.le_refl _, fun i r hr => ?_⟩
  have hrl := hw r (List.mem_of_getElem? hr)
  refine ⟨hrl, fun j v hv => ?_⟩
  have hj : j < sz := by rw [← hrl]; exact (List.getElem?_eq_some_iff.1 hv).1
  exact h.2 (i * sz + j) v (by rw [hget rows hw i r j hr hj]; exact hv)

theorem CellsR.rep {S : List Slot} {w : World} {cs : List AV} {us : Array Value} (h : CellsR S w cs us) (hpos : 0 < cs.length) (n : Nat) : CellsR S w (List.replicate n cs).flatten ((Array.range (n * cs.length)).map (us[· % us.size]!)) := by
  have hlen : ∀ n, ((List.replicate n cs).flatten).length = n * cs.length := by intro n; simp
  have hget : ∀ n j, j < n * cs.length → ((List.replicate n cs).flatten)[j]? = cs[j % cs.length]? := by
    intro n
    induction n with
    | zero => intro j hj; simp at hj
    | succ n ih =>
      intro j hj
      rw [List.replicate_succ, List.flatten_cons]
      by_cases hlt : j < cs.length
      · rw [List.getElem?_append_left hlt, Nat.mod_eq_of_lt hlt]
      · rw [List.getElem?_append_right (by omega), ih (j - cs.length) (by rw [Nat.succ_mul] at hj; omega)]
        exact congrArg (cs[·]?) (Nat.mod_eq_sub_mod (by omega)).symm
  refine ⟨by simp [hlen], fun j v hv => ?_⟩
  have hj : j < n * cs.length := by rw [← hlen]; exact (List.getElem?_eq_some_iff.1 hv).1
  rw [hget n j hj] at hv
  obtain ⟨hl, u, hu, hr⟩ := h.2 _ v hv
  refine ⟨hl, u, ?_, hr⟩
  have hsz := h.1
  have hlt : j % us.size < us.size := Nat.mod_lt _ (by omega)
  rw [hsz] at hu
  have hu' : us[j % us.size] = u := by
    rw [Array.getElem?_eq_getElem hlt] at hu
    exact Option.some.inj hu
  have hj' : j < (Array.range (n * cs.length)).size := by simpa using hj
  rw [Array.getElem?_map, Array.getElem?_eq_getElem hj']
  simp [hlt, hu']

/-- The literal of a slice: 'fill' by elements. -/
theorem o_buildSlice {t e : TypeId} {n sz : Nat} {parts : Array (Nat × Operand)} {agg : Bool} {zs cs : List AV} {rows : List (List AV)} [hu : SlI P t e] [TyI P e agg sz] [hz : ZcI P e zs] (hn : zs.length = sz) (hp : 0 < sz) (h0 : 0 < n) (hbig : n * sz ≤ 16777216)
    (hf : afill ((List.range n).map fun i => (i * sz, sz)) (List.replicate n zs).flatten (parts.toList.map fun (i, x) => (i, aev env x)) = some cs) (hrows : rows.flatten = cs) (hw : ∀ r ∈ rows, r.length = sz) :
    V2 P N (.buildSlice t n parts) ty env H (.sl H.length 0 0 n n) (H ++ [⟨0, sz, rows⟩]) := by
  intro dst pos after guard S a w hc next Q hnext _
  obtain ⟨z, hz1, hz2⟩ := run_zc (P := P) (t := e) S w
  obtain ⟨h1, h2⟩ := parts_ok hc parts
  have hrep := hz2.rep (by omega) n
  rw [hn] at hrep
  -- only parts below n are laid
  have key : ∀ (parts : List (Nat × AV)) (us : List (Nat × Value)) (cs cs' : List AV) (vs : Array Value),
      parts.length = us.length → (∀ (j : Nat) (x : Nat × AV) (y : Nat × Value), parts[j]? = some x → us[j]? = some y → x.1 = y.1 ∧ VR (own S) w S x.2 y.2) → CellsR S w cs vs → afill ((List.range n).map fun i => (i * sz, sz)) cs parts = some cs' →
      ∃ vs', Instr.fill (fun i => some (i * sz, sz)) vs us = some vs' ∧ CellsR S w cs' vs' := by
    intro parts
    induction parts with
    | nil =>
      intro us cs cs' vs hl _ h he
      cases us with
      | nil => simp [afill] at he; subst he; exact ⟨vs, rfl, h⟩
      | cons y us => simp at hl
    | cons x parts ih =>
      intro us cs cs' vs hl hr h he
      cases us with
      | nil => simp at hl
      | cons y us =>
        obtain ⟨i, v⟩ := x
        obtain ⟨i', u⟩ := y
        obtain ⟨hi, hv⟩ := hr 0 _ _ rfl rfl
        simp only at hi hv
        subst hi
        unfold afill at he
        cases hpl : ((List.range n).map fun i => (i * sz, sz))[i]? with
        | none => rw [hpl] at he; cases he
        | some x =>
          have hx : x = (i * sz, sz) := by
            rw [List.getElem?_map] at hpl
            cases hi : (List.range n)[i]? with
            | none => simp [hi] at hpl
            | some k =>
              have hk : k = i := by
                have := List.getElem?_eq_some_iff.1 hi
                obtain ⟨hlt, e⟩ := this
                simpa using e.symm
              rw [hi] at hpl
              subst hk
              exact (Option.some.inj hpl).symm
          subst hx
          rw [hpl] at he
          simp only at he
          split at he
          · rename_i hcnd
            obtain ⟨c1, c2, c3⟩ := hcnd
            obtain ⟨k1, _, k3⟩ := hv.cells c3
            have hput := h.put ⟨k1, k3⟩ (off := i * sz) (by omega)
            rw [c1] at hput
            obtain ⟨vs', e1, e2⟩ := ih us _ cs' _ (by simpa using hl) (fun j x y hx hy => hr (j + 1) x y hx hy) hput he
            refine ⟨vs', ?_, e2⟩
            have hif : (decide (u.cells.size ≠ sz) || decide (i * sz + u.cells.size > vs.size)) = false := by
              have := h.1
              simp
              omega
            unfold Instr.fill
            simp only [hif, Bool.false_eq_true, if_false]
            exact e1
          · cases he
  obtain ⟨vs', e1, e2⟩ := key _ _ (List.replicate n zs).flatten cs _ h1 h2 hrep hf
  have hm := Made.alloc w vs' e
  subst hrows
  obtain ⟨hh, hx⟩ := hc.heap.made hm hp (rows_of_flat hw e2)
  have hlen : rows.flatten.length = vs'.size := e2.1
  have hsize : vs'.size = n * sz := by
    have hfl : ∀ (parts : List (Nat × AV)) (cs cs' : List AV), afill ((List.range n).map fun i => (i * sz, sz)) cs parts = some cs' → cs'.length = cs.length := by
      intro parts
      induction parts with
      | nil => intro cs cs' he; simp [afill] at he; rw [he]
      | cons x parts ih =>
        intro cs cs' he
        obtain ⟨i, v⟩ := x
        unfold afill at he
        split at he
        · cases he
        · split at he
          · rename_i hcnd
            have := ih _ _ he
            rw [this]
            simp
            omega
          · cases he
    have := hfl _ _ _ hf
    have h3 : ((List.replicate n zs).flatten).length = n * sz := by simp [hn]
    rw [← hlen, this, h3]
  have hrun : (execOp a.eval ⟨dst, .buildSlice t n parts, ty, pos, after, guard⟩).run P w = .ok (.value (.slice (some ⟨w.heap.size, 0, none⟩) n n)) (w.alloc (.cells vs' e)) := by
    have hne : ¬ (n * sz = 0) := by
      intro e
      rcases Nat.mul_eq_zero.1 e with h | h <;> omega
    have hnb : ¬ (n * sz > 2 ^ 24) := by omega
    have hzc : z.cells.size = sz := by rw [← hz2.1, hn]
    simp only [execOp, Instr.buildSlice, Sem.run_bind, run_und hu.ud, Result.andThen_ok, run_sz (P := P) (t := e) (agg := agg) (sz := sz), hnb, hne, if_false, hz1, Sem.run_pure, e1]
    simp [newRow]
  unfold Oper.wp
  rw [hrun]
  exact hnext _ _ _ _ _ ⟨rfl, rfl⟩ hh hx (new_slc hc.heap.len hm.new (by omega) (Nat.le_refl _))
theorem o_buildSlice0 {t e : TypeId} {sz : Nat} {agg : Bool} [hu : SlI P t e] [TyI P e agg sz] : V2 P N (.buildSlice t 0 #[]) ty env H .nsl H := by
  intro dst pos after guard S a w hc next Q hnext _
  have hm := Made.alloc w #[] e
  have hx := hm.same (S := S)
  have hrun : (execOp a.eval ⟨dst, .buildSlice t 0 #[], ty, pos, after, guard⟩).run P w = .ok (.value (.slice (some ⟨w.heap.size, 0, none⟩) 0 0)) (w.alloc (.cells #[] e)) := by
    simp [execOp, Instr.buildSlice, run_und hu.ud, run_sz (P := P) (t := e) (agg := agg) (sz := sz), Instr.fill, newRow, Array.range_zero']
  unfold Oper.wp
  rw [hrun]
  have hh : HRel H S (w.alloc (.cells #[] e)) := by
    refine ⟨hc.heap.len, fun id o s ho hs => ?_, hc.heap.inj⟩
    have ok := hc.heap.obj id o s ho hs
    refine ⟨ok.gen, ok.sz, ok.pos, ok.nope, fun b hb => ?_⟩
    obtain ⟨arr, ty', h1, h2⟩ := ok.row hb
    exact ⟨arr, ty', by rw [hm.old b (Array.getElem?_eq_some_iff.1 h1).1]; exact h1, (h2.mono hx.stp hx.slots).1, (h2.mono hx.stp hx.slots).2⟩
  exact hnext _ _ _ _ _ ⟨rfl, rfl⟩ hh hx .nsl

theorem o_makeSlice {t e : TypeId} {x y : Operand} {k k' : IntKind} {n c sz bytes : Nat} {agg : Bool} {zs : List AV} [hu : SlI P t e] [TyI P e agg sz] [hz : ZcI P e zs] [hby : ByI P e bytes] (hn : zs.length = sz) (hp : 0 < sz)
    (hx : aev env x = .int k (n : Int)) (hy : aev env y = .int k' (c : Int)) (hnc : n ≤ c) (hb : bytes * c ≤ 281474976710656) (h63 : (c : Int) ≤ 9223372036854775807) :
    V2 P N (.makeSlice t x y) ty env H (.sl H.length 0 0 n c) (H ++ [⟨0, sz, List.replicate c zs⟩]) := by
  intro dst pos after guard S a w hc next Q hnext _
  obtain ⟨z, hz0, hz1, hz2⟩ := hz.ze
  have hzr : CellsR S w zs z.cells := .of_val hz1 hz2
  have hti := (inferInstance : TyI P e agg sz).info
  have htb := hby.by_
  cases hd : P.info? e with
  | none => simp [hd] at hti
  | some i =>
    simp [hd] at hti htb hz0
    have hr := run_make (P := P) w t e i z hu.ud hd hz0 k k' (n : Int) (c : Int) (by omega) (by omega) (by rw [htb, ← Int.natCast_mul]; omega) h63
    have hm := Made.alloc w (madeCells z.cells (c * i.size)) e
    have hrep := hzr.rep (by omega) c
    rw [hn] at hrep
    have hrow : RowOK (own S) S w sz (madeCells z.cells (c * i.size)) (List.replicate c zs) := by
      rw [hti]
      exact rows_of_flat (fun r hr => by rw [List.eq_of_mem_replicate hr]; exact hn) hrep
    obtain ⟨hh, hx'⟩ := hc.heap.made hm hp hrow
    have hrun : (execOp a.eval ⟨dst, .makeSlice t x y, ty, pos, after, guard⟩).run P w = .ok (.value (.slice (some ⟨w.heap.size, 0, none⟩) n c)) (w.alloc (.cells (madeCells z.cells (c * i.size)) e)) := by
      show Sem.run P (do pure (Next.value (← Instr.makeSlice t (a.eval x) (a.eval y)))) w = _
      rw [ev_int hc hx, ev_int hc hy, Sem.run_bind, hr]
      rfl
    unfold Oper.wp
    rw [hrun]
    refine hnext _ _ _ _ _ ⟨rfl, rfl⟩ hh hx' ?_
    refine .sl ⟨0, sz, some w.heap.size⟩ (by rw [hc.heap.len]; exact SExt.last S _) (Nat.le_refl _) rfl fun _ => ⟨c, Nat.le_refl _, hnc, .inr ⟨w.heap.size, _, _, rfl, by simp, hm.new, ?_⟩⟩
    simp [size_madeCells, hti]
end
end Go.Av
