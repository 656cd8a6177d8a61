/-
  THE ABSTRACT MEMORY UNDER THE MODEL'S STEPS: a row is written, a new one is made, one moves to another block; and the rules of loads, stores, new variables.
-/
import Derived.Test.YtmhfpopbhiloiaaDoorAv3
namespace Go.Av

def RowOK (O : Nat → Prop) (S : List Slot) (w : World) (sz : Nat) (arr : Array Value) (rows : List (List AV)) : Prop :=
  rows.length * sz ≤ arr.size ∧ ∀ (i : Nat) (r : List AV), rows[i]? = some r → r.length = sz ∧ ∀ (j : Nat) (v : AV), r[j]? = some v → v.leaf = true ∧ ∃ u, arr[i * sz + j]? = some u ∧ VR O w S v u

theorem ObjOK.row {S : List Slot} {w : World} {o : AObj} {s : Slot} (h : ObjOK S w o s) {b : Nat} (hp : s.place = some b) : ∃ (arr : Array Value) (ty : TypeId), w.heap[b]? = some (Obj.cells arr ty (0, 0)) ∧ RowOK (own S) S w o.sz arr o.rows := by
  obtain ⟨arr, ty, h1, h2, h3⟩ := h.lies b hp
  exact ⟨arr, ty, h1, h2, h3⟩

theorem RowOK.mono {O O' : Nat → Prop} {S S' : List Slot} {w w' : World} {sz : Nat} {arr : Array Value} {rows : List (List AV)} (h : RowOK O S w sz arr rows) (hw : Stp O O' w w') (hS : SExt S S') : RowOK O' S' w' sz arr rows :=
  ⟨h.1, fun i r hr => ⟨(h.2 i r hr).1, fun j v hv => by
    obtain ⟨hl, u, hu, hvr⟩ := (h.2 i r hr).2 j v hv
    exact ⟨hl, u, hu, hvr.mono hw hS⟩⟩⟩

theorem HRel.slot {H : Heap} {S : List Slot} {w : World} (h : HRel H S w) {id : Nat} {o : AObj} (hid : H[id]? = some o) : ∃ s, S[id]? = some s ∧ ObjOK S w o s := by
  have hi : id < S.length := by rw [← h.len]; exact (List.getElem?_eq_some_iff.1 hid).1
  exact ⟨S[id], List.getElem?_eq_getElem hi, h.obj id o _ hid (List.getElem?_eq_getElem hi)⟩

/-- A new world that keeps all blocks but one of the call's own, the sizes and the rest. -/
theorem Ext.of_row {S S' : List Slot} {w w' : World} {b : Nat} (hb : own S b) (hos : w'.os = w.os) (htape : w'.tape = w.tape) (hout : w'.output = w.output) (hsize : w.heap.size ≤ w'.heap.size)
    (hother : ∀ k, k < w.heap.size → k ≠ b → w'.heap[k]? = w.heap[k]?) (hrow : ∀ arr ty, w.heap[b]? = some (Obj.cells arr ty (0, 0)) → ∃ arr', w'.heap[b]? = some (Obj.cells arr' ty (0, 0)) ∧ arr'.size = arr.size)
    (hown : ∀ k, k < w.heap.size → ¬ own S k → ¬ own S' k) (hS : SExt S S') : Ext S w S' w' := by
  refine ⟨hos, htape, hout, ⟨hsize, fun k hk ho => ⟨hown k hk ho, hother k hk (fun e => ho (e ▸ hb))⟩, fun k arr ty hk => ?_⟩, hS⟩
  by_cases e : k = b
  · subst e; exact hrow arr ty hk
  · exact ⟨arr, by rw [hother k (Array.getElem?_eq_some_iff.1 hk).1 e]; exact hk, rfl⟩

theorem setRow_ext {S : List Slot} {w : World} {b : Nat} {arr arr' : Array Value} {ty : TypeId} (ho : own S b) (hb : w.heap[b]? = some (Obj.cells arr ty (0, 0))) (hsz : arr'.size = arr.size) : Ext S w S (w.setRow b arr') :=
  .of_row ho rfl rfl rfl (by simp) (fun k _ hk => setRow_other w b k arr' hk) (fun a t h => by
    rw [hb] at h
    injection h with h
    injection h with h1 h2
    subst h1; subst h2
    exact ⟨arr', setRow_heap w b arr arr' ty (0, 0) hb, hsz⟩) (fun _ _ h => h) (SExt.refl S)

theorem HRel.write {H : Heap} {S : List Slot} {w : World} (h : HRel H S w) {id b : Nat} {o : AObj} {s : Slot} {arr arr' : Array Value} {ty : TypeId} {rows' : List (List AV)}
    (hid : H[id]? = some o) (hs : S[id]? = some s) (hp : s.place = some b) (hb : w.heap[b]? = some (Obj.cells arr ty (0, 0))) (hsz : arr'.size = arr.size) (hr : RowOK (own S) S w o.sz arr' rows') :
    HRel (H.set id { o with rows := rows' }) S (w.setRow b arr') ∧ Ext S w S (w.setRow b arr') := by
  have hx : Ext S w S (w.setRow b arr') := setRow_ext ⟨id, s, hs, hp⟩ hb hsz
  have ho := h.obj id o s hid hs
  refine ⟨⟨by simpa using h.len, fun id' o' s' ho' hs' => ?_, h.inj⟩, hx⟩
  by_cases e : id = id'
  · subst e
    rw [hs] at hs'
    obtain rfl := Option.some.inj hs'
    rw [List.getElem?_set_self (List.getElem?_eq_some_iff.1 hid).1] at ho'
    obtain rfl := Option.some.inj ho'
    refine ⟨ho.gen, ho.sz, ho.pos, fun hn => (by rw [hp] at hn; cases hn), fun b' hb' => ?_⟩
    rw [hp] at hb'
    obtain rfl := Option.some.inj hb'
    exact ⟨arr', ty, setRow_heap w b arr arr' ty (0, 0) hb, (hr.mono hx.stp hx.slots).1, (hr.mono hx.stp hx.slots).2⟩
  · rw [List.getElem?_set_ne e] at ho'
    have ok := h.obj id' o' s' ho' hs'
    refine ⟨ok.gen, ok.sz, ok.pos, ok.nope, fun b' hb' => ?_⟩
    have hne : b' ≠ b := fun e2 => e (h.inj id id' s s' b hs hs' hp (e2 ▸ hb'))
    obtain ⟨arr2, ty2, h2, r2⟩ := ok.row hb'
    exact ⟨arr2, ty2, by rw [setRow_other w b b' arr' hne]; exact h2, (r2.mono hx.stp hx.slots).1, (r2.mono hx.stp hx.slots).2⟩

/-- A row that moves, or grows where it lies: its number of moves goes up. -/
theorem HRel.move {H : Heap} {S : List Slot} {w w' : World} (h : HRel H S w) {id b : Nat} {o : AObj} {s : Slot} {arr : Array Value} {ty : TypeId} {rows' : List (List AV)}
    (hid : H[id]? = some o) (hs : S[id]? = some s) (hx : Ext S w (S.set id ⟨s.gen + 1, s.sz, some b⟩) w') (hnew : ∀ (j : Nat) (sj : Slot), S[j]? = some sj → sj.place = some b → j = id)
    (hkeep : ∀ (j : Nat) (sj : Slot) (b' : Nat), S[j]? = some sj → j ≠ id → sj.place = some b' → w'.heap[b']? = w.heap[b']?)
    (hb : w'.heap[b]? = some (Obj.cells arr ty (0, 0))) (hr : RowOK (own (S.set id ⟨s.gen + 1, s.sz, some b⟩)) (S.set id ⟨s.gen + 1, s.sz, some b⟩) w' o.sz arr rows') :
    HRel (H.set id ⟨o.gen + 1, o.sz, rows'⟩) (S.set id ⟨s.gen + 1, s.sz, some b⟩) w' := by
  have ho := h.obj id o s hid hs
  have hlt : id < S.length := (List.getElem?_eq_some_iff.1 hs).1
  have hltH : id < H.length := (List.getElem?_eq_some_iff.1 hid).1
  refine ⟨by simpa using h.len, fun id' o' s' ho' hs' => ?_, fun i j si sj b' hi hj hbi hbj => ?_⟩
  · by_cases e : id = id'
    · subst e
      rw [List.getElem?_set_self hlt] at hs'
      rw [List.getElem?_set_self hltH] at ho'
      obtain rfl := Option.some.inj hs'
      obtain rfl := Option.some.inj ho'
      refine ⟨by simp [ho.gen], ho.sz, ho.pos, fun hn => (by cases hn), fun b' hb' => ?_⟩
      obtain rfl := Option.some.inj hb'
      exact ⟨arr, ty, hb, hr.1, hr.2⟩
    · rw [List.getElem?_set_ne e] at ho' hs'
      have ok := h.obj id' o' s' ho' hs'
      refine ⟨ok.gen, ok.sz, ok.pos, ok.nope, fun b' hb' => ?_⟩
      obtain ⟨arr2, ty2, h2, r2⟩ := ok.row hb'
      exact ⟨arr2, ty2, by rw [hkeep id' s' b' hs' (Ne.symm e) hb']; exact h2, (r2.mono hx.stp hx.slots).1, (r2.mono hx.stp hx.slots).2⟩
  · by_cases ei : id = i
    · by_cases ej : id = j
      · exact ei.symm.trans ej
      · subst ei
        rw [List.getElem?_set_self hlt] at hi
        rw [List.getElem?_set_ne ej] at hj
        obtain rfl := Option.some.inj hi
        obtain rfl := Option.some.inj hbi
        exact (hnew j sj hj hbj).symm
    · by_cases ej : id = j
      · subst ej
        rw [List.getElem?_set_self hlt] at hj
        rw [List.getElem?_set_ne ei] at hi
        obtain rfl := Option.some.inj hj
        obtain rfl := Option.some.inj hbj
        exact hnew i si hi hbi
      · rw [List.getElem?_set_ne ei] at hi
        rw [List.getElem?_set_ne ej] at hj
        exact h.inj i j si sj b' hi hj hbi hbj

theorem SExt.bump {S : List Slot} {id : Nat} {s : Slot} {x : Slot} (hs : S[id]? = some s) (hx : s.gen < x.gen) : SExt S (S.set id x) := fun j sj hj => by
  by_cases e : id = j
  · subst e
    rw [hs] at hj
    obtain rfl := Option.some.inj hj
    exact ⟨x, List.getElem?_set_self (List.getElem?_eq_some_iff.1 hs).1, Nat.le_of_lt hx, fun e => by omega⟩
  · exact ⟨sj, by rw [List.getElem?_set_ne e]; exact hj, Nat.le_refl _, fun _ => ⟨rfl, rfl⟩⟩

/-- A new row. -/
theorem HRel.push {H : Heap} {S : List Slot} {w w' : World} (h : HRel H S w) {s : Slot} {rows : List (List AV)} (hx : Ext S w (S ++ [s]) w') (hpos : 0 < s.sz)
    (hold : ∀ b, b < w.heap.size → w'.heap[b]? = w.heap[b]?) (hnone : s.place = none → rows = [])
    (hsome : ∀ b, s.place = some b → w.heap.size ≤ b ∧ ∃ (arr : Array Value) (ty : TypeId), w'.heap[b]? = some (Obj.cells arr ty (0, 0)) ∧ RowOK (own (S ++ [s])) (S ++ [s]) w' s.sz arr rows) :
    HRel (H ++ [⟨s.gen, s.sz, rows⟩]) (S ++ [s]) w' := by
  refine ⟨by simp [h.len], fun id o' s' ho' hs' => ?_, fun i j si sj b' hi hj hbi hbj => ?_⟩
  · by_cases e : id < S.length
    · rw [List.getElem?_append_left e] at hs'
      rw [List.getElem?_append_left (by rw [h.len]; exact e)] at ho'
      have ok := h.obj id o' s' ho' hs'
      refine ⟨ok.gen, ok.sz, ok.pos, ok.nope, fun b' hb' => ?_⟩
      obtain ⟨arr2, ty2, h2, r2⟩ := ok.row hb'
      exact ⟨arr2, ty2, by rw [hold b' (Array.getElem?_eq_some_iff.1 h2).1]; exact h2, (r2.mono hx.stp hx.slots).1, (r2.mono hx.stp hx.slots).2⟩
    · have el : id = S.length := by
        have := (List.getElem?_eq_some_iff.1 hs').1
        simp at this
        omega
      subst el
      rw [List.getElem?_append_right (Nat.le_refl _)] at hs'
      rw [← h.len, List.getElem?_append_right (Nat.le_refl _)] at ho'
      simp at hs' ho'
      subst hs'; subst ho'
      refine ⟨rfl, rfl, hpos, hnone, fun b' hb' => ?_⟩
      obtain ⟨_, arr, ty, h1, h2⟩ := hsome b' hb'
      exact ⟨arr, ty, h1, h2.1, h2.2⟩
  · have key : ∀ (i : Nat) (si : Slot), (S ++ [s])[i]? = some si → si.place = some b' → (b' < w.heap.size ∧ S[i]? = some si) ∨ (w.heap.size ≤ b' ∧ i = S.length) := by
      intro i si hi hbi
      by_cases e : i < S.length
      · rw [List.getElem?_append_left e] at hi
        exact .inl ⟨own_lt h ⟨i, si, hi, hbi⟩, hi⟩
      · have el : i = S.length := by
          have := (List.getElem?_eq_some_iff.1 hi).1
          simp at this
          omega
        subst el
        rw [List.getElem?_append_right (Nat.le_refl _)] at hi
        simp at hi
        subst hi
        exact .inr ⟨(hsome b' hbi).1, rfl⟩
    rcases key i si hi hbi with ⟨h1, h2⟩ | ⟨h1, h2⟩ <;> rcases key j sj hj hbj with ⟨h3, h4⟩ | ⟨h3, h4⟩
    · exact h.inj i j si sj b' h2 h4 hbi hbj
    · omega
    · omega
    · omega

theorem own_snoc {S : List Slot} {s : Slot} {b : Nat} (h : own (S ++ [s]) b) : own S b ∨ s.place = some b := by
  obtain ⟨i, x, hx, hp⟩ := h
  by_cases e : i < S.length
  · rw [List.getElem?_append_left e] at hx; exact .inl ⟨i, x, hx, hp⟩
  · have el : i = S.length := by
      have := (List.getElem?_eq_some_iff.1 hx).1
      simp at this
      omega
    subst el
    rw [List.getElem?_append_right (Nat.le_refl _)] at hx
    simp at hx
    subst hx
    exact .inr hp

/-- The world behind a new row (draws may have gone ahead). -/
structure Made (w w' : World) (arr : Array Value) (ty : TypeId) : Prop where
  os : w'.os = w.os
  tape : w'.tape = w.tape
  output : w'.output = w.output
  size : w'.heap.size = w.heap.size + 1
  old : ∀ b, b < w.heap.size → w'.heap[b]? = w.heap[b]?
  new : w'.heap[w.heap.size]? = some (Obj.cells arr ty (0, 0))
theorem Made.alloc (w : World) (arr : Array Value) (ty : TypeId) : Made w (w.alloc (.cells arr ty)) arr ty :=
  ⟨rfl, rfl, rfl, by simp, fun b hb => heap_alloc_old w _ b hb, heap_alloc_new w _⟩
theorem Made.drew_alloc (w : World) (arr : Array Value) (ty : TypeId) : Made w (w.drew.alloc (.cells arr ty)) arr ty :=
  ⟨rfl, rfl, rfl, by simp, fun b hb => heap_alloc_old w.drew _ b hb, heap_alloc_new w.drew _⟩

theorem Made.ext {S : List Slot} {w w' : World} {arr : Array Value} {ty : TypeId} (h : Made w w' arr ty) (g sz : Nat) : Ext S w (S ++ [⟨g, sz, some w.heap.size⟩]) w' := by
  refine ⟨h.os, h.tape, h.output, ⟨by rw [h.size]; omega, fun b hb ho => ⟨fun k => ?_, h.old b hb⟩, fun b arr ty hb => ⟨arr, by rw [h.old b (Array.getElem?_eq_some_iff.1 hb).1]; exact hb, rfl⟩⟩, SExt.snoc S _⟩
  rcases own_snoc k with k | k
  · exact ho k
  · simp at k; omega
theorem Made.same {S : List Slot} {w w' : World} {arr : Array Value} {ty : TypeId} (h : Made w w' arr ty) : Ext S w S w' := by
  refine ⟨h.os, h.tape, h.output, ⟨by rw [h.size]; omega, fun b hb ho => ⟨ho, h.old b hb⟩, fun b arr ty hb => ⟨arr, by rw [h.old b (Array.getElem?_eq_some_iff.1 hb).1]; exact hb, rfl⟩⟩, SExt.refl S⟩

theorem HRel.made {H : Heap} {S : List Slot} {w w' : World} {arr : Array Value} {ty : TypeId} (h : HRel H S w) (k : Made w w' arr ty) {sz : Nat} {rows : List (List AV)} (hpos : 0 < sz)
    (hr : RowOK (own S) S w sz arr rows) : HRel (H ++ [⟨0, sz, rows⟩]) (S ++ [⟨0, sz, some w.heap.size⟩]) w' ∧ Ext S w (S ++ [⟨0, sz, some w.heap.size⟩]) w' := by
  have hx := k.ext (S := S) 0 sz
  exact ⟨h.push hx hpos k.old (fun e => by cases e) (fun b hb => by simp at hb; subst hb; exact ⟨Nat.le_refl _, arr, ty, k.new, hr.mono hx.stp hx.slots⟩), hx⟩

theorem SExt.last (S : List Slot) (s : Slot) : (S ++ [s])[S.length]? = some s := by simp

/-- Cells of a value, from above. -/
def AV.cells : AV → List AV
  | .agg cs => cs
  | v => [v]
def AV.cellish : AV → Bool
  | .agg _ => true
  | v => v.leaf

theorem VR.cells {O : Nat → Prop} {w : World} {S : List Slot} {v : AV} {u : Value} (h : VR O w S v u) (hc : v.cellish = true) :
    v.cells.length = u.cells.size ∧ (∀ x ∈ u.cells.toList, x.oneCell' = true) ∧ ∀ (j : Nat) (x : AV), v.cells[j]? = some x → x.leaf = true ∧ ∃ y, u.cells[j]? = some y ∧ VR O w S x y := by
  have simple : ∀ {v : AV} {u : Value}, VR O w S v u → v.leaf = true → v.cells = [v] → u.cells = #[u] →
      v.cells.length = u.cells.size ∧ (∀ x ∈ u.cells.toList, x.oneCell' = true) ∧ ∀ (j : Nat) (x : AV), v.cells[j]? = some x → x.leaf = true ∧ ∃ y, u.cells[j]? = some y ∧ VR O w S x y := by
    intro v u h hl e1 e2
    rw [e1, e2]
    refine ⟨rfl, fun x hx => by simp at hx; subst hx; exact h.one hl, fun j x hx => ?_⟩
    cases j with
    | zero => simp at hx; subst hx; exact ⟨hl, u, by simp, h⟩
    | succ j => simp at hx
  have onecells : ∀ {u : Value}, u.oneCell' = true → u.cells = #[u] := by intro u hu; cases u <;> first | rfl | (simp [Value.oneCell'] at hu)
  cases h with
  | agg hn hl h =>
    rename_i cs vs
    refine ⟨hn, fun x hx => ?_, fun j x hx => ?_⟩
    · obtain ⟨j, hj⟩ := List.mem_iff_getElem?.1 hx
      have hj' : vs[j]? = some x := by simpa [Value.cells] using hj
      have hlt : j < cs.length := by rw [hn]; exact (Array.getElem?_eq_some_iff.1 hj').1
      exact (h j _ x (List.getElem?_eq_getElem hlt) hj').one (hl j _ (List.getElem?_eq_getElem hlt))
    · have hx' : cs[j]? = some x := hx
      have hlt : j < vs.size := by rw [← hn]; exact (List.getElem?_eq_some_iff.1 hx').1
      exact ⟨hl j x hx', vs[j], by simp [Value.cells, hlt], h j x _ hx' (Array.getElem?_eq_getElem hlt)⟩
  | junk => simp [AV.cellish, AV.leaf] at hc
  | raw => simp [AV.cellish, AV.leaf] at hc
  | know => simp [AV.cellish, AV.leaf] at hc
  | tup => simp [AV.cellish, AV.leaf] at hc
  | int => exact simple .int rfl rfl rfl
  | bool => exact simple .bool rfl rfl rfl
  | str => exact simple .str rfl rfl rfl
  | flt => exact simple .flt rfl rfl rfl
  | nsl => exact simple .nsl rfl rfl rfl
  | pl base sz u hcc hb hs hm hl hv => exact simple (.pl base sz u hcc hb hs hm hl hv) rfl rfl rfl
  | sl s hs hg h1 h => exact simple (.sl s hs hg h1 h) rfl rfl (onecells h1)
  | pt s hs hg h1 h => exact simple (.pt s hs hg h1 h) rfl rfl (onecells h1)
  | pp base sz u hb hs hm hl hv => exact simple (.pp base sz u hb hs hm hl hv) rfl rfl rfl
  | nptr => exact simple .nptr rfl rfl rfl
  | fn hp hq h1 h2 => exact simple (.fn hp hq h1 h2) rfl rfl rfl
  | nfn => exact simple .nfn rfl rfl rfl
  | ifc h => exact simple (.ifc h) rfl rfl rfl
  | nifc => exact simple .nifc rfl rfl rfl

/-! ### Addresses -/
theorem add_none (b o n : Nat) : (⟨b, o, none⟩ : Addr).add n = ⟨b, o + n, none⟩ := by unfold Addr.add; split <;> simp_all
theorem add_add (a : Addr) (m n : Nat) : (a.add m).add n = a.add (m + n) := by
  unfold Addr.add
  by_cases hm : m = 0 <;> by_cases hn : n = 0 <;> simp [hm, hn, Nat.add_assoc]

section
variable {P : Program} {N : Nat} {env : Env} {H : Heap} {ty : TypeId}

/-- What a pointer into the call's own memory is. -/
theorem CR.ptr {S : List Slot} {a : Act} {w : World} (hc : CR N env H S a w) {x : Operand} {id i j : Nat} {o : AObj} (hx : aev env x = .pt id o.gen i j) (hid : H[id]? = some o) :
    ∃ s b arr ty, S[id]? = some s ∧ s.place = some b ∧ a.eval x = .pointer (some ⟨b, i * o.sz + j, none⟩) ∧ w.heap[b]? = some (Obj.cells arr ty (0, 0)) ∧ RowOK (own S) S w o.sz arr o.rows := by
  have hv := hc.ev x
  rw [hx] at hv
  obtain ⟨s, hs, ok⟩ := hc.heap.slot hid
  generalize a.eval x = u at hv
  cases hv with
  | pt s' hs' hg _ h =>
    rw [hs] at hs'
    obtain rfl := Option.some.inj hs'
    obtain ⟨b, hb, rfl⟩ := h ok.gen.symm
    obtain ⟨arr, ty, h1, h2⟩ := ok.row hb
    exact ⟨s, b, arr, ty, hs, hb, by rw [ok.sz], h1, h2⟩

theorem run_loadVar1 {t : TypeId} {sz : Nat} [TyI P t false sz] {w : World} {ad : Addr} {u : Value} (h : w.cell? ad = some u) : (loadVar t ad).run P w = .ok u w := by
  simp [loadVar, run_isAgg (P := P) (t := t) (agg := false), h]
theorem run_loadVarN {t : TypeId} {sz : Nat} [TyI P t true sz] {w : World} {ad : Addr} {f : Nat → Value} (h : ∀ j, j < sz → w.cell? (ad.add j) = some (f j)) : (loadVar t ad).run P w = .ok (.agg ((List.range sz).map f).toArray) w := by
  simp [loadVar, run_isAgg (P := P) (t := t) (agg := true), run_sz (P := P) (t := t) (agg := true), run_loadCells w ad sz f h]

/-- A cell, or a struct, is read out of the call's own memory. -/
theorem o_load1 {t : TypeId} {x : Operand} {id i j sz : Nat} {o : AObj} {r : List AV} {v : AV} [TyI P t false sz] (hx : aev env x = .pt id o.gen i j) (hid : H[id]? = some o) (hr : o.rows[i]? = some r) (hv : r[j]? = some v) : V1 P N (.load t x) ty env H v := by
  intro S a w hc
  obtain ⟨s, b, arr, _, hs, hp, he, hb, hrow⟩ := hc.ptr hx hid
  obtain ⟨_, u, hu, hvr⟩ := (hrow.2 i r hr).2 j v hv
  refine ⟨u, fun _ _ _ _ => ?_, hvr⟩
  have hcell : w.cell? ⟨b, i * o.sz + j, none⟩ = some u := by rw [cell_of_row w b _ arr _ _ hb]; exact hu
  simp [execOp, he, Instr.loadAt, Instr.sureAddr, run_loadVar1 (P := P) (t := t) hcell]
theorem o_loadN {t : TypeId} {x : Operand} {id i j sz : Nat} {o : AObj} {r cs : List AV} [TyI P t true sz] (hx : aev env x = .pt id o.gen i j) (hid : H[id]? = some o) (hr : o.rows[i]? = some r) (hv : (r.drop j).take sz = cs) (hn : cs.length = sz) : V1 P N (.load t x) ty env H (.agg cs) := by
  intro S a w hc
  obtain ⟨s, b, arr, _, hs, hp, he, hb, hrow⟩ := hc.ptr hx hid
  have hcs : ∀ k, k < sz → ∃ v u, cs[k]? = some v ∧ v.leaf = true ∧ arr[i * o.sz + (j + k)]? = some u ∧ VR (own S) w S v u := by
    intro k hk
    have h1 : cs[k]? = some cs[k] := List.getElem?_eq_getElem (by omega)
    have h2 : r[j + k]? = some cs[k] := by
      rw [← h1, ← hv, List.getElem?_take, if_pos hk, List.getElem?_drop]
    obtain ⟨hl, u, hu, hvr⟩ := (hrow.2 i r hr).2 (j + k) _ h2
    exact ⟨cs[k], u, h1, hl, hu, hvr⟩
  have hcell : ∀ k, k < sz → w.cell? ((⟨b, i * o.sz + j, none⟩ : Addr).add k) = some ((fun k => arr.getD (i * o.sz + (j + k)) undef) k) := by
    intro k hk
    obtain ⟨v, u, _, _, hu, _⟩ := hcs k hk
    rw [add_none, cell_of_row w b _ arr _ _ hb, Nat.add_assoc]
    simp [hu]
  refine ⟨_, fun _ _ _ _ => by simp [execOp, he, Instr.loadAt, Instr.sureAddr, run_loadVarN (P := P) (t := t) hcell]; rfl, ?_⟩
  refine .agg (by simp [hn]) (fun k v hk => ?_) (fun k v u hk hu => ?_)
  · have hlt : k < sz := by rw [← hn]; exact (List.getElem?_eq_some_iff.1 hk).1
    obtain ⟨v', _, h1, h2, _⟩ := hcs k hlt
    rw [hk] at h1
    obtain rfl := Option.some.inj h1
    exact h2
  · have hlt : k < sz := by rw [← hn]; exact (List.getElem?_eq_some_iff.1 hk).1
    obtain ⟨v', u', h1, _, h3, h4⟩ := hcs k hlt
    rw [hk] at h1
    obtain rfl := Option.some.inj h1
    have : u = u' := by simpa [hlt, h3] using hu.symm
    rw [this]
    exact h4

/-- The same out of a slice that nobody writes any more. -/
theorem CR.pptr {S : List Slot} {a : Act} {w : World} (hc : CR N env H S a w) {x : Operand} {xs : List (List AV)} {i j : Nat} {r : List AV} (hx : aev env x = .pp xs i j) (hr : xs[i]? = some r) :
    ∃ (ad : Addr) (u : Nat → Value), a.eval x = .pointer (some (ad.add j)) ∧ ¬ own S ad.block ∧ ∀ k, k < r.length → w.cell? (ad.add k) = some (u k) ∧ ∀ v, r[k]? = some v → v.leaf = true ∧ VR (own S) w S v (u k) := by
  have hv := hc.ev x
  rw [hx] at hv
  generalize a.eval x = y at hv
  cases hv with
  | pp base sz u hb hs hm hl hv =>
    have hi : i < xs.length := (List.getElem?_eq_some_iff.1 hr).1
    refine ⟨base.add (i * sz), fun k => u i k, by rw [add_add], by rw [add_block]; exact hb.1, fun k hk => ⟨?_, fun v hvk => ⟨hl i k r v hr hvk, (hv i k r v hr hvk).mono (Stp.refl _ _) (SExt.nil S)⟩⟩⟩
    rw [add_add]
    exact hm i hi k (by rw [← hs i r hr]; exact hk)
theorem o_load1p {t : TypeId} {x : Operand} {i j sz : Nat} {xs : List (List AV)} {r : List AV} {v : AV} [TyI P t false sz] (hx : aev env x = .pp xs i j) (hr : xs[i]? = some r) (hv : r[j]? = some v) : V1 P N (.load t x) ty env H v := by
  intro S a w hc
  obtain ⟨ad, u, he, _, hk⟩ := hc.pptr hx hr
  obtain ⟨h1, h2⟩ := hk j (List.getElem?_eq_some_iff.1 hv).1
  exact ⟨u j, fun _ _ _ _ => by simp [execOp, he, Instr.loadAt, Instr.sureAddr, run_loadVar1 (P := P) (t := t) h1], (h2 v hv).2⟩
theorem o_loadNp {t : TypeId} {x : Operand} {i j sz : Nat} {xs : List (List AV)} {r cs : List AV} [TyI P t true sz] (hx : aev env x = .pp xs i j) (hr : xs[i]? = some r) (hv : (r.drop j).take sz = cs) (hn : cs.length = sz) : V1 P N (.load t x) ty env H (.agg cs) := by
  intro S a w hc
  obtain ⟨ad, u, he, _, hk⟩ := hc.pptr hx hr
  have hcs : ∀ k, k < sz → ∃ v, cs[k]? = some v ∧ r[j + k]? = some v := by
    intro k hk
    have h1 : cs[k]? = some cs[k] := List.getElem?_eq_getElem (by omega)
    exact ⟨cs[k], h1, by rw [← h1, ← hv, List.getElem?_take, if_pos hk, List.getElem?_drop]⟩
  have hcell : ∀ k, k < sz → w.cell? ((ad.add j).add k) = some ((fun k => u (j + k)) k) := by
    intro k hk'
    obtain ⟨v, _, h2⟩ := hcs k hk'
    rw [add_add]
    exact (hk (j + k) (List.getElem?_eq_some_iff.1 h2).1).1
  refine ⟨_, fun _ _ _ _ => by simp [execOp, he, Instr.loadAt, Instr.sureAddr, run_loadVarN (P := P) (t := t) hcell]; rfl, ?_⟩
  refine .agg (by simp [hn]) (fun k v hk' => ?_) (fun k v u' hk' hu => ?_)
  · have hlt : k < sz := by rw [← hn]; exact (List.getElem?_eq_some_iff.1 hk').1
    obtain ⟨v', h1, h2⟩ := hcs k hlt
    rw [hk'] at h1
    obtain rfl := Option.some.inj h1
    exact ((hk (j + k) (List.getElem?_eq_some_iff.1 h2).1).2 v h2).1
  · have hlt : k < sz := by rw [← hn]; exact (List.getElem?_eq_some_iff.1 hk').1
    obtain ⟨v', h1, h2⟩ := hcs k hlt
    rw [hk'] at h1
    obtain rfl := Option.some.inj h1
    have : u' = u (j + k) := by simpa [hlt] using hu.symm
    rw [this]
    exact ((hk (j + k) (List.getElem?_eq_some_iff.1 h2).1).2 v h2).2

theorem run_storeVar {t : TypeId} {agg : Bool} {sz : Nat} [TyI P t agg sz] {w : World} {b o : Nat} {arr : Array Value} {et : TypeId} {v : Value} (hb : w.heap[b]? = some (Obj.cells arr et (0, 0))) (hn : v.cells.size = sz) (hfit : o + sz ≤ arr.size) (h1 : ∀ x ∈ v.cells.toList, x.oneCell' = true) :
    (storeVar t ⟨b, o, none⟩ v).run P w = .ok () (w.setRow b (arr.toList.take o ++ v.cells.toList ++ arr.toList.drop (o + sz)).toArray) := by
  have hst := run_storeCells_at P b o et v.cells.toList 0 arr w hb (by simp [hn]; omega) h1
  simp only [Nat.add_zero, Array.length_toList, hn] at hst
  unfold storeVar
  simp only [Sem.run_bind, run_sz (P := P) (t := t), Result.andThen_ok, hn, ne_eq, not_true_eq_false, if_false, hst]

/-- A cell, or a struct, is written into the call's own memory. -/
theorem o_store {t : TypeId} {x y : Operand} {id i j sz : Nat} {agg : Bool} {o : AObj} {r : List AV} {v : AV} [TyI P t agg sz] (hx : aev env x = .pt id o.gen i j) (hid : H[id]? = some o) (hr : o.rows[i]? = some r)
    (hy : aev env y = v) (hc : v.cellish = true) (hn : v.cells.length = sz) (hj : j + sz ≤ o.sz) :
    V2 P N (.store t x y) ty env H .junk (H.set id { o with rows := o.rows.set i (r.take j ++ v.cells ++ r.drop (j + sz)) }) := by
  intro dst pos after guard S a w hcr next Q hnext _
  obtain ⟨s, b, arr, et, hs, hp, he, hb, hrow⟩ := hcr.ptr hx hid
  have hvr := hcr.ev y
  rw [hy] at hvr
  obtain ⟨hl, h1, hcv⟩ := hvr.cells hc
  have hrl := (hrow.2 i r hr).1
  have hi : i < o.rows.length := (List.getElem?_eq_some_iff.1 hr).1
  have hfit : i * o.sz + j + sz ≤ arr.size := by
    have h2 : i * o.sz + o.sz ≤ o.rows.length * o.sz := by
      rw [← Nat.succ_mul]
      exact Nat.mul_le_mul_right _ hi
    have := hrow.1
    omega
  have hsz : (arr.toList.take (i * o.sz + j) ++ (a.eval y).cells.toList ++ arr.toList.drop (i * o.sz + j + sz)).toArray.size = arr.size := by
    simp [← hl, hn]
    omega
  have hget : ∀ k, (arr.toList.take (i * o.sz + j) ++ (a.eval y).cells.toList ++ arr.toList.drop (i * o.sz + j + sz)).toArray[k]? =
      if k < i * o.sz + j then arr[k]? else if k < i * o.sz + j + sz then (a.eval y).cells[k - (i * o.sz + j)]? else arr[k]? := by
    intro k
    have hlen1 : (arr.toList.take (i * o.sz + j)).length = i * o.sz + j := by simp; omega
    have hlen2 : (a.eval y).cells.toList.length = sz := by simp [← hl, hn]
    rw [List.getElem?_toArray, List.append_assoc]
    by_cases h1 : k < i * o.sz + j
    · rw [if_pos h1, List.getElem?_append_left (by omega), List.getElem?_take, if_pos h1]; simp
    · rw [if_neg h1, List.getElem?_append_right (by omega), hlen1]
      by_cases h2 : k < i * o.sz + j + sz
      · rw [if_pos h2, List.getElem?_append_left (by omega)]; simp
      · rw [if_neg h2, List.getElem?_append_right (by omega), hlen2, List.getElem?_drop]
        simp only [Array.getElem?_toList]
        congr 1
        omega
  have hrow' : RowOK (own S) S w o.sz (arr.toList.take (i * o.sz + j) ++ (a.eval y).cells.toList ++ arr.toList.drop (i * o.sz + j + sz)).toArray (o.rows.set i (r.take j ++ v.cells ++ r.drop (j + sz))) := by
    refine ⟨by rw [hsz]; simpa using hrow.1, fun i' r' hr' => ?_⟩
    by_cases e : i = i'
    · subst e
      rw [List.getElem?_set_self hi] at hr'
      obtain rfl := Option.some.inj hr'
      refine ⟨by simp [hn, hrl]; omega, fun k x hk => ?_⟩
      have hlen1 : (r.take j).length = j := by simp; omega
      rw [List.append_assoc] at hk
      rw [hget]
      by_cases h1 : k < j
      · rw [List.getElem?_append_left (by omega), List.getElem?_take, if_pos h1] at hk
        rw [if_pos (by omega)]
        exact (hrow.2 i r hr).2 k x hk
      · rw [List.getElem?_append_right (by omega), hlen1] at hk
        rw [if_neg (by omega)]
        by_cases h2 : k < j + sz
        · rw [List.getElem?_append_left (by omega)] at hk
          rw [if_pos (by omega), show i * o.sz + k - (i * o.sz + j) = k - j by omega]
          exact hcv (k - j) x hk
        · rw [List.getElem?_append_right (by omega), hn, List.getElem?_drop] at hk
          rw [if_neg (by omega)]
          rw [show j + sz + (k - j - sz) = k by omega] at hk
          exact (hrow.2 i r hr).2 k x hk
    · rw [List.getElem?_set_ne e] at hr'
      refine ⟨(hrow.2 i' r' hr').1, fun k x hk => ?_⟩
      have hkl : k < o.sz := by rw [← (hrow.2 i' r' hr').1]; exact (List.getElem?_eq_some_iff.1 hk).1
      rw [hget]
      rcases Nat.lt_or_gt_of_ne e with h | h
      · have : i * o.sz + o.sz ≤ i' * o.sz := by rw [← Nat.succ_mul]; exact Nat.mul_le_mul_right _ h
        rw [if_neg (by omega), if_neg (by omega)]
        exact (hrow.2 i' r' hr').2 k x hk
      · have : i' * o.sz + o.sz ≤ i * o.sz := by rw [← Nat.succ_mul]; exact Nat.mul_le_mul_right _ h
        rw [if_pos (by omega)]
        exact (hrow.2 i' r' hr').2 k x hk
  obtain ⟨hh, hx'⟩ := hcr.heap.write hid hs hp hb hsz hrow'
  have hrun : (execOp a.eval ⟨dst, .store t x y, ty, pos, after, guard⟩).run P w = .ok .skip (w.setRow b (arr.toList.take (i * o.sz + j) ++ (a.eval y).cells.toList ++ arr.toList.drop (i * o.sz + j + sz)).toArray) := by
    simp only [execOp, he, Instr.storeAt, Instr.sureAddr, Sem.run_bind, Sem.run_pure, Result.andThen_ok, run_storeVar (P := P) (t := t) hb (by rw [← hl]; exact hn) hfit h1]
  unfold Oper.wp
  rw [hrun]
  exact hnext .junk undef _ S _ ⟨rfl, rfl⟩ hh hx' .junk
end
end Go.Av
