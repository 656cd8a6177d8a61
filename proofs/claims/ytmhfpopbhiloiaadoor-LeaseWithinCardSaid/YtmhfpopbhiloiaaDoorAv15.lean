/-
  WHAT A CALL IS GIVEN: a value that reads as data is an abstract value, cell by cell.
-/
import Derived.Test.YtmhfpopbhiloiaaDoorAv14
import Derived.DataReads
import Derived.ChangeOld
namespace Go.Av

theorem flat_getT {α : Type} {sz : Nat} : ∀ {rows : List (List α)}, (∀ r ∈ rows, r.length = sz) → ∀ {i : Nat} {r : List α} {j : Nat}, rows[i]? = some r → j < sz → rows.flatten[i * sz + j]? = r[j]?
  | [], _, i, r, j, hr, _ => by simp at hr
  | x :: rows, hw, i, r, j, hr, hj => by
    have hx : x.length = sz := hw x (by simp)
    cases i with
    | zero =>
      simp at hr
      subst hr
      rw [List.flatten_cons, List.getElem?_append_left (by omega)]
      simp
    | succ i =>
      have := flat_getT (rows := rows) (fun r h => hw r (by simp [h])) (i := i) (r := r) (j := j) (by simpa using hr) hj
      rw [List.flatten_cons, List.getElem?_append_right (by rw [hx, Nat.succ_mul]; omega), hx, show (i + 1) * sz + j - sz = i * sz + j by rw [Nat.succ_mul]; omega]
      exact this

/-- The types of a type's cells; none where it holds what is not followed here. -/
def tile (P : Program) (rec : TypeId → Option (List TypeId)) (total : Nat) : Nat → List Field → Option (List TypeId)
  | off, [] => if off = total then some [] else none
  | off, f :: fs => if f.offset = off then
      match rec f.type with
      | some a => if a.length = P.cellsOf f.type then
          match tile P rec total (off + P.cellsOf f.type) fs with
          | some r => some (a ++ r)
          | none => none
        else none
      | none => none
    else none
def cellTys (P : Program) : Nat → TypeId → Option (List TypeId)
  | 0, _ => none
  | n + 1, t => match P.underlying t with
    | some .bool | some (.int _) | some .string => some [t]
    | some (.slice e) => if P.cellsOf e = 0 then none else some [t]
    | some (.struct fs) => tile P (cellTys P n) (P.cellsOf t) 0 fs.toList
    | some (.array m e) => match cellTys P n e with
      | some a => if a.length = P.cellsOf e ∧ P.cellsOf t = m * P.cellsOf e then some (List.replicate m a).flatten else none
      | none => none
    | _ => none

/-- What one cell of a type may hold. -/
def CellOk (P : Program) : Nat → TypeId → AV → Prop
  | 0, _, _ => False
  | n + 1, t, v => match P.underlying t with
    | some .bool => ∃ b, v = .bool b
    | some (.int k) => ∃ i, v = .int k i ∧ (Lit.int k i).wf = true
    | some .string => ∃ s : ByteArray, v = .str s ∧ s.size ≤ maxLen
    | some (.slice e) => ∃ rows, v = .pl rows ∧ rows.length ≤ maxLen ∧ ∀ r ∈ rows, ∃ ts, cellTys P (n + 1) e = some ts ∧ r.length = ts.length ∧ ∀ (j : Nat) (t' : TypeId) (v' : AV), ts[j]? = some t' → r[j]? = some v' → CellOk P n t' v'
    | _ => False
def RowIs (P : Program) (n : Nat) (ts : List TypeId) (r : List AV) : Prop := r.length = ts.length ∧ ∀ (j : Nat) (t' : TypeId) (v' : AV), ts[j]? = some t' → r[j]? = some v' → CellOk P n t' v'

section
variable {P : Program} {Hd : Type} {enc : TypeId × Value → Hd} {w : World} {base : Nat} {spare : Nat → Bool} {held : Bool}

theorem tile_spec {rec : TypeId → Option (List TypeId)} {total : Nat} : ∀ (fs : List Field) (off : Nat) (ts : List TypeId), tile P rec total off fs = some ts → off + ts.length = total ∧ off ≤ total ∧
    ∀ (f : Field), f ∈ fs → ∃ a, rec f.type = some a ∧ a.length = P.cellsOf f.type ∧ off ≤ f.offset ∧ f.offset + a.length ≤ total ∧ (∀ j, j < a.length → ts[f.offset - off + j]? = a[j]?)
  | [], off, ts, h => by
    unfold tile at h
    split at h
    · cases h; simp_all
    · cases h
  | f :: fs, off, ts, h => by
    unfold tile at h
    split at h
    · rename_i ho
      split at h
      · rename_i a ha
        split at h
        · rename_i hl
          split at h
          · rename_i r hr
            cases h
            obtain ⟨h1, h2, h3⟩ := tile_spec fs _ _ hr
            refine ⟨by simp; omega, by omega, fun g hg => ?_⟩
            rcases List.mem_cons.1 hg with rfl | hg
            · refine ⟨a, ha, hl, by omega, by omega, fun j hj => ?_⟩
              rw [ho, Nat.sub_self, Nat.zero_add, List.getElem?_append_left hj]
            · obtain ⟨b, k1, k2, k3, k4, k5⟩ := h3 g hg
              refine ⟨b, k1, k2, by omega, k4, fun j hj => ?_⟩
              rw [List.getElem?_append_right (by omega), ← k5 j hj]
              congr 1
              omega
          · cases h
        · cases h
      · cases h
    · cases h

/-- Which field a cell belongs to. -/
theorem tile_cover {rec : TypeId → Option (List TypeId)} {total : Nat} : ∀ (fs : List Field) (off : Nat) (ts : List TypeId), tile P rec total off fs = some ts → ∀ j, off ≤ j → j < total → ∃ f ∈ fs, f.offset ≤ j ∧ j < f.offset + P.cellsOf f.type
  | [], off, ts, h, j, h1, h2 => by
    unfold tile at h
    split at h
    · omega
    · cases h
  | f :: fs, off, ts, h, j, h1, h2 => by
    unfold tile at h
    split at h
    · rename_i ho
      split at h
      · split at h
        · split at h
          · rename_i r hr
            by_cases hj : j < off + P.cellsOf f.type
            · exact ⟨f, List.mem_cons_self, by omega, by omega⟩
            · obtain ⟨g, hg, k⟩ := tile_cover fs _ _ hr j (by omega) h2
              exact ⟨g, List.mem_cons_of_mem _ hg, k⟩
          · cases h
        · cases h
      · cases h
    · cases h

theorem trod_one {t : TypeId} {fuel : Nat} {cs : List Value} {x : DataW Hd × List MemPlace} (hu : P.underlying t = some .bool ∨ (∃ k, P.underlying t = some (.int k)) ∨ P.underlying t = some .string ∨ ∃ e, P.underlying t = some (.slice e)) (h : DataW.trod enc P w base spare held (fuel + 1) t cs = some x) : ∃ u, cs = [u] := by
  unfold DataW.trod at h
  rcases hu with hu | ⟨k, hu⟩ | hu | ⟨e, hu⟩ <;> rw [hu] at h <;> split at h <;> first | exact ⟨_, rfl⟩ | (simp_all; done)

/-- A value that reads: each of its cells reads, by its own type. -/
theorem trod_cells : ∀ (n : Nat) (t : TypeId) (ts : List TypeId) (fuel : Nat) (cs : List Value) (x : DataW Hd × List MemPlace), cellTys P n t = some ts → DataW.trod enc P w base spare held fuel t cs = some x →
    cs.length = ts.length ∧ ∀ (j : Nat) (t' : TypeId) (u : Value), ts[j]? = some t' → cs[j]? = some u → ∃ fuel' x', DataW.trod enc P w base spare held fuel' t' [u] = some x' ∧ (P.underlying t' = some .bool ∨ (∃ k, P.underlying t' = some (.int k)) ∨ P.underlying t' = some .string ∨ ∃ e, P.underlying t' = some (.slice e) ∧ P.cellsOf e ≠ 0)
  | 0, _, _, _, _, _, h, _ => by cases h
  | _ + 1, _, _, 0, _, _, _, h => by cases h
  | n + 1, t, ts, fuel + 1, cs, x, h, hx => by
    have one : ∀ u, cs = [u] → ts = [t] → (P.underlying t = some .bool ∨ (∃ k, P.underlying t = some (.int k)) ∨ P.underlying t = some .string ∨ ∃ e, P.underlying t = some (.slice e) ∧ P.cellsOf e ≠ 0) → cs.length = ts.length ∧ ∀ (j : Nat) (t' : TypeId) (u : Value), ts[j]? = some t' → cs[j]? = some u → ∃ fuel' x', DataW.trod enc P w base spare held fuel' t' [u] = some x' ∧ (P.underlying t' = some .bool ∨ (∃ k, P.underlying t' = some (.int k)) ∨ P.underlying t' = some .string ∨ ∃ e, P.underlying t' = some (.slice e) ∧ P.cellsOf e ≠ 0) := by
      rintro u rfl rfl hk
      refine ⟨rfl, fun j t' u' h1 h2 => ?_⟩
      cases j with
      | zero => simp at h1 h2; subst h1; subst h2; exact ⟨fuel + 1, x, hx, hk⟩
      | succ j => simp at h1
    unfold cellTys at h
    split at h
    · rename_i hu
      cases h
      obtain ⟨u, hcs⟩ := trod_one (.inl hu) hx
      exact one u hcs rfl (.inl hu)
    · rename_i k hu
      cases h
      obtain ⟨u, hcs⟩ := trod_one (.inr (.inl ⟨k, hu⟩)) hx
      exact one u hcs rfl (.inr (.inl ⟨k, hu⟩))
    · rename_i hu
      cases h
      obtain ⟨u, hcs⟩ := trod_one (.inr (.inr (.inl hu))) hx
      exact one u hcs rfl (.inr (.inr (.inl hu)))
    · rename_i e hu
      split at h
      · cases h
      · rename_i he
        cases h
        obtain ⟨u, hcs⟩ := trod_one (.inr (.inr (.inr ⟨e, hu⟩))) hx
        exact one u hcs rfl (.inr (.inr (.inr ⟨e, hu, he⟩)))
    · rename_i fs hu
      obtain ⟨h1, _, h3⟩ := tile_spec _ _ _ h
      rw [Nat.zero_add] at h1
      unfold DataW.trod at hx
      rw [hu] at hx
      simp only at hx
      split at hx
      · rename_i hl
        cases hm : fs.toList.mapM (fun f => DataW.trod enc P w base spare held fuel f.type ((cs.drop f.offset).take (P.cellsOf f.type))) with
        | none => rw [hm] at hx; simp at hx
        | some xs =>
          have hg := mapM_some_get hm
          refine ⟨hl.trans h1.symm, fun j t' u hj hu' => ?_⟩
          have hjt : j < P.cellsOf t := by rw [← h1]; exact (List.getElem?_eq_some_iff.1 hj).1
          obtain ⟨f, hf, k1, k2⟩ := tile_cover _ _ _ h j (Nat.zero_le _) hjt
          obtain ⟨a, ha, hal, _, _, hat⟩ := h3 f hf
          obtain ⟨i, hi⟩ := List.mem_iff_getElem?.1 hf
          have hx1 := hg i f hi
          have hil : i < xs.length := by rw [mapM_some_length hm]; exact (List.getElem?_eq_some_iff.1 hi).1
          rw [List.getElem?_eq_getElem hil] at hx1
          obtain ⟨_, hrec⟩ := trod_cells n f.type a fuel _ _ ha hx1
          have hj2 : j - f.offset < a.length := by omega
          have e1 := hat (j - f.offset) hj2
          rw [show f.offset - 0 + (j - f.offset) = j by omega, hj] at e1
          refine hrec (j - f.offset) t' u e1.symm ?_
          rw [List.getElem?_take, if_pos (by omega), List.getElem?_drop, show f.offset + (j - f.offset) = j by omega]
          exact hu'
      · cases hx
    · rename_i m e hu
      split at h
      · rename_i a ha
        split at h
        · rename_i hal
          cases h
          unfold DataW.trod at hx
          rw [hu] at hx
          simp only at hx
          split at hx
          · rename_i hl
            cases hm : (List.range m).mapM (fun i => DataW.trod enc P w base spare held fuel e ((cs.drop (i * P.cellsOf e)).take (P.cellsOf e))) with
            | none => rw [hm] at hx; simp at hx
            | some xs =>
              have hg := mapM_some_get hm
              have hfl : (List.replicate m a).flatten.length = m * P.cellsOf e := by simp [hal.1]
              refine ⟨by rw [hl, hal.2, hfl], fun j t' u hj hu' => ?_⟩
              have hjt : j < m * P.cellsOf e := by rw [← hfl]; exact (List.getElem?_eq_some_iff.1 hj).1
              have hpos : 0 < P.cellsOf e := by
                rcases Nat.eq_zero_or_pos (P.cellsOf e) with h0 | h0
                · rw [h0] at hjt; simp at hjt
                · exact h0
              have hi : j / P.cellsOf e < m := (Nat.div_lt_iff_lt_mul hpos).2 hjt
              have hx1 := hg (j / P.cellsOf e) (j / P.cellsOf e) (by simp [hi])
              have hil : j / P.cellsOf e < xs.length := by rw [mapM_some_length hm]; simpa using hi
              rw [List.getElem?_eq_getElem hil] at hx1
              obtain ⟨_, hrec⟩ := trod_cells n e a fuel _ _ ha hx1
              have hdm : j / P.cellsOf e * P.cellsOf e + j % P.cellsOf e = j := Nat.div_add_mod' _ _
              have hmod : j % P.cellsOf e < P.cellsOf e := Nat.mod_lt _ hpos
              refine hrec (j % P.cellsOf e) t' u ?_ ?_
              · have hw : ∀ r ∈ List.replicate m a, r.length = P.cellsOf e := fun r hr => by rw [List.eq_of_mem_replicate hr]; exact hal.1
                have h3 := flat_getT (sz := P.cellsOf e) hw (i := j / P.cellsOf e) (r := a) (by rw [List.getElem?_replicate, if_pos hi]) hmod
                rw [hdm] at h3
                rw [← h3]; exact hj
              · rw [List.getElem?_take, if_pos hmod, List.getElem?_drop, hdm]
                exact hu'
          · cases hx
        · cases h
      · cases h
    · cases h

theorem choose_list {α : Type} {p : Nat → α → Prop} : ∀ (n : Nat), (∀ j, j < n → ∃ v, p j v) → ∃ l : List α, l.length = n ∧ ∀ (j : Nat) (v : α), l[j]? = some v → p j v
  | 0, _ => ⟨[], rfl, fun _ _ h => by simp at h⟩
  | n + 1, h => by
    obtain ⟨l, h1, h2⟩ := choose_list n (fun j hj => h j (by omega))
    obtain ⟨v, hv⟩ := h n (by omega)
    refine ⟨l ++ [v], by simp [h1], fun j x hx => ?_⟩
    rcases Nat.lt_or_ge j l.length with hj | hj
    · rw [List.getElem?_append_left hj] at hx; exact h2 j x hx
    · rw [List.getElem?_append_right hj] at hx
      have : j - l.length = 0 := by
        rcases Nat.eq_zero_or_pos (j - l.length) with e | e
        · exact e
        · rw [List.getElem?_eq_none (by simp; omega)] at hx; cases hx
      rw [this] at hx
      simp at hx
      subst hx
      rw [show j = n by omega]
      exact hv

/-- Types all of whose cells are followed. -/
def cellDeep (P : Program) : Nat → TypeId → Bool
  | 0, _ => false
  | n + 1, t => match P.underlying t with
    | some .bool | some (.int _) | some .string => true
    | some (.slice e) => match cellTys P (n + 1) e with
      | some ts => decide (P.cellsOf e ≠ 0) && decide (ts.length = P.cellsOf e) && ts.all (cellDeep P n)
      | none => false
    | _ => false

theorem cell_vr : ∀ (n : Nat) (t : TypeId) (u : Value) (fuel : Nat) (x : DataW Hd × List MemPlace), cellDeep P n t = true → DataW.trod enc P w base spare held fuel t [u] = some x → ∃ v, CellOk P n t v ∧ v.leaf = true ∧ VR (own []) w [] v u
  | 0, _, _, _, _, h, _ => by cases h
  | _ + 1, _, _, 0, _, _, h => by cases h
  | n + 1, t, u, fuel + 1, x, h, hx => by
    unfold cellDeep at h
    unfold CellOk
    unfold DataW.trod at hx
    split at h
    · rename_i hu
      rw [hu] at hx
      split at hx <;> first | (simp_all; done) | skip
      rename_i b _ hc
      obtain rfl := (List.cons.inj hc).1
      exact ⟨_, ⟨_, rfl⟩, rfl, .bool⟩
    · rename_i k hu
      rw [hu] at hx
      split at hx <;> first | (simp_all; done) | skip
      split at hx
      · rename_i k' k'' i hk hc hw
        obtain rfl := (List.cons.inj hc).1
        injection hk with hk
        injection hk with hk
        subst hk
        obtain ⟨rfl, hw⟩ := hw
        exact ⟨_, ⟨_, rfl, hw⟩, rfl, .int⟩
      · cases hx
    · rename_i hu
      rw [hu] at hx
      split at hx <;> first | (simp_all; done) | skip
      split at hx
      · rename_i s _ hc hw
        obtain rfl := (List.cons.inj hc).1
        exact ⟨_, ⟨_, rfl, hw⟩, rfl, .str⟩
      · cases hx
    · rename_i e hu
      rw [hu] at hx
      split at h
      · rename_i ts hts
        simp only [Bool.and_eq_true, decide_eq_true_eq] at h
        obtain ⟨⟨he, htl⟩, hall⟩ := h
        split at hx <;> first | (simp_all; done) | skip
        · rename_i e' hk hc
          obtain rfl := (List.cons.inj hc).1
          refine ⟨.pl [], ⟨[], rfl, Nat.zero_le _, by simp⟩, rfl, .pl (xs := []) default 0 (fun _ _ => undef) (Nat.zero_le _) (fun h => absurd rfl h) (fun _ _ h => by simp at h) (fun _ h => by simp at h) (fun _ _ _ _ h => by simp at h) (fun _ _ _ _ h => by simp at h)⟩
        · rename_i e' a len cap hk hc
          obtain rfl := (List.cons.inj hc).1
          injection hk with hk
          injection hk with hk
          subst hk
          simp only at hx
          split at hx
          · rename_i hcnd
            cases hm : (List.range len).mapM (fun i => (w.cells? base (a.add (i * P.cellsOf e)) (P.cellsOf e)).bind (DataW.trod enc P w base spare held fuel e)) with
            | none => rw [hm] at hx; simp at hx
            | some xs =>
              have hg := mapM_some_get hm
              have row : ∀ i, i < len → ∃ r : List AV, r.length = P.cellsOf e ∧ (∀ (j : Nat) (t' : TypeId) (v' : AV), ts[j]? = some t' → r[j]? = some v' → CellOk P n t' v') ∧ a.block < w.heap.size ∧
                  ∀ (j : Nat) (v : AV), r[j]? = some v → v.leaf = true ∧ ∃ u, w.cell? (a.add (i * P.cellsOf e + j)) = some u ∧ VR (own []) w [] v u := by
                intro i hi
                have hx1 := hg i i (by simp [hi])
                have hil : i < xs.length := by rw [mapM_some_length hm]; simpa using hi
                rw [List.getElem?_eq_getElem hil] at hx1
                cases hcs : w.cells? base (a.add (i * P.cellsOf e)) (P.cellsOf e) with
                | none => rw [hcs] at hx1; simp at hx1
                | some cs =>
                  rw [hcs] at hx1
                  simp only [Option.bind_some] at hx1
                  obtain ⟨_, hcl, hcell⟩ := World.cells?_some hcs
                  obtain ⟨hl, hrec⟩ := trod_cells (n + 1) e ts fuel cs _ hts hx1
                  have hblk := World.cells?_block hcs (by omega)
                  rw [add_block] at hblk
                  obtain ⟨r, hr1, hr2⟩ := choose_list (p := fun j v => v.leaf = true ∧ (∀ t', ts[j]? = some t' → CellOk P n t' v) ∧ ∃ u, w.cell? (a.add (i * P.cellsOf e + j)) = some u ∧ VR (own []) w [] v u) (P.cellsOf e) (fun j hj => by
                    have hjc : j < cs.length := by omega
                    have hjt : j < ts.length := by omega
                    obtain ⟨fuel', x', hx', _⟩ := hrec j _ _ (List.getElem?_eq_getElem hjt) (List.getElem?_eq_getElem hjc)
                    obtain ⟨v, k1, k2, k3⟩ := cell_vr n _ _ fuel' x' (List.all_eq_true.1 hall _ (List.getElem_mem hjt)) hx'
                    refine ⟨v, k2, fun t' ht' => ?_, _, ?_, k3⟩
                    · rw [List.getElem?_eq_getElem hjt] at ht'
                      obtain rfl := Option.some.inj ht'
                      exact k1
                    · have := hcell j hj
                      rw [add_add] at this
                      rw [this, List.getElem?_eq_getElem hjc])
                  exact ⟨r, hr1, fun j t' v' ht' hv' => (hr2 j v' hv').2.1 t' ht', hblk, fun j v hv => ⟨(hr2 j v hv).1, (hr2 j v hv).2.2⟩⟩
              obtain ⟨rows, hr1, hr2⟩ := choose_list len row
              have hrows : ∀ i r, rows[i]? = some r → i < len := fun i r hr => by rw [← hr1]; exact (List.getElem?_eq_some_iff.1 hr).1
              refine ⟨.pl rows, ⟨rows, rfl, by omega, fun r hr => ?_⟩, rfl, ?_⟩
              · obtain ⟨i, hi⟩ := List.mem_iff_getElem?.1 hr
                obtain ⟨k1, k2, _, _⟩ := hr2 i r hi
                exact ⟨ts, hts, by omega, k2⟩
              · rw [← hr1]
                refine .pl a (P.cellsOf e) (fun i j => (w.cell? (a.add (i * P.cellsOf e + j))).getD undef) (by omega) (fun hne => ?_) (fun i r hr => (hr2 i r hr).1) (fun i hi j hj => ?_) (fun i j r v hr hv => ((hr2 i r hr).2.2.2 j v hv).1) (fun i j r v hr hv => ?_)
                · have hpos : 0 < rows.length := List.length_pos_iff.2 hne
                  exact ⟨rfl, by rintro ⟨i, s, hs, _⟩; simp at hs, (hr2 0 _ (List.getElem?_eq_getElem hpos)).2.2.1⟩
                · have hk := hr2 i _ (List.getElem?_eq_getElem hi)
                  obtain ⟨_, u, hu', _⟩ := hk.2.2.2 j _ (List.getElem?_eq_getElem (by rw [hk.1]; exact hj))
                  rw [hu']; rfl
                · obtain ⟨_, u, hu', hv'⟩ := (hr2 i r hr).2.2.2 j v hv
                  rw [hu']; exact hv'
          · cases hx
      · cases h
    · cases h

/-- A value that reads, as one abstract value. -/
def rowVal (t : Bool) (r : List AV) : AV := if t then .agg r else r.headD .junk
theorem trod_vr {n : Nat} {t : TypeId} {ts : List TypeId} {v : Value} {d : DataW Hd} {ps : List MemPlace} (hts : cellTys P (n + 1) t = some ts) (hd : ts.all (cellDeep P n) = true) (h : DataW.Trod enc P w base spare held t v d ps) :
    ∃ r : List AV, RowIs P n ts r ∧ r.length = v.cells.size ∧ ∀ (j : Nat) (a : AV) (u : Value), r[j]? = some a → v.cells[j]? = some u → a.leaf = true ∧ VR (own []) w [] a u := by
  obtain ⟨fuel, h⟩ := h
  obtain ⟨hl, hrec⟩ := trod_cells (n + 1) t ts fuel _ _ hts h
  obtain ⟨r, hr1, hr2⟩ := choose_list (p := fun j a => a.leaf = true ∧ (∀ t', ts[j]? = some t' → CellOk P n t' a) ∧ ∀ u, v.cells.toList[j]? = some u → VR (own []) w [] a u) ts.length (fun j hj => by
    have hjc : j < v.cells.toList.length := by omega
    obtain ⟨fuel', x', hx', _⟩ := hrec j _ _ (List.getElem?_eq_getElem hj) (List.getElem?_eq_getElem hjc)
    obtain ⟨a, k1, k2, k3⟩ := cell_vr n _ _ fuel' x' (List.all_eq_true.1 hd _ (List.getElem_mem hj)) hx'
    refine ⟨a, k2, fun t' ht' => ?_, fun u hu => ?_⟩
    · rw [List.getElem?_eq_getElem hj] at ht'
      obtain rfl := Option.some.inj ht'
      exact k1
    · rw [List.getElem?_eq_getElem hjc] at hu
      obtain rfl := Option.some.inj hu
      exact k3)
  refine ⟨r, ⟨hr1, fun j t' v' ht' hv' => (hr2 j v' hv').2.1 t' ht'⟩, by rw [hr1, ← hl]; simp, fun j a u ha hu => ⟨(hr2 j a ha).1, (hr2 j a ha).2.2 u (by simpa using hu)⟩⟩
end
end Go.Av
