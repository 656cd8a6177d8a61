/-
  append, copy, conversions between bytes and texts, calls, panics; and the steps that are the proof's own.
-/
import Derived.Test.YtmhfpopbhiloiaaDoorAv6
import Derived.Laws.IdiomStrings
namespace Go.Av

/-- What is appended or copied: its elements. -/
structure SrcR (P : Program) (S : List Slot) (w : World) (sz : Nat) (ys : List (List AV)) (x : Value) (news : Array Value) : Prop where
  len : ∀ w', (Builtin.lenOf x).run P w' = .ok ys.length w'
  first : ∀ w', w'.heap = w.heap → (Builtin.firstCells sz ys.length x).run P w' = .ok news w'
  cells : CellsR S w ys.flatten news
  one : ∀ u ∈ news.toList, u.oneCell' = true
  wide : ∀ r ∈ ys, r.length = sz

theorem flat_length {sz : Nat} : ∀ {rows : List (List AV)}, (∀ r ∈ rows, r.length = sz) → rows.flatten.length = rows.length * sz
  | [], _ => by simp
  | x :: rows, hw => by rw [List.flatten_cons, List.length_append, flat_length (fun r h => hw r (by simp [h])), hw x (by simp), List.length_cons, Nat.succ_mul]; omega
theorem flat_get {sz : Nat} : ∀ {rows : List (List AV)}, (∀ r ∈ rows, r.length = sz) → ∀ {i : Nat} {r : List AV} {j : Nat}, rows[i]? = some r → j < sz → rows.flatten[i * sz + j]? = r[j]?
  | [], _, i, r, j, hr, _ => by simp at hr
  | x :: rows, hw, i, r, j, hr, hj => by
    have hx : x.length = sz := hw x (by simp)
    cases i with
    | zero =>
      simp at hr
      subst hr
      rw [List.flatten_cons, List.getElem?_append_left (by omega)]
      simp
    | succ i =>
      have := flat_get (rows := rows) (fun r h => hw r (by simp [h])) (i := i) (r := r) (j := j) (by simpa using hr) hj
      rw [List.flatten_cons, List.getElem?_append_right (by rw [hx, Nat.succ_mul]; omega), hx, show (i + 1) * sz + j - sz = i * sz + j by rw [Nat.succ_mul]; omega]
      exact this

/-- Cells that lie row by row are the cells of the rows laid one behind the other. -/
theorem flat_cells {S : List Slot} {w : World} {sz : Nat} {ys : List (List AV)} {us : Nat → Value} (hw : ∀ r ∈ ys, r.length = sz)
    (h : ∀ (i : Nat) (r : List AV), ys[i]? = some r → ∀ (j : Nat) (v : AV), r[j]? = some v → v.leaf = true ∧ VR (own S) w S v (us (i * sz + j))) : CellsR S w ys.flatten ((List.range (ys.length * sz)).map us).toArray := by
  have hlen := flat_length hw
  refine ⟨by simp [hlen], fun k v hk => ?_⟩
  have hlt : k < ys.length * sz := by rw [← hlen]; exact (List.getElem?_eq_some_iff.1 hk).1
  have hpos : 0 < sz := by rcases Nat.eq_zero_or_pos sz with e | e; · subst e; simp at hlt
                           · exact e
  have hi : k / sz < ys.length := (Nat.div_lt_iff_lt_mul hpos).2 hlt
  have hj : k % sz < sz := Nat.mod_lt _ hpos
  have hk' : k / sz * sz + k % sz = k := Nat.div_add_mod' k sz
  have := flat_get hw (List.getElem?_eq_getElem hi) hj
  rw [hk', hk] at this
  obtain ⟨h1, h2⟩ := h (k / sz) _ (List.getElem?_eq_getElem hi) (k % sz) v this.symm
  rw [hk'] at h2
  exact ⟨h1, us k, by simp [hlt], h2⟩

theorem cell_eq_of_heap {w w' : World} (h : w'.heap = w.heap) (a : Addr) : w'.cell? a = w.cell? a := by simp [World.cell?, h]

section
variable {P : Program} {N : Nat} {B : Base} {Q : Post} {env : Env} {H : Heap} {ty : TypeId} {ops : Array Oper} {rest : List Oper}

theorem first_cells {w : World} {sz n : Nat} {ad : Addr} {l c : Nat} {us : Nat → Value} (h : ∀ k, k < n * sz → w.cell? (ad.add k) = some (us k)) (w' : World) (hw : w'.heap = w.heap) :
    (Builtin.firstCells sz n (.slice (some ad) l c)).run P w' = .ok ((List.range (n * sz)).map us).toArray w' := by
  have := run_loadCells (P := P) w' ad (n * sz) us (fun j hj => by rw [cell_eq_of_heap hw]; exact h j hj)
  simpa [Builtin.firstCells] using this

theorem src_pl {S : List Slot} {a : Act} {w : World} (hc : CR N env H S a w) {x : Operand} {ys : List (List AV)} {sz : Nat} (hx : aev env x = .pl ys) (hw : ∀ r ∈ ys, r.length = sz) : ∃ news, SrcR P S w sz ys (a.eval x) news := by
  have hv := hc.ev x
  rw [hx] at hv
  generalize a.eval x = u at hv
  cases hv with
  | @pl _ _ ad c base z u hcap hb hs hm hl hv =>
    by_cases hne : ys = []
    · subst hne
      refine ⟨#[], fun w' => rfl, fun w' _ => ?_, ⟨rfl, fun _ _ h => by simp at h⟩, by simp, by simp⟩
      cases ad with
      | none => rfl
      | some ad => simp [Builtin.firstCells, loadCells, loadCellsFrom]
    · obtain ⟨k1, k2, k3⟩ := hb hne
      subst k1
      have hz : z = sz := by
        cases ys with
        | nil => exact absurd rfl hne
        | cons r ys => rw [← hs 0 r rfl]; exact hw r (by simp)
      subst hz
      have hcell : ∀ k, k < ys.length * z → w.cell? (base.add k) = some (u (k / z) (k % z)) := by
        intro k hk
        have hpos : 0 < z := by rcases Nat.eq_zero_or_pos z with e | e; · subst e; simp at hk
                                · exact e
        have := hm (k / z) ((Nat.div_lt_iff_lt_mul hpos).2 hk) (k % z) (Nat.mod_lt _ hpos)
        rwa [Nat.div_add_mod' k z] at this
      have hcr : CellsR S w ys.flatten ((List.range (ys.length * z)).map fun k => u (k / z) (k % z)).toArray := flat_cells hw fun i r hr j v hv' => by
        have hj : j < z := by rw [← hs i r hr]; exact (List.getElem?_eq_some_iff.1 hv').1
        have e1 : (i * z + j) / z = i := by rw [Nat.add_comm, Nat.add_mul_div_right _ _ (by omega), Nat.div_eq_of_lt hj, Nat.zero_add]
        have e2 : (i * z + j) % z = j := by rw [Nat.add_comm, Nat.add_mul_mod_self_right, Nat.mod_eq_of_lt hj]
        rw [e1, e2]
        exact ⟨hl i j r v hr hv', (hv i j r v hr hv').mono (Stp.refl _ _) (SExt.nil S)⟩
      refine ⟨_, fun w' => rfl, fun w' hw' => first_cells hcell w' hw', hcr, fun y hy => ?_, hw⟩
      obtain ⟨k, hk⟩ := List.mem_iff_getElem?.1 hy
      have hlt : k < ys.flatten.length := by rw [hcr.1]; exact (List.getElem?_eq_some_iff.1 hk).1
      obtain ⟨hlf, y', hy', hr⟩ := hcr.2 k _ (List.getElem?_eq_getElem hlt)
      have : y = y' := by
        have h2 : (((List.range (ys.length * z)).map fun k => u (k / z) (k % z)).toArray)[k]? = some y := by simpa using hk
        rw [h2] at hy'
        exact Option.some.inj hy'
      rw [this]
      exact hr.one hlf

theorem src_nsl {S : List Slot} {a : Act} {w : World} (hc : CR N env H S a w) {x : Operand} {sz : Nat} (hx : aev env x = .nsl) : ∃ news, SrcR P S w sz [] (a.eval x) news := by
  have hv := hc.ev x
  rw [hx] at hv
  generalize a.eval x = u at hv
  cases hv with
  | @nsl _ ad =>
    refine ⟨#[], fun w' => rfl, fun w' _ => ?_, ⟨rfl, fun _ _ h => by simp at h⟩, by simp, by simp⟩
    cases ad with
    | none => rfl
    | some ad => simp [Builtin.firstCells, loadCells, loadCellsFrom]

theorem src_sl {S : List Slot} {a : Act} {w : World} (hc : CR N env H S a w) {x : Operand} {id off len cap : Nat} {o : AObj} {ys : List (List AV)} (hx : aev env x = .sl id o.gen off len cap) (hid : H[id]? = some o) (hys : (o.rows.drop off).take len = ys) (hlen : ys.length = len) : ∃ news, SrcR P S w o.sz ys (a.eval x) news := by
  obtain ⟨s, c, hs, ok, hcc, hlc, h⟩ := hc.slc hx hid
  have hget : ∀ i r, ys[i]? = some r → o.rows[off + i]? = some r := by
    intro i r hr
    have hi : i < len := by rw [← hlen]; exact (List.getElem?_eq_some_iff.1 hr).1
    rw [← hys, List.getElem?_take, if_pos hi, List.getElem?_drop] at hr
    exact hr
  rcases h with ⟨h0, ad, he⟩ | ⟨b, arr, et, hp, he, hb, hfit, hrow⟩
  · have : len = 0 := by omega
    subst this
    have : ys = [] := List.eq_nil_of_length_eq_zero hlen
    subst this
    rw [he]
    refine ⟨#[], fun w' => rfl, fun w' _ => ?_, ⟨rfl, fun _ _ h => by simp at h⟩, by simp, by simp⟩
    cases ad with
    | none => rfl
    | some ad => simp [Builtin.firstCells, loadCells, loadCellsFrom]
  · have hw : ∀ r ∈ ys, r.length = o.sz := by
      intro r hr
      obtain ⟨i, hi⟩ := List.mem_iff_getElem?.1 hr
      exact (hrow.2 _ r (hget i r hi)).1
    have hcell : ∀ k, k < ys.length * o.sz → w.cell? ((⟨b, off * o.sz, none⟩ : Addr).add k) = some ((fun k => arr.getD (off * o.sz + k) undef) k) := by
      intro k hk
      have : off * o.sz + k < arr.size := by
        rw [hlen] at hk
        have h1 : len * o.sz ≤ c * o.sz := Nat.mul_le_mul_right _ hlc
        rw [Nat.add_mul] at hfit
        omega
      rw [add_none, cell_of_row w b _ arr _ _ hb]
      simp [this]
    have hcr : CellsR S w ys.flatten ((List.range (ys.length * o.sz)).map fun k => arr.getD (off * o.sz + k) undef).toArray := flat_cells hw fun i r hr j v hv' => by
      obtain ⟨h1, u, h2, h3⟩ := (hrow.2 _ r (hget i r hr)).2 j v hv'
      refine ⟨h1, ?_⟩
      have e : arr.getD (off * o.sz + (i * o.sz + j)) undef = u := by
        rw [show off * o.sz + (i * o.sz + j) = (off + i) * o.sz + j by rw [Nat.add_mul]; omega]
        simp [h2]
      rw [e]
      exact h3
    rw [he, ← hlen]
    refine ⟨_, fun w' => rfl, fun w' hw' => first_cells hcell w' hw', hcr, fun y hy => ?_, hw⟩
    obtain ⟨k, hk⟩ := List.mem_iff_getElem?.1 hy
    have hlt : k < ys.flatten.length := by rw [hcr.1]; exact (List.getElem?_eq_some_iff.1 hk).1
    obtain ⟨hlf, y', hy', hr⟩ := hcr.2 k _ (List.getElem?_eq_getElem hlt)
    have : y = y' := by
      have h2 : (((List.range (ys.length * o.sz)).map fun k => arr.getD (off * o.sz + k) undef).toArray)[k]? = some y := by simpa using hk
      rw [h2] at hy'
      exact Option.some.inj hy'
    rw [this]
    exact hr.one hlf

/-- The bytes of a text, as rows. -/
def brow (b : UInt8) : List AV := [.int .u8 (b.toNat : Int)]
theorem src_str {S : List Slot} {a : Act} {w : World} (hc : CR N env H S a w) {x : Operand} {s : ByteArray} (hx : aev env x = .str s) : ∃ news, SrcR P S w 1 (s.data.toList.map brow) (a.eval x) news := by
  rw [ev_str hc hx]
  have hn : (s.data.toList.map brow).length = s.size := by simp
  have hfl : (s.data.toList.map brow).flatten = s.data.toList.map fun b => .int .u8 (b.toNat : Int) := by
    generalize s.data.toList = l
    induction l with
    | nil => rfl
    | cons b l ih => simp [brow, ih]
  refine ⟨s.data.map fun b => .int .u8 b.toNat, fun w' => by simp [Builtin.lenOf, hn], fun w' _ => ?_, ?_, ?_, ?_⟩
  · have : s.extract 0 s.size = s := by
      cases s
      simp [ByteArray.extract, ByteArray.size, ByteArray.copySlice]
    simp [Builtin.firstCells, hn, this]
  · rw [hfl]
    refine ⟨by simp, fun j v hv => ?_⟩
    rw [List.getElem?_map] at hv
    cases hj : s.data.toList[j]? with
    | none => simp [hj] at hv
    | some b =>
      rw [hj] at hv
      obtain rfl := Option.some.inj hv
      exact ⟨rfl, .int .u8 b.toNat, by simp at hj; simp [hj], .int⟩
  · intro u hu
    simp at hu
    obtain ⟨b, _, rfl⟩ := hu
    rfl
  · intro r hr
    simp at hr
    obtain ⟨b, _, rfl⟩ := hr
    rfl

/-! ### append -/
/-- The type of what is appended: a slice's, or a text's. -/
class NiI (P : Program) (t : TypeId) : Prop where
  ud : (∃ e, P.underlying t = some (.slice e)) ∨ P.underlying t = some .string

theorem run_append_in {t t' e : TypeId} {sz : Nat} {agg : Bool} [hu : SlI P t e] [hni : NiI P t'] [TyI P e agg sz] {S : List Slot} {w : World} {ys : List (List AV)} {x : Value} {news : Array Value} (hs : SrcR P S w sz ys x news) {base : Option Addr} {len c : Nat} (hroom : len + ys.length ≤ c) :
    (Builtin.append_ #[t, t'] ty #[.slice base len c, x]).run P w = (match base with
      | some a => (storeCells (a.add (len * sz)) news.toList).run P w
      | none => .ok () w).andThen fun _ w' => .ok (.slice base (len + ys.length) c) w' := by
  have hf := hs.first w rfl
  rcases hni.ud with ⟨e', hd⟩ | hd <;> cases base <;> simp [Builtin.append_, run_und hu.ud, run_und hd, run_sz (P := P) (t := e) (agg := agg) (sz := sz), hs.len, hroom, hf]

theorem run_append_out {t t' e : TypeId} {sz bytes : Nat} {agg : Bool} {zs : List AV} [hu : SlI P t e] [hni : NiI P t'] [ht : TyI P e agg sz] [hz : ZcI P e zs] [hby : ByI P e bytes] {S : List Slot} {w : World} {ys : List (List AV)} {x : Value} {news olds : Array Value} (hs : SrcR P S w sz ys x news) {base : Option Addr} {len c : Nat}
    (hold : ∀ w', w'.heap = w.heap → (Builtin.firstCells sz len (.slice base len c)).run P w' = .ok olds w')
    (hroom : c < len + ys.length) (h63 : len + ys.length ≤ 9223372036854775807) (hb : (len + ys.length) * bytes ≤ 140737488355328) :
    ∃ cap' rest, len + ys.length ≤ cap' ∧ rest.size = (cap' - (len + ys.length)) * zs.length ∧ (Builtin.append_ #[t, t'] ty #[.slice base len c, x]).run P w = .ok (.slice (some ⟨w.heap.size, 0, none⟩) (len + ys.length) cap') (w.drew.alloc (.cells (olds ++ news ++ rest) e)) := by
  obtain ⟨z, hz0, hz1, hz2⟩ := hz.ze
  have htb := hby.by_
  cases hi : P.info? e with
  | none => simp [hi] at htb
  | some i =>
    simp [hi] at htb hz0
    have hf := hs.first w.drew rfl
    have hfo := hold w.drew rfl
    have hfit := growslice_fits (bytes := i.bytes) hroom (by rw [htb]; exact hb)
    have n1 : ¬ (len + ys.length ≤ c) := by omega
    have n2 : ¬ ((9223372036854775807 : Int) < ((len : Int) + (ys.length : Int))) := by omega
    have n3 : ¬ (281474976710656 < Builtin.nextslicecap (len + ys.length) c * i.bytes) := by omega
    refine ⟨grownCap w (len + ys.length) c e, Builtin.zeroCells z.cells (grownCap w (len + ys.length) c e - (len + ys.length)), grownCap_ge _ _ _ _, ?_, ?_⟩
    · rw [size_zeroCells, ← hz1]; simp
    · have hiz : i.zero = some z := hz0
      rcases hni.ud with ⟨e', hd⟩ | hd <;> simp [Builtin.append_, run_und hu.ud, run_und hd, run_sz (P := P) (t := e) (agg := agg) (sz := sz), typeInfo, zeroValue, hi, hiz, hs.len, n1, n2, n3, Question.forced, hf, hfo, newRow, grownCap]

theorem RowOK.of_cells {S : List Slot} {w : World} {sz : Nat} {rows : List (List AV)} {arr more : Array Value} (hw : ∀ r ∈ rows, r.length = sz) (h : CellsR S w rows.flatten arr) : RowOK (own S) S w sz (arr ++ more) rows := by
  have h1 := rows_of_flat hw h
  refine ⟨Nat.le_trans h1.1 (by simp), fun i r hr => ⟨(h1.2 i r hr).1, fun j v hv => ?_⟩⟩
  obtain ⟨hl, u, hu, hvr⟩ := (h1.2 i r hr).2 j v hv
  exact ⟨hl, u, by rw [Array.getElem?_append_left (Array.getElem?_eq_some_iff.1 hu).1]; exact hu, hvr⟩

theorem CellsR.append {S : List Slot} {w : World} {cs ds : List AV} {us vs : Array Value} (h : CellsR S w cs us) (k : CellsR S w ds vs) : CellsR S w (cs ++ ds) (us ++ vs) := by
  refine ⟨by simp [h.1, k.1], fun j v hv => ?_⟩
  by_cases hj : j < cs.length
  · rw [List.getElem?_append_left hj] at hv
    obtain ⟨hl, u, hu, hr⟩ := h.2 j v hv
    exact ⟨hl, u, by rw [Array.getElem?_append_left (by rw [← h.1]; exact hj)]; exact hu, hr⟩
  · rw [List.getElem?_append_right (by omega)] at hv
    obtain ⟨hl, u, hu, hr⟩ := k.2 _ v hv
    exact ⟨hl, u, by rw [Array.getElem?_append_right (by rw [← h.1]; omega), ← h.1]; exact hu, hr⟩

/-- What is appended, from above. -/
def Src (P : Program) (N : Nat) (env : Env) (H : Heap) (x : Operand) (sz : Nat) (ys : List (List AV)) : Prop := ∀ S a w, CR N env H S a w → ∃ news, SrcR P S w sz ys (a.eval x) news
theorem Src.pl {x : Operand} {ys : List (List AV)} {sz : Nat} (hx : aev env x = .pl ys) (hw : ∀ r ∈ ys, r.length = sz) : Src P N env H x sz ys := fun _ _ _ hc => src_pl hc hx hw
theorem Src.nsl {x : Operand} {sz : Nat} (hx : aev env x = .nsl) : Src P N env H x sz [] := fun _ _ _ hc => src_nsl hc hx
theorem Src.sl {x : Operand} {id off len cap : Nat} {o : AObj} {sz : Nat} {ys : List (List AV)} (hx : aev env x = .sl id o.gen off len cap) (hid : H[id]? = some o) (hsz : o.sz = sz) (hys : (o.rows.drop off).take len = ys) (hlen : ys.length = len) : Src P N env H x sz ys := fun _ _ _ hc => hsz ▸ src_sl hc hx hid hys hlen
theorem Src.str {x : Operand} {s : ByteArray} (hx : aev env x = .str s) : Src P N env H x 1 (s.data.toList.map brow) := fun _ _ _ hc => src_str hc hx

theorem same_heap {S : List Slot} {w w' : World} (hh : HRel H S w) (hx : Ext S w S w') (hold : ∀ b, b < w.heap.size → w'.heap[b]? = w.heap[b]?) : HRel H S w' := by
  refine ⟨hh.len, fun id o s ho hs => ?_, hh.inj⟩
  have ok := hh.obj id o s ho hs
  refine ⟨ok.gen, ok.sz, ok.pos, ok.nope, fun b hb => ?_⟩
  obtain ⟨arr, ty', h1, h2⟩ := ok.row hb
  exact ⟨arr, ty', by rw [hold b (Array.getElem?_eq_some_iff.1 h1).1]; exact h1, (h2.mono hx.stp hx.slots).1, (h2.mono hx.stp hx.slots).2⟩

/-- Onto an empty slice with no room. -/
theorem o_append_nsl {t t' e : TypeId} {x y : Operand} {sz bytes : Nat} {agg : Bool} {zs : List AV} {ys : List (List AV)} [hu : SlI P t e] [NiI P t'] [TyI P e agg sz] [hz : ZcI P e zs] [ByI P e bytes] (hn : zs.length = sz) (hp : 0 < sz)
    (hx : aev env x = .nsl) (hy : Src P N env H y sz ys) (hne : 0 < ys.length) (h63 : ys.length ≤ 9223372036854775807) (hb : ys.length * bytes ≤ 140737488355328) :
    V2 P N (.call { callee := .builtin .append, args := #[x, y], argTypes := #[t, t'] }) ty env H (.sl H.length 0 0 ys.length ys.length) (H ++ [⟨0, sz, ys⟩]) := by
  intro dst pos after guard S a w hc next Q hnext _
  obtain ⟨news, hs⟩ := hy S a w hc
  have hv := hc.ev x
  rw [hx] at hv
  generalize he : a.eval x = u at hv
  cases hv with
  | @nsl _ ad =>
    have hold : ∀ w', w'.heap = w.heap → (Builtin.firstCells sz 0 (.slice ad 0 0)).run P w' = .ok #[] w' := by
      intro w' _
      cases ad with
      | none => rfl
      | some ad => simp [Builtin.firstCells, loadCells, loadCellsFrom]
    obtain ⟨cap', rest, h1, h2, hr⟩ := run_append_out (P := P) (t := t) (t' := t') (e := e) (ty := ty) (sz := sz) (bytes := bytes) (agg := agg) (zs := zs) hs hold (by omega) (by omega) (by rw [Nat.zero_add]; exact hb)
    rw [Nat.zero_add] at h1 h2 hr
    simp only [Array.empty_append] at hr
    have hm := Made.drew_alloc w (news ++ rest) e
    obtain ⟨hh, hx'⟩ := hc.heap.made hm hp (RowOK.of_cells hs.wide hs.cells)
    have hrun : (execOp a.eval ⟨dst, .call { callee := .builtin .append, args := #[x, y], argTypes := #[t, t'] }, ty, pos, after, guard⟩).run P w = .ok (.value (.slice (some ⟨w.heap.size, 0, none⟩) ys.length cap')) (w.drew.alloc (.cells (news ++ rest) e)) := by
      simp [execOp, resolve, invoke, builtin, he, hr]
    unfold Oper.wp
    rw [hrun]
    refine hnext _ _ _ _ _ ⟨rfl, rfl⟩ hh hx' (new_slc hc.heap.len hm.new ?_ h1)
    have hl := hs.cells.1
    rw [flat_length hs.wide] at hl
    simp only [Array.size_append, ← hl, h2, hn, ← Nat.add_mul]
    exact Nat.mul_le_mul_right _ (by omega)
theorem o_append_nsl0 {t t' e : TypeId} {x y : Operand} {sz : Nat} {agg : Bool} [hu : SlI P t e] [NiI P t'] [TyI P e agg sz]
    (hx : aev env x = .nsl) (hy : Src P N env H y sz []) : V2 P N (.call { callee := .builtin .append, args := #[x, y], argTypes := #[t, t'] }) ty env H .nsl H := by
  intro dst pos after guard S a w hc next Q hnext _
  obtain ⟨news, hs⟩ := hy S a w hc
  have hv := hc.ev x
  rw [hx] at hv
  generalize he : a.eval x = u at hv
  cases hv with
  | @nsl _ ad =>
    have hr := run_append_in (P := P) (t := t) (t' := t') (e := e) (ty := ty) (agg := agg) hs (base := ad) (len := 0) (c := 0) (by simp)
    have hnews : news = #[] := by
      have := hs.cells.1
      simp at this
      exact Array.size_eq_zero_iff.1 this.symm
    subst hnews
    have hrun : (execOp a.eval ⟨dst, .call { callee := .builtin .append, args := #[x, y], argTypes := #[t, t'] }, ty, pos, after, guard⟩).run P w = .ok (.value (.slice ad 0 0)) w := by
      cases ad <;> simp [execOp, resolve, invoke, builtin, he, hr, storeCells]
    unfold Oper.wp
    rw [hrun]
    exact hnext _ _ _ _ _ ⟨rfl, rfl⟩ hc.heap (Ext.refl S w) .nsl

/-- Onto a slice of the call's own, from its row's head. -/
theorem o_appendM {t t' e : TypeId} {x y : Operand} {id len cap sz bytes m : Nat} {agg : Bool} {zs : List AV} {o : AObj} {ys : List (List AV)} [hu : SlI P t e] [NiI P t'] [TyI P e agg sz] [hz : ZcI P e zs] [ByI P e bytes] (hn : zs.length = sz)
    (hx : aev env x = .sl id o.gen 0 len cap) (hid : H[id]? = some o) (hsz : o.sz = sz) (hlen : len ≤ o.rows.length) (hy : Src P N env H y sz ys) (hne : 0 < ys.length) (h63 : len + ys.length ≤ 9223372036854775807) (hb : (len + ys.length) * bytes ≤ 140737488355328) (hm : m ≤ max cap (len + ys.length)) :
    V2 P N (.call { callee := .builtin .append, args := #[x, y], argTypes := #[t, t'] }) ty env H (.sl id (o.gen + 1) 0 (len + ys.length) m) (H.set id ⟨o.gen + 1, o.sz, o.rows.take len ++ ys⟩) := by
  intro dst pos after guard S a w hc next Q hnext _
  obtain ⟨news, hs⟩ := hy S a w hc
  obtain ⟨s, c, hsl, ok, hcc, hlc, h⟩ := hc.slc hx hid
  have hlt : id < S.length := (List.getElem?_eq_some_iff.1 hsl).1
  have hgen : s.gen = o.gen := ok.gen.symm
  have hssz : s.sz = sz := by rw [← ok.sz]; exact hsz
  have hnl := hs.cells.1
  rw [flat_length hs.wide] at hnl
  -- what grows into a new block
  have grown : ∀ (ad : Option Addr) (olds : Array Value), a.eval x = .slice ad len c → c < len + ys.length → (∀ w', w'.heap = w.heap → (Builtin.firstCells sz len (.slice ad len c)).run P w' = .ok olds w') →
      CellsR S w (o.rows.take len).flatten olds → (∀ r ∈ o.rows.take len, r.length = sz) → Oper.wp P ⟨dst, .call { callee := .builtin .append, args := #[x, y], argTypes := #[t, t'] }, ty, pos, after, guard⟩ a w next Q := by
    intro ad olds he hroom hold hco hwo
    obtain ⟨cap', rest, h1, h2, hr⟩ := run_append_out (P := P) (t := t) (t' := t') (e := e) (ty := ty) (sz := sz) (bytes := bytes) (agg := agg) (zs := zs) hs hold hroom h63 hb
    have hm := Made.drew_alloc w (olds ++ news ++ rest) e
    have hwide : ∀ r ∈ o.rows.take len ++ ys, r.length = sz := by
      intro r hr
      rcases List.mem_append.1 hr with h | h
      · exact hwo r h
      · exact hs.wide r h
    have hrow0 : RowOK (own S) S w sz (olds ++ news ++ rest) (o.rows.take len ++ ys) := RowOK.of_cells hwide (by rw [List.flatten_append]; exact hco.append hs.cells)
    have hx' : Ext S w (S.set id ⟨s.gen + 1, s.sz, some w.heap.size⟩) (w.drew.alloc (.cells (olds ++ news ++ rest) e)) := by
      refine ⟨hm.os, hm.tape, hm.output, ⟨by rw [hm.size]; omega, fun b hb' ho => ⟨fun k => ?_, hm.old b hb'⟩, fun b arr ty hb' => ⟨arr, by rw [hm.old b (Array.getElem?_eq_some_iff.1 hb').1]; exact hb', rfl⟩⟩, SExt.bump hsl (by simp)⟩
      obtain ⟨i, si, hi, hpi⟩ := k
      by_cases e1 : id = i
      · subst e1
        rw [List.getElem?_set_self hlt] at hi
        obtain rfl := Option.some.inj hi
        simp at hpi
        omega
      · rw [List.getElem?_set_ne e1] at hi
        exact ho ⟨i, si, hi, hpi⟩
    have hh := hc.heap.move (rows' := o.rows.take len ++ ys) hid hsl hx' (fun j sj hj hpj => by
        have := own_lt hc.heap ⟨j, sj, hj, hpj⟩
        omega) (fun j sj b' hj _ hpj => hm.old b' (own_lt hc.heap ⟨j, sj, hj, hpj⟩)) hm.new (by rw [hsz]; exact hrow0.mono hx'.stp hx'.slots)
    have hrun : (execOp a.eval ⟨dst, .call { callee := .builtin .append, args := #[x, y], argTypes := #[t, t'] }, ty, pos, after, guard⟩).run P w = .ok (.value (.slice (some ⟨w.heap.size, 0, none⟩) (len + ys.length) cap')) (w.drew.alloc (.cells (olds ++ news ++ rest) e)) := by
      simp [execOp, resolve, invoke, builtin, he, hr]
    unfold Oper.wp
    rw [hrun]
    refine hnext _ _ _ _ _ ⟨rfl, rfl⟩ hh hx' ?_
    refine .sl ⟨s.gen + 1, s.sz, some w.heap.size⟩ (List.getElem?_set_self hlt) (by simp [hgen]) rfl fun _ => ⟨cap', by omega, h1, .inr ⟨w.heap.size, _, _, rfl, by simp, hm.new, ?_⟩⟩
    have hol := hco.1
    rw [flat_length hwo] at hol
    simp only [Array.size_append, ← hnl, ← hol, h2, hn, List.length_take, Nat.min_eq_left hlen, ← Nat.add_mul, Nat.zero_add]
    rw [hssz]
    exact Nat.mul_le_mul_right _ (by omega)
  rcases h with ⟨h0, ad, he⟩ | ⟨b, arr, et, hp, he, hbl, hfit, hrow⟩
  · have el : len = 0 := by omega
    subst el
    subst h0
    refine grown ad #[] he (by omega) (fun w' _ => ?_) ⟨by simp, fun _ _ h => by simp at h⟩ (by simp)
    cases ad with
    | none => rfl
    | some ad => simp [Builtin.firstCells, loadCells, loadCellsFrom]
  · have hwo : ∀ r ∈ o.rows.take len, r.length = sz := by
      intro r hr
      obtain ⟨i, hi⟩ := List.mem_iff_getElem?.1 (List.mem_of_mem_take hr)
      rw [← hsz]
      exact (hrow.2 i r hi).1
    rw [Nat.zero_mul] at he
    rw [Nat.zero_add] at hfit
    by_cases hroom : len + ys.length ≤ c
    · -- in place
      have hr := run_append_in (P := P) (t := t) (t' := t') (e := e) (ty := ty) (agg := agg) hs (base := some ⟨b, 0, none⟩) hroom
      have hfit2 : len * sz + news.size ≤ arr.size := by
        rw [← hnl, ← Nat.add_mul]
        rw [hsz] at hfit
        exact Nat.le_trans (Nat.mul_le_mul_right _ hroom) hfit
      have hst := run_storeCells_at P b (len * sz) et news.toList 0 arr w hbl (by simpa using hfit2) hs.one
      simp only [Nat.add_zero, Array.length_toList] at hst
      have hsize : (arr.toList.take (len * sz) ++ news.toList ++ arr.toList.drop (len * sz + news.size)).toArray.size = arr.size := by
        simp
        omega
      have ho : own S b := ⟨id, s, hsl, hp⟩
      have hx' : Ext S w (S.set id ⟨s.gen + 1, s.sz, some b⟩) (w.setRow b (arr.toList.take (len * sz) ++ news.toList ++ arr.toList.drop (len * sz + news.size)).toArray) := by
        refine .of_row ho rfl rfl rfl (by simp) (fun k _ hk => setRow_other w b k _ hk) (fun a' t'' h' => ?_) (fun k hk hno k' => ?_) (SExt.bump hsl (by simp))
        · rw [hbl] at h'
          injection h' with h'
          injection h' with h1 h2
          subst h1; subst h2
          exact ⟨_, setRow_heap w b arr _ et (0, 0) hbl, hsize⟩
        · obtain ⟨i, si, hi, hpi⟩ := k'
          by_cases e1 : id = i
          · subst e1
            rw [List.getElem?_set_self hlt] at hi
            obtain rfl := Option.some.inj hi
            simp at hpi
            subst hpi
            exact hno ho
          · rw [List.getElem?_set_ne e1] at hi
            exact hno ⟨i, si, hi, hpi⟩
      have hwide : ∀ r ∈ o.rows.take len ++ ys, r.length = sz := by
        intro r hr
        rcases List.mem_append.1 hr with h | h
        · exact hwo r h
        · exact hs.wide r h
      have hrow' : RowOK (own S) S w sz (arr.toList.take (len * sz) ++ news.toList ++ arr.toList.drop (len * sz + news.size)).toArray (o.rows.take len ++ ys) := by
        have e1 : (arr.toList.take (len * sz) ++ news.toList ++ arr.toList.drop (len * sz + news.size)).toArray = (arr.toList.take (len * sz)).toArray ++ news ++ (arr.toList.drop (len * sz + news.size)).toArray := by
          simp
        rw [e1]
        refine RowOK.of_cells hwide ?_
        rw [List.flatten_append]
        refine CellsR.append ?_ hs.cells
        have hl2 : (o.rows.take len).flatten.length = len * sz := by rw [flat_length hwo, List.length_take, Nat.min_eq_left hlen]
        have hle : len * sz ≤ arr.size := by omega
        refine ⟨by rw [hl2]; simp; omega, fun k v hk => ?_⟩
        have hklt : k < len * sz := by rw [← hl2]; exact (List.getElem?_eq_some_iff.1 hk).1
        have hpos : 0 < sz := by rcases Nat.eq_zero_or_pos sz with e | e; · subst e; simp at hklt
                                 · exact e
        have hi : k / sz < (o.rows.take len).length := by rw [List.length_take, Nat.min_eq_left hlen]; exact (Nat.div_lt_iff_lt_mul hpos).2 hklt
        have hj : k % sz < sz := Nat.mod_lt _ hpos
        have hk' : k / sz * sz + k % sz = k := Nat.div_add_mod' k sz
        have h3 := flat_get hwo (List.getElem?_eq_getElem hi) hj
        rw [hk', hk] at h3
        have h4 : o.rows[k / sz]? = some (o.rows.take len)[k / sz] := by
          have := List.getElem?_eq_getElem hi
          rw [List.getElem?_take] at this
          split at this
          · exact this
          · cases this
        obtain ⟨k1, u, k2, k3⟩ := (hrow.2 _ _ h4).2 _ v h3.symm
        rw [hsz, hk'] at k2
        exact ⟨k1, u, by simp [hklt, k2], k3⟩
      have hh := hc.heap.move (rows' := o.rows.take len ++ ys) hid hsl hx' (fun j sj hj hpj => hc.heap.inj j id sj s b hj hsl hpj hp) (fun j sj b' hj hne' hpj => setRow_other w b b' _ (fun e => hne' (hc.heap.inj j id sj s b hj hsl (e ▸ hpj) hp)))
        (setRow_heap w b arr _ et (0, 0) hbl) (by rw [hsz]; exact hrow'.mono hx'.stp hx'.slots)
      have hrun : (execOp a.eval ⟨dst, .call { callee := .builtin .append, args := #[x, y], argTypes := #[t, t'] }, ty, pos, after, guard⟩).run P w = .ok (.value (.slice (some ⟨b, 0, none⟩) (len + ys.length) c)) (w.setRow b (arr.toList.take (len * sz) ++ news.toList ++ arr.toList.drop (len * sz + news.size)).toArray) := by
        simp only [add_none, Nat.zero_add, hst] at hr
        simp [execOp, resolve, invoke, builtin, he, hr]
      unfold Oper.wp
      rw [hrun]
      refine hnext _ _ _ _ _ ⟨rfl, rfl⟩ hh hx' ?_
      refine .sl ⟨s.gen + 1, s.sz, some b⟩ (List.getElem?_set_self hlt) (by simp [hgen]) rfl fun _ => ⟨c, by omega, by omega, .inr ⟨b, _, _, rfl, by simp, setRow_heap w b arr _ et (0, 0) hbl, ?_⟩⟩
      rw [hsize, hssz, Nat.zero_add, ← hsz]
      exact hfit
    · -- into a new block
      have hcell : ∀ k, k < len * sz → w.cell? ((⟨b, 0, none⟩ : Addr).add k) = some ((fun k => arr.getD k undef) k) := by
        intro k hk
        have : k < arr.size := by
          have h1 : len * o.sz ≤ c * o.sz := Nat.mul_le_mul_right _ hlc
          rw [hsz] at h1 hfit
          omega
        rw [add_none, cell_of_row w b _ arr _ _ hbl]
        simp [this]
      have hco : CellsR S w (o.rows.take len).flatten ((List.range ((o.rows.take len).length * sz)).map fun k => arr.getD k undef).toArray := flat_cells hwo fun i r hr j v hv' => by
        have h4 : o.rows[i]? = some r := by
          rw [List.getElem?_take] at hr
          split at hr
          · exact hr
          · cases hr
        obtain ⟨h1, u, h2, h3⟩ := (hrow.2 _ r h4).2 j v hv'
        refine ⟨h1, ?_⟩
        rw [hsz] at h2
        have e : arr.getD (i * sz + j) undef = u := by simp [h2]
        rw [e]
        exact h3
      rw [List.length_take, Nat.min_eq_left hlen] at hco
      exact grown (some ⟨b, 0, none⟩) _ he (by omega) (fun w' hw' => first_cells hcell w' hw') hco hwo
theorem o_append {t t' e : TypeId} {x y : Operand} {id len cap sz bytes : Nat} {agg : Bool} {zs : List AV} {o : AObj} {ys : List (List AV)} [hu : SlI P t e] [NiI P t'] [TyI P e agg sz] [hz : ZcI P e zs] [ByI P e bytes] (hn : zs.length = sz)
    (hx : aev env x = .sl id o.gen 0 len cap) (hid : H[id]? = some o) (hsz : o.sz = sz) (hlen : len ≤ o.rows.length) (hy : Src P N env H y sz ys) (hne : 0 < ys.length) (h63 : len + ys.length ≤ 9223372036854775807) (hb : (len + ys.length) * bytes ≤ 140737488355328) :
    V2 P N (.call { callee := .builtin .append, args := #[x, y], argTypes := #[t, t'] }) ty env H (.sl id (o.gen + 1) 0 (len + ys.length) (len + ys.length)) (H.set id ⟨o.gen + 1, o.sz, o.rows.take len ++ ys⟩) :=
  o_appendM (agg := agg) (e := e) (zs := zs) (bytes := bytes) hn hx hid hsz hlen hy hne h63 hb (Nat.le_max_right _ _)
theorem o_append0 {t t' e : TypeId} {x y : Operand} {id len cap sz : Nat} {agg : Bool} {o : AObj} [hu : SlI P t e] [NiI P t'] [TyI P e agg sz]
    (hx : aev env x = .sl id o.gen 0 len cap) (hid : H[id]? = some o) (hy : Src P N env H y sz []) :
    V2 P N (.call { callee := .builtin .append, args := #[x, y], argTypes := #[t, t'] }) ty env H (.sl id o.gen 0 len cap) H := by
  intro dst pos after guard S a w hc next Q hnext _
  obtain ⟨news, hs⟩ := hy S a w hc
  have hv := hc.ev x
  rw [hx] at hv
  have hnews : news = #[] := by
    have := hs.cells.1
    simp at this
    exact Array.size_eq_zero_iff.1 this.symm
  subst hnews
  have hsl : ∃ ad c, a.eval x = .slice ad len c ∧ len ≤ c := by
    obtain ⟨s, c, hsl, ok, hcc, hlc, h⟩ := hc.slc hx hid
    rcases h with ⟨h0, ad, he⟩ | ⟨b, arr, et, hp, he, hbl, hfit, hrow⟩
    · have : len = 0 := by omega
      subst this
      exact ⟨ad, 0, he, Nat.le_refl _⟩
    · exact ⟨_, c, he, hlc⟩
  obtain ⟨ad, c, he, hlc⟩ := hsl
  have hr := run_append_in (P := P) (t := t) (t' := t') (e := e) (ty := ty) (agg := agg) hs (base := ad) (len := len) (c := c) (by simpa using hlc)
  have hrun : (execOp a.eval ⟨dst, .call { callee := .builtin .append, args := #[x, y], argTypes := #[t, t'] }, ty, pos, after, guard⟩).run P w = .ok (.value (.slice ad len c)) w := by
    cases ad <;> simp [execOp, resolve, invoke, builtin, he, hr, storeCells]
  unfold Oper.wp
  rw [hrun]
  rw [he] at hv
  exact hnext _ _ _ _ _ ⟨rfl, rfl⟩ hc.heap (Ext.refl S w) hv
end
end Go.Av
