/-
  Calls, conversions between bytes and texts, comparisons with nil, panics; and the steps that are the proof's own: a row that is no longer written becomes a list, a nil slice is given a row.
-/
import Derived.Test.YtmhfpopbhiloiaaDoorAv7
namespace Go.Av

section
variable {P : Program} {N : Nat} {B : Base} {Q : Post} {env : Env} {H : Heap} {ty : TypeId} {ops : Array Oper} {rest : List Oper}

/-! ### Calls -/
theorem evs_ok {S : List Slot} {a : Act} {w : World} (hc : CR N env H S a w) (xs : Array Operand) : VRs (own S) w S (xs.toList.map (aev env)) (xs.map a.eval) := by
  refine ⟨by simp, fun i v u hv hu => ?_⟩
  simp only [List.getElem?_map, Array.getElem?_map] at hv hu
  cases hx : xs[i]? with
  | none => simp [hx] at hu
  | some x =>
    have hx' : xs.toList[i]? = some x := by simpa using hx
    rw [hx'] at hv
    rw [hx] at hu
    obtain rfl := Option.some.inj hv
    obtain rfl := Option.some.inj hu
    exact hc.ev x

/-- The function has a body, and is called as it is. -/
class FnI (P : Program) (f : FuncId) : Prop where
  ok : (match P.funcs[f]? with | some fn => !(fn.name == "runtime.NumGoroutine") && fn.body.isSome | none => false) = true
theorem run_callFunc {f : FuncId} [h : FnI P f] (args : Array Value) (w : World) : (callFunc f args).run P w = .ok (.enter f args) w := by
  have hk := h.ok
  cases hf : P.funcs[f]? with
  | none => simp [hf] at hk
  | some fn =>
    rw [hf] at hk
    simp at hk
    cases hb : fn.body with
    | none => simp [hb] at hk
    | some c => simp [callFunc, hf, hk, hb]

theorem AOp.call {o : Oper} {f : FuncId} {vs : List AV} {R : AOut → Heap → Prop} (hc : ∀ S a w, CR N env H S a w → ∃ args, (execOp a.eval o).run P w = .ok (.enter f args) w ∧ VRs (own S) w S vs args) (hac : AC P f vs H R) :
    AOp P N o env H (fun v H' => R (.ret v) H') (fun v H' => R (.pan v) H') := by
  intro S a w hcr next Q hnext hpan
  obtain ⟨args, hr, hv⟩ := hc S a w hcr
  unfold Oper.wp
  rw [hr]
  refine (hac S w args hcr.heap hv).mono ?_
  rintro e w' ⟨out, H', S', hR, hout, hh, hx⟩
  cases hout with
  | ret hv => exact hnext _ _ H' S' w' hR hh hx hv
  | pan hv => exact hpan _ _ H' S' w' hR hh hx hv

/-- A call of a function by its name. -/
theorem ao_call {d f : Nat} {xs : Array Operand} {ts : Array TypeId} {pos : String} {after : Array Edge} {R : AOut → Heap → Prop} {vs : List AV} [FnI P f] (hvs : xs.toList.map (aev env) = vs) (hd : d < N) (hac : AC P f vs H R)
    (hK : ∀ v H', R (.ret v) H' → AOps P N B ops rest Q ((d, v) :: env) H') (hX : ∀ v H', R (.pan v) H' → Q (.pan v) env H') :
    AOps P N B ops (⟨some d, .call { callee := .value (.func f), args := xs, argTypes := ts }, ty, pos, after, none⟩ :: rest) Q env H := by
  subst hvs
  refine ao_cons rfl (by rintro _ ⟨⟩; exact hd) (AOp.call (fun S a w hc => ⟨xs.map a.eval, ?_, evs_ok hc xs⟩) hac) hK hX
  simp [execOp, resolve, Act.eval, Deferred.ofValue, invoke, run_callFunc (P := P) (f := f)]
/-- A call that has no result slot. -/
theorem ao_call0 {f : Nat} {xs : Array Operand} {ts : Array TypeId} {pos : String} {after : Array Edge} {R : AOut → Heap → Prop} {vs : List AV} [FnI P f] (hvs : xs.toList.map (aev env) = vs) (hac : AC P f vs H R)
    (hK : ∀ v H', R (.ret v) H' → AOps P N B ops rest Q env H') (hX : ∀ v H', R (.pan v) H' → Q (.pan v) env H') :
    AOps P N B ops (⟨none, .call { callee := .value (.func f), args := xs, argTypes := ts }, ty, pos, after, none⟩ :: rest) Q env H := by
  subst hvs
  refine ao_cons rfl (by rintro _ ⟨⟩) (AOp.call (fun S a w hc => ⟨xs.map a.eval, ?_, evs_ok hc xs⟩) hac) hK hX
  simp [execOp, resolve, Act.eval, Deferred.ofValue, invoke, run_callFunc (P := P) (f := f)]

theorem VRs.append {O : Nat → Prop} {w : World} {S : List Slot} {vs us : List AV} {p q : Array Value} (h : VRs O w S vs p) (k : VRs O w S us q) : VRs O w S (vs ++ us) (p ++ q) := by
  refine ⟨by simp [h.1, k.1], fun i v u hv hu => ?_⟩
  by_cases hi : i < vs.length
  · rw [List.getElem?_append_left hi] at hv
    rw [Array.getElem?_append_left (by rw [← h.1]; exact hi)] at hu
    exact h.2 i v u hv hu
  · rw [List.getElem?_append_right (by omega)] at hv
    rw [Array.getElem?_append_right (by rw [← h.1]; omega), ← h.1] at hu
    exact k.2 _ v u hv hu

/-- A call of a function value. -/
theorem ao_callv {d f : Nat} {x : Operand} {xs : Array Operand} {ts : Array TypeId} {pos : String} {after : Array Edge} {R : AOut → Heap → Prop} {ps qs vs : List AV} [FnI P f] (hx : aev env x = .fn (.func f) ps qs) (hvs : ps ++ xs.toList.map (aev env) ++ qs = vs) (hd : d < N) (hac : AC P f vs H R)
    (hK : ∀ v H', R (.ret v) H' → AOps P N B ops rest Q ((d, v) :: env) H') (hX : ∀ v H', R (.pan v) H' → Q (.pan v) env H') :
    AOps P N B ops (⟨some d, .call { callee := .value x, args := xs, argTypes := ts }, ty, pos, after, none⟩ :: rest) Q env H := by
  subst hvs
  refine ao_cons rfl (by rintro _ ⟨⟩; exact hd) (AOp.call (fun S a w hc => ?_) hac) hK hX
  have hv := hc.ev x
  rw [hx] at hv
  generalize he : a.eval x = u at hv
  cases hv with
  | @fn _ _ _ _ p' q' hp hq h1 h2 =>
    refine ⟨p' ++ xs.map a.eval ++ q', ?_, (VRs.append (VRs.append ⟨hp, h1⟩ (evs_ok hc xs)) ⟨hq, h2⟩)⟩
    simp [execOp, resolve, he, Deferred.ofValue, invoke, run_callFunc (P := P) (f := f)]

/-! ### Bytes and texts -/
theorem o_bytesStr {x : Operand} {s d : TypeId} {e : TypeId} {bs : List UInt8} [hs : SlI P s e] [he : UdI P e (.int .u8)] [hd : UdI P d .string] (hx : aev env x = .pl (bs.map brow)) : V1 P N (.convert s d x) ty env H (.str ⟨bs.toArray⟩) := by
  intro S a w hc
  have hv := hc.ev x
  rw [hx] at hv
  generalize hxe : a.eval x = u at hv
  cases hv with
  | @pl _ _ ad c base z u hcap hb hsz hm hl hv =>
    refine ⟨.string ⟨bs.toArray⟩, fun _ _ _ _ => ?_, .str⟩
    have hrun : (convert s d (.slice ad (bs.map brow).length c)).run P w = .ok (.string ⟨bs.toArray⟩) w := by
      by_cases hne : bs = []
      · subst hne
        rw [run_convert_bytes_string w s d e ad _ c hs.ud he.ud hd.ud]
        cases ad with
        | none => rfl
        | some ad =>
          exact run_bytesToString (P := P) w ad 0 c [] (by simp [loadCells, loadCellsFrom])
      · obtain ⟨k1, k2, k3⟩ := hb (by simpa using hne)
        subst k1
        rw [List.length_map]
        refine run_convert_bytes_back w s d e base c bs hs.ud he.ud hd.ud fun j hj => ?_
        have hr : (bs.map brow)[j]? = some (brow bs[j]) := by simp [hj]
        have hz : z = 1 := by rw [← hsz j _ hr]; rfl
        subst hz
        have h1 := hm j (by simpa using hj) 0 (by omega)
        have h2 := hv j 0 _ _ hr (show (brow bs[j])[0]? = some (.int .u8 (bs[j].toNat : Int)) from rfl)
        generalize u j 0 = y at h1 h2
        cases h2
        simpa using h1
    simp [execOp, hxe]
    simp at hrun
    rw [hrun]
    simp
theorem o_bytesStr_nsl {x : Operand} {s d : TypeId} {e : TypeId} [hs : SlI P s e] [he : UdI P e (.int .u8)] [hd : UdI P d .string] (hx : aev env x = .nsl) : V1 P N (.convert s d x) ty env H (.str ⟨#[]⟩) := by
  intro S a w hc
  have hv := hc.ev x
  rw [hx] at hv
  generalize hxe : a.eval x = u at hv
  cases hv with
  | @nsl _ ad =>
    refine ⟨.string ⟨#[]⟩, fun _ _ _ _ => ?_, .str⟩
    have hrun : (convert s d (.slice ad 0 0)).run P w = .ok (.string ⟨#[]⟩) w := by
      rw [run_convert_bytes_string w s d e ad _ 0 hs.ud he.ud hd.ud]
      cases ad with
      | none => rfl
      | some ad =>
        exact run_bytesToString (P := P) w ad 0 0 [] (by simp [loadCells, loadCellsFrom])
    simp [execOp, hxe, hrun]

theorem o_strBytes {x : Operand} {s d e : TypeId} {str : ByteArray} [hs : UdI P s .string] [hd : SlI P d e] [he : UdI P e (.int .u8)] (hx : aev env x = .str str) : V2 P N (.convert s d x) ty env H (.pl (str.data.toList.map brow)) H := by
  intro dst pos after guard S a w hc next Q hnext _
  have hcap := grownCap_ge w str.size 0 e
  have hrun : ∃ w', (execOp a.eval ⟨dst, .convert s d x, ty, pos, after, guard⟩).run P w = .ok (.value (.slice (some ⟨w.heap.size, 0, none⟩) str.size (grownCap w str.size 0 e))) w' ∧ w'.os = w.os ∧ w'.tape = w.tape ∧ w'.output = w.output ∧ w'.heap.size = w.heap.size + 1 ∧
      (∀ b, b < w.heap.size → w'.heap[b]? = w.heap[b]?) ∧ ∀ (j : Nat) (b : UInt8), str.data.toList[j]? = some b → w'.cell? ⟨w.heap.size, j, none⟩ = some (.int .u8 (b.toNat : Int)) := by
    have hr := run_bytes_of_string (P := P) w s d e str hs.ud hd.ud he.ud
    refine ⟨w.drew.alloc (.cells (bytesRow str (grownCap w str.size 0 e)) e ((bytesRow str (grownCap w str.size 0 e)).size, (bytesRow str (grownCap w str.size 0 e)).size + 1)), by simp only [execOp, ev_str hc hx, Sem.run_bind, hr, Result.andThen_ok, Sem.run_pure], rfl, rfl, rfl, by simp, fun b hb => heap_alloc_old w.drew _ b hb, fun j b hj => ?_⟩
    have hj' : str.data[j]? = some b := by simpa using hj
    have hlt := (Array.getElem?_eq_some_iff.1 hj').1
    have h1 := World.cell?_alloc_mark w.drew (bytesRow str (grownCap w str.size 0 e)) e ((bytesRow str (grownCap w str.size 0 e)).size, (bytesRow str (grownCap w str.size 0 e)).size + 1) j
    rw [World.size_drew] at h1
    rw [h1]
    unfold bytesRow
    rw [Array.getElem?_append_left (by simpa using hlt)]
    simp [hj']
  obtain ⟨w', hr, hos, htape, hout, hsize, hold, hcell⟩ := hrun
  have hx' : Ext S w S w' := ⟨hos, htape, hout, ⟨by omega, fun b hb ho => ⟨ho, hold b hb⟩, fun b arr ty hb => ⟨arr, by rw [hold b (Array.getElem?_eq_some_iff.1 hb).1]; exact hb, rfl⟩⟩, SExt.refl S⟩
  unfold Oper.wp
  rw [hr]
  refine hnext _ _ _ _ _ ⟨rfl, rfl⟩ (same_heap hc.heap hx' hold) hx' ?_
  have hlen : (str.data.toList.map brow).length = str.size := by simp
  have hget : ∀ (i : Nat) (r : List AV), (str.data.toList.map brow)[i]? = some r → ∃ b, str.data.toList[i]? = some b ∧ r = brow b := by
    intro i r hr
    rw [List.getElem?_map] at hr
    cases hi : str.data.toList[i]? with
    | none => simp [hi] at hr
    | some b => rw [hi] at hr; exact ⟨b, rfl, (Option.some.inj hr).symm⟩
  rw [← hlen]
  refine .pl ⟨w.heap.size, 0, none⟩ 1 (fun i _ => .int .u8 ((str.data.toList.getD i 0).toNat : Int)) (by rw [hlen]; exact hcap) (fun _ => ⟨rfl, fun k => ?_, by simp [hsize]⟩) (fun i r hr => ?_) (fun i hi j hj => ?_) (fun i j r v hr hv => ?_) (fun i j r v hr hv => ?_)
  · have := own_lt hc.heap k
    simp at this
  · obtain ⟨b, _, rfl⟩ := hget i r hr; rfl
  · obtain rfl : j = 0 := by omega
    have hi' : i < str.data.toList.length := by simpa using hi
    have := hcell i _ (List.getElem?_eq_getElem hi')
    rw [add_none]
    simp only [Nat.zero_add, Nat.mul_one, Nat.add_zero]
    rw [this, List.getD_eq_getElem?_getD, List.getElem?_eq_getElem hi']
    rfl
  · obtain ⟨b, _, rfl⟩ := hget i r hr
    cases j with
    | zero => simp [brow] at hv; subst hv; rfl
    | succ j => simp [brow] at hv
  · obtain ⟨b, hb, rfl⟩ := hget i r hr
    cases j with
    | zero => simp [brow] at hv; subst hv; simp [List.getD, hb]; exact .int
    | succ j => simp [brow] at hv

/-! ### Comparisons with nil -/
theorem run_equal_slice_nil {t e : TypeId} [hu : SlI P t e] (a : Option Addr) (l c : Nat) (w : World) : (Op.equal t (.slice a l c) (.slice none 0 0)).run P w = .ok a.isNone w := by
  show (Op.equalIn (9999 + 1) t _ _).run P w = _
  rw [Op.equalIn]
  cases a <;> simp [run_und hu.ud]
/-- A slice against nil: whether it is nil is not known where it is empty. -/
theorem o_eqNil {t t' e : TypeId} {x y : Operand} {xs : List (List AV)} [hu : SlI P t e] (hx : aev env x = .pl xs) (hy : y = .const (.slice none 0 0)) (dst : Option Nat) (pos : String) (after : Array Edge) (guard : Option (Nat × Bool)) :
    AOp P N ⟨dst, .binOp .eql t x y t', ty, pos, after, guard⟩ env H (fun v H' => ∃ b, v = .bool b ∧ (xs ≠ [] → b = false) ∧ H' = H) (fun _ _ => False) := by
  intro S a w hc next Q hnext _
  subst hy
  have hv := hc.ev x
  rw [hx] at hv
  generalize he : a.eval x = u at hv
  cases hv with
  | @pl _ _ ad c base z u hcap hb hs hm hl hv =>
    have hr : (execOp a.eval ⟨dst, .binOp .eql t x (.const (.slice none 0 0)) t', ty, pos, after, guard⟩).run P w = .ok (.value (.bool ad.isNone)) w := by
      have hbo : binOp .eql t (.slice ad xs.length c) (.slice none 0 0) = (do pure (.bool (← Op.equal t (.slice ad xs.length c) (.slice none 0 0)))) := rfl
      have hco : a.eval (.const (.slice none 0 0)) = .slice none 0 0 := rfl
      simp [execOp, he, hco, eqGuard, hbo, run_equal_slice_nil (P := P) (t := t)]
    unfold Oper.wp
    rw [hr]
    exact hnext (.bool ad.isNone) _ H S w ⟨_, rfl, fun hne => by rw [(hb hne).1]; rfl, rfl⟩ hc.heap (Ext.refl S w) .bool

/-! ### Panics -/
theorem ao_panic {d : Option Nat} {x : Operand} {pos : String} {after : Array Edge} {t : TypeId} {v : AV} (hx : aev env x = .ifc t v) (h : Q (.pan (.ifc t v)) env H) (hd : ∀ t, d = some t → t < N) :
    AOps P N B ops (⟨d, .panic x, ty, pos, after, none⟩ :: rest) Q env H := by
  refine ao_cons rfl hd (K := fun _ _ => False) (X := fun v' H' => v' = .ifc t v ∧ H' = H) ?_ (fun _ _ h => h.elim) (by rintro _ _ ⟨rfl, rfl⟩; exact h)
  intro S a w hc next Q' _ hpan
  have hv := hc.ev x
  rw [hx] at hv
  generalize he : a.eval x = u at hv
  cases hv with
  | @ifc _ _ _ u h =>
    have hr : (execOp a.eval ⟨d, .panic x, ty, pos, after, none⟩).run P w = .halt (.panic (.iface t u)) w := by simp [execOp, he, Instr.panic]
    unfold Oper.wp
    rw [hr]
    exact hpan (.ifc t v) (.iface t u) H S w ⟨rfl, rfl⟩ hc.heap (Ext.refl S w) (.ifc h)

/-! ### Steps of the proof's own -/
/-- No row is named in it. -/
abbrev AV.pur (v : AV) : Bool := v.bel 0

theorem VR.pur {O : Nat → Prop} {w : World} {S : List Slot} {v : AV} {u : Value} (h : VR O w S v u) (hp : v.pur = true) : VR O w [] v u := by
  have := h.take (O' := O) (n := 0) (fun _ h => h) hp
  simpa using this

/-- A row that is no longer written becomes a list. -/
theorem CR.freeze {S : List Slot} {a : Act} {w : World} {t id off len cap : Nat} {o : AObj} {ys : List (List AV)} (h : CR N env H S a w) (k : Ext B.S B.w S w) (ht : get env t = .sl id o.gen off len cap) (hid : H[id]? = some o)
    (hys : (o.rows.drop off).take len = ys) (hlen : ys.length = len) (hp : ∀ r ∈ ys, AV.bels 0 r = true) :
    ∃ S', CR N ((t, .pl ys) :: env) (H.set id ⟨o.gen + 1, o.sz, []⟩) S' a w ∧ Ext B.S B.w S' w := by
  obtain ⟨s, hs, ok⟩ := h.heap.slot hid
  have hlt : id < S.length := (List.getElem?_eq_some_iff.1 hs).1
  have hltH : id < H.length := (List.getElem?_eq_some_iff.1 hid).1
  have hown : ∀ b, ¬ own S b → ¬ own (S.set id ⟨s.gen + 1, s.sz, none⟩) b := by
    intro b hb ⟨i, si, hi, hpi⟩
    by_cases e : id = i
    · subst e
      rw [List.getElem?_set_self hlt] at hi
      obtain rfl := Option.some.inj hi
      cases hpi
    · rw [List.getElem?_set_ne e] at hi
      exact hb ⟨i, si, hi, hpi⟩
  have hx : Ext S w (S.set id ⟨s.gen + 1, s.sz, none⟩) w := ⟨rfl, rfl, rfl, ⟨Nat.le_refl _, fun b _ ho => ⟨hown b ho, rfl⟩, fun _ arr _ h => ⟨arr, h, rfl⟩⟩, SExt.bump hs (by simp)⟩
  have hh : HRel (H.set id ⟨o.gen + 1, o.sz, []⟩) (S.set id ⟨s.gen + 1, s.sz, none⟩) w := by
    refine ⟨by simpa using h.heap.len, fun id' o' s' ho' hs' => ?_, fun i j si sj b hi hj hbi hbj => ?_⟩
    · by_cases e : id = id'
      · subst e
        rw [List.getElem?_set_self hlt] at hs'
        rw [List.getElem?_set_self hltH] at ho'
        obtain rfl := Option.some.inj hs'
        obtain rfl := Option.some.inj ho'
        exact ⟨by simp [ok.gen], ok.sz, ok.pos, fun _ => rfl, fun b hb => by cases hb⟩
      · rw [List.getElem?_set_ne e] at ho' hs'
        have ok' := h.heap.obj id' o' s' ho' hs'
        refine ⟨ok'.gen, ok'.sz, ok'.pos, ok'.nope, fun b hb => ?_⟩
        obtain ⟨arr, ty', h1, h2⟩ := ok'.row hb
        exact ⟨arr, ty', h1, (h2.mono hx.stp hx.slots).1, (h2.mono hx.stp hx.slots).2⟩
    · by_cases ei : id = i
      · subst ei
        rw [List.getElem?_set_self hlt] at hi
        obtain rfl := Option.some.inj hi
        cases hbi
      · by_cases ej : id = j
        · subst ej
          rw [List.getElem?_set_self hlt] at hj
          obtain rfl := Option.some.inj hj
          cases hbj
        · rw [List.getElem?_set_ne ei] at hi
          rw [List.getElem?_set_ne ej] at hj
          exact h.heap.inj i j si sj b hi hj hbi hbj
  have hc := h.step hx hh
  refine ⟨_, ⟨hh, fun t' => ?_, h.size, h.defers⟩, k.trans hx⟩
  by_cases e : t = t'
  · subst e
    rw [get_put_same]
    have hv := h.env t
    rw [ht] at hv
    generalize a.tmps.getD t undef = u at hv
    cases hv with
    | sl s' hs' hg h1 hsl =>
      rw [hs] at hs'
      obtain rfl := Option.some.inj hs'
      obtain ⟨c, hc1, hc2, hsl⟩ := hsl ok.gen.symm
      have hget : ∀ i r, ys[i]? = some r → o.rows[off + i]? = some r ∧ i < len := by
        intro i r hr
        have hi : i < len := by rw [← hlen]; exact (List.getElem?_eq_some_iff.1 hr).1
        rw [← hys, List.getElem?_take, if_pos hi, List.getElem?_drop] at hr
        exact ⟨hr, hi⟩
      rcases hsl with ⟨h0, ad, rfl⟩ | ⟨b, arr, et, hpl, rfl, hb, hfit⟩
      · have el : len = 0 := by omega
        subst el
        have : ys = [] := List.eq_nil_of_length_eq_zero hlen
        subst this
        exact .pl (xs := []) default 0 (fun _ _ => undef) (Nat.zero_le _) (fun h => absurd rfl h) (fun _ _ h => by simp at h) (fun _ h => by simp at h) (fun _ _ _ _ h => by simp at h) (fun _ _ _ _ h => by simp at h)
      · obtain ⟨arr', ty', h1', h2'⟩ := ok.row hpl
        rw [hb] at h1'
        injection h1' with h1'
        injection h1' with h1' h1''
        subst h1'
        have hno : ¬ own (S.set id ⟨s.gen + 1, s.sz, none⟩) b := by
          rintro ⟨i, si, hi, hpi⟩
          by_cases e : id = i
          · subst e
            rw [List.getElem?_set_self hlt] at hi
            obtain rfl := Option.some.inj hi
            cases hpi
          · rw [List.getElem?_set_ne e] at hi
            exact e (h.heap.inj id i s si b hs hi hpl hpi)
        rw [← hlen]
        refine .pl ⟨b, off * s.sz, none⟩ s.sz (fun i j => arr.getD ((off + i) * s.sz + j) undef) (by omega) (fun _ => ⟨rfl, hno, (Array.getElem?_eq_some_iff.1 hb).1⟩) (fun i r hr => by rw [← ok.sz]; exact (h2'.2 _ r (hget i r hr).1).1) (fun i hi j hj => ?_) (fun i j r v hr hv => ((h2'.2 _ r (hget i r hr).1).2 j v hv).1) (fun i j r v hr hv => ?_)
        · have hlt2 : (off + i) * s.sz + j < arr.size := by
            have h3 : (off + i) * s.sz + s.sz ≤ (off + c) * s.sz := by rw [← Nat.succ_mul]; exact Nat.mul_le_mul_right _ (by omega)
            omega
          rw [add_none, cell_of_row w b _ arr _ _ hb, show off * s.sz + (i * s.sz + j) = (off + i) * s.sz + j by rw [Nat.add_mul]; omega]
          simp [hlt2]
        · obtain ⟨hlf, u, hu, hvr⟩ := (h2'.2 _ r (hget i r hr).1).2 j v hv
          rw [ok.sz] at hu
          have : arr.getD ((off + i) * s.sz + j) undef = u := by simp [hu]
          rw [this]
          exact (hvr.pur (AV.bels_get (hp r (List.mem_of_getElem? hr)) hv)).mono hx.stp (SExt.refl _)
  · rw [get_put_other _ _ e]
    exact (h.env t').ext hx
theorem aw_freeze {c : Code} {id off len cap : Nat} {o : AObj} {ys : List (List AV)} (t : Nat) (ht : get env t = .sl id o.gen off len cap) (hid : H[id]? = some o)
    (hys : (o.rows.drop off).take len = ys) (hlen : ys.length = len) (hp : ∀ r ∈ ys, AV.bels 0 r = true) (h : AWp P N B c Q ((t, .pl ys) :: env) (H.set id ⟨o.gen + 1, o.sz, []⟩)) : AWp P N B c Q env H := fun _ a w hc hb =>
  let ⟨S', hc', hb'⟩ := hc.freeze hb ht hid hys hlen hp
  h S' a w hc' hb'

/-- A nil slice is given a row. -/
theorem CR.ghost {S : List Slot} {a : Act} {w : World} {t sz : Nat} (h : CR N env H S a w) (k : Ext B.S B.w S w) (ht : get env t = .nsl) (hp : 0 < sz) :
    ∃ S', CR N ((t, .sl H.length 0 0 0 0) :: env) (H ++ [⟨0, sz, []⟩]) S' a w ∧ Ext B.S B.w S' w := by
  have hx : Ext S w (S ++ [⟨0, sz, none⟩]) w := by
    refine ⟨rfl, rfl, rfl, ⟨Nat.le_refl _, fun b _ ho => ⟨fun k => ?_, rfl⟩, fun _ arr _ h => ⟨arr, h, rfl⟩⟩, SExt.snoc S _⟩
    rcases own_snoc k with k | k
    · exact ho k
    · cases k
  have hh : HRel (H ++ [⟨0, sz, []⟩]) (S ++ [⟨0, sz, none⟩]) w := h.heap.push (s := ⟨0, sz, none⟩) hx hp (fun _ _ => rfl) (fun _ => rfl) (fun b hb => by cases hb)
  refine ⟨_, ⟨hh, fun t' => ?_, h.size, h.defers⟩, k.trans hx⟩
  by_cases e : t = t'
  · subst e
    rw [get_put_same]
    have hv := h.env t
    rw [ht] at hv
    generalize a.tmps.getD t undef = u at hv
    cases hv with
    | @nsl _ ad =>
      exact .sl ⟨0, sz, none⟩ (by rw [h.heap.len]; exact SExt.last S _) (Nat.le_refl _) rfl fun _ => ⟨0, Nat.le_refl _, Nat.le_refl _, .inl ⟨rfl, ad, rfl⟩⟩
  · rw [get_put_other _ _ e]
    exact (h.env t').ext hx
theorem aw_ghost {c : Code} (t sz : Nat) (ht : get env t = .nsl) (hp : 0 < sz) (h : AWp P N B c Q ((t, .sl H.length 0 0 0 0) :: env) (H ++ [⟨0, sz, []⟩])) : AWp P N B c Q env H := fun _ a w hc hb =>
  let ⟨S', hc', hb'⟩ := hc.ghost hb ht hp
  h S' a w hc' hb'
/-- A slice with nothing in it is an empty list. -/
theorem aw_nslpl {c : Code} (t : Nat) (ht : get env t = .nsl) (h : AWp P N B c Q ((t, .pl []) :: env) H) : AWp P N B c Q env H := fun S a w hc hb => by
  refine h S a w ⟨hc.heap, fun t' => ?_, hc.size, hc.defers⟩ hb
  by_cases e : t = t'
  · subst e
    rw [get_put_same]
    have hv := hc.env t
    rw [ht] at hv
    generalize a.tmps.getD t undef = u at hv
    cases hv with
    | @nsl _ ad => exact .pl (xs := []) default 0 (fun _ _ => undef) (Nat.zero_le _) (fun h => absurd rfl h) (fun _ _ h => by simp at h) (fun _ h => by simp at h) (fun _ _ _ _ h => by simp at h) (fun _ _ _ _ h => by simp at h)
  · rw [get_put_other _ _ e]
    exact hc.env t'
end
end Go.Av
