/-
  A ROW OF THE CALL's OWN IS LENT TO A CALL THAT ONLY READS IT: there it is a list; behind the call it is a row again.
-/
import Derived.Test.YtmhfpopbhiloiaaDoorAv14
namespace Go.Av

/-- Values that name no memory. -/
def AV.flat : AV → Bool
  | .int .. | .bool _ | .str _ | .flt .. | .nptr | .nifc | .nfn | .nsl | .junk => true
  | _ => false
theorem VR.flat {O O' : Nat → Prop} {w w' : World} {S S' : List Slot} {v : AV} {u : Value} (h : VR O w S v u) (hf : v.flat = true) : VR O' w' S' v u := by
  cases h <;> first | (simp [AV.flat] at hf; done) | constructor
theorem VR.free {O : Nat → Prop} {w : World} {S : List Slot} {v : AV} {u : Value} (h : VR O w S v u) (hb : v.bel 0 = true) : VR (own []) w [] v u :=
  (h.pur hb).mono ⟨Nat.le_refl _, fun b _ _ => ⟨by rintro ⟨i, s, hs, _⟩; simp at hs, rfl⟩, fun _ arr _ h => ⟨arr, h, rfl⟩⟩ (SExt.refl _)

/-- What a callee that only reads sees of a cell. -/
inductive Lend1 (H : Heap) : AV → AV → Prop where
  | sl {id off len cap : Nat} {o : AObj} {ys : List (List AV)} (hid : H[id]? = some o) (hp : ∀ r ∈ ys, AV.bels 0 r = true) (hys : (o.rows.drop off).take len = ys) (hlen : ys.length = len) : Lend1 H (.sl id o.gen off len cap) (.pl ys)
  | same {v : AV} (hb : v.bel 0 = true) (hl : v.leaf = true) : Lend1 H v v
inductive Lends (H : Heap) : List AV → List AV → Prop where
  | nil : Lends H [] []
  | cons {a b : AV} {as bs : List AV} (h : Lend1 H a b) (k : Lends H as bs) : Lends H (a :: as) (b :: bs)
inductive Lend (H : Heap) : AV → AV → Prop where
  | one {a b : AV} (h : Lend1 H a b) : Lend H a b
  | agg {cs ds : List AV} (h : Lends H cs ds) : Lend H (.agg cs) (.agg ds)
  | pure {v : AV} (hb : v.bel 0 = true) : Lend H v v
inductive LendAll (H : Heap) : List AV → List AV → Prop where
  | nil : LendAll H [] []
  | cons {a b : AV} {as bs : List AV} (h : Lend H a b) (k : LendAll H as bs) : LendAll H (a :: as) (b :: bs)

theorem Lend1.leaf {H : Heap} {a b : AV} (h : Lend1 H a b) : b.leaf = true := by cases h <;> first | rfl | assumption
theorem Lends.get {H : Heap} : ∀ {as bs : List AV}, Lends H as bs → as.length = bs.length ∧ ∀ (j : Nat) (b : AV), bs[j]? = some b → ∃ a, as[j]? = some a ∧ Lend1 H a b
  | _, _, .nil => ⟨rfl, fun j b h => by simp at h⟩
  | _, _, .cons h k => by
    obtain ⟨h1, h2⟩ := k.get
    refine ⟨by simp [h1], fun j b hb => ?_⟩
    cases j with
    | zero => simp at hb; subst hb; exact ⟨_, rfl, h⟩
    | succ j => simpa using h2 j b (by simpa using hb)
theorem LendAll.get {H : Heap} : ∀ {as bs : List AV}, LendAll H as bs → as.length = bs.length ∧ ∀ (j : Nat) (b : AV), bs[j]? = some b → ∃ a, as[j]? = some a ∧ Lend H a b
  | _, _, .nil => ⟨rfl, fun j b h => by simp at h⟩
  | _, _, .cons h k => by
    obtain ⟨h1, h2⟩ := k.get
    refine ⟨by simp [h1], fun j b hb => ?_⟩
    cases j with
    | zero => simp at hb; subst hb; exact ⟨_, rfl, h⟩
    | succ j => simpa using h2 j b (by simpa using hb)

theorem Lend1.vr {H : Heap} {S : List Slot} {w : World} (hh : HRel H S w) {a b : AV} {u : Value} (h : Lend1 H a b) (hv : VR (own S) w S a u) : VR (own []) w [] b u := by
  cases h with
  | same hb _ => exact hv.free hb
  | @sl id off len cap o ys hid hp hys hlen =>
    obtain ⟨s, hs, ok⟩ := hh.slot hid
    have hc : CR 1 [(0, .sl id o.gen off len cap)] H S { tmps := #[u], defers := [] } w := ⟨hh, fun t => by
      cases t with
      | zero => exact hv
      | succ t => exact .junk, rfl, rfl⟩
    obtain ⟨S', hc', _⟩ := hc.freeze (B := ⟨S, w⟩) (t := 0) (id := id) (cap := cap) (o := o) (Ext.refl S w) rfl hid hys hlen hp
    have := hc'.env 0
    rw [get_put_same] at this
    exact this.free rfl
theorem Lend.vr {H : Heap} {S : List Slot} {w : World} (hh : HRel H S w) {a b : AV} {u : Value} (h : Lend H a b) (hv : VR (own S) w S a u) : VR (own []) w [] b u := by
  cases h with
  | one h => exact h.vr hh hv
  | pure hb => exact hv.free hb
  | agg h =>
    obtain ⟨h1, h2⟩ := h.get
    cases hv with
    | agg hn hl hvr =>
      refine .agg (h1.symm.trans hn) (fun j v hj => ?_) (fun j v u hj hu => ?_)
      · obtain ⟨a, _, ha⟩ := h2 j v hj
        exact ha.leaf
      · obtain ⟨a, haj, ha⟩ := h2 j v hj
        exact ha.vr hh (hvr j a u haj hu)

section
variable {P : Program} {N : Nat} {env : Env} {H : Heap} {ty : TypeId}
/-- A call that only reads, and hands back a plain value. -/
theorem V2.lend {f : Nat} {xs : Array Operand} {ts : Array TypeId} {v : AV} {us : List AV} [FnI P f] (hac : AC P f us [] (Ret v [])) (hl : LendAll H (xs.toList.map (aev env)) us) (hf : v.flat = true) :
    V2 P N (.call { callee := .value (.func f), args := xs, argTypes := ts }) ty env H v H := by
  refine V2.call (vs := xs.toList.map (aev env)) ?_ rfl
  intro S w cargs hH hv
  obtain ⟨h1, h2⟩ := hl.get
  have hv' : VRs (own []) w [] us cargs := ⟨h1.symm.trans hv.1, fun i b u hb hu => by
    obtain ⟨a, ha, hab⟩ := h2 i b hb
    exact hab.vr hH (hv.2 i a u ha hu)⟩
  refine (hac [] w cargs ⟨rfl, fun _ _ _ h => by simp at h, fun _ _ _ _ _ h => by simp at h⟩ hv').mono ?_
  rintro e w' ⟨o, H', S', ⟨rfl, rfl⟩, ho, hh, hx⟩
  have hno : ∀ b, ¬ own [] b := by rintro b ⟨i, s, hs, _⟩; simp at hs
  have hold : ∀ b, b < w.heap.size → w'.heap[b]? = w.heap[b]? := fun b hb => (hx.stp.old b hb (hno b)).2
  have hx' : Ext S w S w' := ⟨hx.os, hx.tape, hx.output, ⟨hx.stp.size, fun b hb ho => ⟨ho, hold b hb⟩, hx.stp.cells⟩, SExt.refl S⟩
  refine ⟨.ret v, H, S, ⟨rfl, rfl⟩, ?_, same_heap hH hx' hold, hx'⟩
  cases ho with
  | ret hvr => exact .ret (hvr.flat hf)

/-- A cell of a row is told otherwise: what lies there is also v2. -/
theorem HRel.retell {H : Heap} {S : List Slot} {w : World} (h : HRel H S w) {k i j b : Nat} {o : AObj} {s : Slot} {r : List AV} {v2 : AV} {arr : Array Value} {ty : TypeId} {u : Value} (hk : H[k]? = some o) (hs : S[k]? = some s) (hp : s.place = some b) (hb : w.heap[b]? = some (Obj.cells arr ty (0, 0)))
    (hr : o.rows[i]? = some r) (hj : j < r.length) (hu : arr[i * o.sz + j]? = some u) (hl : v2.leaf = true) (hv : VR (own S) w S v2 u) : HRel (H.set k { o with rows := o.rows.set i (r.set j v2) }) S w := by
  refine ⟨by simpa using h.len, fun id' o' s' ho' hs' => ?_, h.inj⟩
  by_cases e : k = id'
  · subst e
    rw [List.getElem?_set_self (List.getElem?_eq_some_iff.1 hk).1] at ho'
    obtain rfl := Option.some.inj ho'
    rw [hs] at hs'
    obtain rfl := Option.some.inj hs'
    have ok := h.obj k o s hk hs
    refine ⟨ok.gen, ok.sz, ok.pos, fun hn => (by rw [hp] at hn; cases hn), fun b' hb' => ?_⟩
    obtain ⟨arr', ty', h1, h2, h3⟩ := ok.lies b' hb'
    rw [hp] at hb'
    obtain rfl := Option.some.inj hb'
    rw [hb] at h1
    injection h1 with h1
    injection h1 with h1 h1'
    subst h1
    refine ⟨arr, ty, hb, by simpa using h2, fun i' r' hr' => ?_⟩
    by_cases ei : i = i'
    · subst ei
      have hil : i < o.rows.length := (List.getElem?_eq_some_iff.1 hr).1
      rw [List.getElem?_set_self hil] at hr'
      obtain rfl := Option.some.inj hr'
      obtain ⟨k1, k2⟩ := h3 i r hr
      refine ⟨by simpa using k1, fun j' v' hv' => ?_⟩
      by_cases ej : j = j'
      · subst ej
        rw [List.getElem?_set_self hj] at hv'
        obtain rfl := Option.some.inj hv'
        exact ⟨hl, u, hu, hv⟩
      · rw [List.getElem?_set_ne ej] at hv'
        exact k2 j' v' hv'
    · rw [List.getElem?_set_ne ei] at hr'
      exact h3 i' r' hr'
  · rw [List.getElem?_set_ne e] at ho'
    exact h.obj id' o' s' ho' hs'

/-- A row is let go, and the cell that leads to it holds a list from then on. -/
theorem CR.freezeC {B : Base} {S : List Slot} {a : Act} {w : World} {k i j id off len cap : Nat} {o q : AObj} {r : List AV} {ys : List (List AV)} (h : CR N env H S a w) (hx : Ext B.S B.w S w) (hk : H[k]? = some q) (hr : q.rows[i]? = some r) (hj : r[j]? = some (.sl id o.gen off len cap)) (hne : id ≠ k)
    (hid : H[id]? = some o) (hys : (o.rows.drop off).take len = ys) (hlen : ys.length = len) (hp : ∀ r ∈ ys, AV.bels 0 r = true) :
    ∃ S', CR N env ((H.set id ⟨o.gen + 1, o.sz, []⟩).set k { q with rows := q.rows.set i (r.set j (.pl ys)) }) S' a w ∧ Ext B.S B.w S' w := by
  obtain ⟨s, hs, ok⟩ := h.heap.slot hk
  have hil := (List.getElem?_eq_some_iff.1 hr).1
  cases hpl : s.place with
  | none => rw [ok.nope hpl] at hil; simp at hil
  | some b =>
    obtain ⟨arr, ty, h1, h2, h3⟩ := ok.lies b hpl
    obtain ⟨k1, k2⟩ := h3 i r hr
    obtain ⟨_, u, hu, hv⟩ := k2 j _ hj
    have hc : CR 1 [(0, .sl id o.gen off len cap)] H S { tmps := #[u], defers := [] } w := ⟨h.heap, fun t => by
      cases t with
      | zero => exact hv
      | succ t => exact .junk, rfl, rfl⟩
    obtain ⟨S', hc', hx'⟩ := hc.freeze (B := ⟨S, w⟩) (t := 0) (id := id) (cap := cap) (o := o) (Ext.refl S w) rfl hid hys hlen hp
    have hv2 := hc'.env 0
    rw [get_put_same] at hv2
    have hk' : (H.set id ⟨o.gen + 1, o.sz, []⟩)[k]? = some q := by rw [List.getElem?_set_ne hne]; exact hk
    obtain ⟨s', hs', ok'⟩ := hc'.heap.slot hk'
    obtain ⟨s2, hs2, hg, he⟩ := hx'.slots k s hs
    rw [hs'] at hs2
    obtain rfl := Option.some.inj hs2
    have hpl' : s'.place = some b := (he (by rw [← ok'.gen, ok.gen])).2.trans hpl
    have hh := hc'.heap.retell (v2 := .pl ys) hk' hs' hpl' h1 hr (List.getElem?_eq_some_iff.1 hj).1 hu rfl hv2
    exact ⟨S', ⟨hh, fun t => (h.env t).ext hx', h.size, h.defers⟩, hx.trans hx'⟩
theorem aw_freezeC {B : Base} {Q : Post} {c : Code} {L : Heap} {H0 : Heap} {n k i j kid g off len cap : Nat} {o q : AObj} {r : List AV} {ys : List (List AV)} (k' : Nat) (hk' : k' = k) (hk : L[k]? = some q) (hr : q.rows[i]? = some r) (hj : r[j]? = some (.sl (Lid n kid) g off len cap)) (hn : H0.length = n) (hne : kid ≠ k)
    (hid : L[kid]? = some o) (hg : o.gen = g) (hys : (o.rows.drop off).take len = ys) (hlen : ys.length = len) (hp : ∀ r ∈ ys, AV.bels 0 r = true)
    (h : AWp P N B c Q env (H0 ++ (L.set kid ⟨g + 1, o.sz, []⟩).set k { q with rows := q.rows.set i (r.set j (.pl ys)) })) : AWp P N B c Q env (H0 ++ L) := fun S a w hc hb => by
  subst hg
  obtain ⟨S', hc', hb'⟩ := hc.freezeC (id := Lid n kid) (k := Lid n k) hb (lk hn hk) hr hj (by unfold Lid; omega) (lk hn hid) hys hlen hp
  rw [st hn, st hn] at hc'
  exact h S' a w hc' hb'
end
end Go.Av
