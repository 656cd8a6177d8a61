/-
  VALUES SEEN FROM ABOVE: what a Go value is once memory's places are forgotten ('AV'), how such a value lies in a world ('VR'), and what a step of the call may turn ('Ext').
  A slice that nobody writes any more is the list of its elements ('pl'); one that the call itself made is a name for a row of an abstract memory ('sl'), pointers likewise ('pt').
-/
import Derived.Laws.Append
import Derived.Laws.AppendOwn
import Derived.Laws.Rows
import Derived.Laws.CopyRow
import Derived.Laws.NewBlocks
import Derived.Deep.LoopGhost
import Derived.Below
import Derived.Tactics
namespace Go.Av

inductive AV where
  | junk
  | int (k : IntKind) (n : Int)
  | bool (b : Bool)
  | str (s : ByteArray)
  | flt (k : FloatKind) (bits : Nat)
  | nsl
  | pl (xs : List (List AV))
  | sl (id g off len cap : Nat)
  | pt (id g i j : Nat)
  | pp (xs : List (List AV)) (i j : Nat)
  | nptr
  | agg (cs : List AV)
  | tup (vs : List AV)
  | fn (f : Fn) (first caps : List AV)
  | nfn
  | ifc (t : TypeId) (v : AV)
  | nifc
  | raw (u : Value)
  | know (g : Nat) (tab : List Value)
  deriving Inhabited

def AV.leaf : AV → Bool
  | .junk | .agg _ | .tup _ | .raw _ | .know _ _ => false
  | _ => true

/-- Where an abstract row lies: how often it has moved, how wide its elements are, in which block. -/
structure Slot where
  gen : Nat
  sz : Nat
  place : Option Nat

def own (S : List Slot) (b : Nat) : Prop := ∃ (i : Nat) (s : Slot), S[i]? = some s ∧ s.place = some b

def SlOK (w : World) (s : Slot) (off len cap : Nat) (u : Value) : Prop :=
  ∃ c, cap ≤ c ∧ len ≤ c ∧ ((c = 0 ∧ ∃ a, u = .slice a 0 0) ∨
    ∃ (b : Nat) (arr : Array Value) (ty : TypeId), s.place = some b ∧ u = .slice (some ⟨b, off * s.sz, none⟩) len c ∧ w.heap[b]? = some (Obj.cells arr ty (0, 0)) ∧ (off + c) * s.sz ≤ arr.size)

inductive VR (O : Nat → Prop) (w : World) : List Slot → AV → Value → Prop where
  | junk {S : List Slot} {u : Value} : VR O w S .junk u
  | int {S : List Slot} {k : IntKind} {n : Int} : VR O w S (.int k n) (.int k n)
  | bool {S : List Slot} {b : Bool} : VR O w S (.bool b) (.bool b)
  | str {S : List Slot} {s : ByteArray} : VR O w S (.str s) (.string s)
  | flt {S : List Slot} {k : FloatKind} {b : Nat} : VR O w S (.flt k b) (.float k b)
  | nsl {S : List Slot} {a : Option Addr} : VR O w S .nsl (.slice a 0 0)
  | pl {S : List Slot} {xs : List (List AV)} {a : Option Addr} {c : Nat} (base : Addr) (sz : Nat) (u : Nat → Nat → Value)
      (hc : xs.length ≤ c) (hb : xs ≠ [] → a = some base ∧ ¬ O base.block ∧ base.block < w.heap.size)
      (hs : ∀ (i : Nat) (r : List AV), xs[i]? = some r → r.length = sz)
      (hm : ∀ i, i < xs.length → ∀ j, j < sz → w.cell? (base.add (i * sz + j)) = some (u i j))
      (hl : ∀ (i j : Nat) (r : List AV) (v : AV), xs[i]? = some r → r[j]? = some v → v.leaf = true)
      (hv : ∀ (i j : Nat) (r : List AV) (v : AV), xs[i]? = some r → r[j]? = some v → VR O w [] v (u i j)) : VR O w S (.pl xs) (.slice a xs.length c)
  | sl {S : List Slot} {id g off len cap : Nat} {u : Value} (s : Slot) (hs : S[id]? = some s) (hg : g ≤ s.gen) (h1 : u.oneCell' = true) (h : s.gen = g → SlOK w s off len cap u) : VR O w S (.sl id g off len cap) u
  | pt {S : List Slot} {id g i j : Nat} {u : Value} (s : Slot) (hs : S[id]? = some s) (hg : g ≤ s.gen) (h1 : u.oneCell' = true)
      (h : s.gen = g → ∃ b, s.place = some b ∧ u = .pointer (some ⟨b, i * s.sz + j, none⟩)) : VR O w S (.pt id g i j) u
  | pp {S : List Slot} {xs : List (List AV)} {i j : Nat} (base : Addr) (sz : Nat) (u : Nat → Nat → Value)
      (hb : ¬ O base.block ∧ base.block < w.heap.size)
      (hs : ∀ (i : Nat) (r : List AV), xs[i]? = some r → r.length = sz)
      (hm : ∀ i, i < xs.length → ∀ j, j < sz → w.cell? (base.add (i * sz + j)) = some (u i j))
      (hl : ∀ (i j : Nat) (r : List AV) (v : AV), xs[i]? = some r → r[j]? = some v → v.leaf = true)
      (hv : ∀ (i j : Nat) (r : List AV) (v : AV), xs[i]? = some r → r[j]? = some v → VR O w [] v (u i j)) : VR O w S (.pp xs i j) (.pointer (some (base.add (i * sz + j))))
  | nptr {S : List Slot} : VR O w S .nptr (.pointer none)
  | agg {S : List Slot} {cs : List AV} {vs : Array Value} (hn : cs.length = vs.size) (hl : ∀ (j : Nat) (v : AV), cs[j]? = some v → v.leaf = true)
      (h : ∀ (j : Nat) (v : AV) (u : Value), cs[j]? = some v → vs[j]? = some u → VR O w S v u) : VR O w S (.agg cs) (.agg vs)
  | tup {S : List Slot} {cs : List AV} {vs : Array Value} (hn : cs.length = vs.size)
      (h : ∀ (j : Nat) (v : AV) (u : Value), cs[j]? = some v → vs[j]? = some u → VR O w S v u) : VR O w S (.tup cs) (.tuple vs)
  | fn {S : List Slot} {f : Fn} {p q : List AV} {p' q' : Array Value} (hp : p.length = p'.size) (hq : q.length = q'.size)
      (h1 : ∀ (j : Nat) (v : AV) (u : Value), p[j]? = some v → p'[j]? = some u → VR O w S v u) (h2 : ∀ (j : Nat) (v : AV) (u : Value), q[j]? = some v → q'[j]? = some u → VR O w S v u) : VR O w S (.fn f p q) (.func f p' q')
  | nfn {S : List Slot} : VR O w S .nfn .nilFunc
  | ifc {S : List Slot} {t : TypeId} {v : AV} {u : Value} (h : VR O w S v u) : VR O w S (.ifc t v) (.iface t u)
  | nifc {S : List Slot} : VR O w S .nifc .nilIface
  | raw {S : List Slot} {u : Value} : VR O w S (.raw u) u
  | know {S : List Slot} {g : Nat} {tab : List Value} {u : Value} (ho : ¬ O g) (hg : g < w.heap.size) (h : ∀ j v, tab[j]? = some v → w.cell? ⟨g, j, none⟩ = some v) : VR O w S (.know g tab) u

theorem VR.one {O : Nat → Prop} {w : World} {S : List Slot} {v : AV} {u : Value} (h : VR O w S v u) (hl : v.leaf = true) : u.oneCell' = true := by
  cases h with
  | sl s hs hg h1 h => exact h1
  | pt s hs hg h1 h => exact h1
  | _ => first | rfl | (simp [AV.leaf] at hl)

/-- What a step of the call may turn in memory: blocks that are the call's own ('O' before, 'O'' behind), and new ones. -/
structure Stp (O O' : Nat → Prop) (w w' : World) : Prop where
  size : w.heap.size ≤ w'.heap.size
  old : ∀ b, b < w.heap.size → ¬ O b → ¬ O' b ∧ w'.heap[b]? = w.heap[b]?
  cells : ∀ (b : Nat) (arr : Array Value) (ty : TypeId), w.heap[b]? = some (Obj.cells arr ty (0, 0)) → ∃ arr' : Array Value, w'.heap[b]? = some (Obj.cells arr' ty (0, 0)) ∧ arr'.size = arr.size

def SExt (S S' : List Slot) : Prop := ∀ (id : Nat) (s : Slot), S[id]? = some s → ∃ s' : Slot, S'[id]? = some s' ∧ s.gen ≤ s'.gen ∧ (s'.gen = s.gen → s'.sz = s.sz ∧ s'.place = s.place)

theorem SExt.refl (S : List Slot) : SExt S S := fun _ s h => ⟨s, h, Nat.le_refl _, fun _ => ⟨rfl, rfl⟩⟩
theorem SExt.nil (S : List Slot) : SExt [] S := fun _ _ h => by simp at h
theorem SExt.trans {S S' S'' : List Slot} (h : SExt S S') (k : SExt S' S'') : SExt S S'' := fun id s hs => by
  obtain ⟨s', h1, h2, h3⟩ := h id s hs
  obtain ⟨s'', k1, k2, k3⟩ := k id s' h1
  refine ⟨s'', k1, Nat.le_trans h2 k2, fun e => ?_⟩
  have e1 : s'.gen = s.gen := by omega
  have e2 : s''.gen = s'.gen := by omega
  exact ⟨(k3 e2).1.trans (h3 e1).1, (k3 e2).2.trans (h3 e1).2⟩
theorem SExt.snoc (S : List Slot) (s : Slot) : SExt S (S ++ [s]) := fun id x hx => by
  refine ⟨x, ?_, Nat.le_refl _, fun _ => ⟨rfl, rfl⟩⟩
  rw [List.getElem?_append_left (List.getElem?_eq_some_iff.1 hx).1]
  exact hx

theorem Stp.refl (O : Nat → Prop) (w : World) : Stp O O w w := ⟨Nat.le_refl _, fun _ _ h => ⟨h, rfl⟩, fun _ arr _ h => ⟨arr, h, rfl⟩⟩
theorem Stp.trans {O O' O'' : Nat → Prop} {w w' w'' : World} (h : Stp O O' w w') (k : Stp O' O'' w' w'') : Stp O O'' w w'' := by
  refine ⟨Nat.le_trans h.size k.size, fun b hb hO => ?_, fun b arr ty hb => ?_⟩
  · obtain ⟨h1, h2⟩ := h.old b hb hO
    obtain ⟨k1, k2⟩ := k.old b (Nat.lt_of_lt_of_le hb h.size) h1
    exact ⟨k1, k2.trans h2⟩
  · obtain ⟨a1, h1, h2⟩ := h.cells b arr ty hb
    obtain ⟨a2, k1, k2⟩ := k.cells b a1 ty h1
    exact ⟨a2, k1, k2.trans h2⟩
theorem Stp.cell {O O' : Nat → Prop} {w w' : World} (h : Stp O O' w w') {a : Addr} {v : Value} (ha : ¬ O a.block) (hc : w.cell? a = some v) : w'.cell? a = some v :=
  (World.cell?_of_block (h.old a.block (World.block_lt_of_cell? w a hc) ha).2).trans hc

theorem add_block (a : Addr) (n : Nat) : (a.add n).block = a.block := by unfold Addr.add; split <;> rfl

theorem SlOK.mono {w w' : World} {O O' : Nat → Prop} {s s' : Slot} {off len cap : Nat} {u : Value} (h : SlOK w s off len cap u) (hw : Stp O O' w w') (h1 : s'.sz = s.sz) (h2 : s'.place = s.place) : SlOK w' s' off len cap u := by
  obtain ⟨c, hc, hl, h⟩ := h
  refine ⟨c, hc, hl, ?_⟩
  rcases h with h | ⟨b, arr, ty, hp, hu, hb, hsz⟩
  · exact .inl h
  · obtain ⟨arr', hb', hs'⟩ := hw.cells b arr ty hb
    exact .inr ⟨b, arr', ty, h2.trans hp, by rw [h1]; exact hu, hb', by rw [h1, hs']; exact hsz⟩

theorem VR.mono {O : Nat → Prop} {w : World} {S : List Slot} {v : AV} {u : Value} (h : VR O w S v u) : ∀ {O' : Nat → Prop} {w' : World} {S' : List Slot}, Stp O O' w w' → SExt S S' → VR O' w' S' v u := by
  induction h with
  | junk => intros; exact .junk
  | int => intros; exact .int
  | bool => intros; exact .bool
  | str => intros; exact .str
  | flt => intros; exact .flt
  | nsl => intros; exact .nsl
  | nptr => intros; exact .nptr
  | nfn => intros; exact .nfn
  | nifc => intros; exact .nifc
  | raw => intros; exact .raw
  | know ho hg h =>
    intro O' w' S' hw _
    exact .know (hw.old _ hg ho).1 (Nat.lt_of_lt_of_le hg hw.size) fun j v hv => hw.cell ho (h j v hv)
  | ifc _ ih => intro O' w' S' hw hS; exact .ifc (ih hw hS)
  | pl base sz u hc hb hs hm hl _ ih =>
    intro O' w' S' hw _
    refine .pl base sz u hc (fun hx => ?_) hs (fun i hi j hj => ?_) hl (fun i j r v hr hv => ih i j r v hr hv hw (SExt.refl _))
    · obtain ⟨h1, h2, h3⟩ := hb hx
      exact ⟨h1, (hw.old _ h3 h2).1, Nat.lt_of_lt_of_le h3 hw.size⟩
    · exact hw.cell (by rw [add_block]; exact (hb (by intro e; simp [e] at hi)).2.1) (hm i hi j hj)
  | pp base sz u hb hs hm hl _ ih =>
    intro O' w' S' hw _
    exact .pp base sz u ⟨(hw.old _ hb.2 hb.1).1, Nat.lt_of_lt_of_le hb.2 hw.size⟩ hs (fun i hi j hj => hw.cell (by rw [add_block]; exact hb.1) (hm i hi j hj)) hl (fun i j r v hr hv => ih i j r v hr hv hw (SExt.refl _))
  | sl s hs hg h1 h =>
    intro O' w' S' hw hS
    obtain ⟨s', hs', hg', he⟩ := hS _ _ hs
    refine .sl s' hs' (Nat.le_trans hg hg') h1 fun e => ?_
    have e1 : s'.gen = s.gen := by omega
    exact (h (by omega)).mono hw (he e1).1 (he e1).2
  | pt s hs hg h1 h =>
    intro O' w' S' hw hS
    obtain ⟨s', hs', hg', he⟩ := hS _ _ hs
    refine .pt s' hs' (Nat.le_trans hg hg') h1 fun e => ?_
    have e1 : s'.gen = s.gen := by omega
    obtain ⟨b, hb, hu⟩ := h (by omega)
    exact ⟨b, (he e1).2.trans hb, by rw [(he e1).1]; exact hu⟩
  | agg hn hl _ ih => intro O' w' S' hw hS; exact .agg hn hl fun j v u hv hu => ih j v u hv hu hw hS
  | tup hn _ ih => intro O' w' S' hw hS; exact .tup hn fun j v u hv hu => ih j v u hv hu hw hS
  | fn hp hq _ _ ih1 ih2 => intro O' w' S' hw hS; exact .fn hp hq (fun j v u hv hu => ih1 j v u hv hu hw hS) (fun j v u hv hu => ih2 j v u hv hu hw hS)

/-! ### The abstract memory -/
structure AObj where
  gen : Nat
  sz : Nat
  rows : List (List AV)
  deriving Inhabited

abbrev Heap := List AObj

structure ObjOK (S : List Slot) (w : World) (o : AObj) (s : Slot) : Prop where
  gen : o.gen = s.gen
  sz : o.sz = s.sz
  pos : 0 < o.sz
  nope : s.place = none → o.rows = []
  lies : ∀ b, s.place = some b → ∃ (arr : Array Value) (ty : TypeId), w.heap[b]? = some (Obj.cells arr ty (0, 0)) ∧ o.rows.length * o.sz ≤ arr.size ∧
    ∀ (i : Nat) (r : List AV), o.rows[i]? = some r → r.length = o.sz ∧ ∀ (j : Nat) (v : AV), r[j]? = some v → v.leaf = true ∧ ∃ u, arr[i * o.sz + j]? = some u ∧ VR (own S) w S v u

structure HRel (H : Heap) (S : List Slot) (w : World) : Prop where
  len : H.length = S.length
  obj : ∀ (id : Nat) (o : AObj) (s : Slot), H[id]? = some o → S[id]? = some s → ObjOK S w o s
  inj : ∀ (i j : Nat) (si sj : Slot) (b : Nat), S[i]? = some si → S[j]? = some sj → si.place = some b → sj.place = some b → i = j

structure Ext (S : List Slot) (w : World) (S' : List Slot) (w' : World) : Prop where
  os : w'.os = w.os
  tape : w'.tape = w.tape
  output : w'.output = w.output
  stp : Stp (own S) (own S') w w'
  slots : SExt S S'

theorem Ext.refl (S : List Slot) (w : World) : Ext S w S w := ⟨rfl, rfl, rfl, Stp.refl _ _, SExt.refl _⟩
theorem Ext.trans {S S' S'' : List Slot} {w w' w'' : World} (h : Ext S w S' w') (k : Ext S' w' S'' w'') : Ext S w S'' w'' :=
  ⟨k.os.trans h.os, k.tape.trans h.tape, k.output.trans h.output, h.stp.trans k.stp, h.slots.trans k.slots⟩
theorem VR.ext {S S' : List Slot} {w w' : World} {v : AV} {u : Value} (h : VR (own S) w S v u) (k : Ext S w S' w') : VR (own S') w' S' v u := h.mono k.stp k.slots

theorem own_lt {H : Heap} {S : List Slot} {w : World} (h : HRel H S w) {b : Nat} (hb : own S b) : b < w.heap.size := by
  obtain ⟨i, s, hs, hp⟩ := hb
  have hi : i < H.length := by rw [h.len]; exact (List.getElem?_eq_some_iff.1 hs).1
  obtain ⟨arr, ty, ha, _⟩ := (h.obj i _ s (List.getElem?_eq_getElem hi) hs).lies b hp
  exact (Array.getElem?_eq_some_iff.1 ha).1

/-! ### Environments -/
abbrev Env := List (Nat × AV)
def get : Env → Nat → AV
  | [], _ => .junk
  | (d, v) :: e, t => match Nat.beq d t with
    | true => v
    | false => get e t
def put (e : Env) : Option Nat → AV → Env
  | some d, v => (d, v) :: e
  | none, _ => e

structure CR (N : Nat) (e : Env) (H : Heap) (S : List Slot) (a : Act) (w : World) : Prop where
  heap : HRel H S w
  env : ∀ t, VR (own S) w S (get e t) (a.tmps.getD t undef)
  size : a.tmps.size = N
  defers : a.defers = []

theorem get_put_same (e : Env) (d : Nat) (v : AV) : get ((d, v) :: e) d = v := by simp [get]
theorem get_put_other (e : Env) {d t : Nat} (v : AV) (h : d ≠ t) : get ((d, v) :: e) t = get e t := by
  have : Nat.beq d t = false := by
    cases hb : Nat.beq d t with
    | false => rfl
    | true => exact absurd (Nat.eq_of_beq_eq_true hb) h
  simp [get, this]

theorem CR.put {N : Nat} {e : Env} {H H' : Heap} {S S' : List Slot} {a : Act} {w w' : World} (h : CR N e H S a w) (x : Ext S w S' w') (hh : HRel H' S' w') {d : Option Nat} {v : AV} {u : Value}
    (hd : ∀ t, d = some t → t < N) (hv : VR (own S') w' S' v u) : CR N (Av.put e d v) H' S' (a.put d u) w' := by
  have hs := h.size
  cases d with
  | none => exact ⟨hh, fun t => (h.env t).ext x, hs, h.defers⟩
  | some d =>
    have hd := hd d rfl
    refine ⟨hh, fun t => ?_, by simpa [Act.put] using hs, h.defers⟩
    by_cases e : d = t
    · subst e
      have h1 : (a.put (some d) u).tmps.getD d undef = u := by simp [Act.put, hs, hd]
      rw [h1]
      show VR _ _ _ (get ((d, v) :: _) d) u
      rw [get_put_same]; exact hv
    · have h1 : (a.put (some d) u).tmps.getD t undef = a.tmps.getD t undef := by simp [Act.put, Array.getElem?_setIfInBounds_ne e]
      rw [h1]
      show VR _ _ _ (get ((d, v) :: _) t) _
      rw [get_put_other _ _ e]; exact (h.env t).ext x
theorem CR.step {N : Nat} {e : Env} {H H' : Heap} {S S' : List Slot} {a : Act} {w w' : World} (h : CR N e H S a w) (x : Ext S w S' w') (hh : HRel H' S' w') : CR N e H' S' a w' :=
  ⟨hh, fun t => (h.env t).ext x, h.size, h.defers⟩

end Go.Av
