/-
  THE RULES OF ADDRESSES, PARTS, CUTS, LENGTHS, TEXTS, AGGREGATES, FUNCTION VALUES AND INTERFACE VALUES.
-/
import Derived.Test.YtmhfpopbhiloiaaDoorAv4
namespace Go.Av

section
variable {P : Program} {N : Nat} {env : Env} {H : Heap} {ty : TypeId}

/-! #### nil checks -/
theorem o_nilCheck {x : Operand} {id i j : Nat} {o : AObj} (hx : aev env x = .pt id o.gen i j) (hid : H[id]? = some o) : V1 P N (.nilCheck x) ty env H (.pt id o.gen i j) := by
  intro S a w hc
  obtain ⟨s, b, arr, _, hs, hpl, he, hb, hrow⟩ := hc.ptr hx hid
  have hv := hc.ev x
  rw [hx] at hv
  exact ⟨a.eval x, fun _ _ _ _ => by simp [execOp, he], hv⟩
theorem o_nilCheckp {x : Operand} {xs : List (List AV)} {i j : Nat} (hx : aev env x = .pp xs i j) : V1 P N (.nilCheck x) ty env H (.pp xs i j) := by
  intro S a w hc
  have hv := hc.ev x
  rw [hx] at hv
  generalize he : a.eval x = u at hv
  refine ⟨u, fun _ _ _ _ => ?_, hv⟩
  cases hv
  simp [execOp, he]

/-! #### Addresses of parts -/
theorem run_fieldPlace {s ft : TypeId} {f off sz : Nat} {agg : Bool} [hf : FldI P s f off ft] [TyI P ft agg sz] (h0 : sz ≠ 0) (ad : Addr) (w : World) :
    (Instr.fieldAt s (.pointer (some ad)) f).run P w = .ok (.pointer (some (ad.add off))) w := by
  have hu := hf.ud
  cases hd : P.underlying s with
  | none => simp [hd] at hu
  | some d =>
    rw [hd] at hu
    cases d <;> simp only [] at hu <;> try (cases hu; done)
    rename_i fs
    cases hfd : fs[f]? with
    | none => simp [hfd] at hu
    | some fd =>
      rw [hfd] at hu
      simp at hu
      obtain ⟨h1, h2⟩ := hu
      subst h1; subst h2
      simp [Instr.fieldAt, run_und hd, hfd, Instr.sureAddr, fieldPlace, run_sz (P := P) (t := fd.type) (agg := agg) (sz := sz), h0]
theorem o_fieldAddr {s ft : TypeId} {x : Operand} {f off id i j sz : Nat} {agg : Bool} {o : AObj} [FldI P s f off ft] [TyI P ft agg sz] (h0 : sz ≠ 0) (hx : aev env x = .pt id o.gen i j) (hid : H[id]? = some o) : V1 P N (.fieldAddr s x f) ty env H (.pt id o.gen i (j + off)) := by
  intro S a w hc
  obtain ⟨s', b, arr, _, hs, hpl, he, hb, hrow⟩ := hc.ptr hx hid
  have ok := hc.heap.obj id o s' hid hs
  refine ⟨.pointer (some ⟨b, i * o.sz + (j + off), none⟩), fun _ _ _ _ => ?_, .pt s' hs (by rw [ok.gen]; exact Nat.le_refl _) rfl fun _ => ⟨b, hpl, by rw [ok.sz]⟩⟩
  simp [execOp, he, run_fieldPlace (P := P) (s := s) (f := f) (off := off) (ft := ft) (sz := sz) (agg := agg) h0, add_none, Nat.add_assoc]
theorem o_fieldAddrp {s ft : TypeId} {x : Operand} {f off i j sz : Nat} {agg : Bool} {xs : List (List AV)} [FldI P s f off ft] [TyI P ft agg sz] (h0 : sz ≠ 0) (hx : aev env x = .pp xs i j) : V1 P N (.fieldAddr s x f) ty env H (.pp xs i (j + off)) := by
  intro S a w hc
  have hv := hc.ev x
  rw [hx] at hv
  generalize he : a.eval x = u at hv
  cases hv with
  | pp base z u hb hs hm hl hv =>
    refine ⟨.pointer (some (base.add (i * z + (j + off)))), fun _ _ _ _ => ?_, .pp base z u hb hs hm hl hv⟩
    simp [execOp, he, run_fieldPlace (P := P) (s := s) (f := f) (off := off) (ft := ft) (sz := sz) (agg := agg) h0, add_add, Nat.add_assoc]

theorem run_indexSlice {t e : TypeId} {sz : Nat} {agg : Bool} [hs : SlI P t e] [TyI P e agg sz] {k : IntKind} {n : Int} {base : Addr} {len cap : Nat} (h0 : 0 ≤ n) (h1 : n < len) (w : World) :
    (Instr.indexAt t (.slice (some base) len cap) (.int k n)).run P w = .ok (.pointer (some (base.add (n.toNat * sz)))) w := by
  simp [Instr.indexAt, asIntOf, run_und hs.ud, h0, h1, run_sz (P := P) (t := e) (agg := agg) (sz := sz)]
theorem run_indexArr {t e : TypeId} {sz m : Nat} {agg : Bool} [hs : ArI P t m e] [TyI P e agg sz] {k : IntKind} {n : Int} {base : Addr} (h0 : 0 ≤ n) (h1 : n < m) (w : World) :
    (Instr.indexAt t (.pointer (some base)) (.int k n)).run P w = .ok (.pointer (some (base.add (n.toNat * sz)))) w := by
  simp [Instr.indexAt, asIntOf, run_und hs.ud, Instr.sureAddr, h0, h1, run_sz (P := P) (t := e) (agg := agg) (sz := sz)]

/-- What a slice of the call's own is. -/
theorem CR.slc {S : List Slot} {a : Act} {w : World} (hc : CR N env H S a w) {x : Operand} {id off len cap : Nat} {o : AObj} (hx : aev env x = .sl id o.gen off len cap) (hid : H[id]? = some o) :
    ∃ s c, S[id]? = some s ∧ ObjOK S w o s ∧ cap ≤ c ∧ len ≤ c ∧ ((c = 0 ∧ ∃ ad, a.eval x = .slice ad 0 0) ∨
      ∃ b arr ty, s.place = some b ∧ a.eval x = .slice (some ⟨b, off * o.sz, none⟩) len c ∧ w.heap[b]? = some (Obj.cells arr ty (0, 0)) ∧ (off + c) * o.sz ≤ arr.size ∧ RowOK (own S) S w o.sz arr o.rows) := by
  have hv := hc.ev x
  rw [hx] at hv
  obtain ⟨s, hs, ok⟩ := hc.heap.slot hid
  generalize a.eval x = u at hv
  cases hv with
  | sl s' hs' hg h1 h =>
    rw [hs] at hs'
    obtain rfl := Option.some.inj hs'
    obtain ⟨c, hc1, hc2, h⟩ := h ok.gen.symm
    refine ⟨s, c, hs, ok, hc1, hc2, ?_⟩
    rcases h with h | ⟨b, arr, ty, hp, hu, hb, hsz⟩
    · exact .inl h
    · obtain ⟨arr', ty', h1, h2⟩ := ok.row hp
      rw [hb] at h1
      injection h1 with h1
      injection h1 with h1 h1'
      subst h1
      exact .inr ⟨b, arr, ty, hp, by rw [ok.sz]; exact hu, hb, by rw [ok.sz]; exact hsz, h2⟩

theorem o_indexAddr {t e : TypeId} {x y : Operand} {id off len cap : Nat} {k : IntKind} {n : Int} {sz : Nat} {agg : Bool} {o : AObj} [SlI P t e] [TyI P e agg sz] (hx : aev env x = .sl id o.gen off len cap) (hid : H[id]? = some o) (hsz : o.sz = sz)
    (hy : aev env y = .int k n) (h0 : 0 ≤ n) (h1 : n < len) : V1 P N (.indexAddr t x y) ty env H (.pt id o.gen (off + n.toNat) 0) := by
  intro S a w hc
  obtain ⟨s, c, hs, ok, _, hlc, h⟩ := hc.slc hx hid
  rcases h with ⟨h, _⟩ | ⟨b, arr, et, hp, he, hb, hfit, hrow⟩
  · omega
  refine ⟨.pointer (some ⟨b, (off + n.toNat) * o.sz + 0, none⟩), fun _ _ _ _ => ?_, .pt s hs (by rw [ok.gen]; exact Nat.le_refl _) rfl fun _ => ⟨b, hp, by rw [ok.sz]⟩⟩
  simp [execOp, he, ev_int hc hy, run_indexSlice (P := P) (t := t) (e := e) (sz := sz) (agg := agg) h0 h1, add_none, hsz, Nat.add_mul]
theorem o_indexAddrp {t e : TypeId} {x y : Operand} {xs : List (List AV)} {k : IntKind} {n : Int} {sz : Nat} {agg : Bool} {r : List AV} [SlI P t e] [TyI P e agg sz] (hx : aev env x = .pl xs)
    (hy : aev env y = .int k n) (h0 : 0 ≤ n) (hr : xs[n.toNat]? = some r) (hsz : r.length = sz) : V1 P N (.indexAddr t x y) ty env H (.pp xs n.toNat 0) := by
  intro S a w hc
  have hlt : n.toNat < xs.length := (List.getElem?_eq_some_iff.1 hr).1
  have hv := hc.ev x
  rw [hx] at hv
  generalize he : a.eval x = u at hv
  cases hv with
  | pl base z u hcap hb hs hm hl hv =>
    have hz : z = sz := by rw [← hs _ r hr]; exact hsz
    obtain ⟨h1, h2, h3⟩ := hb (by intro e; simp [e] at hlt)
    subst h1
    refine ⟨.pointer (some (base.add (n.toNat * z + 0))), fun _ _ _ _ => ?_, .pp base z u ⟨h2, h3⟩ hs hm hl hv⟩
    simp [execOp, he, ev_int hc hy, run_indexSlice (P := P) (t := t) (e := e) (sz := sz) (agg := agg) h0 (show n < xs.length by omega), hz]
theorem o_indexArr {t e : TypeId} {x y : Operand} {id i j m : Nat} {k : IntKind} {n : Int} {sz : Nat} {agg : Bool} {o : AObj} [ArI P t m e] [TyI P e agg sz] (hx : aev env x = .pt id o.gen i j) (hid : H[id]? = some o)
    (hy : aev env y = .int k n) (h0 : 0 ≤ n) (h1 : n < m) : V1 P N (.indexAddr t x y) ty env H (.pt id o.gen i (j + n.toNat * sz)) := by
  intro S a w hc
  obtain ⟨s', b, arr, _, hs, hpl, he, hb, hrow⟩ := hc.ptr hx hid
  have ok := hc.heap.obj id o s' hid hs
  refine ⟨.pointer (some ⟨b, i * o.sz + (j + n.toNat * sz), none⟩), fun _ _ _ _ => ?_, .pt s' hs (by rw [ok.gen]; exact Nat.le_refl _) rfl fun _ => ⟨b, hpl, by rw [ok.sz]⟩⟩
  simp [execOp, he, ev_int hc hy, run_indexArr (P := P) (t := t) (e := e) (sz := sz) (agg := agg) h0 h1, add_none, Nat.add_assoc]
theorem o_indexArrp {t e : TypeId} {x y : Operand} {xs : List (List AV)} {i j m : Nat} {k : IntKind} {n : Int} {sz : Nat} {agg : Bool} [ArI P t m e] [TyI P e agg sz] (hx : aev env x = .pp xs i j)
    (hy : aev env y = .int k n) (h0 : 0 ≤ n) (h1 : n < m) : V1 P N (.indexAddr t x y) ty env H (.pp xs i (j + n.toNat * sz)) := by
  intro S a w hc
  have hv := hc.ev x
  rw [hx] at hv
  generalize he : a.eval x = u at hv
  cases hv with
  | pp base z u hb hs hm hl hv =>
    refine ⟨.pointer (some (base.add (i * z + (j + n.toNat * sz)))), fun _ _ _ _ => ?_, .pp base z u hb hs hm hl hv⟩
    simp [execOp, he, ev_int hc hy, run_indexArr (P := P) (t := t) (e := e) (sz := sz) (agg := agg) h0 h1, add_add, Nat.add_assoc]

/-! #### Parts of values -/
theorem ev_agg {S : List Slot} {a : Act} {w : World} (hc : CR N env H S a w) {x : Operand} {cs : List AV} (h : aev env x = .agg cs) : ∃ vs, a.eval x = .agg vs ∧ cs.length = vs.size ∧ (∀ (j : Nat) (v : AV), cs[j]? = some v → v.leaf = true) ∧ ∀ (j : Nat) (v : AV) (u : Value), cs[j]? = some v → vs[j]? = some u → VR (own S) w S v u := by
  have := hc.ev x
  rw [h] at this
  generalize a.eval x = u at this
  cases this with
  | agg hn hl h => exact ⟨_, rfl, hn, hl, h⟩
theorem run_part1 {t : TypeId} {sz : Nat} [TyI P t false sz] {cs : Array Value} {off : Nat} {u : Value} (h : cs[off]? = some u) (w : World) : (part t cs off).run P w = .ok u w := by
  simp [part, run_isAgg (P := P) (t := t) (agg := false), h]
theorem run_partN {t : TypeId} {sz : Nat} [TyI P t true sz] {cs : Array Value} {off : Nat} (w : World) : (part t cs off).run P w = .ok (.agg (cs.extract off (off + sz))) w := by
  simp [part, run_isAgg (P := P) (t := t) (agg := true), run_sz (P := P) (t := t) (agg := true) (sz := sz)]

theorem part_agg {S : List Slot} {w : World} {cs ds : List AV} {vs : Array Value} {off sz : Nat} (hn : cs.length = vs.size) (hl : ∀ (j : Nat) (v : AV), cs[j]? = some v → v.leaf = true)
    (h : ∀ (j : Nat) (v : AV) (u : Value), cs[j]? = some v → vs[j]? = some u → VR (own S) w S v u) (hd : (cs.drop off).take sz = ds) (hle : ds.length = sz) : VR (own S) w S (.agg ds) (.agg (vs.extract off (off + sz))) := by
  have hget : ∀ j v, ds[j]? = some v → j < sz ∧ cs[off + j]? = some v := by
    intro j v hv
    have hlt : j < sz := by rw [← hle]; exact (List.getElem?_eq_some_iff.1 hv).1
    refine ⟨hlt, ?_⟩
    rw [← hd, List.getElem?_take, if_pos hlt, List.getElem?_drop] at hv
    exact hv
  have hfit : off + sz ≤ cs.length ∨ sz = 0 := by
    rw [← hd] at hle
    simp at hle
    omega
  refine .agg ?_ (fun j v hv => hl _ v (hget j v hv).2) (fun j v u hv hu => ?_)
  · simp only [Array.size_extract]; omega
  · obtain ⟨hlt, h2⟩ := hget j v hv
    have hu' : vs[off + j]? = some u := by
      rw [Array.getElem?_extract] at hu
      split at hu
      · exact hu
      · cases hu
    exact h _ v u h2 hu'

theorem run_field {s ft : TypeId} {f off : Nat} [hf : FldI P s f off ft] {cs : Array Value} (w : World) : (Instr.field s (.agg cs) f).run P w = (part ft cs off).run P w := by
  have hu := hf.ud
  cases hd : P.underlying s with
  | none => simp [hd] at hu
  | some d =>
    rw [hd] at hu
    cases d <;> simp only [] at hu <;> try (cases hu; done)
    rename_i fs
    cases hfd : fs[f]? with
    | none => simp [hfd] at hu
    | some fd =>
      rw [hfd] at hu
      simp at hu
      obtain ⟨h1, h2⟩ := hu
      subst h1; subst h2
      simp [Instr.field, run_und hd, hfd, asAgg]
theorem o_field1 {s ft : TypeId} {x : Operand} {f off sz : Nat} {cs : List AV} {v : AV} [FldI P s f off ft] [TyI P ft false sz] (hx : aev env x = .agg cs) (hv : cs[off]? = some v) : V1 P N (.field s x f) ty env H v := by
  intro S a w hc
  obtain ⟨vs, he, hn, hl, h⟩ := ev_agg hc hx
  have hlt : off < vs.size := by rw [← hn]; exact (List.getElem?_eq_some_iff.1 hv).1
  exact ⟨vs[off], fun _ _ _ _ => by simp [execOp, he, run_field (P := P) (s := s) (f := f) (off := off) (ft := ft), run_part1 (P := P) (t := ft) (Array.getElem?_eq_getElem hlt)], h off v _ hv (Array.getElem?_eq_getElem hlt)⟩
theorem o_fieldN {s ft : TypeId} {x : Operand} {f off sz : Nat} {cs ds : List AV} [FldI P s f off ft] [TyI P ft true sz] (hx : aev env x = .agg cs) (hd : (cs.drop off).take sz = ds) (hle : ds.length = sz) : V1 P N (.field s x f) ty env H (.agg ds) := by
  intro S a w hc
  obtain ⟨vs, he, hn, hl, h⟩ := ev_agg hc hx
  exact ⟨.agg (vs.extract off (off + sz)), fun _ _ _ _ => by simp [execOp, he, run_field (P := P) (s := s) (f := f) (off := off) (ft := ft), run_partN (P := P) (t := ft)], part_agg hn hl h hd hle⟩
theorem o_index1 {t e : TypeId} {x y : Operand} {m sz : Nat} {k : IntKind} {n : Int} {cs : List AV} {v : AV} [hs : ArI P t m e] [TyI P e false sz] (hx : aev env x = .agg cs) (hy : aev env y = .int k n) (h0 : 0 ≤ n) (h1 : n < m) (hv : cs[n.toNat * sz]? = some v) : V1 P N (.index t x y) ty env H v := by
  intro S a w hc
  obtain ⟨vs, he, hn, hl, h⟩ := ev_agg hc hx
  have hlt : n.toNat * sz < vs.size := by rw [← hn]; exact (List.getElem?_eq_some_iff.1 hv).1
  exact ⟨vs[n.toNat * sz], fun _ _ _ _ => by
    simp [execOp, he, ev_int hc hy, Instr.index, asIntOf, run_und hs.ud, h0, h1, run_sz (P := P) (t := e) (agg := false) (sz := sz), run_part1 (P := P) (t := e) (Array.getElem?_eq_getElem hlt)], h _ v _ hv (Array.getElem?_eq_getElem hlt)⟩
theorem o_indexStr {t : TypeId} {x y : Operand} {k : IntKind} {n : Int} {s : ByteArray} {c : UInt8} [hs : UdI P t .string] (hx : aev env x = .str s) (hy : aev env y = .int k n) (h0 : 0 ≤ n) (hv : s[n.toNat]? = some c) : V1 P N (.index t x y) ty env H (.int .u8 (c.toNat : Int)) := by
  intro S a w hc
  exact ⟨.int .u8 (c.toNat : Int), fun _ _ _ _ => by
    simp [execOp, ev_str hc hx, ev_int hc hy, Instr.index, asIntOf, run_und hs.ud, h0, hv], .int⟩

/-! #### Cuts -/
/-- A bound of a cut: what is not given is d. -/
def Bd (env : Env) (x : Option Operand) (d n : Nat) : Prop := match x with
  | none => n = d
  | some y => ∃ k m, aev env y = .int k m ∧ m = (n : Int)
theorem Bd.none {d : Nat} : Bd env none d d := rfl
theorem Bd.some {y : Operand} {k : IntKind} {m : Int} {d n : Nat} (h : aev env y = .int k m) (e : m = (n : Int)) : Bd env (some y) d n := ⟨k, m, h, e⟩

theorem Bd.run {S : List Slot} {a : Act} {w : World} (hc : CR N env H S a w) {x : Option Operand} {d n : Nat} (h : Bd env x d n) : (x = Option.none ∧ n = d) ∨ ∃ y k, x = Option.some y ∧ a.eval y = .int k (n : Int) := by
  cases x with
  | none => exact .inl ⟨rfl, h⟩
  | some y =>
    obtain ⟨k, m, h1, h2⟩ := h
    subst h2
    exact .inr ⟨y, k, rfl, ev_int hc h1⟩

theorem run_sliceBounds2 {S : List Slot} {a : Act} {w : World} (hc : CR N env H S a w) {lo hi : Option Operand} {l h : Nat} (isS : Bool) {len cap : Nat} (hl : Bd env lo 0 l) (hh : Bd env hi len h) (h1 : l ≤ h) (h2 : h ≤ cap) :
    (Instr.sliceBounds isS len cap (lo.map a.eval) (hi.map a.eval) Option.none).run P w = .ok (l, h, cap) w := by
  rcases hl.run hc with ⟨rfl, rfl⟩ | ⟨y, k, rfl, e⟩ <;> rcases hh.run hc with ⟨rfl, rfl⟩ | ⟨y', k', rfl, e'⟩
  · simp [Instr.sliceBounds]
  · simp [Instr.sliceBounds, e', Instr.sliceBound, asIntOf, h2]
  · simp [Instr.sliceBounds, e, Instr.sliceBound, asIntOf, h1]
  · simp [Instr.sliceBounds, e, e', Instr.sliceBound, asIntOf, h1, h2]
theorem run_sliceBounds3 {S : List Slot} {a : Act} {w : World} (hc : CR N env H S a w) {lo : Option Operand} {hi mx : Operand} {l h m : Nat} {k k' : IntKind} (isS : Bool) {len cap : Nat} (hl : Bd env lo 0 l) (hh : aev env hi = .int k (h : Int)) (hm : aev env mx = .int k' (m : Int)) (h1 : l ≤ h) (h2 : h ≤ m) (h3 : m ≤ cap) :
    (Instr.sliceBounds isS len cap (lo.map a.eval) (Option.some (a.eval hi)) (Option.some (a.eval mx))).run P w = .ok (l, h, m) w := by
  rcases hl.run hc with ⟨rfl, rfl⟩ | ⟨y, k, rfl, e⟩
  · simp [Instr.sliceBounds, ev_int hc hh, ev_int hc hm, Instr.sliceBound, asIntOf, h2, h3]
  · simp [Instr.sliceBounds, e, ev_int hc hh, ev_int hc hm, Instr.sliceBound, asIntOf, h1, h2, h3]

theorem o_sliceStr {t : TypeId} {x : Operand} {lo hi : Option Operand} {s : ByteArray} {l h : Nat} [hu : UdI P t .string] (hx : aev env x = .str s) (hl : Bd env lo 0 l) (hh : Bd env hi s.size h) (h1 : l ≤ h) (h2 : h ≤ s.size) :
    V1 P N (.slice t x lo hi Option.none) ty env H (.str (s.extract l h)) := by
  intro S a w hc
  have hb := run_sliceBounds2 (P := P) hc false hl hh h1 h2
  refine ⟨.string (s.extract l h), fun _ _ _ _ => ?_, .str⟩
  simp [execOp, ev_str hc hx, Instr.sliceAt, Instr.slice, run_und hu.ud, hb]

theorem VR.cut {O : Nat → Prop} {w : World} {S : List Slot} {xs : List (List AV)} {a : Option Addr} {c sz l h m : Nat} (hv : VR O w S (.pl xs) (.slice a xs.length c)) (h1 : l ≤ h) (h2 : h ≤ xs.length) (h3 : h ≤ m) (hsz : ∀ r ∈ xs, r.length = sz) :
    VR O w S (.pl ((xs.drop l).take (h - l))) (.slice (if m = l then a else a.map (·.add (l * sz))) (h - l) (m - l)) := by
  have hlen : ((xs.drop l).take (h - l)).length = h - l := by simp; omega
  have hget : ∀ i r, ((xs.drop l).take (h - l))[i]? = some r → xs[l + i]? = some r ∧ i < h - l := by
    intro i r hr
    rw [List.getElem?_take] at hr
    split at hr
    · rename_i hi
      rw [List.getElem?_drop] at hr
      exact ⟨hr, hi⟩
    · cases hr
  generalize hys : (xs.drop l).take (h - l) = ys at *
  rw [← hlen]
  cases hv with
  | pl base z u hcap hb hs hm hl hv =>
    refine .pl (base.add (l * sz)) sz (fun i j => u (l + i) j) (by omega) (fun hne => ?_) (fun i r hr => hsz r (List.mem_of_getElem? (hget i r hr).1)) (fun i hi j hj => ?_) (fun i j r v hr hv' => hl (l + i) j r v (hget i r hr).1 hv') (fun i j r v hr hv' => hv (l + i) j r v (hget i r hr).1 hv')
    · have hpos : 0 < ys.length := List.length_pos_iff.2 hne
      have hne' : xs ≠ [] := by intro e; subst e; simp at h2; omega
      obtain ⟨k1, k2, k3⟩ := hb hne'
      subst k1
      rw [if_neg (by omega)]
      exact ⟨rfl, by rw [add_block]; exact k2, by rw [add_block]; exact k3⟩
    · have hlt : l + i < xs.length := by omega
      have hz : z = sz := by rw [← hs (l + i) _ (List.getElem?_eq_getElem hlt)]; exact hsz _ (List.getElem_mem hlt)
      subst hz
      have := hm (l + i) hlt j hj
      rw [add_add, ← Nat.add_assoc, ← Nat.add_mul]
      exact this

theorem o_slicep {t e : TypeId} {x : Operand} {lo hi : Option Operand} {xs : List (List AV)} {l h sz : Nat} {agg : Bool} [hu : SlI P t e] [TyI P e agg sz] (hx : aev env x = .pl xs) (hl : Bd env lo 0 l) (hh : Bd env hi xs.length h) (h1 : l ≤ h) (h2 : h ≤ xs.length) (hsz : ∀ r ∈ xs, r.length = sz) :
    V1 P N (.slice t x lo hi Option.none) ty env H (.pl ((xs.drop l).take (h - l))) := by
  intro S a w hc
  have hv := hc.ev x
  rw [hx] at hv
  generalize he : a.eval x = u at hv
  have hv0 := hv
  cases hv with
  | @pl _ _ ad c base z u hcap hb hs hm hl' hv =>
    have hb' := run_sliceBounds2 (P := P) hc true (cap := c) hl hh h1 (by omega)
    refine ⟨.slice (if c = l then ad else ad.map (·.add (l * sz))) (h - l) (c - l), fun _ _ _ _ => ?_, VR.cut hv0 h1 h2 (by omega) hsz⟩
    simp [execOp, he, Instr.sliceAt, Instr.slice, run_und hu.ud, hb', run_sz (P := P) (t := e) (agg := agg) (sz := sz)]
theorem o_slicep3 {t e : TypeId} {x hi mx : Operand} {lo : Option Operand} {k k' : IntKind} {xs : List (List AV)} {l h m sz : Nat} {agg : Bool} [hu : SlI P t e] [TyI P e agg sz] (hx : aev env x = .pl xs) (hl : Bd env lo 0 l) (hh : aev env hi = .int k (h : Int)) (hm : aev env mx = .int k' (m : Int)) (h1 : l ≤ h) (h2 : h ≤ m) (h3 : m ≤ xs.length) (hsz : ∀ r ∈ xs, r.length = sz) :
    V1 P N (.slice t x lo (Option.some hi) (Option.some mx)) ty env H (.pl ((xs.drop l).take (h - l))) := by
  intro S a w hc
  have hv := hc.ev x
  rw [hx] at hv
  generalize he : a.eval x = u at hv
  have hv0 := hv
  cases hv with
  | @pl _ _ ad c base z u hcap hb hs hm' hl' hv =>
    have hb' := run_sliceBounds3 (P := P) hc true (len := xs.length) (cap := c) hl hh hm h1 h2 (by omega)
    refine ⟨.slice (if m = l then ad else ad.map (·.add (l * sz))) (h - l) (m - l), fun _ _ _ _ => ?_, VR.cut hv0 h1 (by omega) h2 hsz⟩
    simp [execOp, he, Instr.sliceAt, Instr.slice, run_und hu.ud, hb', run_sz (P := P) (t := e) (agg := agg) (sz := sz)]

/-- The cut of nothing, with no room: x[:0:0]. -/
def AV.isSl : AV → Bool
  | .pl _ | .nsl => true
  | _ => false
theorem o_slice00 {t e : TypeId} {x hi mx : Operand} {lo : Option Operand} {k k' : IntKind} {v : AV} {sz : Nat} {agg : Bool} [hu : SlI P t e] [TyI P e agg sz] (hx : aev env x = v) (hsl : v.isSl = true) (hl : Bd env lo 0 0) (hh : aev env hi = .int k 0) (hm : aev env mx = .int k' 0) :
    V1 P N (.slice t x lo (Option.some hi) (Option.some mx)) ty env H .nsl := by
  intro S a w hc
  have hv := hc.ev x
  rw [hx] at hv
  have hu' : ∃ ad len c, a.eval x = .slice ad len c := by
    generalize a.eval x = u at hv
    cases hv <;> first | exact ⟨_, _, _, rfl⟩ | (simp [AV.isSl] at hsl)
  obtain ⟨ad, len, c, he⟩ := hu'
  have hb' := run_sliceBounds3 (P := P) hc true (len := len) (cap := c) (h := 0) (m := 0) hl hh hm (Nat.le_refl _) (Nat.le_refl _) (Nat.zero_le _)
  refine ⟨.slice ad 0 0, fun _ _ _ _ => ?_, .nsl⟩
  simp [execOp, he, Instr.sliceAt, Instr.slice, run_und hu.ud, hb', run_sz (P := P) (t := e) (agg := agg) (sz := sz)]
theorem o_slice00s {t e : TypeId} {x hi mx : Operand} {lo : Option Operand} {k k' : IntKind} {id off len cap sz : Nat} {agg : Bool} {o : AObj} [hu : SlI P t e] [TyI P e agg sz] (hx : aev env x = .sl id o.gen off len cap) (hid : H[id]? = some o) (hl : Bd env lo 0 0) (hh : aev env hi = .int k 0) (hm : aev env mx = .int k' 0) :
    V1 P N (.slice t x lo (Option.some hi) (Option.some mx)) ty env H .nsl := by
  intro S a w hc
  obtain ⟨s, c, hs, ok, _, hlc, h⟩ := hc.slc hx hid
  have hu' : ∃ ad len c, a.eval x = .slice ad len c := by
    rcases h with ⟨_, ad, h⟩ | ⟨b, arr, et, hp, he, hb, hfit, hrow⟩
    · exact ⟨_, _, _, h⟩
    · exact ⟨_, _, _, he⟩
  obtain ⟨ad, len, c, he⟩ := hu'
  have hb' := run_sliceBounds3 (P := P) hc true (len := len) (cap := c) (h := 0) (m := 0) hl hh hm (Nat.le_refl _) (Nat.le_refl _) (Nat.zero_le _)
  refine ⟨.slice ad 0 0, fun _ _ _ _ => ?_, .nsl⟩
  simp [execOp, he, Instr.sliceAt, Instr.slice, run_und hu.ud, hb', run_sz (P := P) (t := e) (agg := agg) (sz := sz)]

theorem o_slices {t e : TypeId} {x : Operand} {lo hi : Option Operand} {id off len cap l h sz : Nat} {agg : Bool} {o : AObj} [hu : SlI P t e] [TyI P e agg sz] (hx : aev env x = .sl id o.gen off len cap) (hid : H[id]? = some o) (hsz : o.sz = sz) (hl : Bd env lo 0 l) (hh : Bd env hi len h) (h1 : l ≤ h) (h2 : h ≤ max len cap) :
    V1 P N (.slice t x lo hi Option.none) ty env H (.sl id o.gen (off + l) (h - l) (cap - l)) := by
  intro S a w hc
  obtain ⟨s, c, hs, ok, hcc, hlc, hh2⟩ := hc.slc hx hid
  rcases hh2 with ⟨h0, ad, he⟩ | ⟨b, arr, et, hp, he, hb, hfit, hrow⟩
  · obtain rfl : l = 0 := by omega
    obtain rfl : h = 0 := by omega
    have el : len = 0 := by omega
    subst el
    have hb' := run_sliceBounds2 (P := P) hc true (cap := 0) hl hh h1 (by omega)
    refine ⟨.slice ad 0 0, fun _ _ _ _ => ?_, .sl s hs (by rw [ok.gen]; exact Nat.le_refl _) rfl fun _ => ⟨0, by omega, by omega, .inl ⟨rfl, ad, rfl⟩⟩⟩
    simp [execOp, he, Instr.sliceAt, Instr.slice, run_und hu.ud, hb', run_sz (P := P) (t := e) (agg := agg) (sz := sz)]
  · have hb' := run_sliceBounds2 (P := P) hc true (cap := c) hl hh h1 (by omega)
    refine ⟨.slice (if c = l then some ⟨b, off * o.sz, none⟩ else some ⟨b, (off + l) * o.sz, none⟩) (h - l) (c - l), fun _ _ _ _ => ?_, .sl s hs (by rw [ok.gen]; exact Nat.le_refl _) rfl fun _ => ⟨c - l, by omega, by omega, ?_⟩⟩
    · have e1 : (⟨b, off * o.sz, none⟩ : Addr).add (l * sz) = ⟨b, (off + l) * o.sz, none⟩ := by rw [add_none, hsz, Nat.add_mul]
      simp [execOp, he, Instr.sliceAt, Instr.slice, run_und hu.ud, hb', run_sz (P := P) (t := e) (agg := agg) (sz := sz), e1]
    · by_cases e1 : c = l
      · left
        refine ⟨by omega, some ⟨b, off * o.sz, none⟩, ?_⟩
        rw [if_pos e1, show h - l = 0 by omega, show c - l = 0 by omega]
      · right
        refine ⟨b, arr, et, hp, by rw [if_neg e1, ok.sz], hb, ?_⟩
        rw [← ok.sz, show off + l + (c - l) = off + c by omega]
        exact hfit

/-! #### Lengths -/
theorem o_lenStr {x : Operand} {t : TypeId} {s : ByteArray} [hu : UdI P t .string] (hx : aev env x = .str s) : V1 P N (.call { callee := .builtin .len, args := #[x], argTypes := #[t] }) ty env H (.int .i64 (s.size : Int)) := by
  intro S a w hc
  refine ⟨.int .i64 s.size, fun _ _ _ _ => ?_, .int⟩
  simp [execOp, resolve, invoke, builtin, Builtin.len_, ev_str hc hx, run_und hu.ud, goInt]
theorem o_lenp {x : Operand} {t e : TypeId} {xs : List (List AV)} [hu : SlI P t e] (hx : aev env x = .pl xs) : V1 P N (.call { callee := .builtin .len, args := #[x], argTypes := #[t] }) ty env H (.int .i64 (xs.length : Int)) := by
  intro S a w hc
  have hv := hc.ev x
  rw [hx] at hv
  generalize he : a.eval x = u at hv
  cases hv
  refine ⟨.int .i64 xs.length, fun _ _ _ _ => ?_, .int⟩
  simp [execOp, resolve, invoke, builtin, Builtin.len_, he, run_und hu.ud, goInt]
theorem o_lenn {x : Operand} {t e : TypeId} [hu : SlI P t e] (hx : aev env x = .nsl) : V1 P N (.call { callee := .builtin .len, args := #[x], argTypes := #[t] }) ty env H (.int .i64 0) := by
  intro S a w hc
  have hv := hc.ev x
  rw [hx] at hv
  generalize he : a.eval x = u at hv
  cases hv
  refine ⟨.int .i64 0, fun _ _ _ _ => ?_, .int⟩
  simp [execOp, resolve, invoke, builtin, Builtin.len_, he, run_und hu.ud, goInt]
theorem o_lens {x : Operand} {t e : TypeId} {id off len cap : Nat} {o : AObj} [hu : SlI P t e] (hx : aev env x = .sl id o.gen off len cap) (hid : H[id]? = some o) : V1 P N (.call { callee := .builtin .len, args := #[x], argTypes := #[t] }) ty env H (.int .i64 (len : Int)) := by
  intro S a w hc
  obtain ⟨s, c, hs, ok, _, hlc, h⟩ := hc.slc hx hid
  refine ⟨.int .i64 len, fun _ _ _ _ => ?_, .int⟩
  rcases h with ⟨h0, ad, he⟩ | ⟨b, arr, et, hp, he, hb, hfit, hrow⟩
  · have el : len = 0 := by omega
    simp [execOp, resolve, invoke, builtin, Builtin.len_, he, run_und hu.ud, goInt, el]
  · simp [execOp, resolve, invoke, builtin, Builtin.len_, he, run_und hu.ud, goInt]
theorem o_min {x y : Operand} {t t' : TypeId} {k : IntKind} {p q r : Int} (hx : aev env x = .int k p) (hy : aev env y = .int k q) (hr : min p q = r) : V1 P N (.call { callee := .builtin .min, args := #[x, y], argTypes := #[t, t'] }) ty env H (.int k r) := by
  intro S a w hc
  refine ⟨.int k (min p q), fun _ _ _ _ => ?_, hr ▸ .int⟩
  have : (if q < p then q else p) = min p q := by omega
  simp [execOp, resolve, invoke, builtin, Builtin.min_, Builtin.min2, ev_int hc hx, ev_int hc hy, this]
theorem o_max {x y : Operand} {t t' : TypeId} {k : IntKind} {p q r : Int} (hx : aev env x = .int k p) (hy : aev env y = .int k q) (hr : max p q = r) : V1 P N (.call { callee := .builtin .max, args := #[x, y], argTypes := #[t, t'] }) ty env H (.int k r) := by
  intro S a w hc
  refine ⟨.int k (max p q), fun _ _ _ _ => ?_, hr ▸ .int⟩
  have : (if p < q then q else p) = max p q := by omega
  simp [execOp, resolve, invoke, builtin, Builtin.max_, Builtin.max2, ev_int hc hx, ev_int hc hy, this]

/-! #### Texts -/
theorem o_cat {x y : Operand} {t t' : TypeId} {p q : ByteArray} (hx : aev env x = .str p) (hy : aev env y = .str q) (hn : ((p.size + q.size : Nat) : Int) ≤ 9223372036854775807) : V1 P N (.binOp .add t x y t') ty env H (.str (p ++ q)) := by
  intro S a w hc
  refine ⟨.string (p ++ q), fun _ _ _ _ => ?_, .str⟩
  have : ¬ (IntKind.i64.max < ((p.size + q.size : Nat) : Int)) := by
    show ¬ ((9223372036854775807 : Int) < _)
    omega
  simp only [execOp, ev_str hc hx, ev_str hc hy, eqGuard, binOp, Op.stringOp]
  simp only [gt_iff_lt, this, if_false]
  simp
theorem o_seq {x y : Operand} {t t' : TypeId} {p q : ByteArray} (hx : aev env x = .str p) (hy : aev env y = .str q) : V1 P N (.binOp .eql t x y t') ty env H (.bool (p.toList == q.toList)) := by
  intro S a w hc
  exact ⟨.bool (p.toList == q.toList), fun _ _ _ _ => by simp [execOp, ev_str hc hx, ev_str hc hy, eqGuard, binOp, Op.stringOp], .bool⟩
theorem o_sne {x y : Operand} {t t' : TypeId} {p q : ByteArray} (hx : aev env x = .str p) (hy : aev env y = .str q) : V1 P N (.binOp .neq t x y t') ty env H (.bool (!(p.toList == q.toList))) := by
  intro S a w hc
  exact ⟨.bool (!(p.toList == q.toList)), fun _ _ _ _ => by simp [execOp, ev_str hc hx, ev_str hc hy, eqGuard, binOp, Op.stringOp], .bool⟩

/-! #### Tuples, function values, interface values -/
theorem o_extract {x : Operand} {i : Nat} {vs : List AV} {v : AV} (hx : aev env x = .tup vs) (hv : vs[i]? = some v) : V1 P N (.extract x i) ty env H v := by
  intro S a w hc
  have hv0 := hc.ev x
  rw [hx] at hv0
  generalize he : a.eval x = u at hv0
  cases hv0 with
  | @tup _ _ us hn h =>
    have hlt : i < us.size := by rw [← hn]; exact (List.getElem?_eq_some_iff.1 hv).1
    exact ⟨us[i], fun _ _ _ _ => by simp [execOp, he, Instr.extract, hlt], h i v _ hv (Array.getElem?_eq_getElem hlt)⟩
theorem o_makeFunc {f : Fn} {p q : Array Operand} {vs us : List AV} (hp : p.toList.map (aev env) = vs) (hq : q.toList.map (aev env) = us) : V1 P N (.makeFunc f p q) ty env H (.fn f vs us) := by
  intro S a w hc
  refine ⟨.func f (p.map a.eval) (q.map a.eval), fun _ _ _ _ => by simp [execOp, Instr.makeFunc], ?_⟩
  subst hp; subst hq
  refine .fn (by simp) (by simp) (fun j v u hv hu => ?_) (fun j v u hv hu => ?_)
  · simp only [List.getElem?_map, Array.getElem?_map] at hv hu
    cases hx : p[j]? with
    | none => simp [hx] at hu
    | some x =>
      have hx' : p.toList[j]? = some x := by simpa using hx
      rw [hx'] at hv
      rw [hx] at hu
      obtain rfl := Option.some.inj hv
      obtain rfl := Option.some.inj hu
      exact hc.ev x
  · simp only [List.getElem?_map, Array.getElem?_map] at hv hu
    cases hx : q[j]? with
    | none => simp [hx] at hu
    | some x =>
      have hx' : q.toList[j]? = some x := by simpa using hx
      rw [hx'] at hv
      rw [hx] at hu
      obtain rfl := Option.some.inj hv
      obtain rfl := Option.some.inj hu
      exact hc.ev x
/-- The type is no interface. -/
class NoI (P : Program) (t : TypeId) : Prop where
  ud : (match P.underlying t with | some (.interface _) => false | some _ => true | none => false) = true
theorem o_makeIface {x : Operand} {t : TypeId} {v : AV} [hu : NoI P t] (hx : aev env x = v) : V1 P N (.makeInterface t x) ty env H (.ifc t v) := by
  intro S a w hc
  subst hx
  refine ⟨.iface t (a.eval x), fun _ _ _ _ => ?_, .ifc (hc.ev x)⟩
  have h := hu.ud
  cases hd : P.underlying t with
  | none => simp [hd] at h
  | some d =>
    rw [hd] at h
    cases d <;> simp at h <;> simp [execOp, Instr.makeInterface, run_und hd]
end
end Go.Av
