/- Parts of the proof: rules for an abstract memory, plain laws, and walks through the program. -/
import Derived.Test.YtcncbmpblkgfjaaGreatDoorInstP0
import Derived.Test.YtcncbmpblkgfjaaGreatDoorInstP1
import Derived.Laws.Strings
import Derived.Lib.SlBytesConst
import Derived.Lib.OthersKept
import Derived.Laws.RangeString
import Derived.Scope
import Derived.Lib.Bytealg
import Derived.Laws.Externs
import Derived.Laws.Bits64
import Derived.DataReads
import Derived.ChangeOld
import Derived.WalkKit
import Derived.ProofKit
import Derived.OpenShut
import Derived.ShutString
import Derived.Below
import Derived.SizedLaws
import Derived.Carry
import Derived.Test.YtcncbmpblkgfjaaGreatDoorProg
import Derived.KernelRfl
import Derived.Laws.StructEq
set_option linter.unusedVariables false
set_option linter.unusedSimpArgs false
namespace Go.Av
theorem str_eq (p q : ByteArray) : (p.toList == q.toList) = decide (p = q) := by
  rw [ByteArray.toList_eq, ByteArray.toList_eq, Bool.eq_iff_iff]
  simp
  constructor
  · intro h; cases p; cases q; simp_all
  · rintro rfl; rfl
theorem o_sned {P : Program} {N : Nat} {env : Env} {H : Heap} {ty : TypeId} {x y : Operand} {t t' : TypeId} {p q : ByteArray} (hx : aev env x = .str p) (hy : aev env y = .str q) : V1 P N (.binOp .neq t x y t') ty env H (.bool (!decide (p = q))) := str_eq p q ▸ o_sne hx hy
theorem zadd {α : Type} {xs : List α} {k : Nat} {r : α} (h : xs[k]? = some r) : xs[0 + k]? = some r := by rw [Nat.zero_add]; exact h
def AV.up1 : AV → AV
  | .nsl => .pl []
  | v => v
def AV.up : AV → AV
  | .nsl => .pl []
  | .agg cs => .agg (cs.map AV.up1)
  | v => v
theorem VR.up1 {O : Nat → Prop} {w : World} {S : List Slot} {v : AV} {u : Value} (h : VR O w S v u) : VR O w S v.up1 u := by
  cases h with
  | nsl => exact .pl (xs := []) default 0 (fun _ _ => undef) (Nat.zero_le _) (fun h => absurd rfl h) (fun _ _ h => by simp at h) (fun _ h => by simp at h) (fun _ _ _ _ h => by simp at h) (fun _ _ _ _ h => by simp at h)
  | sl s hs hg h1 h => exact .sl s hs hg h1 h
  | pt s hs hg h1 h => exact .pt s hs hg h1 h
  | pl base sz u hc hb hs hm hl hv => exact .pl base sz u hc hb hs hm hl hv
  | pp base sz u hb hs hm hl hv => exact .pp base sz u hb hs hm hl hv
  | agg hn hl h => exact .agg hn hl h
  | tup hn h => exact .tup hn h
  | fn hp hq h1 h2 => exact .fn hp hq h1 h2
  | ifc h => exact .ifc h
  | know h1 h2 h3 h4 => exact .know h1 h2 h3 h4
  | _ => constructor
theorem AV.up1_leaf (v : AV) : v.up1.leaf = v.leaf := by cases v <;> rfl
theorem VR.up {O : Nat → Prop} {w : World} {S : List Slot} {v : AV} {u : Value} (h : VR O w S v u) : VR O w S v.up u := by
  cases h with
  | @agg _ cs vs hn hl h =>
    refine .agg (by simpa using hn) (fun j v hv => ?_) (fun j v u hv hu => ?_)
    · rw [List.getElem?_map] at hv
      cases hc : cs[j]? with
      | none => simp [hc] at hv
      | some c => simp [hc] at hv; subst hv; rw [AV.up1_leaf]; exact hl j c hc
    · rw [List.getElem?_map] at hv
      cases hc : cs[j]? with
      | none => simp [hc] at hv
      | some c => simp [hc] at hv; subst hv; exact (h j c u hc hu).up1
  | nsl => exact VR.nsl.up1
  | sl s hs hg h1 h => exact .sl s hs hg h1 h
  | pt s hs hg h1 h => exact .pt s hs hg h1 h
  | pl base sz u hc hb hs hm hl hv => exact .pl base sz u hc hb hs hm hl hv
  | pp base sz u hb hs hm hl hv => exact .pp base sz u hb hs hm hl hv
  | tup hn h => exact .tup hn h
  | fn hp hq h1 h2 => exact .fn hp hq h1 h2
  | ifc h => exact .ifc h
  | know h1 h2 h3 h4 => exact .know h1 h2 h3 h4
  | _ => constructor
def AObj.up (o : AObj) : AObj := { o with rows := o.rows.map (·.map AV.up1) }
theorem HRel.up {H : Heap} {S : List Slot} {w : World} (h : HRel H S w) {id : Nat} {o : AObj} (hid : H[id]? = some o) : HRel (H.set id o.up) S w := by
  refine ⟨by simpa using h.len, fun id' o' s' ho' hs' => ?_, h.inj⟩
  by_cases e : id = id'
  · subst e
    rw [List.getElem?_set_self (List.getElem?_eq_some_iff.1 hid).1] at ho'
    obtain rfl := Option.some.inj ho'
    have ok := h.obj id o s' hid hs'
    refine ⟨ok.gen, ok.sz, ok.pos, fun hn => by simp [AObj.up, ok.nope hn], fun b hb => ?_⟩
    obtain ⟨arr, ty, h1, h2, h3⟩ := ok.lies b hb
    refine ⟨arr, ty, h1, by simpa [AObj.up] using h2, fun i r hr => ?_⟩
    simp only [AObj.up, List.getElem?_map] at hr
    cases hc : o.rows[i]? with
    | none => simp [hc] at hr
    | some r0 =>
      simp [hc] at hr
      subst hr
      obtain ⟨k1, k2⟩ := h3 i r0 hc
      refine ⟨by simpa [AObj.up] using k1, fun j v hv => ?_⟩
      rw [List.getElem?_map] at hv
      cases hc2 : r0[j]? with
      | none => simp [hc2] at hv
      | some c =>
        simp [hc2] at hv
        subst hv
        obtain ⟨k3, u, k4, k5⟩ := k2 j c hc2
        exact ⟨by rw [AV.up1_leaf]; exact k3, u, k4, k5.up1⟩
  · rw [List.getElem?_set_ne e] at ho'
    exact h.obj id' o' s' ho' hs'
theorem V1.up {P : Program} {N : Nat} {op : Op} {ty : TypeId} {env : Env} {H : Heap} {v : AV} (h : V1 P N op ty env H v) : V1 P N op ty env H v.up := fun S a w hc =>
  let ⟨u, h1, h2⟩ := h S a w hc
  ⟨u, h1, h2.up⟩
theorem vfreeze {H : Heap} {S S' : List Slot} {w w' : World} {o : AObj} {off len cap : Nat} {ys : List (List AV)} {u : Value} (h0 : HRel H S w) (hx : Ext S w S' w') (hh : HRel (H ++ [o]) S' w')
    (hv : VR (own S') w' S' (.sl H.length o.gen off len cap) u) (hys : (o.rows.drop off).take len = ys) (hlen : ys.length = len) (hp : ∀ r ∈ ys, AV.bels 0 r = true) :
    ∃ S'', HRel H S'' w' ∧ Ext S w S'' w' ∧ VR (own S'') w' S'' (.pl ys) u := by
  let a : Act := { tmps := #[u], defers := [] }
  have hc : CR 1 [(0, .sl H.length o.gen off len cap)] (H ++ [o]) S' a w' := ⟨hh, fun t => by
    cases t with
    | zero => exact hv
    | succ t => exact .junk, rfl, rfl⟩
  obtain ⟨S2, h2, x2⟩ := hc.freeze (B := ⟨S, w⟩) (t := 0) (id := H.length) (cap := cap) (o := o) hx rfl (by simp) hys hlen hp
  have h3 := h2.sub (E := [(0, .pl ys)]) (Sub.cons rfl Sub.nil)
  rw [List.set_append_right _ _ (Nat.le_refl _)] at h3
  simp only [Nat.sub_self, List.set_cons_zero] at h3
  have hb : (AV.pl ys).bel H.length = true := by
    exact rfl
  obtain ⟨S4, h4, x4⟩ := h3.fit (B := ⟨S, w⟩) (M := H) x2 (.inr ⟨[⟨o.gen + 1, o.sz, []⟩], rfl, by rw [h0.len]; exact Nat.le_refl _, EBel.cons hb EBel.nil, h0.bel⟩)
  exact ⟨S4, h4.heap, x4, h4.env 0⟩
theorem vbump {H : Heap} {S S' : List Slot} {w w' : World} {id len cap m : Nat} (hm : m ≤ max cap len) {o : AObj} {u : Value} (hx : Ext S w S' w') (hh : HRel H S' w') (hid : H[id]? = some o)
    (hv : VR (own S') w' S' (.sl id o.gen 0 len cap) u) :
    ∃ S'', HRel (H.set id ⟨o.gen + 1, o.sz, o.rows.take len⟩) S'' w' ∧ Ext S w S'' w' ∧ VR (own S'') w' S'' (.sl id (o.gen + 1) 0 len m) u := by
  obtain ⟨s, hs, ok⟩ := hh.slot hid
  have hlt : id < S'.length := (List.getElem?_eq_some_iff.1 hs).1
  have hltH : id < H.length := (List.getElem?_eq_some_iff.1 hid).1
  have hown : ∀ b, own (S'.set id ⟨s.gen + 1, s.sz, s.place⟩) b ↔ own S' b := by
    intro b
    constructor
    · rintro ⟨i, si, hi, hpi⟩
      by_cases e : id = i
      · subst e
        rw [List.getElem?_set_self hlt] at hi
        obtain rfl := Option.some.inj hi
        exact ⟨id, s, hs, hpi⟩
      · rw [List.getElem?_set_ne e] at hi
        exact ⟨i, si, hi, hpi⟩
    · rintro ⟨i, si, hi, hpi⟩
      by_cases e : id = i
      · subst e
        rw [hs] at hi
        obtain rfl := Option.some.inj hi
        exact ⟨id, _, List.getElem?_set_self hlt, hpi⟩
      · exact ⟨i, si, by rw [List.getElem?_set_ne e]; exact hi, hpi⟩
  have hx2 : Ext S' w' (S'.set id ⟨s.gen + 1, s.sz, s.place⟩) w' := ⟨rfl, rfl, rfl, ⟨Nat.le_refl _, fun b _ ho => ⟨fun k => ho ((hown b).1 k), rfl⟩, fun _ arr _ h => ⟨arr, h, rfl⟩⟩, SExt.bump hs (by simp)⟩
  have hh2 : HRel (H.set id ⟨o.gen + 1, o.sz, o.rows.take len⟩) (S'.set id ⟨s.gen + 1, s.sz, s.place⟩) w' := by
    refine ⟨by simpa using hh.len, fun id' o' s' ho' hs' => ?_, fun i j si sj b hi hj hbi hbj => ?_⟩
    · by_cases e : id = id'
      · subst e
        rw [List.getElem?_set_self hlt] at hs'
        rw [List.getElem?_set_self hltH] at ho'
        obtain rfl := Option.some.inj hs'
        obtain rfl := Option.some.inj ho'
        refine ⟨by simp [ok.gen], ok.sz, ok.pos, fun hn => by simp [ok.nope hn], fun b hb => ?_⟩
        obtain ⟨arr, ty', h1, h2⟩ := ok.row hb
        have h2' := h2.mono hx2.stp hx2.slots
        refine ⟨arr, ty', h1, Nat.le_trans (Nat.mul_le_mul_right _ (by simp; omega)) h2'.1, fun i r hr => h2'.2 i r ?_⟩
        rw [List.getElem?_take] at hr
        split at hr
        · exact hr
        · cases hr
      · rw [List.getElem?_set_ne e] at ho' hs'
        have ok' := hh.obj id' o' s' ho' hs'
        refine ⟨ok'.gen, ok'.sz, ok'.pos, ok'.nope, fun b hb => ?_⟩
        obtain ⟨arr, ty', h1, h2⟩ := ok'.row hb
        exact ⟨arr, ty', h1, (h2.mono hx2.stp hx2.slots).1, (h2.mono hx2.stp hx2.slots).2⟩
    · have key : ∀ {i : Nat} {si : Slot}, (S'.set id ⟨s.gen + 1, s.sz, s.place⟩)[i]? = some si → ∃ ti : Slot, S'[i]? = some ti ∧ ti.place = si.place := by
        intro i si h
        by_cases e : id = i
        · subst e
          rw [List.getElem?_set_self hlt] at h
          obtain rfl := Option.some.inj h
          exact ⟨s, hs, rfl⟩
        · rw [List.getElem?_set_ne e] at h
          exact ⟨si, h, rfl⟩
      obtain ⟨ti, hti, hpi⟩ := key hi
      obtain ⟨tj, htj, hpj⟩ := key hj
      exact hh.inj i j ti tj b hti htj (hpi.trans hbi) (hpj.trans hbj)
  refine ⟨_, hh2, hx.trans hx2, ?_⟩
  cases hv with
  | sl s' hs' hg h1 hsl =>
    rw [hs] at hs'
    obtain rfl := Option.some.inj hs'
    refine .sl ⟨s.gen + 1, s.sz, s.place⟩ (List.getElem?_set_self hlt) (by simp [ok.gen]) h1 fun _ => ?_
    obtain ⟨c, hc1, hc2, hsl⟩ := hsl ok.gen.symm
    exact ⟨c, by omega, hc2, hsl⟩
theorem VRs.up {O : Nat → Prop} {w : World} {S : List Slot} {vs : List AV} {us : Array Value} (h : VRs O w S vs us) : VRs O w S (vs.map AV.up) us := by
  refine ⟨by simpa using h.1, fun i v u hv hu => ?_⟩
  rw [List.getElem?_map] at hv
  cases hc : vs[i]? with
  | none => simp [hc] at hv
  | some c => simp [hc] at hv; subst hv; exact (h.2 i c u hc hu).up
theorem AC.up {P : Program} {f : FuncId} {vs us : List AV} {H : Heap} {R : AOut → Heap → Prop} (h : AC P f us H R) (hvs : vs.map AV.up = us) : AC P f vs H R := fun S w cargs hH hv => h S w cargs hH (hvs ▸ hv.up)
section
variable {P : Program} {N : Nat} {B : Base} {env : Env} {H H0 L : Heap} {op : Op} {ty : TypeId}
theorem V2.freeze {o : AObj} {g off len cap : Nat} {ys : List (List AV)} (h : V2 P N op ty env H (.sl H.length g off len cap) (H ++ [o])) (hg : o.gen = g) (hys : (o.rows.drop off).take len = ys) (hlen : ys.length = len) (hp : ∀ r ∈ ys, AV.bels 0 r = true) :
    V2 P N op ty env H (.pl ys) H := by
  subst hg
  intro dst pos after guard S a w hc next Q hn hq
  refine h dst pos after guard S a w hc next Q ?_ (fun _ _ _ _ _ hf => hf.elim)
  rintro v u H' S' w' ⟨rfl, rfl⟩ hh hx hv
  obtain ⟨S2, h2, x2, v2⟩ := vfreeze hc.heap hx hh hv hys hlen hp
  exact hn _ _ _ S2 w' ⟨rfl, rfl⟩ h2 x2 v2
theorem V2.freeze1 {o : AObj} {g len cap : Nat} (h : V2 P N op ty env H (.sl H.length g 0 len cap) (H ++ [o])) (hg : o.gen = g) (hlen : o.rows.length = len) (hp : ∀ r ∈ o.rows, AV.bels 0 r = true) :
    V2 P N op ty env H (.pl o.rows) H := h.freeze hg (by rw [List.drop_zero, ← hlen, List.take_length]) hlen hp
theorem V2.freezeL {o : AObj} {g k len cap : Nat} (h : V2 P N op ty env (H0 ++ L) (.sl (Lid H0.length k) g 0 len cap) (H0 ++ (L ++ [o]))) (hk : L.length = k) (hg : o.gen = g) (hlen : o.rows.length = len) (hp : ∀ r ∈ o.rows, AV.bels 0 r = true) :
    V2 P N op ty env (H0 ++ L) (.pl o.rows) (H0 ++ L) := by
  rw [← Lid_app hk, ← List.append_assoc] at h
  exact V2.freeze1 (g := g) (len := len) (cap := cap) (by simpa [Lid] using h) hg hlen hp
theorem V2.ghost (h : V2 P N op ty env H .nsl H) (sz : Nat) (hp : 0 < sz) : V2 P N op ty env H (.sl H.length 0 0 0 0) (H ++ [⟨0, sz, []⟩]) := by
  intro dst pos after guard S a w hc next Q hn hq
  refine h dst pos after guard S a w hc next Q ?_ (fun _ _ _ _ _ hf => hf.elim)
  rintro v u H' S' w' ⟨rfl, rfl⟩ hh hx hv
  have hc1 : CR 1 [(0, .nsl)] H' S' { tmps := #[u], defers := [] } w' := ⟨hh, fun t => by
    cases t with
    | zero => exact hv
    | succ t => exact .junk, rfl, rfl⟩
  obtain ⟨S2, h2, x2⟩ := hc1.ghost (B := ⟨S, w⟩) (t := 0) hx rfl hp
  exact hn _ _ _ S2 w' ⟨rfl, rfl⟩ h2.heap x2 (h2.env 0)
theorem V2.bump {id len cap m : Nat} {o : AObj} (hm : m ≤ max cap len) (h : V2 P N op ty env H (.sl id o.gen 0 len cap) H) (hid : H[id]? = some o) : V2 P N op ty env H (.sl id (o.gen + 1) 0 len m) (H.set id ⟨o.gen + 1, o.sz, o.rows.take len⟩) := by
  intro dst pos after guard S a w hc next Q hn hq
  refine h dst pos after guard S a w hc next Q ?_ (fun _ _ _ _ _ hf => hf.elim)
  rintro v u H' S' w' ⟨rfl, rfl⟩ hh hx hv
  obtain ⟨S2, h2, x2, v2⟩ := vbump hm hx hh hid hv
  exact hn _ _ _ S2 w' ⟨rfl, rfl⟩ h2 x2 v2
theorem g_append_nsl {t t' e : TypeId} {x y : Operand} {sz bytes k : Nat} {agg : Bool} {zs : List AV} {ys : List (List AV)} [hu : SlI P t e] [NiI P t'] [TyI P e agg sz] [hz : ZcI P e zs] [ByI P e bytes]
    (hx : aev env x = .nsl) (hy : Src P N env (H0 ++ L) y sz ys) (hn : zs.length = sz) (hp : 0 < sz) (h63 : ys.length ≤ 9223372036854775807) (hb : ys.length * bytes ≤ 140737488355328) (hk : L.length = k) :
    V2 P N (.call { callee := .builtin .append, args := #[x, y], argTypes := #[t, t'] }) ty env (H0 ++ L) (.sl (Lid H0.length k) 0 0 ys.length ys.length) (H0 ++ (L ++ [⟨0, sz, ys⟩])) := by
  rcases Nat.eq_zero_or_pos ys.length with h0 | h0
  · have : ys = [] := List.eq_nil_of_length_eq_zero h0
    subst this
    have := (o_append_nsl0 (P := P) (N := N) (env := env) (H := H0 ++ L) (ty := ty) (t := t) (t' := t') (e := e) (agg := agg) (sz := sz) hx hy).ghost sz hp
    rw [List.length_append, hk, List.append_assoc] at this
    exact this
  · exact o_append_nslL (agg := agg) (e := e) (zs := zs) hn hp hx hy h0 h63 hb hk
theorem g_append {t t' e : TypeId} {x y : Operand} {n k g len cap sz bytes : Nat} {agg : Bool} {zs : List AV} {o : AObj} {ys : List (List AV)} [hu : SlI P t e] [NiI P t'] [TyI P e agg sz] [hz : ZcI P e zs] [ByI P e bytes]
    (hx : aev env x = .sl (Lid n k) g 0 len cap) (hn : H0.length = n) (hk : L[k]? = some o) (hg : o.gen = g) (hsz : o.sz = sz) (hy : Src P N env (H0 ++ L) y sz ys) (hz' : zs.length = sz) (hlen : len ≤ o.rows.length) (h63 : len + ys.length ≤ 9223372036854775807) (hb : (len + ys.length) * bytes ≤ 140737488355328) :
    V2 P N (.call { callee := .builtin .append, args := #[x, y], argTypes := #[t, t'] }) ty env (H0 ++ L) (.sl (Lid n k) (g + 1) 0 (len + ys.length) (len + ys.length)) (H0 ++ L.set k ⟨g + 1, o.sz, o.rows.take len ++ ys⟩) := by
  rcases Nat.eq_zero_or_pos ys.length with h0 | h0
  · have : ys = [] := List.eq_nil_of_length_eq_zero h0
    subst this
    subst hg
    have := (o_append0 (P := P) (N := N) (env := env) (H := H0 ++ L) (ty := ty) (t := t) (t' := t') (e := e) (agg := agg) (sz := sz) hx (lk hn hk) hy).bump (m := len) (by omega) (lk hn hk)
    rw [st hn] at this
    simpa using this
  · exact w_append (agg := agg) (e := e) (zs := zs) hx hn hk hg hsz hy hz' hlen h0 h63 hb
theorem o_clear {t e : TypeId} {x : Operand} {id off len cap sz : Nat} {agg : Bool} {zs : List AV} {o : AObj} [hu : SlI P t e] [TyI P e agg sz] [hz : ZcI P e zs] (hx : aev env x = .sl id o.gen off len cap) (hid : H[id]? = some o) (hsz : o.sz = sz) (hn : zs.length = sz) :
    V2 P N (.call { callee := .builtin .clear, args := #[x], argTypes := #[t] }) ty env H (.tup []) (H.set id { o with rows := o.rows.take off }) := by
  intro dst pos after guard S a w hc next Q hnext _
  obtain ⟨s, c, hsl, ok, hcc, hlc, h⟩ := hc.slc hx hid
  have hlt : id < S.length := (List.getElem?_eq_some_iff.1 hsl).1
  obtain ⟨z, hz1, hz2⟩ := run_zc (P := P) (t := e) S w
  have key : ∀ w1, (Builtin.clear_ #[t] ty #[a.eval x]).run P w = .ok (.tuple #[]) w1 → (∃ H', (H' = H.set id { o with rows := o.rows.take off }) ∧ HRel H' S w1 ∧ Ext S w S w1) → Oper.wp P ⟨dst, .call { callee := .builtin .clear, args := #[x], argTypes := #[t] }, ty, pos, after, guard⟩ a w next Q := by
    rintro w1 hr ⟨H', rfl, hh, hx'⟩
    have hrun : (execOp a.eval ⟨dst, .call { callee := .builtin .clear, args := #[x], argTypes := #[t] }, ty, pos, after, guard⟩).run P w = .ok (.value (.tuple #[])) w1 := by
      simp [execOp, resolve, invoke, builtin, hr]
    unfold Oper.wp
    rw [hrun]
    exact hnext _ _ _ _ _ ⟨rfl, rfl⟩ hh hx' undef_ok
  have take_hrel : ∀ (hnil : o.rows.take off = o.rows ∨ s.place = none ∨ True), HRel (H.set id { o with rows := o.rows.take off }) S w := by
    intro _
    refine ⟨by simpa using hc.heap.len, fun id' o' s' ho' hs' => ?_, hc.heap.inj⟩
    by_cases e : id = id'
    · subst e
      rw [List.getElem?_set_self (List.getElem?_eq_some_iff.1 hid).1] at ho'
      obtain rfl := Option.some.inj ho'
      rw [hsl] at hs'
      obtain rfl := Option.some.inj hs'
      refine ⟨ok.gen, ok.sz, ok.pos, fun hn => by simp [ok.nope hn], fun b hb => ?_⟩
      obtain ⟨arr, ty', h1, h2⟩ := ok.row hb
      refine ⟨arr, ty', h1, Nat.le_trans (Nat.mul_le_mul_right _ (by simp; omega)) h2.1, fun i r hr => h2.2 i r ?_⟩
      rw [List.getElem?_take] at hr
      split at hr
      · exact hr
      · cases hr
    · rw [List.getElem?_set_ne e] at ho'
      exact hc.heap.obj id' o' s' ho' hs'
  rcases h with ⟨h0, ad, he⟩ | ⟨b, arr, et, hp, he, hbl, hfit, hrow⟩
  · refine key w ?_ ⟨_, rfl, take_hrel (.inr (.inr trivial)), Ext.refl S w⟩
    rw [he]
    cases ad <;> simp [Builtin.clear_, run_und hu.ud]
  · rcases Nat.eq_zero_or_pos len with h0 | h0
    · subst h0
      refine key w ?_ ⟨_, rfl, take_hrel (.inr (.inr trivial)), Ext.refl S w⟩
      rw [he]
      simp [Builtin.clear_, run_und hu.ud]
    · have hzn : z.cells.size = sz := by
        have := hz2.1
        omega
      have hvs : (Builtin.zeroCells z.cells len).toList.length = len * sz := by rw [Array.length_toList, size_zeroCells, hzn]
      have hfit2 : off * o.sz + (Builtin.zeroCells z.cells len).toList.length ≤ arr.size := by
        rw [hvs, hsz, ← Nat.add_mul]
        rw [hsz] at hfit
        exact Nat.le_trans (Nat.mul_le_mul_right _ (by omega)) hfit
      have hone : ∀ v ∈ (Builtin.zeroCells z.cells len).toList, v.oneCell' = true := by
        intro v hv
        obtain ⟨i, hi⟩ := List.mem_iff_getElem?.1 hv
        rw [Array.getElem?_toList] at hi
        have hi2 := (Array.getElem?_eq_some_iff.1 hi).1
        have hpos : 0 < z.cells.size := by
          rcases Nat.eq_zero_or_pos z.cells.size with e | e
          · rw [size_zeroCells, e] at hi2; simp at hi2
          · exact e
        have hm : i % z.cells.size < z.cells.size := Nat.mod_lt _ hpos
        have hv2 : v = z.cells[i % z.cells.size] := by
          have := (Array.getElem?_eq_some_iff.1 hi).2
          rw [← this]
          simp [Builtin.zeroCells, hm]
        have hj : i % z.cells.size < zs.length := by rw [hn, ← hzn]; exact hm
        obtain ⟨h1, u, h2, h3⟩ := hz2.2 _ _ (List.getElem?_eq_getElem hj)
        rw [Array.getElem?_eq_getElem hm] at h2
        rw [hv2, Option.some.inj h2]
        exact h3.one h1
      have hst := run_storeCells_at P b (off * o.sz) et (Builtin.zeroCells z.cells len).toList 0 arr w hbl (by simpa using hfit2) hone
      simp only [Nat.add_zero] at hst
      have hw := hc.heap.write (rows' := o.rows.take off) (arr' := (arr.toList.take (off * o.sz) ++ (Builtin.zeroCells z.cells len).toList ++ arr.toList.drop (off * o.sz + (Builtin.zeroCells z.cells len).toList.length)).toArray) hid hsl hp hbl (by simp only [List.size_toArray, List.length_append, List.length_take, List.length_drop, Array.length_toList] at *; omega) ?_
      · refine key _ ?_ ⟨_, rfl, hw.1, hw.2⟩
        rw [he]
        have hl : ∃ m, len = m + 1 := ⟨len - 1, by omega⟩
        obtain ⟨m, rfl⟩ := hl
        simp [Builtin.clear_, run_und hu.ud, hz1, hst]
      · refine ⟨?_, fun i r hr => ?_⟩
        · have := hrow.1
          have h2 : (o.rows.take off).length * o.sz ≤ o.rows.length * o.sz := Nat.mul_le_mul_right _ (by simp; omega)
          simp only [List.size_toArray, List.length_append, List.length_take, List.length_drop, Array.length_toList] at *
          omega
        · have hi : i < off := by
            have := (List.getElem?_eq_some_iff.1 hr).1
            simp at this; omega
          have hr' : o.rows[i]? = some r := by
            rw [List.getElem?_take, if_pos hi] at hr; exact hr
          obtain ⟨k1, k2⟩ := hrow.2 i r hr'
          refine ⟨k1, fun j v hv => ?_⟩
          obtain ⟨k3, u, k4, k5⟩ := k2 j v hv
          have hj : j < o.sz := by rw [← k1]; exact (List.getElem?_eq_some_iff.1 hv).1
          have hlt2 : i * o.sz + j < off * o.sz := by
            have : (i + 1) * o.sz ≤ off * o.sz := Nat.mul_le_mul_right _ hi
            rw [Nat.succ_mul] at this
            omega
          refine ⟨k3, u, ?_, k5⟩
          have hlt3 : i * o.sz + j < arr.size := (Array.getElem?_eq_some_iff.1 k4).1
          rw [List.getElem?_toArray, List.append_assoc, List.getElem?_append_left (by simp; omega), List.getElem?_take, if_pos hlt2, Array.getElem?_toList]
          exact k4
theorem g_lit1 {t e : TypeId} {sz : Nat} {x : Operand} {v : AV} {agg : Bool} {zs cs : List AV} [hu : SlI P t e] [TyI P e agg sz] [hz : ZcI P e zs] (hn : zs.length = sz) (hp : 0 < sz) (hbig : sz ≤ 16777216) (hx : aev env x = v) (hv : v.cellish = true) (hcs : v.cells = cs) (hl : cs.length = sz) (hb : AV.bels 0 cs = true) :
    V2 P N (.buildSlice t 1 #[(0, x)]) ty env H (.pl [cs]) H := by
  have h1 := o_buildSlice1L (P := P) (N := N) (env := env) (H0 := H) (L := []) (ty := ty) (t := t) (e := e) (agg := agg) (zs := zs) hn hp hbig hx hv hcs hl rfl
  have := V2.freezeL (L := []) h1 rfl rfl rfl (by intro r hr; simp only [List.mem_singleton] at hr; subst hr; exact hb)
  simpa using this
theorem o_slices3 {t e : TypeId} {x hi mx : Operand} {lo : Option Operand} {k k' : IntKind} {id g off len cap l h m sz : Nat} {agg : Bool} {o : AObj} [hu : SlI P t e] [TyI P e agg sz] (hx : aev env x = .sl id g off len cap) (hid : H[id]? = some o) (hg : o.gen = g) (hsz : o.sz = sz) (hl : Bd env lo 0 l) (hh : aev env hi = .int k (h : Int)) (hm : aev env mx = .int k' (m : Int)) (h1 : l ≤ h) (h2 : h ≤ m) (h3 : m ≤ max len cap) :
    V1 P N (.slice t x lo (Option.some hi) (Option.some mx)) ty env H (.sl id g (off + l) (h - l) (m - l)) := by
  subst hg
  intro S a w hc
  obtain ⟨s, c, hs, ok, hcc, hlc, hh2⟩ := hc.slc hx hid
  rcases hh2 with ⟨h0, ad, he⟩ | ⟨b, arr, et, hp, he, hb, hfit, hrow⟩
  · obtain rfl : m = 0 := by omega
    obtain rfl : h = 0 := by omega
    obtain rfl : l = 0 := by omega
    have el : len = 0 := by omega
    subst el
    have hb' := run_sliceBounds3 (P := P) hc true (len := 0) (cap := 0) hl hh hm h1 (by omega) (by omega)
    refine ⟨.slice ad 0 0, fun _ _ _ _ => ?_, .sl s hs (by rw [ok.gen]; exact Nat.le_refl _) rfl fun _ => ⟨0, by omega, by omega, .inl ⟨rfl, ad, rfl⟩⟩⟩
    simp [execOp, he, Instr.sliceAt, Instr.slice, run_und hu.ud, hb', run_sz (P := P) (t := e) (agg := agg) (sz := sz)]
  · have hb' := run_sliceBounds3 (P := P) hc true (len := len) (cap := c) hl hh hm h1 h2 (by omega)
    refine ⟨.slice (if m = l then some ⟨b, off * o.sz, none⟩ else some ⟨b, (off + l) * o.sz, none⟩) (h - l) (m - l), fun _ _ _ _ => ?_, .sl s hs (by rw [ok.gen]; exact Nat.le_refl _) rfl fun _ => ⟨m - l, by omega, by omega, ?_⟩⟩
    · have e1 : (⟨b, off * o.sz, none⟩ : Addr).add (l * sz) = ⟨b, (off + l) * o.sz, none⟩ := by rw [add_none, hsz, Nat.add_mul]
      simp [execOp, he, Instr.sliceAt, Instr.slice, run_und hu.ud, hb', run_sz (P := P) (t := e) (agg := agg) (sz := sz), e1]
    · by_cases e1 : m = l
      · left
        refine ⟨by omega, some ⟨b, off * o.sz, none⟩, ?_⟩
        rw [if_pos e1, show h - l = 0 by omega, show m - l = 0 by omega]
      · right
        refine ⟨b, arr, et, hp, by rw [if_neg e1, ok.sz], hb, ?_⟩
        rw [← ok.sz]
        refine Nat.le_trans (Nat.mul_le_mul_right _ ?_) hfit
        omega
theorem o_appendT {t t' e : TypeId} {x y : Operand} {id g len cap sz bytes : Nat} {agg : Bool} {zs : List AV} {o : AObj} {ys : List (List AV)} (m : Nat) [hu : SlI P t e] [NiI P t'] [TyI P e agg sz] [hz : ZcI P e zs] [ByI P e bytes]
    (hx : aev env x = .sl id g 0 len cap) (hid : H[id]? = some o) (hg : o.gen = g) (hsz : o.sz = sz) (hy : Src P N env H y sz ys) (hz' : zs.length = sz) (hlen : len ≤ o.rows.length) (h63 : len + ys.length ≤ 9223372036854775807) (hb : (len + ys.length) * bytes ≤ 140737488355328) (hm : m ≤ max cap (len + ys.length)) :
    V2 P N (.call { callee := .builtin .append, args := #[x, y], argTypes := #[t, t'] }) ty env H (.sl id (g + 1) 0 (len + ys.length) m) (H.set id ⟨g + 1, o.sz, o.rows.take len ++ ys⟩) := by
  subst hg
  rcases Nat.eq_zero_or_pos ys.length with h0 | h0
  · have : ys = [] := List.eq_nil_of_length_eq_zero h0
    subst this
    have := (o_append0 (P := P) (N := N) (env := env) (H := H) (ty := ty) (t := t) (t' := t') (e := e) (agg := agg) (sz := sz) hx hid hy).bump (m := m) (by simpa using hm) hid
    simpa using this
  · exact o_appendM (agg := agg) (e := e) (zs := zs) hz' hx hid hsz hlen hy h0 h63 hb hm
theorem w_appendF {t t' e : TypeId} {x y : Operand} {id g len cap sz bytes : Nat} {agg : Bool} {zs : List AV} {o : AObj} {ys : List (List AV)} (m : Nat) [hu : SlI P t e] [NiI P t'] [TyI P e agg sz] [hz : ZcI P e zs] [ByI P e bytes]
    (hx : aev env x = .sl id g 0 len cap) (hid : H0[id]? = some o) (hg : o.gen = g) (hsz : o.sz = sz) (hy : Src P N env (H0 ++ L) y sz ys) (hz' : zs.length = sz) (hlen : len ≤ o.rows.length) (h63 : len + ys.length ≤ 9223372036854775807) (hb : (len + ys.length) * bytes ≤ 140737488355328) (hm : m ≤ max cap (len + ys.length)) :
    V2 P N (.call { callee := .builtin .append, args := #[x, y], argTypes := #[t, t'] }) ty env (H0 ++ L) (.sl id (g + 1) 0 (len + ys.length) m) (H0.set id ⟨g + 1, o.sz, o.rows.take len ++ ys⟩ ++ L) := by
  have := o_appendT (P := P) (N := N) (env := env) (H := H0 ++ L) (ty := ty) (t := t) (t' := t') (e := e) (agg := agg) (zs := zs) (bytes := bytes) m hx (lkF hid) hg hsz hy hz' hlen h63 hb hm
  rwa [stF hid] at this
theorem w_clearF {t e : TypeId} {x : Operand} {id g off len cap sz : Nat} {agg : Bool} {zs : List AV} {o : AObj} [hu : SlI P t e] [TyI P e agg sz] [hz : ZcI P e zs] (hx : aev env x = .sl id g off len cap) (hid : H0[id]? = some o) (hg : o.gen = g) (hsz : o.sz = sz) (hz' : zs.length = sz) :
    V2 P N (.call { callee := .builtin .clear, args := #[x], argTypes := #[t] }) ty env (H0 ++ L) (.tup []) (H0.set id { o with rows := o.rows.take off } ++ L) := by
  subst hg
  have := o_clear (P := P) (N := N) (env := env) (H := H0 ++ L) (ty := ty) (t := t) (e := e) (agg := agg) (zs := zs) hx (lkF hid) hsz hz'
  rwa [stF hid] at this
theorem e_doneF {B : Base} {rs : List ResultVar} {vs : List AV} {v : AV} {args : List AV} {M : Heap} (hB : Begun B H args) (h : ResVs P env (M ++ L) rs vs) (hv : tupv vs = v) (hb : v.bel H.length = true) (hl : M.length = H.length) (hM : HBel H.length M) : Ends P B rs (Ret v M) .ret env (M ++ L) := by
  refine ⟨vs, M, h, .inr ⟨L, rfl, by rw [hB.len, hl]; exact Nat.le_refl _, by rw [hv, hl]; exact hb, by rw [hl]; exact hM⟩, by rw [hv], rfl⟩
theorem HBel.set {n : Nat} {M : Heap} (h : HBel n M) (id : Nat) (o : AObj) (ho : ∀ r ∈ o.rows, AV.bels n r = true) : HBel n (M.set id o) := fun o' ho' => by
  rcases List.mem_or_eq_of_mem_set ho' with h1 | rfl
  · exact h o' h1
  · exact ho
theorem V2.callo3 {f g n c id' : Nat} {xs : Array Operand} {ts : Array TypeId} {vs : List AV} {o : AObj} {k : Nat} [FnI P f] (hac : AC P f vs (H0 ++ L) (Ret (.sl id' g 0 n c) ((H0 ++ L).set id' o))) (hvs : xs.toList.map (aev env) = vs) (hk : id' = Lid H0.length k) :
    V2 P N (.call { callee := .value (.func f), args := xs, argTypes := ts }) ty env (H0 ++ L) (.sl (Lid H0.length k) g 0 n c) (H0 ++ L.set k o) := by
  subst hk
  have := V2.call (N := N) (ty := ty) (ts := ts) hac hvs
  rwa [st rfl] at this
end
def JoinP (B : Base) (E : Env) (M : Heap) (Q : Post) : Post
  | .nrm, e, H => Sub E e ∧ Fit B E H M
  | x, e, H => Q x e H
section
variable {P : Program} {N : Nat} {B : Base} {Q : Post} {env : Env} {H : Heap}
theorem aw_joinQ {x : Code} (E : Env) (M : Heap) (h : AWp P N B x (JoinP B E M Q) env H) (k : Q .nrm E M) : AWp P N B x Q env H := by
  intro S a w hc hb
  refine wp_mono (h S a w hc hb) ?_
  rintro e a' w' ⟨ax, env', H', S', hj, r, c', k'⟩
  cases ax with
  | nrm =>
    cases r
    obtain ⟨S2, c2, k2⟩ := (c'.sub hj.1).fit k' hj.2
    exact ⟨.nrm, E, M, S2, k, .nrm, c2, k2⟩
  | brk i => exact ⟨_, env', H', S', hj, r, c', k'⟩
  | ret => exact ⟨_, env', H', S', hj, r, c', k'⟩
  | pan v => exact ⟨_, env', H', S', hj, r, c', k'⟩
theorem join_nrm {E : Env} {M : Heap} (h1 : Sub E env) (h2 : Fit B E H M) : JoinP B E M Q .nrm env H := ⟨h1, h2⟩
end
def AtR (H0 L0 : Heap) (k : Nat) (H : Heap) : Prop := ∃ G : Heap, H = H0 ++ G ∧ G[k]? = L0[k]?
def Pre (H0 L0 H : Heap) : Prop := ∃ G, H = H0 ++ (L0 ++ G)
section
variable {P : Program} {N : Nat} {B : Base} {ops : Array Oper} {a : Option Nat} {C : Heap → Prop} {F : Env → Heap → Prop} {Q : Post}
variable {fuel : Nat} {listed : Array Bool} {env : Env} {H H0 L : Heap} {op : Op} {ty : TypeId} {pos : String} {after : Array Edge} {v : AV} {id : Nat} {l : List Oper}
theorem yet_done {X : Prop} {i : Nat} (h : listed.getD i true = true) : Yet (some i) listed → X := fun k => by
  have : listed.getD i true = false := k
  rw [h] at this
  cases this
theorem aw_drawP (hm : P.follows .mixedOrders = true) (a : Option Nat) (k : Nat) (h : AAny P N B l.toArray a (Pre H0 (L.take k)) (Q .nrm) l.length (Array.replicate l.length false) env (H0 ++ L)) : AWp P N B (.region id l.toArray true) Q env (H0 ++ L) := aw_draw hm a _ h
theorem aw_drawR (hm : P.follows .mixedOrders = true) (a : Option Nat) (k : Nat) (h : AAny P N B l.toArray a (AtR H0 L k) (Q .nrm) l.length (Array.replicate l.length false) env (H0 ++ L)) : AWp P N B (.region id l.toArray true) Q env (H0 ++ L) := aw_draw hm a _ h
theorem aqr {d k : Nat} {L0 : Heap} (i : Nat) (hi : ops[i]? = some ⟨some d, op, ty, pos, after, none⟩) (hB : firstB ops listed a i = true) (hd : DN d N) (h1 : ∀ G : Heap, G[k]? = L0[k]? → V1 P N op ty (renv ⟨some d, op, ty, pos, after, none⟩ env) (H0 ++ G) v)
    (h : AAny P N B ops a (AtR H0 L0 k) F fuel (listed.setIfInBounds i true) ((d, v) :: env) H) : AAny P N B ops a (AtR H0 L0 k) F (fuel + 1) listed env H :=
  aq1 i hi hB hd (by rintro _ ⟨G, rfl, hG⟩; exact h1 G hG) h
theorem aw_of_out {c : Code} (t : Nat) (v : AV) (h : AWp P N B c (Out B env t v H) env H) (k : Q .nrm ((t, v) :: env) H) : AWp P N B c Q env H := by
  intro S a w hc hb
  refine Code.wp_mono ?_ (h S a w hc hb)
  rintro e a' w' ⟨x, e', H', S', ⟨rfl, hv, hs, rfl⟩, r, c', k'⟩
  cases r
  exact ⟨.nrm, _, _, S', k, .nrm, c'.sub (hs.sub hv), k'⟩
theorem aq02 {d : Nat} (i : Nat) (hi : ops[i]? = some ⟨some d, op, ty, pos, after, none⟩) (hB : firstB0 ops listed a i = true) (hd : DN d N) (h1 : ∀ H', V2 P N op ty (renv ⟨some d, op, ty, pos, after, none⟩ env) H' v H')
    (h : AAny P N B ops a C F fuel (listed.setIfInBounds i true) ((d, v) :: env) H) : AAny P N B ops a C F (fuel + 1) listed env H :=
  aa_first0 i hi hB (by rintro _ ⟨⟩; exact hd) (.inl ⟨rfl, fun H _ => h1 H _ _ _ _⟩) h
theorem aqy0 {d j g : Nat} {want : Bool} (i : Nat) (hi : ops[i]? = some ⟨some d, op, ty, pos, after, some (j, want)⟩) (hB : firstB0 ops listed a i = true) (hd : DN d N) (hj : (ops[j]?).bind (·.dst) = some g) (hb : get env g = .bool want)
    (h1 : ∀ H', V1 P N op ty (renv ⟨some d, op, ty, pos, after, some (j, want)⟩ env) H' v)
    (h : AAny P N B ops a C F fuel (listed.setIfInBounds i true) ((d, v) :: env) H) : AAny P N B ops a C F (fuel + 1) listed env H :=
  aa_first0 i hi hB (by rintro _ ⟨⟩; exact hd) (.inl ⟨⟨g, hj, .inl ⟨want, hb, by simp⟩⟩, fun H hC => (h1 H).toV2 _ _ _ _⟩) h
theorem aqy02 {d j g : Nat} {want : Bool} (i : Nat) (hi : ops[i]? = some ⟨some d, op, ty, pos, after, some (j, want)⟩) (hB : firstB0 ops listed a i = true) (hd : DN d N) (hj : (ops[j]?).bind (·.dst) = some g) (hb : get env g = .bool want)
    (h1 : ∀ H', V2 P N op ty (renv ⟨some d, op, ty, pos, after, some (j, want)⟩ env) H' v H')
    (h : AAny P N B ops a C F fuel (listed.setIfInBounds i true) ((d, v) :: env) H) : AAny P N B ops a C F (fuel + 1) listed env H :=
  aa_first0 i hi hB (by rintro _ ⟨⟩; exact hd) (.inl ⟨⟨g, hj, .inl ⟨want, hb, by simp⟩⟩, fun H hC => h1 H _ _ _ _⟩) h
theorem aqn0 {d j g : Nat} {want c : Bool} (i : Nat) (hi : ops[i]? = some ⟨some d, op, ty, pos, after, some (j, want)⟩) (hB : firstB0 ops listed a i = true) (hd : DN d N) (hj : (ops[j]?).bind (·.dst) = some g) (hb : get env g = .bool c) (hc : (c == want) = false)
    (h : AAny P N B ops a C F fuel (listed.setIfInBounds i true) ((d, .tup []) :: env) H) : AAny P N B ops a C F (fuel + 1) listed env H :=
  aa_first0 i hi hB (by rintro _ ⟨⟩; exact hd) (.inr ⟨⟨g, hj, .inl ⟨c, hb, hc.symm⟩⟩, rfl⟩) h
theorem aqu0 {d j g : Nat} {want : Bool} (i : Nat) (hi : ops[i]? = some ⟨some d, op, ty, pos, after, some (j, want)⟩) (hB : firstB0 ops listed a i = true) (hd : DN d N) (hj : (ops[j]?).bind (·.dst) = some g) (hb : get env g = .tup [])
    (h : AAny P N B ops a C F fuel (listed.setIfInBounds i true) ((d, .tup []) :: env) H) : AAny P N B ops a C F (fuel + 1) listed env H :=
  aa_first0 i hi hB (by rintro _ ⟨⟩; exact hd) (.inr ⟨⟨g, hj, .inr ⟨hb, rfl⟩⟩, rfl⟩) h
theorem aqp {d : Nat} {L0 : Heap} (i : Nat) (hi : ops[i]? = some ⟨some d, op, ty, pos, after, none⟩) (hB : firstB ops listed a i = true) (hd : DN d N) (h1 : ∀ G, V1 P N op ty (renv ⟨some d, op, ty, pos, after, none⟩ env) (H0 ++ (L0 ++ G)) v)
    (h : AAny P N B ops a (Pre H0 L0) F fuel (listed.setIfInBounds i true) ((d, v) :: env) H) : AAny P N B ops a (Pre H0 L0) F (fuel + 1) listed env H :=
  aq1 i hi hB hd (by rintro _ ⟨G, rfl⟩; exact h1 G) h
theorem aqyp {d j g : Nat} {want : Bool} {L0 : Heap} (i : Nat) (hi : ops[i]? = some ⟨some d, op, ty, pos, after, some (j, want)⟩) (hB : firstB ops listed a i = true) (hd : DN d N) (hj : (ops[j]?).bind (·.dst) = some g) (hb : get env g = .bool want)
    (h1 : ∀ G, V1 P N op ty (renv ⟨some d, op, ty, pos, after, some (j, want)⟩ env) (H0 ++ (L0 ++ G)) v)
    (h : AAny P N B ops a (Pre H0 L0) F fuel (listed.setIfInBounds i true) ((d, v) :: env) H) : AAny P N B ops a (Pre H0 L0) F (fuel + 1) listed env H :=
  aqy1 i hi hB hd hj hb (by rintro _ ⟨G, rfl⟩; exact h1 G) h
end
end Go.Av

namespace Go.Av
def AV.flat : AV → Bool
  | .int .. | .bool _ | .str _ | .flt .. | .nptr | .nifc | .nfn | .nsl | .junk => true
  | _ => false
theorem VR.flat {O O' : Nat → Prop} {w w' : World} {S S' : List Slot} {v : AV} {u : Value} (h : VR O w S v u) (hf : v.flat = true) : VR O' w' S' v u := by
  cases h <;> first | (simp [AV.flat] at hf; done) | constructor
theorem VR.free {O : Nat → Prop} {w : World} {S : List Slot} {v : AV} {u : Value} (h : VR O w S v u) (hb : v.bel 0 = true) : VR (own []) w [] v u :=
  (h.pur hb).mono ⟨Nat.le_refl _, fun b _ _ => ⟨by rintro ⟨i, s, hs, _⟩; simp at hs, rfl⟩, fun _ arr _ h => ⟨arr, h, rfl⟩⟩ (SExt.refl _)
inductive Lend1 (H : Heap) : AV → AV → Prop where
  | sl {id off len cap : Nat} {o : AObj} {ys : List (List AV)} (hid : H[id]? = some o) (hp : ∀ r ∈ ys, AV.bels 0 r = true) (hys : (o.rows.drop off).take len = ys) (hlen : ys.length = len) : Lend1 H (.sl id o.gen off len cap) (.pl ys)
  | same {v : AV} (hb : v.bel 0 = true) (hl : v.leaf = true) : Lend1 H v v
inductive Lends (H : Heap) : List AV → List AV → Prop where
  | nil : Lends H [] []
  | cons {a b : AV} {as1 bs : List AV} (h : Lend1 H a b) (k : Lends H as1 bs) : Lends H (a :: as1) (b :: bs)
inductive Lend (H : Heap) : AV → AV → Prop where
  | one {a b : AV} (h : Lend1 H a b) : Lend H a b
  | agg {cs ds : List AV} (h : Lends H cs ds) : Lend H (.agg cs) (.agg ds)
  | pure {v : AV} (hb : v.bel 0 = true) : Lend H v v
inductive LendAll (H : Heap) : List AV → List AV → Prop where
  | nil : LendAll H [] []
  | cons {a b : AV} {as1 bs : List AV} (h : Lend H a b) (k : LendAll H as1 bs) : LendAll H (a :: as1) (b :: bs)
theorem Lend1.leaf {H : Heap} {a b : AV} (h : Lend1 H a b) : b.leaf = true := by cases h <;> first | rfl | assumption
theorem Lends.get {H : Heap} : ∀ {as1 bs : List AV}, Lends H as1 bs → as1.length = bs.length ∧ ∀ (j : Nat) (b : AV), bs[j]? = some b → ∃ a, as1[j]? = some a ∧ Lend1 H a b
  | _, _, .nil => ⟨rfl, fun j b h => by simp at h⟩
  | _, _, .cons h k => by
    obtain ⟨h1, h2⟩ := k.get
    refine ⟨by simp [h1], fun j b hb => ?_⟩
    cases j with
    | zero => simp at hb; subst hb; exact ⟨_, rfl, h⟩
    | succ j => simpa using h2 j b (by simpa using hb)
theorem LendAll.get {H : Heap} : ∀ {as1 bs : List AV}, LendAll H as1 bs → as1.length = bs.length ∧ ∀ (j : Nat) (b : AV), bs[j]? = some b → ∃ a, as1[j]? = some a ∧ Lend H a b
  | _, _, .nil => ⟨rfl, fun j b h => by simp at h⟩
  | _, _, .cons h k => by
    obtain ⟨h1, h2⟩ := k.get
    refine ⟨by simp [h1], fun j b hb => ?_⟩
    cases j with
    | zero => simp at hb; subst hb; exact ⟨_, rfl, h⟩
    | succ j => simpa using h2 j b (by simpa using hb)
theorem Lend1.vr {H : Heap} {S : List Slot} {w : World} (hh : HRel H S w) {a b : AV} {u : Value} (h : Lend1 H a b) (hv : VR (own S) w S a u) : VR (own []) w [] b u := by
  cases h with
  | same hb _ => exact hv.free hb
  | @sl id off len cap o ys hid hp hys hlen =>
    obtain ⟨s, hs, ok⟩ := hh.slot hid
    have hc : CR 1 [(0, .sl id o.gen off len cap)] H S { tmps := #[u], defers := [] } w := ⟨hh, fun t => by
      cases t with
      | zero => exact hv
      | succ t => exact .junk, rfl, rfl⟩
    obtain ⟨S', hc', _⟩ := hc.freeze (B := ⟨S, w⟩) (t := 0) (id := id) (cap := cap) (o := o) (Ext.refl S w) rfl hid hys hlen hp
    have := hc'.env 0
    rw [get_put_same] at this
    exact this.free rfl
theorem Lend.vr {H : Heap} {S : List Slot} {w : World} (hh : HRel H S w) {a b : AV} {u : Value} (h : Lend H a b) (hv : VR (own S) w S a u) : VR (own []) w [] b u := by
  cases h with
  | one h => exact h.vr hh hv
  | pure hb => exact hv.free hb
  | agg h =>
    obtain ⟨h1, h2⟩ := h.get
    cases hv with
    | agg hn hl hvr =>
      refine .agg (h1.symm.trans hn) (fun j v hj => ?_) (fun j v u hj hu => ?_)
      · obtain ⟨a, _, ha⟩ := h2 j v hj
        exact ha.leaf
      · obtain ⟨a, haj, ha⟩ := h2 j v hj
        exact ha.vr hh (hvr j a u haj hu)
section
variable {P : Program} {N : Nat} {env : Env} {H : Heap} {ty : TypeId}
theorem V2.lend {f : Nat} {xs : Array Operand} {ts : Array TypeId} {v : AV} {us : List AV} [FnI P f] (hac : AC P f us [] (Ret v [])) (hl : LendAll H (xs.toList.map (aev env)) us) (hf : v.flat = true) :
    V2 P N (.call { callee := .value (.func f), args := xs, argTypes := ts }) ty env H v H := by
  refine V2.call (vs := xs.toList.map (aev env)) ?_ rfl
  intro S w cargs hH hv
  obtain ⟨h1, h2⟩ := hl.get
  have hv' : VRs (own []) w [] us cargs := ⟨h1.symm.trans hv.1, fun i b u hb hu => by
    obtain ⟨a, ha, hab⟩ := h2 i b hb
    exact hab.vr hH (hv.2 i a u ha hu)⟩
  refine (hac [] w cargs ⟨rfl, fun _ _ _ h => by simp at h, fun _ _ _ _ _ h => by simp at h⟩ hv').mono ?_
  rintro e w' ⟨o, H', S', ⟨rfl, rfl⟩, ho, hh, hx⟩
  have hno : ∀ b, ¬ own [] b := by rintro b ⟨i, s, hs, _⟩; simp at hs
  have hold : ∀ b, b < w.heap.size → w'.heap[b]? = w.heap[b]? := fun b hb => (hx.stp.old b hb (hno b)).2
  have hx' : Ext S w S w' := ⟨hx.os, hx.tape, hx.output, ⟨hx.stp.size, fun b hb ho => ⟨ho, hold b hb⟩, hx.stp.cells⟩, SExt.refl S⟩
  refine ⟨.ret v, H, S, ⟨rfl, rfl⟩, ?_, same_heap hH hx' hold, hx'⟩
  cases ho with
  | ret hvr => exact .ret (hvr.flat hf)
theorem HRel.retell {H : Heap} {S : List Slot} {w : World} (h : HRel H S w) {k i j b : Nat} {o : AObj} {s : Slot} {r : List AV} {v2 : AV} {arr : Array Value} {ty : TypeId} {u : Value} (hk : H[k]? = some o) (hs : S[k]? = some s) (hp : s.place = some b) (hb : w.heap[b]? = some (Obj.cells arr ty (0, 0)))
    (hr : o.rows[i]? = some r) (hj : j < r.length) (hu : arr[i * o.sz + j]? = some u) (hl : v2.leaf = true) (hv : VR (own S) w S v2 u) : HRel (H.set k { o with rows := o.rows.set i (r.set j v2) }) S w := by
  refine ⟨by simpa using h.len, fun id' o' s' ho' hs' => ?_, h.inj⟩
  by_cases e : k = id'
  · subst e
    rw [List.getElem?_set_self (List.getElem?_eq_some_iff.1 hk).1] at ho'
    obtain rfl := Option.some.inj ho'
    rw [hs] at hs'
    obtain rfl := Option.some.inj hs'
    have ok := h.obj k o s hk hs
    refine ⟨ok.gen, ok.sz, ok.pos, fun hn => (by rw [hp] at hn; cases hn), fun b' hb' => ?_⟩
    obtain ⟨arr', ty', h1, h2, h3⟩ := ok.lies b' hb'
    rw [hp] at hb'
    obtain rfl := Option.some.inj hb'
    rw [hb] at h1
    injection h1 with h1
    injection h1 with h1 h1'
    subst h1
    refine ⟨arr, ty, hb, by simpa using h2, fun i' r' hr' => ?_⟩
    by_cases ei : i = i'
    · subst ei
      have hil : i < o.rows.length := (List.getElem?_eq_some_iff.1 hr).1
      rw [List.getElem?_set_self hil] at hr'
      obtain rfl := Option.some.inj hr'
      obtain ⟨k1, k2⟩ := h3 i r hr
      refine ⟨by simpa using k1, fun j' v' hv' => ?_⟩
      by_cases ej : j = j'
      · subst ej
        rw [List.getElem?_set_self hj] at hv'
        obtain rfl := Option.some.inj hv'
        exact ⟨hl, u, hu, hv⟩
      · rw [List.getElem?_set_ne ej] at hv'
        exact k2 j' v' hv'
    · rw [List.getElem?_set_ne ei] at hr'
      exact h3 i' r' hr'
  · rw [List.getElem?_set_ne e] at ho'
    exact h.obj id' o' s' ho' hs'
theorem CR.freezeC {B : Base} {S : List Slot} {a : Act} {w : World} {k i j id off len cap : Nat} {o q : AObj} {r : List AV} {ys : List (List AV)} (h : CR N env H S a w) (hx : Ext B.S B.w S w) (hk : H[k]? = some q) (hr : q.rows[i]? = some r) (hj : r[j]? = some (.sl id o.gen off len cap)) (hne : id ≠ k)
    (hid : H[id]? = some o) (hys : (o.rows.drop off).take len = ys) (hlen : ys.length = len) (hp : ∀ r ∈ ys, AV.bels 0 r = true) :
    ∃ S', CR N env ((H.set id ⟨o.gen + 1, o.sz, []⟩).set k { q with rows := q.rows.set i (r.set j (.pl ys)) }) S' a w ∧ Ext B.S B.w S' w := by
  obtain ⟨s, hs, ok⟩ := h.heap.slot hk
  have hil := (List.getElem?_eq_some_iff.1 hr).1
  cases hpl : s.place with
  | none => rw [ok.nope hpl] at hil; simp at hil
  | some b =>
    obtain ⟨arr, ty, h1, h2, h3⟩ := ok.lies b hpl
    obtain ⟨k1, k2⟩ := h3 i r hr
    obtain ⟨_, u, hu, hv⟩ := k2 j _ hj
    have hc : CR 1 [(0, .sl id o.gen off len cap)] H S { tmps := #[u], defers := [] } w := ⟨h.heap, fun t => by
      cases t with
      | zero => exact hv
      | succ t => exact .junk, rfl, rfl⟩
    obtain ⟨S', hc', hx'⟩ := hc.freeze (B := ⟨S, w⟩) (t := 0) (id := id) (cap := cap) (o := o) (Ext.refl S w) rfl hid hys hlen hp
    have hv2 := hc'.env 0
    rw [get_put_same] at hv2
    have hk' : (H.set id ⟨o.gen + 1, o.sz, []⟩)[k]? = some q := by rw [List.getElem?_set_ne hne]; exact hk
    obtain ⟨s', hs', ok'⟩ := hc'.heap.slot hk'
    obtain ⟨s2, hs2, hg, he⟩ := hx'.slots k s hs
    rw [hs'] at hs2
    obtain rfl := Option.some.inj hs2
    have hpl' : s'.place = some b := (he (by rw [← ok'.gen, ok.gen])).2.trans hpl
    have hh := hc'.heap.retell (v2 := .pl ys) hk' hs' hpl' h1 hr (List.getElem?_eq_some_iff.1 hj).1 hu rfl hv2
    exact ⟨S', ⟨hh, fun t => (h.env t).ext hx', h.size, h.defers⟩, hx.trans hx'⟩
theorem aw_freezeC {B : Base} {Q : Post} {c : Code} {L : Heap} {H0 : Heap} {n k i j kid g off len cap : Nat} {o q : AObj} {r : List AV} {ys : List (List AV)} (k' : Nat) (hk' : k' = k) (hk : L[k]? = some q) (hr : q.rows[i]? = some r) (hj : r[j]? = some (.sl (Lid n kid) g off len cap)) (hn : H0.length = n) (hne : kid ≠ k)
    (hid : L[kid]? = some o) (hg : o.gen = g) (hys : (o.rows.drop off).take len = ys) (hlen : ys.length = len) (hp : ∀ r ∈ ys, AV.bels 0 r = true)
    (h : AWp P N B c Q env (H0 ++ (L.set kid ⟨g + 1, o.sz, []⟩).set k { q with rows := q.rows.set i (r.set j (.pl ys)) })) : AWp P N B c Q env (H0 ++ L) := fun S a w hc hb => by
  subst hg
  obtain ⟨S', hc', hb'⟩ := hc.freezeC (id := Lid n kid) (k := Lid n k) hb (lk hn hk) hr hj (by unfold Lid; omega) (lk hn hid) hys hlen hp
  rw [st hn, st hn] at hc'
  exact h S' a w hc' hb'
end
end Go.Av

namespace Go.Av
section
variable {P : Program} {N : Nat} {B : Base} {env : Env} {H H0 L : Heap} {op : Op} {ty : TypeId}
theorem g_append_new {t t' e : TypeId} {x y : Operand} {sz bytes : Nat} {agg : Bool} {zs : List AV} {ys : List (List AV)} [hu : SlI P t e] [NiI P t'] [TyI P e agg sz] [hz : ZcI P e zs] [ByI P e bytes]
    (hx : aev env x = .nsl) (hy : Src P N env H y sz ys) (hn : zs.length = sz) (hp : 0 < sz) (h63 : ys.length ≤ 9223372036854775807) (hb : ys.length * bytes ≤ 140737488355328) (hbel : ∀ r ∈ ys, AV.bels 0 r = true) :
    V2 P N (.call { callee := .builtin .append, args := #[x, y], argTypes := #[t, t'] }) ty env H (.pl ys) H := by
  have h1 := g_append_nsl (P := P) (N := N) (ty := ty) (t := t) (t' := t') (e := e) (agg := agg) (zs := zs) (bytes := bytes) (H0 := H) (L := []) (k := 0) hx (by rw [List.append_nil]; exact hy) hn hp h63 hb rfl
  have h2 := V2.freezeL (o := ⟨0, sz, ys⟩) (k := 0) h1 rfl rfl rfl hbel
  rw [List.append_nil] at h2
  exact h2
theorem w_storeW {t : TypeId} {x y : Operand} {n k g i sz : Nat} {agg : Bool} {o : AObj} {r cs : List AV} [TyI P t agg sz] (hx : aev env x = .pt (Lid n k) g i 0) (hn : H0.length = n) (hk : L[k]? = some o) (hg : o.gen = g) (hr : o.rows[i]? = some r)
    (hy : aev env y = .agg cs) (hl : cs.length = sz) (hrl : r.length = sz) (hj : sz ≤ o.sz) :
    V2 P N (.store t x y) ty env (H0 ++ L) .junk (H0 ++ L.set k { o with rows := o.rows.set i cs }) :=
  w_storeP (v := .agg cs) (r' := cs) (agg := agg) hx hn hk hg hr hy rfl hl (by omega) (by
    show r.take 0 ++ cs ++ r.drop (0 + sz) = cs
    rw [List.take_zero, List.nil_append, Nat.zero_add, List.drop_of_length_le (by omega), List.append_nil])
end
end Go.Av

namespace Go.Av
structure But (r : Nat) (w w' : World) : Prop where
  os : w'.os = w.os
  tape : w'.tape = w.tape
  output : w'.output = w.output
  size : w'.heap.size = w.heap.size
  other : ∀ j, j ≠ r → w'.heap[j]? = w.heap[j]?
  none : ∀ arr ty fz, w.heap[r]? ≠ some (Obj.cells arr ty fz)
theorem But.cells {r : Nat} {w w' : World} (h : But r w w') {b : Nat} {arr : Array Value} {ty : TypeId} {fz : Nat × Nat} (hb : w.heap[b]? = some (Obj.cells arr ty fz)) : w'.heap[b]? = some (Obj.cells arr ty fz) := by
  by_cases e : b = r
  · subst e; exact absurd hb (h.none _ _ _)
  · rw [h.other b e]; exact hb
theorem But.cell {r : Nat} {w w' : World} (h : But r w w') {a : Addr} {v : Value} (hc : w.cell? a = some v) : w'.cell? a = some v := by
  by_cases e : a.block = r
  · unfold World.cell? at hc
    split at hc
    · rename_i c x y hq; rw [e] at hq; exact absurd hq (h.none _ _ _)
    · cases hc
  · exact (World.cell?_of_block (h.other a.block e)).trans hc
theorem VR.but {r : Nat} {w w' : World} (hw : But r w w') {O : Nat → Prop} {S : List Slot} {v : AV} {u : Value} (h : VR O w S v u) : VR O w' S v u := by
  induction h with
  | junk => exact .junk
  | int => exact .int
  | bool => exact .bool
  | str => exact .str
  | flt => exact .flt
  | nsl => exact .nsl
  | nptr => exact .nptr
  | nfn => exact .nfn
  | nifc => exact .nifc
  | raw => exact .raw
  | know ho hg h hx => exact .know ho (by rw [hw.size]; exact hg) (fun j v hv => hw.cell (h j v hv)) (by obtain ⟨ty, fz, e⟩ := hx; exact ⟨ty, fz, hw.cells e⟩)
  | ifc _ ih => exact .ifc ih
  | pl base sz u hc hb hs hm hl _ ih =>
    exact .pl base sz u hc (fun hx => ⟨(hb hx).1, (hb hx).2.1, by rw [hw.size]; exact (hb hx).2.2⟩) hs (fun i hi j hj => hw.cell (hm i hi j hj)) hl ih
  | pp base sz u hb hs hm hl _ ih =>
    exact .pp base sz u ⟨hb.1, by rw [hw.size]; exact hb.2⟩ hs (fun i hi j hj => hw.cell (hm i hi j hj)) hl ih
  | sl s hs hg h1 h =>
    refine .sl s hs hg h1 fun e => ?_
    obtain ⟨c, hc, hl, h⟩ := h e
    refine ⟨c, hc, hl, ?_⟩
    rcases h with h | ⟨b, arr, ty, hp, hu, hb, hsz⟩
    · exact .inl h
    · exact .inr ⟨b, arr, ty, hp, hu, hw.cells hb, hsz⟩
  | pt s hs hg h1 h => exact .pt s hs hg h1 h
  | agg hn hl _ ih => exact .agg hn hl ih
  | tup hn _ ih => exact .tup hn ih
  | fn hp hq _ _ ih1 ih2 => exact .fn hp hq ih1 ih2
theorem HRel.but {r : Nat} {H : Heap} {S : List Slot} {w w' : World} (hh : HRel H S w) (hw : But r w w') : HRel H S w' := by
  refine ⟨hh.len, fun id o s ho hs => ?_, hh.inj⟩
  have ok := hh.obj id o s ho hs
  refine ⟨ok.gen, ok.sz, ok.pos, ok.nope, fun b hb => ?_⟩
  obtain ⟨arr, ty, h1, h2, h3⟩ := ok.lies b hb
  refine ⟨arr, ty, hw.cells h1, h2, fun i r hr => ?_⟩
  obtain ⟨k1, k2⟩ := h3 i r hr
  refine ⟨k1, fun j v hv => ?_⟩
  obtain ⟨k3, u, k4, k5⟩ := k2 j v hv
  exact ⟨k3, u, k4, k5.but hw⟩
theorem HRel.notOwn {H : Heap} {S : List Slot} {w : World} (hh : HRel H S w) {r : Nat} (hn : ∀ arr ty fz, w.heap[r]? ≠ some (Obj.cells arr ty fz)) : ¬ own S r := by
  rintro ⟨i, s, hs, hp⟩
  have hlt : i < H.length := by rw [hh.len]; exact (List.getElem?_eq_some_iff.1 hs).1
  have ok := hh.obj i H[i] s (List.getElem?_eq_getElem hlt) hs
  obtain ⟨arr, ty, h1, _⟩ := ok.lies r hp
  exact hn _ _ _ h1
section
variable {P : Program} {N : Nat} {B : Base} {Q : Post} {env : Env} {H : Heap}
abbrev itv (r : Nat) : Value := .pointer (some ⟨r, 0, none⟩)
structure ItAt (N : Nat) (B : Base) (it r : Nat) (s : ByteArray) (pos : Nat) (E : Env) (H : Heap) (a : Act) (w : World) (S : List Slot) : Prop where
  cr : CR N ((it, .raw (itv r)) :: E) H S a w
  ext : Ext B.S B.w S w
  obj : w.heap[r]? = some (.stringIter s pos)
  new : B.w.heap.size ≤ r
theorem ItAt.next {it r pos pos' : Nat} {s : ByteArray} {E : Env} {S : List Slot} {a : Act} {w : World} (h : ItAt N B it r s pos E H a w S) : ItAt N B it r s pos' E H a (w.iterAt r s pos') S := by
  have hn : ∀ arr ty fz, w.heap[r]? ≠ some (Obj.cells arr ty fz) := by intro arr ty fz e; rw [h.obj] at e; cases e
  have hb : But r w (w.iterAt r s pos') := ⟨rfl, rfl, rfl, Lib.iterAt_size w r s pos', fun j hj => Lib.iterAt_other w r j s pos' hj, hn⟩
  have hno := h.cr.heap.notOwn hn
  refine ⟨⟨h.cr.heap.but hb, fun t => (h.cr.env t).but hb, h.cr.size, h.cr.defers⟩, ?_, Lib.iterAt_heap w r s pos pos' h.obj, h.new⟩
  have hx := h.ext
  refine ⟨hx.os, hx.tape, hx.output, ⟨by rw [hb.size]; exact hx.stp.size, fun b hbs ho => ?_, fun b arr ty hc => ?_⟩, hx.slots⟩
  · obtain ⟨k1, k2⟩ := hx.stp.old b hbs ho
    exact ⟨k1, by rw [hb.other b (by have := h.new; omega)]; exact k2⟩
  · obtain ⟨arr', k1, k2⟩ := hx.stp.cells b arr ty hc
    exact ⟨arr', hb.cells k1, k2⟩
theorem decode_pos (s : ByteArray) (i : Nat) : 1 ≤ (Utf8.decode s i).2 := by
  unfold Utf8.decode
  simp only
  repeat' split
  all_goals simp
theorem aw_rangeStr {k1 k2 b t it nx okt : Nat} {x : Operand} {tx ty1 ty2 ty3 ty4 : TypeId} {p1 p2 p3 p4 : String} {f1 f2 f3 f4 : Array Edge} {body : Code} {s : ByteArray} [hu : UdI P tx .string]
    (hx : aev env x = .str s) (ht : t < N) (hit : it < N) (hnx : nx < N) (hok : okt < N) (hne : it ≠ t) (hne2 : nx ≠ it) (hne3 : okt ≠ it)
    (I : Nat → Prop) (E : Nat → Env) (h0 : I 0) (hE : Sub (E 0) ((t, .str s) :: env))
    (round : ∀ (pos r : Nat) (B' : Base), pos < s.size → I pos → B'.S.length = H.length → AWp P N B' body (AX.andThen (fun e H' => I (pos + (Utf8.decode s pos).2) ∧ Sub ((it, .raw (itv r)) :: E (pos + (Utf8.decode s pos).2)) e ∧ H' = H) (AX.inBlock b Q))
      ((okt, .bool true) :: (nx, .tup [.bool true, .int .i64 (pos : Int), .int .i32 ((Utf8.decode s pos).1 : Int)]) :: (it, .raw (itv r)) :: E pos) H)
    (fin : ∀ (pos r : Nat), ¬ pos < s.size → I pos → Q .nrm ((okt, .bool false) :: (nx, .tup [.bool false]) :: (it, .raw (itv r)) :: E pos) H) :
    AWp P N B (.seq (.region k1 [⟨some t, .move x, ty1, p1, f1, none⟩, ⟨some it, .range tx (.tmp t), ty2, p2, f2, none⟩].toArray false)
      (.block b (.loop (.seq (.region k2 [⟨some nx, .next (.tmp it) true, ty3, p3, f3, none⟩, ⟨some okt, .extract (.tmp nx) 0, ty4, p4, f4, none⟩].toArray false) (.seq (.cond (.tmp okt) .skip (.exit b)) body))))) Q env H := by
  intro S a w hc hb
  refine wp_seq (wp_region_lit ?_)
  refine wpList_plain rfl fun next hnext => ?_
  have hv := hc.ev x
  rw [hx] at hv
  unfold Oper.wp
  rw [show ∀ pos after guard, (execOp a.eval ⟨some t, .move x, ty1, pos, after, guard⟩).run P w = .ok (.value (a.eval x)) w from fun _ _ _ => rfl]
  refine hnext _ _ ?_
  have c1 := hc.put (d := some t) (Ext.refl S w) hc.heap (by rintro _ ⟨⟩; exact ht) hv
  generalize a.eval x = u at hv c1 ⊢
  cases hv
  refine wpList_plain rfl fun next2 hnext2 => ?_
  have hev : (a.put (some t) (.string s)).eval (.tmp t) = .string s := by simp [Act.eval, Act.put, hc.size, ht]
  have hr2 : ∀ pos after guard, (execOp (a.put (some t) (.string s)).eval ⟨some it, .range tx (.tmp t), ty2, pos, after, guard⟩).run P w = .ok (.value (itv w.heap.size)) (w.iter s 0) := by
    intro pos after guard
    simp only [execOp, hev, Sem.run_bind, run_range_string w tx s hu.ud, Result.andThen_ok, Sem.run_pure]
  unfold Oper.wp
  rw [hr2]
  refine hnext2 _ _ ?_
  have hold : ∀ b, b < w.heap.size → (w.iter s 0).heap[b]? = w.heap[b]? := fun b hb => (by first | exact heap_alloc_old w _ b hb | exact heap_alloc_old w _ hb)
  have hx' : Ext S w S (w.iter s 0) := ⟨rfl, rfl, rfl, ⟨by simp [World.iter], fun b hb ho => ⟨ho, hold b hb⟩, fun b arr ty hb' => ⟨arr, by rw [hold b (Array.getElem?_eq_some_iff.1 hb').1]; exact hb', rfl⟩⟩, SExt.refl S⟩
  have hh := same_heap hc.heap hx' hold
  have c2 := c1.put (d := some it) (v := .raw (itv w.heap.size)) (u := itv w.heap.size) hx' hh (by rintro _ ⟨⟩; exact hit) .raw
  have hsub : Sub ((it, .raw (itv w.heap.size)) :: E 0) ((it, .raw (itv w.heap.size)) :: (t, .str s) :: env) := fun t' => by
    by_cases e : it = t'
    · subst e; rw [get_put_same, get_put_same]; exact .inr rfl
    · rw [get_put_other _ _ e, get_put_other _ _ e]; exact hE t'
  refine wpList_nil ?_
  refine wp_block (wp_loop_ghost (fun n a' w' => ∃ pos S', n = s.size - pos ∧ I pos ∧ ItAt N B it w.heap.size s pos (E pos) H a' w' S') (s.size - 0) ⟨0, S, rfl, h0, ⟨c2.sub hsub, hb.trans hx', World.iter_heap w s 0, hb.stp.size⟩⟩ ?_)
  rintro n a1 w1 ⟨pos, S1, rfl, hI, h1⟩
  refine wp_seq (wp_region_lit ?_)
  refine wpList_plain rfl fun next hnext => ?_
  have hevit : a1.eval (.tmp it) = itv w.heap.size := by
    have := h1.cr.ev (.tmp it)
    rw [show aev ((it, AV.raw (itv w.heap.size)) :: E pos) (.tmp it) = .raw (itv w.heap.size) from get_put_same _ _ _] at this
    generalize a1.eval (.tmp it) = u at this
    cases this
    rfl
  by_cases hp : pos < s.size
  · have hrn : ∀ pos' after guard, (execOp a1.eval ⟨some nx, .next (.tmp it) true, ty3, pos', after, guard⟩).run P w1 = .ok (.value (.tuple #[.bool true, .int .i64 pos, .int .i32 (Utf8.decode s pos).1])) (w1.iterAt w.heap.size s (pos + (Utf8.decode s pos).2)) := by
      intro pos' after guard
      simp only [execOp, hevit, Sem.run_bind, Lib.run_next_any_at w1 w.heap.size s pos ty3 h1.obj hp, Result.andThen_ok, Sem.run_pure]
    unfold Oper.wp
    rw [hrn]
    refine hnext _ _ ?_
    have h2 := h1.next (pos' := pos + (Utf8.decode s pos).2)
    have c3 := h2.cr.put (d := some nx) (v := .tup [.bool true, .int .i64 (pos : Int), .int .i32 ((Utf8.decode s pos).1 : Int)]) (Ext.refl S1 _) h2.cr.heap (by rintro _ ⟨⟩; exact hnx) (.tup (vs := #[.bool true, .int .i64 pos, .int .i32 (Utf8.decode s pos).1]) rfl fun j v u hv hu => by
      match j, hv, hu with
      | 0, hv, hu => simp at hv hu; subst hv; subst hu; exact .bool
      | 1, hv, hu => simp at hv hu; subst hv; subst hu; exact .int
      | 2, hv, hu => simp at hv hu; subst hv; subst hu; exact .int
      | j + 3, hv, hu => simp at hv)
    refine wpList_plain rfl fun next2 hnext2 => ?_
    obtain ⟨u, hru, hvu⟩ := (o_extract (P := P) (N := N) (env := (nx, .tup [.bool true, .int .i64 (pos : Int), .int .i32 ((Utf8.decode s pos).1 : Int)]) :: (it, .raw (itv w.heap.size)) :: E pos) (H := H) (ty := ty4) (x := .tmp nx) (i := 0) (v := .bool true) (get_put_same ((it, .raw (itv w.heap.size)) :: E pos) nx (.tup [.bool true, .int .i64 (pos : Int), .int .i32 ((Utf8.decode s pos).1 : Int)])) rfl) S1 _ _ c3
    unfold Oper.wp
    rw [hru]
    refine hnext2 _ _ ?_
    have c4 := c3.put (d := some okt) (Ext.refl S1 _) c3.heap (by rintro _ ⟨⟩; exact hok) hvu
    refine wpList_nil ?_
    have hevok := c4.ev (.tmp okt)
    rw [show ∀ e : Env, aev (Av.put e (some okt) (.bool true)) (.tmp okt) = .bool true from fun e => get_put_same _ _ _] at hevok
    generalize hu2 : Act.eval _ (.tmp okt) = u2 at hevok
    cases hevok
    refine wp_seq (wp_cond_true hu2 (wp_skip ?_))
    refine wp_mono (round pos w.heap.size ⟨S1, w1.iterAt w.heap.size s (pos + (Utf8.decode s pos).2)⟩ hp hI (by rw [← h2.cr.heap.len]) S1 _ _ c4 (Ext.refl _ _)) ?_
    intro e a' w' ⟨x', env', H', S', q, r, c, k⟩
    have kx : Ext B.S B.w S' w' := h2.ext.trans k
    cases r with
    | nrm =>
      obtain ⟨hI', hs, rfl⟩ := q
      have hr : w.heap.size < (w1.iterAt w.heap.size s (pos + (Utf8.decode s pos).2)).heap.size := (Array.getElem?_eq_some_iff.1 h2.obj).1
      have hno := h2.cr.heap.notOwn (r := w.heap.size) (by intro arr ty fz e; rw [h2.obj] at e; cases e)
      refine ⟨s.size - (pos + (Utf8.decode s pos).2), by have := decode_pos s pos; omega, pos + (Utf8.decode s pos).2, S', rfl, hI', c.sub hs, kx, ?_, h1.new⟩
      rw [(k.stp.old _ hr hno).2]
      exact h2.obj
    | @brk i =>
      simp only [AX.andThen, AX.inBlock] at q
      simp only [Exit.then, Exit.inBlock]
      split at q
      · rename_i e; rw [if_pos e]; exact ⟨_, env', H', S', q, .nrm, c, kx⟩
      · rename_i e; rw [if_neg e]; exact ⟨_, env', H', S', q, .brk, c, kx⟩
    | ret => exact ⟨_, env', H', S', q, .ret, c, kx⟩
    | pan hv => exact ⟨_, env', H', S', q, .pan hv, c, kx⟩
  · have hrn : ∀ pos' after guard, (execOp a1.eval ⟨some nx, .next (.tmp it) true, ty3, pos', after, guard⟩).run P w1 = .ok (.value (.tuple #[.bool false])) w1 := by
      intro pos' after guard
      simp only [execOp, hevit, Sem.run_bind, Lib.run_next_end_at w1 w.heap.size s pos ty3 h1.obj hp, Result.andThen_ok, Sem.run_pure]
    unfold Oper.wp
    rw [hrn]
    refine hnext _ _ ?_
    have c3 := h1.cr.put (d := some nx) (v := .tup [.bool false]) (Ext.refl S1 _) h1.cr.heap (by rintro _ ⟨⟩; exact hnx) (.tup (vs := #[.bool false]) rfl fun j v u hv hu => by
      match j, hv, hu with
      | 0, hv, hu => simp at hv hu; subst hv; subst hu; exact .bool
      | j + 1, hv, hu => simp at hv)
    refine wpList_plain rfl fun next2 hnext2 => ?_
    obtain ⟨u, hru, hvu⟩ := (o_extract (P := P) (N := N) (env := (nx, .tup [.bool false]) :: (it, .raw (itv w.heap.size)) :: E pos) (H := H) (ty := ty4) (x := .tmp nx) (i := 0) (v := .bool false) (get_put_same ((it, .raw (itv w.heap.size)) :: E pos) nx (.tup [.bool false])) rfl) S1 _ _ c3
    unfold Oper.wp
    rw [hru]
    refine hnext2 _ _ ?_
    have c4 := c3.put (d := some okt) (Ext.refl S1 _) c3.heap (by rintro _ ⟨⟩; exact hok) hvu
    refine wpList_nil ?_
    have hevok := c4.ev (.tmp okt)
    rw [show ∀ e : Env, aev (Av.put e (some okt) (.bool false)) (.tmp okt) = .bool false from fun e => get_put_same _ _ _] at hevok
    generalize hu2 : Act.eval _ (.tmp okt) = u2 at hevok
    cases hevok
    refine wp_seq (wp_cond_false hu2 (wp_exit ?_))
    simp only [Exit.then, Exit.inBlock, if_true]
    exact ⟨.nrm, _, H, S1, fin pos w.heap.size hp hI, .nrm, c4, h1.ext⟩
theorem aw_scope {c : Code} (h : AWp P N B c Q env H) : AWp P N B (.scope c) Q env H := by
  intro S a w hc hb
  refine wp_scope_straight (wp_mono (h S a w hc hb) ?_)
  intro e a' w' ⟨x, env', H', S', q, r, c, k⟩
  cases r with
  | nrm => exact ⟨_, env', H', S', q, .nrm, c, k⟩
  | brk => exact ⟨_, env', H', S', q, .brk, c, k⟩
  | ret => exact ⟨_, env', H', S', q, .ret, c, k⟩
  | pan hv => exact ⟨_, env', H', S', q, .pan hv, c, k⟩
end
end Go.Av

namespace Go.Av
section
variable {P : Program} {N : Nat} {B : Base} {Q : Post} {env : Env} {H : Heap} {ty : TypeId}
theorem o_extern {f : FuncId} {fn : Func} {e : Array Value → Sem Value} {xs : Array Operand} {ts : Array TypeId} {v : AV} (hf : P.funcs[f]? = some fn) (hname : (fn.name == "runtime.NumGoroutine") = false) (hb : fn.body.isNone = true) (hn : Extern.findNext fn = none) (he : Extern.find fn = some e)
    (h : ∀ S a w, CR N env H S a w → ∃ u, (e (xs.map a.eval)).run P w = .ok u w ∧ VR (own S) w S v u) :
    V1 P N (.call { callee := .value (.func f), args := xs, argTypes := ts }) ty env H v := by
  intro S a w hc
  obtain ⟨u, h1, h2⟩ := h S a w hc
  refine ⟨u, fun dst pos after guard => ?_, h2⟩
  simp [execOp, resolve, Act.eval, Deferred.ofValue, invoke, run_callFunc_extern hf hname hb hn he, h1, Result.andThen]
theorem o_indexByteStr {f : FuncId} {fn : Func} {x y : Operand} {ts : Array TypeId} {s : ByteArray} {c : Int} (hf : P.funcs[f]? = some fn) (hname : (fn.name == "runtime.NumGoroutine") = false) (hb : fn.body.isNone = true) (hn : Extern.findNext fn = none) (he : Extern.find fn = some Extern.BytealgIndexByte.indexByte)
    (hx : aev env x = .str s) (hy : aev env y = .int .u8 c) : V1 P N (.call { callee := .value (.func f), args := #[x, y], argTypes := ts }) ty env H (.int .i64 (Lib.indexByte s.data.toList c.toNat.toUInt8)) := by
  refine o_extern hf hname hb hn he fun S a w hc => ?_
  have h1 := hc.ev x
  have h2 := hc.ev y
  rw [hx] at h1
  rw [hy] at h2
  refine ⟨.int .i64 (Lib.indexByte s.data.toList c.toNat.toUInt8), ?_, .int⟩
  have e : (#[x, y] : Array Operand).map a.eval = #[a.eval x, a.eval y] := by simp
  rw [e]
  generalize a.eval x = u at h1
  generalize a.eval y = u2 at h2
  cases h1
  cases h2
  exact Lib.run_indexByteString s c w
theorem o_runeStr {x : Operand} {s d : TypeId} {k : IntKind} {n : Int} [hs : UdI P s (.int k)] [hd : UdI P d .string] (hx : aev env x = .int k n) : V1 P N (.convert s d x) ty env H (.str (Utf8.encode n)) := by
  intro S a w hc
  have h1 := hc.ev x
  rw [hx] at h1
  refine ⟨.string (Utf8.encode n), fun dst pos after guard => ?_, .str⟩
  generalize hu : a.eval x = u at h1
  cases h1
  simp [execOp, hu, convert, run_und hs.ud, run_und hd.ud, Conv.intToString]
theorem g_litL {t e : TypeId} {n sz : Nat} {parts : Array (Nat × Operand)} {agg : Bool} {zs cs : List AV} (rows : List (List AV)) [hu : SlI P t e] [TyI P e agg sz] [hz : ZcI P e zs] (hn : zs.length = sz) (hp : 0 < sz) (h0 : 0 < n) (hbig : n * sz ≤ 16777216)
    (hf : afill ((List.range n).map fun i => (i * sz, sz)) (List.replicate n zs).flatten (parts.toList.map fun (i, x) => (i, aev env x)) = some cs) (hrows : rows.flatten = cs) (hw : ∀ r ∈ rows, r.length = sz) (hlen : rows.length = n) (hb : ∀ r ∈ rows, AV.bels 0 r = true) :
    V2 P N (.buildSlice t n parts) ty env H (.pl rows) H := by
  have h1 := o_buildSliceL (P := P) (N := N) (env := env) (H0 := H) (L := []) (ty := ty) (t := t) (e := e) (agg := agg) (zs := zs) hn hp h0 hbig hf hrows hw rfl
  have := V2.freezeL (L := []) h1 rfl rfl hlen hb
  simpa using this
theorem V2.callv {f : Nat} {x : Operand} {xs : Array Operand} {ts : Array TypeId} {v : AV} {ps qs vs : List AV} {M : Heap} [FnI P f] (hac : AC P f vs H (Ret v M)) (hx : aev env x = .fn (.func f) ps qs) (hvs : ps ++ xs.toList.map (aev env) ++ qs = vs) :
    V2 P N (.call { callee := .value x, args := xs, argTypes := ts }) ty env H v M := by
  subst hvs
  intro dst pos after guard S a w hc next Q hn hp
  refine AOp.call (P := P) (N := N) (o := ⟨dst, .call { callee := .value x, args := xs, argTypes := ts }, ty, pos, after, guard⟩) (f := f) (fun S a w hc => ?_) hac S a w hc next Q ?_ ?_
  · have hv := hc.ev x
    rw [hx] at hv
    generalize he : a.eval x = u at hv
    cases hv with
    | @fn _ _ _ _ p' q' hp hq h1 h2 =>
      refine ⟨p' ++ xs.map a.eval ++ q', ?_, (VRs.append (VRs.append ⟨hp, h1⟩ (evs_ok hc xs)) ⟨hq, h2⟩)⟩
      simp [execOp, resolve, he, Deferred.ofValue, invoke, run_callFunc (P := P) (f := f)]
  · rintro v' u H' S' w' ⟨e, rfl⟩
    injection e with e
    subst e
    exact hn _ u _ S' w' ⟨rfl, rfl⟩
  · rintro v' u H' S' w' ⟨e, _⟩
    cases e
end
theorem encode_high {n : Int} (h : 128 ≤ n) (hv : Utf8.valid n = true) : 2 ≤ (Utf8.encode n).data.toList.length ∧ (Utf8.encode n).data.toList.length ≤ 4 ∧ ∀ b ∈ (Utf8.encode n).data.toList, 128 ≤ b.toNat := by
  have hn : n.toNat < 1114112 ∧ 128 ≤ n.toNat := by
    simp [Utf8.valid] at hv
    omega
  unfold Utf8.encode
  rw [if_pos hv]
  generalize n.toNat = c at hn
  simp only
  rw [if_neg (by omega)]
  split
  · refine ⟨by simp, by simp, fun b hb => ?_⟩
    simp only [List.mem_cons, List.not_mem_nil, or_false] at hb
    rcases hb with rfl | rfl <;> simp <;> omega
  · split
    · refine ⟨by simp, by simp, fun b hb => ?_⟩
      simp only [List.mem_cons, List.not_mem_nil, or_false] at hb
      rcases hb with rfl | rfl | rfl <;> simp <;> omega
    · refine ⟨by simp, by simp, fun b hb => ?_⟩
      simp only [List.mem_cons, List.not_mem_nil, or_false] at hb
      rcases hb with rfl | rfl | rfl | rfl <;> simp <;> omega
theorem decode_high (s : ByteArray) (i : Nat) (h : 128 ≤ (s.get! i).toNat) : 128 ≤ (Utf8.decode s i).1 ∧ (Utf8.decode s i).1 ≤ 1114111 := by
  unfold Utf8.decode
  simp only [Nat.add_zero]
  rw [if_neg (by omega)]
  have hre : Utf8.runeError = 65533 := rfl
  repeat' split
  all_goals simp_all [Utf8.valid]
  all_goals omega
theorem decode_low (s : ByteArray) (i : Nat) (h : (s.get! i).toNat < 128) : Utf8.decode s i = ((s.get! i).toNat, 1) := by
  unfold Utf8.decode
  simp only [Nat.add_zero]
  rw [if_pos h]
end Go.Av

namespace Go.Av
theorem u64_nat (x : Nat) (h : x < 18446744073709551616) : (BitVec.ofInt IntKind.u64.bits (x : Int)).toNat = x := by
  show (BitVec.ofInt 64 (x : Int)).toNat = x
  rw [BitVec.ofInt_natCast, BitVec.toNat_ofNat]; exact Nat.mod_eq_of_lt (by omega)
theorem u64_wrap (x : Nat) (h : x < 18446744073709551616) : IntKind.u64.wrap (x : Int) = (x : Int) := by rw [IntKind.wrap_u64]; omega
theorem u64_or (x y : Nat) (hx : x < 18446744073709551616) (hy : y < 18446744073709551616) : IntKind.u64.wrap (BitVec.ofInt IntKind.u64.bits (x : Int) ||| BitVec.ofInt IntKind.u64.bits (y : Int)).toNat = ((x ||| y : Nat) : Int) := by
  rw [BitVec.toNat_or, u64_nat x hx, u64_nat y hy]
  exact u64_wrap _ (Nat.or_lt_two_pow (n := 64) hx hy)
theorem u64_and (x y : Nat) (hx : x < 18446744073709551616) (hy : y < 18446744073709551616) : IntKind.u64.wrap (BitVec.ofInt IntKind.u64.bits (x : Int) &&& BitVec.ofInt IntKind.u64.bits (y : Int)).toNat = ((x &&& y : Nat) : Int) := by
  rw [BitVec.toNat_and, u64_nat x hx, u64_nat y hy]
  exact u64_wrap _ (Nat.and_lt_two_pow (n := 64) _ hy)
theorem u64_andNot (f g : Nat → Bool) (i : Nat) : IntKind.u64.wrap (BitVec.ofInt IntKind.u64.bits (wd f i : Int) &&& ~~~ (BitVec.ofInt IntKind.u64.bits (wd g i : Int))).toNat = ((wd (fun n => f n && !g n) i : Nat) : Int) := by
  have e : (BitVec.ofInt IntKind.u64.bits (wd f i : Int) &&& ~~~ (BitVec.ofInt IntKind.u64.bits (wd g i : Int))).toNat = wd (fun n => f n && !g n) i := by
    rw [BitVec.toNat_and, BitVec.toNat_not, u64_nat _ (wd_lt f i), u64_nat _ (wd_lt g i)]
    apply Nat.eq_of_testBit_eq; intro j
    rw [Nat.testBit_and, show (2 : Nat) ^ IntKind.u64.bits - 1 - wd g i = 2 ^ 64 - (wd g i + 1) by show 2 ^ 64 - 1 - wd g i = _; omega, Nat.testBit_two_pow_sub_succ (wd_lt g i), wd_bit, wd_bit, wd_bit]
    cases decide (j < 64) <;> simp
  rw [e]
  exact u64_wrap _ (wd_lt _ _)
theorem u64_pred (x : Nat) (h0 : x ≠ 0) (h : x < 18446744073709551616) : IntKind.u64.wrap ((x : Int) - 1) = ((x - 1 : Nat) : Int) := by rw [IntKind.wrap_u64]; omega
def okB (l : List Int) (i : Nat) : Bool := match l[i]? with
  | none => true
  | some n => decide (0 ≤ n) && decide (n < 256) && (i == 0 || match l[i - 1]? with
    | some m => decide (m < n)
    | none => true)
def sok (l : List Int) : Bool := (List.range l.length).all (okB l)
theorem sok_false {l : List Int} {k : Nat} (hk : k < l.length) (h : okB l k = false) : sok l = false := by
  cases hs : sok l with
  | false => rfl
  | true =>
    have := List.all_eq_true.1 hs k (by simpa using hk)
    rw [h] at this; cases this
theorem sok_true {l : List Int} (h : ∀ k, k < l.length → okB l k = true) : sok l = true := List.all_eq_true.2 fun k hk => h k (by simpa using hk)
theorem sok_get {l : List Int} (h : sok l = true) {k : Nat} (hk : k < l.length) : okB l k = true := List.all_eq_true.1 h k (by simpa using hk)
theorem okB_get {l : List Int} {k : Nat} {n : Int} (hn : l[k]? = some n) : okB l k = (decide (0 ≤ n) && decide (n < 256) && (k == 0 || match l[k - 1]? with
    | some m => decide (m < n)
    | none => true)) := by rw [okB, hn]
theorem okB_range {l : List Int} {k : Nat} {n : Int} (hn : l[k]? = some n) (h : okB l k = true) : 0 ≤ n ∧ n < 256 := by
  rw [okB_get hn] at h
  simp only [Bool.and_eq_true, decide_eq_true_eq] at h
  exact h.1
def inl (l : List Int) (j : Nat) : Bool := l.any fun n => n == (j : Int)
def okn (l : List Int) : Nat := ((List.range l.length).takeWhile (okB l)).length
theorem takeWhile_range {p : Nat → Bool} {n k : Nat} (hk : k ≤ n) (h : ∀ i, i < k → p i = true) (h2 : k < n → p k = false) : ((List.range n).takeWhile p).length = k := by
  obtain ⟨d, rfl⟩ : ∃ d, n = k + d := ⟨n - k, by omega⟩
  rw [List.range_add, List.takeWhile_append_of_pos (by intro i hi; exact h i (by simpa using hi))]
  cases d with
  | zero => simp
  | succ d =>
    have : (List.map (fun x => k + x) (List.range (d + 1))).takeWhile p = [] := by
      rw [List.range_succ_eq_map, List.map_cons, Nat.add_zero, List.takeWhile_cons_of_neg (by rw [h2 (by omega)]; simp)]
    rw [this]; simp
theorem okn_at {l : List Int} {k : Nat} (hk : k < l.length) (h : ∀ i, i < k → okB l i = true) (h2 : okB l k = false) : okn l = k := takeWhile_range (Nat.le_of_lt hk) h fun _ => h2
theorem okn_all {l : List Int} (h : ∀ i, i < l.length → okB l i = true) : okn l = l.length := takeWhile_range (Nat.le_refl _) h fun h => absurd h (Nat.lt_irrefl _)
def lastN (l : List Int) (k : Nat) : Int := if k = 0 then -1 else (l[k - 1]?).getD 0
theorem okB_last {l : List Int} {k : Nat} {n : Int} (hn : l[k]? = some n) (h : ∀ i, i < k → okB l i = true) : okB l k = !(decide (n ≤ lastN l k) || decide (256 ≤ n)) := by
  rw [okB_get hn, lastN]
  cases k with
  | zero => simp; rw [Bool.eq_iff_iff]; simp; omega
  | succ k =>
    have hk : k < l.length := by have := (List.getElem?_eq_some_iff.1 hn).1; omega
    have hm : l[k]? = some l[k] := List.getElem?_eq_getElem hk
    have := okB_range hm (h k (by omega))
    simp only [Nat.add_sub_cancel, hm, Option.getD_some]
    rw [Bool.eq_iff_iff]
    simp
    omega
def fpre (l : List Int) (k : Nat) : Nat → Bool := inl (l.take k)
theorem fpre_step {l : List Int} {k : Nat} {n : Nat} (hn : l[k]? = some (n : Int)) : fpre l (k + 1) = fun m => fpre l k m || m == n := by
  funext m
  rw [fpre, fpre, take_snoc_get hn, inl, inl, List.any_append]
  congr 1
  rw [List.any_cons, List.any_nil, Bool.or_false, Bool.eq_iff_iff]
  simp
  omega
theorem fpre_zero (l : List Int) : fpre l 0 = fun _ => false := rfl
theorem fpre_all (l : List Int) : fpre l l.length = inl l := by rw [fpre, List.take_length]
def eWn (w : Nat → Nat) : List AV := (List.range 4).map fun j => .int .u64 ((w j : Nat) : Int)
theorem eWn_get (w : Nat → Nat) {k : Nat} (h : k < 4) : (eWn w)[k]? = some (.int .u64 ((w k : Nat) : Int)) := by simp [eWn, List.getElem?_map, List.getElem?_range h]
theorem eWn_set (w : Nat → Nat) {k : Nat} (h : k < 4) (x : Nat) : (eWn w).take k ++ [AV.int .u64 (x : Int)] ++ (eWn w).drop (k + 1) = eWn fun j => if j = k then x else w j := by
  match k, h with
  | 0, _ => rfl
  | 1, _ => rfl
  | 2, _ => rfl
  | 3, _ => rfl
theorem eWn_congr {w v : Nat → Nat} (h : ∀ j, j < 4 → w j = v j) : eWn w = eWn v := List.map_congr_left fun j hj => by rw [h j (by simpa using hj)]
end Go.Av

namespace Go.Av
theorem sorted_ext : ∀ {a b : List Int}, a.Pairwise (· < ·) → b.Pairwise (· < ·) → (∀ x, x ∈ a ↔ x ∈ b) → a = b
  | [], [], _, _, _ => rfl
  | [], y :: b, _, _, h => absurd ((h y).2 List.mem_cons_self) (by simp)
  | x :: a, [], _, _, h => absurd ((h x).1 List.mem_cons_self) (by simp)
  | x :: a, y :: b, ha, hb, h => by
    rw [List.pairwise_cons] at ha hb
    have e : x = y := by
      rcases List.mem_cons.1 ((h x).1 List.mem_cons_self) with e | e
      · exact e
      · rcases List.mem_cons.1 ((h y).2 List.mem_cons_self) with e' | e'
        · exact e'.symm
        · have := hb.1 x e; have := ha.1 y e'; omega
    subst e
    congr 1
    refine sorted_ext ha.2 hb.2 fun z => ⟨fun hz => ?_, fun hz => ?_⟩
    · rcases List.mem_cons.1 ((h z).1 (List.mem_cons_of_mem _ hz)) with e | e
      · have := ha.1 z hz; omega
      · exact e
    · rcases List.mem_cons.1 ((h z).2 (List.mem_cons_of_mem _ hz)) with e | e
      · have := hb.1 z hz; omega
      · exact e
theorem sok_get_range {l : List Int} (h : sok l = true) {k : Nat} (hk : k < l.length) : 0 ≤ l[k] ∧ l[k] < 256 := okB_range (List.getElem?_eq_getElem hk) (sok_get h hk)
theorem sok_step {l : List Int} (h : sok l = true) {k : Nat} (hk : k + 1 < l.length) : l[k] < l[k + 1] := by
  have h1 := sok_get h hk
  rw [okB_get (List.getElem?_eq_getElem hk)] at h1
  simp only [Nat.add_sub_cancel, List.getElem?_eq_getElem (Nat.lt_of_succ_lt hk), Bool.and_eq_true, Bool.or_eq_true, decide_eq_true_eq, beq_iff_eq] at h1
  omega
theorem sok_sorted {l : List Int} (h : sok l = true) : l.Pairwise (· < ·) := by
  rw [List.pairwise_iff_getElem]
  intro i j hi hj hij
  obtain ⟨d, rfl⟩ : ∃ d, j = i + 1 + d := ⟨j - i - 1, by omega⟩
  induction d with
  | zero => exact sok_step h hj
  | succ d ih =>
    have h1 := ih (by omega) (by omega)
    have h2 := sok_step h (k := i + 1 + d) (by omega)
    exact Int.lt_trans h1 h2
theorem sok_of_sorted {l : List Int} (h : l.Pairwise (· < ·)) (hr : ∀ x ∈ l, 0 ≤ x ∧ x < 256) : sok l = true := by
  refine sok_true fun k hk => ?_
  rw [okB_get (List.getElem?_eq_getElem hk)]
  have h1 := hr l[k] (List.getElem_mem hk)
  simp only [Bool.and_eq_true, Bool.or_eq_true, decide_eq_true_eq, beq_iff_eq]
  refine ⟨h1, ?_⟩
  cases k with
  | zero => exact .inl rfl
  | succ k =>
    refine .inr ?_
    rw [Nat.add_sub_cancel, List.getElem?_eq_getElem (by omega)]
    exact decide_eq_true (List.pairwise_iff_getElem.1 h k (k + 1) (by omega) hk (by omega))
theorem mem_setl {f : Nat → Bool} {x : Int} : x ∈ setl f ↔ ∃ n : Nat, x = n ∧ n < 256 ∧ f n = true := by
  unfold setl
  simp only [List.mem_map, List.mem_filter, List.mem_range]
  constructor
  · rintro ⟨n, ⟨h1, h2⟩, rfl⟩; exact ⟨n, rfl, h1, h2⟩
  · rintro ⟨n, rfl, h1, h2⟩; exact ⟨n, ⟨h1, h2⟩, rfl⟩
theorem setl_sorted (f : Nat → Bool) : (setl f).Pairwise (· < ·) := by
  unfold setl
  rw [List.pairwise_map]
  exact (List.pairwise_lt_range.filter _).imp (by intro a b h; omega)
theorem sok_setl (f : Nat → Bool) : sok (setl f) = true := sok_of_sorted (setl_sorted f) fun x hx => by
  obtain ⟨n, rfl, h, _⟩ := mem_setl.1 hx
  omega
theorem inl_mem {l : List Int} {n : Nat} : inl l n = true ↔ (n : Int) ∈ l := by
  unfold inl
  rw [List.any_eq_true]
  constructor
  · rintro ⟨x, hx, h⟩; obtain rfl : x = n := by simpa using h
    exact hx
  · intro h; exact ⟨_, h, by simp⟩
theorem inl_setl (f : Nat → Bool) (n : Nat) : inl (setl f) n = (decide (n < 256) && f n) := by
  rw [Bool.eq_iff_iff, inl_mem, mem_setl]
  simp only [Bool.and_eq_true, decide_eq_true_eq]
  constructor
  · rintro ⟨m, h, h1, h2⟩; obtain rfl : n = m := by omega
    exact ⟨h1, h2⟩
  · rintro ⟨h1, h2⟩; exact ⟨n, rfl, h1, h2⟩
theorem inl_256 {l : List Int} (h : sok l = true) {n : Nat} (hn : inl l n = true) : n < 256 := by
  obtain ⟨k, hk, e⟩ := List.getElem_of_mem (inl_mem.1 hn)
  have := sok_get_range h hk
  omega
theorem sok_mem {l : List Int} (h : sok l = true) {x : Int} (hx : x ∈ l) : 0 ≤ x ∧ x < 256 := by
  obtain ⟨k, hk, rfl⟩ := List.getElem_of_mem hx
  exact sok_get_range h hk
theorem sok_ext {a b : List Int} (ha : sok a = true) (hb : sok b = true) (h : ∀ n, inl a n = inl b n) : a = b := by
  refine sorted_ext (sok_sorted ha) (sok_sorted hb) fun x => ?_
  constructor
  · intro hx
    have := sok_mem ha hx
    have h1 : inl a x.toNat = true := inl_mem.2 (by rw [Int.toNat_of_nonneg this.1]; exact hx)
    rw [h] at h1
    have := inl_mem.1 h1
    rwa [Int.toNat_of_nonneg (by omega)] at this
  · intro hx
    have := sok_mem hb hx
    have h1 : inl b x.toNat = true := inl_mem.2 (by rw [Int.toNat_of_nonneg this.1]; exact hx)
    rw [← h] at h1
    have := inl_mem.1 h1
    rwa [Int.toNat_of_nonneg (by omega)] at this
theorem setl_nil {f : Nat → Bool} : setl f = [] ↔ ∀ n, n < 256 → f n = false := by
  constructor
  · intro h n hn
    cases hf : f n with
    | false => rfl
    | true =>
      have : (n : Int) ∈ setl f := mem_setl.2 ⟨n, rfl, hn, hf⟩
      rw [h] at this; cases this
  · intro h
    refine List.eq_nil_iff_forall_not_mem.2 fun x hx => ?_
    obtain ⟨n, rfl, h1, h2⟩ := mem_setl.1 hx
    rw [h n h1] at h2; cases h2
theorem sok_nil : sok [] = true := by decide
theorem inl_nil (n : Nat) : inl [] n = false := rfl
end Go.Av

namespace Go.Av
set_option linter.unusedVariables false
def allI (p : Nat → Bool) (n : Nat) : Bool := (List.range n).all p
theorem allI_true {p : Nat → Bool} {n : Nat} (h : ∀ i, i < n → p i = true) : allI p n = true := List.all_eq_true.2 fun k hk => h k (by simpa using hk)
theorem allI_get {p : Nat → Bool} {n k : Nat} (h : allI p n = true) (hk : k < n) : p k = true := List.all_eq_true.1 h k (by simpa using hk)
theorem allI_false {p : Nat → Bool} {n k : Nat} (hk : k < n) (h : p k = false) : allI p n = false := by
  cases e : allI p n with
  | false => rfl
  | true => rw [allI_get e hk] at h; cases h
def idx (p : Nat → Bool) (n : Nat) : List Int := ((List.range n).filter p).map fun j : Nat => (j : Int)
theorem idx_succ (p : Nat → Bool) (n : Nat) : idx p (n + 1) = idx p n ++ if p n then [(n : Int)] else [] := by
  rw [idx, List.range_succ, List.filter_append, List.map_append, idx]
  congr 1
  cases h : p n <;> simp [h]
theorem idx_len (p : Nat → Bool) (n : Nat) : (idx p n).length ≤ n := by
  rw [idx, List.length_map]
  exact Nat.le_trans (List.length_filter_le _ _) (by simp)
theorem idx_mem {p : Nat → Bool} {n : Nat} {x : Int} : x ∈ idx p n ↔ ∃ k : Nat, x = k ∧ k < n ∧ p k = true := by
  simp only [idx, List.mem_map, List.mem_filter, List.mem_range]
  constructor
  · rintro ⟨k, ⟨h1, h2⟩, rfl⟩; exact ⟨k, rfl, h1, h2⟩
  · rintro ⟨k, rfl, h1, h2⟩; exact ⟨k, ⟨h1, h2⟩, rfl⟩
theorem idx_sorted (p : Nat → Bool) (n : Nat) : (idx p n).Pairwise (· < ·) := by
  unfold idx
  rw [List.pairwise_map]
  exact (List.pairwise_lt_range.filter _).imp fun h => by omega
theorem idx_sok (p : Nat → Bool) {n : Nat} (h : n ≤ 256) : sok (idx p n) = true := sok_of_sorted (idx_sorted p n) fun x hx => by
  obtain ⟨k, rfl, h1, _⟩ := idx_mem.1 hx
  omega
structure Thing where
  kind : Int
  up : Int
  tag : ByteArray
  deriving DecidableEq
abbrev eThing (t : Thing) : List AV := [.int .i64 t.kind, .int .i64 t.up, .str t.tag]
def thing0 : Thing := ⟨0, -1, ⟨#[]⟩⟩
def gpart (kind up : Int) : Bool := (decide (kind = 1) && decide (up = 0)) || (decide (kind = 2) && (decide (up = 0) || decide (up = 1))) || ((decide (kind = 3) || decide (kind = 4)) && decide (up = 2))
def kindAt (g : List Thing) (n : Nat) : Int := match g[n]? with
  | some t => t.kind
  | none => 0
def upAt (g : List Thing) (n : Nat) : Int := match g[n]? with
  | some t => t.up
  | none => -1
end Go.Av

namespace Go.Av
set_option linter.unusedVariables false
def inLet (c : Int) : Bool := (decide (97 ≤ c) && decide (c ≤ 122)) || (decide (48 ≤ c) && decide (c ≤ 57))
def tagb (b : UInt8) : Bool := inLet (b.toNat : Int)
def tagok (s : ByteArray) : Bool := decide ((s.size : Int) ≤ 16) && s.data.toList.all tagb
def near (t : Int) : Int := max 0 (min t 4611686018427387904)
def plus (t l : Int) : Int := near t + min (near l) (4611686018427387904 - near t)
theorem near_in (t : Int) : 0 ≤ near t ∧ near t ≤ 4611686018427387904 := by unfold near; omega
structure Spec where
  nodes : Int
  cores : Int
  gpus : Int
  tag : ByteArray
  whole : Bool
  long : Int
  prio : Int
  deriving DecidableEq
abbrev eSpec (s : Spec) : List AV := [.int .i64 s.nodes, .int .i64 s.cores, .int .i64 s.gpus, .str s.tag, .bool s.whole, .int .i64 s.long, .int .i64 s.prio]
def spec0 : Spec := ⟨0, 0, 0, ⟨#[]⟩, false, 0, 0⟩
def smany (s : Spec) : Bool := (decide (1 ≤ s.nodes) && decide (s.nodes ≤ 64)) && (decide (0 ≤ s.cores) && decide (s.cores ≤ 64)) && (decide (0 ≤ s.gpus) && decide (s.gpus ≤ 64))
def ssome (s : Spec) : Bool := s.whole || decide (0 < s.cores) || decide (0 < s.gpus)
def sright (s : Spec) : Bool := smany s && ssome s && tagok s.tag && (decide (1 ≤ s.long) && decide (s.long ≤ 1099511627776)) && (decide (-1000 ≤ s.prio) && decide (s.prio ≤ 1000))
theorem sright_facts {s : Spec} (h : sright s = true) : 1 ≤ s.nodes ∧ s.nodes ≤ 64 ∧ 0 ≤ s.cores ∧ s.cores ≤ 64 ∧ 0 ≤ s.gpus ∧ s.gpus ≤ 64 ∧ 1 ≤ s.long ∧ s.long ≤ 1099511627776 ∧ -1000 ≤ s.prio ∧ s.prio ≤ 1000 := by
  simp only [sright, smany, Bool.and_eq_true, decide_eq_true_eq] at h
  omega
def sEnds (s : Spec) (t : Int) : Int := plus t (if sright s then s.long else 0)
structure Job where
  id : Int
  spec : Spec
  needs : List Int
  state : Int
  came : Int
  frm : Int
  to : Int
  deriving DecidableEq
def tm (t : Int) : Bool := decide (0 ≤ t) && decide (t ≤ 4611686018427387904)
def ndB (id : Int) (l : List Int) (i : Nat) : Bool := match l[i]? with
  | none => true
  | some n => decide (1 ≤ n) && decide (n < id) && (i == 0 || match l[i - 1]? with
    | some m => decide (m < n)
    | none => true)
def ndall (id : Int) (l : List Int) : Bool := (List.range l.length).all (ndB id l)
def jneeds (j : Job) : Bool := decide (j.needs.length ≤ 16) && ndall j.id j.needs
theorem nd_false {id : Int} {l : List Int} {k : Nat} (hk : k < l.length) (h : ndB id l k = false) : ndall id l = false := by
  cases hs : ndall id l with
  | false => rfl
  | true =>
    have := List.all_eq_true.1 hs k (by simpa using hk)
    rw [h] at this; cases this
theorem nd_true {id : Int} {l : List Int} (h : ∀ k, k < l.length → ndB id l k = true) : ndall id l = true := List.all_eq_true.2 fun k hk => h k (by simpa using hk)
theorem ndB_get {id : Int} {l : List Int} {k : Nat} {n : Int} (hn : l[k]? = some n) : ndB id l k = (decide (1 ≤ n) && decide (n < id) && (k == 0 || match l[k - 1]? with
    | some m => decide (m < n)
    | none => true)) := by rw [ndB, hn]
def jbegun (j : Job) : Bool := tm j.frm && decide (j.came ≤ j.frm)
def jended (j : Job) : Bool := tm j.to && decide (max j.came j.frm ≤ j.to)
def jtimes (j : Job) : Bool :=
  if j.state = 0 ∨ j.state = 1 then j.frm == 0 && j.to == 0
  else if j.state = 2 then jbegun j && j.to == 0
  else if j.state = 3 ∨ j.state = 4 then jbegun j && jended j
  else if j.state = 5 then (jbegun j || j.frm == 0) && jended j
  else j.state == 6 && j.frm == 0 && jended j
def jright (j : Job) : Bool := decide (1 ≤ j.id) && decide (j.id ≤ 1073741824) && sright j.spec && jneeds j && tm j.came && jtimes j
theorem jtimes_ref {j : Job} (h : tm j.came = true) : jtimes j = (decide (0 ≤ j.state) && decide (j.state ≤ 6) && tm j.frm && tm j.to && (if j.state = 0 ∨ j.state = 1 ∨ j.state = 6 then decide (j.frm = 0) else decide (j.came ≤ j.frm) || (decide (j.state = 5) && decide (j.frm = 0))) && (if j.state < 3 then decide (j.to = 0) else decide (j.came ≤ j.to) && decide (j.frm ≤ j.to))) := by
  rw [Bool.eq_iff_iff]
  unfold jtimes jbegun jended tm at *
  simp only [Bool.and_eq_true, decide_eq_true_eq] at h
  repeat' split
  all_goals simp only [Bool.and_eq_true, Bool.or_eq_true, decide_eq_true_eq, beq_iff_eq]
  all_goals omega
def jnext (s w : Int) : Option Int :=
  if s = 0 ∧ w = 1 then some 1 else if s = 1 ∧ w = 2 then some 0 else if s = 0 ∧ w = 3 then some 2 else if s = 2 ∧ w = 4 then some 3 else if s = 2 ∧ w = 5 then some 4 else if s ≤ 2 ∧ w = 6 then some 5 else if s < 2 ∧ w = 7 then some 6 else none
def nx (s w : Int) : Int × Bool := match jnext s w with
  | some t => (t, true)
  | none => (s, false)
def jover (s : Int) : Bool := decide (3 ≤ s) && decide (s ≤ 6)
def jstep (j : Job) (s now : Int) : Job := ⟨j.id, j.spec, j.needs, s, j.came, if s = 2 then now else j.frm, if jover s then now else j.to⟩
def jbad (j : Job) (w now : Int) : Bool := !jright j || decide (w < 1) || decide (7 < w) || !tm now || decide (now < max j.came j.frm)
def jdo (j : Job) (w now : Int) : Job × Int := if jbad j w now then (j, 1) else match jnext j.state w with
  | none => (j, 8)
  | some s => (jstep j s now, 0)
theorem jright_state {j : Job} (h : jright j = true) : 0 ≤ j.state ∧ j.state ≤ 6 := by
  have h5 : tm j.came = true := by simp only [jright, Bool.and_eq_true] at h; exact h.1.2
  have ht : jtimes j = true := by simp only [jright, Bool.and_eq_true] at h; exact h.2
  rw [jtimes_ref h5] at ht
  simp only [Bool.and_eq_true, decide_eq_true_eq] at ht
  omega
theorem setN_len (f : Nat → Bool) (n : Nat) : (setN f n).length ≤ 64 * n := by
  rw [setN, List.length_map]
  exact Nat.le_trans (List.length_filter_le _ _) (by simp)
theorem setl_len (f : Nat → Bool) : (setl f).length ≤ 256 := setN_len f 4
def setop (op : Bool → Bool → Bool) (a b : List Int) : List Int := if sok a && sok b then setl (fun n => op (inl a n) (inl b n)) else []
theorem setop_len (op : Bool → Bool → Bool) (a b : List Int) : (setop op a b).length ≤ 256 := by
  unfold setop
  split
  · exact setl_len _
  · exact Nat.zero_le _
def spart (a b : List Int) : Bool := sok a && sok b && decide (setl (fun n => inl a n && !inl b n) = [])
def sapart (a b : List Int) : Bool := sok a && sok b && decide (setl (fun n => inl a n && inl b n) = [])
end Go.Av

namespace Go.Av
set_option linter.unusedVariables false
theorem inl_setop {op : Bool → Bool → Bool} {a b : List Int} (ha : sok a = true) (hb : sok b = true) (hop : op false false = false) (n : Nat) : inl (setop op a b) n = op (inl a n) (inl b n) := by
  rw [setop, ha, hb, Bool.and_self, if_pos rfl, inl_setl]
  by_cases hn : n < 256
  · simp [hn]
  · have h1 : inl a n = false := by
      cases h : inl a n with
      | false => rfl
      | true => exact absurd (inl_256 ha h) hn
    have h2 : inl b n = false := by
      cases h : inl b n with
      | false => rfl
      | true => exact absurd (inl_256 hb h) hn
    rw [h1, h2, hop]; simp
theorem sok_setop (op : Bool → Bool → Bool) (a b : List Int) : sok (setop op a b) = true := by
  unfold setop
  split
  · exact sok_setl _
  · exact sok_nil
theorem spart_iff {a b : List Int} : spart a b = true ↔ sok a = true ∧ sok b = true ∧ ∀ n, inl a n = true → inl b n = true := by
  unfold spart
  rw [Bool.and_eq_true, Bool.and_eq_true, decide_eq_true_eq, setl_nil]
  constructor
  · rintro ⟨⟨h1, h2⟩, h3⟩
    refine ⟨h1, h2, fun n hn => ?_⟩
    have := h3 n (inl_256 h1 hn)
    simpa [hn] using this
  · rintro ⟨h1, h2, h3⟩
    refine ⟨⟨h1, h2⟩, fun n _ => ?_⟩
    cases ha : inl a n with
    | false => rfl
    | true => simp [h3 n ha]
abbrev sjoin (a b : List Int) : List Int := setop (· || ·) a b
abbrev smeet (a b : List Int) : List Int := setop (· && ·) a b
abbrev sless (a b : List Int) : List Int := setop (fun x y => x && !y) a b
section
variable {a b c : List Int}
theorem in_join (ha : sok a = true) (hb : sok b = true) (n : Nat) : inl (sjoin a b) n = (inl a n || inl b n) := inl_setop ha hb rfl n
theorem in_meet (ha : sok a = true) (hb : sok b = true) (n : Nat) : inl (smeet a b) n = (inl a n && inl b n) := inl_setop ha hb rfl n
theorem in_less (ha : sok a = true) (hb : sok b = true) (n : Nat) : inl (sless a b) n = (inl a n && !inl b n) := inl_setop ha hb rfl n
theorem sapart_iff {a b : List Int} : sapart a b = true ↔ sok a = true ∧ sok b = true ∧ ∀ n, (inl a n && inl b n) = false := by
  unfold sapart
  rw [Bool.and_eq_true, Bool.and_eq_true, decide_eq_true_eq, setl_nil]
  constructor
  · rintro ⟨⟨h1, h2⟩, h3⟩
    refine ⟨h1, h2, fun n => ?_⟩
    by_cases hn : n < 256
    · exact h3 n hn
    · cases h : inl a n with
      | false => rfl
      | true => exact absurd (inl_256 h1 h) hn
  · rintro ⟨h1, h2, h3⟩
    exact ⟨⟨h1, h2⟩, fun n _ => h3 n⟩
theorem part_meet (ha : sok a = true) (hb : sok b = true) : spart (smeet a b) b = true := spart_iff.2 ⟨sok_setop _ _ _, hb, fun n h => by
  rw [in_meet ha hb, Bool.and_eq_true] at h; exact h.2⟩
end
end Go.Av

namespace Go.Av
set_option linter.unusedVariables false
def gokB (g : List Thing) (i : Nat) : Bool := match g[i + 1]? with
  | some t => decide (0 ≤ t.up) && decide (t.up ≤ (i : Int)) && gpart t.kind (kindAt g t.up.toNat) && tagok t.tag && (decide (t.tag = ⟨#[]⟩) || decide (t.kind = 2))
  | none => true
def gright (g : List Thing) : Bool := decide (1 ≤ g.length) && decide (g.length ≤ 256) && decide (g[0]? = some thing0) && allI (gokB g) (g.length - 1)
def uinL (g : List Thing) (n : Int) : Nat → List Bool
  | 0 => []
  | k + 1 => uinL g n k ++ [decide ((k : Int) = n) || (decide (0 ≤ upAt g k) && (uinL g n k).getD (upAt g k).toNat false)]
def gthere (g : List Thing) (n : Int) : Bool := decide (0 ≤ n) && decide (n < (g.length : Int)) && gright g
def gunder (g : List Thing) (n : Int) : List Int := if gthere g n then idx (fun k => (uinL g n g.length).getD k false) g.length else []
def hright (g : List Thing) (h : List Int) : Bool := gright g && decide (h.length = g.length) && !(h.any fun n => decide (n < 0) || decide (2 < n))
def worstL (g : List Thing) (h : List Int) : Nat → List Int
  | 0 => []
  | k + 1 => worstL g h k ++ [if 0 ≤ upAt g k then max (h.getD k 0) ((worstL g h k).getD (upAt g k).toNat 0) else h.getD k 0]
def hbelow (g : List Thing) (h : List Int) (most : Int) : List Int := if hright g h then idx (fun k => decide ((worstL g h g.length).getD k 0 ≤ most)) g.length else []
structure Held where
  id : Int
  things : List Int
  frm : Int
  to : Int
  deriving DecidableEq
def held0 : Held := ⟨0, [], 0, 0⟩
def meets (a b c d : Int) : Bool := decide (max a c < min b d)
def hmay (h : Held) : Bool := decide (0 < h.things.length) && sok h.things && tm h.frm && tm h.to && decide (h.frm < h.to)
def clash (a b : Held) : Bool := meets a.frm a.to b.frm b.to && !sapart a.things b.things
def heldId (l : List Held) (i : Nat) : Int := match l[i]? with
  | some h => h.id
  | none => 0
def heldB (l : List Held) (i : Nat) : Bool := match l[i]? with
  | some h => hmay h && !(decide (0 < i) && decide (h.id ≤ heldId l (i - 1))) && !((l.take i).any fun x => clash x h)
  | none => true
def heldR (l : List Held) : Bool := decide (l.length ≤ 256) && allI (heldB l) l.length
def heldPos (l : List Held) (id : Int) : Nat := (l.takeWhile fun h => decide (h.id < id)).length
def heldHit (l : List Held) (id : Int) : Bool := decide (heldPos l id < l.length) && decide (heldId l (heldPos l id) = id)
def heldAt (l : List Held) (k : Nat) : Held := l.getD k held0
def heldAdd (l : List Held) (h : Held) : List Held × Int :=
  if !(heldR l && hmay h) then (l, 1) else if heldHit l h.id then (l, 7) else if decide (l.length = 256) || l.any (fun x => clash x h) then (l, 5)
  else (l.take (heldPos l h.id) ++ h :: l.drop (heldPos l h.id), 0)
def heldDrop (l : List Held) (id : Int) : List Held × Held × Int :=
  if !heldR l then (l, held0, 1) else if !heldHit l id then (l, held0, 6) else (l.eraseIdx (heldPos l id), heldAt l (heldPos l id), 0)
def heldGet (l : List Held) (id : Int) : Held × Bool := if heldR l && heldHit l id then (heldAt l (heldPos l id), true) else (held0, false)
def busyL (l : List Held) (frm to : Int) : List Int := l.foldl (fun out h => if meets h.frm h.to frm to then sjoin out h.things else out) []
def heldBusy (l : List Held) (frm to : Int) : List Int := if heldR l then busyL l frm to else []
def heldOver (l : List Held) (now : Int) : List Held × List Held := if heldR l then (l.filter (fun h => !decide (h.to ≤ now)), l.filter (fun h => decide (h.to ≤ now))) else (l, [])
def job0 : Job := ⟨0, spec0, [], 0, 0, 0, 0⟩
def jobAt (l : List Job) (k : Nat) : Job := l.getD k job0
def jobId (l : List Job) (i : Nat) : Int := (jobAt l i).id
def jobPos (l : List Job) (id : Int) : Nat := (l.takeWhile fun j => decide (j.id < id)).length
def jobHit (l : List Job) (id : Int) : Bool := decide (jobPos l id < l.length) && decide (jobId l (jobPos l id) = id)
def jobB (l : List Job) (i : Nat) : Bool := match l[i]? with
  | some j => jright j && !(decide (0 < i) && (decide (j.id ≤ jobId l (i - 1)) || decide (j.came < (jobAt l (i - 1)).came))) && j.needs.all fun n => jobHit (l.take i) n
  | none => true
def jobsR (l : List Job) : Bool := decide (l.length ≤ 64) && allI (jobB l) l.length
def rising (l : List Int) : Bool := allI (fun i => decide ((if i = 0 then 0 else l.getD (i - 1) 0) < l.getD i 0)) l.length && decide (l.length ≤ 16)
def jobLast (l : List Job) : Job := if l.length = 0 then job0 else jobAt l (l.length - 1)
def jobsAdd (l : List Job) (s : Spec) (needs : List Int) (now : Int) : List Job × Int × Int :=
  if !(jobsR l && sright s && rising needs && tm now) || decide (now < (jobLast l).came) then (l, 0, 1)
  else if !(needs.all fun n => jobHit l n) then (l, 0, 6)
  else if l.length = 64 then (l, 0, 5) else if (jobLast l).id = 1073741824 then (l, 0, 9)
  else (l ++ [⟨(jobLast l).id + 1, s, needs, 0, now, 0, 0⟩], (jobLast l).id + 1, 0)
def jobsDo (l : List Job) (id what now : Int) : List Job × Int :=
  if !jobsR l then (l, 1) else if !jobHit l id then (l, 6) else (l.set (jobPos l id) (jdo (jobAt l (jobPos l id)) what now).1, (jdo (jobAt l (jobPos l id)) what now).2)
def jobsGet (l : List Job) (id : Int) : Job × Bool := if jobsR l && jobHit l id then (jobAt l (jobPos l id), true) else (job0, false)
def jobsReady (l : List Job) : List Job := l.filter fun j => decide (j.state = 0) && j.needs.all fun n => decide ((jobAt l (jobPos l n)).state = 3)
def byPrio : List Job → List Job
  | [] => []
  | j :: l => insP j (byPrio l)
where insP (j : Job) : List Job → List Job
  | [] => [j]
  | x :: l => if x.spec.prio ≤ j.spec.prio then j :: x :: l else x :: insP j l
def jobsReadyIds (l : List Job) : List Int := if jobsR l then (byPrio (jobsReady l)).map (·.id) else []
def lostL (l : List Job) : Nat → List Bool
  | 0 => []
  | k + 1 => lostL l k ++ [decide ((jobAt l k).state ≤ 1) && (jobAt l k).needs.any fun n => (lostL l k).getD (jobPos l n) false || (jover (jobAt l (jobPos l n)).state && decide ((jobAt l (jobPos l n)).state ≠ 3))]
def jobsLost (l : List Job) : List Int := if jobsR l then (l.zipIdx.filter fun p => (lostL l l.length).getD p.2 false).map (·.1.id) else []
def mkids (g : List Thing) (node : Nat) : List Int := idx (fun i => decide (2 < kindAt g i) && decide (upAt g i = (node : Int))) g.length
def mkind (g : List Thing) (free : List Int) (node : Nat) (kind most : Int) : List Int := ((mkids g node).filter fun n => inl free n.toNat && decide (kindAt g n.toNat = kind)).take most.toNat
def tagAt (g : List Thing) (n : Nat) : ByteArray := match g[n]? with
  | some t => t.tag
  | none => ⟨#[]⟩
def mhere (g : List Thing) (free : List Int) (s : Spec) (node : Nat) : List Int × Bool :=
  if !(decide (kindAt g node = 2) && inl free node && (decide (s.tag = ⟨#[]⟩) || decide (tagAt g node = s.tag))) then ([], false)
  else if decide (((mkind g free node 3 s.cores).length : Int) < s.cores) || decide (((mkind g free node 4 s.gpus).length : Int) < s.gpus) then ([], false)
  else if !s.whole then (sjoin (mkind g free node 3 s.cores) (mkind g free node 4 s.gpus), true)
  else if (mkids g node).all (fun n => inl free n.toNat) then ((node : Int) :: mkids g node, true) else ([], false)
def mmay (g : List Thing) (free : List Int) (s : Spec) : Bool := gright g && sok free && sright s
def mfindL (g : List Thing) (free : List Int) (s : Spec) : Nat → List Int × Int
  | 0 => ([], s.nodes)
  | k + 1 => if 0 < (mfindL g free s k).2 ∧ (mhere g free s k).2 = true then (sjoin (mfindL g free s k).1 (mhere g free s k).1, (mfindL g free s k).2 - 1) else mfindL g free s k
def mfind (g : List Thing) (free : List Int) (s : Spec) : List Int × Bool :=
  if !mmay g free s then ([], false) else if 0 < (mfindL g free s g.length).2 then ([], false) else ((mfindL g free s g.length).1, true)
def mcould (g : List Thing) (s : Spec) : Bool := (mfind g (gunder g 0) s).2
def insU (t : Int) : List Int → List Int
  | [] => [t]
  | x :: l => if t < x then t :: x :: l else if t = x then x :: l else x :: insU t l
def sortU (l : List Int) : List Int := l.foldr insU []
def heldEnds (l : List Held) (frm : Int) : List Int := if heldR l then sortU ((l.filter fun h => decide (frm < h.to)).map (·.to)) else []
def fitsAt (g : List Thing) (use : List Int) (l : List Held) (s : Spec) (t til : Int) : List Int × Bool :=
  if !tm t || decide (t = 4611686018427387904) || decide (til < sEnds s t) then ([], false) else mfind g (sless use (busyL l t (sEnds s t))) s
def firstOfL (g : List Thing) (use : List Int) (l : List Held) (s : Spec) (til : Int) : List Int → Int × List Int × Bool
  | [] => (0, [], false)
  | t :: ts => if (fitsAt g use l s t til).2 then (t, (fitsAt g use l s t til).1, true) else firstOfL g use l s til ts
def slotFirst (g : List Thing) (use : List Int) (l : List Held) (s : Spec) (frm til : Int) : Int × List Int × Bool :=
  if !heldR l then (0, [], false) else firstOfL g use l s til (frm :: heldEnds l frm)
structure Want where
  id : Int
  spec : Spec
  deriving DecidableEq
def deep (policy depth : Int) : Int := if policy = 2 then 1 else if policy = 3 then depth else 0
structure PickS where
  l : List Held
  begun : List Held
  kept : List Held
def pickL (g : List Thing) (use : List Int) (now til policy depth : Int) : PickS → List Want → List Held × List Held × Int
  | s, [] => (s.begun, s.kept, 0)
  | s, w :: ws =>
    if !(slotFirst g use s.l w.spec now til).2.2 then pickL g use now til policy depth s ws
    else if (slotFirst g use s.l w.spec now til).1 ≠ now ∧ policy = 1 then (s.begun, s.kept, 0)
    else if (slotFirst g use s.l w.spec now til).1 ≠ now ∧ deep policy depth ≤ (s.kept.length : Int) then pickL g use now til policy depth s ws
    else if (heldAdd s.l ⟨w.id, (slotFirst g use s.l w.spec now til).2.1, (slotFirst g use s.l w.spec now til).1, sEnds w.spec (slotFirst g use s.l w.spec now til).1⟩).2 ≠ 0 then
      ([], [], (heldAdd s.l ⟨w.id, (slotFirst g use s.l w.spec now til).2.1, (slotFirst g use s.l w.spec now til).1, sEnds w.spec (slotFirst g use s.l w.spec now til).1⟩).2)
    else if (slotFirst g use s.l w.spec now til).1 = now then pickL g use now til policy depth ⟨(heldAdd s.l ⟨w.id, (slotFirst g use s.l w.spec now til).2.1, (slotFirst g use s.l w.spec now til).1, sEnds w.spec (slotFirst g use s.l w.spec now til).1⟩).1, s.begun ++ [⟨w.id, (slotFirst g use s.l w.spec now til).2.1, (slotFirst g use s.l w.spec now til).1, sEnds w.spec (slotFirst g use s.l w.spec now til).1⟩], s.kept⟩ ws
    else pickL g use now til policy depth ⟨(heldAdd s.l ⟨w.id, (slotFirst g use s.l w.spec now til).2.1, (slotFirst g use s.l w.spec now til).1, sEnds w.spec (slotFirst g use s.l w.spec now til).1⟩).1, s.begun, s.kept ++ [⟨w.id, (slotFirst g use s.l w.spec now til).2.1, (slotFirst g use s.l w.spec now til).1, sEnds w.spec (slotFirst g use s.l w.spec now til).1⟩]⟩ ws
def pickAll (g : List Thing) (use : List Int) (l : List Held) (ws : List Want) (now til policy depth : Int) : List Held × List Held × Int :=
  if decide (policy < 1) || decide (3 < policy) || decide (depth < 0) || decide (64 < depth) || !heldR l then ([], [], 1) else pickL g use now til policy depth ⟨l, [], []⟩ ws
structure Inst where
  graph : List Thing
  health : List Int
  lease : List Int
  til : Int
  jobs : List Job
  table : List Held
  now : Int
  policy : Int
  depth : Int
  deriving DecidableEq
def inst0 : Inst := ⟨[], [], [], 0, [], [], 0, 0, 0⟩
def ipolicy (p d : Int) : Bool := decide (1 ≤ p) && decide (p ≤ 3) && decide (0 ≤ d) && decide (d ≤ 64)
def ithings (g : List Thing) (l : List Int) : Bool := sok l && (decide (l.length = 0) || decide (l.getD (l.length - 1) 0 < (g.length : Int)))
def itoldB (i : Inst) (k : Nat) : Bool := decide ((jobAt i.jobs k).came ≤ i.now) && decide ((jobAt i.jobs k).frm ≤ i.now) && (decide ((jobAt i.jobs k).state ≠ 2) ||
  ((heldGet i.table (jobAt i.jobs k).id).2 && decide ((heldGet i.table (jobAt i.jobs k).id).1.frm = (jobAt i.jobs k).frm) && decide ((heldGet i.table (jobAt i.jobs k).id).1.to = sEnds (jobAt i.jobs k).spec (jobAt i.jobs k).frm) &&
    decide (i.now < (heldGet i.table (jobAt i.jobs k).id).1.to) && ithings i.graph (heldGet i.table (jobAt i.jobs k).id).1.things))
def itold (i : Inst) : Bool := allI (itoldB i) i.jobs.length && decide ((i.jobs.filter fun j => decide (j.state = 2)).length = i.table.length)
def iright (i : Inst) : Bool := hright i.graph i.health && ithings i.graph i.lease && tm i.til && tm i.now && ipolicy i.policy i.depth && jobsR i.jobs && heldR i.table && itold i
def inew (g : List Thing) (p d : Int) : Inst × Int := if !gright g || !ipolicy p d then (inst0, 1) else (⟨g, List.replicate g.length 0, gunder g 0, 4611686018427387904, [], [], 0, p, d⟩, 0)
def wdo (w : Inst) (id what at_ : Int) : Inst × Int :=
  if (jobsDo w.jobs id what at_).2 ≠ 0 then (w, (jobsDo w.jobs id what at_).2)
  else if jover (jobsGet (jobsDo w.jobs id what at_).1 id).1.state then ({ w with jobs := (jobsDo w.jobs id what at_).1, table := (heldDrop w.table id).1 }, 0)
  else ({ w with jobs := (jobsDo w.jobs id what at_).1 }, 0)
def wbroken (w : Inst) : Inst := w.table.foldl (fun a h => if spart h.things (smeet w.lease (hbelow w.graph w.health 1)) then a else (wdo a h.id 5 a.now).1) w
def wrefuse (w : Inst) : Inst := w.jobs.foldl (fun a j => if decide (j.state ≤ 1) && ((jobsLost w.jobs).contains j.id || !mcould a.graph j.spec) then (wdo a j.id 7 a.now).1 else a) w
def iusable (w : Inst) : List Int := smeet w.lease (hbelow w.graph w.health 0)
def wwants (w : Inst) : List Want := (jobsReadyIds w.jobs).map fun id => ⟨id, (jobsGet w.jobs id).1.spec⟩
def wstart (w : Inst) : List Held := (pickAll w.graph (iusable w) w.table (wwants w) w.now w.til w.policy w.depth).1
def wbegin (w : Inst) : Inst := (wstart w).foldl (fun a h => { (wdo a h.id 3 a.now).1 with table := (heldAdd (wdo a h.id 3 a.now).1.table h).1 }) w
def wlook (w : Inst) : Inst := wbegin (wrefuse (wbroken w))
def isubmit (i : Inst) (s : Spec) (needs : List Int) : Inst × Int × Int :=
  if !iright i then (i, 0, 1) else if (jobsAdd i.jobs s needs i.now).2.2 ≠ 0 then (i, 0, (jobsAdd i.jobs s needs i.now).2.2)
  else (wlook { i with jobs := (jobsAdd i.jobs s needs i.now).1 }, (jobsAdd i.jobs s needs i.now).2.1, 0)
def ido (i : Inst) (id what : Int) : Inst × Int :=
  if !iright i || !([1, 2, 4, 6] : List Int).contains what then (i, 1) else if (wdo i id what i.now).2 ≠ 0 then (i, (wdo i id what i.now).2) else (wlook (wdo i id what i.now).1, 0)
def itick (i : Inst) (now : Int) : Inst × Int :=
  if !iright i || !tm now || decide (now < i.now) then (i, 1)
  else (wlook ((heldOver i.table now).2.foldl (fun a h => (wdo a h.id 5 h.to).1) { i with now := now }), 0)
def ilend (i : Inst) (lease : List Int) (til : Int) : Inst × Int := if !iright i || !ithings i.graph lease || !tm til then (i, 1) else (wlook { i with lease := lease, til := til }, 0)
def hset (g : List Thing) (h : List Int) (n how : Int) : List Int × Int := if !hright g h || decide (how < 0) || decide (2 < how) then (h, 1) else if n < 0 ∨ (h.length : Int) ≤ n then (h, 6) else (h.set n.toNat how, 0)
def imark (i : Inst) (n how : Int) : Inst × Int := if !iright i then (i, 1) else if (hset i.graph i.health n how).2 ≠ 0 then (i, (hset i.graph i.health n how).2) else (wlook { i with health := (hset i.graph i.health n how).1 }, 0)
def ifree (i : Inst) : List Int := if !iright i then [] else sless (iusable i) (heldBusy i.table i.now (plus i.now 1))
end Go.Av

namespace Go.Av
set_option linter.unusedVariables false
section
variable {α : Type} {f : α → Int}
def kpos (f : α → Int) (l : List α) (id : Int) : Nat := (l.takeWhile fun x => decide (f x < id)).length
theorem kpos_le (l : List α) (id : Int) : kpos f l id ≤ l.length := (List.takeWhile_sublist _).length_le
theorem kpos_at : ∀ {l : List α} {k : Nat} {x : α}, l.Pairwise (fun a b => f a < f b) → l[k]? = some x → kpos f l (f x) = k
  | [], k, x, _, h => by simp at h
  | y :: l, 0, x, hp, h => by
    simp only [List.getElem?_cons_zero, Option.some.injEq] at h
    subst h
    simp [kpos]
  | y :: l, k + 1, x, hp, h => by
    rw [List.pairwise_cons] at hp
    simp only [List.getElem?_cons_succ] at h
    have h1 := hp.1 x (List.mem_of_getElem? h)
    have ih := kpos_at hp.2 h
    simp only [kpos] at ih ⊢
    simp [h1, ih]
theorem kpos_lt : ∀ {l : List α} {id : Int} {k : Nat} {x : α}, k < kpos f l id → l[k]? = some x → f x < id
  | [], id, k, x, _, h => by simp at h
  | y :: l, id, k, x, hk, h => by
    simp only [kpos, List.takeWhile_cons] at hk
    split at hk
    · rename_i hy
      cases k with
      | zero =>
        simp only [List.getElem?_cons_zero, Option.some.injEq] at h
        subst h; simpa using hy
      | succ k =>
        simp only [List.getElem?_cons_succ] at h
        exact kpos_lt (l := l) (by simp only [kpos]; simp only [List.length_cons] at hk; omega) h
    · simp at hk
theorem kpos_ge : ∀ {l : List α} {id : Int} {k : Nat} {x : α}, l.Pairwise (fun a b => f a < f b) → kpos f l id ≤ k → l[k]? = some x → id ≤ f x
  | [], id, k, x, _, _, h => by simp at h
  | y :: l, id, k, x, hp, hk, h => by
    rw [List.pairwise_cons] at hp
    simp only [kpos, List.takeWhile_cons] at hk
    split at hk
    · cases k with
      | zero => simp at hk
      | succ k =>
        simp only [List.getElem?_cons_succ] at h
        exact kpos_ge (l := l) hp.2 (by simp only [kpos]; simp only [List.length_cons] at hk; omega) h
    · rename_i hy
      have hy : id ≤ f y := by simp at hy; omega
      cases k with
      | zero =>
        simp only [List.getElem?_cons_zero, Option.some.injEq] at h
        subst h; exact hy
      | succ k =>
        simp only [List.getElem?_cons_succ] at h
        have := hp.1 x (List.mem_of_getElem? h)
        omega
theorem key_inj : ∀ {l : List α} {x y : α}, l.Pairwise (fun a b => f a < f b) → x ∈ l → y ∈ l → f x = f y → x = y := by
  intro l x y hp hx hy e
  obtain ⟨i, hi⟩ := List.mem_iff_getElem?.1 hx
  obtain ⟨j, hj⟩ := List.mem_iff_getElem?.1 hy
  have h1 := kpos_at hp hi
  have h2 := kpos_at hp hj
  rw [e, h2] at h1
  subst h1
  rw [hi] at hj
  exact Option.some.inj hj
theorem keys_sorted {l : List α} (h : l.Pairwise (fun a b => f a < f b)) : (l.map f).Pairwise (· < ·) := by
  rw [List.pairwise_map]; exact h
def kput (f : α → Int) (l : List α) (x : α) : List α := l.take (kpos f l (f x)) ++ x :: l.drop (kpos f l (f x))
theorem kput_mem {l : List α} {x y : α} : y ∈ kput f l x ↔ y = x ∨ y ∈ l := by
  unfold kput
  rw [List.mem_append, List.mem_cons]
  constructor
  · rintro (h | h | h)
    · exact .inr (List.mem_of_mem_take h)
    · exact .inl h
    · exact .inr (List.mem_of_mem_drop h)
  · rintro (h | h)
    · exact .inr (.inl h)
    · rw [← List.take_append_drop (kpos f l (f x)) l] at h
      rcases List.mem_append.1 h with h | h
      · exact .inl h
      · exact .inr (.inr h)
theorem kput_sorted {l : List α} {x : α} (hp : l.Pairwise (fun a b => f a < f b)) (hn : ∀ y ∈ l, f y ≠ f x) : (kput f l x).Pairwise (fun a b => f a < f b) := by
  unfold kput
  rw [List.pairwise_append]
  refine ⟨hp.sublist (List.take_sublist _ _), ?_, ?_⟩
  · rw [List.pairwise_cons]
    refine ⟨fun y hy => ?_, hp.sublist (List.drop_sublist _ _)⟩
    obtain ⟨j, hj⟩ := List.mem_iff_getElem?.1 hy
    rw [List.getElem?_drop] at hj
    have h1 := kpos_ge hp (Nat.le_add_right _ _) hj
    have h2 := hn y (List.mem_of_mem_drop hy)
    omega
  · intro a ha b hb
    have h1 : f a < f x := by
      obtain ⟨j, hj⟩ := List.mem_iff_getElem?.1 ha
      rw [List.getElem?_take] at hj
      split at hj
      · exact kpos_lt (by assumption) hj
      · cases hj
    rcases List.mem_cons.1 hb with rfl | hb
    · exact h1
    · obtain ⟨j, hj⟩ := List.mem_iff_getElem?.1 hb
      rw [List.getElem?_drop] at hj
      have := kpos_ge hp (Nat.le_add_right _ _) hj
      omega
theorem erase_mem {l : List α} {k : Nat} {x y : α} (hp : l.Pairwise (fun a b => f a < f b)) (hx : l[k]? = some x) : y ∈ l.eraseIdx k ↔ y ∈ l ∧ f y ≠ f x := by
  rw [List.mem_eraseIdx_iff_getElem?]
  constructor
  · rintro ⟨i, hi, hy⟩
    refine ⟨List.mem_of_getElem? hy, fun e => ?_⟩
    have h1 := kpos_at hp hx
    have h2 := kpos_at hp hy
    rw [e, h1] at h2
    exact hi h2.symm
  · rintro ⟨hy, hne⟩
    obtain ⟨i, hi⟩ := List.mem_iff_getElem?.1 hy
    refine ⟨i, fun e => ?_, hi⟩
    subst e
    rw [hi] at hx
    exact hne (congrArg f (Option.some.inj hx))
end
theorem held_iff {l : List Held} : heldR l = true ↔ l.length ≤ 256 ∧ (∀ h ∈ l, hmay h = true) ∧ l.Pairwise (fun a b => a.id < b.id) ∧ l.Pairwise (fun a b => clash a b = false) := by
  unfold heldR
  rw [Bool.and_eq_true, decide_eq_true_eq]
  constructor
  · rintro ⟨h1, h2⟩
    have hB : ∀ k h, l[k]? = some h → hmay h = true ∧ (0 < k → heldId l (k - 1) < h.id) ∧ ∀ x ∈ l.take k, clash x h = false := by
      intro k h hk
      have := allI_get h2 (List.getElem?_eq_some_iff.1 hk).1
      unfold heldB at this
      rw [hk] at this
      simp only [Bool.and_eq_true, Bool.not_eq_true', Bool.and_eq_false_iff, decide_eq_false_iff_not, List.any_eq_false] at this
      obtain ⟨⟨k1, k2⟩, k3⟩ := this
      refine ⟨k1, fun h0 => ?_, fun x hx => ?_⟩
      · rcases k2 with k2 | k2
        · exact absurd h0 k2
        · omega
      · have := k3 x hx; simpa using this
    refine ⟨h1, fun h hh => ?_, ?_, ?_⟩
    · obtain ⟨k, hk⟩ := List.mem_iff_getElem?.1 hh
      exact (hB k h hk).1
    · have step : ∀ k a b, l[k]? = some a → l[k + 1]? = some b → a.id < b.id := by
        intro k a b ha hb
        have := (hB (k + 1) b hb).2.1 (Nat.succ_pos _)
        rw [Nat.add_sub_cancel, heldId, ha] at this
        exact this
      have mono : ∀ d i a b, l[i]? = some a → l[i + d + 1]? = some b → a.id < b.id := by
        intro d
        induction d with
        | zero => intro i a b ha hb; exact step i a b ha hb
        | succ d ih =>
          intro i a b ha hb
          have hlt := (List.getElem?_eq_some_iff.1 hb).1
          have h3 := ih i a l[i + d + 1] ha (List.getElem?_eq_getElem (by omega))
          have h4 := step (i + d + 1) _ b (List.getElem?_eq_getElem (by omega)) hb
          omega
      rw [List.pairwise_iff_getElem]
      intro i j hi hj hij
      exact mono (j - i - 1) i _ _ (List.getElem?_eq_getElem hi) (by rw [show i + (j - i - 1) + 1 = j by omega]; exact List.getElem?_eq_getElem hj)
    · rw [List.pairwise_iff_getElem]
      intro i j hi hj hij
      exact (hB j _ (List.getElem?_eq_getElem hj)).2.2 _ (List.mem_iff_getElem?.2 ⟨i, by rw [List.getElem?_take, if_pos hij]; exact List.getElem?_eq_getElem hi⟩)
  · rintro ⟨h1, h2, h3, h4⟩
    refine ⟨h1, allI_true fun k hk => ?_⟩
    unfold heldB
    rw [List.getElem?_eq_getElem hk]
    simp only [Bool.and_eq_true, Bool.not_eq_true', Bool.and_eq_false_iff, decide_eq_false_iff_not, List.any_eq_false]
    refine ⟨⟨h2 _ (List.getElem_mem hk), ?_⟩, fun x hx => ?_⟩
    · cases k with
      | zero => exact .inl (Nat.lt_irrefl 0)
      | succ k =>
        right
        rw [Nat.add_sub_cancel, heldId, List.getElem?_eq_getElem (by omega)]
        have := List.pairwise_iff_getElem.1 h3 k (k + 1) (by omega) hk (Nat.lt_succ_self k)
        simp only; omega
    · obtain ⟨i, hi⟩ := List.mem_iff_getElem?.1 hx
      rw [List.getElem?_take] at hi
      split at hi
      · rename_i hik
        obtain ⟨h5, rfl⟩ := List.getElem?_eq_some_iff.1 hi
        have := List.pairwise_iff_getElem.1 h4 i k h5 hk hik
        simp [this]
      · cases hi
theorem heldHit_iff {l : List Held} (hp : l.Pairwise (fun a b => a.id < b.id)) {id : Int} : heldHit l id = true ↔ ∃ h ∈ l, h.id = id := by
  unfold heldHit heldId
  rw [Bool.and_eq_true, decide_eq_true_eq, decide_eq_true_eq]
  constructor
  · rintro ⟨h1, h2⟩
    rw [List.getElem?_eq_getElem h1] at h2
    exact ⟨_, List.getElem_mem h1, h2⟩
  · rintro ⟨h, hh, rfl⟩
    obtain ⟨k, hk⟩ := List.mem_iff_getElem?.1 hh
    have e : heldPos l h.id = k := kpos_at (f := Held.id) hp hk
    rw [e, hk]
    exact ⟨(List.getElem?_eq_some_iff.1 hk).1, rfl⟩
theorem heldAt_eq {l : List Held} (hp : l.Pairwise (fun a b => a.id < b.id)) {h : Held} (hh : h ∈ l) : l[heldPos l h.id]? = some h ∧ heldAt l (heldPos l h.id) = h := by
  obtain ⟨k, hk⟩ := List.mem_iff_getElem?.1 hh
  have e : heldPos l h.id = k := kpos_at (f := Held.id) hp hk
  rw [e]
  exact ⟨hk, by rw [heldAt, List.getD_eq_getElem?_getD, hk]; rfl⟩
theorem heldGet_iff {l : List Held} (hr : heldR l = true) {id : Int} : (heldGet l id).2 = true ↔ ∃ h ∈ l, h.id = id := by
  unfold heldGet
  rw [hr, Bool.true_and]
  have := heldHit_iff (held_iff.1 hr).2.2.1 (id := id)
  cases h : heldHit l id with
  | false => rw [h] at this; simp at this ⊢; exact this
  | true => rw [h] at this; simp at this ⊢; exact this
theorem heldGet_eq {l : List Held} (hr : heldR l = true) {h : Held} (hh : h ∈ l) : heldGet l h.id = (h, true) := by
  have hp := (held_iff.1 hr).2.2.1
  unfold heldGet
  rw [hr, Bool.true_and, (heldHit_iff hp).2 ⟨h, hh, rfl⟩, if_pos rfl, (heldAt_eq hp hh).2]
theorem heldDrop_hit {l : List Held} (hr : heldR l = true) {h : Held} (hh : h ∈ l) : heldR (heldDrop l h.id).1 = true ∧ (∀ y, y ∈ (heldDrop l h.id).1 ↔ y ∈ l ∧ y.id ≠ h.id) ∧ (heldDrop l h.id).2.2 = 0 := by
  obtain ⟨h1, h2, h3, h4⟩ := held_iff.1 hr
  have hk := (heldAt_eq h3 hh).1
  unfold heldDrop
  rw [hr, (heldHit_iff h3).2 ⟨h, hh, rfl⟩]
  simp only [Bool.not_true, Bool.false_eq_true, if_false]
  have hm : ∀ y, y ∈ l.eraseIdx (heldPos l h.id) ↔ y ∈ l ∧ y.id ≠ h.id := fun y => erase_mem (f := Held.id) h3 hk
  refine ⟨held_iff.2 ⟨?_, fun y hy => h2 y ((hm y).1 hy).1, h3.sublist (List.eraseIdx_sublist _ _), h4.sublist (List.eraseIdx_sublist _ _)⟩, hm, trivial⟩
  exact Nat.le_trans (List.eraseIdx_sublist _ _).length_le h1
theorem heldDrop_no {l : List Held} (hr : heldR l = true) {id : Int} (hn : ∀ h ∈ l, h.id ≠ id) : (heldDrop l id).1 = l := by
  have h3 := (held_iff.1 hr).2.2.1
  unfold heldDrop
  rw [hr]
  cases h : heldHit l id with
  | false => simp
  | true =>
    obtain ⟨x, hx, e⟩ := (heldHit_iff h3).1 h
    exact absurd e (hn x hx)
theorem clash_symm (a b : Held) : clash a b = clash b a := by
  unfold clash meets sapart
  rw [show decide (max a.frm b.frm < min a.to b.to) = decide (max b.frm a.frm < min b.to a.to) by rw [decide_eq_decide]; omega]
  rw [show (fun n => inl a.things n && inl b.things n) = (fun n => inl b.things n && inl a.things n) by funext n; rw [Bool.and_comm], Bool.and_comm (sok a.things)]
theorem heldAdd_ok {l : List Held} {h : Held} (hr : heldR l = true) (hm : hmay h = true) (hn : ∀ x ∈ l, x.id ≠ h.id) (hl : l.length < 256) (hc : ∀ x ∈ l, clash x h = false) :
    heldAdd l h = (kput Held.id l h, 0) ∧ heldR (kput Held.id l h) = true := by
  obtain ⟨h1, h2, h3, h4⟩ := held_iff.1 hr
  have hh : heldHit l h.id = false := by
    cases e : heldHit l h.id with
    | false => rfl
    | true => obtain ⟨x, hx, e⟩ := (heldHit_iff h3).1 e; exact absurd e (hn x hx)
  have ha : (l.any fun x => clash x h) = false := by rw [List.any_eq_false]; intro x hx; rw [hc x hx]; simp
  constructor
  · unfold heldAdd
    rw [hr, hm, hh, ha, if_neg (by simp), if_neg (by simp), if_neg (by simp; omega)]
    rfl
  · refine held_iff.2 ⟨?_, fun y hy => ?_, kput_sorted h3 hn, ?_⟩
    · unfold kput; simp only [List.length_append, List.length_take, List.length_cons, List.length_drop]; omega
    · rcases kput_mem.1 hy with rfl | hy
      · exact hm
      · exact h2 y hy
    · unfold kput
      rw [List.pairwise_append]
      refine ⟨h4.sublist (List.take_sublist _ _), ?_, ?_⟩
      · rw [List.pairwise_cons]
        exact ⟨fun y hy => by rw [clash_symm]; exact hc y (List.mem_of_mem_drop hy), h4.sublist (List.drop_sublist _ _)⟩
      · intro a ha' b hb
        rcases List.mem_cons.1 hb with rfl | hb
        · exact hc a (List.mem_of_mem_take ha')
        · have := h4
          rw [← List.take_append_drop (kpos Held.id l h.id) l, List.pairwise_append] at this
          exact this.2.2 a ha' b hb
end Go.Av

namespace Go.Av
set_option linter.unusedVariables false
theorem jnext_in {s w t : Int} (h0 : 0 ≤ s) (h : jnext s w = some t) : 0 ≤ t ∧ t ≤ 6 := by
  unfold jnext at h
  repeat' split at h
  all_goals first | (injection h with h; omega) | cases h
theorem jnext_from {s w t : Int} (h : jnext s w = some t) : s ≤ 2 ∧ (t = 2 → s = 0) ∧ (t = 0 → s = 1) ∧ (t = 1 → s = 0) ∧ (t = 3 → s = 2) ∧ (t = 4 → s = 2) ∧ (t = 6 → s < 2) := by
  unfold jnext at h
  repeat' split at h
  all_goals first | (injection h with h; omega) | cases h
theorem jstep_right {j : Job} {w t now : Int} (hb : jbad j w now = false) (h : jnext j.state w = some t) : jright (jstep j t now) = true := by
  simp only [jbad, Bool.or_eq_false_iff, Bool.not_eq_false', decide_eq_false_iff_not] at hb
  obtain ⟨⟨⟨⟨hjr, _⟩, _⟩, hnow⟩, hmx⟩ := hb
  have hst := jright_state hjr
  have hi := jnext_in hst.1 h
  have hf := jnext_from h
  have h5 : tm j.came = true := by simp only [jright, Bool.and_eq_true] at hjr; exact hjr.1.2
  have ht : jtimes j = true := by simp only [jright, Bool.and_eq_true] at hjr; exact hjr.2
  have hr : jright (jstep j t now) = jtimes (jstep j t now) := by
    simp only [jright, jneeds, Bool.and_eq_true] at hjr
    obtain ⟨⟨⟨⟨⟨a1, a2⟩, a3⟩, a4, a5⟩, a6⟩, a7⟩ := hjr
    show (decide (1 ≤ j.id) && decide (j.id ≤ 1073741824) && sright j.spec && (decide (j.needs.length ≤ 16) && ndall j.id j.needs) && tm j.came && jtimes (jstep j t now)) = _
    rw [a1, a2, a3, a4, a5, a6]
    rfl
  rw [hr]
  have h5' : tm (jstep j t now).came = true := h5
  rw [jtimes_ref h5']
  rw [jtimes_ref h5] at ht
  simp only [jstep, jover, tm, Bool.and_eq_true, decide_eq_true_eq] at *
  clear hr hjr h
  obtain ⟨⟨⟨⟨⟨t1, t2⟩, t3⟩, t4⟩, t5⟩, t6⟩ := ht
  split at t5 <;> split at t6 <;> simp only [Bool.or_eq_true, Bool.and_eq_true, decide_eq_true_eq] at t5 t6 <;> (refine ⟨⟨⟨⟨⟨?_, ?_⟩, ?_⟩, ?_⟩, ?_⟩, ?_⟩) <;> (repeat' split) <;> (try simp only [Bool.or_eq_true, Bool.and_eq_true, decide_eq_true_eq]) <;> omega
end Go.Av

namespace Go.Av
set_option linter.unusedVariables false
theorem jobAt_get {l : List Job} {k : Nat} {j : Job} (h : l[k]? = some j) : jobAt l k = j := by rw [jobAt, List.getD_eq_getElem?_getD, h]; rfl
theorem jobHit_iff {l : List Job} (hp : l.Pairwise (fun a b => a.id < b.id)) {id : Int} : jobHit l id = true ↔ ∃ j ∈ l, j.id = id := by
  unfold jobHit jobId
  rw [Bool.and_eq_true, decide_eq_true_eq, decide_eq_true_eq]
  constructor
  · rintro ⟨h1, h2⟩
    rw [jobAt_get (List.getElem?_eq_getElem h1)] at h2
    exact ⟨_, List.getElem_mem h1, h2⟩
  · rintro ⟨j, hj, rfl⟩
    obtain ⟨k, hk⟩ := List.mem_iff_getElem?.1 hj
    have e : jobPos l j.id = k := kpos_at (f := Job.id) hp hk
    rw [e, jobAt_get hk]
    exact ⟨(List.getElem?_eq_some_iff.1 hk).1, rfl⟩
theorem jobPos_at {l : List Job} (hp : l.Pairwise (fun a b => a.id < b.id)) {j : Job} (hj : j ∈ l) : l[jobPos l j.id]? = some j := by
  obtain ⟨k, hk⟩ := List.mem_iff_getElem?.1 hj
  have e : jobPos l j.id = k := kpos_at (f := Job.id) hp hk
  rw [e]; exact hk
def NeedsIn (l : List Job) : Prop := ∀ k j, l[k]? = some j → ∀ n ∈ j.needs, n ∈ (l.map (·.id)).take k
theorem jobs_iff {l : List Job} : jobsR l = true ↔ l.length ≤ 64 ∧ (∀ j ∈ l, jright j = true) ∧ l.Pairwise (fun a b => a.id < b.id) ∧ l.Pairwise (fun a b => a.came ≤ b.came) ∧ NeedsIn l := by
  unfold jobsR
  rw [Bool.and_eq_true, decide_eq_true_eq]
  constructor
  · rintro ⟨h1, h2⟩
    have hB : ∀ k j, l[k]? = some j → jright j = true ∧ (0 < k → (jobAt l (k - 1)).id < j.id ∧ (jobAt l (k - 1)).came ≤ j.came) ∧ ∀ n ∈ j.needs, jobHit (l.take k) n = true := by
      intro k j hk
      have := allI_get h2 (List.getElem?_eq_some_iff.1 hk).1
      unfold jobB at this
      rw [hk] at this
      simp only [Bool.and_eq_true, Bool.not_eq_true', Bool.and_eq_false_iff, Bool.or_eq_false_iff, decide_eq_false_iff_not, List.all_eq_true] at this
      obtain ⟨⟨k1, k2⟩, k3⟩ := this
      refine ⟨k1, fun h0 => ?_, k3⟩
      rcases k2 with k2 | k2
      · exact absurd h0 k2
      · unfold jobId at k2; omega
    have step : ∀ k a b, l[k]? = some a → l[k + 1]? = some b → a.id < b.id ∧ a.came ≤ b.came := by
      intro k a b ha hb
      have := (hB (k + 1) b hb).2.1 (Nat.succ_pos _)
      rw [Nat.add_sub_cancel, jobAt_get ha] at this
      exact this
    have mono : ∀ d i a b, l[i]? = some a → l[i + d + 1]? = some b → a.id < b.id ∧ a.came ≤ b.came := by
      intro d
      induction d with
      | zero => intro i a b ha hb; exact step i a b ha hb
      | succ d ih =>
        intro i a b ha hb
        have hlt := (List.getElem?_eq_some_iff.1 hb).1
        have h3 := ih i a l[i + d + 1] ha (List.getElem?_eq_getElem (by omega))
        have h4 := step (i + d + 1) _ b (List.getElem?_eq_getElem (by omega)) hb
        omega
    have hid : l.Pairwise (fun a b => a.id < b.id) := by
      rw [List.pairwise_iff_getElem]
      intro i j hi hj hij
      exact (mono (j - i - 1) i _ _ (List.getElem?_eq_getElem hi) (by rw [show i + (j - i - 1) + 1 = j by omega]; exact List.getElem?_eq_getElem hj)).1
    refine ⟨h1, fun j hj => ?_, hid, ?_, ?_⟩
    · obtain ⟨k, hk⟩ := List.mem_iff_getElem?.1 hj
      exact (hB k j hk).1
    · rw [List.pairwise_iff_getElem]
      intro i j hi hj hij
      exact (mono (j - i - 1) i _ _ (List.getElem?_eq_getElem hi) (by rw [show i + (j - i - 1) + 1 = j by omega]; exact List.getElem?_eq_getElem hj)).2
    · intro k j hk n hn
      obtain ⟨x, hx, e⟩ := (jobHit_iff (hid.sublist (List.take_sublist k l))).1 ((hB k j hk).2.2 n hn)
      rw [← List.map_take]
      exact List.mem_map.2 ⟨x, hx, e⟩
  · rintro ⟨h1, h2, h3, h4, h5⟩
    refine ⟨h1, allI_true fun k hk => ?_⟩
    unfold jobB
    rw [List.getElem?_eq_getElem hk]
    simp only [Bool.and_eq_true, Bool.not_eq_true', Bool.and_eq_false_iff, Bool.or_eq_false_iff, decide_eq_false_iff_not, List.all_eq_true]
    refine ⟨⟨h2 _ (List.getElem_mem hk), ?_⟩, fun n hn => ?_⟩
    · cases k with
      | zero => exact .inl (Nat.lt_irrefl 0)
      | succ k =>
        right
        rw [Nat.add_sub_cancel, jobId, jobAt_get (List.getElem?_eq_getElem (by omega))]
        have := List.pairwise_iff_getElem.1 h3 k (k + 1) (by omega) hk (Nat.lt_succ_self k)
        have := List.pairwise_iff_getElem.1 h4 k (k + 1) (by omega) hk (Nat.lt_succ_self k)
        omega
    · have := h5 k _ (List.getElem?_eq_getElem hk) n hn
      rw [← List.map_take] at this
      obtain ⟨x, hx, e⟩ := List.mem_map.1 this
      exact (jobHit_iff (h3.sublist (List.take_sublist k l))).2 ⟨x, hx, e⟩
theorem jobsGet_eq {l : List Job} (hr : jobsR l = true) {j : Job} (hj : j ∈ l) : jobsGet l j.id = (j, true) := by
  have hp := (jobs_iff.1 hr).2.2.1
  unfold jobsGet
  rw [hr, Bool.true_and, (jobHit_iff hp).2 ⟨j, hj, rfl⟩, if_pos rfl, jobAt_get (jobPos_at hp hj)]
theorem set_mem {l : List Job} {k : Nat} {j j' y : Job} (hp : l.Pairwise (fun a b => a.id < b.id)) (hk : l[k]? = some j) (he : j'.id = j.id) : y ∈ l.set k j' ↔ y = j' ∨ (y ∈ l ∧ y.id ≠ j.id) := by
  have hkl := (List.getElem?_eq_some_iff.1 hk).1
  rw [List.mem_iff_getElem?]
  constructor
  · rintro ⟨i, hi⟩
    by_cases e : k = i
    · subst e
      rw [List.getElem?_set_self hkl] at hi
      exact .inl (Option.some.inj hi).symm
    · rw [List.getElem?_set_ne e] at hi
      refine .inr ⟨List.mem_of_getElem? hi, fun e2 => e ?_⟩
      have h1 := kpos_at (f := Job.id) hp hk
      have h2 := kpos_at (f := Job.id) hp hi
      rw [e2, h1] at h2
      exact h2
  · rintro (rfl | ⟨hy, hne⟩)
    · exact ⟨k, List.getElem?_set_self hkl⟩
    · obtain ⟨i, hi⟩ := List.mem_iff_getElem?.1 hy
      refine ⟨i, ?_⟩
      rw [List.getElem?_set_ne]
      · exact hi
      · rintro rfl
        rw [hk] at hi
        exact hne (congrArg Job.id (Option.some.inj hi)).symm
theorem set_map {β : Type} (g : Job → β) {l : List Job} {k : Nat} {j j' : Job} (hk : l[k]? = some j) (he : g j' = g j) : (l.set k j').map g = l.map g := by
  apply List.ext_getElem?
  intro i
  rw [List.getElem?_map, List.getElem?_map]
  by_cases e : k = i
  · subst e
    rw [List.getElem?_set_self (List.getElem?_eq_some_iff.1 hk).1, hk]
    simp [he]
  · rw [List.getElem?_set_ne e]
theorem jdo_same (j : Job) (w now : Int) : (jdo j w now).1.id = j.id ∧ (jdo j w now).1.spec = j.spec ∧ (jdo j w now).1.needs = j.needs ∧ (jdo j w now).1.came = j.came := by
  unfold jdo
  split
  · exact ⟨rfl, rfl, rfl, rfl⟩
  · split <;> exact ⟨rfl, rfl, rfl, rfl⟩
theorem jdo_right {j : Job} {w now : Int} (h : jright j = true) : jright (jdo j w now).1 = true := by
  unfold jdo
  split
  · exact h
  · rename_i hb
    split
    · exact h
    · rename_i s hs
      exact jstep_right (by simpa using hb) hs
theorem jobsDo_hit {l : List Job} (hr : jobsR l = true) {j : Job} (hj : j ∈ l) (w now : Int) :
    jobsDo l j.id w now = (l.set (jobPos l j.id) (jdo j w now).1, (jdo j w now).2) ∧ jobsR (jobsDo l j.id w now).1 = true ∧ (∀ y, y ∈ (jobsDo l j.id w now).1 ↔ y = (jdo j w now).1 ∨ (y ∈ l ∧ y.id ≠ j.id)) ∧ (jobsDo l j.id w now).1.map (·.id) = l.map (·.id) := by
  obtain ⟨h1, h2, h3, h4, h5⟩ := jobs_iff.1 hr
  have hk := jobPos_at h3 hj
  have e : jobsDo l j.id w now = (l.set (jobPos l j.id) (jdo j w now).1, (jdo j w now).2) := by
    unfold jobsDo
    rw [hr, (jobHit_iff h3).2 ⟨j, hj, rfl⟩, jobAt_get hk, if_neg (by simp), if_neg (by simp)]
  obtain ⟨s1, s2, s3, s4⟩ := jdo_same j w now
  have hids : (l.set (jobPos l j.id) (jdo j w now).1).map (fun x : Job => x.id) = l.map (fun x : Job => x.id) := set_map (fun x : Job => x.id) hk s1
  have hcames : (l.set (jobPos l j.id) (jdo j w now).1).map Job.came = l.map Job.came := set_map Job.came hk s4
  have hneeds : (l.set (jobPos l j.id) (jdo j w now).1).map Job.needs = l.map Job.needs := set_map Job.needs hk s3
  rw [e]
  refine ⟨rfl, jobs_iff.2 ⟨by simpa using h1, fun y hy => ?_, ?_, ?_, ?_⟩, fun y => set_mem h3 hk s1, hids⟩
  · rcases (set_mem h3 hk s1).1 hy with rfl | ⟨hy, _⟩
    · exact jdo_right (h2 j hj)
    · exact h2 y hy
  · have := h3
    rw [← List.pairwise_map (f := fun x : Job => x.id) (R := fun a b : Int => a < b)] at this ⊢
    rw [hids]; exact this
  · have := h4
    rw [← List.pairwise_map (f := Job.came) (R := fun a b : Int => a ≤ b)] at this ⊢
    rw [hcames]; exact this
  · intro k y hy n hn
    have e1 := congrArg (·[k]?) hneeds
    simp only [List.getElem?_map, hy, Option.map_some] at e1
    cases hx : l[k]? with
    | none => rw [hx] at e1; cases e1
    | some x =>
      rw [hx] at e1
      simp only [Option.map_some, Option.some.injEq] at e1
      have := h5 k x hx n (by rw [← e1]; exact hn)
      show n ∈ ((l.set (jobPos l j.id) (jdo j w now).1).map fun x : Job => x.id).take k
      rw [hids]; exact this
theorem jobsDo_no {l : List Job} {id w now : Int} (hr : jobsR l = true) (hn : ∀ j ∈ l, j.id ≠ id) : (jobsDo l id w now).2 ≠ 0 := by
  have h3 := (jobs_iff.1 hr).2.2.1
  unfold jobsDo
  rw [hr]
  cases h : jobHit l id with
  | false => simp
  | true =>
    obtain ⟨x, hx, e⟩ := (jobHit_iff h3).1 h
    exact absurd e (hn x hx)
end Go.Av

namespace Go.Av
theorem flat_getT {α : Type} {sz : Nat} : ∀ {rows : List (List α)}, (∀ r ∈ rows, r.length = sz) → ∀ {i : Nat} {r : List α} {j : Nat}, rows[i]? = some r → j < sz → rows.flatten[i * sz + j]? = r[j]?
  | [], _, i, r, j, hr, _ => by simp at hr
  | x :: rows, hw, i, r, j, hr, hj => by
    have hx : x.length = sz := hw x (by simp)
    cases i with
    | zero =>
      simp at hr
      subst hr
      rw [List.flatten_cons, List.getElem?_append_left (by omega)]
      simp
    | succ i =>
      have := flat_getT (rows := rows) (fun r h => hw r (by simp [h])) (i := i) (r := r) (j := j) (by simpa using hr) hj
      rw [List.flatten_cons, List.getElem?_append_right (by rw [hx, Nat.succ_mul]; omega), hx, show (i + 1) * sz + j - sz = i * sz + j by rw [Nat.succ_mul]; omega]
      exact this
def tile (P : Program) (rec : TypeId → Option (List TypeId)) (total : Nat) : Nat → List Field → Option (List TypeId)
  | off, [] => if off = total then some [] else none
  | off, f :: fs => if f.offset = off then
      match rec f.type with
      | some a => if a.length = P.cellsOf f.type then
          match tile P rec total (off + P.cellsOf f.type) fs with
          | some r => some (a ++ r)
          | none => none
        else none
      | none => none
    else none
def cellTys (P : Program) : Nat → TypeId → Option (List TypeId)
  | 0, _ => none
  | n + 1, t => match P.underlying t with
    | some .bool | some (.int _) | some .string => some [t]
    | some (.slice e) => if P.cellsOf e = 0 then none else some [t]
    | some (.struct fs) => tile P (cellTys P n) (P.cellsOf t) 0 fs.toList
    | some (.array m e) => match cellTys P n e with
      | some a => if a.length = P.cellsOf e ∧ P.cellsOf t = m * P.cellsOf e then some (List.replicate m a).flatten else none
      | none => none
    | _ => none
def CellOk (P : Program) : Nat → TypeId → AV → Prop
  | 0, _, _ => False
  | n + 1, t, v => match P.underlying t with
    | some .bool => ∃ b, v = .bool b
    | some (.int k) => ∃ i, v = .int k i ∧ (Lit.int k i).wf = true
    | some .string => ∃ s : ByteArray, v = .str s ∧ s.size ≤ maxLen
    | some (.slice e) => ∃ rows, v = .pl rows ∧ rows.length ≤ maxLen ∧ ∀ r ∈ rows, ∃ ts, cellTys P (n + 1) e = some ts ∧ r.length = ts.length ∧ ∀ (j : Nat) (t' : TypeId) (v' : AV), ts[j]? = some t' → r[j]? = some v' → CellOk P n t' v'
    | _ => False
def RowIs (P : Program) (n : Nat) (ts : List TypeId) (r : List AV) : Prop := r.length = ts.length ∧ ∀ (j : Nat) (t' : TypeId) (v' : AV), ts[j]? = some t' → r[j]? = some v' → CellOk P n t' v'
section
variable {P : Program} {Hd : Type} {enc : TypeId × Value → Hd} {w : World} {base : Nat} {spare : Nat → Bool} {held : Bool}
theorem tile_spec {rec : TypeId → Option (List TypeId)} {total : Nat} : ∀ (fs : List Field) (off : Nat) (ts : List TypeId), tile P rec total off fs = some ts → off + ts.length = total ∧ off ≤ total ∧
    ∀ (f : Field), f ∈ fs → ∃ a, rec f.type = some a ∧ a.length = P.cellsOf f.type ∧ off ≤ f.offset ∧ f.offset + a.length ≤ total ∧ (∀ j, j < a.length → ts[f.offset - off + j]? = a[j]?)
  | [], off, ts, h => by
    unfold tile at h
    split at h
    · cases h; simp_all
    · cases h
  | f :: fs, off, ts, h => by
    unfold tile at h
    split at h
    · rename_i ho
      split at h
      · rename_i a ha
        split at h
        · rename_i hl
          split at h
          · rename_i r hr
            cases h
            obtain ⟨h1, h2, h3⟩ := tile_spec fs _ _ hr
            refine ⟨by simp; omega, by omega, fun g hg => ?_⟩
            rcases List.mem_cons.1 hg with rfl | hg
            · refine ⟨a, ha, hl, by omega, by omega, fun j hj => ?_⟩
              rw [ho, Nat.sub_self, Nat.zero_add, List.getElem?_append_left hj]
            · obtain ⟨b, k1, k2, k3, k4, k5⟩ := h3 g hg
              refine ⟨b, k1, k2, by omega, k4, fun j hj => ?_⟩
              rw [List.getElem?_append_right (by omega), ← k5 j hj]
              congr 1
              omega
          · cases h
        · cases h
      · cases h
    · cases h
theorem tile_cover {rec : TypeId → Option (List TypeId)} {total : Nat} : ∀ (fs : List Field) (off : Nat) (ts : List TypeId), tile P rec total off fs = some ts → ∀ j, off ≤ j → j < total → ∃ f ∈ fs, f.offset ≤ j ∧ j < f.offset + P.cellsOf f.type
  | [], off, ts, h, j, h1, h2 => by
    unfold tile at h
    split at h
    · omega
    · cases h
  | f :: fs, off, ts, h, j, h1, h2 => by
    unfold tile at h
    split at h
    · rename_i ho
      split at h
      · split at h
        · split at h
          · rename_i r hr
            by_cases hj : j < off + P.cellsOf f.type
            · exact ⟨f, List.mem_cons_self, by omega, by omega⟩
            · obtain ⟨g, hg, k⟩ := tile_cover fs _ _ hr j (by omega) h2
              exact ⟨g, List.mem_cons_of_mem _ hg, k⟩
          · cases h
        · cases h
      · cases h
    · cases h
theorem trod_one {t : TypeId} {fuel : Nat} {cs : List Value} {x : DataW Hd × List MemPlace} (hu : P.underlying t = some .bool ∨ (∃ k, P.underlying t = some (.int k)) ∨ P.underlying t = some .string ∨ ∃ e, P.underlying t = some (.slice e)) (h : DataW.trod enc P w base spare held (fuel + 1) t cs = some x) : ∃ u, cs = [u] := by
  unfold DataW.trod at h
  rcases hu with hu | ⟨k, hu⟩ | hu | ⟨e, hu⟩ <;> rw [hu] at h <;> split at h <;> first | exact ⟨_, rfl⟩ | (simp_all; done)
theorem trod_cells : ∀ (n : Nat) (t : TypeId) (ts : List TypeId) (fuel : Nat) (cs : List Value) (x : DataW Hd × List MemPlace), cellTys P n t = some ts → DataW.trod enc P w base spare held fuel t cs = some x →
    cs.length = ts.length ∧ ∀ (j : Nat) (t' : TypeId) (u : Value), ts[j]? = some t' → cs[j]? = some u → ∃ fuel' x', DataW.trod enc P w base spare held fuel' t' [u] = some x' ∧ (P.underlying t' = some .bool ∨ (∃ k, P.underlying t' = some (.int k)) ∨ P.underlying t' = some .string ∨ ∃ e, P.underlying t' = some (.slice e) ∧ P.cellsOf e ≠ 0)
  | 0, _, _, _, _, _, h, _ => by cases h
  | _ + 1, _, _, 0, _, _, _, h => by cases h
  | n + 1, t, ts, fuel + 1, cs, x, h, hx => by
    have one : ∀ u, cs = [u] → ts = [t] → (P.underlying t = some .bool ∨ (∃ k, P.underlying t = some (.int k)) ∨ P.underlying t = some .string ∨ ∃ e, P.underlying t = some (.slice e) ∧ P.cellsOf e ≠ 0) → cs.length = ts.length ∧ ∀ (j : Nat) (t' : TypeId) (u : Value), ts[j]? = some t' → cs[j]? = some u → ∃ fuel' x', DataW.trod enc P w base spare held fuel' t' [u] = some x' ∧ (P.underlying t' = some .bool ∨ (∃ k, P.underlying t' = some (.int k)) ∨ P.underlying t' = some .string ∨ ∃ e, P.underlying t' = some (.slice e) ∧ P.cellsOf e ≠ 0) := by
      rintro u rfl rfl hk
      refine ⟨rfl, fun j t' u' h1 h2 => ?_⟩
      cases j with
      | zero => simp at h1 h2; subst h1; subst h2; exact ⟨fuel + 1, x, hx, hk⟩
      | succ j => simp at h1
    unfold cellTys at h
    split at h
    · rename_i hu
      cases h
      obtain ⟨u, hcs⟩ := trod_one (.inl hu) hx
      exact one u hcs rfl (.inl hu)
    · rename_i k hu
      cases h
      obtain ⟨u, hcs⟩ := trod_one (.inr (.inl ⟨k, hu⟩)) hx
      exact one u hcs rfl (.inr (.inl ⟨k, hu⟩))
    · rename_i hu
      cases h
      obtain ⟨u, hcs⟩ := trod_one (.inr (.inr (.inl hu))) hx
      exact one u hcs rfl (.inr (.inr (.inl hu)))
    · rename_i e hu
      split at h
      · cases h
      · rename_i he
        cases h
        obtain ⟨u, hcs⟩ := trod_one (.inr (.inr (.inr ⟨e, hu⟩))) hx
        exact one u hcs rfl (.inr (.inr (.inr ⟨e, hu, he⟩)))
    · rename_i fs hu
      obtain ⟨h1, _, h3⟩ := tile_spec _ _ _ h
      rw [Nat.zero_add] at h1
      unfold DataW.trod at hx
      rw [hu] at hx
      simp only at hx
      split at hx
      · rename_i hl
        cases hm : fs.toList.mapM (fun f => DataW.trod enc P w base spare held fuel f.type ((cs.drop f.offset).take (P.cellsOf f.type))) with
        | none => rw [hm] at hx; simp at hx
        | some xs =>
          have hg := mapM_some_get hm
          refine ⟨hl.trans h1.symm, fun j t' u hj hu' => ?_⟩
          have hjt : j < P.cellsOf t := by rw [← h1]; exact (List.getElem?_eq_some_iff.1 hj).1
          obtain ⟨f, hf, k1, k2⟩ := tile_cover _ _ _ h j (Nat.zero_le _) hjt
          obtain ⟨a, ha, hal, _, _, hat⟩ := h3 f hf
          obtain ⟨i, hi⟩ := List.mem_iff_getElem?.1 hf
          have hx1 := hg i f hi
          have hil : i < xs.length := by rw [mapM_some_length hm]; exact (List.getElem?_eq_some_iff.1 hi).1
          rw [List.getElem?_eq_getElem hil] at hx1
          obtain ⟨_, hrec⟩ := trod_cells n f.type a fuel _ _ ha hx1
          have hj2 : j - f.offset < a.length := by omega
          have e1 := hat (j - f.offset) hj2
          rw [show f.offset - 0 + (j - f.offset) = j by omega, hj] at e1
          refine hrec (j - f.offset) t' u e1.symm ?_
          rw [List.getElem?_take, if_pos (by omega), List.getElem?_drop, show f.offset + (j - f.offset) = j by omega]
          exact hu'
      · cases hx
    · rename_i m e hu
      split at h
      · rename_i a ha
        split at h
        · rename_i hal
          cases h
          unfold DataW.trod at hx
          rw [hu] at hx
          simp only at hx
          split at hx
          · rename_i hl
            cases hm : (List.range m).mapM (fun i => DataW.trod enc P w base spare held fuel e ((cs.drop (i * P.cellsOf e)).take (P.cellsOf e))) with
            | none => rw [hm] at hx; simp at hx
            | some xs =>
              have hg := mapM_some_get hm
              have hfl : (List.replicate m a).flatten.length = m * P.cellsOf e := by simp [hal.1]
              refine ⟨by rw [hl, hal.2, hfl], fun j t' u hj hu' => ?_⟩
              have hjt : j < m * P.cellsOf e := by rw [← hfl]; exact (List.getElem?_eq_some_iff.1 hj).1
              have hpos : 0 < P.cellsOf e := by
                rcases Nat.eq_zero_or_pos (P.cellsOf e) with h0 | h0
                · rw [h0] at hjt; simp at hjt
                · exact h0
              have hi : j / P.cellsOf e < m := (Nat.div_lt_iff_lt_mul hpos).2 hjt
              have hx1 := hg (j / P.cellsOf e) (j / P.cellsOf e) (by simp [hi])
              have hil : j / P.cellsOf e < xs.length := by rw [mapM_some_length hm]; simpa using hi
              rw [List.getElem?_eq_getElem hil] at hx1
              obtain ⟨_, hrec⟩ := trod_cells n e a fuel _ _ ha hx1
              have hdm : j / P.cellsOf e * P.cellsOf e + j % P.cellsOf e = j := Nat.div_add_mod' _ _
              have hmod : j % P.cellsOf e < P.cellsOf e := Nat.mod_lt _ hpos
              refine hrec (j % P.cellsOf e) t' u ?_ ?_
              · have hw : ∀ r ∈ List.replicate m a, r.length = P.cellsOf e := fun r hr => by rw [List.eq_of_mem_replicate hr]; exact hal.1
                have h3 := flat_getT (sz := P.cellsOf e) hw (i := j / P.cellsOf e) (r := a) (by rw [List.getElem?_replicate, if_pos hi]) hmod
                rw [hdm] at h3
                rw [← h3]; exact hj
              · rw [List.getElem?_take, if_pos hmod, List.getElem?_drop, hdm]
                exact hu'
          · cases hx
        · cases h
      · cases h
    · cases h
theorem choose_list {α : Type} {p : Nat → α → Prop} : ∀ (n : Nat), (∀ j, j < n → ∃ v, p j v) → ∃ l : List α, l.length = n ∧ ∀ (j : Nat) (v : α), l[j]? = some v → p j v
  | 0, _ => ⟨[], rfl, fun _ _ h => by simp at h⟩
  | n + 1, h => by
    obtain ⟨l, h1, h2⟩ := choose_list n (fun j hj => h j (by omega))
    obtain ⟨v, hv⟩ := h n (by omega)
    refine ⟨l ++ [v], by simp [h1], fun j x hx => ?_⟩
    rcases Nat.lt_or_ge j l.length with hj | hj
    · rw [List.getElem?_append_left hj] at hx; exact h2 j x hx
    · rw [List.getElem?_append_right hj] at hx
      have : j - l.length = 0 := by
        rcases Nat.eq_zero_or_pos (j - l.length) with e | e
        · exact e
        · rw [List.getElem?_eq_none (by simp; omega)] at hx; cases hx
      rw [this] at hx
      simp at hx
      subst hx
      rw [show j = n by omega]
      exact hv
def cellDeep (P : Program) : Nat → TypeId → Bool
  | 0, _ => false
  | n + 1, t => match P.underlying t with
    | some .bool | some (.int _) | some .string => true
    | some (.slice e) => match cellTys P (n + 1) e with
      | some ts => decide (P.cellsOf e ≠ 0) && decide (ts.length = P.cellsOf e) && ts.all (cellDeep P n)
      | none => false
    | _ => false
theorem cell_vr : ∀ (n : Nat) (t : TypeId) (u : Value) (fuel : Nat) (x : DataW Hd × List MemPlace), cellDeep P n t = true → DataW.trod enc P w base spare held fuel t [u] = some x → ∃ v, CellOk P n t v ∧ v.leaf = true ∧ VR (own []) w [] v u
  | 0, _, _, _, _, h, _ => by cases h
  | _ + 1, _, _, 0, _, _, h => by cases h
  | n + 1, t, u, fuel + 1, x, h, hx => by
    unfold cellDeep at h
    unfold CellOk
    unfold DataW.trod at hx
    split at h
    · rename_i hu
      rw [hu] at hx
      split at hx <;> first | (simp_all; done) | skip
      rename_i b _ hc
      obtain rfl := (List.cons.inj hc).1
      exact ⟨_, ⟨_, rfl⟩, rfl, .bool⟩
    · rename_i k hu
      rw [hu] at hx
      split at hx <;> first | (simp_all; done) | skip
      split at hx
      · rename_i k' k'' i hk hc hw
        obtain rfl := (List.cons.inj hc).1
        injection hk with hk
        injection hk with hk
        subst hk
        obtain ⟨rfl, hw⟩ := hw
        exact ⟨_, ⟨_, rfl, hw⟩, rfl, .int⟩
      · cases hx
    · rename_i hu
      rw [hu] at hx
      split at hx <;> first | (simp_all; done) | skip
      split at hx
      · rename_i s _ hc hw
        obtain rfl := (List.cons.inj hc).1
        exact ⟨_, ⟨_, rfl, hw⟩, rfl, .str⟩
      · cases hx
    · rename_i e hu
      rw [hu] at hx
      split at h
      · rename_i ts hts
        simp only [Bool.and_eq_true, decide_eq_true_eq] at h
        obtain ⟨⟨he, htl⟩, hall⟩ := h
        split at hx <;> first | (simp_all; done) | skip
        · rename_i e' hk hc
          obtain rfl := (List.cons.inj hc).1
          refine ⟨.pl [], ⟨[], rfl, Nat.zero_le _, by simp⟩, rfl, .pl (xs := []) default 0 (fun _ _ => undef) (Nat.zero_le _) (fun h => absurd rfl h) (fun _ _ h => by simp at h) (fun _ h => by simp at h) (fun _ _ _ _ h => by simp at h) (fun _ _ _ _ h => by simp at h)⟩
        · rename_i e' a len cap hk hc
          obtain rfl := (List.cons.inj hc).1
          injection hk with hk
          injection hk with hk
          subst hk
          simp only at hx
          split at hx
          · rename_i hcnd
            cases hm : (List.range len).mapM (fun i => (w.cells? base (a.add (i * P.cellsOf e)) (P.cellsOf e)).bind (DataW.trod enc P w base spare held fuel e)) with
            | none => rw [hm] at hx; simp at hx
            | some xs =>
              have hg := mapM_some_get hm
              have row : ∀ i, i < len → ∃ r : List AV, r.length = P.cellsOf e ∧ (∀ (j : Nat) (t' : TypeId) (v' : AV), ts[j]? = some t' → r[j]? = some v' → CellOk P n t' v') ∧ a.block < w.heap.size ∧
                  ∀ (j : Nat) (v : AV), r[j]? = some v → v.leaf = true ∧ ∃ u, w.cell? (a.add (i * P.cellsOf e + j)) = some u ∧ VR (own []) w [] v u := by
                intro i hi
                have hx1 := hg i i (by simp [hi])
                have hil : i < xs.length := by rw [mapM_some_length hm]; simpa using hi
                rw [List.getElem?_eq_getElem hil] at hx1
                cases hcs : w.cells? base (a.add (i * P.cellsOf e)) (P.cellsOf e) with
                | none => rw [hcs] at hx1; simp at hx1
                | some cs =>
                  rw [hcs] at hx1
                  simp only [Option.bind_some] at hx1
                  obtain ⟨_, hcl, hcell⟩ := World.cells?_some hcs
                  obtain ⟨hl, hrec⟩ := trod_cells (n + 1) e ts fuel cs _ hts hx1
                  have hblk := World.cells?_block hcs (by omega)
                  rw [add_block] at hblk
                  obtain ⟨r, hr1, hr2⟩ := choose_list (p := fun j v => v.leaf = true ∧ (∀ t', ts[j]? = some t' → CellOk P n t' v) ∧ ∃ u, w.cell? (a.add (i * P.cellsOf e + j)) = some u ∧ VR (own []) w [] v u) (P.cellsOf e) (fun j hj => by
                    have hjc : j < cs.length := by omega
                    have hjt : j < ts.length := by omega
                    obtain ⟨fuel', x', hx', _⟩ := hrec j _ _ (List.getElem?_eq_getElem hjt) (List.getElem?_eq_getElem hjc)
                    obtain ⟨v, k1, k2, k3⟩ := cell_vr n _ _ fuel' x' (List.all_eq_true.1 hall _ (List.getElem_mem hjt)) hx'
                    refine ⟨v, k2, fun t' ht' => ?_, _, ?_, k3⟩
                    · rw [List.getElem?_eq_getElem hjt] at ht'
                      obtain rfl := Option.some.inj ht'
                      exact k1
                    · have := hcell j hj
                      rw [add_add] at this
                      rw [this, List.getElem?_eq_getElem hjc])
                  exact ⟨r, hr1, fun j t' v' ht' hv' => (hr2 j v' hv').2.1 t' ht', hblk, fun j v hv => ⟨(hr2 j v hv).1, (hr2 j v hv).2.2⟩⟩
              obtain ⟨rows, hr1, hr2⟩ := choose_list len row
              have hrows : ∀ i r, rows[i]? = some r → i < len := fun i r hr => by rw [← hr1]; exact (List.getElem?_eq_some_iff.1 hr).1
              refine ⟨.pl rows, ⟨rows, rfl, by omega, fun r hr => ?_⟩, rfl, ?_⟩
              · obtain ⟨i, hi⟩ := List.mem_iff_getElem?.1 hr
                obtain ⟨k1, k2, _, _⟩ := hr2 i r hi
                exact ⟨ts, hts, by omega, k2⟩
              · rw [← hr1]
                refine .pl a (P.cellsOf e) (fun i j => (w.cell? (a.add (i * P.cellsOf e + j))).getD undef) (by omega) (fun hne => ?_) (fun i r hr => (hr2 i r hr).1) (fun i hi j hj => ?_) (fun i j r v hr hv => ((hr2 i r hr).2.2.2 j v hv).1) (fun i j r v hr hv => ?_)
                · have hpos : 0 < rows.length := List.length_pos_iff.2 hne
                  exact ⟨rfl, by rintro ⟨i, s, hs, _⟩; simp at hs, (hr2 0 _ (List.getElem?_eq_getElem hpos)).2.2.1⟩
                · have hk := hr2 i _ (List.getElem?_eq_getElem hi)
                  obtain ⟨_, u, hu', _⟩ := hk.2.2.2 j _ (List.getElem?_eq_getElem (by rw [hk.1]; exact hj))
                  rw [hu']; rfl
                · obtain ⟨_, u, hu', hv'⟩ := (hr2 i r hr).2.2.2 j v hv
                  rw [hu']; exact hv'
          · cases hx
      · cases h
    · cases h
end
end Go.Av

namespace Go.Av
open Go.RowKit
section
variable {P : Program} {Hd : Type} {enc : TypeId × Value → Hd} {w : World} {base b : Nat} {spare : Nat → Bool} {held : Bool}
theorem arg_leaf {n : Nat} {t : TypeId} {v : Value} {d : DataW Hd} {ps : List MemPlace} (hd : cellDeep P n t = true) (hval : Value.okWide P w .any b t v) (h : DataW.Trod enc P w base spare held t v d ps) : ∃ a, CellOk P n t a ∧ VR (own []) w [] a v := by
  have hc : v.cells = #[v] := by
    cases n with
    | zero => cases hd
    | succ n =>
      unfold cellDeep at hd
      unfold Value.okWide at hval
      cases v with
      | agg cs =>
        exfalso
        split at hd <;> rename_i hu <;> simp [hu, Cell.okWide, Cell.ok] at hval hd
      | _ => rfl
  obtain ⟨fuel, h⟩ := h
  rw [hc] at h
  obtain ⟨a, h1, _, h2⟩ := cell_vr n t v fuel _ hd h
  exact ⟨a, h1, h2⟩
theorem cell_bool {n : Nat} {t : TypeId} {a : AV} (hu : P.underlying t = some .bool) (h : CellOk P (n + 1) t a) : ∃ b, a = .bool b := by
  unfold CellOk at h; rw [hu] at h; exact h
theorem cell_int {n : Nat} {t : TypeId} {k : IntKind} {a : AV} (hu : P.underlying t = some (.int k)) (h : CellOk P (n + 1) t a) : ∃ i, a = .int k i ∧ (Lit.int k i).wf = true := by
  unfold CellOk at h; rw [hu] at h; exact h
theorem cell_str {n : Nat} {t : TypeId} {a : AV} (hu : P.underlying t = some .string) (h : CellOk P (n + 1) t a) : ∃ s : ByteArray, a = .str s ∧ s.size ≤ maxLen := by
  unfold CellOk at h; rw [hu] at h; exact h
theorem cell_sl {n : Nat} {t e : TypeId} {ts : List TypeId} {a : AV} (hu : P.underlying t = some (.slice e)) (hts : cellTys P (n + 1) e = some ts) (h : CellOk P (n + 1) t a) : ∃ rows, a = .pl rows ∧ rows.length ≤ maxLen ∧ ∀ r ∈ rows, RowIs P n ts r := by
  unfold CellOk at h
  rw [hu] at h
  obtain ⟨rows, h1, h2, h3⟩ := h
  refine ⟨rows, h1, h2, fun r hr => ?_⟩
  obtain ⟨ts', k1, k2, k3⟩ := h3 r hr
  rw [hts] at k1
  obtain rfl := Option.some.inj k1
  exact ⟨k2, k3⟩
theorem row_nil {n : Nat} {r : List AV} (h : RowIs P n [] r) : r = [] := List.eq_nil_of_length_eq_zero h.1
theorem row_cons {n : Nat} {t : TypeId} {ts : List TypeId} {r : List AV} (h : RowIs P n (t :: ts) r) : ∃ v r', r = v :: r' ∧ CellOk P n t v ∧ RowIs P n ts r' := by
  cases r with
  | nil => have := h.1; simp at this
  | cons v r => exact ⟨v, r, rfl, h.2 0 t v rfl rfl, by simpa using h.1, fun j t' v' h1 h2 => h.2 (j + 1) t' v' h1 h2⟩
theorem rows_map {α : Type} {e : α → List AV} : ∀ {rows : List (List AV)}, (∀ r ∈ rows, ∃ x, r = e x) → ∃ l : List α, rows = l.map e
  | [], _ => ⟨[], rfl⟩
  | r :: rows, h => by
    obtain ⟨x, rfl⟩ := h r List.mem_cons_self
    obtain ⟨l, rfl⟩ := rows_map (rows := rows) fun r hr => h r (List.mem_cons_of_mem _ hr)
    exact ⟨x :: l, rfl⟩
inductive All2 {α β : Type} (R : α → β → Prop) : List α → List β → Prop where
  | nil : All2 R [] []
  | cons {a b as1 bs} (h : R a b) (k : All2 R as1 bs) : All2 R (a :: as1) (b :: bs)
theorem All2.vrs {O : Nat → Prop} {S : List Slot} {vs : List AV} {us : List Value} (h : All2 (VR O w S) vs us) : VRs O w S vs us.toArray := by
  induction h with
  | nil => exact ⟨rfl, fun i v u hv => by simp at hv⟩
  | cons h k ih =>
    refine ⟨by simpa using ih.1, fun i v u hv hu => ?_⟩
    cases i with
    | zero => simp at hv hu; subst hv; subst hu; exact h
    | succ i => exact ih.2 i v u (by simpa using hv) (by simpa using hu)
end
end Go.Av

namespace Go.Av
end Go.Av

namespace Go.Av
open Go.Proofs
instance ty1 : TyI Tryz.prog 1 false 1 := ⟨by kernel_rfl, by kernel_rfl⟩
instance ty2 : TyI Tryz.prog 2 false 1 := ⟨by kernel_rfl, by kernel_rfl⟩
instance by2 : ByI Tryz.prog 2 8 := ⟨by kernel_rfl⟩
instance ud2 : UdI Tryz.prog 2 (.int .i64) := ⟨by kernel_rfl⟩
instance zc2 : ZcI Tryz.prog 2 [.int .i64 0] := ⟨.int .i64 0, by kernel_rfl, rfl, rfl⟩
instance ty3 : TyI Tryz.prog 3 false 1 := ⟨by kernel_rfl, by kernel_rfl⟩
instance by3 : ByI Tryz.prog 3 8 := ⟨by kernel_rfl⟩
instance ud3 : UdI Tryz.prog 3 (.int .i64) := ⟨by kernel_rfl⟩
instance zc3 : ZcI Tryz.prog 3 [.int .i64 0] := ⟨.int .i64 0, by kernel_rfl, rfl, rfl⟩
instance ty4 : TyI Tryz.prog 4 false 1 := ⟨by kernel_rfl, by kernel_rfl⟩
instance by4 : ByI Tryz.prog 4 1 := ⟨by kernel_rfl⟩
instance ud4 : UdI Tryz.prog 4 .bool := ⟨by kernel_rfl⟩
instance zc4 : ZcI Tryz.prog 4 [.bool false] := ⟨.bool false, by kernel_rfl, rfl, rfl⟩
instance ty5 : TyI Tryz.prog 5 false 1 := ⟨by kernel_rfl, by kernel_rfl⟩
instance ud5 : UdI Tryz.prog 5 (.int .u8) := ⟨by kernel_rfl⟩
instance ty9 : TyI Tryz.prog 9 false 1 := ⟨by kernel_rfl, by kernel_rfl⟩
instance ud9 : UdI Tryz.prog 9 .string := ⟨by kernel_rfl⟩
instance ud21 : UdI Tryz.prog 21 (.int .i32) := ⟨by kernel_rfl⟩
instance ty22 : TyI Tryz.prog 22 false 1 := ⟨by kernel_rfl, by kernel_rfl⟩
instance sl22 : SlI Tryz.prog 22 72 := ⟨by kernel_rfl⟩
instance ni22 : NiI Tryz.prog 22 := ⟨.inl ⟨72, by kernel_rfl⟩⟩
instance ty23 : TyI Tryz.prog 23 false 1 := ⟨by kernel_rfl, by kernel_rfl⟩
instance by23 : ByI Tryz.prog 23 24 := ⟨by kernel_rfl⟩
instance sl23 : SlI Tryz.prog 23 3 := ⟨by kernel_rfl⟩
instance ni23 : NiI Tryz.prog 23 := ⟨.inl ⟨3, by kernel_rfl⟩⟩
instance zc23 : ZcI Tryz.prog 23 [.nsl] := ⟨.slice none 0 0, by kernel_rfl, rfl, rfl⟩
instance ty24 : TyI Tryz.prog 24 false 1 := ⟨by kernel_rfl, by kernel_rfl⟩
instance sl24 : SlI Tryz.prog 24 63 := ⟨by kernel_rfl⟩
instance ni24 : NiI Tryz.prog 24 := ⟨.inl ⟨63, by kernel_rfl⟩⟩
instance ty25 : TyI Tryz.prog 25 false 1 := ⟨by kernel_rfl, by kernel_rfl⟩
instance sl25 : SlI Tryz.prog 25 60 := ⟨by kernel_rfl⟩
instance ni25 : NiI Tryz.prog 25 := ⟨.inl ⟨60, by kernel_rfl⟩⟩
instance ty27 : TyI Tryz.prog 27 true 9 := ⟨by kernel_rfl, by kernel_rfl⟩
instance fl27_0 : FldI Tryz.prog 27 0 0 22 := ⟨by kernel_rfl⟩
instance fl27_1 : FldI Tryz.prog 27 1 1 23 := ⟨by kernel_rfl⟩
instance fl27_2 : FldI Tryz.prog 27 2 2 23 := ⟨by kernel_rfl⟩
instance fl27_3 : FldI Tryz.prog 27 3 3 2 := ⟨by kernel_rfl⟩
instance fl27_4 : FldI Tryz.prog 27 4 4 24 := ⟨by kernel_rfl⟩
instance fl27_5 : FldI Tryz.prog 27 5 5 25 := ⟨by kernel_rfl⟩
instance fl27_6 : FldI Tryz.prog 27 6 6 2 := ⟨by kernel_rfl⟩
instance fl27_7 : FldI Tryz.prog 27 7 7 3 := ⟨by kernel_rfl⟩
instance fl27_8 : FldI Tryz.prog 27 8 8 3 := ⟨by kernel_rfl⟩
instance st27 : StI Tryz.prog 27 [(0, 1), (1, 1), (2, 1), (3, 1), (4, 1), (5, 1), (6, 1), (7, 1), (8, 1)] := ⟨by kernel_rfl⟩
instance zc27 : ZcI Tryz.prog 27 [.nsl, .nsl, .nsl, .int .i64 0, .nsl, .nsl, .int .i64 0, .int .i64 0, .int .i64 0] := ⟨.agg #[.slice none 0 0, .slice none 0 0, .slice none 0 0, .int .i64 0, .slice none 0 0, .slice none 0 0, .int .i64 0, .int .i64 0, .int .i64 0], by kernel_rfl, rfl, rfl⟩
instance sl39 : SlI Tryz.prog 39 52 := ⟨by kernel_rfl⟩
instance ty50 : TyI Tryz.prog 50 true 7 := ⟨by kernel_rfl, by kernel_rfl⟩
instance fl50_0 : FldI Tryz.prog 50 0 0 3 := ⟨by kernel_rfl⟩
instance fl50_1 : FldI Tryz.prog 50 1 1 3 := ⟨by kernel_rfl⟩
instance fl50_2 : FldI Tryz.prog 50 2 2 3 := ⟨by kernel_rfl⟩
instance fl50_3 : FldI Tryz.prog 50 3 3 9 := ⟨by kernel_rfl⟩
instance fl50_4 : FldI Tryz.prog 50 4 4 4 := ⟨by kernel_rfl⟩
instance fl50_5 : FldI Tryz.prog 50 5 5 2 := ⟨by kernel_rfl⟩
instance fl50_6 : FldI Tryz.prog 50 6 6 3 := ⟨by kernel_rfl⟩
instance st50 : StI Tryz.prog 50 [(0, 1), (1, 1), (2, 1), (3, 1), (4, 1), (5, 1), (6, 1)] := ⟨by kernel_rfl⟩
instance zc50 : ZcI Tryz.prog 50 [.int .i64 0, .int .i64 0, .int .i64 0, .str ⟨#[]⟩, .bool false, .int .i64 0, .int .i64 0] := ⟨.agg #[.int .i64 0, .int .i64 0, .int .i64 0, .string ⟨#[]⟩, .bool false, .int .i64 0, .int .i64 0], by kernel_rfl, rfl, rfl⟩
instance ty52 : TyI Tryz.prog 52 true 13 := ⟨by kernel_rfl, by kernel_rfl⟩
instance fl52_0 : FldI Tryz.prog 52 0 0 3 := ⟨by kernel_rfl⟩
instance fl52_1 : FldI Tryz.prog 52 1 1 50 := ⟨by kernel_rfl⟩
instance fl52_2 : FldI Tryz.prog 52 2 8 23 := ⟨by kernel_rfl⟩
instance fl52_3 : FldI Tryz.prog 52 3 9 3 := ⟨by kernel_rfl⟩
instance fl52_4 : FldI Tryz.prog 52 4 10 3 := ⟨by kernel_rfl⟩
instance fl52_5 : FldI Tryz.prog 52 5 11 2 := ⟨by kernel_rfl⟩
instance fl52_6 : FldI Tryz.prog 52 6 12 23 := ⟨by kernel_rfl⟩
instance ty60 : TyI Tryz.prog 60 true 4 := ⟨by kernel_rfl, by kernel_rfl⟩
instance by60 : ByI Tryz.prog 60 48 := ⟨by kernel_rfl⟩
instance fl60_0 : FldI Tryz.prog 60 0 0 3 := ⟨by kernel_rfl⟩
instance fl60_1 : FldI Tryz.prog 60 1 1 23 := ⟨by kernel_rfl⟩
instance fl60_2 : FldI Tryz.prog 60 2 2 2 := ⟨by kernel_rfl⟩
instance fl60_3 : FldI Tryz.prog 60 3 3 2 := ⟨by kernel_rfl⟩
instance st60 : StI Tryz.prog 60 [(0, 1), (1, 1), (2, 1), (3, 1)] := ⟨by kernel_rfl⟩
instance zc60 : ZcI Tryz.prog 60 [.int .i64 0, .nsl, .int .i64 0, .int .i64 0] := ⟨.agg #[.int .i64 0, .slice none 0 0, .int .i64 0, .int .i64 0], by kernel_rfl, rfl, rfl⟩
instance ty63 : TyI Tryz.prog 63 true 13 := ⟨by kernel_rfl, by kernel_rfl⟩
instance by63 : ByI Tryz.prog 63 128 := ⟨by kernel_rfl⟩
instance fl63_0 : FldI Tryz.prog 63 0 0 3 := ⟨by kernel_rfl⟩
instance fl63_1 : FldI Tryz.prog 63 1 1 50 := ⟨by kernel_rfl⟩
instance fl63_2 : FldI Tryz.prog 63 2 8 23 := ⟨by kernel_rfl⟩
instance fl63_3 : FldI Tryz.prog 63 3 9 3 := ⟨by kernel_rfl⟩
instance fl63_4 : FldI Tryz.prog 63 4 10 2 := ⟨by kernel_rfl⟩
instance fl63_5 : FldI Tryz.prog 63 5 11 2 := ⟨by kernel_rfl⟩
instance fl63_6 : FldI Tryz.prog 63 6 12 2 := ⟨by kernel_rfl⟩
instance st63 : StI Tryz.prog 63 [(0, 1), (1, 7), (8, 1), (9, 1), (10, 1), (11, 1), (12, 1)] := ⟨by kernel_rfl⟩
instance zc63 : ZcI Tryz.prog 63 [.int .i64 0, .int .i64 0, .int .i64 0, .int .i64 0, .str ⟨#[]⟩, .bool false, .int .i64 0, .int .i64 0, .nsl, .int .i64 0, .int .i64 0, .int .i64 0, .int .i64 0] := ⟨.agg #[.int .i64 0, .int .i64 0, .int .i64 0, .int .i64 0, .string ⟨#[]⟩, .bool false, .int .i64 0, .int .i64 0, .slice none 0 0, .int .i64 0, .int .i64 0, .int .i64 0, .int .i64 0], by kernel_rfl, rfl, rfl⟩
instance ty67 : TyI Tryz.prog 67 false 1 := ⟨by kernel_rfl, by kernel_rfl⟩
instance zc67 : ZcI Tryz.prog 67 [.nfn] := ⟨.nilFunc, by kernel_rfl, rfl, rfl⟩
instance ty72 : TyI Tryz.prog 72 true 3 := ⟨by kernel_rfl, by kernel_rfl⟩
instance by72 : ByI Tryz.prog 72 32 := ⟨by kernel_rfl⟩
instance fl72_0 : FldI Tryz.prog 72 0 0 3 := ⟨by kernel_rfl⟩
instance fl72_1 : FldI Tryz.prog 72 1 1 3 := ⟨by kernel_rfl⟩
instance fl72_2 : FldI Tryz.prog 72 2 2 9 := ⟨by kernel_rfl⟩
instance st72 : StI Tryz.prog 72 [(0, 1), (1, 1), (2, 1)] := ⟨by kernel_rfl⟩
instance zc72 : ZcI Tryz.prog 72 [.int .i64 0, .int .i64 0, .str ⟨#[]⟩] := ⟨.agg #[.int .i64 0, .int .i64 0, .string ⟨#[]⟩], by kernel_rfl, rfl, rfl⟩
instance fl103_0 : FldI Tryz.prog 103 0 0 27 := ⟨by kernel_rfl⟩
instance st103 : StI Tryz.prog 103 [(0, 9)] := ⟨by kernel_rfl⟩
instance zc103 : ZcI Tryz.prog 103 [.nsl, .nsl, .nsl, .int .i64 0, .nsl, .nsl, .int .i64 0, .int .i64 0, .int .i64 0] := ⟨.agg #[.slice none 0 0, .slice none 0 0, .slice none 0 0, .int .i64 0, .slice none 0 0, .slice none 0 0, .int .i64 0, .int .i64 0, .int .i64 0], by kernel_rfl, rfl, rfl⟩
instance ty109 : TyI Tryz.prog 109 false 1 := ⟨by kernel_rfl, by kernel_rfl⟩
instance ty111 : TyI Tryz.prog 111 true 4 := ⟨by kernel_rfl, by kernel_rfl⟩
instance ar111 : ArI Tryz.prog 111 4 109 := ⟨by kernel_rfl⟩
instance zc111 : ZcI Tryz.prog 111 [.int .u64 0, .int .u64 0, .int .u64 0, .int .u64 0] := ⟨.agg #[.int .u64 0, .int .u64 0, .int .u64 0, .int .u64 0], by kernel_rfl, rfl, rfl⟩
instance ty134 : TyI Tryz.prog 134 false 1 := ⟨by kernel_rfl, by kernel_rfl⟩
instance sl134 : SlI Tryz.prog 134 4 := ⟨by kernel_rfl⟩
instance zc134 : ZcI Tryz.prog 134 [.nsl] := ⟨.slice none 0 0, by kernel_rfl, rfl, rfl⟩
instance sl179 : SlI Tryz.prog 179 182 := ⟨by kernel_rfl⟩
instance ni179 : NiI Tryz.prog 179 := ⟨.inl ⟨182, by kernel_rfl⟩⟩
instance ty182 : TyI Tryz.prog 182 true 8 := ⟨by kernel_rfl, by kernel_rfl⟩
instance by182 : ByI Tryz.prog 182 72 := ⟨by kernel_rfl⟩
instance fl182_0 : FldI Tryz.prog 182 0 0 3 := ⟨by kernel_rfl⟩
instance fl182_1 : FldI Tryz.prog 182 1 1 50 := ⟨by kernel_rfl⟩
instance st182 : StI Tryz.prog 182 [(0, 1), (1, 7)] := ⟨by kernel_rfl⟩
instance zc182 : ZcI Tryz.prog 182 [.int .i64 0, .int .i64 0, .int .i64 0, .int .i64 0, .str ⟨#[]⟩, .bool false, .int .i64 0, .int .i64 0] := ⟨.agg #[.int .i64 0, .int .i64 0, .int .i64 0, .int .i64 0, .string ⟨#[]⟩, .bool false, .int .i64 0, .int .i64 0], by kernel_rfl, rfl, rfl⟩
instance ud191 : UdI Tryz.prog 191 (.int .u64) := ⟨by kernel_rfl⟩
instance ar215 : ArI Tryz.prog 215 64 5 := ⟨by kernel_rfl⟩
instance sl227 : SlI Tryz.prog 227 2 := ⟨by kernel_rfl⟩
instance ni227 : NiI Tryz.prog 227 := ⟨.inl ⟨2, by kernel_rfl⟩⟩
instance ty230 : TyI Tryz.prog 230 false 1 := ⟨by kernel_rfl, by kernel_rfl⟩
instance sl230 : SlI Tryz.prog 230 23 := ⟨by kernel_rfl⟩
instance fl232_0 : FldI Tryz.prog 232 0 0 22 := ⟨by kernel_rfl⟩
instance fl232_1 : FldI Tryz.prog 232 1 1 134 := ⟨by kernel_rfl⟩
instance fl232_2 : FldI Tryz.prog 232 2 2 230 := ⟨by kernel_rfl⟩
instance fl232_3 : FldI Tryz.prog 232 3 3 50 := ⟨by kernel_rfl⟩
instance st232 : StI Tryz.prog 232 [(0, 1), (1, 1), (2, 1), (3, 7)] := ⟨by kernel_rfl⟩
instance zc232 : ZcI Tryz.prog 232 [.nsl, .nsl, .nsl, .int .i64 0, .int .i64 0, .int .i64 0, .str ⟨#[]⟩, .bool false, .int .i64 0, .int .i64 0] := ⟨.agg #[.slice none 0 0, .slice none 0 0, .slice none 0 0, .int .i64 0, .int .i64 0, .int .i64 0, .string ⟨#[]⟩, .bool false, .int .i64 0, .int .i64 0], by kernel_rfl, rfl, rfl⟩
instance fn16 : FnI Tryz.prog 16 := ⟨by kernel_rfl⟩
instance fn17 : FnI Tryz.prog 17 := ⟨by kernel_rfl⟩
instance fn18 : FnI Tryz.prog 18 := ⟨by kernel_rfl⟩
instance fn20 : FnI Tryz.prog 20 := ⟨by kernel_rfl⟩
instance fn21 : FnI Tryz.prog 21 := ⟨by kernel_rfl⟩
instance fn23 : FnI Tryz.prog 23 := ⟨by kernel_rfl⟩
instance fn24 : FnI Tryz.prog 24 := ⟨by kernel_rfl⟩
instance fn26 : FnI Tryz.prog 26 := ⟨by kernel_rfl⟩
instance fn27 : FnI Tryz.prog 27 := ⟨by kernel_rfl⟩
instance fn28 : FnI Tryz.prog 28 := ⟨by kernel_rfl⟩
instance fn29 : FnI Tryz.prog 29 := ⟨by kernel_rfl⟩
instance fn30 : FnI Tryz.prog 30 := ⟨by kernel_rfl⟩
instance fn31 : FnI Tryz.prog 31 := ⟨by kernel_rfl⟩
instance fn32 : FnI Tryz.prog 32 := ⟨by kernel_rfl⟩
instance fn33 : FnI Tryz.prog 33 := ⟨by kernel_rfl⟩
instance fn34 : FnI Tryz.prog 34 := ⟨by kernel_rfl⟩
instance fn39 : FnI Tryz.prog 39 := ⟨by kernel_rfl⟩
instance fn40 : FnI Tryz.prog 40 := ⟨by kernel_rfl⟩
instance fn41 : FnI Tryz.prog 41 := ⟨by kernel_rfl⟩
instance fn49 : FnI Tryz.prog 49 := ⟨by kernel_rfl⟩
instance fn50 : FnI Tryz.prog 50 := ⟨by kernel_rfl⟩
instance fn51 : FnI Tryz.prog 51 := ⟨by kernel_rfl⟩
instance fn52 : FnI Tryz.prog 52 := ⟨by kernel_rfl⟩
instance fn53 : FnI Tryz.prog 53 := ⟨by kernel_rfl⟩
instance fn54 : FnI Tryz.prog 54 := ⟨by kernel_rfl⟩
instance fn57 : FnI Tryz.prog 57 := ⟨by kernel_rfl⟩
instance fn58 : FnI Tryz.prog 58 := ⟨by kernel_rfl⟩
instance fn59 : FnI Tryz.prog 59 := ⟨by kernel_rfl⟩
instance fn60 : FnI Tryz.prog 60 := ⟨by kernel_rfl⟩
instance fn61 : FnI Tryz.prog 61 := ⟨by kernel_rfl⟩
instance fn67 : FnI Tryz.prog 67 := ⟨by kernel_rfl⟩
instance fn72 : FnI Tryz.prog 72 := ⟨by kernel_rfl⟩
instance fn73 : FnI Tryz.prog 73 := ⟨by kernel_rfl⟩
instance fn74 : FnI Tryz.prog 74 := ⟨by kernel_rfl⟩
instance fn75 : FnI Tryz.prog 75 := ⟨by kernel_rfl⟩
instance fn76 : FnI Tryz.prog 76 := ⟨by kernel_rfl⟩
instance fn77 : FnI Tryz.prog 77 := ⟨by kernel_rfl⟩
instance fn78 : FnI Tryz.prog 78 := ⟨by kernel_rfl⟩
instance fn79 : FnI Tryz.prog 79 := ⟨by kernel_rfl⟩
instance fn80 : FnI Tryz.prog 80 := ⟨by kernel_rfl⟩
instance fn81 : FnI Tryz.prog 81 := ⟨by kernel_rfl⟩
instance fn82 : FnI Tryz.prog 82 := ⟨by kernel_rfl⟩
instance fn83 : FnI Tryz.prog 83 := ⟨by kernel_rfl⟩
instance fn84 : FnI Tryz.prog 84 := ⟨by kernel_rfl⟩
instance fn85 : FnI Tryz.prog 85 := ⟨by kernel_rfl⟩
instance fn86 : FnI Tryz.prog 86 := ⟨by kernel_rfl⟩
instance fn87 : FnI Tryz.prog 87 := ⟨by kernel_rfl⟩
instance fn88 : FnI Tryz.prog 88 := ⟨by kernel_rfl⟩
instance fn89 : FnI Tryz.prog 89 := ⟨by kernel_rfl⟩
instance fn90 : FnI Tryz.prog 90 := ⟨by kernel_rfl⟩
instance fn91 : FnI Tryz.prog 91 := ⟨by kernel_rfl⟩
instance fn100 : FnI Tryz.prog 100 := ⟨by kernel_rfl⟩
instance fn101 : FnI Tryz.prog 101 := ⟨by kernel_rfl⟩
instance fn102 : FnI Tryz.prog 102 := ⟨by kernel_rfl⟩
instance fn103 : FnI Tryz.prog 103 := ⟨by kernel_rfl⟩
instance fn106 : FnI Tryz.prog 106 := ⟨by kernel_rfl⟩
instance fn107 : FnI Tryz.prog 107 := ⟨by kernel_rfl⟩
instance fn108 : FnI Tryz.prog 108 := ⟨by kernel_rfl⟩
instance fn109 : FnI Tryz.prog 109 := ⟨by kernel_rfl⟩
instance fn110 : FnI Tryz.prog 110 := ⟨by kernel_rfl⟩
instance fn118 : FnI Tryz.prog 118 := ⟨by kernel_rfl⟩
instance fn122 : FnI Tryz.prog 122 := ⟨by kernel_rfl⟩
instance fn123 : FnI Tryz.prog 123 := ⟨by kernel_rfl⟩
instance fn124 : FnI Tryz.prog 124 := ⟨by kernel_rfl⟩
instance fn125 : FnI Tryz.prog 125 := ⟨by kernel_rfl⟩
instance fn126 : FnI Tryz.prog 126 := ⟨by kernel_rfl⟩
instance fn127 : FnI Tryz.prog 127 := ⟨by kernel_rfl⟩
instance fn128 : FnI Tryz.prog 128 := ⟨by kernel_rfl⟩
instance fn129 : FnI Tryz.prog 129 := ⟨by kernel_rfl⟩
instance fn130 : FnI Tryz.prog 130 := ⟨by kernel_rfl⟩
instance fn131 : FnI Tryz.prog 131 := ⟨by kernel_rfl⟩
instance fn132 : FnI Tryz.prog 132 := ⟨by kernel_rfl⟩
instance fn133 : FnI Tryz.prog 133 := ⟨by kernel_rfl⟩
instance fn134 : FnI Tryz.prog 134 := ⟨by kernel_rfl⟩
instance fn135 : FnI Tryz.prog 135 := ⟨by kernel_rfl⟩
instance fn136 : FnI Tryz.prog 136 := ⟨by kernel_rfl⟩
instance fn137 : FnI Tryz.prog 137 := ⟨by kernel_rfl⟩
instance fn138 : FnI Tryz.prog 138 := ⟨by kernel_rfl⟩
instance fn139 : FnI Tryz.prog 139 := ⟨by kernel_rfl⟩
instance fn140 : FnI Tryz.prog 140 := ⟨by kernel_rfl⟩
instance fn141 : FnI Tryz.prog 141 := ⟨by kernel_rfl⟩
instance fn142 : FnI Tryz.prog 142 := ⟨by kernel_rfl⟩
instance fn143 : FnI Tryz.prog 143 := ⟨by kernel_rfl⟩
instance fn147 : FnI Tryz.prog 147 := ⟨by kernel_rfl⟩
instance fn148 : FnI Tryz.prog 148 := ⟨by kernel_rfl⟩
instance fn149 : FnI Tryz.prog 149 := ⟨by kernel_rfl⟩
instance fn150 : FnI Tryz.prog 150 := ⟨by kernel_rfl⟩
instance fn151 : FnI Tryz.prog 151 := ⟨by kernel_rfl⟩
instance fn152 : FnI Tryz.prog 152 := ⟨by kernel_rfl⟩
instance fn153 : FnI Tryz.prog 153 := ⟨by kernel_rfl⟩
instance fn161 : FnI Tryz.prog 161 := ⟨by kernel_rfl⟩
instance fn162 : FnI Tryz.prog 162 := ⟨by kernel_rfl⟩
instance fn163 : FnI Tryz.prog 163 := ⟨by kernel_rfl⟩
instance fn164 : FnI Tryz.prog 164 := ⟨by kernel_rfl⟩
instance fn165 : FnI Tryz.prog 165 := ⟨by kernel_rfl⟩
instance fn166 : FnI Tryz.prog 166 := ⟨by kernel_rfl⟩
instance fn167 : FnI Tryz.prog 167 := ⟨by kernel_rfl⟩
instance fn168 : FnI Tryz.prog 168 := ⟨by kernel_rfl⟩
instance fn169 : FnI Tryz.prog 169 := ⟨by kernel_rfl⟩
instance fn170 : FnI Tryz.prog 170 := ⟨by kernel_rfl⟩
instance fn171 : FnI Tryz.prog 171 := ⟨by kernel_rfl⟩
instance fn172 : FnI Tryz.prog 172 := ⟨by kernel_rfl⟩
instance fn173 : FnI Tryz.prog 173 := ⟨by kernel_rfl⟩
instance fn174 : FnI Tryz.prog 174 := ⟨by kernel_rfl⟩
instance fn175 : FnI Tryz.prog 175 := ⟨by kernel_rfl⟩
instance fn176 : FnI Tryz.prog 176 := ⟨by kernel_rfl⟩
instance fn177 : FnI Tryz.prog 177 := ⟨by kernel_rfl⟩
instance fn178 : FnI Tryz.prog 178 := ⟨by kernel_rfl⟩
instance fn179 : FnI Tryz.prog 179 := ⟨by kernel_rfl⟩
instance fn182 : FnI Tryz.prog 182 := ⟨by kernel_rfl⟩
instance fn183 : FnI Tryz.prog 183 := ⟨by kernel_rfl⟩
instance fn184 : FnI Tryz.prog 184 := ⟨by kernel_rfl⟩
instance fn185 : FnI Tryz.prog 185 := ⟨by kernel_rfl⟩
instance fn191 : FnI Tryz.prog 191 := ⟨by kernel_rfl⟩
instance fn192 : FnI Tryz.prog 192 := ⟨by kernel_rfl⟩
instance fn193 : FnI Tryz.prog 193 := ⟨by kernel_rfl⟩
instance fn194 : FnI Tryz.prog 194 := ⟨by kernel_rfl⟩
instance fn195 : FnI Tryz.prog 195 := ⟨by kernel_rfl⟩
instance fn196 : FnI Tryz.prog 196 := ⟨by kernel_rfl⟩
instance fn197 : FnI Tryz.prog 197 := ⟨by kernel_rfl⟩
instance fn198 : FnI Tryz.prog 198 := ⟨by kernel_rfl⟩
instance fn199 : FnI Tryz.prog 199 := ⟨by kernel_rfl⟩
instance fn200 : FnI Tryz.prog 200 := ⟨by kernel_rfl⟩
instance fn201 : FnI Tryz.prog 201 := ⟨by kernel_rfl⟩
instance fn202 : FnI Tryz.prog 202 := ⟨by kernel_rfl⟩
instance fn203 : FnI Tryz.prog 203 := ⟨by kernel_rfl⟩
instance fn204 : FnI Tryz.prog 204 := ⟨by kernel_rfl⟩
instance fn205 : FnI Tryz.prog 205 := ⟨by kernel_rfl⟩
instance fn206 : FnI Tryz.prog 206 := ⟨by kernel_rfl⟩
instance fn207 : FnI Tryz.prog 207 := ⟨by kernel_rfl⟩
instance fn208 : FnI Tryz.prog 208 := ⟨by kernel_rfl⟩
instance fn214 : FnI Tryz.prog 214 := ⟨by kernel_rfl⟩
instance fn215 : FnI Tryz.prog 215 := ⟨by kernel_rfl⟩
instance fn216 : FnI Tryz.prog 216 := ⟨by kernel_rfl⟩
instance fn217 : FnI Tryz.prog 217 := ⟨by kernel_rfl⟩
instance fn218 : FnI Tryz.prog 218 := ⟨by kernel_rfl⟩
instance fn219 : FnI Tryz.prog 219 := ⟨by kernel_rfl⟩
instance fn222 : FnI Tryz.prog 222 := ⟨by kernel_rfl⟩
instance fn223 : FnI Tryz.prog 223 := ⟨by kernel_rfl⟩
instance fn224 : FnI Tryz.prog 224 := ⟨by kernel_rfl⟩
instance fn226 : FnI Tryz.prog 226 := ⟨by kernel_rfl⟩
instance fn227 : FnI Tryz.prog 227 := ⟨by kernel_rfl⟩
instance fn228 : FnI Tryz.prog 228 := ⟨by kernel_rfl⟩
theorem mixed : Tryz.prog.follows .mixedOrders = true := by kernel_rfl
end Go.Av

namespace Go.Av
open Go.Proofs
set_option maxRecDepth 10000
set_option linter.unusedSimpArgs false
set_option linter.unusedVariables false
abbrev lets : ByteArray := ⟨#[97, 98, 99, 100, 101, 102, 103, 104, 105, 106, 107, 108, 109, 110, 111, 112, 113, 114, 115, 116, 117, 118, 119, 120, 121, 122, 48, 49, 50, 51, 52, 53, 54, 55, 56, 57]⟩
theorem slite_IndexByte (s : ByteArray) (c : Int) (H : Heap) : AC Tryz.prog 222 [.str s, .int .u8 c] H (Ret (.int .i64 (Lib.indexByte s.data.toList c.toNat.toUInt8)) H) := by
  refine AC.body (N := 8) [.tmp 4] Tryz.func222 rfl rfl rfl (Nat.le_of_ble_eq_true rfl) fun B hB => ?_
  repeat (refine aw_seq ?_)
  refine Z3 ?_
  repeat (first | refine then_nrm ?_ | refine aw_seq ?_)
  refine Z5 ?_
  refine Z6 ?_
  refine ao1 (by decide) (o_indexByteStr Tryz.func230 (by kernel_rfl) (by kernel_rfl) (by kernel_rfl) (by kernel_rfl) rfl rfl) ?_
  refine Z2 ?_
  repeat (first | refine then_nrm ?_ | refine aw_ret ?_)
  exact Z7
theorem strings_IndexByte (s : ByteArray) (c : Int) (H : Heap) : AC Tryz.prog 207 [.str s, .int .u8 c] H (Ret (.int .i64 (Lib.indexByte s.data.toList c.toNat.toUInt8)) H) := by
  refine AC.body (N := 8) [.tmp 4] Tryz.func207 rfl rfl rfl (Nat.le_of_ble_eq_true rfl) fun B hB => ?_
  repeat (refine aw_seq ?_)
  refine Z3 ?_
  repeat (first | refine then_nrm ?_ | refine aw_seq ?_)
  refine Z5 ?_
  refine Z6 ?_
  refine ao_ret (slite_IndexByte _ _ _) rfl (by decide) ?_
  refine Z2 ?_
  repeat (first | refine then_nrm ?_ | refine aw_ret ?_)
  exact Z7
theorem utf8_ValidRune (c : Int) (H : Heap) : AC Tryz.prog 208 [.int .i32 c] H (Ret (.bool (Utf8.valid c)) H) := by
  refine AC.body (N := 17) [.tmp 2] Tryz.func208 rfl rfl rfl (Nat.le_of_ble_eq_true rfl) fun B hB => ?_
  repeat (refine aw_seq ?_)
  refine Za ?_
  repeat (first | refine then_nrm ?_ | refine aw_seq ?_ | refine aw_block ?_)
  refine aw_out 3 (.bool (decide (0 ≤ c) && decide (c < 55296))) ?_ ?_
  · refine Z6 ?_
    refine Zd ?_
    refine ao_split rfl rfl (fun hg2 => ?_) (fun hg2 => ?_)
    · refine Ze ?_
      refine Zf ?_
      exact Zj
    · refine Zo ?_
      exact Zi
  repeat (refine then_nrm ?_)
  refine aw_cond rfl (fun hc => ?_) (fun hc => ?_)
  · repeat (refine aw_seq ?_)
    refine Za ?_
    repeat (first | refine then_nrm ?_ | refine then_ret ?_ | refine blk_ret ?_ | refine aw_ret ?_)
    rw [show Utf8.valid c = true by simp [Utf8.valid]; simp at hc; omega]
    exact Z7
  · repeat (refine aw_seq ?_)
    refine aw_out 10 (.bool (decide (57343 < c) && decide (c ≤ 1114111))) ?_ ?_
    · refine Zr ?_
      refine ao_split rfl rfl (fun hg2 => ?_) (fun hg2 => ?_)
      · refine Zt ?_
        exact Zj
      · refine Zo ?_
        exact Zi
    repeat (refine then_nrm ?_)
    refine aw_cond rfl (fun hc => ?_) (fun hc => ?_)
    · repeat (refine aw_seq ?_)
      refine Za ?_
      repeat (first | refine then_nrm ?_ | refine then_ret ?_ | refine blk_ret ?_ | refine aw_ret ?_)
      rw [show Utf8.valid c = true by simp [Utf8.valid]; simp at hc; omega]
      exact Z7
    · repeat (first | refine then_nrm ?_ | refine blk_nrm ?_ | refine aw_seq ?_ | refine aw_skip ?_)
      refine Za ?_
      repeat (first | refine then_nrm ?_ | refine aw_ret ?_)
      rw [show Utf8.valid c = false by simp [Utf8.valid]; simp at *; omega]
      exact Z7
end Go.Av

namespace Go.Av
open Go.Proofs
set_option maxRecDepth 10000
set_option linter.unusedSimpArgs false
set_option linter.unusedVariables false
theorem lets_low : ∀ i : Nat, i < 36 → (lets.get! i).toNat < 128 := by decide +kernel
theorem lets_get : ∀ i : Nat, i < 36 → lets[i]? = some (lets.get! i) := by decide +kernel
theorem lets_size : lets.size = 36 := by decide +kernel
def ixl (c : Int) : Int := if c < 128 then Lib.indexByte lets.data.toList c.toNat.toUInt8 else -1
theorem ixl_in {c : Int} (h : 0 ≤ c) : decide (0 ≤ ixl c) = inLet c := by
  unfold ixl
  by_cases h1 : c < 128
  · rw [if_pos h1]
    obtain ⟨n, rfl⟩ : ∃ n : Nat, c = n := ⟨c.toNat, by omega⟩
    have : ∀ n : Nat, n < 128 → decide (0 ≤ Lib.indexByte lets.data.toList ((n : Int).toNat.toUInt8)) = inLet n := by decide +kernel
    exact this n (by omega)
  · rw [if_neg h1]
    simp [inLet]
    omega
theorem indexByte_none {l : List UInt8} {c : UInt8} (h : c ∉ l) : Lib.indexByte l c = -1 := by
  induction l with
  | nil => rfl
  | cons b l ih =>
    simp only [List.mem_cons, not_or] at h
    unfold Lib.indexByte
    rw [ih h.2, if_neg (by simpa using fun e => h.1 e.symm)]
    rfl
theorem lets_high {b : UInt8} (h : 128 ≤ b.toNat) (l h' : Nat) : Lib.indexByte (lets.extract l h').data.toList b = -1 := by
  refine indexByte_none fun hm => ?_
  have hm2 : b ∈ lets.data.toList := by
    rw [ByteArray.data_extract] at hm
    rw [Array.toList_extract, List.extract_eq_take_drop] at hm
    exact List.mem_of_mem_drop (List.mem_of_mem_take hm)
  have : ∀ x ∈ lets.data.toList, x.toNat < 128 := by decide +kernel
  have := this b hm2
  omega
set_option maxHeartbeats 0 in
theorem strings_IndexRune (c : Int) (hc0 : 0 ≤ c) (hc1 : c ≤ 1114111) (H : Heap) : AC Tryz.prog 185 [.str lets, .int .i32 c] H (Ret (.int .i64 (ixl c)) H) := by
  refine AC.body (N := 187) [.tmp 4] Tryz.func185 rfl rfl rfl (Nat.le_of_ble_eq_true rfl) fun B hB => ?_
  repeat (refine aw_seq ?_)
  refine Z3 ?_
  repeat (first | refine then_nrm ?_ | refine aw_seq ?_ | refine aw_block ?_)
  refine aw_out 160 (.bool (decide (c < 128))) ?_ ?_
  · refine Z6 ?_
    refine Zd ?_
    refine ao_split rfl rfl (fun hg2 => ?_) (fun hg2 => ?_)
    · refine Ze ?_
      refine Zf ?_
      refine Zh ?_
      exact Zu
    · refine Zo ?_
      exact Zi
  repeat (refine then_nrm ?_)
  refine aw_cond rfl (fun hc => ?_) (fun hc => ?_)
  · simp at hc
    repeat (refine aw_seq ?_)
    refine Z5 ?_
    refine Z6 ?_
    refine ao1 (by decide) (o_conv_int rfl (show IntKind.u8.wrap c = c by simp [IntKind.wrap, IntKind.signed, IntKind.bits]; omega)) ?_
    refine ao_ret (strings_IndexByte _ _ _) rfl (by decide) ?_
    refine Z2 ?_
    try dsimp only
    repeat (first | refine then_nrm ?_ | refine blk_ret ?_ | refine aw_ret ?_)
    rw [show Lib.indexByte lets.data.toList c.toNat.toUInt8 = ixl c by rw [ixl, if_pos hc]]
    exact Z7
  have hc128 : 128 ≤ c := by simp at hc; omega
  rw [show ixl c = -1 by rw [ixl, if_neg (by omega)]]
  repeat (refine aw_seq ?_)
  refine Zv ?_
  refine Zx ?_
  repeat (refine then_nrm ?_)
  refine aw_cond rfl (fun hc => ?_) (fun hc => ?_)
  · refine aw_seq ?_
    refine aw_rangeStr (s := lets) rfl (by decide) (by decide) (by decide) (by decide) (by decide) (by decide) (by decide) (fun _ => True) (fun _ => []) trivial Sub.nil ?_ ?_
    · intro pos r B' hp _ hB'
      rw [lets_size] at hp
      have hlow := lets_low pos hp
      rw [decode_low lets pos hlow]
      repeat (first | refine aw_seq ?_ | refine aw_block ?_)
      refine aw_region ?_
      refine Zy ?_
      refine Zy ?_
      refine Zz ?_
      try dsimp only
      repeat (first | refine then_nrm ?_ | refine aw_seq ?_)
      refine Zv ?_
      refine Z10 ?_
      repeat (refine then_nrm ?_)
      refine aw_cond rfl (fun hc => ?_) (fun hc => ?_)
      · simp at hc; omega
      · repeat (first | refine then_nrm ?_ | refine blk_nrm ?_ | refine aw_skip ?_)
        exact ⟨trivial, (by repeat (first | exact Sub.nil | refine Sub.cons (by rfl) ?_)), rfl⟩
    · intro pos r hp _
      repeat (first | refine then_nrm ?_ | refine aw_seq ?_)
      refine Z3 ?_
      repeat (first | refine then_nrm ?_ | refine blk_ret ?_ | refine aw_ret ?_)
      exact Z7
  · repeat (refine aw_seq ?_)
    refine Zv ?_
    refine ao_ret (utf8_ValidRune _ _) rfl (by decide) ?_
    refine Z11 ?_
    refine Z9 ?_
    repeat (refine then_nrm ?_)
    refine aw_cond rfl (fun hc => ?_) (fun hc => ?_)
    · repeat (refine aw_seq ?_)
      refine Z3 ?_
      repeat (first | refine then_nrm ?_ | refine blk_ret ?_ | refine aw_ret ?_)
      exact Z7
    · have hv : Utf8.valid c = true := by simpa using hc
      obtain ⟨h2, h4, hb⟩ := encode_high hc128 hv
      obtain ⟨m, hm⟩ : ∃ m, (Utf8.encode c).data.toList.length = m + 1 := ⟨_, (Nat.succ_pred (by omega : (Utf8.encode c).data.toList.length ≠ 0)).symm⟩
      have hsz : (Utf8.encode c).size = m + 1 := by show (Utf8.encode c).data.size = m + 1; rw [← Array.length_toList, hm]
      obtain ⟨bl, hbl, hbm⟩ : ∃ bl, (Utf8.encode c)[m]? = some bl ∧ bl ∈ (Utf8.encode c).data.toList := by
        have hlt : m < (Utf8.encode c).size := by omega
        refine ⟨(Utf8.encode c)[m], getElem?_pos (Utf8.encode c) m hlt, ?_⟩
        rw [ByteArray.getElem_eq_getElem_data]
        exact Array.getElem_mem_toList _
      have hb128 := hb bl hbm
      have hlow := lets_low m (by omega)
      have hlm := lets_get m (by omega)
      repeat (first | refine aw_seq ?_ | refine aw_scope ?_)
      refine Zv ?_
      refine ao1 (by decide) (o_runeStr rfl) ?_
      refine ao1 (by decide) (o_assign (v := .str _) rfl) ?_
      refine ao_nil ?_
      repeat (first | refine then_nrm ?_ | refine aw_seq ?_)
      refine Z5 ?_
      refine Z12 ?_
      refine ao1 (by decide) (o_sub (r := (m : Int)) rfl rfl (by rw [hsz, show ((m + 1 : Nat) : Int) - 1 = (m : Int) by omega]; exact wrap64_ok (by omega) (by omega))) ?_
      refine Z2 ?_
      repeat (first | refine then_nrm ?_ | refine aw_seq ?_)
      refine Z13 ?_
      repeat (first | refine then_nrm ?_ | refine aw_seq ?_)
      refine Z3 ?_
      repeat (first | refine then_nrm ?_ | refine aw_seq ?_ | refine aw_block ?_)
      refine aw_loop (G := Unit) (fun _ => True) (fun _ => [(0, .str lets), (7, .str (Utf8.encode c)), (8, .int .i64 (m : Int)), (9, .int .i64 (m : Int))]) (fun _ => H ++ []) (fun _ => 0) () trivial (by repeat (first | exact Sub.nil | refine Sub.cons (by rfl) ?_)) (Fit.refl _ _) ?_
      rintro _ _
      repeat (refine aw_seq ?_)
      refine Zv ?_
      refine Z4 ?_
      refine Z12 ?_
      refine Z14 ?_
      repeat (refine then_nrm ?_)
      refine aw_cond rfl (fun hc => ?_) (fun hc => ?_)
      · repeat (first | refine then_nrm ?_ | refine aw_seq ?_ | refine aw_block ?_ | refine aw_skip ?_ | refine aw_scope ?_)
        refine Z15 ?_
        refine Z16 ?_
        refine Z17 ?_
        refine aq0 2 rfl (by decide +kernel) (by decide) (fun _ => o_indexStr rfl rfl (by omega) hlm) ?_
        refine aq0 3 rfl (by decide +kernel) (by decide) (fun _ => o_move (v := .str _) rfl) ?_
        refine Z18 ?_
        refine aq0 5 rfl (by decide +kernel) (by decide) (fun _ => o_indexStr rfl rfl (by omega) hbl) ?_
        refine aq0 6 rfl (by decide +kernel) (by decide) (fun _ => o_ne rfl rfl) ?_
        refine Z19 ?_
        repeat (refine then_nrm ?_)
        refine aw_cond rfl (fun hc => ?_) (fun hc => ?_)
        · repeat (refine aw_seq ?_)
          refine Z15 ?_
          refine Z16 ?_
          refine Z17 ?_
          refine aq0 2 rfl (by decide +kernel) (by decide) (fun _ => o_add rfl rfl (wrap64_ok (by omega) (by omega))) ?_
          refine aq0 3 rfl (by decide +kernel) (by decide) (fun _ => o_sliceStr (l := m + 1) rfl (.some rfl rfl) .none (by rw [lets_size]; omega) (Nat.le_refl _)) ?_
          refine aq0 4 rfl (by decide +kernel) (by decide) (fun _ => o_move (v := .str _) rfl) ?_
          refine Z1a ?_
          refine aq0 6 rfl (by decide +kernel) (by decide) (fun _ => o_indexStr rfl rfl (by omega) hbl) ?_
          refine aq02 7 rfl (by decide +kernel) (by decide) (fun _ => V2.call (strings_IndexByte (lets.extract (m + 1) lets.size) (bl.toNat : Int) _) rfl) ?_
          refine Z1b ?_
          refine Z19 ?_
          rw [show ((bl.toNat : Int).toNat.toUInt8) = bl by simp, lets_high hb128]
          repeat (first | refine then_nrm ?_ | refine aw_seq ?_)
          refine Zv ?_
          refine Z14 ?_
          repeat (refine then_nrm ?_)
          refine aw_cond rfl (fun hc => ?_) (fun hc => ?_)
          · repeat (refine aw_seq ?_)
            refine Z3 ?_
            repeat (first | refine then_nrm ?_ | refine then_ret ?_ | refine blk_ret ?_ | refine aw_ret ?_)
            exact Z7
          · simp at hc
        · simp at hc
          omega
      · simp [lets_size] at hc
        omega
end Go.Av

namespace Go.Av
open Go.Proofs
set_option maxRecDepth 10000
set_option linter.unusedSimpArgs false
set_option linter.unusedVariables false
theorem strings_ContainsRune (c : Int) (h0 : 0 ≤ c) (h1 : c ≤ 1114111) (H : Heap) : AC Tryz.prog 152 [.str lets, .int .i32 c] H (Ret (.bool (inLet c)) H) := by
  refine AC.body (N := 9) [.tmp 4] Tryz.func152 rfl rfl rfl (Nat.le_of_ble_eq_true rfl) fun B hB => ?_
  repeat (refine aw_seq ?_)
  refine Za ?_
  repeat (first | refine then_nrm ?_ | refine aw_seq ?_)
  refine Z5 ?_
  refine Z6 ?_
  refine ao_ret (strings_IndexRune _ (by assumption) (by assumption) _) rfl (by decide) ?_
  refine Z1c ?_
  refine Z9 ?_
  repeat (first | refine then_nrm ?_ | refine aw_ret ?_)
  rw [← ixl_in h0]
  exact Z7
theorem graph_Tag_1 (c : Int) (h0 : 0 ≤ c) (h1 : c ≤ 1114111) (H : Heap) : AC Tryz.prog 151 [.int .i32 c] H (Ret (.bool (!inLet c)) H) := by
  refine AC.body (N := 6) [.tmp 2] Tryz.func151 rfl rfl rfl (Nat.le_of_ble_eq_true rfl) fun B hB => ?_
  repeat (refine aw_seq ?_)
  refine Za ?_
  repeat (first | refine then_nrm ?_ | refine aw_seq ?_)
  refine Zv ?_
  refine ao_ret (strings_ContainsRune _ (by assumption) (by assumption) _) rfl (by decide) ?_
  refine Z11 ?_
  refine Z9 ?_
  repeat (first | refine then_nrm ?_ | refine aw_ret ?_)
  exact Z7
theorem str_get {s : ByteArray} {k : Nat} (h : k < s.size) : ∃ b : UInt8, s[k]? = some b ∧ s.data.toList[k]? = some b ∧ s.get! k = b := by
  refine ⟨s[k], getElem?_pos s k h, ?_, ?_⟩
  · rw [Array.getElem?_toList]; exact getElem?_pos s.data k h
  · show s.get! k = _
    simp [ByteArray.get!, getElem!_pos, h]
    rfl
theorem str_len (s : ByteArray) : s.data.toList.length = s.size := by rw [Array.length_toList]; rfl
theorem dec_ok {s : ByteArray} {k : Nat} {b : UInt8} (h : s.get! k = b) : inLet ((Utf8.decode s k).1 : Int) = tagb b ∧ (Utf8.decode s k).1 ≤ 1114111 ∧ (tagb b = true → (Utf8.decode s k).2 = 1) := by
  by_cases hb : b.toNat < 128
  · have := decode_low s k (by rw [h]; exact hb)
    rw [this, h]
    exact ⟨rfl, by simp only; omega, fun _ => rfl⟩
  · have := decode_high s k (by rw [h]; omega)
    have hn : tagb b = false := by simp [tagb, inLet]; omega
    refine ⟨?_, this.2, fun h => by rw [hn] at h; cases h⟩
    rw [hn]
    simp [inLet]
    omega
theorem strings_indexFunc (s : ByteArray) (H : Heap) : AC Tryz.prog 206 [.str s, .fn (.func 151) [] [], .bool true] H (Ret (.int .i64 (ixf (fun b => !tagb b) s.data.toList)) H) := by
  refine AC.body (N := 21) [.tmp 6] Tryz.func206 rfl rfl rfl (Nat.le_of_ble_eq_true rfl) fun B hB => ?_
  repeat (refine aw_seq ?_)
  refine Z3 ?_
  refine then_nrm ?_
  refine aw_seq ?_
  refine aw_rangeStr (s := s) rfl (by decide) (by decide) (by decide) (by decide) (by decide) (by decide) (by decide) (fun k => k ≤ s.size ∧ ∀ b ∈ s.data.toList.take k, (!tagb b) = false) (fun _ => [(1, .fn (.func 151) [] []), (2, .bool true)]) ⟨Nat.zero_le _, by simp⟩ (by repeat (first | exact Sub.nil | refine Sub.cons (by rfl) ?_)) ?_ ?_
  · rintro k r B' hp ⟨hk, hno⟩ hB'
    obtain ⟨b, h1, h2, h3⟩ := str_get hp
    obtain ⟨d1, d2, d3⟩ := dec_ok h3
    generalize Utf8.decode s k = q at d1 d2 d3
    repeat (first | refine aw_seq ?_ | refine aw_block ?_)
    refine aw_region ?_
    refine Zy ?_
    refine Zy ?_
    refine Zz ?_
    repeat (first | refine then_nrm ?_ | refine aw_seq ?_)
    refine Z1e ?_
    refine Z6 ?_
    refine ao_retv (graph_Tag_1 (q.1 : Int) (by omega) (by omega) _) rfl rfl (by decide) ?_
    refine Zc ?_
    refine ao1 (by decide) (o_beq rfl rfl) ?_
    refine ao_nil ?_
    rw [d1]
    repeat (refine then_nrm ?_)
    refine aw_cond rfl (fun hc => ?_) (fun hc => ?_)
    · have hb : (!tagb b) = true := by simpa using hc
      repeat (refine aw_seq ?_)
      refine Z13 ?_
      repeat (first | refine then_nrm ?_ | refine then_ret ?_ | refine blk_ret ?_ | refine aw_ret ?_)
      rw [ixf_some (p := fun b => !tagb b) h2 hb hno]
      exact Z7
    · have hb : (!tagb b) = false := by simpa using hc
      have hq := d3 (by simpa using hb)
      repeat (first | refine then_nrm ?_ | refine blk_nrm ?_ | refine aw_skip ?_)
      rw [hq]
      refine ⟨⟨by omega, ?_⟩, (by repeat (first | exact Sub.nil | refine Sub.cons (by rfl) ?_)), rfl⟩
      rw [take_snoc_get h2]
      intro y hy
      rcases List.mem_append.1 hy with h | h
      · exact hno y h
      · simp only [List.mem_singleton] at h
        subst h
        exact hb
  · rintro k r hp ⟨hk, hno⟩
    have : k = s.size := by omega
    subst this
    rw [← str_len, List.take_length] at hno
    rw [ixf_none (p := fun b => !tagb b) hno]
    repeat (first | refine then_nrm ?_ | refine aw_seq ?_)
    refine Z3 ?_
    repeat (first | refine then_nrm ?_ | refine aw_ret ?_)
    exact Z7
theorem strings_IndexFunc (s : ByteArray) (H : Heap) : AC Tryz.prog 184 [.str s, .fn (.func 151) [] []] H (Ret (.int .i64 (ixf (fun b => !tagb b) s.data.toList)) H) := by
  refine AC.body (N := 8) [.tmp 4] Tryz.func184 rfl rfl rfl (Nat.le_of_ble_eq_true rfl) fun B hB => ?_
  repeat (refine aw_seq ?_)
  refine Z3 ?_
  repeat (first | refine then_nrm ?_ | refine aw_seq ?_)
  refine Z5 ?_
  refine Z1d ?_
  refine ao_ret (strings_indexFunc _ _) rfl (by decide) ?_
  refine Z2 ?_
  repeat (first | refine then_nrm ?_ | refine aw_ret ?_)
  exact Z7
theorem strings_ContainsFunc (s : ByteArray) (H : Heap) : AC Tryz.prog 150 [.str s, .fn (.func 151) [] []] H (Ret (.bool (s.data.toList.any fun b => !tagb b)) H) := by
  refine AC.body (N := 9) [.tmp 4] Tryz.func150 rfl rfl rfl (Nat.le_of_ble_eq_true rfl) fun B hB => ?_
  repeat (refine aw_seq ?_)
  refine Za ?_
  repeat (first | refine then_nrm ?_ | refine aw_seq ?_)
  refine Z5 ?_
  refine Z1d ?_
  refine ao_ret (strings_IndexFunc _ _) rfl (by decide) ?_
  refine Z1c ?_
  refine Z9 ?_
  repeat (first | refine then_nrm ?_ | refine aw_ret ?_)
  rw [← ixf_nonneg]
  exact Z7
theorem graph_Tag (s : ByteArray) (H : Heap) : AC Tryz.prog 102 [.str s] H (Ret (.bool (tagok s)) H) := by
  rw [show tagok s = (decide ((s.size : Int) ≤ 16) && !(s.data.toList.any fun b => !tagb b)) by simp [tagok, List.all_eq_not_any_not]]
  refine AC.body (N := 11) [.tmp 2] Tryz.func102 rfl rfl rfl (Nat.le_of_ble_eq_true rfl) fun B hB => ?_
  repeat (refine aw_seq ?_)
  refine Za ?_
  repeat (first | refine then_nrm ?_ | refine aw_seq ?_)
  refine aw_out 2 (.bool (decide ((s.size : Int) ≤ 16) && !(s.data.toList.any fun b => !tagb b))) ?_ ?_
  · refine Z4 ?_
    refine Z12 ?_
    refine Zd ?_
    refine ao_split rfl rfl (fun hg3 => ?_) (fun hg3 => ?_)
    · refine ao_y1 rfl rfl (by decide) (o_move (v := .str _) rfl) ?_
      refine ao_y rfl rfl (by decide) (V2.call (strings_ContainsFunc _ _) rfl) ?_
      refine Z1f ?_
      refine Zh ?_
      exact Z1g
    · refine Z1i ?_
      exact Zi
  repeat (first | refine then_nrm ?_ | refine aw_ret ?_)
  exact Z7
end Go.Av

namespace Go.Av
open Go.Proofs
set_option maxRecDepth 10000
set_option linter.unusedSimpArgs false
set_option linter.unusedVariables false
theorem when_near (t : Int) (H : Heap) : AC Tryz.prog 88 [.int .i64 t] H (Ret (.int .i64 (near t)) H) := by
  refine AC.body (N := 6) [.tmp 2] Tryz.func88 rfl rfl rfl (Nat.le_of_ble_eq_true rfl) fun B hB => ?_
  repeat (refine aw_seq ?_)
  refine Z3 ?_
  repeat (first | refine then_nrm ?_ | refine aw_seq ?_)
  refine Zv ?_
  refine Z1j ?_
  refine ao1 (by decide) (o_max rfl rfl rfl) ?_
  refine Z2 ?_
  repeat (first | refine then_nrm ?_ | refine aw_ret ?_)
  exact Z7
theorem when_Plus (t l : Int) (H : Heap) : AC Tryz.prog 39 [.int .i64 t, .int .i64 l] H (Ret (.int .i64 (plus t l)) H) := by
  have h1 := near_in t
  have h2 := near_in l
  refine AC.body (N := 14) [.tmp 4] Tryz.func39 rfl rfl rfl (Nat.le_of_ble_eq_true rfl) fun B hB => ?_
  repeat (refine aw_seq ?_)
  refine Z3 ?_
  repeat (first | refine then_nrm ?_ | refine aw_seq ?_)
  refine Zv ?_
  refine Z1k ?_
  refine Z6 ?_
  refine Z1k ?_
  refine Z6 ?_
  refine Z1k ?_
  refine ao1 (by decide) (o_sub rfl rfl (wrap64_ok (by omega) (by omega))) ?_
  refine Z1j ?_
  refine Z1m ?_
  repeat (first | refine then_nrm ?_ | refine aw_ret ?_)
  exact Z7
theorem when_Right (t : Int) (H : Heap) : AC Tryz.prog 74 [.int .i64 t] H (Ret (.bool (decide (0 ≤ t) && decide (t ≤ 4611686018427387904))) H) := by
  refine AC.body (N := 9) [.tmp 2] Tryz.func74 rfl rfl rfl (Nat.le_of_ble_eq_true rfl) fun B hB => ?_
  repeat (refine aw_seq ?_)
  refine Za ?_
  repeat (first | refine then_nrm ?_ | refine aw_seq ?_)
  refine aw_out 2 (.bool (decide (0 ≤ t) && decide (t ≤ 4611686018427387904))) ?_ ?_
  · refine Z6 ?_
    refine Z1n ?_
    refine ao_split rfl rfl (fun hg2 => ?_) (fun hg2 => ?_)
    · refine Zt ?_
      exact Zj
    · refine Zo ?_
      exact Zi
  repeat (first | refine then_nrm ?_ | refine aw_ret ?_)
  exact Z7
def cmpI (a b : Int) : Int := if a < b then -1 else if b < a then 1 else 0
theorem cmp_isNaN (t : Int) (H : Heap) : AC Tryz.prog 169 [.int .i64 t] H (Ret (.bool false) H) := by
  refine AC.body (N := 6) [.tmp 2] Tryz.func169 rfl rfl rfl (Nat.le_of_ble_eq_true rfl) fun B hB => ?_
  repeat (refine aw_seq ?_)
  refine Za ?_
  repeat (first | refine then_nrm ?_ | refine aw_seq ?_)
  refine Z1o ?_
  refine Z1p ?_
  refine Z9 ?_
  repeat (first | refine then_nrm ?_ | refine aw_ret ?_)
  rw [show (t != t) = false by simp]
  exact Z7
theorem cmp_Compare (a b : Int) (H : Heap) : AC Tryz.prog 136 [.int .i64 a, .int .i64 b] H (Ret (.int .i64 (cmpI a b)) H) := by
  refine AC.body (N := 20) [.tmp 4] Tryz.func136 rfl rfl rfl (Nat.le_of_ble_eq_true rfl) fun B hB => ?_
  repeat (refine aw_seq ?_)
  refine Z3 ?_
  repeat (first | refine then_nrm ?_ | refine aw_seq ?_)
  refine Zv ?_
  refine Z1q ?_
  refine Z9 ?_
  repeat (first | refine then_nrm ?_ | refine aw_seq ?_)
  refine Zv ?_
  refine Z1q ?_
  refine Z9 ?_
  repeat (first | refine then_nrm ?_ | refine aw_seq ?_)
  refine Z1r ?_
  refine ao_nil ?_
  repeat (refine then_nrm ?_)
  refine aw_cond rfl (fun hc => ?_) (fun hc => ?_)
  · cases hc
  repeat (first | refine then_nrm ?_ | refine aw_seq ?_ | refine aw_skip ?_)
  refine Z1r ?_
  refine ao_nil ?_
  repeat (refine then_nrm ?_)
  refine aw_cond rfl (fun hc => ?_) (fun hc => ?_)
  · cases hc
  repeat (first | refine then_nrm ?_ | refine aw_seq ?_ | refine aw_skip ?_)
  refine Z1o ?_
  refine Z14 ?_
  repeat (refine then_nrm ?_)
  refine aw_cond rfl (fun hc => ?_) (fun hc => ?_)
  · repeat (refine aw_seq ?_)
    refine Z3 ?_
    repeat (first | refine then_nrm ?_ | refine then_ret ?_ | refine aw_ret ?_)
    rw [show cmpI a b = -1 by simp at hc; simp [cmpI, hc]]
    exact Z7
  · repeat (first | refine then_nrm ?_ | refine aw_seq ?_ | refine aw_skip ?_)
    refine Z1o ?_
    refine Z1t ?_
    repeat (refine then_nrm ?_)
    refine aw_cond rfl (fun hc => ?_) (fun hc => ?_)
    · repeat (refine aw_seq ?_)
      refine Z3 ?_
      repeat (first | refine then_nrm ?_ | refine then_ret ?_ | refine aw_ret ?_)
      rw [show cmpI a b = 1 by simp at *; unfold cmpI; rw [if_neg (by omega), if_pos (by omega)]]
      exact Z7
    · repeat (first | refine then_nrm ?_ | refine aw_seq ?_ | refine aw_skip ?_)
      refine Z3 ?_
      repeat (first | refine then_nrm ?_ | refine aw_ret ?_)
      rw [show cmpI a b = 0 by simp at *; unfold cmpI; rw [if_neg (by omega), if_neg (by omega)]]
      exact Z7
abbrev eI (i : Int) : List AV := [.int .i64 i]
end Go.Av

namespace Go.Av
open Go.Proofs
set_option maxRecDepth 10000
set_option linter.unusedSimpArgs false
set_option linter.unusedVariables false
theorem spec_within (n a b : Int) (H : Heap) : AC Tryz.prog 182 [.int .i64 n, .int .i64 a, .int .i64 b] H (Ret (.bool (decide (a ≤ n) && decide (n ≤ b))) H) := by
  refine AC.body (N := 15) [.tmp 6] Tryz.func182 rfl rfl rfl (Nat.le_of_ble_eq_true rfl) fun B hB => ?_
  repeat (refine aw_seq ?_)
  refine Za ?_
  repeat (first | refine then_nrm ?_ | refine aw_seq ?_)
  refine aw_out 6 (.bool (decide (a ≤ n) && decide (n ≤ b))) ?_ ?_
  · refine Z1u ?_
    refine Z1n ?_
    refine ao_split rfl rfl (fun hg3 => ?_) (fun hg3 => ?_)
    · refine Ze ?_
      refine Zt ?_
      exact Zj
    · refine Z1i ?_
      exact Zi
  repeat (first | refine then_nrm ?_ | refine aw_ret ?_)
  exact Z7
theorem spec_within64 (n a b : Int) (H : Heap) : AC Tryz.prog 183 [.int .i64 n, .int .i64 a, .int .i64 b] H (Ret (.bool (decide (a ≤ n) && decide (n ≤ b))) H) := by
  refine AC.body (N := 15) [.tmp 6] Tryz.func183 rfl rfl rfl (Nat.le_of_ble_eq_true rfl) fun B hB => ?_
  repeat (refine aw_seq ?_)
  refine Za ?_
  repeat (first | refine then_nrm ?_ | refine aw_seq ?_)
  refine aw_out 6 (.bool (decide (a ≤ n) && decide (n ≤ b))) ?_ ?_
  · refine Z1u ?_
    refine Z1n ?_
    refine ao_split rfl rfl (fun hg3 => ?_) (fun hg3 => ?_)
    · refine Ze ?_
      refine Zt ?_
      exact Zj
    · refine Z1i ?_
      exact Zi
  repeat (first | refine then_nrm ?_ | refine aw_ret ?_)
  exact Z7
theorem spec_Right (s : Spec) (H : Heap) : AC Tryz.prog 148 [.agg (eSpec s)] H (Ret (.bool (sright s)) H) := by
  refine AC.body (N := 49) [.tmp 2] Tryz.func148 rfl rfl rfl (Nat.le_of_ble_eq_true rfl) fun B hB => ?_
  repeat (refine aw_seq ?_)
  refine Z1w ?_
  refine Z1y ?_
  repeat (first | refine then_nrm ?_ | refine aw_seq ?_)
  refine aw_out 3 (.bool (smany s)) ?_ ?_
  · refine Z20 ?_
    refine ao_ret (spec_within _ _ _ _) rfl (by decide) ?_
    refine Zc ?_
    refine ao_split rfl rfl (fun hg3 => ?_) (fun hg3 => ?_)
    · refine Z22 ?_
      refine Z23 ?_
      refine Z24 ?_
      refine ao_split rfl rfl (fun hg8 => ?_) (fun hg8 => ?_)
      · refine Z22 ?_
        refine Z23 ?_
        refine Zh ?_
        exact ao_nil (Out.mk (by (refine congrArg AV.bool ?_; (simp only [smany] at *; (simp_all; done)))) (by repeat (first | exact SubX.refl _ _ | refine SubX.at ?_ | refine SubX.put rfl ?_)))
      · refine Z1i ?_
        exact Z25
    · refine Z27 ?_
      refine Z1i ?_
      exact Z25
  repeat (first | refine then_nrm ?_ | refine aw_seq ?_)
  refine aw_out 4 (.bool (ssome s)) ?_ ?_
  · refine Z1z ?_
    refine ao1 (by decide) (w_load1 (v := .bool _) rfl (lk rfl rfl) rfl rfl rfl) ?_
    refine Zc ?_
    refine ao_split rfl rfl (fun hg2 => ?_) (fun hg2 => ?_)
    · refine Z2b ?_
      refine Z2a ?_
      refine Zh ?_
      exact Z2c
    · refine Z22 ?_
      refine Z2d ?_
      refine Z26 ?_
      refine ao_split rfl rfl (fun hg7 => ?_) (fun hg7 => ?_)
      · refine Z2a ?_
        refine Zh ?_
        exact Z2c
      · refine Z22 ?_
        refine Z2d ?_
        refine Zn ?_
        exact ao_nil (Out.mk (by (refine congrArg AV.bool ?_; (simp only [ssome] at *; (simp_all; omega)))) (by repeat (first | exact SubX.refl _ _ | refine SubX.at ?_ | refine SubX.put rfl ?_)))
  repeat (first | refine then_nrm ?_ | refine aw_seq ?_)
  refine aw_out 2 (.bool (sright s)) ?_ ?_
  · refine Z2e ?_
    refine ao_split rfl rfl (fun hg1 => ?_) (fun hg1 => ?_)
    · refine Z2f ?_
      refine Z24 ?_
      refine ao_split rfl rfl (fun hg4 => ?_) (fun hg4 => ?_)
      · refine Z21 ?_
        refine ao_y1 rfl rfl (by decide) (w_load1 (v := .str _) rfl (lk rfl rfl) rfl rfl rfl) ?_
        refine ao_y rfl rfl (by decide) (V2.call (graph_Tag _ _) rfl) ?_
        refine Z24 ?_
        refine ao_split rfl rfl (fun hg9 => ?_) (fun hg9 => ?_)
        · refine Z22 ?_
          refine ao_y rfl rfl (by decide) (V2.call (spec_within64 _ _ _ _) rfl) ?_
          refine Z24 ?_
          refine ao_split rfl rfl (fun hg14 => ?_) (fun hg14 => ?_)
          · refine Z22 ?_
            refine Z23 ?_
            refine Zh ?_
            exact Z2g
          · refine Z1i ?_
            exact ao_nil (Out.mk (by (refine congrArg AV.bool ?_; (simp only [sright] at *; (simp_all; omega)))) (by repeat (first | exact SubX.refl _ _ | refine SubX.at ?_ | refine SubX.put rfl ?_)))
        · refine Z27 ?_
          refine Z1i ?_
          exact Z2g
      · refine Z27 ?_
        refine Z27 ?_
        refine Z1i ?_
        exact Z2g
    · refine Zk ?_
      refine Z26 ?_
      refine Z27 ?_
      refine Z27 ?_
      refine Z1i ?_
      exact Z2g
  repeat (first | refine then_nrm ?_ | refine aw_ret ?_)
  exact Z7
structure Asks3 where
  n : Int
  c : Int
  g : Int
theorem spec_Ends (s : Spec) (t : Int) (H : Heap) : AC Tryz.prog 130 [.agg (eSpec s), .int .i64 t] H (Ret (.int .i64 (sEnds s t)) H) := by
  refine AC.body (N := 14) [.tmp 4] Tryz.func130 rfl rfl rfl (Nat.le_of_ble_eq_true rfl) fun B hB => ?_
  repeat (refine aw_seq ?_)
  refine Z1w ?_
  refine Z2 ?_
  refine Z1x ?_
  repeat (first | refine then_nrm ?_ | refine aw_seq ?_)
  refine Z2i ?_
  refine ao_ret (spec_Right _ _) rfl (by decide) ?_
  refine Z2j ?_
  repeat (refine then_nrm ?_)
  refine aw_cond rfl (fun hc => ?_) (fun hc => ?_)
  · repeat (refine aw_seq ?_)
    refine Zv ?_
    refine Z2k ?_
    refine Z2 ?_
    repeat (first | refine then_nrm ?_ | refine then_ret ?_ | refine aw_ret ?_)
    rw [show sEnds s t = plus t 0 by simp at hc; simp [sEnds, hc]]
    exact Z7
  · repeat (first | refine then_nrm ?_ | refine aw_seq ?_ | refine aw_skip ?_)
    refine Zv ?_
    refine Z20 ?_
    refine Z2k ?_
    refine Z2m ?_
    repeat (first | refine then_nrm ?_ | refine aw_ret ?_)
    rw [show sEnds s t = plus t s.long by simp at hc; simp [sEnds, hc]]
    exact Z7
end Go.Av

namespace Go.Av
def flatv : AV → Option Value
  | .int k n => some (.int k n)
  | .bool b => some (.bool b)
  | .str s => some (.string s)
  | _ => none
theorem VR.flat_eq {O : Nat → Prop} {w : World} {S : List Slot} {v : AV} {u u' : Value} (h : VR O w S v u) (hf : flatv v = some u') : u = u' := by
  cases h <;> simp [flatv] at hf <;> exact hf
theorem VR.agg_flat {O : Nat → Prop} {w : World} {S : List Slot} {cs : List AV} {us : List Value} {u : Value} (h : VR O w S (.agg cs) u) (hf : cs.map flatv = us.map some) : u = .agg us.toArray := by
  cases h with
  | @agg _ _ vs hn hl h =>
    congr 1
    have hlen : cs.length = us.length := by simpa using congrArg List.length hf
    apply Array.ext
    · simp; omega
    · intro j h1 h2
      have hj : j < cs.length := by omega
      have hju : j < us.length := by omega
      have e : flatv cs[j] = some us[j] := by
        have := congrArg (·[j]?) hf
        simpa [hj, hju] using this
      have := (h j cs[j] vs[j] (List.getElem?_eq_getElem hj) (Array.getElem?_eq_getElem h1)).flat_eq e
      simpa using this
section
variable {P : Program} {N : Nat} {env : Env} {H : Heap} {ty : TypeId}
theorem o_eqAgg {t t' : TypeId} {x y : Operand} {cs ds : List AV} {us vs : List Value} {b : Bool} (hx : aev env x = .agg cs) (hy : aev env y = .agg ds) (hu : cs.map flatv = us.map some) (hv : ds.map flatv = vs.map some)
    (hm : P.eqGuardType P.depth t = false) (hb : ∀ w, (Op.equalIn 10000 t (.agg us.toArray) (.agg vs.toArray)).run P w = .ok b w) : V1 P N (.binOp .eql t x y t') ty env H (.bool b) := by
  intro S a w hc
  have h1 := hc.ev x
  have h2 := hc.ev y
  rw [hx] at h1
  rw [hy] at h2
  have e1 := h1.agg_flat hu
  have e2 := h2.agg_flat hv
  refine ⟨.bool b, fun _ _ _ _ => ?_, .bool⟩
  simp only [execOp, e1, e2, Sem.run_bind, run_eqGuard_agg w .eql t x y _ _ hm, Result.andThen_ok, run_eql_struct, hb w, Sem.run_pure]
theorem o_neAgg {t t' : TypeId} {x y : Operand} {cs ds : List AV} {us vs : List Value} {b : Bool} (hx : aev env x = .agg cs) (hy : aev env y = .agg ds) (hu : cs.map flatv = us.map some) (hv : ds.map flatv = vs.map some)
    (hm : P.eqGuardType P.depth t = false) (hb : ∀ w, (Op.equalIn 10000 t (.agg us.toArray) (.agg vs.toArray)).run P w = .ok b w) : V1 P N (.binOp .neq t x y t') ty env H (.bool (!b)) := by
  intro S a w hc
  have h1 := hc.ev x
  have h2 := hc.ev y
  rw [hx] at h1
  rw [hy] at h2
  have e1 := h1.agg_flat hu
  have e2 := h2.agg_flat hv
  refine ⟨.bool (!b), fun _ _ _ _ => ?_, .bool⟩
  simp only [execOp, e1, e2, Sem.run_bind, run_eqGuard_agg w .neq t x y _ _ hm, Result.andThen_ok, run_neq_struct, hb w, Sem.run_pure]
end
end Go.Av

namespace Go.Av
open Go.Proofs
set_option maxRecDepth 10000
set_option linter.unusedSimpArgs false
set_option linter.unusedVariables false
def uSpec (s : Spec) : List Value := [.int .i64 s.nodes, .int .i64 s.cores, .int .i64 s.gpus, .string s.tag, .bool s.whole, .int .i64 s.long, .int .i64 s.prio]
theorem eqSpec_run (a b : Spec) (w : World) : (Op.equalIn 10000 50 (.agg (uSpec a).toArray) (.agg (uSpec b).toArray)).run Tryz.prog w = .ok (decide (a = b)) w := by
  have hS : Tryz.prog.underlying 50 = some (.struct (Tryz.prog.fieldsOf 50)) := by kernel_rfl
  have hp : Tryz.prog.stoodInHeld 50 = false := by kernel_rfl
  rw [show (10000 : Nat) = 9999 + 1 from rfl, run_equalIn_agg w 9999 50 _ _ hS hp]
  have u3 := Tryz.underlying3
  have a3 := Tryz.isAgg3
  have z3 := Tryz.sizeOf3
  simp only [uSpec, Program.fieldsOf, Tryz.underlying50]
  go_simp
  have ht : a.tag.toList = b.tag.toList ↔ a.tag = b.tag := by have := str_eq a.tag b.tag; rw [Bool.eq_iff_iff] at this; simpa using this
  simp only [ht]
  cases a; cases b
  simp only [Spec.mk.injEq]
  (repeat' split) <;> simp_all
end Go.Av

namespace Go.Av
end Go.Av

namespace Go.Av
open Go.Proofs
set_option maxRecDepth 10000
set_option linter.unusedSimpArgs false
set_option linter.unusedVariables false
abbrev eJob (j : Job) : List AV := [.int .i64 j.id, .int .i64 j.spec.nodes, .int .i64 j.spec.cores, .int .i64 j.spec.gpus, .str j.spec.tag, .bool j.spec.whole, .int .i64 j.spec.long, .int .i64 j.spec.prio, .pl (j.needs.map eI), .int .i64 j.state, .int .i64 j.came, .int .i64 j.frm, .int .i64 j.to]
theorem eI_len (l : List Int) : ∀ r ∈ l.map eI, r.length = 1 := rows_len (e := eI) (n := 1) (fun _ => rfl) l
theorem eI_bel (n : Nat) (l : List Int) : ∀ r ∈ l.map eI, AV.bels n r = true := rows_bel (e := eI) (fun _ => rfl) l
theorem slices_CloneI (l : List Int) (H : Heap) (hn : l.length ≤ 1000000) : AC Tryz.prog 109 [.pl (l.map eI)] H (Ret (.pl (l.map eI)) H) := by
  refine AC.body (N := 8) [.tmp 2] Tryz.func109 rfl rfl rfl (Nat.le_of_ble_eq_true rfl) fun B hB => ?_
  repeat (refine aw_seq ?_)
  refine Z2p ?_
  repeat (first | refine then_nrm ?_ | refine aw_seq ?_)
  refine Z2r ?_
  refine ao_cons rfl (by rintro _ ⟨⟩; decide) (o_eqNil rfl rfl _ _ _ _) ?_ (fun _ _ h => h.elim)
  rintro _ _ ⟨nb, rfl, hnb, rfl⟩
  refine Z2s ?_
  repeat (refine then_nrm ?_)
  refine aw_cond rfl (fun hc => ?_) (fun hc => ?_)
  · subst hc
    have hb : l = [] := by
      cases l with
      | nil => rfl
      | cons x b => simp at hnb
    subst hb
    repeat (refine aw_seq ?_)
    refine Z2p ?_
    repeat (refine then_nrm ?_)
    refine aw_nslpl 2 rfl ?_
    exact aw_ret (e_done hB (r_tmp rfl .nil) rfl rfl)
  · repeat (first | refine then_nrm ?_ | refine aw_seq ?_ | refine aw_skip ?_)
    refine aw_region ?_
    refine Z2t ?_
    refine Z2q ?_
    refine ao2 (by rintro _ ⟨⟩; decide) (g_append_new (sz := 1) (bytes := 8) rfl (Src.pl rfl (eI_len l)) rfl (by decide) (by simp; omega) (by simp; omega) (eI_bel 0 l)) ?_
    refine Z2v ?_
    repeat (first | refine then_nrm ?_ | refine aw_ret ?_)
    exact Z7
def lastD (l : List Int) (k : Nat) : Int := if k = 0 then 0 else (l[k - 1]?).getD 0
theorem ndB_last {id : Int} {l : List Int} {k : Nat} {n : Int} (hn : l[k]? = some n) (h : ∀ i, i < k → ndB id l i = true) : ndB id l k = !(decide (n ≤ lastD l k) || decide (id ≤ n)) := by
  rw [ndB_get hn, lastD]
  cases k with
  | zero => simp; rw [Bool.eq_iff_iff]; simp; omega
  | succ k =>
    have hk : k < l.length := by have := (List.getElem?_eq_some_iff.1 hn).1; omega
    have hm : l[k]? = some l[k] := List.getElem?_eq_getElem hk
    have h1 := h k (by omega)
    rw [ndB_get hm] at h1
    simp only [Bool.and_eq_true, decide_eq_true_eq] at h1
    simp only [Nat.add_sub_cancel, hm, Option.getD_some]
    rw [Bool.eq_iff_iff]
    simp
    omega
theorem job_needs (j : Job) (H : Heap) : AC Tryz.prog 163 [.agg (eJob j)] H (Ret (.bool (jneeds j)) H) := by
  refine AC.body (N := 28) [.tmp 2] Tryz.func163 rfl rfl rfl (Nat.le_of_ble_eq_true rfl) fun B hB => ?_
  repeat (refine aw_seq ?_)
  refine Z2x ?_
  refine Z1y ?_
  repeat (first | refine then_nrm ?_ | refine aw_seq ?_)
  refine Z30 ?_
  refine Z31 ?_
  refine Z1s ?_
  refine Z32 ?_
  repeat (refine then_nrm ?_)
  refine aw_cond rfl (fun hc => ?_) (fun hc => ?_)
  · repeat (refine aw_seq ?_)
    refine Za ?_
    repeat (first | refine then_nrm ?_ | refine then_ret ?_ | refine aw_ret ?_)
    rw [show jneeds j = false by simp at hc; simp [jneeds]; omega]
    exact Z7
  have hl : j.needs.length ≤ 16 := by simp at hc; omega
  rw [show jneeds j = ndall j.id j.needs by simp [jneeds, hl]]
  repeat (first | refine then_nrm ?_ | refine aw_seq ?_ | refine aw_skip ?_)
  refine Z3 ?_
  repeat (first | refine then_nrm ?_ | refine aw_seq ?_)
  refine Z30 ?_
  refine Z35 ?_
  repeat (first | refine then_nrm ?_ | refine aw_block ?_)
  refine aw_loop (G := Nat) (fun k => k ≤ j.needs.length ∧ ∀ i, i < k → ndB j.id j.needs i = true) (fun k => [(1, .pt (Lid H.length 0) 0 0 0), (3, .int .i64 (lastD j.needs k)), (11, .pl (j.needs.map eI)), (12, .int .i64 (j.needs.length : Int)), (13, .int .i64 (k : Int))]) (fun _ => H ++ [⟨0, 13, [eJob j]⟩]) (fun k => j.needs.length - k) 0 ⟨Nat.zero_le _, fun i hi => by omega⟩ (by repeat (first | exact Sub.nil | refine Sub.cons (by first | rfl | (simp [get]; done)) ?_)) (Fit.refl _ _) ?_
  rintro k ⟨hk, hno⟩
  repeat (refine aw_seq ?_)
  refine Z36 ?_
  repeat (first | refine then_nrm ?_ | refine aw_seq ?_)
  refine aw_cond rfl (fun hc => ?_) (fun hc => ?_)
  · have hlt : k < j.needs.length := by simpa using hc
    obtain ⟨x, hx, hxl⟩ := get_in hlt
    have hr := map_get eI hx
    have hok := ndB_last hx hno
    repeat (first | refine then_nrm ?_ | refine aw_seq ?_ | refine aw_block ?_ | refine aw_skip ?_)
    refine Z3b ?_
    repeat (first | refine then_nrm ?_ | refine aw_seq ?_)
    refine aw_out 25 (.bool (!ndB j.id j.needs k)) ?_ ?_
    · refine Z1u ?_
      refine Zd ?_
      refine ao_split rfl rfl (fun hg3 => ?_) (fun hg3 => ?_)
      · refine Z3d ?_
        exact Z3e
      · refine Ze ?_
        refine Z22 ?_
        refine Z3f ?_
        refine Zm ?_
        exact Z3g
    repeat (refine then_nrm ?_)
    refine aw_cond rfl (fun hc => ?_) (fun hc => ?_)
    · repeat (refine aw_seq ?_)
      refine Za ?_
      repeat (first | refine then_nrm ?_ | refine then_ret ?_ | refine blk_ret ?_ | refine aw_ret ?_)
      rw [nd_false hlt (by simpa using hc)]
      exact Z7
    · have hlast : lastD j.needs (k + 1) = x := by rw [lastD, if_neg (by omega), Nat.add_sub_cancel, hx]; rfl
      repeat (first | refine then_nrm ?_ | refine aw_skip ?_)
      refine Z13 ?_
      repeat (first | refine then_nrm ?_ | refine blk_nrm ?_)
      refine Z3i ?_
      repeat (refine then_nrm ?_)
      refine ⟨k + 1, by omega, ⟨by omega, fun i hi => ?_⟩, by rw [hlast]; exact (by repeat (first | exact Sub.nil | refine Sub.cons (by rfl) ?_)), .refl _ _⟩
      rcases Nat.lt_or_eq_of_le (Nat.le_of_lt_succ hi) with h | h
      · exact hno i h
      · subst h; simpa using hc
  · have : k = j.needs.length := by simp at hc; omega
    subst this
    rw [nd_true hno]
    repeat (first | refine then_nrm ?_ | refine then_brk ?_ | refine blk_hit ?_ | refine aw_seq ?_ | refine aw_exit ?_)
    refine Za ?_
    repeat (first | refine then_nrm ?_ | refine aw_ret ?_)
    exact Z7
set_option maxHeartbeats 0 in
theorem job_times (j : Job) (H : Heap) : AC Tryz.prog 164 [.agg (eJob j)] H (Ret (.bool (jtimes j)) H) := by
  refine AC.body (N := 78) [.tmp 2] Tryz.func164 rfl rfl rfl (Nat.le_of_ble_eq_true rfl) fun B hB => ?_
  repeat (refine aw_seq ?_)
  refine Z2x ?_
  refine Z1y ?_
  repeat (first | refine then_nrm ?_ | refine aw_seq ?_)
  refine aw_out 3 (.bool (jbegun j)) ?_ ?_
  · refine Z20 ?_
    refine Z3j ?_
    refine Zc ?_
    refine ao_split rfl rfl (fun hg3 => ?_) (fun hg3 => ?_)
    · refine Z3k ?_
      refine Z3f ?_
      refine Zh ?_
      exact ao_nil (Out.mk (by (refine congrArg AV.bool ?_; (simp only [jbegun, tm] at *; (simp_all; done)))) (by repeat (first | exact SubX.refl _ _ | refine SubX.at ?_ | refine SubX.put rfl ?_)))
    · refine Z3l ?_
      exact ao_nil (Out.mk (by (refine congrArg AV.bool ?_; (simp only [jbegun, tm] at *; (simp_all; omega)))) (by repeat (first | exact SubX.refl _ _ | refine SubX.at ?_ | refine SubX.put rfl ?_)))
  repeat (first | refine then_nrm ?_ | refine aw_seq ?_)
  refine aw_out 4 (.bool (jended j)) ?_ ?_
  · refine Z20 ?_
    refine Z3j ?_
    refine Zc ?_
    refine ao_split rfl rfl (fun hg3 => ?_) (fun hg3 => ?_)
    · refine Z3k ?_
      refine Z22 ?_
      refine Z3m ?_
      refine Z3f ?_
      refine Zh ?_
      exact ao_nil (Out.mk (by (refine congrArg AV.bool ?_; (simp only [jended, tm] at *; (simp_all; done)))) (by repeat (first | exact SubX.refl _ _ | refine SubX.at ?_ | refine SubX.put rfl ?_)))
    · refine Z3o ?_
      refine Zn ?_
      exact ao_nil (Out.mk (by (refine congrArg AV.bool ?_; (simp only [jended, tm] at *; (simp_all; omega)))) (by repeat (first | exact SubX.refl _ _ | refine SubX.at ?_ | refine SubX.put rfl ?_)))
  repeat (first | refine then_nrm ?_ | refine aw_seq ?_)
  refine Z3p ?_
  refine Z32 ?_
  repeat (first | refine then_nrm ?_ | refine aw_seq ?_ | refine aw_block ?_)
  refine Z3q ?_
  repeat (refine then_nrm ?_)
  refine aw_cond rfl (fun hc => ?_) (fun hc => ?_)
  · have hs : j.state = 0 := by simpa using hc
    repeat (first | refine then_nrm ?_ | refine aw_skip ?_)
    refine aw_cond rfl (fun hc => ?_) (fun hc => ?_)
    · repeat (refine aw_seq ?_)
      refine aw_out 2 (.bool (jtimes j)) ?_ ?_
      · refine Z20 ?_
        refine Z3r ?_
        refine ao_split rfl rfl (fun hg3 => ?_) (fun hg3 => ?_)
        · refine Z3t ?_
          exact Z3v
        · refine Z1i ?_
          exact Z3u
      repeat (first | refine then_nrm ?_ | refine then_ret ?_ | refine blk_ret ?_ | refine aw_ret ?_)
      exact Z7
    · simp [hs] at hc
  · have h0 : j.state ≠ 0 := by simpa using hc
    refine Z3q ?_
    repeat (refine then_nrm ?_)
    refine aw_cond rfl (fun hc => ?_) (fun hc => ?_)
    · have hs : j.state = 1 := by simpa using hc
      repeat (refine aw_seq ?_)
      refine aw_out 2 (.bool (jtimes j)) ?_ ?_
      · refine Z20 ?_
        refine Z3r ?_
        refine ao_split rfl rfl (fun hg3 => ?_) (fun hg3 => ?_)
        · refine Z3t ?_
          exact Z3v
        · refine Z1i ?_
          exact Z3u
      repeat (first | refine then_nrm ?_ | refine then_ret ?_ | refine blk_ret ?_ | refine aw_ret ?_)
      exact Z7
    · have h1 : j.state ≠ 1 := by simpa using hc
      repeat (refine aw_seq ?_)
      refine Z3q ?_
      repeat (refine then_nrm ?_)
      refine aw_cond rfl (fun hc => ?_) (fun hc => ?_)
      · have hs : j.state = 2 := by simpa using hc
        repeat (refine aw_seq ?_)
        refine aw_out 2 (.bool (jtimes j)) ?_ ?_
        · refine Z2e ?_
          refine ao_split rfl rfl (fun hg1 => ?_) (fun hg1 => ?_)
          · refine Z3t ?_
            exact Z3v
          · refine Z1i ?_
            exact Z3u
        repeat (first | refine then_nrm ?_ | refine then_ret ?_ | refine blk_ret ?_ | refine aw_ret ?_)
        exact Z7
      · have h2 : j.state ≠ 2 := by simpa using hc
        repeat (refine aw_seq ?_)
        refine Z3q ?_
        repeat (refine then_nrm ?_)
        refine aw_cond rfl (fun hc => ?_) (fun hc => ?_)
        · have hs : j.state = 3 := by simpa using hc
          repeat (first | refine then_nrm ?_ | refine aw_skip ?_)
          refine aw_cond rfl (fun hc => ?_) (fun hc => ?_)
          · repeat (refine aw_seq ?_)
            refine aw_out 2 (.bool (jtimes j)) ?_ ?_
            · refine Z2e ?_
              refine ao_split rfl rfl (fun hg1 => ?_) (fun hg1 => ?_)
              · refine Z2f ?_
                exact Z3v
              · refine Z3w ?_
                exact Z3u
            repeat (first | refine then_nrm ?_ | refine then_ret ?_ | refine blk_ret ?_ | refine aw_ret ?_)
            exact Z7
          · simp [hs] at hc
        · have h3 : j.state ≠ 3 := by simpa using hc
          refine Z3q ?_
          repeat (refine then_nrm ?_)
          refine aw_cond rfl (fun hc => ?_) (fun hc => ?_)
          · have hs : j.state = 4 := by simpa using hc
            repeat (refine aw_seq ?_)
            refine aw_out 2 (.bool (jtimes j)) ?_ ?_
            · refine Z2e ?_
              refine ao_split rfl rfl (fun hg1 => ?_) (fun hg1 => ?_)
              · refine Z2f ?_
                exact Z3v
              · refine Z3w ?_
                exact Z3u
            repeat (first | refine then_nrm ?_ | refine then_ret ?_ | refine blk_ret ?_ | refine aw_ret ?_)
            exact Z7
          · have h4 : j.state ≠ 4 := by simpa using hc
            repeat (refine aw_seq ?_)
            refine Z3q ?_
            repeat (refine then_nrm ?_)
            refine aw_cond rfl (fun hc => ?_) (fun hc => ?_)
            · have hs : j.state = 5 := by simpa using hc
              repeat (refine aw_seq ?_)
              refine aw_out 2 (.bool (jtimes j)) ?_ ?_
              · refine Z2e ?_
                refine ao_split rfl rfl (fun hg1 => ?_) (fun hg1 => ?_)
                · refine Z2b ?_
                  refine Z2f ?_
                  exact Z3v
                · refine Z3t ?_
                  refine Z26 ?_
                  refine ao_split rfl rfl (fun hg6 => ?_) (fun hg6 => ?_)
                  · refine Z2f ?_
                    exact Z3v
                  · refine Z3w ?_
                    exact Z3u
              repeat (first | refine then_nrm ?_ | refine then_ret ?_ | refine blk_ret ?_ | refine aw_ret ?_)
              exact Z7
            · have h5 : j.state ≠ 5 := by simpa using hc
              repeat (first | refine then_nrm ?_ | refine blk_nrm ?_ | refine aw_seq ?_ | refine aw_skip ?_)
              refine aw_out 2 (.bool (jtimes j)) ?_ ?_
              · refine Z20 ?_
                refine Z3r ?_
                refine ao_split rfl rfl (fun hg3 => ?_) (fun hg3 => ?_)
                · refine Z22 ?_
                  refine Z3x ?_
                  refine ao_split rfl rfl (fun hg8 => ?_) (fun hg8 => ?_)
                  · refine Z2f ?_
                    refine Zh ?_
                    exact Z3y
                  · refine Z3w ?_
                    exact Z3y
                · refine Z27 ?_
                  refine Z3w ?_
                  exact Z3y
              repeat (first | refine then_nrm ?_ | refine aw_ret ?_)
              exact Z7
end Go.Av

namespace Go.Av
open Go.Proofs
set_option maxRecDepth 10000
set_option linter.unusedSimpArgs false
set_option linter.unusedVariables false
theorem job_Right (j : Job) (H : Heap) : AC Tryz.prog 124 [.agg (eJob j)] H (Ret (.bool (jright j)) H) := by
  refine AC.body (N := 29) [.tmp 2] Tryz.func124 rfl rfl rfl (Nat.le_of_ble_eq_true rfl) fun B hB => ?_
  repeat (refine aw_seq ?_)
  refine Z2x ?_
  refine Z1y ?_
  repeat (first | refine then_nrm ?_ | refine aw_seq ?_)
  refine aw_out 2 (.bool (jright j)) ?_ ?_
  · refine Z20 ?_
    refine Z1n ?_
    refine ao_split rfl rfl (fun hg3 => ?_) (fun hg3 => ?_)
    · refine Z22 ?_
      refine Zs ?_
      refine Z24 ?_
      refine ao_split rfl rfl (fun hg8 => ?_) (fun hg8 => ?_)
      · refine Z21 ?_
        refine Z3z ?_
        refine Z40 ?_
        refine Z24 ?_
        refine ao_split rfl rfl (fun hg13 => ?_) (fun hg13 => ?_)
        · refine Z41 ?_
          refine ao_y rfl rfl (by decide) (V2.call (job_needs _ _) rfl) ?_
          refine Z24 ?_
          refine ao_split rfl rfl (fun hg17 => ?_) (fun hg17 => ?_)
          · refine Z22 ?_
            refine Z42 ?_
            refine Z24 ?_
            refine ao_split rfl rfl (fun hg22 => ?_) (fun hg22 => ?_)
            · refine Z41 ?_
              refine ao_y rfl rfl (by decide) (V2.call (job_times _ _) rfl) ?_
              refine Zh ?_
              exact Z43
            · refine Zo ?_
              exact Z44
          · refine Z46 ?_
            exact Z43
        · refine Z47 ?_
          refine Z46 ?_
          exact Z43
      · refine Z45 ?_
        refine Z26 ?_
        refine Z46 ?_
        exact Z44
    · refine Z27 ?_
      refine Z45 ?_
      refine Z26 ?_
      refine Z46 ?_
      exact Z44
  repeat (first | refine then_nrm ?_ | refine aw_ret ?_)
  exact Z7
set_option maxHeartbeats 0 in
theorem job_next (s w : Int) (H : Heap) : AC Tryz.prog 193 [.int .i64 s, .int .i64 w] H (Ret (.tup [.int .i64 (nx s w).1, .bool (nx s w).2]) H) := by
  refine AC.body (N := 56) [.tmp 4, .tmp 5] Tryz.func193 rfl rfl rfl (Nat.le_of_ble_eq_true rfl) fun B hB => ?_
  repeat (refine aw_seq ?_)
  refine Z49 ?_
  repeat (first | refine then_nrm ?_ | refine aw_seq ?_ | refine aw_block ?_)
  refine aw_out 6 (.bool (decide (s = 0 ∧ w = 1))) ?_ ?_
  · refine Z4a ?_
    refine ao_split rfl rfl (fun hg2 => ?_) (fun hg2 => ?_)
    · exact Z4d
    · refine Zo ?_
      exact Z1g
  repeat (refine then_nrm ?_)
  refine aw_cond rfl (fun hc => ?_) (fun hc => ?_)
  · have h : s = 0 ∧ w = 1 := by simpa only [decide_eq_true_eq] using hc
    have e : nx s w = (1, true) := by rw [nx, jnext, if_pos h]
    repeat (refine aw_seq ?_)
    refine Z49 ?_
    repeat (first | refine then_nrm ?_ | refine then_ret ?_ | refine blk_ret ?_ | refine aw_ret ?_)
    rw [e]
    exact Z4e
  have h0 : ¬ (s = 0 ∧ w = 1) := by simpa only [decide_eq_false_iff_not] using hc
  repeat (refine aw_seq ?_)
  refine aw_out 13 (.bool (decide (s = 1 ∧ w = 2))) ?_ ?_
  · refine Z4a ?_
    refine ao_split rfl rfl (fun hg2 => ?_) (fun hg2 => ?_)
    · exact Z4d
    · refine Zo ?_
      exact Z1g
  repeat (refine then_nrm ?_)
  refine aw_cond rfl (fun hc => ?_) (fun hc => ?_)
  · have h : s = 1 ∧ w = 2 := by simpa only [decide_eq_true_eq] using hc
    have e : nx s w = (0, true) := by rw [nx, jnext, if_neg h0, if_pos h]
    repeat (refine aw_seq ?_)
    refine Z49 ?_
    repeat (first | refine then_nrm ?_ | refine then_ret ?_ | refine blk_ret ?_ | refine aw_ret ?_)
    rw [e]
    exact Z4e
  have h1 : ¬ (s = 1 ∧ w = 2) := by simpa only [decide_eq_false_iff_not] using hc
  repeat (refine aw_seq ?_)
  refine aw_out 20 (.bool (decide (s = 0 ∧ w = 3))) ?_ ?_
  · refine Z4a ?_
    refine ao_split rfl rfl (fun hg2 => ?_) (fun hg2 => ?_)
    · exact Z4d
    · refine Zo ?_
      exact Z1g
  repeat (refine then_nrm ?_)
  refine aw_cond rfl (fun hc => ?_) (fun hc => ?_)
  · have h : s = 0 ∧ w = 3 := by simpa only [decide_eq_true_eq] using hc
    have e : nx s w = (2, true) := by rw [nx, jnext, if_neg h0, if_neg h1, if_pos h]
    repeat (refine aw_seq ?_)
    refine Z49 ?_
    repeat (first | refine then_nrm ?_ | refine then_ret ?_ | refine blk_ret ?_ | refine aw_ret ?_)
    rw [e]
    exact Z4e
  have h2 : ¬ (s = 0 ∧ w = 3) := by simpa only [decide_eq_false_iff_not] using hc
  repeat (refine aw_seq ?_)
  refine aw_out 27 (.bool (decide (s = 2 ∧ w = 4))) ?_ ?_
  · refine Z4a ?_
    refine ao_split rfl rfl (fun hg2 => ?_) (fun hg2 => ?_)
    · exact Z4d
    · refine Zo ?_
      exact Z1g
  repeat (refine then_nrm ?_)
  refine aw_cond rfl (fun hc => ?_) (fun hc => ?_)
  · have h : s = 2 ∧ w = 4 := by simpa only [decide_eq_true_eq] using hc
    have e : nx s w = (3, true) := by rw [nx, jnext, if_neg h0, if_neg h1, if_neg h2, if_pos h]
    repeat (refine aw_seq ?_)
    refine Z49 ?_
    repeat (first | refine then_nrm ?_ | refine then_ret ?_ | refine blk_ret ?_ | refine aw_ret ?_)
    rw [e]
    exact Z4e
  have h3 : ¬ (s = 2 ∧ w = 4) := by simpa only [decide_eq_false_iff_not] using hc
  repeat (refine aw_seq ?_)
  refine aw_out 34 (.bool (decide (s = 2 ∧ w = 5))) ?_ ?_
  · refine Z4a ?_
    refine ao_split rfl rfl (fun hg2 => ?_) (fun hg2 => ?_)
    · exact Z4d
    · refine Zo ?_
      exact Z1g
  repeat (refine then_nrm ?_)
  refine aw_cond rfl (fun hc => ?_) (fun hc => ?_)
  · have h : s = 2 ∧ w = 5 := by simpa only [decide_eq_true_eq] using hc
    have e : nx s w = (4, true) := by rw [nx, jnext, if_neg h0, if_neg h1, if_neg h2, if_neg h3, if_pos h]
    repeat (refine aw_seq ?_)
    refine Z49 ?_
    repeat (first | refine then_nrm ?_ | refine then_ret ?_ | refine blk_ret ?_ | refine aw_ret ?_)
    rw [e]
    exact Z4e
  have h4 : ¬ (s = 2 ∧ w = 5) := by simpa only [decide_eq_false_iff_not] using hc
  repeat (refine aw_seq ?_)
  refine aw_out 41 (.bool (decide (s ≤ 2 ∧ w = 6))) ?_ ?_
  · refine Z6 ?_
    refine Zd ?_
    refine ao_split rfl rfl (fun hg2 => ?_) (fun hg2 => ?_)
    · exact Z4d
    · refine Zo ?_
      exact Z4f
  repeat (refine then_nrm ?_)
  refine aw_cond rfl (fun hc => ?_) (fun hc => ?_)
  · have h : s ≤ 2 ∧ w = 6 := by simpa only [decide_eq_true_eq] using hc
    have e : nx s w = (5, true) := by rw [nx, jnext, if_neg h0, if_neg h1, if_neg h2, if_neg h3, if_neg h4, if_pos h]
    repeat (refine aw_seq ?_)
    refine Z49 ?_
    repeat (first | refine then_nrm ?_ | refine then_ret ?_ | refine blk_ret ?_ | refine aw_ret ?_)
    rw [e]
    exact Z4e
  have h5 : ¬ (s ≤ 2 ∧ w = 6) := by simpa only [decide_eq_false_iff_not] using hc
  repeat (refine aw_seq ?_)
  refine aw_out 48 (.bool (decide (s < 2 ∧ w = 7))) ?_ ?_
  · refine Zr ?_
    refine ao_split rfl rfl (fun hg2 => ?_) (fun hg2 => ?_)
    · exact Z4d
    · refine Zo ?_
      exact Z4f
  repeat (refine then_nrm ?_)
  refine aw_cond rfl (fun hc => ?_) (fun hc => ?_)
  · have h : s < 2 ∧ w = 7 := by simpa only [decide_eq_true_eq] using hc
    have e : nx s w = (6, true) := by rw [nx, jnext, if_neg h0, if_neg h1, if_neg h2, if_neg h3, if_neg h4, if_neg h5, if_pos h]
    repeat (refine aw_seq ?_)
    refine Z49 ?_
    repeat (first | refine then_nrm ?_ | refine then_ret ?_ | refine blk_ret ?_ | refine aw_ret ?_)
    rw [e]
    exact Z4e
  have h6 : ¬ (s < 2 ∧ w = 7) := by simpa only [decide_eq_false_iff_not] using hc
  have e : nx s w = (s, false) := by rw [nx, jnext, if_neg h0, if_neg h1, if_neg h2, if_neg h3, if_neg h4, if_neg h5, if_neg h6]
  repeat (first | refine then_nrm ?_ | refine blk_nrm ?_ | refine aw_seq ?_ | refine aw_skip ?_)
  refine Zv ?_
  refine Z48 ?_
  repeat (first | refine then_nrm ?_ | refine aw_ret ?_)
  rw [e]
  exact Z4e
theorem job_Over (s : Int) (H : Heap) : AC Tryz.prog 31 [.int .i64 s] H (Ret (.bool (jover s)) H) := by
  refine AC.body (N := 9) [.tmp 2] Tryz.func31 rfl rfl rfl (Nat.le_of_ble_eq_true rfl) fun B hB => ?_
  repeat (refine aw_seq ?_)
  refine Za ?_
  repeat (first | refine then_nrm ?_ | refine aw_seq ?_)
  refine aw_out 2 (.bool (jover s)) ?_ ?_
  · refine Z6 ?_
    refine Z1n ?_
    refine ao_split rfl rfl (fun hg2 => ?_) (fun hg2 => ?_)
    · refine Zt ?_
      refine Zh ?_
      exact ao_nil (Out.mk (by (refine congrArg AV.bool ?_; (simp only [jover] at *; (simp_all; done)))) (by repeat (first | exact SubX.refl _ _ | refine SubX.at ?_ | refine SubX.put rfl ?_)))
    · refine Zo ?_
      exact ao_nil (Out.mk (by (refine congrArg AV.bool ?_; (simp only [jover] at *; (simp_all; omega)))) (by repeat (first | exact SubX.refl _ _ | refine SubX.at ?_ | refine SubX.put rfl ?_)))
  repeat (first | refine then_nrm ?_ | refine aw_ret ?_)
  exact Z7
end Go.Av

namespace Go.Av
open Go.Proofs
set_option maxRecDepth 10000
set_option linter.unusedSimpArgs false
set_option linter.unusedVariables false
set_option maxHeartbeats 0 in
theorem job_Do (j : Job) (w now : Int) (hn : j.needs.length ≤ 1000000) (H : Heap) : AC Tryz.prog 170 [.agg (eJob j), .int .i64 w, .int .i64 now] H (Ret (.tup [.agg (eJob (jdo j w now).1), .int .i64 (jdo j w now).2]) H) := by
  refine AC.body (N := 61) [.cell 6 63, .tmp 7] Tryz.func170 rfl rfl rfl (Nat.le_of_ble_eq_true rfl) fun B hB => ?_
  repeat (refine aw_seq ?_)
  refine Z2x ?_
  refine Z4g ?_
  refine Z4i ?_
  repeat (first | refine then_nrm ?_ | refine aw_seq ?_)
  refine Z30 ?_
  refine Z4j ?_
  refine Z1z ?_
  refine Z4k ?_
  refine Z4m ?_
  repeat (first | refine then_nrm ?_ | refine aw_seq ?_)
  refine aw_out 38 (.bool (jbad j w now)) ?_ ?_
  · refine Z2h ?_
    refine ao_ret (job_Right _ _) rfl (by decide) ?_
    refine Z4n ?_
    refine ao_split rfl rfl (fun hg3 => ?_) (fun hg3 => ?_)
    · refine Z4o ?_
      refine Z4o ?_
      refine Z2b ?_
      refine Z29 ?_
      refine Z4q ?_
      exact Z4r
    · refine Ze ?_
      refine Zf ?_
      refine Z26 ?_
      refine ao_split rfl rfl (fun hg7 => ?_) (fun hg7 => ?_)
      · refine Z4o ?_
        refine Z2b ?_
        refine Z29 ?_
        refine Z4q ?_
        exact Z4r
      · refine Z4s ?_
        refine Z26 ?_
        refine ao_split rfl rfl (fun hg11 => ?_) (fun hg11 => ?_)
        · refine Z2b ?_
          refine Z29 ?_
          refine Z4q ?_
          exact Z4r
        · refine Ze ?_
          refine Z42 ?_
          refine Z4t ?_
          refine ao_split rfl rfl (fun hg16 => ?_) (fun hg16 => ?_)
          · refine Z29 ?_
            refine Z4q ?_
            exact Z4r
          · refine Ze ?_
            refine Z3k ?_
            refine Z3m ?_
            refine Zf ?_
            refine Zm ?_
            exact ao_nil (Out.mk (by (refine congrArg AV.bool ?_; (simp only [jbad, tm] at *; (simp_all; omega)))) (by repeat (first | exact SubX.refl _ _ | refine SubX.at ?_ | refine SubX.put rfl ?_)))
  repeat (refine then_nrm ?_)
  refine aw_cond rfl (fun hc => ?_) (fun hc => ?_)
  · repeat (refine aw_seq ?_)
    refine Z4v ?_
    refine Z2 ?_
    refine Z4w ?_
    repeat (first | refine then_nrm ?_ | refine then_ret ?_ | refine aw_ret ?_)
    rw [show jdo j w now = (j, 1) by rw [jdo, if_pos hc]]
    exact Z4x
  have hb : jbad j w now = false := hc
  have c4 := fun H => job_next j.state w H
  cases hnx : jnext j.state w with
  | none =>
    rw [show nx j.state w = (j.state, false) by rw [nx, hnx]] at c4
    repeat (first | refine then_nrm ?_ | refine aw_seq ?_ | refine aw_skip ?_)
    refine Z4y ?_
    refine Z4z ?_
    refine Z54 ?_
    refine Z55 ?_
    repeat (first | refine then_nrm ?_ | refine aw_seq ?_)
    refine Z56 ?_
    repeat (refine then_nrm ?_)
    refine aw_cond rfl (fun hc => ?_) (fun hc => ?_)
    · repeat (refine aw_seq ?_)
      refine Z4v ?_
      refine Z2 ?_
      refine Z4w ?_
      repeat (first | refine then_nrm ?_ | refine then_ret ?_ | refine aw_ret ?_)
      rw [show jdo j w now = (j, 8) by rw [jdo, if_neg (by rw [hb]; simp), hnx]]
      exact Z4x
    · simp at hc
  | some s =>
    rw [show nx j.state w = (s, true) by rw [nx, hnx]] at c4
    rw [show jdo j w now = (jstep j s now, 0) by rw [jdo, if_neg (by rw [hb]; simp), hnx]]
    repeat (first | refine then_nrm ?_ | refine aw_seq ?_ | refine aw_skip ?_)
    refine Z4y ?_
    refine Z4z ?_
    refine Z54 ?_
    refine Z55 ?_
    repeat (first | refine then_nrm ?_ | refine aw_seq ?_)
    refine Z56 ?_
    repeat (refine then_nrm ?_)
    refine aw_cond rfl (fun hc => ?_) (fun hc => ?_)
    · simp at hc
    repeat (first | refine then_nrm ?_ | refine aw_seq ?_ | refine aw_skip ?_)
    refine Zv ?_
    refine Z1z ?_
    refine Z57 ?_
    refine Z4m ?_
    repeat (first | refine then_nrm ?_ | refine aw_seq ?_)
    refine Zv ?_
    refine Z10 ?_
    repeat (refine then_nrm ?_)
    refine aw_cond rfl (fun hc => ?_) (fun hc => ?_)
    · have hs : s = 2 := by simpa using hc
      rw [show jstep j s now = ⟨j.id, j.spec, j.needs, s, j.came, now, j.to⟩ by rw [jstep, if_pos hs, if_neg (by rw [hs]; decide)]]
      refine Zv ?_
      refine Z1z ?_
      refine Z57 ?_
      refine Z4m ?_
      repeat (first | refine then_nrm ?_ | refine aw_seq ?_)
      refine Zv ?_
      refine Z58 ?_
      refine ao_nil ?_
      repeat (refine then_nrm ?_)
      refine aw_cond rfl (fun hc => ?_) (fun hc => ?_)
      · rw [hs] at hc; exact absurd hc (by decide)
      repeat (first | refine then_nrm ?_ | refine aw_seq ?_ | refine aw_skip ?_)
      refine Z4v ?_
      refine Z2 ?_
      refine Z4w ?_
      repeat (first | refine then_nrm ?_ | refine aw_ret ?_)
      exact Z4x
    · have hs : ¬ s = 2 := by simpa using hc
      repeat (first | refine then_nrm ?_ | refine aw_seq ?_ | refine aw_skip ?_)
      refine Zv ?_
      refine Z58 ?_
      refine ao_nil ?_
      repeat (refine then_nrm ?_)
      refine aw_cond rfl (fun hc => ?_) (fun hc => ?_)
      · rw [show jstep j s now = ⟨j.id, j.spec, j.needs, s, j.came, j.frm, now⟩ by rw [jstep, if_neg hs, if_pos hc]]
        refine Zv ?_
        refine Z1z ?_
        refine Z57 ?_
        refine Z4m ?_
        repeat (first | refine then_nrm ?_ | refine aw_seq ?_)
        refine Z4v ?_
        refine Z2 ?_
        refine Z4w ?_
        repeat (first | refine then_nrm ?_ | refine aw_ret ?_)
        exact Z4x
      · rw [show jstep j s now = ⟨j.id, j.spec, j.needs, s, j.came, j.frm, j.to⟩ by rw [jstep, if_neg hs, if_neg (by rw [hc]; simp)]]
        repeat (first | refine then_nrm ?_ | refine aw_seq ?_ | refine aw_skip ?_)
        refine Z4v ?_
        refine Z2 ?_
        refine Z4w ?_
        repeat (first | refine then_nrm ?_ | refine aw_ret ?_)
        exact Z4x
theorem eq_step {α : Type} {a b : List α} {k : Nat} {x : α} (hx : a[k]? = some x) (hy : b[k]? = some x) (h : a.take k = b.take k) : a.take (k + 1) = b.take (k + 1) := by
  rw [take_snoc_get hx, take_snoc_get hy, h]
theorem eq_done {α : Type} {a b : List α} (hn : a.length = b.length) (h : a.take a.length = b.take a.length) : a = b := by
  rw [List.take_length, hn, List.take_length] at h; exact h
theorem ne_at {α : Type} {a b : List α} {k : Nat} {x y : α} (hx : a[k]? = some x) (hy : b[k]? = some y) (h : x ≠ y) : a ≠ b := by
  rintro rfl; rw [hx] at hy; exact h (Option.some.inj hy)
theorem ref01_Same (a b : List Int) (H : Heap) (ha : a.length ≤ 1000000000) : AC Tryz.prog 23 [.pl (a.map eI), .pl (b.map eI)] H (Ret (.bool (decide (a = b))) H) := by
  refine AC.body (N := 26) [.tmp 4] Tryz.func23 rfl rfl rfl (Nat.le_of_ble_eq_true rfl) fun B hB => ?_
  repeat (refine aw_seq ?_)
  refine Za ?_
  repeat (first | refine then_nrm ?_ | refine aw_seq ?_)
  refine Z59 ?_
  refine Z5a ?_
  refine Z5b ?_
  repeat (refine then_nrm ?_)
  refine aw_cond rfl (fun hc => ?_) (fun hc => ?_)
  · have hn : a.length ≠ b.length := by simp at hc; omega
    rw [show decide (a = b) = false by simp; intro e; exact hn (congrArg List.length e)]
    repeat (refine aw_seq ?_)
    refine Za ?_
    repeat (first | refine then_nrm ?_ | refine then_ret ?_ | refine aw_ret ?_)
    exact Z7
  have hn : a.length = b.length := by simp at hc; omega
  repeat (first | refine then_nrm ?_ | refine aw_seq ?_ | refine aw_skip ?_)
  refine Z3 ?_
  repeat (first | refine then_nrm ?_ | refine aw_block ?_)
  refine aw_loop (G := Nat) (fun k => k ≤ a.length ∧ a.take k = b.take k) (fun k => [(0, .pl (a.map eI)), (1, .pl (b.map eI)), (5, .int .i64 (k : Int))]) (fun _ => H ++ []) (fun k => a.length - k) 0 ⟨Nat.zero_le _, by simp⟩ (by repeat (first | exact Sub.nil | refine Sub.cons (by rfl) ?_)) (Fit.refl _ _) ?_
  rintro k ⟨hk, he⟩
  repeat (refine aw_seq ?_)
  refine Z5d ?_
  repeat (refine then_nrm ?_)
  refine aw_cond rfl (fun hc => ?_) (fun hc => ?_)
  · have hlt : k < a.length := by simpa using hc
    obtain ⟨x, hx, _⟩ := get_in hlt
    obtain ⟨y, hy, _⟩ := get_in (l := b) (k := k) (by omega)
    have hr := map_get eI hx
    have hr1 := map_get eI hy
    repeat (first | refine then_nrm ?_ | refine aw_seq ?_ | refine aw_block ?_ | refine aw_skip ?_)
    refine Z15 ?_
    refine Z5e ?_
    refine Z17 ?_
    refine aqp 2 rfl (by decide +kernel) (by decide) (fun G => w_indexAddrpN rfl rfl hr rfl) ?_
    refine aqp 3 rfl (by decide +kernel) (by decide) (fun G => o_load1p (v := .int _ _) rfl hr rfl) ?_
    refine Z5f ?_
    refine Z1a ?_
    refine aqp 6 rfl (by decide +kernel) (by decide) (fun G => w_indexAddrpN rfl rfl hr1 rfl) ?_
    refine aqp 7 rfl (by decide +kernel) (by decide) (fun G => o_load1p (v := .int _ _) rfl hr1 rfl) ?_
    refine aq0 8 rfl (by decide +kernel) (by decide) (fun _ => o_ne rfl rfl) ?_
    refine Z19 ?_
    repeat (refine then_nrm ?_)
    refine aw_cond rfl (fun hc => ?_) (fun hc => ?_)
    · rw [show decide (a = b) = false by simp; exact ne_at hx hy (by simpa using hc)]
      repeat (refine aw_seq ?_)
      refine Za ?_
      repeat (first | refine then_nrm ?_ | refine then_ret ?_ | refine blk_ret ?_ | refine aw_ret ?_)
      exact Z7
    · have hxy : x = y := by simpa using hc
      subst hxy
      repeat (first | refine then_nrm ?_ | refine blk_nrm ?_ | refine aw_skip ?_)
      refine Z5g ?_
      repeat (refine then_nrm ?_)
      exact ⟨k + 1, by omega, ⟨by omega, eq_step hx hy he⟩, (by repeat (first | exact Sub.nil | refine Sub.cons (by rfl) ?_)), .refl _ _⟩
  · have : k = a.length := by simp at hc; omega
    subst this
    rw [show decide (a = b) = true by simp; exact eq_done hn he]
    repeat (first | refine then_nrm ?_ | refine then_brk ?_ | refine blk_hit ?_ | refine aw_seq ?_ | refine aw_exit ?_)
    refine Za ?_
    repeat (first | refine then_nrm ?_ | refine aw_ret ?_)
    exact Z7
set_option maxHeartbeats 0 in
theorem ref11_Same (a b : Job) (H : Heap) (ha : a.needs.length ≤ 1000000) : AC Tryz.prog 106 [.agg (eJob a), .agg (eJob b)] H (Ret (.bool (decide (a = b))) H) := by
  have he : decide (a = b) = (a.id == b.id && decide (a.spec = b.spec) && a.state == b.state && a.came == b.came && a.frm == b.frm && a.to == b.to && decide (a.needs = b.needs)) := by
    cases a; cases b; simp [Bool.beq_eq_decide_eq]; grind
  rw [he]
  refine AC.body (N := 52) [.tmp 4] Tryz.func106 rfl rfl rfl (Nat.le_of_ble_eq_true rfl) fun B hB => ?_
  repeat (refine aw_seq ?_)
  refine Z2x ?_
  refine Z2w ?_
  refine Z9 ?_
  refine Z4h ?_
  repeat (first | refine then_nrm ?_ | refine aw_seq ?_)
  refine aw_out 4 (.bool (a.id == b.id && decide (a.spec = b.spec) && a.state == b.state && a.came == b.came && a.frm == b.frm && a.to == b.to && decide (a.needs = b.needs))) ?_ ?_
  · refine Z5h ?_
    refine Z3r ?_
    refine ao_split rfl rfl (fun hg5 => ?_) (fun hg5 => ?_)
    · refine Z21 ?_
      refine Z3z ?_
      refine Z21 ?_
      refine Z3z ?_
      refine ao_y1 rfl rfl (by decide) (o_eqAgg (us := uSpec a.spec) (vs := uSpec b.spec) rfl rfl rfl rfl (by kernel_rfl) (eqSpec_run _ _)) ?_
      refine Z24 ?_
      refine ao_split rfl rfl (fun hg12 => ?_) (fun hg12 => ?_)
      · refine Z5i ?_
        refine ao_split rfl rfl (fun hg19 => ?_) (fun hg19 => ?_)
        · refine Z5i ?_
          refine ao_split rfl rfl (fun hg26 => ?_) (fun hg26 => ?_)
          · refine Z5i ?_
            refine ao_split rfl rfl (fun hg33 => ?_) (fun hg33 => ?_)
            · refine Z5i ?_
              refine ao_split rfl rfl (fun hg40 => ?_) (fun hg40 => ?_)
              · refine Z5l ?_
                refine ao_y rfl rfl (by decide) (V2.call (ref01_Same a.needs b.needs _ (by omega)) rfl) ?_
                refine Zh ?_
                exact Z5m
              · refine Z3l ?_
                exact Z5m
            · refine Zl ?_
              exact Z5o
          · refine Zl ?_
            refine Z45 ?_
            exact Z5o
        · refine Z5q ?_
          exact Z5o
      · refine Z5q ?_
        refine Z45 ?_
        exact Z5o
    · refine Z5q ?_
      refine Z5p ?_
      exact Z5o
  repeat (first | refine then_nrm ?_ | refine aw_ret ?_)
  exact Z7
end Go.Av

namespace Go.Av
structure Know where
  g : Nat
  tab : List Value
def Kn (K : Know) (S : List Slot) (w : World) : Prop := ¬ own S K.g ∧ K.g < w.heap.size ∧ (∀ j v, K.tab[j]? = some v → w.cell? ⟨K.g, j, none⟩ = some v) ∧ ∃ ty fz, w.heap[K.g]? = some (Obj.cells K.tab.toArray ty fz)
abbrev Know.av (K : Know) : AV := .know K.g K.tab
theorem VR.kn {S : List Slot} {w : World} {K : Know} {u : Value} (h : VR (own S) w S K.av u) : Kn K S w := by
  cases h with
  | know ho hg h hx => exact ⟨ho, hg, h, hx⟩
theorem Kn.vr {S : List Slot} {w : World} {K : Know} {u : Value} (h : Kn K S w) : VR (own S) w S K.av u := .know h.1 h.2.1 h.2.2.1 h.2.2.2
def ACT (P : Program) (K : Know) (f : FuncId) (args : List AV) (H : Heap) (R : AOut → Heap → Prop) : Prop :=
  ∀ S w cargs, Kn K S w → HRel H S w → VRs (own S) w S args cargs →
    Calls P f cargs w fun e w' => ∃ o H' S', R o H' ∧ OutR (own S') w' S' o e ∧ HRel H' S' w' ∧ Ext S w S' w'
section
variable {P : Program} {N : Nat} {B : Base} {env : Env} {H H0 L : Heap} {ty : TypeId}
theorem V2.callT {K : Know} {f : Nat} {xs : Array Operand} {ts : Array TypeId} {v : AV} {vs : List AV} {M : Heap} [FnI P f] (hac : ACT P K f vs H (Ret v M)) (hvs : xs.toList.map (aev env) = vs) (hk : get env KT = K.av) :
    V2 P N (.call { callee := .value (.func f), args := xs, argTypes := ts }) ty env H v M := by
  subst hvs
  intro dst pos after guard S a w hc next Q hn hp
  have hkn := hc.env KT
  rw [hk] at hkn
  have hrun : (execOp a.eval ⟨dst, .call { callee := .value (.func f), args := xs, argTypes := ts }, ty, pos, after, guard⟩).run P w = .ok (.enter f (xs.map a.eval)) w := by
    simp [execOp, resolve, Act.eval, Deferred.ofValue, invoke, run_callFunc (P := P) (f := f)]
  unfold Oper.wp
  rw [hrun]
  refine (hac S w (xs.map a.eval) hkn.kn hc.heap (evs_ok hc xs)).mono ?_
  rintro e w' ⟨out, H', S', ⟨rfl, rfl⟩, hout, hh, hx⟩
  cases hout with
  | ret hv => exact hn _ _ _ S' w' ⟨rfl, rfl⟩ hh hx hv
theorem ACT.up {K : Know} {f : FuncId} {vs us : List AV} {R : AOut → Heap → Prop} (h : ACT P K f us H R) (hvs : vs.map AV.up = us) : ACT P K f vs H R := fun S w cargs hk hH hv => h S w cargs hk hH (hvs ▸ hv.up)
theorem ACT.body {K : Know} {f : FuncId} {N : Nat} {fn : Func} {c : Code} {args : List AV} {R : AOut → Heap → Prop} (rs : List ResultVar) (hf : P.funcs[f]? = some fn) (hb : fn.body = some c) (hr : fn.results = rs.toArray)
    (hN : fn.ntmps = N) (hn : args.length ≤ N) (h : ∀ B, Begun B H args → AWp P N B c (Ends P B rs R) ((KT, K.av) :: params 0 args) (H ++ [])) : ACT P K f args H R := by
  subst hN
  simp only [List.append_nil] at h
  intro S w cargs hkn hH hv
  refine calls_of_wp hf hb ?_
  have hc : CR fn.ntmps ((KT, K.av) :: params 0 args) H S { tmps := cargs ++ Array.replicate (fn.ntmps - cargs.size) undef, defers := [] } w := by
    refine ⟨hH, fun t => ?_, ?_, rfl⟩
    · by_cases hKT : KT = t
      · subst hKT; rw [get_put_same]; exact hkn.vr
      rw [get_put_other _ _ hKT, get_params, if_pos (Nat.zero_le _), Nat.sub_zero]
      by_cases ht : t < args.length
      · have h1 : args.getD t .junk = args[t] := by simp [List.getD, ht]
        have ht' : t < cargs.size := by rw [← hv.1]; exact ht
        have h2 : (cargs ++ Array.replicate (fn.ntmps - cargs.size) undef).getD t undef = cargs[t] := by
          simp [Array.getElem?_append_left ht', ht']
        rw [h1, h2]
        exact hv.2 t _ _ (List.getElem?_eq_getElem ht) (Array.getElem?_eq_getElem ht')
      · have h1 : args.getD t .junk = .junk := by simp [List.getD, List.getElem?_eq_none (Nat.le_of_not_lt ht)]
        rw [h1]; exact .junk
    · have := hv.1
      simp
      omega
  have hbg : Begun ⟨S, w⟩ H args := by
    refine ⟨hH.len.symm, hH.bel, ?_⟩
    rw [AV.bels_iff]
    intro v hv'
    obtain ⟨j, hj⟩ := List.mem_iff_getElem?.1 hv'
    rw [hH.len]
    exact (hv.2 j v _ hj (Array.getElem?_eq_getElem (by rw [← hv.1]; exact (List.getElem?_eq_some_iff.1 hj).1))).bel
  refine wp_mono (h ⟨S, w⟩ hbg S _ w hc (Ext.refl S w)) ?_
  intro e a' w' ⟨x, env', H', S', q, r, c, k⟩
  cases r with
  | nrm =>
    obtain ⟨vs, M, h1, h2, h3⟩ := q
    obtain ⟨u, k1, k2⟩ := results_ok c hr h1
    obtain ⟨S2, m1, m2, m3⟩ := h2.ok c.heap k2 k
    exact ⟨c.defers, u, k1, _, M, S2, h3, .ret m2, m1, m3⟩
  | ret =>
    obtain ⟨vs, M, h1, h2, h3⟩ := q
    obtain ⟨u, k1, k2⟩ := results_ok c hr h1
    obtain ⟨S2, m1, m2, m3⟩ := h2.ok c.heap k2 k
    exact ⟨c.defers, u, k1, _, M, S2, h3, .ret m2, m1, m3⟩
  | brk => exact q.elim
  | pan hv =>
    obtain ⟨M, h2, h3⟩ := q
    obtain ⟨S2, m1, m2, m3⟩ := h2.ok c.heap hv k
    exact ⟨c.defers, _, M, S2, h3, .pan m2, m1, m3⟩
theorem o_indexGlob {t e : TypeId} {x y : Operand} {g m n : Nat} {k : IntKind} {sz : Nat} {agg : Bool} [ArI P t m e] [TyI P e agg sz] (hx : aev env x = .raw (.pointer (some ⟨g, 0, none⟩))) (hy : aev env y = .int k (n : Int)) (h1 : n < m) :
    V1 P N (.indexAddr t x y) ty env H (.raw (.pointer (some ⟨g, n * sz, none⟩))) := by
  intro S a w hc
  have hv := hc.ev x
  rw [hx] at hv
  generalize he : a.eval x = u at hv
  cases hv
  refine ⟨.pointer (some ⟨g, n * sz, none⟩), fun _ _ _ _ => ?_, .raw⟩
  simp [execOp, he, ev_int hc hy, run_indexArr (P := P) (t := t) (e := e) (sz := sz) (agg := agg) (n := (n : Int)) (by omega) (by omega), add_none]
theorem o_loadGlob {K : Know} {t : TypeId} {x : Operand} {g j sz : Nat} {v : AV} {u : Value} [TyI P t false sz] (hx : aev env x = .raw (.pointer (some ⟨g, j, none⟩))) (hk : get env KT = K.av) (hg : K.g = g) (hu : K.tab[j]? = some u) (hv : ∀ O w S, VR O w S v u) : V1 P N (.load t x) ty env H v := by
  intro S a w hc
  have hkn := hc.env KT
  rw [hk] at hkn
  have hcell := hkn.kn.2.2.1 j u hu
  rw [hg] at hcell
  have h := hc.ev x
  rw [hx] at h
  generalize he : a.eval x = y at h
  cases h
  exact ⟨u, fun _ _ _ _ => by simp [execOp, he, Instr.loadAt, Instr.sureAddr, run_loadVar1 (P := P) (t := t) hcell], hv _ _ _⟩
end
end Go.Av

namespace Go.Av
open Go.Proofs
set_option maxRecDepth 10000
set_option linter.unusedSimpArgs false
set_option linter.unusedVariables false
theorem w_indexArrN {P : Program} {N : Nat} {env : Env} {H : Heap} {ty : TypeId} {t e : TypeId} {x y : Operand} {id g i j m n : Nat} {k : IntKind} {sz : Nat} {agg : Bool} {o : AObj} [ArI P t m e] [TyI P e agg sz] (hx : aev env x = .pt id g i j) (hid : H[id]? = some o) (hg : o.gen = g)
    (hy : aev env y = .int k (n : Int)) (h1 : n < m) : V1 P N (.indexAddr t x y) ty env H (.pt id g i (j + n * sz)) := w_indexArr (agg := agg) (e := e) hx hid hg hy (by omega) (by omega)
theorem p64 {k : Nat} (h : k < 64) : 2 ^ k < 18446744073709551616 := Nat.pow_lt_pow_right (a := 2) (n := 64) (by decide) h
def KD : Know := ⟨0, Lib.deBruijn64tab.map fun n : Nat => Value.int .u8 (n : Int)⟩
theorem KD_at {q k : Nat} (hi : q < 64) (h : Lib.deBruijn64tab.getD q 0 = k) : KD.tab[q]? = some (.int .u8 (k : Int)) := by
  have hlen : Lib.deBruijn64tab.length = 64 := rfl
  unfold KD
  dsimp only
  generalize Lib.deBruijn64tab = l at h hlen
  rw [List.getElem?_map]
  cases hq : l[q]? with
  | none => rw [List.getElem?_eq_none_iff] at hq; omega
  | some v =>
    rw [List.getD_eq_getElem?_getD, hq] at h
    subst h
    rfl
theorem bits_TZ (x : Nat) (hx : x < 18446744073709551616) (H : Heap) : ACT Tryz.prog KD 179 [.int .u64 (x : Int)] H (Ret (.int .i64 ((Lib.ctz 64 x : Nat) : Int)) H) := by
  refine ACT.body (N := 14) [.tmp 2] Tryz.func179 rfl rfl rfl (Nat.le_of_ble_eq_true rfl) fun B hB => ?_
  repeat (refine aw_seq ?_)
  refine Z3 ?_
  repeat (first | refine then_nrm ?_ | refine aw_seq ?_)
  refine Zv ?_
  refine Z10 ?_
  repeat (refine then_nrm ?_)
  refine aw_cond rfl (fun hc => ?_) (fun hc => ?_)
  · repeat (refine aw_seq ?_)
    refine Z3 ?_
    repeat (first | refine then_nrm ?_ | refine then_ret ?_ | refine aw_ret ?_)
    rw [show Lib.ctz 64 x = 64 by simp at hc; simp [Lib.ctz, hc]]
    exact Z7
  · have hx0 : x ≠ 0 := by simp at hc; omega
    obtain ⟨hlow, hk⟩ := Lib.lowest_bit 64 x hx0 hx
    generalize Lib.ctz 64 x = k at hlow hk
    obtain ⟨hi, htab⟩ := Lib.deBruijn64_at k hk
    have hlt : 2 ^ k < 18446744073709551616 := p64 hk
    generalize hm : 2 ^ k = m at hlow hi htab hlt
    generalize hq : m * 285870213051353865 % 18446744073709551616 / 288230376151711744 = q at hi htab
    have hu := KD_at hi htab
    repeat (first | refine then_nrm ?_ | refine aw_seq ?_ | refine aw_skip ?_)
    refine Z1o ?_
    refine ao1 (by decide) (o_neg (r := ((18446744073709551616 - x : Nat) : Int)) rfl (by rw [IntKind.wrap_u64]; omega)) ?_
    refine ao1 (by decide) (o_and (r := (m : Int)) rfl rfl (by rw [u64_and x _ hx (by omega)]; rw [show (18446744073709551616 : Nat) = 2 ^ 64 from rfl, hlow])) ?_
    refine ao1 (by decide) (o_mul (r := ((m * 285870213051353865 % 18446744073709551616 : Nat) : Int)) rfl rfl (by rw [IntKind.wrap_u64]; omega)) ?_
    refine ao1 (by decide) (o_shr (r := (q : Int)) rfl rfl (by omega) (by rw [← hq, show ((2 : Int) ^ min (58 : Int).toNat IntKind.u64.bits) = ((288230376151711744 : Nat) : Int) from rfl, Int.fdiv_eq_ediv_of_nonneg _ (by omega)]; exact (Int.natCast_ediv _ _).symm)) ?_
    refine ao1 (by decide) (o_indexGlob (n := q) rfl rfl (by omega)) ?_
    refine ao1 (by decide) (o_loadGlob (K := KD) (v := .int .u8 (k : Int)) rfl rfl rfl (by rw [Nat.mul_one]; exact hu) (fun _ _ _ => .int)) ?_
    refine ao1 (by decide) (o_conv_int (r := (k : Int)) rfl (wrap64_ok (by omega) (by omega))) ?_
    refine Z2 ?_
    repeat (first | refine then_nrm ?_ | refine aw_ret ?_)
    exact Z7
abbrev eInt (i : Int) : List AV := [.int .i64 i]
theorem ints_bel (n : Nat) (l : List Int) : ∀ r ∈ l.map eInt, AV.bels n r = true := rows_bel (e := eInt) (fun _ => rfl) l
theorem ints_len (l : List Int) : ∀ r ∈ l.map eInt, r.length = 1 := rows_len (e := eInt) (n := 1) (fun _ => rfl) l
theorem eWn_bels (n : Nat) (w : Nat → Nat) : AV.bels n (eWn w) = true := by rw [AV.bels_iff]; intro v hv; simp only [eWn, List.mem_map] at hv; obtain ⟨i, _, rfl⟩ := hv; rfl
theorem eWn_len (w : Nat → Nat) : (eWn w).length = 4 := by simp [eWn]
theorem eW0 (l : List Int) : eWn (wd (fpre l 0)) = [.int .u64 0, .int .u64 0, .int .u64 0, .int .u64 0] := by
  rw [fpre_zero]; simp [eWn, wd_zero, List.range_succ]
def pof (l : List Int) : Nat → Nat := wd (fpre l (okn l))
theorem set_of (l : List Int) (hl : l.length ≤ 9223372036854775807) (H : Heap) : AC Tryz.prog 132 [.pl (l.map eInt)] H (Ret (.tup [.agg (eWn (pof l)), .bool (sok l)]) H) := by
  refine AC.body (N := 34) [.cell 2 111, .tmp 3] Tryz.func132 rfl rfl rfl (Nat.le_of_ble_eq_true rfl) fun B hB => ?_
  repeat (refine aw_seq ?_)
  refine aw_region ?_
  refine Z5r ?_
  refine Z9 ?_
  refine Z5s ?_
  repeat (first | refine then_nrm ?_ | refine aw_seq ?_)
  refine aw_region ?_
  refine Z5r ?_
  refine ao_nil ?_
  try dsimp only [put, List.length_cons, List.length_nil, Nat.reduceAdd, List.cons_append, List.nil_append]
  repeat (first | refine then_nrm ?_ | refine aw_seq ?_)
  refine Z3 ?_
  repeat (first | refine then_nrm ?_ | refine aw_seq ?_)
  refine Z5t ?_
  repeat (first | refine then_nrm ?_ | refine aw_block ?_)
  refine aw_loop (G := Nat) (fun k => k ≤ l.length ∧ ∀ i, i < k → okB l i = true) (fun k => [(2, .pt (Lid H.length 0) 0 0 0), (4, .pt (Lid H.length 1) 0 0 0), (5, .int .i64 (lastN l k)), (8, .pl (l.map eInt)), (9, .int .i64 (l.length : Int)), (10, .int .i64 (k : Int))]) (fun k => H ++ [⟨0, 4, [[.int .u64 0, .int .u64 0, .int .u64 0, .int .u64 0]]⟩, ⟨0, 4, [eWn (wd (fpre l k))]⟩]) (fun k => l.length - k) 0 ⟨Nat.zero_le _, fun i hi => by omega⟩ (by repeat (first | exact Sub.nil | refine Sub.cons (by first | rfl | (simp [get]; done)) ?_)) (.inl (by rw [eW0])) ?_
  rintro k ⟨hk, hno⟩
  repeat (refine aw_seq ?_)
  refine Z36 ?_
  repeat (first | refine then_nrm ?_ | refine aw_seq ?_)
  refine aw_cond rfl (fun hc => ?_) (fun hc => ?_)
  · have hlt : k < l.length := by simpa using hc
    obtain ⟨x, hx, hxl⟩ := get_in hlt
    have hr := map_get eInt hx
    have hok := okB_last hx hno
    repeat (first | refine then_nrm ?_ | refine aw_seq ?_ | refine aw_block ?_ | refine aw_skip ?_)
    refine Z3b ?_
    repeat (first | refine then_nrm ?_ | refine aw_seq ?_)
    refine aw_out 20 (.bool (!okB l k)) ?_ ?_
    · refine Z1u ?_
      refine Zd ?_
      refine ao_split rfl rfl (fun hg3 => ?_) (fun hg3 => ?_)
      · refine Z29 ?_
        refine Zg ?_
        exact Z3e
      · refine Ze ?_
        refine Z3f ?_
        refine Zm ?_
        exact Z3g
    repeat (refine then_nrm ?_)
    refine aw_cond rfl (fun hc => ?_) (fun hc => ?_)
    · repeat (refine aw_seq ?_)
      refine Z2i ?_
      refine Z5v ?_
      refine Z5w ?_
      repeat (first | refine then_nrm ?_ | refine then_ret ?_ | refine blk_ret ?_ | refine aw_ret ?_)
      rw [sok_false hlt (by simpa using hc), show wd (fpre l k) = pof l by rw [pof, okn_at hlt hno (by simpa using hc)]]
      exact Z5x
    · have hokk : okB l k = true := by simpa using hc
      obtain ⟨h0, h256⟩ := okB_range hx hokk
      obtain ⟨n, rfl⟩ : ∃ n : Nat, x = n := ⟨x.toNat, by omega⟩
      have hn4 : n / 64 < 4 := by omega
      have hp : 2 ^ (n % 64) < 18446744073709551616 := p64 (by omega)
      have hcell : (eWn (wd (fpre l k)))[0 + n / 64 * 1]? = some (.int .u64 ((wd (fpre l k) (n / 64) : Nat) : Int)) := by rw [Nat.zero_add, Nat.mul_one]; exact eWn_get _ hn4
      have hlast : lastN l (k + 1) = (n : Int) := by rw [lastN, if_neg (by omega), Nat.add_sub_cancel, hx]; rfl
      have hset : (eWn (wd (fpre l k))).take (0 + n / 64 * 1) ++ [AV.int .u64 ((wd (fpre l k) (n / 64) ||| 2 ^ (n % 64) : Nat) : Int)] ++ (eWn (wd (fpre l k))).drop (0 + n / 64 * 1 + 1) = eWn (wd (fpre l (k + 1))) := by
        rw [Nat.zero_add, Nat.mul_one, eWn_set _ hn4, fpre_step hx]
        refine eWn_congr fun j _ => ?_
        rw [wd_put]
        split <;> simp_all
      repeat (first | refine then_nrm ?_ | refine aw_seq ?_ | refine aw_skip ?_)
      refine Z13 ?_
      repeat (refine then_nrm ?_)
      refine aw_drawR mixed (some 9) 1 ?_
      refine Z5y ?_
      refine aq0 1 rfl (by decide +kernel) (by decide) (fun _ => o_quo (r := ((n / 64 : Nat) : Int)) rfl rfl (by omega) (wrap64_ok (n := ((n / 64 : Nat) : Int)) (by omega) (by omega))) ?_
      refine aqr 2 rfl (by decide +kernel) (by decide) (fun G hG => w_indexArrN rfl (lk rfl hG) rfl rfl hn4) ?_
      refine aqr 3 rfl (by decide +kernel) (by decide) (fun G hG => w_load1 (v := .int .u64 _) rfl (lk rfl hG) rfl rfl hcell) ?_
      refine Z18 ?_
      refine aq0 5 rfl (by decide +kernel) (by decide) (fun _ => o_rem (r := ((n % 64 : Nat) : Int)) rfl rfl (by omega) rfl) ?_
      refine aq0 6 rfl (by decide +kernel) (by decide) (fun _ => o_shl (r := ((2 ^ (n % 64) : Nat) : Int)) rfl rfl (by omega) (by rw [show min ((n % 64 : Nat) : Int).toNat IntKind.u64.bits = n % 64 by show min (n % 64) 64 = _; omega, Int.one_mul]; rw [show ((2 : Int) ^ (n % 64)) = ((2 ^ (n % 64) : Nat) : Int) by simp]; exact u64_wrap _ hp)) ?_
      refine aq0 7 rfl (by decide +kernel) (by decide) (fun _ => o_or (r := ((wd (fpre l k) (n / 64) ||| 2 ^ (n % 64) : Nat) : Int)) rfl rfl (u64_or _ _ (wd_lt _ _) hp)) ?_
      refine aqr 8 rfl (by decide +kernel) (by decide) (fun G hG => w_indexArrN rfl (lk rfl hG) rfl rfl hn4) ?_
      refine aqs 9 rfl (by decide +kernel) (by exact fun _ => ⟨_, rfl, rfl⟩) (by rintro _ ⟨⟩) (w_storeP (sz := 1) (v := .int .u64 _) (r' := eWn (wd (fpre l (k + 1)))) rfl rfl rfl rfl rfl rfl rfl rfl (by show _ ≤ 4; omega) hset) ?_
      refine Z5z ?_
      refine Z4w ?_
      repeat (first | refine then_nrm ?_ | refine blk_nrm ?_)
      refine Z3i ?_
      repeat (refine then_nrm ?_)
      refine ⟨k + 1, by omega, ⟨by omega, fun i hi => ?_⟩, by rw [hlast]; exact (by repeat (first | exact Sub.nil | refine Sub.cons (by rfl) ?_)), .refl _ _⟩
      rcases Nat.lt_or_eq_of_le (Nat.le_of_lt_succ hi) with h | h
      · exact hno i h
      · subst h; exact hokk
  · have : k = l.length := by simp at hc; omega
    subst this
    repeat (first | refine then_nrm ?_ | refine then_brk ?_ | refine blk_hit ?_ | refine aw_seq ?_ | refine aw_exit ?_)
    refine Z2i ?_
    refine Z5v ?_
    refine Z5w ?_
    repeat (first | refine then_nrm ?_ | refine aw_ret ?_)
    rw [sok_true hno, show wd (fpre l l.length) = pof l by rw [pof, okn_all hno]]
    exact Z5x
end Go.Av

namespace Go.Av
def AtR2 (H0 L0 : Heap) (k1 k2 : Nat) (H : Heap) : Prop := ∃ G : Heap, H = H0 ++ G ∧ G[k1]? = L0[k1]? ∧ G[k2]? = L0[k2]?
section
variable {P : Program} {N : Nat} {B : Base} {ops : Array Oper} {a : Option Nat} {C : Heap → Prop} {F : Env → Heap → Prop} {Q : Post}
variable {fuel : Nat} {listed : Array Bool} {env : Env} {H H0 L : Heap} {op : Op} {ty : TypeId} {pos : String} {after : Array Edge} {v : AV} {id : Nat} {l : List Oper}
theorem aw_draw2 (hm : P.follows .mixedOrders = true) (a : Option Nat) (k1 k2 : Nat) (h : AAny P N B l.toArray a (AtR2 H0 L k1 k2) (Q .nrm) l.length (Array.replicate l.length false) env (H0 ++ L)) : AWp P N B (.region id l.toArray true) Q env (H0 ++ L) := aw_draw hm a _ h
theorem aqr2 {d k1 k2 : Nat} {L0 : Heap} (i : Nat) (hi : ops[i]? = some ⟨some d, op, ty, pos, after, none⟩) (hB : firstB ops listed a i = true) (hd : DN d N) (h1 : ∀ G : Heap, G[k1]? = L0[k1]? → G[k2]? = L0[k2]? → V1 P N op ty (renv ⟨some d, op, ty, pos, after, none⟩ env) (H0 ++ G) v)
    (h : AAny P N B ops a (AtR2 H0 L0 k1 k2) F fuel (listed.setIfInBounds i true) ((d, v) :: env) H) : AAny P N B ops a (AtR2 H0 L0 k1 k2) F (fuel + 1) listed env H :=
  aq1 i hi hB hd (by rintro _ ⟨G, rfl, hG1, hG2⟩; exact h1 G hG1 hG2) h
end
end Go.Av

namespace Go.Av
open Go.Proofs
set_option maxRecDepth 10000
set_option linter.unusedSimpArgs false
set_option linter.unusedVariables false
theorem sok_len {l : List Int} (h : sok l = true) : ∀ k : Nat, k < l.length → (k : Int) ≤ l.getD k 0 := by
  intro k
  induction k with
  | zero =>
    intro hk
    have hm : l[0]? = some l[0] := List.getElem?_eq_getElem hk
    have := okB_range hm (sok_get h hk)
    simp only [List.getD_eq_getElem?_getD, hm, Option.getD_some]
    omega
  | succ k ih =>
    intro hk
    have hm : l[k + 1]? = some l[k + 1] := List.getElem?_eq_getElem hk
    have hm0 : l[k]? = some l[k] := List.getElem?_eq_getElem (by omega)
    have h1 := sok_get h hk
    rw [okB_get hm] at h1
    have ih := ih (by omega)
    simp only [List.getD_eq_getElem?_getD, hm0, hm, Option.getD_some] at ih ⊢
    simp only [Nat.add_sub_cancel, hm0, Bool.and_eq_true, Bool.or_eq_true, decide_eq_true_eq, beq_iff_eq] at h1
    omega
theorem sok_256 {l : List Int} (h : sok l = true) : l.length ≤ 256 := by
  rcases Nat.lt_or_ge 256 l.length with hl | hl
  · have h1 := sok_len h 256 hl
    have hm : l[256]? = some l[256] := List.getElem?_eq_getElem hl
    have := okB_range hm (sok_get h hl)
    simp only [List.getD_eq_getElem?_getD, hm, Option.getD_some] at h1
    omega
  · exact hl
theorem pof_ok {l : List Int} (h : sok l = true) : pof l = wd (inl l) := by
  rw [pof, okn_all fun i hi => sok_get h hi, fpre_all]
theorem set_Right (l : List Int) (hl : l.length ≤ 9223372036854775807) (H : Heap) : AC Tryz.prog 91 [.pl (l.map eInt)] H (Ret (.bool (sok l)) H) := by
  refine AC.body (N := 11) [.tmp 2] Tryz.func91 rfl rfl rfl (Nat.le_of_ble_eq_true rfl) fun B hB => ?_
  repeat (refine aw_seq ?_)
  refine Za ?_
  repeat (first | refine then_nrm ?_ | refine aw_seq ?_)
  refine Z2r ?_
  refine Z60 ?_
  refine Z63 ?_
  refine Z5r ?_
  refine Z5v ?_
  refine Z64 ?_
  repeat (first | refine then_nrm ?_ | refine aw_seq ?_)
  refine Z1r ?_
  refine Z9 ?_
  repeat (first | refine then_nrm ?_ | refine aw_ret ?_)
  exact Z7
theorem set_both (a b : List Int) (ha : a.length ≤ 9223372036854775807) (hb : b.length ≤ 9223372036854775807) (H : Heap) : AC Tryz.prog 79 [.pl (a.map eInt), .pl (b.map eInt)] H (Ret (.tup [.agg (eWn (pof a)), .agg (eWn (pof b)), .bool (sok a && sok b)]) H) := by
  refine AC.body (N := 27) [.cell 4 111, .cell 5 111, .tmp 6] Tryz.func79 rfl rfl rfl (Nat.le_of_ble_eq_true rfl) fun B hB => ?_
  repeat (refine aw_seq ?_)
  refine aw_region ?_
  refine Z5r ?_
  refine Z5r ?_
  refine Z9 ?_
  try dsimp only [List.length_nil, put, List.nil_append, List.length_cons, Nat.reduceAdd, List.cons_append]
  repeat (first | refine then_nrm ?_ | refine aw_seq ?_)
  refine Z2r ?_
  refine Z60 ?_
  refine Z63 ?_
  refine Z5r ?_
  refine Z5v ?_
  refine Z65 ?_
  repeat (first | refine then_nrm ?_ | refine aw_seq ?_)
  refine Z2r ?_
  refine Z60 ?_
  refine Z63 ?_
  refine Z5r ?_
  refine Z5v ?_
  refine Z65 ?_
  have hbel : ∀ n : Nat, (AV.tup [.agg (eWn (pof a)), .agg (eWn (pof b)), .bool (sok a && sok b)]).bel n = true := by intro n; simp [AV.bel, AV.bels, eWn_bels]
  repeat (first | refine then_nrm ?_ | refine aw_seq ?_)
  refine aw_draw2 mixed none 2 3 ?_
  refine aqr2 0 rfl (by decide +kernel) (by decide) (fun G hG1 hG2 => w_loadR rfl (lk rfl hG1) rfl rfl (eWn_len _)) ?_
  refine aqr2 1 rfl (by decide +kernel) (by decide) (fun G hG1 hG2 => w_loadR rfl (lk rfl hG2) rfl rfl (eWn_len _)) ?_
  refine Z66 ?_
  refine Z67 ?_
  refine aq_split (g := 24) rfl (fun hg3 => ?_) (fun hg3 => ?_)
  · refine aqy0 (g := 24) 4 rfl (by decide +kernel) (by decide) rfl rfl (fun _ => o_move (v := .bool _) rfl) ?_
    refine aq0 5 rfl (by decide +kernel) (by decide) (fun _ => o_pick_t (v := .bool _) rfl rfl) ?_
    refine Z68 ?_
    refine Z69 ?_
    refine Z6a ?_
    refine Z6b ?_
    refine Z4w ?_
    repeat (first | refine then_nrm ?_ | refine aw_ret ?_)
    rw [hg3] at hbel ⊢
    exact Z6c
  · refine aqn0 (g := 24) 4 rfl (by decide +kernel) (by decide) rfl rfl rfl ?_
    refine aq0 5 rfl (by decide +kernel) (by decide) (fun _ => o_pick_f (v := .bool _) rfl rfl) ?_
    refine Z68 ?_
    refine Z69 ?_
    refine Z6a ?_
    refine Z6b ?_
    refine Z4w ?_
    repeat (first | refine then_nrm ?_ | refine aw_ret ?_)
    rw [hg3] at hbel ⊢
    exact Z6c
end Go.Av

namespace Go.Av
open Go.Proofs
set_option maxRecDepth 10000
set_option linter.unusedSimpArgs false
set_option linter.unusedVariables false
theorem words_zero (f : Nat → Bool) : ((List.range 4).all fun k => wd f k == 0) = decide (setl f = []) := by
  rw [Bool.eq_iff_iff, List.all_eq_true, decide_eq_true_eq, setl, List.map_eq_nil_iff, List.filter_eq_nil_iff]
  simp only [List.mem_range, beq_iff_eq, wd_eq_zero]
  constructor
  · intro h n hn
    have := h (n / 64) (by omega) (n % 64) (by omega)
    rw [show 64 * (n / 64) + n % 64 = n by omega] at this
    simp [this]
  · intro h k hk j hj
    have := h (64 * k + j) (by omega)
    simpa using this
theorem all_range_step {p : Nat → Bool} (k : Nat) : (List.range (k + 1)).all p = ((List.range k).all p && p k) := by
  rw [List.range_succ, List.all_append]; simp
theorem set_Part (a b : List Int) (ha : a.length ≤ 9223372036854775807) (hb : b.length ≤ 9223372036854775807) (H : Heap) : AC Tryz.prog 28 [.pl (a.map eInt), .pl (b.map eInt)] H (Ret (.bool (spart a b)) H) := by
  refine AC.body (N := 32) [.tmp 4] Tryz.func28 rfl rfl rfl (Nat.le_of_ble_eq_true rfl) fun B hB => ?_
  repeat (refine aw_seq ?_)
  refine Za ?_
  repeat (first | refine then_nrm ?_ | refine aw_seq ?_)
  refine Z6d ?_
  refine Z6e ?_
  refine Z62 ?_
  refine Z61 ?_
  refine Z51 ?_
  refine Z5r ?_
  refine Z5r ?_
  refine Z5u ?_
  refine Z5v ?_
  refine Z6f ?_
  repeat (first | refine then_nrm ?_ | refine aw_seq ?_)
  refine Zv ?_
  refine ao_nil ?_
  repeat (first | refine then_nrm ?_ | refine aw_block ?_)
  refine aw_loop (G := Nat) (fun k => k ≤ 4) (fun k => [(5, .pt (Lid H.length 0) 0 0 0), (6, .pt (Lid H.length 1) 0 0 0), (7, .bool (sok a && sok b && (List.range k).all fun i => wd (fun n => fpre a (okn a) n && !fpre b (okn b) n) i == 0)), (16, .int .i64 (k : Int))]) (fun _ => H ++ [⟨0, 4, [eWn (pof a)]⟩, ⟨0, 4, [eWn (pof b)]⟩]) (fun k => 4 - k) 0 (Nat.zero_le _) (by simp only [List.range_zero, List.all_nil, Bool.and_true]; exact (by repeat (first | exact Sub.nil | refine Sub.cons (by rfl) ?_))) (Fit.refl _ _) ?_
  intro k hk
  repeat (refine aw_seq ?_)
  refine Z36 ?_
  repeat (first | refine then_nrm ?_ | refine aw_seq ?_)
  refine aw_cond rfl (fun hc => ?_) (fun hc => ?_)
  · have hk4 : k < 4 := by simp at hc; omega
    have hx : (eWn (pof a))[0 + k * 1]? = some (.int .u64 ((wd (fpre a (okn a)) k : Nat) : Int)) := by rw [Nat.zero_add, Nat.mul_one]; exact eWn_get _ hk4
    have hy : (eWn (pof b))[0 + k * 1]? = some (.int .u64 ((wd (fpre b (okn b)) k : Nat) : Int)) := by rw [Nat.zero_add, Nat.mul_one]; exact eWn_get _ hk4
    repeat (first | refine then_nrm ?_ | refine aw_seq ?_ | refine aw_block ?_ | refine aw_skip ?_)
    refine Z13 ?_
    repeat (refine then_nrm ?_)
    refine aw_of_out 7 (.bool (sok a && sok b && (List.range (k + 1)).all fun i => wd (fun n => fpre a (okn a) n && !fpre b (okn b) n) i == 0)) ?_ ?_
    · refine Z6i ?_
      refine Z6j ?_
      refine Z6k ?_
      refine aq_split (g := 20) rfl (fun hg1 => ?_) (fun hg1 => ?_)
      · refine Z6l ?_
        refine Z6m ?_
        refine Z6n ?_
        refine Z6o ?_
        refine Z6p ?_
        refine Z6q ?_
        refine aqy0 (g := 20) 8 rfl (by decide +kernel) (by decide) rfl rfl (fun _ => o_andNot (r := ((wd (fun n => fpre a (okn a) n && !fpre b (okn b) n) k : Nat) : Int)) rfl rfl (u64_andNot _ _ _)) ?_
        refine Z6r ?_
        refine Z6s ?_
        refine Z6t ?_
        exact aa_done (by decide +kernel) (by exact fun _ => ⟨_, rfl⟩) (Out.mk (by (refine congrArg AV.bool ?_; (rw [all_range_step]; generalize ((List.range k).all fun i => wd (fun n => fpre a (okn a) n && !fpre b (okn b) n) i == 0) = q at *; generalize wd (fun n => fpre a (okn a) n && !fpre b (okn b) n) k = m at *; rw [← Bool.and_assoc]; grind))) (by repeat (first | exact SubX.refl _ _ | refine SubX.at ?_ | refine SubX.put rfl ?_)))
      · refine Z6u ?_
        refine Z6v ?_
        refine Z6w ?_
        refine Z6x ?_
        refine Z6y ?_
        refine Z6z ?_
        refine Z70 ?_
        refine Z71 ?_
        refine Z72 ?_
        refine Z6t ?_
        exact aa_done (by decide +kernel) (by exact fun _ => ⟨_, rfl⟩) (Out.mk (by (refine congrArg AV.bool ?_; (rw [all_range_step]; generalize ((List.range k).all fun i => wd (fun n => fpre a (okn a) n && !fpre b (okn b) n) i == 0) = q at *; generalize wd (fun n => fpre a (okn a) n && !fpre b (okn b) n) k = m at *; rw [← Bool.and_assoc]; (simp_all; done)))) (by repeat (first | exact SubX.refl _ _ | refine SubX.at ?_ | refine SubX.put rfl ?_)))
    repeat (first | refine then_nrm ?_ | refine blk_nrm ?_)
    refine Z3i ?_
    repeat (refine then_nrm ?_)
    exact ⟨k + 1, by omega, by omega, (by repeat (first | exact Sub.nil | refine Sub.cons (by rfl) ?_)), .refl _ _⟩
  · have : k = 4 := by simp at hc; omega
    subst this
    rw [words_zero]
    repeat (first | refine then_nrm ?_ | refine then_brk ?_ | refine blk_hit ?_ | refine aw_seq ?_ | refine aw_exit ?_)
    refine Z1r ?_
    refine Z9 ?_
    repeat (first | refine then_nrm ?_ | refine aw_ret ?_)
    rw [show (sok a && sok b && decide (setl (fun n => fpre a (okn a) n && !fpre b (okn b) n) = [])) = spart a b by
      unfold spart
      cases h1 : sok a with
      | false => simp
      | true =>
        cases h2 : sok b with
        | false => simp
        | true => rw [okn_all fun i hi => sok_get h1 hi, okn_all fun i hi => sok_get h2 hi, fpre_all, fpre_all]]
    exact Z7
theorem set_Apart (a b : List Int) (ha : a.length ≤ 9223372036854775807) (hb : b.length ≤ 9223372036854775807) (H : Heap) : AC Tryz.prog 166 [.pl (a.map eInt), .pl (b.map eInt)] H (Ret (.bool (sapart a b)) H) := by
  refine AC.body (N := 32) [.tmp 4] Tryz.func166 rfl rfl rfl (Nat.le_of_ble_eq_true rfl) fun B hB => ?_
  repeat (refine aw_seq ?_)
  refine Za ?_
  repeat (first | refine then_nrm ?_ | refine aw_seq ?_)
  refine Z6d ?_
  refine Z6e ?_
  refine Z62 ?_
  refine Z61 ?_
  refine Z51 ?_
  refine Z5r ?_
  refine Z5r ?_
  refine Z5u ?_
  refine Z5v ?_
  refine Z6f ?_
  repeat (first | refine then_nrm ?_ | refine aw_seq ?_)
  refine Zv ?_
  refine ao_nil ?_
  repeat (first | refine then_nrm ?_ | refine aw_block ?_)
  refine aw_loop (G := Nat) (fun k => k ≤ 4) (fun k => [(5, .pt (Lid H.length 0) 0 0 0), (6, .pt (Lid H.length 1) 0 0 0), (7, .bool (sok a && sok b && (List.range k).all fun i => wd (fun n => fpre a (okn a) n && fpre b (okn b) n) i == 0)), (16, .int .i64 (k : Int))]) (fun _ => H ++ [⟨0, 4, [eWn (pof a)]⟩, ⟨0, 4, [eWn (pof b)]⟩]) (fun k => 4 - k) 0 (Nat.zero_le _) (by simp only [List.range_zero, List.all_nil, Bool.and_true]; exact (by repeat (first | exact Sub.nil | refine Sub.cons (by rfl) ?_))) (Fit.refl _ _) ?_
  intro k hk
  repeat (refine aw_seq ?_)
  refine Z36 ?_
  repeat (first | refine then_nrm ?_ | refine aw_seq ?_)
  refine aw_cond rfl (fun hc => ?_) (fun hc => ?_)
  · have hk4 : k < 4 := by simp at hc; omega
    have hx : (eWn (pof a))[0 + k * 1]? = some (.int .u64 ((wd (fpre a (okn a)) k : Nat) : Int)) := by rw [Nat.zero_add, Nat.mul_one]; exact eWn_get _ hk4
    have hy : (eWn (pof b))[0 + k * 1]? = some (.int .u64 ((wd (fpre b (okn b)) k : Nat) : Int)) := by rw [Nat.zero_add, Nat.mul_one]; exact eWn_get _ hk4
    repeat (first | refine then_nrm ?_ | refine aw_seq ?_ | refine aw_block ?_ | refine aw_skip ?_)
    refine Z13 ?_
    repeat (refine then_nrm ?_)
    refine aw_of_out 7 (.bool (sok a && sok b && (List.range (k + 1)).all fun i => wd (fun n => fpre a (okn a) n && fpre b (okn b) n) i == 0)) ?_ ?_
    · refine Z6i ?_
      refine Z6j ?_
      refine Z6k ?_
      refine aq_split (g := 20) rfl (fun hg1 => ?_) (fun hg1 => ?_)
      · refine Z6l ?_
        refine Z6m ?_
        refine Z6n ?_
        refine Z6o ?_
        refine Z6p ?_
        refine Z6q ?_
        refine aqy0 (g := 20) 8 rfl (by decide +kernel) (by decide) rfl rfl (fun _ => o_and (r := ((wd (fun n => fpre a (okn a) n && fpre b (okn b) n) k : Nat) : Int)) rfl rfl (by rw [u64_and _ _ (wd_lt _ _) (wd_lt _ _), wd_and])) ?_
        refine Z6r ?_
        refine Z6s ?_
        refine Z6t ?_
        exact aa_done (by decide +kernel) (by exact fun _ => ⟨_, rfl⟩) (Out.mk (by (refine congrArg AV.bool ?_; (rw [all_range_step]; generalize ((List.range k).all fun i => wd (fun n => fpre a (okn a) n && fpre b (okn b) n) i == 0) = q at *; generalize wd (fun n => fpre a (okn a) n && fpre b (okn b) n) k = m at *; rw [← Bool.and_assoc]; grind))) (by repeat (first | exact SubX.refl _ _ | refine SubX.at ?_ | refine SubX.put rfl ?_)))
      · refine Z6u ?_
        refine Z6v ?_
        refine Z6w ?_
        refine Z6x ?_
        refine Z6y ?_
        refine Z6z ?_
        refine Z70 ?_
        refine Z71 ?_
        refine Z72 ?_
        refine Z6t ?_
        exact aa_done (by decide +kernel) (by exact fun _ => ⟨_, rfl⟩) (Out.mk (by (refine congrArg AV.bool ?_; (rw [all_range_step]; generalize ((List.range k).all fun i => wd (fun n => fpre a (okn a) n && fpre b (okn b) n) i == 0) = q at *; generalize wd (fun n => fpre a (okn a) n && fpre b (okn b) n) k = m at *; rw [← Bool.and_assoc]; (simp_all; done)))) (by repeat (first | exact SubX.refl _ _ | refine SubX.at ?_ | refine SubX.put rfl ?_)))
    repeat (first | refine then_nrm ?_ | refine blk_nrm ?_)
    refine Z3i ?_
    repeat (refine then_nrm ?_)
    exact ⟨k + 1, by omega, by omega, (by repeat (first | exact Sub.nil | refine Sub.cons (by rfl) ?_)), .refl _ _⟩
  · have : k = 4 := by simp at hc; omega
    subst this
    rw [words_zero]
    repeat (first | refine then_nrm ?_ | refine then_brk ?_ | refine blk_hit ?_ | refine aw_seq ?_ | refine aw_exit ?_)
    refine Z1r ?_
    refine Z9 ?_
    repeat (first | refine then_nrm ?_ | refine aw_ret ?_)
    rw [show (sok a && sok b && decide (setl (fun n => fpre a (okn a) n && fpre b (okn b) n) = [])) = sapart a b by
      unfold sapart
      cases h1 : sok a with
      | false => simp
      | true =>
        cases h2 : sok b with
        | false => simp
        | true => rw [okn_all fun i hi => sok_get h1 hi, okn_all fun i hi => sok_get h2 hi, fpre_all, fpre_all]]
    exact Z7
end Go.Av

