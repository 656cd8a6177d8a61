/-
  THE RULES OF THE OPERATIONS THAT TURN NOTHING IN MEMORY: numbers, bools, strings, aggregates, addresses, loads, slices that are cut.
-/
import Derived.Test.YtmhfpopbhiloiaaDoorAv2
namespace Go.Av

/-! ### What the program's tables say of a type -/
class TyI (P : Program) (t : TypeId) (agg : outParam Bool) (sz : outParam Nat) : Prop where
  ud : (P.underlying t).map (fun d => match d with | .struct _ | .array _ _ => true | _ => false) = some agg
  info : (P.info? t).map (·.size) = some sz
class FldI (P : Program) (s : TypeId) (f : Nat) (off : outParam Nat) (ft : outParam TypeId) : Prop where
  ud : (match P.underlying s with | some (.struct fs) => (fs[f]?).map fun x => (x.offset, x.type) | _ => none) = some (off, ft)
class SlI (P : Program) (t : TypeId) (e : outParam TypeId) : Prop where
  ud : P.underlying t = some (.slice e)
class ArI (P : Program) (t : TypeId) (n : outParam Nat) (e : outParam TypeId) : Prop where
  ud : P.underlying t = some (.array n e)
class UdI (P : Program) (t : TypeId) (d : outParam TypeDesc) : Prop where
  ud : P.underlying t = some d
class ZeI (P : Program) (t : TypeId) (z : outParam Value) : Prop where
  ze : (P.info? t).bind (·.zero) = some z
class ByI (P : Program) (t : TypeId) (n : outParam Nat) : Prop where
  by_ : (P.info? t).map (·.bytes) = some n

theorem run_und {P : Program} {t : TypeId} {d : TypeDesc} (h : P.underlying t = some d) (w : World) : (underlying t).run P w = .ok d w := by simp [underlying, h]
theorem run_isAgg {P : Program} {t : TypeId} {agg : Bool} {sz : Nat} [h : TyI P t agg sz] (w : World) : (isAgg t).run P w = .ok agg w := by
  have hu := h.ud
  cases hd : P.underlying t with
  | none => simp [hd] at hu
  | some d =>
    rw [hd] at hu
    simp only [Option.map_some, Option.some.injEq] at hu
    unfold isAgg
    simp only [Sem.run_bind, run_und hd, Result.andThen_ok]
    cases d <;> simp_all
theorem run_sz {P : Program} {t : TypeId} {agg : Bool} {sz : Nat} [h : TyI P t agg sz] (w : World) : (sizeOf t).run P w = .ok sz w := by
  have hi := h.info
  cases hd : P.info? t with
  | none => simp [hd] at hi
  | some i => simp [hd] at hi; simp [sizeOf, typeInfo, hd, hi]
theorem run_ze {P : Program} {t : TypeId} {z : Value} [h : ZeI P t z] (w : World) : (zeroValue t).run P w = .ok z w := by
  have hi := h.ze
  cases hd : P.info? t with
  | none => simp [hd] at hi
  | some i => simp [hd] at hi; simp [zeroValue, typeInfo, hd, hi]

/-! ### One operation that turns nothing -/
/-- It yields v and turns nothing; wherever it stands. -/
def V1 (P : Program) (N : Nat) (op : Op) (ty : TypeId) (env : Env) (H : Heap) (v : AV) : Prop :=
  ∀ S a w, CR N env H S a w → ∃ u, (∀ dst pos after guard, (execOp a.eval ⟨dst, op, ty, pos, after, guard⟩).run P w = .ok (.value u) w) ∧ VR (own S) w S v u

/-- It yields v, and the memory is H' behind it; wherever it stands. -/
def V2 (P : Program) (N : Nat) (op : Op) (ty : TypeId) (env : Env) (H : Heap) (v : AV) (H' : Heap) : Prop :=
  ∀ dst pos after guard, AOp P N ⟨dst, op, ty, pos, after, guard⟩ env H (fun v' h' => v' = v ∧ h' = H') (fun _ _ => False)

section
variable {P : Program} {N : Nat} {B : Base} {Q : Post} {env : Env} {H : Heap} {ops : Array Oper} {rest : List Oper} {op : Op} {ty : TypeId} {pos : String} {after : Array Edge}

theorem V1.toV2 {v : AV} (h : V1 P N op ty env H v) : V2 P N op ty env H v H := by
  intro dst pos after guard S a w hc next Q' hn _
  obtain ⟨u, hr, hv⟩ := h S a w hc
  unfold Oper.wp
  rw [hr]
  exact hn v u H S w ⟨rfl, rfl⟩ hc.heap (Ext.refl S w) hv

theorem ao2 {dst : Option Nat} {v : AV} {H' : Heap} (hd : ∀ t, dst = some t → t < N) (h1 : V2 P N op ty env H v H') (h : AOps P N B ops rest Q (put env dst v) H') : AOps P N B ops (⟨dst, op, ty, pos, after, none⟩ :: rest) Q env H :=
  ao_cons rfl hd (h1 dst pos after none) (by rintro _ _ ⟨rfl, rfl⟩; exact h) (fun _ _ h => h.elim)
theorem ao1 {d : Nat} {v : AV} (hd : d < N) (h1 : V1 P N op ty env H v) (h : AOps P N B ops rest Q ((d, v) :: env) H) : AOps P N B ops (⟨some d, op, ty, pos, after, none⟩ :: rest) Q env H :=
  ao2 (by rintro _ ⟨⟩; exact hd) h1.toV2 h
/-- A guarded operation: one of the two ways. -/
theorem ao_g {d g : Nat} {b want : Bool} {j : Nat} (hj : (ops[j]?).bind (·.dst) = some g) (hb : get env g = .bool b) (hd : d < N)
    (h1 : b = want → ∃ v H', V2 P N op ty env H v H' ∧ AOps P N B ops rest Q ((d, v) :: env) H')
    (h2 : b = !want → AOps P N B ops rest Q ((d, .tup []) :: env) H) : AOps P N B ops (⟨some d, op, ty, pos, after, some (j, want)⟩ :: rest) Q env H := by
  have hd' : ∀ t, (some d : Option Nat) = some t → t < N := by rintro _ ⟨⟩; exact hd
  by_cases e : b = want
  · obtain ⟨v, H', hv, hk⟩ := h1 e
    subst e
    exact ao_wanted rfl hj hb hd' (hv (some d) pos after _) (by rintro _ _ ⟨rfl, rfl⟩; exact hk) (fun _ _ h => h.elim)
  · refine ao_skipped rfl hj hb e hd' (h2 ?_)
    cases b <;> cases want <;> simp_all
/-- A guarded operation that is wanted. -/
theorem ao_gy {d g : Nat} {want : Bool} {j : Nat} {v : AV} {H' : Heap} (hj : (ops[j]?).bind (·.dst) = some g) (hb : get env g = .bool want) (hd : d < N)
    (h1 : V2 P N op ty env H v H') (h : AOps P N B ops rest Q ((d, v) :: env) H') : AOps P N B ops (⟨some d, op, ty, pos, after, some (j, want)⟩ :: rest) Q env H :=
  ao_wanted rfl hj hb (by rintro _ ⟨⟩; exact hd) (h1 (some d) pos after _) (by rintro _ _ ⟨rfl, rfl⟩; exact h) (fun _ _ h => h.elim)
/-- A guarded operation that is not. -/
theorem ao_gn {d g : Nat} {b want : Bool} {j : Nat} (hj : (ops[j]?).bind (·.dst) = some g) (hb : get env g = .bool b) (hne : b ≠ want) (hd : d < N)
    (h : AOps P N B ops rest Q ((d, .tup []) :: env) H) : AOps P N B ops (⟨some d, op, ty, pos, after, some (j, want)⟩ :: rest) Q env H :=
  ao_skipped rfl hj hb hne (by rintro _ ⟨⟩; exact hd) h

/-! #### Moves -/
theorem o_move {x : Operand} {v : AV} (h : aev env x = v) : V1 P N (.move x) ty env H v := fun _ a _ hc => ⟨a.eval x, fun _ _ _ _ => rfl, h ▸ hc.ev x⟩
theorem o_assign {x : Operand} {v : AV} (h : aev env x = v) : V1 P N (.assign x) ty env H v := fun _ a _ hc => ⟨a.eval x, fun _ _ _ _ => rfl, h ▸ hc.ev x⟩

theorem ev_bool {S : List Slot} {a : Act} {w : World} (hc : CR N env H S a w) {x : Operand} {b : Bool} (h : aev env x = .bool b) : a.eval x = .bool b := by
  have := hc.ev x
  rw [h] at this
  generalize a.eval x = u at this
  cases this
  rfl
theorem ev_int {S : List Slot} {a : Act} {w : World} (hc : CR N env H S a w) {x : Operand} {k : IntKind} {n : Int} (h : aev env x = .int k n) : a.eval x = .int k n := by
  have := hc.ev x
  rw [h] at this
  generalize a.eval x = u at this
  cases this
  rfl
theorem ev_str {S : List Slot} {a : Act} {w : World} (hc : CR N env H S a w) {x : Operand} {s : ByteArray} (h : aev env x = .str s) : a.eval x = .string s := by
  have := hc.ev x
  rw [h] at this
  generalize a.eval x = u at this
  cases this
  rfl

theorem o_pick {c x y : Operand} {b : Bool} {v : AV} (hc : aev env c = .bool b) (h1 : b = true → aev env x = v) (h2 : b = false → aev env y = v) : V1 P N (.pick c x y) ty env H v := fun S a w h => by
  refine ⟨if b then a.eval x else a.eval y, fun _ _ _ _ => ?_, ?_⟩
  · cases b <;> simp [execOp, ev_bool h hc, asBool]
  · cases b
    · rw [← h2 rfl]; exact h.ev y
    · rw [← h1 rfl]; exact h.ev x
theorem o_pick_t {c x y : Operand} {v : AV} (hc : aev env c = .bool true) (h1 : aev env x = v) : V1 P N (.pick c x y) ty env H v := o_pick hc (fun _ => h1) (fun h => by cases h)
theorem o_pick_f {c x y : Operand} {v : AV} (hc : aev env c = .bool false) (h1 : aev env y = v) : V1 P N (.pick c x y) ty env H v := o_pick hc (fun h => by cases h) (fun _ => h1)
theorem o_pick_b {c x y : Operand} {b p q : Bool} (hc : aev env c = .bool b) (h1 : aev env x = .bool p) (h2 : aev env y = .bool q) : V1 P N (.pick c x y) ty env H (.bool (if b then p else q)) :=
  o_pick hc (by rintro rfl; exact h1) (by rintro rfl; exact h2)

/-! #### Numbers -/
theorem o_add {x y : Operand} {t t' : TypeId} {k : IntKind} {p q r : Int} (hx : aev env x = .int k p) (hy : aev env y = .int k q) (hr : k.wrap (p + q) = r) : V1 P N (.binOp .add t x y t') ty env H (.int k r) := fun S a w h =>
  ⟨.int k (k.wrap (p + q)), fun _ _ _ _ => by simp [execOp, ev_int h hx, ev_int h hy, eqGuard, binOp, Op.intArith], hr ▸ .int⟩
theorem o_sub {x y : Operand} {t t' : TypeId} {k : IntKind} {p q r : Int} (hx : aev env x = .int k p) (hy : aev env y = .int k q) (hr : k.wrap (p - q) = r) : V1 P N (.binOp .sub t x y t') ty env H (.int k r) := fun S a w h =>
  ⟨.int k (k.wrap (p - q)), fun _ _ _ _ => by simp [execOp, ev_int h hx, ev_int h hy, eqGuard, binOp, Op.intArith], hr ▸ .int⟩
theorem o_mul {x y : Operand} {t t' : TypeId} {k : IntKind} {p q r : Int} (hx : aev env x = .int k p) (hy : aev env y = .int k q) (hr : k.wrap (p * q) = r) : V1 P N (.binOp .mul t x y t') ty env H (.int k r) := fun S a w h =>
  ⟨.int k (k.wrap (p * q)), fun _ _ _ _ => by simp [execOp, ev_int h hx, ev_int h hy, eqGuard, binOp, Op.intArith], hr ▸ .int⟩
theorem o_quo {x y : Operand} {t t' : TypeId} {k : IntKind} {p q r : Int} (hx : aev env x = .int k p) (hy : aev env y = .int k q) (h0 : q ≠ 0) (hr : k.wrap (p.tdiv q) = r) : V1 P N (.binOp .quo t x y t') ty env H (.int k r) := fun S a w h =>
  ⟨.int k (k.wrap (p.tdiv q)), fun _ _ _ _ => by simp [execOp, ev_int h hx, ev_int h hy, eqGuard, binOp, Op.intDiv, h0], hr ▸ .int⟩
theorem o_rem {x y : Operand} {t t' : TypeId} {k : IntKind} {p q r : Int} (hx : aev env x = .int k p) (hy : aev env y = .int k q) (h0 : q ≠ 0) (hr : p.tmod q = r) : V1 P N (.binOp .rem t x y t') ty env H (.int k r) := fun S a w h =>
  ⟨.int k (p.tmod q), fun _ _ _ _ => by simp [execOp, ev_int h hx, ev_int h hy, eqGuard, binOp, Op.intDiv, h0], hr ▸ .int⟩
theorem o_and {x y : Operand} {t t' : TypeId} {k : IntKind} {p q r : Int} (hx : aev env x = .int k p) (hy : aev env y = .int k q) (hr : k.wrap (BitVec.ofInt k.bits p &&& BitVec.ofInt k.bits q).toNat = r) : V1 P N (.binOp .and t x y t') ty env H (.int k r) := fun S a w h =>
  ⟨.int k (k.wrap (BitVec.ofInt k.bits p &&& BitVec.ofInt k.bits q).toNat), fun _ _ _ _ => by simp only [execOp, ev_int h hx, ev_int h hy, eqGuard, binOp, Op.intBits]; simp, hr ▸ .int⟩
theorem o_or {x y : Operand} {t t' : TypeId} {k : IntKind} {p q r : Int} (hx : aev env x = .int k p) (hy : aev env y = .int k q) (hr : k.wrap (BitVec.ofInt k.bits p ||| BitVec.ofInt k.bits q).toNat = r) : V1 P N (.binOp .or t x y t') ty env H (.int k r) := fun S a w h =>
  ⟨.int k (k.wrap (BitVec.ofInt k.bits p ||| BitVec.ofInt k.bits q).toNat), fun _ _ _ _ => by simp only [execOp, ev_int h hx, ev_int h hy, eqGuard, binOp, Op.intBits]; simp, hr ▸ .int⟩
theorem o_andNot {x y : Operand} {t t' : TypeId} {k : IntKind} {p q r : Int} (hx : aev env x = .int k p) (hy : aev env y = .int k q) (hr : k.wrap (BitVec.ofInt k.bits p &&& ~~~ (BitVec.ofInt k.bits q)).toNat = r) : V1 P N (.binOp .andNot t x y t') ty env H (.int k r) := fun S a w h =>
  ⟨.int k (k.wrap (BitVec.ofInt k.bits p &&& ~~~ (BitVec.ofInt k.bits q)).toNat), fun _ _ _ _ => by simp only [execOp, ev_int h hx, ev_int h hy, eqGuard, binOp, Op.intBits]; simp, hr ▸ .int⟩
theorem o_shl {x y : Operand} {t t' : TypeId} {k k' : IntKind} {p q r : Int} (hx : aev env x = .int k p) (hy : aev env y = .int k' q) (h0 : 0 ≤ q) (hr : k.wrap (p * 2 ^ min q.toNat k.bits) = r) : V1 P N (.binOp .shl t x y t') ty env H (.int k r) := fun S a w h =>
  ⟨.int k (k.wrap (p * 2 ^ min q.toNat k.bits)), fun _ _ _ _ => by simp [execOp, ev_int h hx, ev_int h hy, eqGuard, binOp, Op.shift, Int.not_lt.2 h0], hr ▸ .int⟩
theorem o_shr {x y : Operand} {t t' : TypeId} {k k' : IntKind} {p q r : Int} (hx : aev env x = .int k p) (hy : aev env y = .int k' q) (h0 : 0 ≤ q) (hr : p.fdiv (2 ^ min q.toNat k.bits) = r) : V1 P N (.binOp .shr t x y t') ty env H (.int k r) := fun S a w h =>
  ⟨.int k (p.fdiv (2 ^ min q.toNat k.bits)), fun _ _ _ _ => by simp [execOp, ev_int h hx, ev_int h hy, eqGuard, binOp, Op.shift, Int.not_lt.2 h0], hr ▸ .int⟩
theorem o_eq {x y : Operand} {t t' : TypeId} {k : IntKind} {p q : Int} (hx : aev env x = .int k p) (hy : aev env y = .int k q) : V1 P N (.binOp .eql t x y t') ty env H (.bool (p == q)) := fun S a w h =>
  ⟨.bool (p == q), fun _ _ _ _ => by simp [execOp, ev_int h hx, ev_int h hy, eqGuard, binOp, Op.intCmp], .bool⟩
theorem o_ne {x y : Operand} {t t' : TypeId} {k : IntKind} {p q : Int} (hx : aev env x = .int k p) (hy : aev env y = .int k q) : V1 P N (.binOp .neq t x y t') ty env H (.bool (p != q)) := fun S a w h =>
  ⟨.bool (p != q), fun _ _ _ _ => by simp [execOp, ev_int h hx, ev_int h hy, eqGuard, binOp, Op.intCmp], .bool⟩
theorem o_lt {x y : Operand} {t t' : TypeId} {k : IntKind} {p q : Int} (hx : aev env x = .int k p) (hy : aev env y = .int k q) : V1 P N (.binOp .lss t x y t') ty env H (.bool (decide (p < q))) := fun S a w h =>
  ⟨.bool (p < q), fun _ _ _ _ => by simp [execOp, ev_int h hx, ev_int h hy, eqGuard, binOp, Op.intCmp], .bool⟩
theorem o_le {x y : Operand} {t t' : TypeId} {k : IntKind} {p q : Int} (hx : aev env x = .int k p) (hy : aev env y = .int k q) : V1 P N (.binOp .leq t x y t') ty env H (.bool (decide (p ≤ q))) := fun S a w h =>
  ⟨.bool (p ≤ q), fun _ _ _ _ => by simp [execOp, ev_int h hx, ev_int h hy, eqGuard, binOp, Op.intCmp], .bool⟩
theorem o_gt {x y : Operand} {t t' : TypeId} {k : IntKind} {p q : Int} (hx : aev env x = .int k p) (hy : aev env y = .int k q) : V1 P N (.binOp .gtr t x y t') ty env H (.bool (decide (q < p))) := fun S a w h =>
  ⟨.bool (p > q), fun _ _ _ _ => by simp [execOp, ev_int h hx, ev_int h hy, eqGuard, binOp, Op.intCmp], .bool⟩
theorem o_ge {x y : Operand} {t t' : TypeId} {k : IntKind} {p q : Int} (hx : aev env x = .int k p) (hy : aev env y = .int k q) : V1 P N (.binOp .geq t x y t') ty env H (.bool (decide (q ≤ p))) := fun S a w h =>
  ⟨.bool (p ≥ q), fun _ _ _ _ => by simp [execOp, ev_int h hx, ev_int h hy, eqGuard, binOp, Op.intCmp], .bool⟩
theorem o_not {x : Operand} {t : TypeId} {b : Bool} (hx : aev env x = .bool b) : V1 P N (.unOp .not t x) ty env H (.bool (!b)) := fun S a w h =>
  ⟨.bool (!b), fun _ _ _ _ => by simp [execOp, ev_bool h hx, Op.unary], .bool⟩
theorem o_neg {x : Operand} {t : TypeId} {k : IntKind} {p r : Int} (hx : aev env x = .int k p) (hr : k.wrap (0 - p) = r) : V1 P N (.unOp .neg t x) ty env H (.int k r) := fun S a w h =>
  ⟨.int k (k.wrap (0 - p)), fun _ _ _ _ => by simp [execOp, ev_int h hx, Op.unary, Op.intArith], hr ▸ .int⟩
theorem run_equal_bool {t : TypeId} [hu : UdI P t .bool] (p q : Bool) (w : World) : (Op.equal t (.bool p) (.bool q)).run P w = .ok (p == q) w := by
  show (Op.equalIn (9999 + 1) t _ _).run P w = _
  rw [Op.equalIn]
  simp only [Sem.run_bind, run_und hu.ud, Result.andThen_ok, Sem.run_pure]
theorem binOp_eq_bool (t : TypeId) (p q : Bool) : binOp .eql t (.bool p) (.bool q) = (do pure (.bool (← Op.equal t (.bool p) (.bool q)))) := rfl
theorem binOp_ne_bool (t : TypeId) (p q : Bool) : binOp .neq t (.bool p) (.bool q) = (do pure (.bool (!(← Op.equal t (.bool p) (.bool q))))) := rfl
theorem o_beq {x y : Operand} {t t' : TypeId} {p q : Bool} [hu : UdI P t .bool] (hx : aev env x = .bool p) (hy : aev env y = .bool q) : V1 P N (.binOp .eql t x y t') ty env H (.bool (p == q)) := fun S a w h =>
  ⟨.bool (p == q), fun _ _ _ _ => by simp [execOp, ev_bool h hx, ev_bool h hy, eqGuard, binOp_eq_bool, run_equal_bool], .bool⟩
theorem o_bne {x y : Operand} {t t' : TypeId} {p q : Bool} [hu : UdI P t .bool] (hx : aev env x = .bool p) (hy : aev env y = .bool q) : V1 P N (.binOp .neq t x y t') ty env H (.bool (p != q)) := fun S a w h =>
  ⟨.bool (p != q), fun _ _ _ _ => by simp [execOp, ev_bool h hx, ev_bool h hy, eqGuard, binOp_ne_bool, run_equal_bool]; cases p <;> cases q <;> rfl, .bool⟩
theorem o_conv_int {x : Operand} {s d : TypeId} {k k' : IntKind} {p r : Int} {d' : TypeDesc} [hs : UdI P s d'] [hu : UdI P d (.int k)] (hx : aev env x = .int k' p) (hr : k.wrap p = r) : V1 P N (.convert s d x) ty env H (.int k r) := fun S a w h =>
  ⟨.int k (k.wrap p), fun _ _ _ _ => by simp [execOp, ev_int h hx, convert, run_und hu.ud, run_und hs.ud, Conv.intToInt], hr ▸ .int⟩

end
end Go.Av
