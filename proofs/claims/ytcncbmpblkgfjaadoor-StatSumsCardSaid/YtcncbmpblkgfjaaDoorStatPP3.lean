/- Parts of the proof: rules for an abstract memory, plain laws, and walks through the program. -/
import Derived.Test.YtcncbmpblkgfjaaDoorStatPP0
import Derived.Test.YtcncbmpblkgfjaaDoorStatPP2
import Derived.Laws.StructEq
set_option linter.unusedVariables false
set_option linter.unusedSimpArgs false
namespace Go.Av
open Go.Proofs
set_option maxRecDepth 10000
set_option linter.unusedSimpArgs false
set_option linter.unusedVariables false

/-! ### times -/
theorem when_near (t : Int) (H : Heap) : AC Tryd.prog 41 [.int .i64 t] H (Ret (.int .i64 (near t)) H) := by
  refine AC.body (N := 6) [.tmp 2] Tryd.func41 rfl rfl rfl (Nat.le_of_ble_eq_true rfl) fun B hB => ?_
  refine Z8 ?_
  refine Za ?_
  refine Z1p ?_
  refine ao1 (by decide) (o_max rfl rfl rfl) ?_
  exact Ze
theorem when_Plus (t l : Int) (H : Heap) : AC Tryd.prog 18 [.int .i64 t, .int .i64 l] H (Ret (.int .i64 (plus t l)) H) := by
  have h1 := near_in t
  have h2 := near_in l
  refine AC.body (N := 14) [.tmp 4] Tryd.func18 rfl rfl rfl (Nat.le_of_ble_eq_true rfl) fun B hB => ?_
  refine Z8 ?_
  refine Za ?_
  refine Z1q ?_
  refine Za ?_
  refine Z1q ?_
  refine Za ?_
  refine Z1q ?_
  first | refine ao1 (by decide) (o_sub rfl rfl (wrap64_ok (by omega) (by omega))) ?_ | refine ao1 (by decide) (o_sub rfl rfl rfl) ?_
  refine Z1p ?_
  refine Z1r ?_
  exact Ze
theorem when_Right (t : Int) (H : Heap) : AC Tryd.prog 26 [.int .i64 t] H (Ret (.bool (decide (0 ≤ t) && decide (t ≤ 4611686018427387904))) H) := by
  refine AC.body (N := 9) [.tmp 2] Tryd.func26 rfl rfl rfl (Nat.le_of_ble_eq_true rfl) fun B hB => ?_
  refine Zh ?_
  refine aw_out 2 (.bool (decide (0 ≤ t) && decide (t ≤ 4611686018427387904))) ?_ ?_
  · refine Za ?_
    refine Z1s ?_
    refine ao_split rfl rfl (fun hg2 => ?_) (fun hg2 => ?_)
    · refine Zx ?_
      exact Zq
    · refine Zt ?_
      exact Zp
  exact Z1o
/-! ### comparing -/
def cmpI (a b : Int) : Int := if a < b then -1 else if b < a then 1 else 0
theorem cmp_isNaN (t : Int) (H : Heap) : AC Tryd.prog 82 [.int .i64 t] H (Ret (.bool false) H) := by
  refine AC.body (N := 6) [.tmp 2] Tryd.func82 rfl rfl rfl (Nat.le_of_ble_eq_true rfl) fun B hB => ?_
  refine Z1g ?_
  refine Z1t ?_
  refine Z1u ?_
  refine Zg ?_
  rw [show (t != t) = false by simp]
  exact Zd
theorem cmp_Compare (a b : Int) (H : Heap) : AC Tryd.prog 69 [.int .i64 a, .int .i64 b] H (Ret (.int .i64 (cmpI a b)) H) := by
  refine AC.body (N := 20) [.tmp 4] Tryd.func69 rfl rfl rfl (Nat.le_of_ble_eq_true rfl) fun B hB => ?_
  refine Z8 ?_
  refine Za ?_
  refine Z1v ?_
  refine Z1f ?_
  refine Za ?_
  refine Z1v ?_
  refine Z1f ?_
  refine Zj ?_
  refine Zb ?_
  refine aw_cond rfl (fun hc => ?_) (fun hc => ?_)
  · cases hc
  refine Z2 ?_
  refine Zj ?_
  refine Zb ?_
  refine aw_cond rfl (fun hc => ?_) (fun hc => ?_)
  · cases hc
  refine Z1w ?_
  refine Z17 ?_
  refine aw_cond rfl (fun hc => ?_) (fun hc => ?_)
  · refine Z2 ?_
    refine Zc ?_
    rw [show cmpI a b = -1 by simp at hc; simp [cmpI, hc]]
    exact Zd
  · refine Z1w ?_
    refine Z1y ?_
    refine aw_cond rfl (fun hc => ?_) (fun hc => ?_)
    · refine Z2 ?_
      refine Zc ?_
      rw [show cmpI a b = 1 by simp at *; unfold cmpI; rw [if_neg (by omega), if_pos (by omega)]]
      exact Zd
    · refine Z2 ?_
      refine Zc ?_
      rw [show cmpI a b = 0 by simp at *; unfold cmpI; rw [if_neg (by omega), if_neg (by omega)]]
      exact Zd
abbrev eI (i : Int) : List AV := [.int .i64 i]
def orI (l : List Int) : Int := (l.find? (· != 0)).getD 0
end Go.Av

namespace Go.Av
open Go.Proofs
set_option maxRecDepth 10000
set_option linter.unusedSimpArgs false
set_option linter.unusedVariables false


theorem spec_within (n a b : Int) (H : Heap) : AC Tryd.prog 80 [.int .i64 n, .int .i64 a, .int .i64 b] H (Ret (.bool (decide (a ≤ n) && decide (n ≤ b))) H) := by
  refine AC.body (N := 15) [.tmp 6] Tryd.func80 rfl rfl rfl (Nat.le_of_ble_eq_true rfl) fun B hB => ?_
  refine Zh ?_
  refine aw_out 6 (.bool (decide (a ≤ n) && decide (n ≤ b))) ?_ ?_
  · refine Z1t ?_
    refine Z1s ?_
    refine ao_split rfl rfl (fun hg3 => ?_) (fun hg3 => ?_)
    · refine Zl ?_
      refine Zx ?_
      exact Zq
    · refine Z1n ?_
      exact Zp
  exact Z1o
theorem spec_within64 (n a b : Int) (H : Heap) : AC Tryd.prog 81 [.int .i64 n, .int .i64 a, .int .i64 b] H (Ret (.bool (decide (a ≤ n) && decide (n ≤ b))) H) := by
  refine AC.body (N := 15) [.tmp 6] Tryd.func81 rfl rfl rfl (Nat.le_of_ble_eq_true rfl) fun B hB => ?_
  refine Zh ?_
  refine aw_out 6 (.bool (decide (a ≤ n) && decide (n ≤ b))) ?_ ?_
  · refine Z1t ?_
    refine Z1s ?_
    refine ao_split rfl rfl (fun hg3 => ?_) (fun hg3 => ?_)
    · refine Zl ?_
      refine Zx ?_
      exact Zq
    · refine Z1n ?_
      exact Zp
  exact Z1o
theorem spec_Right (s : Spec) (H : Heap) : AC Tryd.prog 64 [.agg (eSpec s)] H (Ret (.bool (sright s)) H) := by
  refine AC.body (N := 49) [.tmp 2] Tryd.func64 rfl rfl rfl (Nat.le_of_ble_eq_true rfl) fun B hB => ?_
  refine Z2 ?_
  refine Z1z ?_
  refine Zg ?_
  refine aw_out 3 (.bool (smany s)) ?_ ?_
  · refine Z22 ?_
    refine ao_ret (spec_within _ _ _ _) rfl (by decide) ?_
    refine Zj ?_
    refine ao_split rfl rfl (fun hg3 => ?_) (fun hg3 => ?_)
    · refine Z25 ?_
      refine Z26 ?_
      refine Z27 ?_
      refine ao_split rfl rfl (fun hg8 => ?_) (fun hg8 => ?_)
      · refine Z25 ?_
        refine Z26 ?_
        refine Zo ?_
        exact Z28
      · refine Z1n ?_
        exact Z28
    · refine Z2a ?_
      exact Z28
  refine Z1 ?_
  refine aw_out 4 (.bool (ssome s)) ?_ ?_
  · refine Z20 ?_
    first | refine ao1 (by decide) (w_load1 (v := .bool _) rfl (lk rfl rfl) rfl rfl rfl) ?_ | refine ao1 (by decide) (w_load1 (v := .bool _) rfl (lk rfl rfl) rfl (zadd hr) rfl) ?_ | refine ao1 (by decide) (w_load1 (v := .bool _) rfl (lk rfl rfl) rfl (zadd hr1) rfl) ?_ | refine ao1 (by decide) (w_load1 (v := .bool _) rfl (lk rfl rfl) rfl (zadd hr2) rfl) ?_ | refine ao1 (by decide) (o_load1p (v := .bool _) rfl hr rfl) ?_ | refine ao1 (by decide) (o_load1p (v := .bool _) rfl hr1 rfl) ?_ | refine ao1 (by decide) (o_load1p (v := .bool _) rfl hr2 rfl) ?_ | refine ao1 (by decide) (w_load1 (v := .bool _) rfl (lkF hF) rfl rfl rfl) ?_
    refine Zj ?_
    refine ao_split rfl rfl (fun hg2 => ?_) (fun hg2 => ?_)
    · refine Z2d ?_
      refine Z27 ?_
      refine Z2d ?_
      refine Zo ?_
      exact Z2e
    · refine Z25 ?_
      refine Z2f ?_
      refine Z27 ?_
      refine ao_split rfl rfl (fun hg7 => ?_) (fun hg7 => ?_)
      · refine Z2d ?_
        refine Zo ?_
        exact Z2e
      · refine Z25 ?_
        refine Z2f ?_
        refine Zo ?_
        exact Z2e
  refine Z1 ?_
  refine aw_out 2 (.bool (sright s)) ?_ ?_
  · refine Z2g ?_
    refine ao_split rfl rfl (fun hg1 => ?_) (fun hg1 => ?_)
    · refine Z2h ?_
      refine Z27 ?_
      refine ao_split rfl rfl (fun hg4 => ?_) (fun hg4 => ?_)
      · refine Z23 ?_
        first | refine ao_y1 rfl rfl (by decide) (w_load1 (v := .str _) rfl (lk rfl rfl) rfl rfl rfl) ?_ | refine ao_y1 rfl rfl (by decide) (w_load1 (v := .str _) rfl (lk rfl rfl) rfl (zadd hr) rfl) ?_ | refine ao_y1 rfl rfl (by decide) (w_load1 (v := .str _) rfl (lk rfl rfl) rfl (zadd hr1) rfl) ?_ | refine ao_y1 rfl rfl (by decide) (w_load1 (v := .str _) rfl (lk rfl rfl) rfl (zadd hr2) rfl) ?_ | refine ao_y1 rfl rfl (by decide) (o_load1p (v := .str _) rfl hr rfl) ?_ | refine ao_y1 rfl rfl (by decide) (o_load1p (v := .str _) rfl hr1 rfl) ?_ | refine ao_y1 rfl rfl (by decide) (o_load1p (v := .str _) rfl hr2 rfl) ?_ | refine ao_y1 rfl rfl (by decide) (w_load1 (v := .str _) rfl (lkF hF) rfl rfl rfl) ?_
        refine ao_y rfl rfl (by decide) (V2.call (graph_Tag _ _) rfl) ?_
        refine Z27 ?_
        refine ao_split rfl rfl (fun hg9 => ?_) (fun hg9 => ?_)
        · refine Z25 ?_
          refine ao_y rfl rfl (by decide) (V2.call (spec_within64 _ _ _ _) rfl) ?_
          refine Z27 ?_
          refine ao_split rfl rfl (fun hg14 => ?_) (fun hg14 => ?_)
          · refine Z25 ?_
            refine Z26 ?_
            refine Zo ?_
            exact Z2i
          · refine Z1n ?_
            exact Z2i
        · refine Z2a ?_
          exact Z2i
      · refine Z29 ?_
        refine Z2a ?_
        exact Z2i
    · refine Zr ?_
      refine Z27 ?_
      refine Z29 ?_
      refine Z2a ?_
      exact Z2i
  exact Z1o
theorem mul_in {a b : Int} (ha : 0 ≤ a ∧ a ≤ 64) (hb : 0 ≤ b ∧ b ≤ 128) : 0 ≤ a * b ∧ a * b ≤ 8192 := ⟨Int.mul_nonneg ha.1 hb.1, Int.le_trans (Int.mul_le_mul ha.2 hb.2 hb.1 (by decide)) (by decide)⟩
structure Asks3 where
  n : Int
  c : Int
  g : Int
def asks (s : Spec) : Asks3 := if sright s then ⟨s.nodes, s.nodes * s.cores, s.nodes * s.gpus⟩ else ⟨0, 0, 0⟩
def sPart (s : Spec) (n : Int) : Spec × Int := if !sright s || decide (n < 0) then (spec0, 1) else if s.nodes ≤ n then (spec0, 6) else (⟨s.nodes - n, s.cores, s.gpus, s.tag, s.whole, s.long, s.prio⟩, 0)
theorem spec_Ends (s : Spec) (t : Int) (H : Heap) : AC Tryd.prog 54 [.agg (eSpec s), .int .i64 t] H (Ret (.int .i64 (sEnds s t)) H) := by
  refine AC.body (N := 14) [.tmp 4] Tryd.func54 rfl rfl rfl (Nat.le_of_ble_eq_true rfl) fun B hB => ?_
  refine Z2 ?_
  refine Z1z ?_
  refine Z7 ?_
  refine Z2j ?_
  refine ao_ret (spec_Right _ _) rfl (by decide) ?_
  refine Z2k ?_
  refine aw_cond rfl (fun hc => ?_) (fun hc => ?_)
  · refine Zy ?_
    refine Z2l ?_
    refine Zc ?_
    rw [show sEnds s t = plus t 0 by simp at hc; simp [sEnds, hc]]
    exact Zd
  · refine Zy ?_
    refine Z22 ?_
    refine Z2l ?_
    refine Zc ?_
    rw [show sEnds s t = plus t s.long by simp at hc; simp [sEnds, hc]]
    exact Zd
def ssize (s : Spec) : Int := s.nodes * (s.cores + s.gpus)
def sorder (a b : Spec) : Int := orI [cmpI b.prio a.prio, cmpI (ssize a) (ssize b), cmpI a.long b.long]
end Go.Av

/-
  TWO STRUCTS OF PLAIN CELLS ARE COMPARED.
-/
namespace Go.Av
def flatv : AV → Option Value
  | .int k n => some (.int k n)
  | .bool b => some (.bool b)
  | .str s => some (.string s)
  | _ => none
theorem VR.flat_eq {O : Nat → Prop} {w : World} {S : List Slot} {v : AV} {u u' : Value} (h : VR O w S v u) (hf : flatv v = some u') : u = u' := by
  cases h <;> simp [flatv] at hf <;> exact hf
theorem VR.agg_flat {O : Nat → Prop} {w : World} {S : List Slot} {cs : List AV} {us : List Value} {u : Value} (h : VR O w S (.agg cs) u) (hf : cs.map flatv = us.map some) : u = .agg us.toArray := by
  cases h with
  | @agg _ _ vs hn hl h =>
    congr 1
    have hlen : cs.length = us.length := by simpa using congrArg List.length hf
    apply Array.ext
    · simp; omega
    · intro j h1 h2
      have hj : j < cs.length := by omega
      have hju : j < us.length := by omega
      have e : flatv cs[j] = some us[j] := by
        have := congrArg (·[j]?) hf
        simpa [hj, hju] using this
      have := (h j cs[j] vs[j] (List.getElem?_eq_getElem hj) (Array.getElem?_eq_getElem h1)).flat_eq e
      simpa using this
section
variable {P : Program} {N : Nat} {env : Env} {H : Heap} {ty : TypeId}
theorem o_eqAgg {t t' : TypeId} {x y : Operand} {cs ds : List AV} {us vs : List Value} {b : Bool} (hx : aev env x = .agg cs) (hy : aev env y = .agg ds) (hu : cs.map flatv = us.map some) (hv : ds.map flatv = vs.map some)
    (hm : P.eqGuardType P.depth t = false) (hb : ∀ w, (Op.equalIn 10000 t (.agg us.toArray) (.agg vs.toArray)).run P w = .ok b w) : V1 P N (.binOp .eql t x y t') ty env H (.bool b) := by
  intro S a w hc
  have h1 := hc.ev x
  have h2 := hc.ev y
  rw [hx] at h1
  rw [hy] at h2
  have e1 := h1.agg_flat hu
  have e2 := h2.agg_flat hv
  refine ⟨.bool b, fun _ _ _ _ => ?_, .bool⟩
  simp only [execOp, e1, e2, Sem.run_bind, run_eqGuard_agg w .eql t x y _ _ hm, Result.andThen_ok, run_eql_struct, hb w, Sem.run_pure]
theorem o_neAgg {t t' : TypeId} {x y : Operand} {cs ds : List AV} {us vs : List Value} {b : Bool} (hx : aev env x = .agg cs) (hy : aev env y = .agg ds) (hu : cs.map flatv = us.map some) (hv : ds.map flatv = vs.map some)
    (hm : P.eqGuardType P.depth t = false) (hb : ∀ w, (Op.equalIn 10000 t (.agg us.toArray) (.agg vs.toArray)).run P w = .ok b w) : V1 P N (.binOp .neq t x y t') ty env H (.bool (!b)) := by
  intro S a w hc
  have h1 := hc.ev x
  have h2 := hc.ev y
  rw [hx] at h1
  rw [hy] at h2
  have e1 := h1.agg_flat hu
  have e2 := h2.agg_flat hv
  refine ⟨.bool (!b), fun _ _ _ _ => ?_, .bool⟩
  simp only [execOp, e1, e2, Sem.run_bind, run_eqGuard_agg w .neq t x y _ _ hm, Result.andThen_ok, run_neq_struct, hb w, Sem.run_pure]
end
end Go.Av

/-
  AN ELEMENT OF AN ARRAY OF ARRAYS.
-/
namespace Go.Av
theorem o_indexN {P : Program} {N : Nat} {env : Env} {H : Heap} {ty : TypeId} {t e : TypeId} {x y : Operand} {m sz : Nat} {k : IntKind} {n : Int} {cs ds : List AV} [hs : ArI P t m e] [TyI P e true sz] (hx : aev env x = .agg cs) (hy : aev env y = .int k n) (h0 : 0 ≤ n) (h1 : n < m) (hd : (cs.drop (n.toNat * sz)).take sz = ds) (hle : ds.length = sz) : V1 P N (.index t x y) ty env H (.agg ds) := by
  intro S a w hc
  obtain ⟨vs, he, hn, hl, h⟩ := ev_agg hc hx
  exact ⟨.agg (vs.extract (n.toNat * sz) (n.toNat * sz + sz)), fun _ _ _ _ => by
    simp [execOp, he, ev_int hc hy, Instr.index, asIntOf, run_und hs.ud, h0, h1, run_sz (P := P) (t := e) (agg := true) (sz := sz), run_partN (P := P) (t := e)], part_agg hn hl h hd hle⟩
end Go.Av

namespace Go.Av
open Go.Proofs
set_option maxRecDepth 10000
set_option linter.unusedSimpArgs false
set_option linter.unusedVariables false


abbrev eJob (j : Job) : List AV := [.int .i64 j.id, .int .i64 j.spec.nodes, .int .i64 j.spec.cores, .int .i64 j.spec.gpus, .str j.spec.tag, .bool j.spec.whole, .int .i64 j.spec.long, .int .i64 j.spec.prio, .pl (j.needs.map eI), .int .i64 j.state, .int .i64 j.came, .int .i64 j.frm, .int .i64 j.to]
theorem eI_len (l : List Int) : ∀ r ∈ l.map eI, r.length = 1 := rows_len (e := eI) (n := 1) (fun _ => rfl) l
theorem eI_bel (n : Nat) (l : List Int) : ∀ r ∈ l.map eI, AV.bels n r = true := rows_bel (e := eI) (fun _ => rfl) l
theorem slices_CloneI (l : List Int) (H : Heap) (hn : l.length ≤ 1000000) : AC Tryd.prog 78 [.pl (l.map eI)] H (Ret (.pl (l.map eI)) H) := by
  refine AC.body (N := 8) [.tmp 2] Tryd.func78 rfl rfl rfl (Nat.le_of_ble_eq_true rfl) fun B hB => ?_
  refine Z2o ?_
  refine Z2p ?_
  refine ao_cons rfl (by rintro _ ⟨⟩; decide) (o_eqNil rfl rfl _ _ _ _) ?_ (fun _ _ h => h.elim)
  rintro _ _ ⟨nb, rfl, hnb, rfl⟩
  refine Zb ?_
  refine aw_cond rfl (fun hc => ?_) (fun hc => ?_)
  · subst hc
    have hb : l = [] := by
      cases l with
      | nil => rfl
      | cons x b => simp at hnb
    subst hb
    refine Z2q ?_
    refine aw_nslpl 2 rfl ?_
    exact aw_ret (e_done hB (r_tmp rfl .nil) rfl rfl)
  · refine Z2 ?_
    refine Z2r ?_
    refine Z2s ?_
    refine ao2 (by rintro _ ⟨⟩; decide) (g_append_new (sz := 1) (bytes := 8) rfl (Src.pl rfl (eI_len l)) rfl (by decide) (by simp; omega) (by simp; omega) (eI_bel 0 l)) ?_
    exact Z2u

/-! ### needs -/
def lastD (l : List Int) (k : Nat) : Int := if k = 0 then 0 else (l[k - 1]?).getD 0
theorem ndB_last {id : Int} {l : List Int} {k : Nat} {n : Int} (hn : l[k]? = some n) (h : ∀ i, i < k → ndB id l i = true) : ndB id l k = !(decide (n ≤ lastD l k) || decide (id ≤ n)) := by
  rw [ndB_get hn, lastD]
  cases k with
  | zero => simp; rw [Bool.eq_iff_iff]; simp; omega
  | succ k =>
    have hk : k < l.length := by have := (List.getElem?_eq_some_iff.1 hn).1; omega
    have hm : l[k]? = some l[k] := List.getElem?_eq_getElem hk
    have h1 := h k (by omega)
    rw [ndB_get hm] at h1
    simp only [Bool.and_eq_true, decide_eq_true_eq] at h1
    simp only [Nat.add_sub_cancel, hm, Option.getD_some]
    rw [Bool.eq_iff_iff]
    simp
    omega
theorem job_needs (j : Job) (H : Heap) : AC Tryd.prog 65 [.agg (eJob j)] H (Ret (.bool (jneeds j)) H) := by
  refine AC.body (N := 28) [.tmp 2] Tryd.func65 rfl rfl rfl (Nat.le_of_ble_eq_true rfl) fun B hB => ?_
  refine Z2 ?_
  refine Z2v ?_
  refine Z1f ?_
  refine Z2w ?_
  refine Z2x ?_
  refine aw_cond rfl (fun hc => ?_) (fun hc => ?_)
  · refine Zh ?_
    rw [show jneeds j = false by simp at hc; simp [jneeds]; omega]
    exact Zd
  have hl : j.needs.length ≤ 16 := by simp at hc; omega
  rw [show jneeds j = ndall j.id j.needs by simp [jneeds, hl]]
  refine Z8 ?_
  refine Z2w ?_
  refine Z2z ?_
  refine aw_loop (G := Nat) (fun k => k ≤ j.needs.length ∧ ∀ i, i < k → ndB j.id j.needs i = true) (fun k => [(1, .pt (Lid H.length 0) 0 0 0), (3, .int .i64 (lastD j.needs k)), (11, .pl (j.needs.map eI)), (12, .int .i64 (j.needs.length : Int)), (13, .int .i64 (k : Int))]) (fun _ => H ++ [⟨0, 13, [eJob j]⟩]) (fun k => j.needs.length - k) 0 ⟨Nat.zero_le _, fun i hi => by omega⟩ (by repeat (first | exact Sub.nil | refine Sub.cons (by first | rfl | (simp [get]; done)) ?_)) (Fit.refl _ _) ?_
  rintro k ⟨hk, hno⟩
  refine Z30 ?_
  refine aw_cond rfl (fun hc => ?_) (fun hc => ?_)
  · have hlt : k < j.needs.length := by simpa using hc
    obtain ⟨x, hx, hxl⟩ := get_in hlt
    have hr := map_get eI hx
    have hok := ndB_last hx hno
    refine Z32 ?_
    refine Z21 ?_
    refine Zc ?_
    refine aw_out 25 (.bool (!ndB j.id j.needs k)) ?_ ?_
    · refine Z1t ?_
      refine Zk ?_
      refine ao_split rfl rfl (fun hg3 => ?_) (fun hg3 => ?_)
      · refine Z33 ?_
        refine Zn ?_
        exact Z34
      · refine Zl ?_
        refine Z25 ?_
        refine Z35 ?_
        refine Zn ?_
        exact Z34
    refine Z1 ?_
    refine aw_cond rfl (fun hc => ?_) (fun hc => ?_)
    · refine Zh ?_
      rw [nd_false hlt (by simpa using hc)]
      exact Zd
    · have hlast : lastD j.needs (k + 1) = x := by rw [lastD, if_neg (by omega), Nat.add_sub_cancel, hx]; rfl
      refine Zy ?_
      refine Z7 ?_
      refine Z37 ?_
      refine ⟨k + 1, by omega, ⟨by omega, fun i hi => ?_⟩, by rw [hlast]; exact (by repeat (first | exact Sub.nil | refine Sub.cons (by first | rfl | (simp [get]; done)) ?_)), .refl _ _⟩
      rcases Nat.lt_or_eq_of_le (Nat.le_of_lt_succ hi) with h | h
      · exact hno i h
      · subst h; simpa using hc
  · have : k = j.needs.length := by simp at hc; omega
    subst this
    rw [nd_true hno]
    refine Zh ?_
    exact Zd

/-! ### times -/
set_option maxHeartbeats 0 in
theorem job_times (j : Job) (H : Heap) : AC Tryd.prog 66 [.agg (eJob j)] H (Ret (.bool (jtimes j)) H) := by
  refine AC.body (N := 78) [.tmp 2] Tryd.func66 rfl rfl rfl (Nat.le_of_ble_eq_true rfl) fun B hB => ?_
  refine Z2 ?_
  refine Z2v ?_
  refine Zg ?_
  refine aw_out 3 (.bool (jbegun j)) ?_ ?_
  · refine Z22 ?_
    refine Z38 ?_
    refine Zj ?_
    refine ao_split rfl rfl (fun hg3 => ?_) (fun hg3 => ?_)
    · refine Z25 ?_
      refine Z25 ?_
      refine Z35 ?_
      refine Zo ?_
      exact Z39
    · refine Z3a ?_
      exact Z39
  refine Z1 ?_
  refine aw_out 4 (.bool (jended j)) ?_ ?_
  · refine Z22 ?_
    refine Z38 ?_
    refine Zj ?_
    refine ao_split rfl rfl (fun hg3 => ?_) (fun hg3 => ?_)
    · refine Z25 ?_
      refine Z25 ?_
      refine Z25 ?_
      refine ao_y1 rfl rfl (by decide) (o_max rfl rfl rfl) ?_
      refine Z35 ?_
      refine Zo ?_
      exact Z3b
    · refine Z3c ?_
      refine Zs ?_
      refine Zt ?_
      exact Z3b
  refine Z2 ?_
  refine Z22 ?_
  refine Z6 ?_
  refine Z10 ?_
  refine aw_cond rfl (fun hc => ?_) (fun hc => ?_)
  · have hs : j.state = 0 := by simpa using hc
    refine Z1 ?_
    refine Z1 ?_
    refine aw_cond rfl (fun hc => ?_) (fun hc => ?_)
    · refine Z1 ?_
      refine aw_out 2 (.bool (jtimes j)) ?_ ?_
      · refine Z22 ?_
        refine Zz ?_
        refine Zj ?_
        refine ao_split rfl rfl (fun hg3 => ?_) (fun hg3 => ?_)
        · refine Z25 ?_
          refine Z3d ?_
          exact Z3f
        · refine Z1n ?_
          exact Z3e
      exact Z1o
    · simp [hs] at hc
  · have h0 : j.state ≠ 0 := by simpa using hc
    refine Z3g ?_
    refine aw_cond rfl (fun hc => ?_) (fun hc => ?_)
    · have hs : j.state = 1 := by simpa using hc
      refine Z1 ?_
      refine aw_out 2 (.bool (jtimes j)) ?_ ?_
      · refine Z22 ?_
        refine Zz ?_
        refine Zj ?_
        refine ao_split rfl rfl (fun hg3 => ?_) (fun hg3 => ?_)
        · refine Z25 ?_
          refine Z3d ?_
          exact Z3f
        · refine Z1n ?_
          exact Z3e
      exact Z1o
    · have h1 : j.state ≠ 1 := by simpa using hc
      refine Z3g ?_
      refine aw_cond rfl (fun hc => ?_) (fun hc => ?_)
      · have hs : j.state = 2 := by simpa using hc
        refine Z1 ?_
        refine aw_out 2 (.bool (jtimes j)) ?_ ?_
        · refine Z2g ?_
          refine ao_split rfl rfl (fun hg1 => ?_) (fun hg1 => ?_)
          · refine Z25 ?_
            refine Z3d ?_
            exact Z3f
          · refine Z1n ?_
            exact Z3e
        exact Z1o
      · have h2 : j.state ≠ 2 := by simpa using hc
        refine Z3g ?_
        refine aw_cond rfl (fun hc => ?_) (fun hc => ?_)
        · have hs : j.state = 3 := by simpa using hc
          refine Z1 ?_
          refine Z1 ?_
          refine aw_cond rfl (fun hc => ?_) (fun hc => ?_)
          · refine Z1 ?_
            refine aw_out 2 (.bool (jtimes j)) ?_ ?_
            · refine Z2g ?_
              refine ao_split rfl rfl (fun hg1 => ?_) (fun hg1 => ?_)
              · refine Z2h ?_
                exact Z3f
              · refine Zr ?_
                exact Z3f
            exact Z1o
          · simp [hs] at hc
        · have h3 : j.state ≠ 3 := by simpa using hc
          refine Z3g ?_
          refine aw_cond rfl (fun hc => ?_) (fun hc => ?_)
          · have hs : j.state = 4 := by simpa using hc
            refine Z1 ?_
            refine aw_out 2 (.bool (jtimes j)) ?_ ?_
            · refine Z2g ?_
              refine ao_split rfl rfl (fun hg1 => ?_) (fun hg1 => ?_)
              · refine Z2h ?_
                exact Z3f
              · refine Zr ?_
                exact Z3f
            exact Z1o
          · have h4 : j.state ≠ 4 := by simpa using hc
            refine Z3g ?_
            refine aw_cond rfl (fun hc => ?_) (fun hc => ?_)
            · have hs : j.state = 5 := by simpa using hc
              refine Z1 ?_
              refine aw_out 2 (.bool (jtimes j)) ?_ ?_
              · refine Z2g ?_
                refine ao_split rfl rfl (fun hg1 => ?_) (fun hg1 => ?_)
                · refine Z2d ?_
                  refine Z27 ?_
                  refine Z2h ?_
                  exact Z3f
                · refine Z25 ?_
                  refine Z3d ?_
                  refine Z27 ?_
                  refine ao_split rfl rfl (fun hg6 => ?_) (fun hg6 => ?_)
                  · refine Z2h ?_
                    exact Z3f
                  · refine Zr ?_
                    exact Z3f
              exact Z1o
            · have h5 : j.state ≠ 5 := by simpa using hc
              refine Z1 ?_
              refine aw_out 2 (.bool (jtimes j)) ?_ ?_
              · refine Z22 ?_
                refine Zz ?_
                refine Zj ?_
                refine ao_split rfl rfl (fun hg3 => ?_) (fun hg3 => ?_)
                · refine Z25 ?_
                  refine Z3d ?_
                  refine Z27 ?_
                  refine ao_split rfl rfl (fun hg8 => ?_) (fun hg8 => ?_)
                  · refine Z2h ?_
                    refine Zo ?_
                    exact Z3h
                  · refine Zr ?_
                    refine Zo ?_
                    exact Z3h
                · refine Z29 ?_
                  refine Zr ?_
                  refine Zo ?_
                  exact Z3h
              exact Z1o
end Go.Av

namespace Go.Av
open Go.Proofs
set_option maxRecDepth 10000
set_option linter.unusedSimpArgs false
set_option linter.unusedVariables false


theorem job_Right (j : Job) (H : Heap) : AC Tryd.prog 47 [.agg (eJob j)] H (Ret (.bool (jright j)) H) := by
  refine AC.body (N := 29) [.tmp 2] Tryd.func47 rfl rfl rfl (Nat.le_of_ble_eq_true rfl) fun B hB => ?_
  refine Z2 ?_
  refine Z2v ?_
  refine Zg ?_
  refine aw_out 2 (.bool (jright j)) ?_ ?_
  · refine Z22 ?_
    refine Z1s ?_
    refine ao_split rfl rfl (fun hg3 => ?_) (fun hg3 => ?_)
    · refine Z25 ?_
      refine Zw ?_
      refine Z27 ?_
      refine ao_split rfl rfl (fun hg8 => ?_) (fun hg8 => ?_)
      · refine Z23 ?_
        first | refine ao_y1 rfl rfl (by decide) (w_loadR rfl (lk rfl rfl) rfl rfl rfl) ?_ | refine ao_y1 rfl rfl (by decide) (w_loadR rfl (lk rfl rfl) rfl (zadd hr) rfl) ?_ | refine ao_y1 rfl rfl (by decide) (w_loadR rfl (lk rfl rfl) rfl (zadd hr1) rfl) ?_ | refine ao_y1 rfl rfl (by decide) (w_loadR rfl (lk rfl rfl) rfl (zadd hr2) rfl) ?_ | refine ao_y1 rfl rfl (by decide) (w_loadRp rfl hr rfl) ?_ | refine ao_y1 rfl rfl (by decide) (w_loadRp rfl hr1 rfl) ?_ | refine ao_y1 rfl rfl (by decide) (w_loadRp rfl hr2 rfl) ?_ | refine ao_y1 rfl rfl (by decide) (w_loadN (cs := [_, _, _, _, _, _, _]) rfl (lk rfl rfl) rfl rfl rfl rfl) ?_ | refine ao_y1 rfl rfl (by decide) (o_loadNp (cs := [_, _, _, _, _, _, _]) rfl hr rfl rfl) ?_ | refine ao_y1 rfl rfl (by decide) (o_loadNp (cs := [_, _, _, _, _, _, _]) rfl hr1 rfl rfl) ?_ | refine ao_y1 rfl rfl (by decide) (o_loadNp (cs := [_, _, _, _, _, _, _]) rfl hr2 rfl rfl) ?_ | refine ao_y1 rfl rfl (by decide) (w_loadR rfl (lkF hF) rfl rfl rfl) ?_ | refine ao_y1 rfl rfl (by decide) (w_loadN (cs := [_, _, _, _, _, _, _]) rfl (lkF hF) rfl rfl rfl rfl) ?_
        refine ao_y rfl rfl (by decide) (V2.call (spec_Right _ _) rfl) ?_
        refine Z27 ?_
        refine ao_split rfl rfl (fun hg13 => ?_) (fun hg13 => ?_)
        · refine Z3i ?_
          refine ao_y rfl rfl (by decide) (V2.call (job_needs _ _) rfl) ?_
          refine Z27 ?_
          refine ao_split rfl rfl (fun hg17 => ?_) (fun hg17 => ?_)
          · refine Z25 ?_
            refine Z3j ?_
            refine Z27 ?_
            refine ao_split rfl rfl (fun hg22 => ?_) (fun hg22 => ?_)
            · refine Z3i ?_
              refine ao_y rfl rfl (by decide) (V2.call (job_times _ _) rfl) ?_
              refine Zo ?_
              exact Z3k
            · refine Zt ?_
              exact Z3k
          · refine Z3l ?_
            exact Z3k
        · refine Z3m ?_
          refine Z3l ?_
          exact Z3k
      · refine Z29 ?_
        refine Z3m ?_
        refine Z3l ?_
        exact Z3k
    · refine Z29 ?_
      refine Z29 ?_
      refine Z3m ?_
      refine Z3l ?_
      exact Z3k
  exact Z1o
/-! ### states -/
def jtab : List Int := [1, -1, 2, -1, -1, 5, 6, -1, 0, -1, -1, -1, 5, 6, -1, -1, -1, 3, 4, 5, -1, -1, -1, -1, -1, -1, -1, -1, -1, -1, -1, -1, -1, -1, -1, -1, -1, -1, -1, -1, -1, -1, -1, -1, -1, -1, -1, -1, -1]
theorem jtab_row : ∀ a : Nat, a < 7 → ∀ b : Nat, b < 7 → jtab[a * 7 + b]? = some ((jnext (a : Int) ((b : Int) + 1)).getD (-1)) := by decide +kernel
abbrev eTab : List AV := jtab.map fun i => .int .i64 i
abbrev jnames : List ByteArray := [⟨#[119, 97, 105, 116, 115]⟩, ⟨#[104, 111, 108, 100, 115]⟩, ⟨#[114, 117, 110, 115]⟩, ⟨#[100, 111, 110, 101]⟩, ⟨#[101, 110, 100, 101, 100]⟩, ⟨#[99, 97, 110, 99, 101, 108, 108, 101, 100]⟩, ⟨#[114, 101, 102, 117, 115, 101, 100]⟩]
abbrev eS (s : ByteArray) : List AV := [.str s]
def jname (s : Int) : ByteArray := if 0 ≤ s ∧ s ≤ 6 then (jnames[s.toNat]?).getD ⟨#[]⟩ else ⟨#[]⟩
end Go.Av

/-
  A PACKAGE's TABLE THAT NOBODY WRITES: what it holds is known of every world that the call comes to ('know', kept in the environment under a number that no slot has).
-/
namespace Go.Av
structure Know where
  g : Nat
  tab : List Value
def Kn (K : Know) (S : List Slot) (w : World) : Prop := ¬ own S K.g ∧ K.g < w.heap.size ∧ (∀ j v, K.tab[j]? = some v → w.cell? ⟨K.g, j, none⟩ = some v) ∧ ∃ ty fz, w.heap[K.g]? = some (Obj.cells K.tab.toArray ty fz)
abbrev Know.av (K : Know) : AV := .know K.g K.tab
theorem VR.kn {S : List Slot} {w : World} {K : Know} {u : Value} (h : VR (own S) w S K.av u) : Kn K S w := by
  cases h with
  | know ho hg h hx => exact ⟨ho, hg, h, hx⟩
theorem Kn.vr {S : List Slot} {w : World} {K : Know} {u : Value} (h : Kn K S w) : VR (own S) w S K.av u := .know h.1 h.2.1 h.2.2.1 h.2.2.2

/-- A contract in a world whose table is known. -/
def ACT (P : Program) (K : Know) (f : FuncId) (args : List AV) (H : Heap) (R : AOut → Heap → Prop) : Prop :=
  ∀ S w cargs, Kn K S w → HRel H S w → VRs (own S) w S args cargs →
    Calls P f cargs w fun e w' => ∃ o H' S', R o H' ∧ OutR (own S') w' S' o e ∧ HRel H' S' w' ∧ Ext S w S' w'
theorem AC.toT {P : Program} {K : Know} {f : FuncId} {args : List AV} {H : Heap} {R : AOut → Heap → Prop} (h : AC P f args H R) : ACT P K f args H R := fun S w cargs _ => h S w cargs

section
variable {P : Program} {N : Nat} {B : Base} {env : Env} {H H0 L : Heap} {ty : TypeId}
theorem V2.callT {K : Know} {f : Nat} {xs : Array Operand} {ts : Array TypeId} {v : AV} {vs : List AV} {M : Heap} [FnI P f] (hac : ACT P K f vs H (Ret v M)) (hvs : xs.toList.map (aev env) = vs) (hk : get env KT = K.av) :
    V2 P N (.call { callee := .value (.func f), args := xs, argTypes := ts }) ty env H v M := by
  subst hvs
  intro dst pos after guard S a w hc next Q hn hp
  have hkn := hc.env KT
  rw [hk] at hkn
  have hrun : (execOp a.eval ⟨dst, .call { callee := .value (.func f), args := xs, argTypes := ts }, ty, pos, after, guard⟩).run P w = .ok (.enter f (xs.map a.eval)) w := by
    simp [execOp, resolve, Act.eval, Deferred.ofValue, invoke, run_callFunc (P := P) (f := f)]
  unfold Oper.wp
  rw [hrun]
  refine (hac S w (xs.map a.eval) hkn.kn hc.heap (evs_ok hc xs)).mono ?_
  rintro e w' ⟨out, H', S', ⟨rfl, rfl⟩, hout, hh, hx⟩
  cases hout with
  | ret hv => exact hn _ _ _ S' w' ⟨rfl, rfl⟩ hh hx hv
theorem ACT.up {K : Know} {f : FuncId} {vs us : List AV} {R : AOut → Heap → Prop} (h : ACT P K f us H R) (hvs : vs.map AV.up = us) : ACT P K f vs H R := fun S w cargs hk hH hv => h S w cargs hk hH (hvs ▸ hv.up)
theorem V2.callTu {K : Know} {f : Nat} {xs : Array Operand} {ts : Array TypeId} {v : AV} {us : List AV} {M : Heap} [FnI P f] (hac : ACT P K f us H (Ret v M)) (hvs : (xs.toList.map (aev env)).map AV.up = us) (hk : get env KT = K.av) :
    V2 P N (.call { callee := .value (.func f), args := xs, argTypes := ts }) ty env H v M := V2.callT (hac.up hvs) rfl hk
theorem ACT.body {K : Know} {f : FuncId} {N : Nat} {fn : Func} {c : Code} {args : List AV} {R : AOut → Heap → Prop} (rs : List ResultVar) (hf : P.funcs[f]? = some fn) (hb : fn.body = some c) (hr : fn.results = rs.toArray)
    (hN : fn.ntmps = N) (hn : args.length ≤ N) (h : ∀ B, Begun B H args → AWp P N B c (Ends P B rs R) ((KT, K.av) :: params 0 args) (H ++ [])) : ACT P K f args H R := by
  subst hN
  simp only [List.append_nil] at h
  intro S w cargs hkn hH hv
  refine calls_of_wp hf hb ?_
  have hc : CR fn.ntmps ((KT, K.av) :: params 0 args) H S { tmps := cargs ++ Array.replicate (fn.ntmps - cargs.size) undef, defers := [] } w := by
    refine ⟨hH, fun t => ?_, ?_, rfl⟩
    · by_cases hKT : KT = t
      · subst hKT; rw [get_put_same]; exact hkn.vr
      rw [get_put_other _ _ hKT, get_params, if_pos (Nat.zero_le _), Nat.sub_zero]
      by_cases ht : t < args.length
      · have h1 : args.getD t .junk = args[t] := by simp [List.getD, ht]
        have ht' : t < cargs.size := by rw [← hv.1]; exact ht
        have h2 : (cargs ++ Array.replicate (fn.ntmps - cargs.size) undef).getD t undef = cargs[t] := by
          simp [Array.getElem?_append_left ht', ht']
        rw [h1, h2]
        exact hv.2 t _ _ (List.getElem?_eq_getElem ht) (Array.getElem?_eq_getElem ht')
      · have h1 : args.getD t .junk = .junk := by simp [List.getD, List.getElem?_eq_none (Nat.le_of_not_lt ht)]
        rw [h1]; exact .junk
    · have := hv.1
      simp
      omega
  have hbg : Begun ⟨S, w⟩ H args := by
    refine ⟨hH.len.symm, hH.bel, ?_⟩
    rw [AV.bels_iff]
    intro v hv'
    obtain ⟨j, hj⟩ := List.mem_iff_getElem?.1 hv'
    rw [hH.len]
    exact (hv.2 j v _ hj (Array.getElem?_eq_getElem (by rw [← hv.1]; exact (List.getElem?_eq_some_iff.1 hj).1))).bel
  refine wp_mono (h ⟨S, w⟩ hbg S _ w hc (Ext.refl S w)) ?_
  intro e a' w' ⟨x, env', H', S', q, r, c, k⟩
  cases r with
  | nrm =>
    obtain ⟨vs, M, h1, h2, h3⟩ := q
    obtain ⟨u, k1, k2⟩ := results_ok c hr h1
    obtain ⟨S2, m1, m2, m3⟩ := h2.ok c.heap k2 k
    exact ⟨c.defers, u, k1, _, M, S2, h3, .ret m2, m1, m3⟩
  | ret =>
    obtain ⟨vs, M, h1, h2, h3⟩ := q
    obtain ⟨u, k1, k2⟩ := results_ok c hr h1
    obtain ⟨S2, m1, m2, m3⟩ := h2.ok c.heap k2 k
    exact ⟨c.defers, u, k1, _, M, S2, h3, .ret m2, m1, m3⟩
  | brk => exact q.elim
  | pan hv =>
    obtain ⟨M, h2, h3⟩ := q
    obtain ⟨S2, m1, m2, m3⟩ := h2.ok c.heap hv k
    exact ⟨c.defers, _, M, S2, h3, .pan m2, m1, m3⟩

/-- A place in a package's array, and what lies there. -/
theorem o_indexGlob {t e : TypeId} {x y : Operand} {g m n : Nat} {k : IntKind} {sz : Nat} {agg : Bool} [ArI P t m e] [TyI P e agg sz] (hx : aev env x = .raw (.pointer (some ⟨g, 0, none⟩))) (hy : aev env y = .int k (n : Int)) (h1 : n < m) :
    V1 P N (.indexAddr t x y) ty env H (.raw (.pointer (some ⟨g, n * sz, none⟩))) := by
  intro S a w hc
  have hv := hc.ev x
  rw [hx] at hv
  generalize he : a.eval x = u at hv
  cases hv
  refine ⟨.pointer (some ⟨g, n * sz, none⟩), fun _ _ _ _ => ?_, .raw⟩
  simp [execOp, he, ev_int hc hy, run_indexArr (P := P) (t := t) (e := e) (sz := sz) (agg := agg) (n := (n : Int)) (by omega) (by omega), add_none]
theorem o_loadGlob {K : Know} {t : TypeId} {x : Operand} {g j sz : Nat} {v : AV} {u : Value} [TyI P t false sz] (hx : aev env x = .raw (.pointer (some ⟨g, j, none⟩))) (hk : get env KT = K.av) (hg : K.g = g) (hu : K.tab[j]? = some u) (hv : ∀ O w S, VR O w S v u) : V1 P N (.load t x) ty env H v := by
  intro S a w hc
  have hkn := hc.env KT
  rw [hk] at hkn
  have hcell := hkn.kn.2.2.1 j u hu
  rw [hg] at hcell
  have h := hc.ev x
  rw [hx] at h
  generalize he : a.eval x = y at h
  cases h
  exact ⟨u, fun _ _ _ _ => by simp [execOp, he, Instr.loadAt, Instr.sureAddr, run_loadVar1 (P := P) (t := t) hcell], hv _ _ _⟩
end
end Go.Av

namespace Go.Av
open Go.Proofs
set_option maxRecDepth 10000
set_option linter.unusedSimpArgs false
set_option linter.unusedVariables false

/-- The place of an array's cell, by a number. -/
theorem w_indexArrN {P : Program} {N : Nat} {env : Env} {H : Heap} {ty : TypeId} {t e : TypeId} {x y : Operand} {id g i j m n : Nat} {k : IntKind} {sz : Nat} {agg : Bool} {o : AObj} [ArI P t m e] [TyI P e agg sz] (hx : aev env x = .pt id g i j) (hid : H[id]? = some o) (hg : o.gen = g)
    (hy : aev env y = .int k (n : Int)) (h1 : n < m) : V1 P N (.indexAddr t x y) ty env H (.pt id g i (j + n * sz)) := w_indexArr (agg := agg) (e := e) hx hid hg hy (by omega) (by omega)

theorem p64 {k : Nat} (h : k < 64) : 2 ^ k < 18446744073709551616 := Nat.pow_lt_pow_right (a := 2) (n := 64) (by decide) h
def KD : Know := ⟨0, Lib.deBruijn64tab.map fun n : Nat => Value.int .u8 (n : Int)⟩
theorem KD_at {q k : Nat} (hi : q < 64) (h : Lib.deBruijn64tab.getD q 0 = k) : KD.tab[q]? = some (.int .u8 (k : Int)) := by
  have hlen : Lib.deBruijn64tab.length = 64 := rfl
  unfold KD
  dsimp only
  generalize Lib.deBruijn64tab = l at h hlen
  rw [List.getElem?_map]
  cases hq : l[q]? with
  | none => rw [List.getElem?_eq_none_iff] at hq; omega
  | some v =>
    rw [List.getD_eq_getElem?_getD, hq] at h
    subst h
    rfl
theorem bits_TZ (x : Nat) (hx : x < 18446744073709551616) (H : Heap) : ACT Tryd.prog KD 77 [.int .u64 (x : Int)] H (Ret (.int .i64 ((Lib.ctz 64 x : Nat) : Int)) H) := by
  refine ACT.body (N := 14) [.tmp 2] Tryd.func77 rfl rfl rfl (Nat.le_of_ble_eq_true rfl) fun B hB => ?_
  refine Z8 ?_
  refine Za ?_
  refine Zz ?_
  refine Zb ?_
  refine aw_cond rfl (fun hc => ?_) (fun hc => ?_)
  · refine Z2 ?_
    refine Zc ?_
    rw [show Lib.ctz 64 x = 64 by simp at hc; simp [Lib.ctz, hc]]
    exact Zd
  · have hx0 : x ≠ 0 := by simp at hc; omega
    obtain ⟨hlow, hk⟩ := Lib.lowest_bit 64 x hx0 hx
    generalize Lib.ctz 64 x = k at hlow hk
    obtain ⟨hi, htab⟩ := Lib.deBruijn64_at k hk
    have hlt : 2 ^ k < 18446744073709551616 := p64 hk
    generalize hm : 2 ^ k = m at hlow hi htab hlt
    generalize hq : m * 285870213051353865 % 18446744073709551616 / 288230376151711744 = q at hi htab
    have hu := KD_at hi htab
    refine Z1w ?_
    refine ao1 (by decide) (o_neg (r := ((18446744073709551616 - x : Nat) : Int)) rfl (by rw [IntKind.wrap_u64]; omega)) ?_
    refine ao1 (by decide) (o_and (r := (m : Int)) rfl rfl (by rw [u64_and x _ hx (by omega)]; rw [show (18446744073709551616 : Nat) = 2 ^ 64 from rfl, hlow])) ?_
    refine ao1 (by decide) (o_mul (r := ((m * 285870213051353865 % 18446744073709551616 : Nat) : Int)) rfl rfl (by rw [IntKind.wrap_u64]; omega)) ?_
    refine ao1 (by decide) (o_shr (r := (q : Int)) rfl rfl (by omega) (by rw [← hq, show ((2 : Int) ^ min (58 : Int).toNat IntKind.u64.bits) = ((288230376151711744 : Nat) : Int) from rfl, Int.fdiv_eq_ediv_of_nonneg _ (by omega)]; exact (Int.natCast_ediv _ _).symm)) ?_
    refine ao1 (by decide) (o_indexGlob (n := q) rfl rfl (by omega)) ?_
    refine ao1 (by decide) (o_loadGlob (K := KD) (v := .int .u8 (k : Int)) rfl rfl rfl (by rw [Nat.mul_one]; exact hu) (fun _ _ _ => .int)) ?_
    refine ao1 (by decide) (o_conv_int (r := (k : Int)) rfl (wrap64_ok (by omega) (by omega))) ?_
    exact Ze

abbrev eInt (i : Int) : List AV := [.int .i64 i]
theorem ints_bel (n : Nat) (l : List Int) : ∀ r ∈ l.map eInt, AV.bels n r = true := rows_bel (e := eInt) (fun _ => rfl) l
theorem ints_len (l : List Int) : ∀ r ∈ l.map eInt, r.length = 1 := rows_len (e := eInt) (n := 1) (fun _ => rfl) l
theorem eWn_bels (n : Nat) (w : Nat → Nat) : AV.bels n (eWn w) = true := by rw [AV.bels_iff]; intro v hv; simp only [eWn, List.mem_map] at hv; obtain ⟨i, _, rfl⟩ := hv; rfl
theorem eWn_len (w : Nat → Nat) : (eWn w).length = 4 := by simp [eWn]
theorem eW0 (l : List Int) : eWn (wd (fpre l 0)) = [.int .u64 0, .int .u64 0, .int .u64 0, .int .u64 0] := by
  rw [fpre_zero]; simp [eWn, wd_zero, List.range_succ]
def pof (l : List Int) : Nat → Nat := wd (fpre l (okn l))
theorem set_of (l : List Int) (hl : l.length ≤ 9223372036854775807) (H : Heap) : AC Tryd.prog 57 [.pl (l.map eInt)] H (Ret (.tup [.agg (eWn (pof l)), .bool (sok l)]) H) := by
  refine AC.body (N := 34) [.cell 2 97, .tmp 3] Tryd.func57 rfl rfl rfl (Nat.le_of_ble_eq_true rfl) fun B hB => ?_
  refine Z2 ?_
  refine Z3n ?_
  refine Z1f ?_
  refine Z3n ?_
  refine Z6 ?_
  refine Z7 ?_
  refine Z2s ?_
  refine Z2z ?_
  refine aw_loop (G := Nat) (fun k => k ≤ l.length ∧ ∀ i, i < k → okB l i = true) (fun k => [(2, .pt (Lid H.length 0) 0 0 0), (4, .pt (Lid H.length 1) 0 0 0), (5, .int .i64 (lastN l k)), (8, .pl (l.map eInt)), (9, .int .i64 (l.length : Int)), (10, .int .i64 (k : Int))]) (fun k => H ++ [⟨0, 4, [[.int .u64 0, .int .u64 0, .int .u64 0, .int .u64 0]]⟩, ⟨0, 4, [eWn (wd (fpre l k))]⟩]) (fun k => l.length - k) 0 ⟨Nat.zero_le _, fun i hi => by omega⟩ (by repeat (first | exact Sub.nil | refine Sub.cons (by first | rfl | (simp [get]; done)) ?_)) (.inl (by rw [eW0])) ?_
  rintro k ⟨hk, hno⟩
  refine Z30 ?_
  refine aw_cond rfl (fun hc => ?_) (fun hc => ?_)
  · have hlt : k < l.length := by simpa using hc
    obtain ⟨x, hx, hxl⟩ := get_in hlt
    have hr := map_get eInt hx
    have hok := okB_last hx hno
    refine Z32 ?_
    refine Z21 ?_
    refine Zc ?_
    refine aw_out 20 (.bool (!okB l k)) ?_ ?_
    · refine Z1t ?_
      refine Zk ?_
      refine ao_split rfl rfl (fun hg3 => ?_) (fun hg3 => ?_)
      · refine Z2c ?_
        refine Zn ?_
        exact Z34
      · refine Zl ?_
        refine Z35 ?_
        refine Zn ?_
        exact Z34
    refine Z1 ?_
    refine aw_cond rfl (fun hc => ?_) (fun hc => ?_)
    · refine Z2 ?_
      refine Z3o ?_
      refine Z3p ?_
      refine Zg ?_
      rw [sok_false hlt (by simpa using hc), show wd (fpre l k) = pof l by rw [pof, okn_at hlt hno (by simpa using hc)]]
      exact Z3q
    · have hokk : okB l k = true := by simpa using hc
      obtain ⟨h0, h256⟩ := okB_range hx hokk
      obtain ⟨n, rfl⟩ : ∃ n : Nat, x = n := ⟨x.toNat, by omega⟩
      have hn4 : n / 64 < 4 := by omega
      have hp : 2 ^ (n % 64) < 18446744073709551616 := p64 (by omega)
      have hcell : (eWn (wd (fpre l k)))[0 + n / 64 * 1]? = some (.int .u64 ((wd (fpre l k) (n / 64) : Nat) : Int)) := by rw [Nat.zero_add, Nat.mul_one]; exact eWn_get _ hn4
      have hlast : lastN l (k + 1) = (n : Int) := by rw [lastN, if_neg (by omega), Nat.add_sub_cancel, hx]; rfl
      have hset : (eWn (wd (fpre l k))).take (0 + n / 64 * 1) ++ [AV.int .u64 ((wd (fpre l k) (n / 64) ||| 2 ^ (n % 64) : Nat) : Int)] ++ (eWn (wd (fpre l k))).drop (0 + n / 64 * 1 + 1) = eWn (wd (fpre l (k + 1))) := by
        rw [Nat.zero_add, Nat.mul_one, eWn_set _ hn4, fpre_step hx]
        refine eWn_congr fun j _ => ?_
        rw [wd_put]
        split <;> simp_all
      refine Z1k ?_
      refine aw_drawR mixed (some 9) 1 ?_
      refine Z19 ?_
      refine Z3r ?_
      refine aq0 1 rfl (by decide +kernel) (by decide) (fun _ => o_quo (r := ((n / 64 : Nat) : Int)) rfl rfl (by omega) (wrap64_ok (n := ((n / 64 : Nat) : Int)) (by omega) (by omega))) ?_
      refine aqr 2 rfl (by decide +kernel) (by decide) (fun G hG => w_indexArrN rfl (lk rfl hG) rfl rfl hn4) ?_
      refine aqr 3 rfl (by decide +kernel) (by decide) (fun G hG => w_load1 (v := .int .u64 _) rfl (lk rfl hG) rfl rfl hcell) ?_
      refine Z1c ?_
      refine aq0 5 rfl (by decide +kernel) (by decide) (fun _ => o_rem (r := ((n % 64 : Nat) : Int)) rfl rfl (by omega) rfl) ?_
      refine aq0 6 rfl (by decide +kernel) (by decide) (fun _ => o_shl (r := ((2 ^ (n % 64) : Nat) : Int)) rfl rfl (by omega) (by rw [show min ((n % 64 : Nat) : Int).toNat IntKind.u64.bits = n % 64 by show min (n % 64) 64 = _; omega, Int.one_mul]; rw [show ((2 : Int) ^ (n % 64)) = ((2 ^ (n % 64) : Nat) : Int) by simp]; exact u64_wrap _ hp)) ?_
      refine aq0 7 rfl (by decide +kernel) (by decide) (fun _ => o_or (r := ((wd (fpre l k) (n / 64) ||| 2 ^ (n % 64) : Nat) : Int)) rfl rfl (u64_or _ _ (wd_lt _ _) hp)) ?_
      refine aqr 8 rfl (by decide +kernel) (by decide) (fun G hG => w_indexArrN rfl (lk rfl hG) rfl rfl hn4) ?_
      refine aqs 9 rfl (by decide +kernel) (by first | exact fun _ => trivial | exact fun _ => ⟨_, rfl⟩ | exact fun _ => ⟨_, rfl, rfl⟩ | exact fun _ => ⟨_, rfl, rfl, rfl⟩ | exact yet_done (by decide +kernel)) (by rintro _ ⟨⟩) (w_storeP (sz := 1) (v := .int .u64 _) (r' := eWn (wd (fpre l (k + 1)))) rfl rfl rfl rfl rfl rfl rfl rfl (by show _ ≤ 4; omega) hset) ?_
      refine Z1d ?_
      refine Z3s ?_
      refine ⟨k + 1, by omega, ⟨by omega, fun i hi => ?_⟩, by rw [hlast]; exact (by repeat (first | exact Sub.nil | refine Sub.cons (by first | rfl | (simp [get]; done)) ?_)), .refl _ _⟩
      rcases Nat.lt_or_eq_of_le (Nat.le_of_lt_succ hi) with h | h
      · exact hno i h
      · subst h; exact hokk
  · have : k = l.length := by simp at hc; omega
    subst this
    refine Z2 ?_
    refine Z3o ?_
    refine Z3p ?_
    refine Zg ?_
    rw [sok_true hno, show wd (fpre l l.length) = pof l by rw [pof, okn_all hno]]
    exact Z3q
end Go.Av

/-
  A REGION THAT DRAWS: two rows of the call's own are as1 they were.
-/
namespace Go.Av
def AtR2 (H0 L0 : Heap) (k1 k2 : Nat) (H : Heap) : Prop := ∃ G : Heap, H = H0 ++ G ∧ G[k1]? = L0[k1]? ∧ G[k2]? = L0[k2]?
section
variable {P : Program} {N : Nat} {B : Base} {ops : Array Oper} {a : Option Nat} {C : Heap → Prop} {F : Env → Heap → Prop} {Q : Post}
variable {fuel : Nat} {listed : Array Bool} {env : Env} {H H0 L : Heap} {op : Op} {ty : TypeId} {pos : String} {after : Array Edge} {v : AV} {id : Nat} {l : List Oper}
theorem aw_draw2 (hm : P.follows .mixedOrders = true) (a : Option Nat) (k1 k2 : Nat) (h : AAny P N B l.toArray a (AtR2 H0 L k1 k2) (Q .nrm) l.length (Array.replicate l.length false) env (H0 ++ L)) : AWp P N B (.region id l.toArray true) Q env (H0 ++ L) := aw_draw hm a _ h
theorem aqr2 {d k1 k2 : Nat} {L0 : Heap} (i : Nat) (hi : ops[i]? = some ⟨some d, op, ty, pos, after, none⟩) (hB : firstB ops listed a i = true) (hd : DN d N) (h1 : ∀ G : Heap, G[k1]? = L0[k1]? → G[k2]? = L0[k2]? → V1 P N op ty (renv ⟨some d, op, ty, pos, after, none⟩ env) (H0 ++ G) v)
    (h : AAny P N B ops a (AtR2 H0 L0 k1 k2) F fuel (listed.setIfInBounds i true) ((d, v) :: env) H) : AAny P N B ops a (AtR2 H0 L0 k1 k2) F (fuel + 1) listed env H :=
  aq1 i hi hB hd (by rintro _ ⟨G, rfl, hG1, hG2⟩; exact h1 G hG1 hG2) h
theorem aqyr2 {d j g k1 k2 : Nat} {want : Bool} {L0 : Heap} (i : Nat) (hi : ops[i]? = some ⟨some d, op, ty, pos, after, some (j, want)⟩) (hB : firstB ops listed a i = true) (hd : DN d N) (hj : (ops[j]?).bind (·.dst) = some g) (hb : get env g = .bool want)
    (h1 : ∀ G : Heap, G[k1]? = L0[k1]? → G[k2]? = L0[k2]? → V1 P N op ty (renv ⟨some d, op, ty, pos, after, some (j, want)⟩ env) (H0 ++ G) v)
    (h : AAny P N B ops a (AtR2 H0 L0 k1 k2) F fuel (listed.setIfInBounds i true) ((d, v) :: env) H) : AAny P N B ops a (AtR2 H0 L0 k1 k2) F (fuel + 1) listed env H :=
  aqy1 i hi hB hd hj hb (by rintro _ ⟨G, rfl, hG1, hG2⟩; exact h1 G hG1 hG2) h
end
end Go.Av

namespace Go.Av
open Go.Proofs
set_option maxRecDepth 10000
set_option linter.unusedSimpArgs false
set_option linter.unusedVariables false

theorem sok_len {l : List Int} (h : sok l = true) : ∀ k : Nat, k < l.length → (k : Int) ≤ l.getD k 0 := by
  intro k
  induction k with
  | zero =>
    intro hk
    have hm : l[0]? = some l[0] := List.getElem?_eq_getElem hk
    have := okB_range hm (sok_get h hk)
    simp only [List.getD_eq_getElem?_getD, hm, Option.getD_some]
    omega
  | succ k ih =>
    intro hk
    have hm : l[k + 1]? = some l[k + 1] := List.getElem?_eq_getElem hk
    have hm0 : l[k]? = some l[k] := List.getElem?_eq_getElem (by omega)
    have h1 := sok_get h hk
    rw [okB_get hm] at h1
    have ih := ih (by omega)
    simp only [List.getD_eq_getElem?_getD, hm0, hm, Option.getD_some] at ih ⊢
    simp only [Nat.add_sub_cancel, hm0, Bool.and_eq_true, Bool.or_eq_true, decide_eq_true_eq, beq_iff_eq] at h1
    omega
theorem sok_256 {l : List Int} (h : sok l = true) : l.length ≤ 256 := by
  rcases Nat.lt_or_ge 256 l.length with hl | hl
  · have h1 := sok_len h 256 hl
    have hm : l[256]? = some l[256] := List.getElem?_eq_getElem hl
    have := okB_range hm (sok_get h hl)
    simp only [List.getD_eq_getElem?_getD, hm, Option.getD_some] at h1
    omega
  · exact hl
theorem pof_ok {l : List Int} (h : sok l = true) : pof l = wd (inl l) := by
  rw [pof, okn_all fun i hi => sok_get h hi, fpre_all]
theorem set_Right (l : List Int) (hl : l.length ≤ 9223372036854775807) (H : Heap) : AC Tryd.prog 33 [.pl (l.map eInt)] H (Ret (.bool (sok l)) H) := by
  refine AC.body (N := 11) [.tmp 2] Tryd.func33 rfl rfl rfl (Nat.le_of_ble_eq_true rfl) fun B hB => ?_
  refine Z3u ?_
  refine Z3v ?_
  refine Z3y ?_
  refine Z40 ?_
  refine Z3p ?_
  refine Z1f ?_
  refine Zj ?_
  refine Zg ?_
  exact Zd
theorem set_both (a b : List Int) (ha : a.length ≤ 9223372036854775807) (hb : b.length ≤ 9223372036854775807) (H : Heap) : AC Tryd.prog 58 [.pl (a.map eInt), .pl (b.map eInt)] H (Ret (.tup [.agg (eWn (pof a)), .agg (eWn (pof b)), .bool (sok a && sok b)]) H) := by
  refine AC.body (N := 27) [.cell 4 97, .cell 5 97, .tmp 6] Tryd.func58 rfl rfl rfl (Nat.le_of_ble_eq_true rfl) fun B hB => ?_
  refine Z2 ?_
  refine Z3n ?_
  refine Z3n ?_
  refine Z3t ?_
  refine Z3v ?_
  refine Z3y ?_
  refine Z40 ?_
  refine Z3p ?_
  refine Z3t ?_
  refine Z3v ?_
  refine Z3y ?_
  refine Z40 ?_
  refine Z3p ?_
  refine Z41 ?_
  have hbel : ∀ n : Nat, (AV.tup [.agg (eWn (pof a)), .agg (eWn (pof b)), .bool (sok a && sok b)]).bel n = true := by intro n; simp [AV.bel, AV.bels, eWn_bels]
  refine Z1 ?_
  refine aw_draw2 mixed none 2 3 ?_
  refine Z19 ?_
  first | refine aqr2 0 rfl (by decide +kernel) (by decide) (fun G hG1 hG2 => w_loadR rfl (lk rfl hG1) rfl rfl (eWn_len _)) ?_ | refine aqr2 0 rfl (by decide +kernel) (by decide) (fun G hG1 hG2 => w_loadR rfl (lk rfl hG2) rfl rfl (eWn_len _)) ?_
  first | refine aqr2 1 rfl (by decide +kernel) (by decide) (fun G hG1 hG2 => w_loadR rfl (lk rfl hG1) rfl rfl (eWn_len _)) ?_ | refine aqr2 1 rfl (by decide +kernel) (by decide) (fun G hG1 hG2 => w_loadR rfl (lk rfl hG2) rfl rfl (eWn_len _)) ?_
  refine Z42 ?_
  refine Z43 ?_
  refine aq_split (g := 24) rfl (fun hg3 => ?_) (fun hg3 => ?_)
  · refine aqy0 (g := 24) 4 rfl (by decide +kernel) (by decide) rfl rfl (fun _ => o_move (v := .bool _) rfl) ?_
    refine Z44 ?_
    refine Z45 ?_
    refine Z46 ?_
    refine Z47 ?_
    refine Z1d ?_
    refine Z1 ?_
    rw [hg3] at hbel ⊢
    exact Z48
  · refine aqn0 (g := 24) 4 rfl (by decide +kernel) (by decide) rfl rfl rfl ?_
    refine Z44 ?_
    refine Z45 ?_
    refine Z46 ?_
    refine Z47 ?_
    refine Z1d ?_
    refine Z1 ?_
    rw [hg3] at hbel ⊢
    exact Z48
end Go.Av

namespace Go.Av
open Go.Proofs
set_option maxRecDepth 10000
set_option linter.unusedSimpArgs false
set_option linter.unusedVariables false

theorem words_zero (f : Nat → Bool) : ((List.range 4).all fun k => wd f k == 0) = decide (setl f = []) := by
  rw [Bool.eq_iff_iff, List.all_eq_true, decide_eq_true_eq, setl, List.map_eq_nil_iff, List.filter_eq_nil_iff]
  simp only [List.mem_range, beq_iff_eq, wd_eq_zero]
  constructor
  · intro h n hn
    have := h (n / 64) (by omega) (n % 64) (by omega)
    rw [show 64 * (n / 64) + n % 64 = n by omega] at this
    simp [this]
  · intro h k hk j hj
    have := h (64 * k + j) (by omega)
    simpa using this
theorem all_range_step {p : Nat → Bool} (k : Nat) : (List.range (k + 1)).all p = ((List.range k).all p && p k) := by
  rw [List.range_succ, List.all_append]; simp
theorem set_Apart (a b : List Int) (ha : a.length ≤ 9223372036854775807) (hb : b.length ≤ 9223372036854775807) (H : Heap) : AC Tryd.prog 71 [.pl (a.map eInt), .pl (b.map eInt)] H (Ret (.bool (sapart a b)) H) := by
  refine AC.body (N := 32) [.tmp 4] Tryd.func71 rfl rfl rfl (Nat.le_of_ble_eq_true rfl) fun B hB => ?_
  refine Z3u ?_
  refine Z2s ?_
  refine Z49 ?_
  refine Z3y ?_
  refine Z3x ?_
  refine Z40 ?_
  refine Z3n ?_
  refine Z3p ?_
  refine Z3p ?_
  refine Z1f ?_
  refine Z2y ?_
  refine aw_loop (G := Nat) (fun k => k ≤ 4) (fun k => [(5, .pt (Lid H.length 0) 0 0 0), (6, .pt (Lid H.length 1) 0 0 0), (7, .bool (sok a && sok b && (List.range k).all fun i => wd (fun n => fpre a (okn a) n && fpre b (okn b) n) i == 0)), (16, .int .i64 (k : Int))]) (fun _ => H ++ [⟨0, 4, [eWn (pof a)]⟩, ⟨0, 4, [eWn (pof b)]⟩]) (fun k => 4 - k) 0 (Nat.zero_le _) (by simp only [List.range_zero, List.all_nil, Bool.and_true]; exact (by repeat (first | exact Sub.nil | refine Sub.cons (by first | rfl | (simp [get]; done)) ?_))) (Fit.refl _ _) ?_
  intro k hk
  refine Z30 ?_
  refine aw_cond rfl (fun hc => ?_) (fun hc => ?_)
  · have hk4 : k < 4 := by simp at hc; omega
    have hx : (eWn (pof a))[0 + k * 1]? = some (.int .u64 ((wd (fpre a (okn a)) k : Nat) : Int)) := by rw [Nat.zero_add, Nat.mul_one]; exact eWn_get _ hk4
    have hy : (eWn (pof b))[0 + k * 1]? = some (.int .u64 ((wd (fpre b (okn b)) k : Nat) : Int)) := by rw [Nat.zero_add, Nat.mul_one]; exact eWn_get _ hk4
    refine Z1k ?_
    refine aw_of_out 7 (.bool (sok a && sok b && (List.range (k + 1)).all fun i => wd (fun n => fpre a (okn a) n && fpre b (okn b) n) i == 0)) ?_ ?_
    · refine Z4a ?_
      refine Z19 ?_
      refine Z4b ?_
      refine aq0 1 rfl (by decide +kernel) (by decide) (fun _ => o_move (v := .bool _) rfl) ?_
      refine aq_split (g := 20) rfl (fun hg1 => ?_) (fun hg1 => ?_)
      · refine aqy0 (g := 20) 2 rfl (by decide +kernel) (by decide) rfl rfl (fun _ => o_move (v := .int _ _) rfl) ?_
        refine aqyp (g := 20) 3 rfl (by decide +kernel) (by decide) rfl rfl (fun G => w_indexArrN rfl (lk rfl rfl) rfl rfl hk4) ?_
        refine aqyp (g := 20) 4 rfl (by decide +kernel) (by decide) rfl rfl (fun G => w_load1 (v := .int .u64 _) rfl (lk rfl rfl) rfl rfl hx) ?_
        refine aqy0 (g := 20) 5 rfl (by decide +kernel) (by decide) rfl rfl (fun _ => o_move (v := .int _ _) rfl) ?_
        refine aqyp (g := 20) 6 rfl (by decide +kernel) (by decide) rfl rfl (fun G => w_indexArrN rfl (lk rfl rfl) rfl rfl hk4) ?_
        refine aqyp (g := 20) 7 rfl (by decide +kernel) (by decide) rfl rfl (fun G => w_load1 (v := .int .u64 _) rfl (lk rfl rfl) rfl rfl hy) ?_
        refine aqy0 (g := 20) 8 rfl (by decide +kernel) (by decide) rfl rfl (fun _ => o_and (r := ((wd (fun n => fpre a (okn a) n && fpre b (okn b) n) k : Nat) : Int)) rfl rfl (by rw [u64_and _ _ (wd_lt _ _) (wd_lt _ _), wd_and])) ?_
        refine aqy0 (g := 20) 9 rfl (by decide +kernel) (by decide) rfl rfl (fun _ => o_eq rfl rfl) ?_
        refine Z4c ?_
        refine Z4d ?_
        exact Z4e
      · refine aqn0 (g := 20) 2 rfl (by decide +kernel) (by decide) rfl rfl rfl ?_
        refine aqn0 (g := 20) 3 rfl (by decide +kernel) (by decide) rfl rfl rfl ?_
        refine aqn0 (g := 20) 4 rfl (by decide +kernel) (by decide) rfl rfl rfl ?_
        refine aqn0 (g := 20) 5 rfl (by decide +kernel) (by decide) rfl rfl rfl ?_
        refine aqn0 (g := 20) 6 rfl (by decide +kernel) (by decide) rfl rfl rfl ?_
        refine aqn0 (g := 20) 7 rfl (by decide +kernel) (by decide) rfl rfl rfl ?_
        refine aqn0 (g := 20) 8 rfl (by decide +kernel) (by decide) rfl rfl rfl ?_
        refine aqn0 (g := 20) 9 rfl (by decide +kernel) (by decide) rfl rfl rfl ?_
        refine Z4c ?_
        refine Z4d ?_
        exact Z4e
    refine Z3s ?_
    exact ⟨k + 1, by omega, by omega, (by repeat (first | exact Sub.nil | refine Sub.cons (by first | rfl | (simp [get]; done)) ?_)), .refl _ _⟩
  · have : k = 4 := by simp at hc; omega
    subst this
    rw [words_zero]
    refine Z2 ?_
    refine Zj ?_
    refine Zg ?_
    rw [show (sok a && sok b && decide (setl (fun n => fpre a (okn a) n && fpre b (okn b) n) = [])) = sapart a b by
      unfold sapart
      cases h1 : sok a with
      | false => simp
      | true =>
        cases h2 : sok b with
        | false => simp
        | true => rw [okn_all fun i hi => sok_get h1 hi, okn_all fun i hi => sok_get h2 hi, fpre_all, fpre_all]]
    exact Zd
end Go.Av

namespace Go.Av
open Go.Proofs
set_option maxRecDepth 10000
set_option linter.unusedSimpArgs false
set_option linter.unusedVariables false

structure LS where
  acc : List Int
  x : Nat
set_option maxHeartbeats 0 in
theorem words_list (f : Nat → Bool) (H : Heap) : ACT Tryd.prog KD 59 [.agg (eWn (wd f))] H (Ret (.pl ((setl f).map eInt)) H) := by
  have hbel : ∀ (n : Nat) (g m : Nat) (l : List Int), ∀ o ∈ [AObj.mk 0 4 [eWn (wd f)], AObj.mk g 1 (l.map eInt)], ∀ r ∈ o.rows, AV.bels n r = true := by
    intro n g m l o ho r hr
    simp only [List.mem_cons, List.not_mem_nil, or_false] at ho
    rcases ho with rfl | rfl
    · simp only [List.mem_singleton] at hr; subst hr; exact eWn_bels _ _
    · exact ints_bel _ _ r hr
  refine ACT.body (N := 27) [.tmp 2] Tryd.func59 rfl rfl rfl (Nat.le_of_ble_eq_true rfl) fun B hB => ?_
  refine Z2 ?_
  refine ao2 (by rintro _ ⟨⟩; decide) (o_boxL (sz := 4) (v := .agg _) rfl rfl rfl (eWn_len _) (by decide) rfl) ?_
  refine Z4f ?_
  refine Z4g ?_
  refine aw_ghostL (k := 1) 3 1 rfl (by decide) rfl ?_
  refine Z2 ?_
  refine Z4h ?_
  refine Z2y ?_
  refine aw_loop (G := Nat) (fun i => i ≤ 4) (fun i => [(KT, KD.av), (3, .sl (Lid H.length 1) (setN f i).length 0 (setN f i).length (setN f i).length), (6, .agg (eWn (wd f))), (7, .int .i64 (i : Int))]) (fun i => H ++ [⟨0, 4, [eWn (wd f)]⟩, ⟨(setN f i).length, 1, (setN f i).map eInt⟩]) (fun i => 4 - i) 0 (Nat.zero_le _) (by repeat (first | exact Sub.nil | refine Sub.cons (by first | rfl | (simp [get]; done)) ?_)) (Fit.refl _ _) ?_
  intro i hi
  refine Z30 ?_
  refine aw_cond rfl (fun hc => ?_) (fun hc => ?_)
  · have hi4 : i < 4 := by simp at hc; omega
    have hcell : (eWn (wd f))[((i : Nat) : Int).toNat * 1]? = some (.int .u64 ((wd f i : Nat) : Int)) := by show (eWn (wd f))[i * 1]? = _; rw [Nat.mul_one]; exact eWn_get _ hi4
    have hstep := setN_step f i
    have hslen := setN_len f (i + 1)
    refine Zy ?_
    refine ao1 (by decide) (o_index1 (sz := 1) (v := .int .u64 _) rfl rfl (by omega) (by omega) hcell) ?_
    refine Z3 ?_
    refine Z3 ?_
    refine Z16 ?_
    refine aw_loop (G := LS) (fun s => s.x < 18446744073709551616 ∧ s.acc ++ (bl s.x).map (fun j : Nat => ((64 * i + j : Nat) : Int)) = setN f (i + 1)) (fun s => [(KT, KD.av), (3, .sl (Lid H.length 1) s.acc.length 0 s.acc.length s.acc.length), (4, .int .i64 (i : Int)), (5, .int .u64 (s.x : Int)), (6, .agg (eWn (wd f))), (7, .int .i64 (i : Int))]) (fun s => H ++ [⟨0, 4, [eWn (wd f)]⟩, ⟨s.acc.length, 1, s.acc.map eInt⟩]) (fun s => s.x) ⟨setN f i, wd f i⟩ ⟨wd_lt f i, hstep.symm⟩ (by repeat (first | exact Sub.nil | refine Sub.cons (by first | rfl | (simp [get]; done)) ?_)) (Fit.refl _ _) ?_
    rintro ⟨acc, x⟩ ⟨hx64, hacc⟩
    simp only at hx64 hacc ⊢
    have hal : acc.length ≤ 256 := by
      have := congrArg List.length hacc
      rw [List.length_append] at this
      omega
    refine Zy ?_
    refine Z1u ?_
    refine Zb ?_
    refine aw_cond rfl (fun hc => ?_) (fun hc => ?_)
    · have hx0 : x ≠ 0 := by simp at hc; omega
      have hb := bl_step hx0 hx64
      have hlt := and_pred_lt hx0
      obtain ⟨hk, _⟩ := low_bit hx0 hx64
      refine Z4j ?_
      refine ao1 (by decide) (o_mul (r := ((64 * i : Nat) : Int)) rfl rfl (by rw [show (64 : Int) * (i : Int) = ((64 * i : Nat) : Int) by omega]; exact wrap64_ok (by omega) (by omega))) ?_
      refine Za ?_
      refine ao2 (by rintro _ ⟨⟩; decide) (V2.callT (bits_TZ x hx64 _) rfl rfl) ?_
      refine ao1 (by decide) (o_add (r := ((64 * i + Lib.ctz 64 x : Nat) : Int)) rfl rfl (by rw [show ((64 * i : Nat) : Int) + ((Lib.ctz 64 x : Nat) : Int) = ((64 * i + Lib.ctz 64 x : Nat) : Int) by omega]; exact wrap64_ok (by omega) (by omega))) ?_
      refine Z4k ?_
      refine Z4l ?_
      refine Z4m ?_
      rw [show (acc.map eInt).take acc.length = acc.map eInt from List.take_of_length_le (by simp)]
      refine Z1w ?_
      refine ao1 (by decide) (o_sub (r := ((x - 1 : Nat) : Int)) rfl rfl (u64_pred x hx0 hx64)) ?_
      refine ao1 (by decide) (o_and (r := ((x &&& (x - 1) : Nat) : Int)) rfl rfl (u64_and _ _ hx64 (by omega))) ?_
      refine Zc ?_
      refine ⟨⟨acc ++ [((64 * i + Lib.ctz 64 x : Nat) : Int)], x &&& (x - 1)⟩, hlt, ⟨by simp only; omega, ?_⟩, by simp only [List.length_append, List.length_cons, List.length_nil]; exact (by repeat (first | exact Sub.nil | refine Sub.cons (by first | rfl | (simp [get]; done)) ?_)), Fit.loc hB (by simp only [List.length_append, List.length_cons, List.length_nil, List.map_append, List.map_cons, List.map_nil]; rfl) (by repeat (first | exact EBel.nil | refine EBel.cons (by first | rfl | (simp [AV.bel, AV.bels, Lid]; done) | (simp [AV.bel, AV.bels, Lid]; omega)) ?_)) (hbel _ _ 0 _)⟩
      simp only
      rw [← hacc, hb, List.map_cons, List.append_assoc]
      rfl
    · have hx0 : x = 0 := by simp at hc; omega
      subst hx0
      rw [bl_zero, List.map_nil, List.append_nil] at hacc
      subst hacc
      refine Z3s ?_
      exact ⟨i + 1, by omega, by omega, (by repeat (first | exact Sub.nil | refine Sub.cons (by first | rfl | (simp [get]; done)) ?_)), Fit.refl _ _⟩
  · have : i = 4 := by simp at hc; omega
    subst this
    rw [setN_four]
    refine Z4i ?_
    refine Z4g ?_
    refine aw_freezeL (ys := (setl f).map eInt) 2 rfl rfl rfl rfl (by rw [List.drop_zero, List.take_of_length_le (by simp)]) (by simp) (ints_bel 0 _) ?_
    refine aw_ret ?_
    exact Zd

theorem set_Join_1 (f g : Nat → Bool) (k : Nat) (H : Heap) : AC Tryd.prog 35 [.int .u64 (wd f k : Int), .int .u64 (wd g k : Int)] H (Ret (.int .u64 ((wd (fun n => f n || g n) k : Nat) : Int)) H) := by
  refine AC.body (N := 8) [.tmp 4] Tryd.func35 rfl rfl rfl (Nat.le_of_ble_eq_true rfl) fun B hB => ?_
  refine Z8 ?_
  refine Z1t ?_
  refine ao1 (by decide) (o_or (r := ((wd (fun n => f n || g n) k : Nat) : Int)) rfl rfl (by rw [u64_or _ _ (wd_lt _ _) (wd_lt _ _), wd_or])) ?_
  exact Ze
theorem set_Less_1 (f g : Nat → Bool) (k : Nat) (H : Heap) : AC Tryd.prog 42 [.int .u64 (wd f k : Int), .int .u64 (wd g k : Int)] H (Ret (.int .u64 ((wd (fun n => f n && !g n) k : Nat) : Int)) H) := by
  refine AC.body (N := 8) [.tmp 4] Tryd.func42 rfl rfl rfl (Nat.le_of_ble_eq_true rfl) fun B hB => ?_
  refine Z8 ?_
  refine Z1t ?_
  refine ao1 (by decide) (o_andNot (r := ((wd (fun n => f n && !g n) k : Nat) : Int)) rfl rfl (u64_andNot _ _ _)) ?_
  exact Ze

set_option maxHeartbeats 0 in
theorem set_put (g : Nat) [FnI Tryd.prog g] (op : Bool → Bool → Bool) (hdo : ∀ (f h : Nat → Bool) (k : Nat) (H : Heap), AC Tryd.prog g [.int .u64 (wd f k : Int), .int .u64 (wd h k : Int)] H (Ret (.int .u64 ((wd (fun n => op (f n) (h n)) k : Nat) : Int)) H))
    (a b : List Int) (ha : a.length ≤ 9223372036854775807) (hb : b.length ≤ 9223372036854775807) (H : Heap) : ACT Tryd.prog KD 34 [.pl (a.map eInt), .pl (b.map eInt), .fn (.func g) [] []] H (Ret (.pl ((setop op a b).map eInt)) H) := by
  refine ACT.body (N := 36) [.tmp 6] Tryd.func34 rfl rfl rfl (Nat.le_of_ble_eq_true rfl) fun B hB => ?_
  refine Z4o ?_
  refine Z49 ?_
  refine Z3y ?_
  refine Z3x ?_
  refine Z40 ?_
  refine Z3n ?_
  refine Z3p ?_
  refine Z3p ?_
  refine Z1f ?_
  refine Zj ?_
  refine Z2k ?_
  refine aw_cond rfl (fun hc => ?_) (fun hc => ?_)
  · have hs : (sok a && sok b) = false := by cases h : (sok a && sok b) <;> simp_all
    refine Z2q ?_
    refine aw_nslpl 6 rfl ?_
    refine aw_ret ?_
    rw [show setop op a b = [] by rw [setop, hs]; rfl]
    exact Zd
  have hs : sok a = true ∧ sok b = true := by simpa using hc
  rw [show setop op a b = setl (fun n => op (inl a n) (inl b n)) by rw [setop, hs.1, hs.2]; rfl, pof_ok hs.1, pof_ok hs.2]
  refine Zy ?_
  refine Z16 ?_
  refine aw_loop (G := Nat) (fun k => k ≤ 4) (fun k => [(KT, KD.av), (2, .fn (.func g) [] []), (7, .pt (Lid H.length 0) 0 0 0), (8, .pt (Lid H.length 1) 0 0 0), (20, .int .i64 (k : Int))]) (fun k => H ++ [⟨0, 4, [eWn (fun j => if j < k then wd (fun n => op (inl a n) (inl b n)) j else wd (inl a) j)]⟩, ⟨0, 4, [eWn (wd (inl b))]⟩]) (fun k => 4 - k) 0 (Nat.zero_le _) (by repeat (first | exact Sub.nil | refine Sub.cons (by first | rfl | (simp [get]; done)) ?_)) (.inl (by simp)) ?_
  intro k hk
  refine Z30 ?_
  refine aw_cond rfl (fun hc => ?_) (fun hc => ?_)
  · have hk4 : k < 4 := by simp at hc; omega
    have hx : (eWn (fun j => if j < k then wd (fun n => op (inl a n) (inl b n)) j else wd (inl a) j))[0 + k * 1]? = some (.int .u64 ((wd (inl a) k : Nat) : Int)) := by
      rw [Nat.zero_add, Nat.mul_one, eWn_get _ hk4]; simp
    have hy : (eWn (wd (inl b)))[0 + k * 1]? = some (.int .u64 ((wd (inl b) k : Nat) : Int)) := by rw [Nat.zero_add, Nat.mul_one]; exact eWn_get _ hk4
    have hset : (eWn (fun j => if j < k then wd (fun n => op (inl a n) (inl b n)) j else wd (inl a) j)).take (0 + k * 1) ++ [AV.int .u64 ((wd (fun n => op (inl a n) (inl b n)) k : Nat) : Int)] ++ (eWn (fun j => if j < k then wd (fun n => op (inl a n) (inl b n)) j else wd (inl a) j)).drop (0 + k * 1 + 1) = eWn (fun j => if j < k + 1 then wd (fun n => op (inl a n) (inl b n)) j else wd (inl a) j) := by
      rw [Nat.zero_add, Nat.mul_one, eWn_set _ hk4]
      refine eWn_congr fun j _ => ?_
      by_cases e : j = k
      · subst e; simp
      · rw [if_neg e]
        by_cases e2 : j < k
        · rw [if_pos e2, if_pos (by omega)]
        · rw [if_neg e2, if_neg (by omega)]
    refine Z1k ?_
    refine aw_drawP mixed (some 10) 2 ?_
    refine Z19 ?_
    refine Z3r ?_
    first | refine aq0 1 rfl (by decide +kernel) (by decide) (fun _ => o_move (v := .fn _ _ _) rfl) ?_ | refine aq0 1 rfl (by decide +kernel) (by decide) (fun _ => o_move (v := .nfn) rfl) ?_
    refine aq0 2 rfl (by decide +kernel) (by decide) (fun _ => o_move (v := .int _ _) rfl) ?_
    refine aqp 3 rfl (by decide +kernel) (by decide) (fun G => w_indexArrN rfl (lk rfl rfl) rfl rfl hk4) ?_
    refine aqp 4 rfl (by decide +kernel) (by decide) (fun G => w_load1 (v := .int .u64 _) rfl (lk rfl rfl) rfl rfl hx) ?_
    refine Z1e ?_
    refine aqp 6 rfl (by decide +kernel) (by decide) (fun G => w_indexArrN rfl (lk rfl rfl) rfl rfl hk4) ?_
    refine aqp 7 rfl (by decide +kernel) (by decide) (fun G => w_load1 (v := .int .u64 _) rfl (lk rfl rfl) rfl rfl hy) ?_
    refine aq02 8 rfl (by decide +kernel) (by decide) (fun _ => V2.callv (hdo (inl a) (inl b) k _) rfl rfl) ?_
    refine aqp 9 rfl (by decide +kernel) (by decide) (fun G => w_indexArrN rfl (lk rfl rfl) rfl rfl hk4) ?_
    refine aqs 10 rfl (by decide +kernel) (by first | exact fun _ => trivial | exact fun _ => ⟨_, rfl⟩ | exact fun _ => ⟨_, rfl, rfl⟩ | exact fun _ => ⟨_, rfl, rfl, rfl⟩ | exact yet_done (by decide +kernel)) (by rintro _ ⟨⟩) (w_storeP (sz := 1) (v := .int .u64 _) (r' := eWn (fun j => if j < k + 1 then wd (fun n => op (inl a n) (inl b n)) j else wd (inl a) j)) rfl rfl rfl rfl rfl rfl rfl rfl (by show _ ≤ 4; omega) hset) ?_
    refine Z1d ?_
    refine Z3s ?_
    exact ⟨k + 1, by omega, by omega, (by repeat (first | exact Sub.nil | refine Sub.cons (by first | rfl | (simp [get]; done)) ?_)), .refl _ _⟩
  · have : k = 4 := by simp at hc; omega
    subst this
    rw [show eWn (fun j => if j < 4 then wd (fun n => op (inl a n) (inl b n)) j else wd (inl a) j) = eWn (wd fun n => op (inl a n) (inl b n)) from eWn_congr fun j hj => if_pos hj]
    refine Z2 ?_
    refine Z4h ?_
    refine ao2 (by rintro _ ⟨⟩; decide) (V2.callT (words_list (fun n => op (inl a n) (inl b n)) _) rfl rfl) ?_
    exact Z2u
theorem set_Join (a b : List Int) (ha : a.length ≤ 9223372036854775807) (hb : b.length ≤ 9223372036854775807) (H : Heap) : ACT Tryd.prog KD 12 [.pl (a.map eInt), .pl (b.map eInt)] H (Ret (.pl ((setop (· || ·) a b).map eInt)) H) := by
  refine ACT.body (N := 8) [.tmp 4] Tryd.func12 rfl rfl rfl (Nat.le_of_ble_eq_true rfl) fun B hB => ?_
  refine Z4o ?_
  refine ao2 (by rintro _ ⟨⟩; decide) (V2.callT (set_put 35 (· || ·) (fun f h k H => set_Join_1 f h k H) a b ha hb _) rfl rfl) ?_
  exact Z2u
theorem set_Less (a b : List Int) (ha : a.length ≤ 9223372036854775807) (hb : b.length ≤ 9223372036854775807) (H : Heap) : ACT Tryd.prog KD 19 [.pl (a.map eInt), .pl (b.map eInt)] H (Ret (.pl ((setop (fun x y => x && !y) a b).map eInt)) H) := by
  refine ACT.body (N := 8) [.tmp 4] Tryd.func19 rfl rfl rfl (Nat.le_of_ble_eq_true rfl) fun B hB => ?_
  refine Z4o ?_
  refine ao2 (by rintro _ ⟨⟩; decide) (V2.callT (set_put 42 (fun x y => x && !y) (fun f h k H => set_Less_1 f h k H) a b ha hb _) rfl rfl) ?_
  exact Z2u
end Go.Av

namespace Go.Av
open Go.Proofs
set_option maxRecDepth 10000
set_option linter.unusedSimpArgs false
set_option linter.unusedVariables false

theorem inl_step {l : List Int} {k : Nat} {x : Int} {n : Nat} (hx : l[k]? = some x) (hno : inl (l.take k) n = false) : inl (l.take (k + 1)) n = (x == (n : Int)) := by
  rw [inl, take_snoc_get hx, List.any_append, show (l.take k).any (fun y => y == (n : Int)) = inl (l.take k) n from rfl, hno]; simp
def opw (how : Int) (x y : Bool) : Bool := if how = 0 then x || y else if how = 1 then x && y else if how = 2 then x && !y else false
def setP (f : Nat → Bool) (n : Nat) : List Int := ((List.range n).filter f).map fun j : Nat => (j : Int)
theorem setP_step (f : Nat → Bool) (n : Nat) : setP f (n + 1) = setP f n ++ if f n then [(n : Int)] else [] := by
  rw [setP, List.range_succ, List.filter_append, List.map_append, setP]
  congr 1
  cases h : f n <;> simp [h]
theorem setP_len (f : Nat → Bool) (n : Nat) : (setP f n).length ≤ n := by
  rw [setP, List.length_map]
  exact Nat.le_trans (List.length_filter_le _ _) (by simp)
end Go.Av

namespace Go.Av
open Go.Proofs
set_option maxRecDepth 10000
set_option linter.unusedSimpArgs false
set_option linter.unusedVariables false

theorem eq_step {α : Type} {a b : List α} {k : Nat} {x : α} (hx : a[k]? = some x) (hy : b[k]? = some x) (h : a.take k = b.take k) : a.take (k + 1) = b.take (k + 1) := by
  rw [take_snoc_get hx, take_snoc_get hy, h]
theorem eq_done {α : Type} {a b : List α} (hn : a.length = b.length) (h : a.take a.length = b.take a.length) : a = b := by
  rw [List.take_length, hn, List.take_length] at h; exact h
theorem ne_at {α : Type} {a b : List α} {k : Nat} {x y : α} (hx : a[k]? = some x) (hy : b[k]? = some y) (h : x ≠ y) : a ≠ b := by
  rintro rfl; rw [hx] at hy; exact h (Option.some.inj hy)
end Go.Av

namespace Go.Av
open Go.Proofs
set_option maxRecDepth 10000
set_option linter.unusedSimpArgs false
set_option linter.unusedVariables false

theorem set_Meet_1 (f g : Nat → Bool) (k : Nat) (H : Heap) : AC Tryd.prog 79 [.int .u64 (wd f k : Int), .int .u64 (wd g k : Int)] H (Ret (.int .u64 ((wd (fun n => f n && g n) k : Nat) : Int)) H) := by
  refine AC.body (N := 8) [.tmp 4] Tryd.func79 rfl rfl rfl (Nat.le_of_ble_eq_true rfl) fun B hB => ?_
  refine Z8 ?_
  refine Z1t ?_
  refine ao1 (by decide) (o_and (r := ((wd (fun n => f n && g n) k : Nat) : Int)) rfl rfl (by rw [u64_and _ _ (wd_lt _ _) (wd_lt _ _), wd_and])) ?_
  exact Ze
theorem set_Meet (a b : List Int) (ha : a.length ≤ 9223372036854775807) (hb : b.length ≤ 9223372036854775807) (H : Heap) : ACT Tryd.prog KD 62 [.pl (a.map eInt), .pl (b.map eInt)] H (Ret (.pl ((setop (· && ·) a b).map eInt)) H) := by
  refine ACT.body (N := 8) [.tmp 4] Tryd.func62 rfl rfl rfl (Nat.le_of_ble_eq_true rfl) fun B hB => ?_
  refine Z4o ?_
  refine ao2 (by rintro _ ⟨⟩; decide) (V2.callT (set_put 79 (· && ·) (fun f h k H => set_Meet_1 f h k H) a b ha hb _) rfl rfl) ?_
  exact Z2u
def inI (l : List Int) (n : Int) : Bool := l.any fun x => x == n
theorem inI_step {l : List Int} {k : Nat} {x n : Int} (hx : l[k]? = some x) (hno : inI (l.take k) n = false) : inI (l.take (k + 1)) n = (x == n) := by
  rw [inI, take_snoc_get hx, List.any_append, show (l.take k).any (fun y => y == n) = inI (l.take k) n from rfl, hno]; simp
theorem inI_sok {l : List Int} (h : sok l = true) (n : Int) : inI l n = (decide (0 ≤ n) && decide (n < 256) && inl l n.toNat) := by
  rw [Bool.eq_iff_iff]
  simp only [Bool.and_eq_true, decide_eq_true_eq]
  constructor
  · intro h1
    obtain ⟨x, hx, e⟩ := List.any_eq_true.1 h1
    have e : x = n := by simpa using e
    subst e
    obtain ⟨k, hk, rfl⟩ := List.getElem_of_mem hx
    have hr := sok_get_range h hk
    exact ⟨hr, inl_mem.2 (by rw [Int.toNat_of_nonneg hr.1]; exact hx)⟩
  · rintro ⟨⟨h0, h1⟩, h2⟩
    have := inl_mem.1 h2
    rw [Int.toNat_of_nonneg h0] at this
    exact List.any_eq_true.2 ⟨n, this, by simp⟩
theorem wd_has (f : Nat → Bool) (m : Nat) : ((wd f (m / 64) / 2 ^ (m % 64) % 2 : Nat) == 1) = f m := by
  have h := wd_bit f (m / 64) (m % 64)
  rw [Nat.testBit_eq_decide_div_mod_eq, decide_eq_true (Nat.mod_lt m (by decide)), Bool.true_and, show 64 * (m / 64) + m % 64 = m from Nat.div_add_mod m 64] at h
  rw [← h, Bool.eq_iff_iff]
  simp
end Go.Av

/-
  APPEND ONTO A SLICE THAT DOES NOT BEGIN AT ITS ROW's HEAD (a queue): in place, or into a new row. AND where many ways meet.
-/
namespace Go.Av
section
variable {P : Program} {N : Nat} {B : Base} {Q : Post} {env : Env} {H H0 L : Heap} {ty : TypeId} {ops : Array Oper} {rest : List Oper}
theorem o_appendO {t t' e : TypeId} {x y : Operand} {id off len cap sz bytes : Nat} {agg : Bool} {zs : List AV} {o : AObj} {ys : List (List AV)} [hu : SlI P t e] [NiI P t'] [TyI P e agg sz] [hz : ZcI P e zs] [ByI P e bytes] (hn : zs.length = sz)
    (hx : aev env x = .sl id o.gen off len cap) (hid : H[id]? = some o) (hsz : o.sz = sz) (hlen : off + len ≤ o.rows.length) (hy : Src P N env H y sz ys) (h63 : len + ys.length ≤ 9223372036854775807) (hb : (len + ys.length) * bytes ≤ 140737488355328) (hne : 0 < ys.length) (dst : Option Nat) (pos : String) (after : Array Edge) (guard : Option (Nat × Bool)) :
    AOp P N ⟨dst, .call { callee := .builtin .append, args := #[x, y], argTypes := #[t, t'] }, ty, pos, after, guard⟩ env H
      (fun v H' => ∃ js, (js = o.rows.take off ∨ js = []) ∧ v = .sl id (o.gen + 1) js.length (len + ys.length) (len + ys.length) ∧ H' = H.set id ⟨o.gen + 1, o.sz, js ++ (o.rows.drop off).take len ++ ys⟩) (fun _ _ => False) := by
  intro S a w hc next Q hnext _
  obtain ⟨news, hs⟩ := hy S a w hc
  obtain ⟨s, c, hsl, ok, hcc, hlc, h⟩ := hc.slc hx hid
  have hlt : id < S.length := (List.getElem?_eq_some_iff.1 hsl).1
  have hgen : s.gen = o.gen := ok.gen.symm
  have hssz : s.sz = sz := by rw [← ok.sz]; exact hsz
  have hnl := hs.cells.1
  rw [flat_length hs.wide] at hnl
  generalize hms : (o.rows.drop off).take len = ms
  have hml : ms.length = len := by rw [← hms, List.length_take, List.length_drop]; omega
  have hmg : ∀ i r, ms[i]? = some r → o.rows[off + i]? = some r := by
    intro i r hr
    rw [← hms, List.getElem?_take] at hr
    split at hr
    · rwa [List.getElem?_drop] at hr
    · cases hr
  -- what grows into a new block
  have grown : ∀ (ad : Option Addr) (olds : Array Value), a.eval x = .slice ad len c → c < len + ys.length → (∀ w', w'.heap = w.heap → (Builtin.firstCells sz len (.slice ad len c)).run P w' = .ok olds w') →
      CellsR S w ms.flatten olds → (∀ r ∈ ms, r.length = sz) → Oper.wp P ⟨dst, .call { callee := .builtin .append, args := #[x, y], argTypes := #[t, t'] }, ty, pos, after, guard⟩ a w next Q := by
    intro ad olds he hroom hold hco hwo
    obtain ⟨cap', rest, h1, h2, hr⟩ := run_append_out (P := P) (t := t) (t' := t') (e := e) (ty := ty) (sz := sz) (bytes := bytes) (agg := agg) (zs := zs) hs hold hroom h63 hb
    have hm := Made.drew_alloc w (olds ++ news ++ rest) e
    have hwide : ∀ r ∈ ms ++ ys, r.length = sz := by
      intro r hr
      rcases List.mem_append.1 hr with h | h
      · exact hwo r h
      · exact hs.wide r h
    have hrow0 : RowOK (own S) S w sz (olds ++ news ++ rest) (ms ++ ys) := RowOK.of_cells hwide (by rw [List.flatten_append]; exact hco.append hs.cells)
    have hx' : Ext S w (S.set id ⟨s.gen + 1, s.sz, some w.heap.size⟩) (w.drew.alloc (.cells (olds ++ news ++ rest) e)) := by
      refine ⟨hm.os, hm.tape, hm.output, ⟨by rw [hm.size]; omega, fun b hb' ho => ⟨fun k => ?_, hm.old b hb'⟩, fun b arr ty hb' => ⟨arr, by rw [hm.old b (Array.getElem?_eq_some_iff.1 hb').1]; exact hb', rfl⟩⟩, SExt.bump hsl (by simp)⟩
      obtain ⟨i, si, hi, hpi⟩ := k
      by_cases e1 : id = i
      · subst e1
        rw [List.getElem?_set_self hlt] at hi
        obtain rfl := Option.some.inj hi
        simp at hpi
        omega
      · rw [List.getElem?_set_ne e1] at hi
        exact ho ⟨i, si, hi, hpi⟩
    have hh := hc.heap.move (rows' := ms ++ ys) hid hsl hx' (fun j sj hj hpj => by
        have := own_lt hc.heap ⟨j, sj, hj, hpj⟩
        omega) (fun j sj b' hj _ hpj => hm.old b' (own_lt hc.heap ⟨j, sj, hj, hpj⟩)) hm.new (by rw [hsz]; exact hrow0.mono hx'.stp hx'.slots)
    have hrun : (execOp a.eval ⟨dst, .call { callee := .builtin .append, args := #[x, y], argTypes := #[t, t'] }, ty, pos, after, guard⟩).run P w = .ok (.value (.slice (some ⟨w.heap.size, 0, none⟩) (len + ys.length) cap')) (w.drew.alloc (.cells (olds ++ news ++ rest) e)) := by
      simp [execOp, resolve, invoke, builtin, he, hr]
    unfold Oper.wp
    rw [hrun]
    refine hnext _ _ _ _ _ ⟨[], .inr rfl, rfl, by rw [List.nil_append, hms]⟩ hh hx' ?_
    refine .sl ⟨s.gen + 1, s.sz, some w.heap.size⟩ (List.getElem?_set_self hlt) (by simp [hgen]) rfl fun _ => ⟨cap', by omega, h1, .inr ⟨w.heap.size, _, _, rfl, by simp, hm.new, ?_⟩⟩
    have hol := hco.1
    rw [flat_length hwo] at hol
    simp only [Array.size_append, ← hnl, ← hol, h2, hn, hml, ← Nat.add_mul, Nat.zero_add, List.length_nil]
    rw [hssz]
    exact Nat.mul_le_mul_right _ (by omega)
  rcases h with ⟨h0, ad, he⟩ | ⟨b, arr, et, hp, he, hbl, hfit, hrow⟩
  · have el : len = 0 := by omega
    subst el
    subst h0
    have : ms = [] := List.eq_nil_of_length_eq_zero hml
    subst this
    refine grown ad #[] he (by omega) (fun w' _ => ?_) ⟨by simp, fun _ _ h => by simp at h⟩ (by simp)
    cases ad with
    | none => rfl
    | some ad => simp [Builtin.firstCells, loadCells, loadCellsFrom]
  · have hwa : ∀ r ∈ o.rows, r.length = sz := by
      intro r hr
      obtain ⟨i, hi⟩ := List.mem_iff_getElem?.1 hr
      rw [← hsz]
      exact (hrow.2 i r hi).1
    have hwo : ∀ r ∈ ms, r.length = sz := by
      intro r hr
      obtain ⟨i, hi⟩ := List.mem_iff_getElem?.1 hr
      exact hwa r (List.mem_of_getElem? (hmg i r hi))
    by_cases hroom : len + ys.length ≤ c
    · -- in place
      have hr := run_append_in (P := P) (t := t) (t' := t') (e := e) (ty := ty) (agg := agg) hs (base := some ⟨b, off * o.sz, none⟩) hroom
      generalize hM : off + len = M at hlen
      have hpo : off * o.sz + len * sz = M * sz := by rw [hsz, ← Nat.add_mul, hM]
      have hfit2 : M * sz + news.size ≤ arr.size := by
        rw [← hnl, ← Nat.add_mul]
        rw [hsz] at hfit
        exact Nat.le_trans (Nat.mul_le_mul_right _ (by omega)) hfit
      have hst := run_storeCells_at P b (M * sz) et news.toList 0 arr w hbl (by simpa using hfit2) hs.one
      simp only [Nat.add_zero, Array.length_toList] at hst
      have hsize : (arr.toList.take (M * sz) ++ news.toList ++ arr.toList.drop (M * sz + news.size)).toArray.size = arr.size := by
        simp
        omega
      have ho : own S b := ⟨id, s, hsl, hp⟩
      have hx' : Ext S w (S.set id ⟨s.gen + 1, s.sz, some b⟩) (w.setRow b (arr.toList.take (M * sz) ++ news.toList ++ arr.toList.drop (M * sz + news.size)).toArray) := by
        refine .of_row ho rfl rfl rfl (by simp) (fun k _ hk => setRow_other w b k _ hk) (fun a' t'' h' => ?_) (fun k hk hno k' => ?_) (SExt.bump hsl (by simp))
        · rw [hbl] at h'
          injection h' with h'
          injection h' with h1 h2
          subst h1; subst h2
          exact ⟨_, setRow_heap w b arr _ et (0, 0) hbl, hsize⟩
        · obtain ⟨i, si, hi, hpi⟩ := k'
          by_cases e1 : id = i
          · subst e1
            rw [List.getElem?_set_self hlt] at hi
            obtain rfl := Option.some.inj hi
            simp at hpi
            subst hpi
            exact hno ho
          · rw [List.getElem?_set_ne e1] at hi
            exact hno ⟨i, si, hi, hpi⟩
      have hsplit : o.rows.take M = o.rows.take off ++ ms := by rw [← hM, ← hms, List.take_add]
      have hwt : ∀ r ∈ o.rows.take M, r.length = sz := fun r hr => hwa r (List.mem_of_mem_take hr)
      have hwide : ∀ r ∈ o.rows.take M ++ ys, r.length = sz := by
        intro r hr
        rcases List.mem_append.1 hr with h | h
        · exact hwt r h
        · exact hs.wide r h
      have hrow' : RowOK (own S) S w sz (arr.toList.take (M * sz) ++ news.toList ++ arr.toList.drop (M * sz + news.size)).toArray (o.rows.take M ++ ys) := by
        have e1 : (arr.toList.take (M * sz) ++ news.toList ++ arr.toList.drop (M * sz + news.size)).toArray = (arr.toList.take (M * sz)).toArray ++ news ++ (arr.toList.drop (M * sz + news.size)).toArray := by
          simp
        rw [e1]
        refine RowOK.of_cells hwide ?_
        rw [List.flatten_append]
        refine CellsR.append ?_ hs.cells
        have hl2 : (o.rows.take M).flatten.length = M * sz := by rw [flat_length hwt, List.length_take, Nat.min_eq_left hlen]
        have hle : M * sz ≤ arr.size := by omega
        refine ⟨by rw [hl2]; simp; omega, fun k v hk => ?_⟩
        have hklt : k < M * sz := by rw [← hl2]; exact (List.getElem?_eq_some_iff.1 hk).1
        have hpos : 0 < sz := by rcases Nat.eq_zero_or_pos sz with e | e; · subst e; simp at hklt
                                 · exact e
        have hi : k / sz < (o.rows.take M).length := by rw [List.length_take, Nat.min_eq_left hlen]; exact (Nat.div_lt_iff_lt_mul hpos).2 hklt
        have hj : k % sz < sz := Nat.mod_lt _ hpos
        have hk' : k / sz * sz + k % sz = k := Nat.div_add_mod' k sz
        have h3 := flat_get hwt (List.getElem?_eq_getElem hi) hj
        rw [hk', hk] at h3
        have h4 : o.rows[k / sz]? = some (o.rows.take M)[k / sz] := by
          have := List.getElem?_eq_getElem hi
          rw [List.getElem?_take] at this
          split at this
          · exact this
          · cases this
        obtain ⟨k1, u, k2, k3⟩ := (hrow.2 _ _ h4).2 _ v h3.symm
        rw [hsz, hk'] at k2
        exact ⟨k1, u, by simp [hklt, k2], k3⟩
      have hh := hc.heap.move (rows' := o.rows.take M ++ ys) hid hsl hx' (fun j sj hj hpj => hc.heap.inj j id sj s b hj hsl hpj hp) (fun j sj b' hj hne' hpj => setRow_other w b b' _ (fun e => hne' (hc.heap.inj j id sj s b hj hsl (e ▸ hpj) hp)))
        (setRow_heap w b arr _ et (0, 0) hbl) (by rw [hsz]; exact hrow'.mono hx'.stp hx'.slots)
      have hrun : (execOp a.eval ⟨dst, .call { callee := .builtin .append, args := #[x, y], argTypes := #[t, t'] }, ty, pos, after, guard⟩).run P w = .ok (.value (.slice (some ⟨b, off * o.sz, none⟩) (len + ys.length) c)) (w.setRow b (arr.toList.take (M * sz) ++ news.toList ++ arr.toList.drop (M * sz + news.size)).toArray) := by
        simp only [add_none, hpo, hst] at hr
        simp [execOp, resolve, invoke, builtin, he, hr]
      unfold Oper.wp
      rw [hrun]
      have hol : (o.rows.take off).length = off := by rw [List.length_take]; omega
      refine hnext _ _ _ _ _ ⟨o.rows.take off, .inl rfl, rfl, by rw [hms, ← hsplit]⟩ hh hx' ?_
      refine .sl ⟨s.gen + 1, s.sz, some b⟩ (List.getElem?_set_self hlt) (by simp [hgen]) rfl fun _ => ⟨c, by omega, by omega, .inr ⟨b, _, _, rfl, by simp [hol, hssz, hsz], setRow_heap w b arr _ et (0, 0) hbl, ?_⟩⟩
      rw [hsize, hssz, hol, ← hsz]
      exact hfit
    · -- into a new block
      have hcell : ∀ k, k < len * sz → w.cell? ((⟨b, off * o.sz, none⟩ : Addr).add k) = some ((fun k => arr.getD (off * sz + k) undef) k) := by
        intro k hk
        have : off * sz + k < arr.size := by
          have h1 : (off + len) * o.sz ≤ (off + c) * o.sz := Nat.mul_le_mul_right _ (by omega)
          rw [hsz, Nat.add_mul] at h1
          rw [hsz] at hfit
          omega
        rw [add_none, cell_of_row w b _ arr _ _ hbl, hsz]
        simp [this]
      have hco : CellsR S w ms.flatten ((List.range (ms.length * sz)).map fun k => arr.getD (off * sz + k) undef).toArray := flat_cells hwo fun i r hr j v hv' => by
        obtain ⟨h1, u, h2, h3⟩ := (hrow.2 _ r (hmg i r hr)).2 j v hv'
        refine ⟨h1, ?_⟩
        rw [hsz] at h2
        have e : arr.getD (off * sz + (i * sz + j)) undef = u := by rw [← Nat.add_assoc, ← Nat.add_mul]; simp [h2]
        rw [e]
        exact h3
      rw [hml] at hco
      exact grown (some ⟨b, off * o.sz, none⟩) _ he (by omega) (fun w' hw' => first_cells hcell w' hw') hco hwo
/-- As a walk uses it. -/
theorem ao_appO {t t' e : TypeId} {x y : Operand} {n k g off len cap sz bytes d : Nat} {agg : Bool} {zs : List AV} {o : AObj} {ys : List (List AV)} {pos : String} {after : Array Edge} [hu : SlI P t e] [NiI P t'] [TyI P e agg sz] [hz : ZcI P e zs] [ByI P e bytes]
    (hd : d < N) (hx : aev env x = .sl (Lid n k) g off len cap) (hn : H0.length = n) (hk : L[k]? = some o) (hg : o.gen = g) (hsz : o.sz = sz) (hy : Src P N env (H0 ++ L) y sz ys) (hz' : zs.length = sz) (hlen : off + len ≤ o.rows.length) (hne : 0 < ys.length) (h63 : len + ys.length ≤ 9223372036854775807) (hb : (len + ys.length) * bytes ≤ 140737488355328)
    (h : ∀ js, (js = o.rows.take off ∨ js = []) → AOps P N B ops rest Q ((d, .sl (Lid n k) (g + 1) js.length (len + ys.length) (len + ys.length)) :: env) (H0 ++ L.set k ⟨g + 1, o.sz, js ++ (o.rows.drop off).take len ++ ys⟩)) :
    AOps P N B ops (⟨some d, .call { callee := .builtin .append, args := #[x, y], argTypes := #[t, t'] }, ty, pos, after, none⟩ :: rest) Q env (H0 ++ L) := by
  subst hg
  refine ao_cons rfl (by rintro _ ⟨⟩; exact hd) (o_appendO (agg := agg) (e := e) (zs := zs) (bytes := bytes) hz' hx (lk hn hk) hsz hlen hy h63 hb hne _ _ _ _) ?_ (fun _ _ h => h.elim)
  rintro _ _ ⟨js, hjs, rfl, rfl⟩
  rw [st hn]
  exact h js hjs
end

/-! #### where many ways meet -/
def JoinG (B : Base) {G : Type} (I : G → Prop) (E : G → Env) (M : G → Heap) (Q : Post) : Post
  | .nrm, e, H => ∃ g, I g ∧ Sub (E g) e ∧ Fit B (E g) H (M g)
  | x, e, H => Q x e H
section
variable {P : Program} {N : Nat} {B : Base} {Q : Post} {env : Env} {H : Heap}
theorem aw_joinG {x : Code} {G : Type} (I : G → Prop) (E : G → Env) (M : G → Heap) (h : AWp P N B x (JoinG B I E M Q) env H) (k : ∀ g, I g → Q .nrm (E g) (M g)) : AWp P N B x Q env H := by
  intro S a w hc hb
  refine wp_mono (h S a w hc hb) ?_
  rintro e a' w' ⟨ax, env', H', S', hj, r, c', k'⟩
  cases ax with
  | nrm =>
    cases r
    obtain ⟨g, hi, hs, hf⟩ := hj
    obtain ⟨S2, c2, k2⟩ := (c'.sub hs).fit k' hf
    exact ⟨.nrm, E g, M g, S2, k g hi, .nrm, c2, k2⟩
  | brk i => exact ⟨_, env', H', S', hj, r, c', k'⟩
  | ret => exact ⟨_, env', H', S', hj, r, c', k'⟩
  | pan v => exact ⟨_, env', H', S', hj, r, c', k'⟩
theorem joinG_nrm {G : Type} {I : G → Prop} {E : G → Env} {M : G → Heap} (g : G) (hi : I g) (h1 : Sub (E g) env) (h2 : Fit B (E g) H (M g)) : JoinG B I E M Q .nrm env H := ⟨g, hi, h1, h2⟩
theorem joinG_ret {G : Type} {I : G → Prop} {E : G → Env} {M : G → Heap} (h : Q .ret env H) : JoinG B I E M Q .ret env H := h
theorem joinG_brk {G : Type} {I : G → Prop} {E : G → Env} {M : G → Heap} {i : Nat} (h : Q (.brk i) env H) : JoinG B I E M Q (.brk i) env H := h
end
end Go.Av

/-
  HEAD AND TAIL of a slice that nobody writes.
-/
namespace Go.Av
section
variable {P : Program} {N : Nat} {env : Env} {H : Heap} {ty : TypeId}
theorem o_tailp {t e : TypeId} {x : Operand} {lo : Option Operand} {xs ys : List (List AV)} {l sz : Nat} {agg : Bool} [hu : SlI P t e] [TyI P e agg sz] (hx : aev env x = .pl xs) (hl : Bd env lo 0 l) (h1 : l ≤ xs.length) (hsz : ∀ r ∈ xs, r.length = sz) (hy : xs.drop l = ys) :
    V1 P N (.slice t x lo Option.none Option.none) ty env H (.pl ys) := by
  have := o_slicep (P := P) (N := N) (env := env) (H := H) (ty := ty) (t := t) (e := e) (agg := agg) (h := xs.length) hx hl .none h1 (Nat.le_refl _) hsz
  rwa [List.take_of_length_le (by simp), hy] at this
theorem o_headp {t e : TypeId} {x : Operand} {hi : Option Operand} {xs ys : List (List AV)} {h sz : Nat} {agg : Bool} [hu : SlI P t e] [TyI P e agg sz] (hx : aev env x = .pl xs) (hh : Bd env hi xs.length h) (h1 : h ≤ xs.length) (hsz : ∀ r ∈ xs, r.length = sz) (hy : xs.take h = ys) :
    V1 P N (.slice t x Option.none hi Option.none) ty env H (.pl ys) := by
  have := o_slicep (P := P) (N := N) (env := env) (H := H) (ty := ty) (t := t) (e := e) (agg := agg) (l := 0) (h := h) hx .none hh (Nat.zero_le _) h1 hsz
  rwa [List.drop_zero, Nat.sub_zero, hy] at this
end
end Go.Av

namespace Go.Av
open Go.Proofs
set_option maxRecDepth 10000
set_option linter.unusedSimpArgs false
set_option linter.unusedVariables false

theorem graph_part (k u : Int) (H : Heap) : AC Tryd.prog 55 [.int .i64 k, .int .i64 u] H (Ret (.bool (gpart k u)) H) := by
  refine AC.body (N := 23) [.tmp 4] Tryd.func55 rfl rfl rfl (Nat.le_of_ble_eq_true rfl) fun B hB => ?_
  refine Z1g ?_
  refine Za ?_
  refine Z6 ?_
  refine Z10 ?_
  refine aw_cond rfl (fun hc => ?_) (fun hc => ?_)
  · have h1 : k = 1 := by simpa using hc
    refine Zy ?_
    refine Z10 ?_
    rw [show gpart k u = (u == 0) by simp [gpart, h1]; rfl]
    exact Zd
  have h1 : ¬ k = 1 := by simpa using hc
  refine Z3g ?_
  refine aw_cond rfl (fun hc => ?_) (fun hc => ?_)
  · have h2 : k = 2 := by simpa using hc
    refine Z1 ?_
    refine aw_out 4 (.bool (gpart k u)) ?_ ?_
    · refine Za ?_
      refine Zz ?_
      refine Zj ?_
      refine ao_split rfl rfl (fun hg2 => ?_) (fun hg2 => ?_)
      · refine Z2c ?_
        refine Zo ?_
        exact Z4p
      · refine Zl ?_
        refine Z3d ?_
        refine Zo ?_
        exact Z4p
    exact Z1o
  have h2 : ¬ k = 2 := by simpa using hc
  refine Z2 ?_
  refine Zz ?_
  refine Z41 ?_
  repeat (first | refine join_ret ?_ | refine join_brk ?_ | refine then_nrm ?_ | refine blk_nrm ?_ | refine then_brk ?_ | refine blk_hit ?_ | refine blk_miss rfl ?_ | refine then_ret ?_ | refine blk_ret ?_ | refine aw_seq ?_ | refine aw_skip ?_ | refine aw_exit ?_ | refine aw_scope ?_ | refine aw_ret ?_)
  refine aw_joinQ ([(1, .int .i64 u), (18, .bool (decide (k = 3) || decide (k = 4)))]) (H ++ []) ?_ ?_
  · refine Z1 ?_
    refine aw_cond rfl (fun hc => ?_) (fun hc => ?_)
    · have h3 : k = 3 := by simpa using hc
      refine Z1 ?_
      refine join_nrm ?_ (.inl rfl)
      rw [show (decide (k = 3) || decide (k = 4)) = (k == 3) by simp [h3]]
      exact (by repeat (first | exact Sub.nil | refine Sub.cons (by first | rfl | (simp [get]; done)) ?_))
    · have h3 : ¬ k = 3 := by simpa using hc
      refine Z3g ?_
      refine join_nrm ?_ (.inl rfl)
      rw [show (decide (k = 3) || decide (k = 4)) = (k == 4) by simp [h3]; rfl]
      exact (by repeat (first | exact Sub.nil | refine Sub.cons (by first | rfl | (simp [get]; done)) ?_))
  refine Z1 ?_
  refine aw_cond rfl (fun hc => ?_) (fun hc => ?_)
  · have h3 : k = 3 ∨ k = 4 := by simpa using hc
    refine Zy ?_
    refine Z10 ?_
    rw [show gpart k u = (u == 2) by simp only [gpart]; rw [Bool.eq_iff_iff]; simp; omega]
    exact Zd
  · have h3 : ¬ (k = 3 ∨ k = 4) := by simpa using hc
    refine Zh ?_
    rw [show gpart k u = false by simp only [gpart]; rw [Bool.eq_false_iff]; simp; omega]
    exact Zd
def uThing (t : Thing) : List Value := [.int .i64 t.kind, .int .i64 t.up, .string t.tag]
theorem eqThing_run (a b : Thing) (w : World) : (Op.equalIn 10000 44 (.agg (uThing a).toArray) (.agg (uThing b).toArray)).run Tryd.prog w = .ok (decide (a = b)) w := by
  have hS : Tryd.prog.underlying 44 = some (.struct (Tryd.prog.fieldsOf 44)) := by kernel_rfl
  have hp : Tryd.prog.stoodInHeld 44 = false := by kernel_rfl
  rw [show (10000 : Nat) = 9999 + 1 from rfl, run_equalIn_agg w 9999 44 _ _ hS hp]
  have u3 := Tryd.underlying3
  have a3 := Tryd.isAgg3
  have z3 := Tryd.sizeOf3
  simp only [uThing, Program.fieldsOf, Tryd.underlying44]
  go_simp
  have ht : a.tag.toList = b.tag.toList ↔ a.tag = b.tag := by have := str_eq a.tag b.tag; rw [Bool.eq_iff_iff] at this; simpa using this
  simp only [ht]
  cases a; cases b
  simp only [Thing.mk.injEq]
  (repeat' split) <;> simp_all
theorem things_len (g : List Thing) : ∀ r ∈ g.map eThing, r.length = 3 := rows_len (e := eThing) (n := 3) (fun _ => rfl) g
theorem things_bel (n : Nat) (g : List Thing) : ∀ r ∈ g.map eThing, AV.bels n r = true := rows_bel (e := eThing) (fun _ => rfl) g
theorem drop1_map {g : List Thing} : (g.map eThing).drop 1 = (g.drop 1).map eThing := by rw [List.map_drop]
theorem gokB_get {g : List Thing} {i : Nat} {t : Thing} (h : g[i + 1]? = some t) : gokB g i = (decide (0 ≤ t.up) && decide (t.up ≤ (i : Int)) && gpart t.kind (kindAt g t.up.toNat) && tagok t.tag && (decide (t.tag = ⟨#[]⟩) || decide (t.kind = 2))) := by rw [gokB, h]
theorem gright_cons (t0 : Thing) (g1 : List Thing) : gright (t0 :: g1) = (decide (g1.length + 1 ≤ 256) && decide (t0 = thing0) && allI (gokB (t0 :: g1)) g1.length) := by
  simp [gright]
set_option maxHeartbeats 0 in
theorem graph_Right (g : List Thing) (H : Heap) (hl : g.length ≤ 9223372036854775807) : AC Tryd.prog 32 [.pl (g.map eThing)] H (Ret (.bool (gright g)) H) := by
  refine AC.body (N := 66) [.tmp 2] Tryd.func32 rfl rfl rfl (Nat.le_of_ble_eq_true rfl) fun B hB => ?_
  refine Z2 ?_
  refine Z41 ?_
  cases g with
  | nil =>
    refine Z1 ?_
    refine aw_out 19 (.bool true) ?_ ?_
    · refine Z2s ?_
      refine Z14 ?_
      refine Zv ?_
      refine ao_split rfl rfl (fun hg3 => ?_) (fun hg3 => ?_)
      · refine Z2d ?_
        refine Z27 ?_
        refine Z4q ?_
        refine Zn ?_
        exact Zp
      · exfalso; simp at hg3
    refine Z1 ?_
    refine aw_cond rfl (fun hc => ?_) (fun hc => ?_)
    · refine Zh ?_
      exact Zd
    · simp at hc
  | cons t0 g1 =>
    have hr : ((t0 :: g1).map eThing)[(0 : Int).toNat]? = some (eThing t0) := rfl
    refine Z1 ?_
    refine aw_out 19 (.bool (!(decide (g1.length + 1 ≤ 256) && decide (t0 = thing0)))) ?_ ?_
    · refine Z2s ?_
      refine Z14 ?_
      refine Zv ?_
      refine ao_split rfl rfl (fun hg3 => ?_) (fun hg3 => ?_)
      · refine Z2d ?_
        refine Z27 ?_
        refine Z4q ?_
        refine Zn ?_
        exact Z4r
      · refine Z4u ?_
        refine Z2f ?_
        refine Z27 ?_
        refine ao_split rfl rfl (fun hg8 => ?_) (fun hg8 => ?_)
        · refine Z4q ?_
          refine Zn ?_
          exact Z4r
        · refine Z4s ?_
          refine ao_y1 rfl rfl (by decide) (w_indexAddrp rfl rfl (by decide) hr rfl) ?_
          refine ao_y1 rfl rfl (by decide) (w_loadRp rfl hr rfl) ?_
          refine ao_y1 rfl rfl (by decide) (V1.up (o_build (cs := [.int _ _, .int _ _, .str _]) rfl)) ?_
          refine ao_y1 rfl rfl (by decide) (o_neAgg (us := uThing t0) (vs := uThing thing0) rfl rfl rfl rfl (by kernel_rfl) (eqThing_run _ _)) ?_
          refine Zn ?_
          exact Z4r
    clear hr
    rw [gright_cons]
    refine Z1 ?_
    refine aw_cond rfl (fun hc => ?_) (fun hc => ?_)
    · have hno : (decide (g1.length + 1 ≤ 256) && decide (t0 = thing0)) = false := by simpa only [Bool.not_eq_true'] using hc
      rw [hno, Bool.false_and]
      refine Zh ?_
      exact Zd
    have hyes : (decide (g1.length + 1 ≤ 256) && decide (t0 = thing0)) = true := by simpa only [Bool.not_eq_false'] using hc
    rw [hyes, Bool.true_and]
    have hl2 : g1.length + 1 ≤ 256 := by simp at hyes; omega
    refine Z4i ?_
    refine ao1 (by decide) (o_tailp (ys := g1.map eThing) rfl (Bd.some rfl rfl) (by simp) (things_len _) rfl) ?_
    refine Z2z ?_
    refine aw_loop (G := Nat) (fun i => i ≤ g1.length ∧ ∀ k, k < i → gokB (t0 :: g1) k = true) (fun i => [(0, .pl ((t0 :: g1).map eThing)), (21, .pl (g1.map eThing)), (22, .int .i64 ((g1.map eThing).length : Int)), (23, .int .i64 (i : Int))]) (fun _ => H ++ []) (fun i => g1.length - i) 0 ⟨Nat.zero_le _, fun k hk => by omega⟩ (by repeat (first | exact Sub.nil | refine Sub.cons (by first | rfl | (simp [get]; done)) ?_)) (Fit.refl _ _) ?_
    rintro i ⟨hi, hno⟩
    refine Z30 ?_
    refine aw_cond rfl (fun hc => ?_) (fun hc => ?_)
    · have hlt : i < g1.length := by simpa using hc
      obtain ⟨t, ht, htl⟩ := get_in hlt
      have hr := map_get eThing ht
      have hB2 := gokB_get (g := t0 :: g1) (i := i) (t := t) ht
      refine Z4v ?_
      refine Z4w ?_
      refine Z4x ?_
      refine Z3 ?_
      refine Z4y ?_
      refine Z5 ?_
      have hno0 := hno
      clear hr htl ht hno hc
      by_cases hup : 0 ≤ t.up ∧ t.up ≤ (i : Int)
      · obtain ⟨u, hu, _⟩ := get_in (l := t0 :: g1) (k := t.up.toNat) (by simp only [List.length_cons]; omega)
        have hr1 := map_get eThing hu
        have hk : kindAt (t0 :: g1) t.up.toNat = u.kind := by rw [kindAt, hu]
        rw [hk] at hB2
        clear hu hk hyes hl
        refine Z1 ?_
        refine aw_of_out 64 (.bool (!gokB (t0 :: g1) i)) ?_ ?_
        · refine Z4z ?_
          refine Z50 ?_
          refine Z51 ?_
          refine Z52 ?_
          refine Z43 ?_
          refine aq_split (g := 31) rfl (fun hg3 => ?_) (fun hg3 => ?_)
          · refine Z53 ?_
            refine Z54 ?_
            refine Z55 ?_
            refine Z56 ?_
            refine Z57 ?_
            refine Z58 ?_
            refine Z59 ?_
            refine Z5a ?_
            refine Z5b ?_
            refine Z5c ?_
            refine Z5d ?_
            refine Z5e ?_
            refine Z5f ?_
            refine Z5g ?_
            refine Z5h ?_
            refine Z5i ?_
            refine Z5j ?_
            refine Z5k ?_
            refine Z5l ?_
            refine Z5m ?_
            refine Z5n ?_
            refine Z5o ?_
            refine Z5x ?_
            exact Z5y
          · refine Z5z ?_
            refine Z60 ?_
            refine Z61 ?_
            refine Z62 ?_
            refine Z57 ?_
            refine aq_split (g := 37) rfl (fun hg9 => ?_) (fun hg9 => ?_)
            · refine Z58 ?_
              refine Z59 ?_
              refine Z5a ?_
              refine Z5b ?_
              refine Z5c ?_
              refine Z5d ?_
              refine Z5e ?_
              refine Z5f ?_
              refine Z5g ?_
              refine Z5h ?_
              refine Z5i ?_
              refine Z5j ?_
              refine Z5k ?_
              refine Z5l ?_
              refine Z5m ?_
              refine Z5n ?_
              refine Z5o ?_
              refine Z5x ?_
              exact Z5y
            · first | refine aqyp (g := 37) 10 rfl (by decide +kernel) (by decide) rfl rfl (fun G => w_fieldAddr rfl (lk rfl rfl) rfl (by decide)) ?_ | refine aqyp (g := 37) 10 rfl (by decide +kernel) (by decide) rfl rfl (fun G => w_fieldAddrp rfl (by decide)) ?_ | refine aqyp (g := 37) 10 rfl (by decide +kernel) (by decide) rfl rfl (fun G => w_fieldAddr rfl (lkF hF) rfl (by decide)) ?_
              first | refine aqyp (g := 37) 11 rfl (by decide +kernel) (by decide) rfl rfl (fun G => w_load1 (v := .int _ _) rfl (lk rfl rfl) rfl rfl rfl) ?_ | refine aqyp (g := 37) 11 rfl (by decide +kernel) (by decide) rfl rfl (fun G => w_load1 (v := .int _ _) rfl (lk rfl rfl) rfl (zadd hr) rfl) ?_ | refine aqyp (g := 37) 11 rfl (by decide +kernel) (by decide) rfl rfl (fun G => w_load1 (v := .int _ _) rfl (lk rfl rfl) rfl (zadd hr1) rfl) ?_ | refine aqyp (g := 37) 11 rfl (by decide +kernel) (by decide) rfl rfl (fun G => w_load1 (v := .int _ _) rfl (lk rfl rfl) rfl (zadd hr2) rfl) ?_ | refine aqyp (g := 37) 11 rfl (by decide +kernel) (by decide) rfl rfl (fun G => o_load1p (v := .int _ _) rfl hr rfl) ?_ | refine aqyp (g := 37) 11 rfl (by decide +kernel) (by decide) rfl rfl (fun G => o_load1p (v := .int _ _) rfl hr1 rfl) ?_ | refine aqyp (g := 37) 11 rfl (by decide +kernel) (by decide) rfl rfl (fun G => o_load1p (v := .int _ _) rfl hr2 rfl) ?_ | refine aqyp (g := 37) 11 rfl (by decide +kernel) (by decide) rfl rfl (fun G => w_load1 (v := .int _ _) rfl (lkF hF) rfl rfl rfl) ?_
              first | refine aqy0 (g := 37) 12 rfl (by decide +kernel) (by decide) rfl rfl (fun _ => o_move (v := .sl _ _ _ _ _) rfl) ?_ | refine aqy0 (g := 37) 12 rfl (by decide +kernel) (by decide) rfl rfl (fun _ => o_move (v := .pl _) rfl) ?_ | refine aqy0 (g := 37) 12 rfl (by decide +kernel) (by decide) rfl rfl (fun _ => o_move (v := .nsl) rfl) ?_
              first | refine aqyp (g := 37) 13 rfl (by decide +kernel) (by decide) rfl rfl (fun G => w_fieldAddr rfl (lk rfl rfl) rfl (by decide)) ?_ | refine aqyp (g := 37) 13 rfl (by decide +kernel) (by decide) rfl rfl (fun G => w_fieldAddrp rfl (by decide)) ?_ | refine aqyp (g := 37) 13 rfl (by decide +kernel) (by decide) rfl rfl (fun G => w_fieldAddr rfl (lkF hF) rfl (by decide)) ?_
              first | refine aqyp (g := 37) 14 rfl (by decide +kernel) (by decide) rfl rfl (fun G => w_load1 (v := .int _ _) rfl (lk rfl rfl) rfl rfl rfl) ?_ | refine aqyp (g := 37) 14 rfl (by decide +kernel) (by decide) rfl rfl (fun G => w_load1 (v := .int _ _) rfl (lk rfl rfl) rfl (zadd hr) rfl) ?_ | refine aqyp (g := 37) 14 rfl (by decide +kernel) (by decide) rfl rfl (fun G => w_load1 (v := .int _ _) rfl (lk rfl rfl) rfl (zadd hr1) rfl) ?_ | refine aqyp (g := 37) 14 rfl (by decide +kernel) (by decide) rfl rfl (fun G => w_load1 (v := .int _ _) rfl (lk rfl rfl) rfl (zadd hr2) rfl) ?_ | refine aqyp (g := 37) 14 rfl (by decide +kernel) (by decide) rfl rfl (fun G => o_load1p (v := .int _ _) rfl hr rfl) ?_ | refine aqyp (g := 37) 14 rfl (by decide +kernel) (by decide) rfl rfl (fun G => o_load1p (v := .int _ _) rfl hr1 rfl) ?_ | refine aqyp (g := 37) 14 rfl (by decide +kernel) (by decide) rfl rfl (fun G => o_load1p (v := .int _ _) rfl hr2 rfl) ?_ | refine aqyp (g := 37) 14 rfl (by decide +kernel) (by decide) rfl rfl (fun G => w_load1 (v := .int _ _) rfl (lkF hF) rfl rfl rfl) ?_
              refine aqyp (g := 37) 15 rfl (by decide +kernel) (by decide) rfl rfl (fun G => w_indexAddrp rfl rfl hup.1 hr1 rfl) ?_
              first | refine aqyp (g := 37) 16 rfl (by decide +kernel) (by decide) rfl rfl (fun G => w_fieldAddr rfl (lk rfl rfl) rfl (by decide)) ?_ | refine aqyp (g := 37) 16 rfl (by decide +kernel) (by decide) rfl rfl (fun G => w_fieldAddrp rfl (by decide)) ?_ | refine aqyp (g := 37) 16 rfl (by decide +kernel) (by decide) rfl rfl (fun G => w_fieldAddr rfl (lkF hF) rfl (by decide)) ?_
              refine aqyp (g := 37) 17 rfl (by decide +kernel) (by decide) rfl rfl (fun G => o_load1p (v := .int _ _) rfl hr1 rfl) ?_
              refine aqy02 (g := 37) 18 rfl (by decide +kernel) (by decide) rfl rfl (fun _ => V2.call (graph_part _ _ _) rfl) ?_
              refine aqy0 (g := 37) 19 rfl (by decide +kernel) (by decide) rfl rfl (fun _ => o_not rfl) ?_
              refine Z5i ?_
              refine Z5j ?_
              refine aq_split (g := 49) rfl (fun hg21 => ?_) (fun hg21 => ?_)
              · refine Z5k ?_
                refine Z5l ?_
                refine Z5m ?_
                refine Z5n ?_
                refine Z5o ?_
                refine Z5x ?_
                exact Z5y
              · first | refine aqyp (g := 49) 22 rfl (by decide +kernel) (by decide) rfl rfl (fun G => w_fieldAddr rfl (lk rfl rfl) rfl (by decide)) ?_ | refine aqyp (g := 49) 22 rfl (by decide +kernel) (by decide) rfl rfl (fun G => w_fieldAddrp rfl (by decide)) ?_ | refine aqyp (g := 49) 22 rfl (by decide +kernel) (by decide) rfl rfl (fun G => w_fieldAddr rfl (lkF hF) rfl (by decide)) ?_
                first | refine aqyp (g := 49) 23 rfl (by decide +kernel) (by decide) rfl rfl (fun G => w_load1 (v := .str _) rfl (lk rfl rfl) rfl rfl rfl) ?_ | refine aqyp (g := 49) 23 rfl (by decide +kernel) (by decide) rfl rfl (fun G => w_load1 (v := .str _) rfl (lk rfl rfl) rfl (zadd hr) rfl) ?_ | refine aqyp (g := 49) 23 rfl (by decide +kernel) (by decide) rfl rfl (fun G => w_load1 (v := .str _) rfl (lk rfl rfl) rfl (zadd hr1) rfl) ?_ | refine aqyp (g := 49) 23 rfl (by decide +kernel) (by decide) rfl rfl (fun G => w_load1 (v := .str _) rfl (lk rfl rfl) rfl (zadd hr2) rfl) ?_ | refine aqyp (g := 49) 23 rfl (by decide +kernel) (by decide) rfl rfl (fun G => o_load1p (v := .str _) rfl hr rfl) ?_ | refine aqyp (g := 49) 23 rfl (by decide +kernel) (by decide) rfl rfl (fun G => o_load1p (v := .str _) rfl hr1 rfl) ?_ | refine aqyp (g := 49) 23 rfl (by decide +kernel) (by decide) rfl rfl (fun G => o_load1p (v := .str _) rfl hr2 rfl) ?_ | refine aqyp (g := 49) 23 rfl (by decide +kernel) (by decide) rfl rfl (fun G => w_load1 (v := .str _) rfl (lkF hF) rfl rfl rfl) ?_
                refine aqy02 (g := 49) 24 rfl (by decide +kernel) (by decide) rfl rfl (fun _ => V2.call (graph_Tag _ _) rfl) ?_
                refine aqy0 (g := 49) 25 rfl (by decide +kernel) (by decide) rfl rfl (fun _ => o_not rfl) ?_
                refine Z5o ?_
                refine aq_split (g := 55) rfl (fun hg27 => ?_) (fun hg27 => ?_)
                · refine Z5x ?_
                  exact Z5y
                · first | refine aqyp (g := 55) 28 rfl (by decide +kernel) (by decide) rfl rfl (fun G => w_fieldAddr rfl (lk rfl rfl) rfl (by decide)) ?_ | refine aqyp (g := 55) 28 rfl (by decide +kernel) (by decide) rfl rfl (fun G => w_fieldAddrp rfl (by decide)) ?_ | refine aqyp (g := 55) 28 rfl (by decide +kernel) (by decide) rfl rfl (fun G => w_fieldAddr rfl (lkF hF) rfl (by decide)) ?_
                  first | refine aqyp (g := 55) 29 rfl (by decide +kernel) (by decide) rfl rfl (fun G => w_load1 (v := .str _) rfl (lk rfl rfl) rfl rfl rfl) ?_ | refine aqyp (g := 55) 29 rfl (by decide +kernel) (by decide) rfl rfl (fun G => w_load1 (v := .str _) rfl (lk rfl rfl) rfl (zadd hr) rfl) ?_ | refine aqyp (g := 55) 29 rfl (by decide +kernel) (by decide) rfl rfl (fun G => w_load1 (v := .str _) rfl (lk rfl rfl) rfl (zadd hr1) rfl) ?_ | refine aqyp (g := 55) 29 rfl (by decide +kernel) (by decide) rfl rfl (fun G => w_load1 (v := .str _) rfl (lk rfl rfl) rfl (zadd hr2) rfl) ?_ | refine aqyp (g := 55) 29 rfl (by decide +kernel) (by decide) rfl rfl (fun G => o_load1p (v := .str _) rfl hr rfl) ?_ | refine aqyp (g := 55) 29 rfl (by decide +kernel) (by decide) rfl rfl (fun G => o_load1p (v := .str _) rfl hr1 rfl) ?_ | refine aqyp (g := 55) 29 rfl (by decide +kernel) (by decide) rfl rfl (fun G => o_load1p (v := .str _) rfl hr2 rfl) ?_ | refine aqyp (g := 55) 29 rfl (by decide +kernel) (by decide) rfl rfl (fun G => w_load1 (v := .str _) rfl (lkF hF) rfl rfl rfl) ?_
                  refine aqy0 (g := 55) 30 rfl (by decide +kernel) (by decide) rfl rfl (fun _ => o_sned rfl rfl) ?_
                  refine aqy0 (g := 55) 31 rfl (by decide +kernel) (by decide) rfl rfl (fun _ => o_move (v := .bool _) rfl) ?_
                  refine aq_split (g := 59) rfl (fun hg31 => ?_) (fun hg31 => ?_)
                  · first | refine aqyp (g := 59) 32 rfl (by decide +kernel) (by decide) rfl rfl (fun G => w_fieldAddr rfl (lk rfl rfl) rfl (by decide)) ?_ | refine aqyp (g := 59) 32 rfl (by decide +kernel) (by decide) rfl rfl (fun G => w_fieldAddrp rfl (by decide)) ?_ | refine aqyp (g := 59) 32 rfl (by decide +kernel) (by decide) rfl rfl (fun G => w_fieldAddr rfl (lkF hF) rfl (by decide)) ?_
                    first | refine aqyp (g := 59) 33 rfl (by decide +kernel) (by decide) rfl rfl (fun G => w_load1 (v := .int _ _) rfl (lk rfl rfl) rfl rfl rfl) ?_ | refine aqyp (g := 59) 33 rfl (by decide +kernel) (by decide) rfl rfl (fun G => w_load1 (v := .int _ _) rfl (lk rfl rfl) rfl (zadd hr) rfl) ?_ | refine aqyp (g := 59) 33 rfl (by decide +kernel) (by decide) rfl rfl (fun G => w_load1 (v := .int _ _) rfl (lk rfl rfl) rfl (zadd hr1) rfl) ?_ | refine aqyp (g := 59) 33 rfl (by decide +kernel) (by decide) rfl rfl (fun G => w_load1 (v := .int _ _) rfl (lk rfl rfl) rfl (zadd hr2) rfl) ?_ | refine aqyp (g := 59) 33 rfl (by decide +kernel) (by decide) rfl rfl (fun G => o_load1p (v := .int _ _) rfl hr rfl) ?_ | refine aqyp (g := 59) 33 rfl (by decide +kernel) (by decide) rfl rfl (fun G => o_load1p (v := .int _ _) rfl hr1 rfl) ?_ | refine aqyp (g := 59) 33 rfl (by decide +kernel) (by decide) rfl rfl (fun G => o_load1p (v := .int _ _) rfl hr2 rfl) ?_ | refine aqyp (g := 59) 33 rfl (by decide +kernel) (by decide) rfl rfl (fun G => w_load1 (v := .int _ _) rfl (lkF hF) rfl rfl rfl) ?_
                    refine aqy0 (g := 59) 34 rfl (by decide +kernel) (by decide) rfl rfl (fun _ => o_ne rfl rfl) ?_
                    refine Z63 ?_
                    refine Z5w ?_
                    exact Z5y
                  · refine aqn0 (g := 59) 32 rfl (by decide +kernel) (by decide) rfl rfl rfl ?_
                    refine aqn0 (g := 59) 33 rfl (by decide +kernel) (by decide) rfl rfl rfl ?_
                    refine aqn0 (g := 59) 34 rfl (by decide +kernel) (by decide) rfl rfl rfl ?_
                    refine Z63 ?_
                    refine Z5w ?_
                    exact Z5y
        refine Z1 ?_
        refine aw_cond rfl (fun hc => ?_) (fun hc => ?_)
        · have hbad : gokB (t0 :: g1) i = false := by simpa only [Bool.not_eq_true'] using hc
          refine Zh ?_
          rw [allI_false hlt hbad]
          exact Zd
        · have hgood : gokB (t0 :: g1) i = true := by simpa only [Bool.not_eq_false'] using hc
          refine Z3s ?_
          refine ⟨i + 1, by omega, ⟨by omega, fun k hk => ?_⟩, (by repeat (first | exact Sub.nil | refine Sub.cons (by first | rfl | (simp [get]; done)) ?_)), Fit.loc hB (L := []) rfl (by repeat (first | exact EBel.nil | refine EBel.cons (by first | rfl | (simp [AV.bel, AV.bels, Lid]; done) | (simp [AV.bel, AV.bels, Lid]; omega)) ?_)) (fun o ho => by simp at ho)⟩
          rcases Nat.lt_or_eq_of_le (Nat.le_of_lt_succ hk) with h | h
          · exact hno0 k h
          · subst h; exact hgood
      · have hB3 : gokB (t0 :: g1) i = false := by
          rw [hB2]
          rcases Classical.not_and_iff_not_or_not.1 hup with h | h
          · rw [decide_eq_false h]; rfl
          · rw [decide_eq_false h]; simp
        clear hB2 hyes hl
        refine Z1 ?_
        refine aw_of_out 64 (.bool (!gokB (t0 :: g1) i)) ?_ ?_
        · refine Z4z ?_
          refine Z50 ?_
          refine Z51 ?_
          refine Z52 ?_
          refine Z43 ?_
          refine aq_split (g := 31) rfl (fun hg3 => ?_) (fun hg3 => ?_)
          · refine Z53 ?_
            refine Z54 ?_
            refine Z55 ?_
            refine Z56 ?_
            refine Z57 ?_
            refine Z58 ?_
            refine Z59 ?_
            refine Z5a ?_
            refine Z5b ?_
            refine Z5c ?_
            refine Z5d ?_
            refine Z5e ?_
            refine Z5f ?_
            refine Z5g ?_
            refine Z5h ?_
            refine Z5i ?_
            refine Z5j ?_
            refine Z5k ?_
            refine Z5l ?_
            refine Z5m ?_
            refine Z5n ?_
            refine Z5o ?_
            refine Z5x ?_
            exact Z64
          · refine Z5z ?_
            refine Z60 ?_
            refine Z61 ?_
            refine Z62 ?_
            refine Z57 ?_
            refine aq_split (g := 37) rfl (fun hg9 => ?_) (fun hg9 => ?_)
            · refine Z58 ?_
              refine Z59 ?_
              refine Z5a ?_
              refine Z5b ?_
              refine Z5c ?_
              refine Z5d ?_
              refine Z5e ?_
              refine Z5f ?_
              refine Z5g ?_
              refine Z5h ?_
              refine Z5i ?_
              refine Z5j ?_
              refine Z5k ?_
              refine Z5l ?_
              refine Z5m ?_
              refine Z5n ?_
              refine Z5o ?_
              refine Z5x ?_
              exact Z64
            · exfalso; simp at hg3 hg9; omega
        refine Z1 ?_
        refine aw_cond rfl (fun hc => ?_) (fun hc => ?_)
        · have hbad : gokB (t0 :: g1) i = false := by simpa only [Bool.not_eq_true'] using hc
          refine Zh ?_
          rw [allI_false hlt hbad]
          exact Zd
        · have hgood : gokB (t0 :: g1) i = true := by simpa only [Bool.not_eq_false'] using hc
          refine Z3s ?_
          refine ⟨i + 1, by omega, ⟨by omega, fun k hk => ?_⟩, (by repeat (first | exact Sub.nil | refine Sub.cons (by first | rfl | (simp [get]; done)) ?_)), Fit.loc hB (L := []) rfl (by repeat (first | exact EBel.nil | refine EBel.cons (by first | rfl | (simp [AV.bel, AV.bels, Lid]; done) | (simp [AV.bel, AV.bels, Lid]; omega)) ?_)) (fun o ho => by simp at ho)⟩
          rcases Nat.lt_or_eq_of_le (Nat.le_of_lt_succ hk) with h | h
          · exact hno0 k h
          · subst h; exact hgood
    · have : i = g1.length := by simp at hc; omega
      subst this
      refine Zh ?_
      rw [allI_true hno]
      exact Zd
end Go.Av

/-
  THE SCHEDULER's PARTS, plainly: what is under a thing, kinds, how things are.
-/
namespace Go.Av
set_option linter.unusedVariables false
set_option linter.unusedSimpArgs false

theorem gright_len {g : List Thing} (h : gright g = true) : 1 ≤ g.length ∧ g.length ≤ 256 := by
  simp only [gright, Bool.and_eq_true, decide_eq_true_eq] at h; exact ⟨h.1.1.1, h.1.1.2⟩
theorem gright_up {g : List Thing} (h : gright g = true) {j : Nat} {t : Thing} (ht : g[j]? = some t) : t.up < (j : Int) ∧ (0 ≤ t.up ∨ t.up = -1) := by
  simp only [gright, Bool.and_eq_true, decide_eq_true_eq] at h
  have hj : j < g.length := (List.getElem?_eq_some_iff.1 ht).1
  cases j with
  | zero => rw [h.1.2] at ht; cases ht; exact ⟨by decide, .inr rfl⟩
  | succ i =>
    have h2 := allI_get h.2 (k := i) (by omega)
    rw [gokB, ht] at h2
    simp only [Bool.and_eq_true, decide_eq_true_eq] at h2
    exact ⟨by omega, .inl h2.1.1.1.1⟩
theorem gright_kind {g : List Thing} (h : gright g = true) {j : Nat} {t : Thing} (ht : g[j]? = some t) : 0 ≤ t.kind ∧ t.kind ≤ 4 := by
  simp only [gright, Bool.and_eq_true, decide_eq_true_eq] at h
  have hj : j < g.length := (List.getElem?_eq_some_iff.1 ht).1
  cases j with
  | zero => rw [h.1.2] at ht; cases ht; exact ⟨by decide, by decide⟩
  | succ i =>
    have h2 := allI_get h.2 (k := i) (by omega)
    rw [gokB, ht] at h2
    simp only [Bool.and_eq_true, decide_eq_true_eq] at h2
    have h3 := h2.1.1.2
    simp only [gpart, Bool.or_eq_true, Bool.and_eq_true, decide_eq_true_eq] at h3
    omega

/-! ### under a thing -/
theorem uinL_len (g : List Thing) (n : Int) : ∀ k, (uinL g n k).length = k
  | 0 => rfl
  | k + 1 => by rw [uinL, List.length_append, uinL_len g n k]; rfl
theorem uinL_get (g : List Thing) (n : Int) {j k : Nat} (hj : j < k) : ∀ m, k ≤ m → (uinL g n m).getD j false = (uinL g n k).getD j false
  | 0, h => by omega
  | m + 1, h => by
    rcases Nat.lt_or_eq_of_le h with h1 | h1
    · rw [uinL, List.getD_eq_getElem?_getD, List.getElem?_append_left (by rw [uinL_len]; omega), ← List.getD_eq_getElem?_getD]
      exact uinL_get g n hj m (by omega)
    · rw [h1]
def uU (g : List Thing) (n : Int) (j : Nat) : Bool := (uinL g n g.length).getD j false
theorem uU_at {g : List Thing} {n : Int} {j : Nat} {t : Thing} (ht : g[j]? = some t) (hu : t.up < (j : Int)) : uU g n j = (decide ((j : Int) = n) || (decide (0 ≤ t.up) && uU g n t.up.toNat)) := by
  have hj : j < g.length := (List.getElem?_eq_some_iff.1 ht).1
  have e : upAt g j = t.up := by rw [upAt, ht]
  rw [uU, uinL_get g n (Nat.lt_succ_self j) g.length (by omega), uinL, List.getD_eq_getElem?_getD, List.getElem?_append_right (by rw [uinL_len]; exact Nat.le_refl _), uinL_len, Nat.sub_self, e]
  simp only [List.getElem?_cons_zero, Option.getD_some]
  by_cases h0 : 0 ≤ t.up
  · rw [uU, uinL_get g n (k := j) (by omega) g.length (by omega)]
  · rw [decide_eq_false h0, Bool.false_and, Bool.false_and]
/-- What stands in the row of bools ahead of round i. -/
def uAt (g : List Thing) (n : Int) (i j : Nat) : Bool := if j < i then uU g n j else decide ((j : Int) = n)
def uRow (g : List Thing) (n : Int) (i : Nat) : List (List AV) := (List.range g.length).map fun j => [AV.bool (uAt g n i j)]
theorem uRow_len (g : List Thing) (n : Int) (i : Nat) : (uRow g n i).length = g.length := by simp [uRow]
theorem uRow_get {g : List Thing} {n : Int} {i j : Nat} (h : j < g.length) : (uRow g n i)[j]? = some [AV.bool (uAt g n i j)] := by
  simp [uRow, h]
theorem uRow_set (g : List Thing) (n : Int) (i : Nat) : (uRow g n i).set i [AV.bool (uU g n i)] = uRow g n (i + 1) := by
  apply List.ext_getElem?
  intro j
  rw [List.getElem?_set]
  by_cases hj : j < g.length
  · rw [uRow_get hj]
    by_cases e : i = j
    · subst e; rw [if_pos rfl, if_pos (by rw [uRow_len]; exact hj), uRow_get hj, uAt, if_pos (by omega)]
    · rw [if_neg e, uRow_get hj]
      have : (j < i + 1) ↔ (j < i) := by omega
      simp only [uAt, this]
  · rw [List.getElem?_eq_none (by rw [uRow_len]; omega), List.getElem?_eq_none (by rw [uRow_len]; omega)]
    split
    · rw [if_neg (by rw [uRow_len]; omega)]
    · rfl
theorem uRow_zero {g : List Thing} {m : Nat} (h : m < g.length) : (List.replicate g.length [AV.bool false]).set m [AV.bool true] = uRow g m 0 := by
  apply List.ext_getElem?
  intro j
  rw [List.getElem?_set]
  by_cases hj : j < g.length
  · rw [uRow_get hj]
    by_cases e : m = j
    · subst e; simp [uAt, hj]
    · rw [if_neg e, List.getElem?_replicate, if_pos hj]
      have : ¬ ((j : Int) = (m : Int)) := by omega
      simp [uAt, this]
  · rw [List.getElem?_eq_none (l := uRow g m 0) (by rw [uRow_len]; omega), List.getElem?_replicate, if_neg hj]
    split
    · rw [if_neg (by simp; omega)]
    · rfl
theorem uRow_bel (k : Nat) (g : List Thing) (n : Int) (i : Nat) : ∀ r ∈ uRow g n i, AV.bels k r = true := by
  intro r hr
  simp only [uRow, List.mem_map, List.mem_range] at hr
  obtain ⟨j, _, rfl⟩ := hr
  rfl
theorem gunder_yes {g : List Thing} {n : Int} (h : gthere g n = true) : gunder g n = idx (uU g n) g.length := by rw [gunder, if_pos h]; rfl
end Go.Av

namespace Go.Av
open Go.Proofs
set_option maxRecDepth 10000
set_option linter.unusedSimpArgs false
set_option linter.unusedVariables false

theorem graph_there (g : List Thing) (n : Int) (H : Heap) (hl : g.length ≤ 9223372036854775807) : AC Tryd.prog 60 [.pl (g.map eThing), .int .i64 n] H (Ret (.bool (gthere g n)) H) := by
  refine AC.body (N := 17) [.tmp 4] Tryd.func60 rfl rfl rfl (Nat.le_of_ble_eq_true rfl) fun B hB => ?_
  refine Zh ?_
  refine aw_out 4 (.bool (gthere g n)) ?_ ?_
  · refine Za ?_
    refine Z1s ?_
    refine ao_split rfl rfl (fun hg2 => ?_) (fun hg2 => ?_)
    · refine Zl ?_
      refine Z4u ?_
      refine Zm ?_
      refine Z27 ?_
      refine ao_split rfl rfl (fun hg8 => ?_) (fun hg8 => ?_)
      · refine Z4s ?_
        refine ao_y rfl rfl (by decide) (V2.call (graph_Right _ _ (by assumption)) rfl) ?_
        refine Zo ?_
        exact Z65
      · refine Zt ?_
        exact Z65
    · refine Z3c ?_
      refine Z27 ?_
      refine Zt ?_
      exact Z65
  exact Z1o
set_option maxHeartbeats 0 in
theorem graph_Under (g : List Thing) (n : Int) (H : Heap) (hl : g.length ≤ 9223372036854775807) : AC Tryd.prog 40 [.pl (g.map eThing), .int .i64 n] H (Ret (.pl ((gunder g n).map eInt)) H) := by
  have hbel : ∀ (b i : Nat) (n : Int) (l : List Int), ∀ o ∈ [AObj.mk 0 1 (uRow g n i), AObj.mk l.length 1 (l.map eInt)], ∀ r ∈ o.rows, AV.bels b r = true := by
    intro b i n l o ho r hr
    simp only [List.mem_cons, List.not_mem_nil, or_false] at ho
    rcases ho with rfl | rfl
    · exact uRow_bel _ _ _ _ r hr
    · exact ints_bel _ _ r hr
  refine AC.body (N := 55) [.tmp 4] Tryd.func40 rfl rfl rfl (Nat.le_of_ble_eq_true rfl) fun B hB => ?_
  refine Z4n ?_
  refine Za ?_
  refine ao_ret (graph_there _ _ _ (by assumption)) rfl (by decide) ?_
  refine Z2k ?_
  refine aw_cond rfl (fun hc => ?_) (fun hc => ?_)
  · have hno : gthere g n = false := by simpa only [Bool.not_eq_true'] using hc
    rw [show gunder g n = [] by rw [gunder, hno]; rfl]
    refine Z2q ?_
    refine aw_nslpl 4 rfl ?_
    exact aw_ret (e_done hB (r_tmp rfl .nil) rfl rfl)
  have hyes : gthere g n = true := by simpa only [Bool.not_eq_false'] using hc
  rw [gunder_yes hyes]
  obtain ⟨m, rfl⟩ : ∃ m : Nat, n = m := ⟨n.toNat, by simp only [gthere, Bool.and_eq_true, decide_eq_true_eq] at hyes; omega⟩
  have hm : m < g.length := by simp only [gthere, Bool.and_eq_true, decide_eq_true_eq] at hyes; omega
  have hg : gright g = true := by simp only [gthere, Bool.and_eq_true, decide_eq_true_eq] at hyes; exact hyes.2
  have hlen := gright_len hg
  have hml : (g.map eThing).length = g.length := by simp
  refine Z4i ?_
  refine Z14 ?_
  refine ao2 (by rintro _ ⟨⟩; decide) (o_makeSliceL (n := g.length) (c := g.length) (bytes := 1) rfl (by decide) (congrArg (fun k : Nat => AV.int .i64 (k : Int)) hml) (congrArg (fun k : Nat => AV.int .i64 (k : Int)) hml) (Nat.le_refl _) (by omega) (by omega) rfl) ?_
  refine Z4m ?_
  have hrow : (List.replicate g.length [AV.bool false])[0 + m]? = some [.bool false] := by rw [Nat.zero_add, List.getElem?_replicate, if_pos hm]
  refine Z4j ?_
  refine Z66 ?_
  refine ao2 (by rintro _ ⟨⟩) (w_storeP (sz := 1) (v := .bool _) (r' := [.bool true]) rfl rfl rfl rfl hrow rfl rfl rfl (by show _ ≤ 1; omega) rfl) ?_
  refine Z5 ?_
  rw [Nat.zero_add, uRow_zero hm]
  clear hrow hc
  refine Z2q ?_
  refine aw_ghostL (k := 1) 6 1 rfl (by decide) rfl ?_
  refine Z67 ?_
  refine aw_loop (G := Nat) (fun i => i ≤ g.length) (fun i => [(5, .sl (Lid H.length 0) 0 0 g.length g.length), (6, .sl (Lid H.length 1) (idx (uU g m) i).length 0 (idx (uU g m) i).length (idx (uU g m) i).length), (19, .pl (g.map eThing)), (20, .int .i64 ((g.map eThing).length : Int)), (21, .int .i64 (i : Int))]) (fun i => H ++ [⟨0, 1, uRow g m i⟩, ⟨(idx (uU g m) i).length, 1, (idx (uU g m) i).map eInt⟩]) (fun i => g.length - i) 0 (Nat.zero_le _) (by repeat (first | exact Sub.nil | refine Sub.cons (by first | rfl | (simp [get]; done)) ?_)) (Fit.refl _ _) ?_
  intro i hi
  refine Z30 ?_
  refine aw_cond rfl (fun hc => ?_) (fun hc => ?_)
  · have hlt : i < g.length := by simpa using hc
    obtain ⟨t, ht, htl⟩ := get_in hlt
    have hr := map_get eThing ht
    obtain ⟨hu1, hu2⟩ := gright_up hg ht
    have hat := uU_at (n := (m : Int)) ht hu1
    have hrow0 : (uRow g (m : Int) i)[0 + i]? = some [.bool (decide ((i : Int) = (m : Int)))] := by rw [Nat.zero_add, uRow_get hlt, uAt, if_neg (Nat.lt_irrefl _)]
    have hset := uRow_set g (m : Int) i
    have hstep := idx_succ (uU g (m : Int)) i
    have hil := idx_len (uU g (m : Int)) i
    have hrow1 : (uRow g (m : Int) (i + 1))[0 + i]? = some [.bool (uU g (m : Int) i)] := by rw [Nat.zero_add, uRow_get hlt, uAt, if_pos (Nat.lt_succ_self _)]
    refine Z4v ?_
    refine Z4w ?_
    refine Z4x ?_
    refine Z3 ?_
    refine Z4y ?_
    refine Z5 ?_
    clear hr ht htl hc
    refine Z1 ?_
    refine aw_joinQ ([(5, .sl (Lid H.length 0) 0 0 g.length g.length), (6, .sl (Lid H.length 1) (idx (uU g m) i).length 0 (idx (uU g m) i).length (idx (uU g m) i).length), (7, .int .i64 (i : Int)), (19, .pl (g.map eThing)), (20, .int .i64 ((g.map eThing).length : Int)), (21, .int .i64 (i : Int))]) (H ++ [⟨0, 1, uRow g m (i + 1)⟩, ⟨(idx (uU g m) i).length, 1, (idx (uU g m) i).map eInt⟩, ⟨0, 3, [eThing t]⟩]) ?_ ?_
    · by_cases hup : 0 ≤ t.up
      · have hrow2 := uRow_get (g := g) (n := (m : Int)) (i := i) (j := t.up.toNat) (by omega)
        rw [uAt, if_pos (by omega), ← Nat.zero_add t.up.toNat] at hrow2
        refine Z4j ?_
        refine Z68 ?_
        refine Z66 ?_
        refine Z69 ?_
        refine Zj ?_
        refine ao_split rfl rfl (fun hg6 => ?_) (fun hg6 => ?_)
        · refine Z33 ?_
          refine Z6c ?_
          refine Z6a ?_
          refine Z2b ?_
          refine Zn ?_
          refine Z66 ?_
          refine Z6d ?_
          refine ao_nil ?_
          (rw [Nat.zero_add, hset]; exact join_nrm (by repeat (first | exact Sub.nil | refine Sub.cons (by first | rfl | (simp [get]; done)) ?_)) (.inl rfl))
        · refine Z25 ?_
          refine Z35 ?_
          refine Z2h ?_
          refine ao_split rfl rfl (fun hg10 => ?_) (fun hg10 => ?_)
          · refine Z4s ?_
            refine Z25 ?_
            refine ao_y1 rfl rfl (by decide) (w_indexAddr rfl (lk rfl rfl) rfl rfl rfl hup (by omega)) ?_
            refine ao_y1 rfl rfl (by decide) (w_load1 (v := .bool _) rfl (lk rfl rfl) rfl hrow2 rfl) ?_
            refine Z6e ?_
            refine Zn ?_
            refine Z66 ?_
            refine Z6d ?_
            refine ao_nil ?_
            (rw [Nat.zero_add, hset]; exact join_nrm (by repeat (first | exact Sub.nil | refine Sub.cons (by first | rfl | (simp [get]; done)) ?_)) (.inl rfl))
          · refine Zs ?_
            refine Z1m ?_
            refine Z6e ?_
            refine Zn ?_
            refine Z66 ?_
            refine Z6d ?_
            refine ao_nil ?_
            (rw [Nat.zero_add, hset]; exact join_nrm (by repeat (first | exact Sub.nil | refine Sub.cons (by first | rfl | (simp [get]; done)) ?_)) (.inl rfl))
      · refine Z4j ?_
        refine Z68 ?_
        refine Z66 ?_
        refine Z69 ?_
        refine Zj ?_
        refine ao_split rfl rfl (fun hg6 => ?_) (fun hg6 => ?_)
        · refine Z33 ?_
          refine Z6c ?_
          refine Z6a ?_
          refine Z2b ?_
          refine Zn ?_
          refine Z66 ?_
          refine Z6d ?_
          refine ao_nil ?_
          (rw [Nat.zero_add, hset]; exact join_nrm (by repeat (first | exact Sub.nil | refine Sub.cons (by first | rfl | (simp [get]; done)) ?_)) (.inl rfl))
        · refine Z25 ?_
          refine Z35 ?_
          refine Z2h ?_
          refine ao_split rfl rfl (fun hg10 => ?_) (fun hg10 => ?_)
          · exfalso; simp at hg10; omega
          · refine Zs ?_
            refine Z1m ?_
            refine Z6e ?_
            refine Zn ?_
            refine Z66 ?_
            refine Z6d ?_
            refine ao_nil ?_
            (rw [Nat.zero_add, hset]; exact join_nrm (by repeat (first | exact Sub.nil | refine Sub.cons (by first | rfl | (simp [get]; done)) ?_)) (.inl rfl))
    refine Z4j ?_
    refine Z66 ?_
    refine ao1 (by decide) (w_load1 (v := .bool _) rfl (lk rfl rfl) rfl hrow1 rfl) ?_
    refine Zb ?_
    refine aw_cond rfl (fun hc => ?_) (fun hc => ?_)
    · refine Z4j ?_
      refine Z4k ?_
      refine Z4l ?_
      refine Z4m ?_
      rw [show ((idx (uU g (m : Int)) i).map eInt).take (idx (uU g (m : Int)) i).length = (idx (uU g (m : Int)) i).map eInt from List.take_of_length_le (by simp)]
      refine Z3s ?_
      refine ⟨i + 1, by omega, by omega, by rw [hstep, if_pos hc, List.length_append]; exact (by repeat (first | exact Sub.nil | refine Sub.cons (by first | rfl | (simp [get]; done)) ?_)), Fit.loc hB (by rw [hstep, if_pos hc]; simp only [List.length_append, List.length_cons, List.length_nil, List.map_append, List.map_cons, List.map_nil]; rfl) (by repeat (first | exact EBel.nil | refine EBel.cons (by first | rfl | (simp [AV.bel, AV.bels, Lid]; done) | (simp [AV.bel, AV.bels, Lid]; omega)) ?_)) (hbel _ _ _ _)⟩
    · refine Z3s ?_
      refine ⟨i + 1, by omega, by omega, by rw [hstep, if_neg (by simp [hc]), List.append_nil]; exact (by repeat (first | exact Sub.nil | refine Sub.cons (by first | rfl | (simp [get]; done)) ?_)), Fit.loc hB (L' := _) (G := [_]) (by rw [hstep, if_neg (by simp [hc]), List.append_nil]; rfl) (by repeat (first | exact EBel.nil | refine EBel.cons (by first | rfl | (simp [AV.bel, AV.bels, Lid]; done) | (simp [AV.bel, AV.bels, Lid]; omega)) ?_)) (hbel _ _ _ _)⟩
  · have : i = g.length := by simp at hc; omega
    subst this
    refine Z4i ?_
    refine Z4g ?_
    refine aw_freezeL (ys := (idx (uU g m) g.length).map eInt) 4 rfl rfl rfl rfl (by rw [List.drop_zero, List.take_of_length_le (by simp)]) (by simp) (ints_bel 0 _) ?_
    refine aw_ret ?_
    exact Zd
end Go.Av

/-
  THE SCHEDULER's PARTS, plainly: kinds counted one by one, the worst one by one.
-/
namespace Go.Av
set_option linter.unusedVariables false
set_option linter.unusedSimpArgs false

def kin (g : List Thing) (c : Int) (n : Int) : Bool := decide (n < (g.length : Int)) && decide (kindAt g n.toNat = c)
theorem kcnt_kin (g : List Thing) (l : List Int) (c : Int) : kcnt g l c = ((l.filter (kin g c)).length : Int) := rfl
theorem kcnt_step {g : List Thing} {l : List Int} {k : Nat} {x : Int} (hx : l[k]? = some x) (c : Int) : kcnt g (l.take (k + 1)) c = kcnt g (l.take k) c + if kin g c x then 1 else 0 := by
  rw [kcnt_kin, kcnt_kin, List.take_add_one, hx, List.filter_append, List.length_append]
  simp only [Option.toList_some, List.filter_cons, List.filter_nil]
  cases h : kin g c x <;> simp
theorem kcnt_le (g : List Thing) (l : List Int) (c : Int) : 0 ≤ kcnt g l c ∧ kcnt g l c ≤ (l.length : Int) := by
  have := List.length_filter_le (fun n => decide (n < (g.length : Int)) && decide (kindAt g n.toNat = c)) l
  rw [kcnt]; omega
abbrev eK5 (f : Nat → Int) : List AV := [.int .i64 (f 0), .int .i64 (f 1), .int .i64 (f 2), .int .i64 (f 3), .int .i64 (f 4)]
theorem eK5_get (f : Nat → Int) {c : Nat} (h : c < 5) : (eK5 f)[c]? = some (.int .i64 (f c)) := by
  rcases c with _ | _ | _ | _ | _ | c <;> first | rfl | omega
theorem eK5_set (f : Nat → Int) {c : Nat} (h : c < 5) (v : Int) : (eK5 f).take c ++ [.int .i64 v] ++ (eK5 f).drop (c + 1) = eK5 (fun j => if j = c then v else f j) := by
  rcases c with _ | _ | _ | _ | _ | c <;> first | rfl | omega
theorem eK5_congr {f h : Nat → Int} (e : ∀ j, j < 5 → f j = h j) : eK5 f = eK5 h := by
  simp only [eK5, e 0 (by decide), e 1 (by decide), e 2 (by decide), e 3 (by decide), e 4 (by decide)]
def kfun (g : List Thing) (l : List Int) (j : Nat) : Int := kcnt g l (j : Int)
theorem gkinds_yes {g : List Thing} {l : List Int} (h : gright g = true) (hs : sok l = true) : (gkinds g l).map (AV.int .i64) = eK5 (kfun g l) := by rw [gkinds, if_pos (by rw [h, hs]; rfl)]; rfl
theorem gkinds_no {g : List Thing} {l : List Int} (h : (gright g && sok l) = false) : (gkinds g l).map (AV.int .i64) = eK5 (fun _ => 0) := by rw [gkinds, if_neg (by rw [h]; decide)]; rfl

/-! ### the worst -/
theorem worstL_len (g : List Thing) (h : List Int) : ∀ k, (worstL g h k).length = k
  | 0 => rfl
  | k + 1 => by rw [worstL, List.length_append, worstL_len g h k]; rfl
theorem worstL_get (g : List Thing) (h : List Int) {j k : Nat} (hj : j < k) : ∀ m, k ≤ m → (worstL g h m).getD j 0 = (worstL g h k).getD j 0
  | 0, e => by omega
  | m + 1, e => by
    rcases Nat.lt_or_eq_of_le e with h1 | h1
    · rw [worstL, List.getD_eq_getElem?_getD, List.getElem?_append_left (by rw [worstL_len]; omega), ← List.getD_eq_getElem?_getD]
      exact worstL_get g h hj m (by omega)
    · rw [h1]
def wW (g : List Thing) (h : List Int) (j : Nat) : Int := (worstL g h g.length).getD j 0
theorem wW_at {g : List Thing} {h : List Int} {j : Nat} {t : Thing} (ht : g[j]? = some t) (hu : t.up < (j : Int)) : wW g h j = if 0 ≤ t.up then max (h.getD j 0) (wW g h t.up.toNat) else h.getD j 0 := by
  have hj : j < g.length := (List.getElem?_eq_some_iff.1 ht).1
  have e : upAt g j = t.up := by rw [upAt, ht]
  rw [wW, worstL_get g h (Nat.lt_succ_self j) g.length (by omega), worstL, List.getD_eq_getElem?_getD, List.getElem?_append_right (by rw [worstL_len]; exact Nat.le_refl _), worstL_len, Nat.sub_self, e]
  simp only [List.getElem?_cons_zero, Option.getD_some]
  by_cases h0 : 0 ≤ t.up
  · rw [if_pos h0, if_pos h0, wW, worstL_get g h (k := j) (by omega) g.length (by omega)]
  · rw [if_neg h0, if_neg h0]
def wAt (g : List Thing) (h : List Int) (i j : Nat) : Int := if j < i then wW g h j else h.getD j 0
def wRow (g : List Thing) (h : List Int) (i : Nat) : List Int := (List.range g.length).map (wAt g h i)
theorem wRow_len (g : List Thing) (h : List Int) (i : Nat) : (wRow g h i).length = g.length := by simp [wRow]
theorem wRow_get {g : List Thing} {h : List Int} {i j : Nat} (hj : j < g.length) : (wRow g h i)[j]? = some (wAt g h i j) := by simp [wRow, hj]
theorem wRow_set (g : List Thing) (h : List Int) (i : Nat) : (wRow g h i).set i (wW g h i) = wRow g h (i + 1) := by
  apply List.ext_getElem?
  intro j
  rw [List.getElem?_set]
  by_cases hj : j < g.length
  · rw [wRow_get hj]
    by_cases e : i = j
    · subst e; rw [if_pos rfl, if_pos (by rw [wRow_len]; exact hj), wRow_get hj, wAt, if_pos (by omega)]
    · rw [if_neg e, wRow_get hj]
      have : (j < i + 1) ↔ (j < i) := by omega
      simp only [wAt, this]
  · rw [List.getElem?_eq_none (by rw [wRow_len]; omega), List.getElem?_eq_none (by rw [wRow_len]; omega)]
    split
    · rw [if_neg (by rw [wRow_len]; omega)]
    · rfl
theorem wRow_zero {g : List Thing} {h : List Int} (e : h.length = g.length) : wRow g h 0 = h := by
  apply List.ext_getElem?
  intro j
  by_cases hj : j < g.length
  · rw [wRow_get hj, wAt, if_neg (by omega), List.getD_eq_getElem?_getD, List.getElem?_eq_getElem (by omega)]; rfl
  · rw [List.getElem?_eq_none (by rw [wRow_len]; omega), List.getElem?_eq_none (by omega)]
theorem wRow_same {g : List Thing} {h : List Int} {i : Nat} (e : wW g h i = h.getD i 0) : wRow g h (i + 1) = wRow g h i := by
  refine List.map_congr_left fun j _ => ?_
  simp only [wAt]
  by_cases h1 : j < i
  · rw [if_pos h1, if_pos (by omega)]
  · by_cases h2 : j = i
    · subst h2; rw [if_pos (by omega), if_neg (by omega), e]
    · rw [if_neg h1, if_neg (by omega)]
theorem wRow_all (g : List Thing) (h : List Int) : wRow g h g.length = worstL g h g.length := by
  apply List.ext_getElem?
  intro j
  by_cases hj : j < g.length
  · rw [wRow_get hj, wAt, if_pos hj, wW, List.getD_eq_getElem?_getD, List.getElem?_eq_getElem (by rw [worstL_len]; omega)]; rfl
  · rw [List.getElem?_eq_none (by rw [wRow_len]; omega), List.getElem?_eq_none (by rw [worstL_len]; omega)]
theorem worst_get {g : List Thing} {h : List Int} {k : Nat} {x : Int} (hx : (worstL g h g.length)[k]? = some x) : x = wW g h k := by
  rw [wW, List.getD_eq_getElem?_getD, hx]; rfl
theorem hright_parts {g : List Thing} {h : List Int} (e : hright g h = true) : gright g = true ∧ h.length = g.length ∧ (h.any fun n => decide (n < 0) || decide (2 < n)) = false := by
  simp only [hright, Bool.and_eq_true, decide_eq_true_eq, Bool.not_eq_true'] at e; exact ⟨e.1.1, e.1.2, e.2⟩
end Go.Av

namespace Go.Av
open Go.Proofs
set_option maxRecDepth 10000
set_option linter.unusedSimpArgs false
set_option linter.unusedVariables false

set_option maxHeartbeats 0 in
theorem graph_Kinds (g : List Thing) (l : List Int) (H : Heap) (hl : g.length ≤ 9223372036854775807) (hn : l.length ≤ 9223372036854775807) : AC Tryd.prog 11 [.pl (g.map eThing), .pl (l.map eInt)] H (Ret (.agg ((gkinds g l).map (AV.int .i64))) H) := by
  refine AC.body (N := 38) [.cell 4 30] Tryd.func11 rfl rfl rfl (Nat.le_of_ble_eq_true rfl) fun B hB => ?_
  refine Z2 ?_
  refine Z6f ?_
  refine Z6 ?_
  refine Z6f ?_
  refine Zb ?_
  refine aw_out 15 (.bool (!(gright g && sok l))) ?_ ?_
  · refine Z2s ?_
    refine Z6g ?_
    refine Z13 ?_
    refine Zj ?_
    refine ao_split rfl rfl (fun hg3 => ?_) (fun hg3 => ?_)
    · refine Z2d ?_
      refine Zn ?_
      exact Z6h
    · refine Z4s ?_
      refine Z6i ?_
      refine Z1l ?_
      refine Zn ?_
      exact Z6h
  refine Z1 ?_
  refine aw_cond rfl (fun hc => ?_) (fun hc => ?_)
  · have hno : (gright g && sok l) = false := by simpa only [Bool.not_eq_true'] using hc
    rw [gkinds_no hno]
    refine Z2 ?_
    refine Z6j ?_
    refine Z6k ?_
    exact Z6m
  have hyes : gright g = true ∧ sok l = true := by simpa only [Bool.not_eq_false', Bool.and_eq_true] using hc
  obtain ⟨hg, hs⟩ := hyes
  rw [gkinds_yes hg hs]
  clear hc
  have hlen := gright_len hg
  have hl2 := sok_256 hs
  refine Z67 ?_
  refine aw_loop (G := Nat) (fun k => k ≤ l.length) (fun k => [(0, .pl (g.map eThing)), (4, .pt (Lid H.length 0) 0 0 0), (5, .pt (Lid H.length 1) 0 0 0), (17, .pl (l.map eInt)), (18, .int .i64 (l.length : Int)), (19, .int .i64 (k : Int))]) (fun k => H ++ [⟨0, 5, [eK5 (fun _ => 0)]⟩, ⟨0, 5, [eK5 (kfun g (l.take k))]⟩]) (fun k => l.length - k) 0 (Nat.zero_le _) (by repeat (first | exact Sub.nil | refine Sub.cons (by first | rfl | (simp [get]; done)) ?_)) (.inl rfl) ?_
  intro k hk
  refine Z30 ?_
  refine aw_cond rfl (fun hc => ?_) (fun hc => ?_)
  · have hlt : k < l.length := by simpa using hc
    obtain ⟨x, hx, hxl⟩ := get_in hlt
    have hr := map_get eInt hx
    have hstep := fun c => kcnt_step (g := g) hx c
    have hx0 := sok_get_range hs hlt
    rw [show l[k] = x from Option.some.inj (by rw [← hx, List.getElem?_eq_getElem hlt])] at hx0
    refine Z32 ?_
    refine Z21 ?_
    refine Z7 ?_
    refine Za ?_
    refine Z2s ?_
    refine Z14 ?_
    refine Z17 ?_
    refine aw_cond rfl (fun hc => ?_) (fun hc => ?_)
    · have hxg : x < (g.length : Int) := by simpa using hc
      obtain ⟨t, ht, htl⟩ := get_in (l := g) (k := x.toNat) (by omega)
      have hr1 := map_get eThing ht
      obtain ⟨c, hcc, hc5⟩ : ∃ c : Nat, t.kind = c ∧ c < 5 := ⟨t.kind.toNat, by have := gright_kind hg ht; omega, by have := gright_kind hg ht; omega⟩
      have hb := kcnt_le g (l.take k) c
      have hb2 : (l.take k).length ≤ 256 := by rw [List.length_take]; omega
      have hcell : (eK5 (kfun g (l.take k)))[0 + c * 1]? = some (.int .i64 (kfun g (l.take k) c)) := by rw [Nat.zero_add, Nat.mul_one]; exact eK5_get _ hc5
      have hset : (eK5 (kfun g (l.take k))).take (0 + c * 1) ++ [AV.int .i64 (kfun g (l.take k) c + 1)] ++ (eK5 (kfun g (l.take k))).drop (0 + c * 1 + 1) = eK5 (kfun g (l.take (k + 1))) := by
        rw [Nat.zero_add, Nat.mul_one, eK5_set _ hc5]
        refine eK5_congr fun j _ => ?_
        simp only [kfun, hstep, kin, decide_eq_true hxg, Bool.true_and, show kindAt g x.toNat = (c : Int) by rw [kindAt, ht]; exact hcc]
        by_cases e : j = c
        · subst e; simp
        · have : ¬ (c : Int) = (j : Int) := by omega
          simp [e, this]
      refine Z4j ?_
      refine ao1 (by decide) (w_indexAddrp rfl rfl hx0.1 hr1 rfl) ?_
      refine Z20 ?_
      refine ao1 (by decide) (o_load1p (v := .int _ _) rfl hr1 rfl) ?_
      refine Z6n ?_
      refine Z6o ?_
      refine ao1 (by decide) (o_add (r := kfun g (l.take k) c + 1) rfl rfl (wrap64_ok (by simp only [kfun]; omega) (by simp only [kfun]; omega))) ?_
      refine Z6n ?_
      refine ao2 (by rintro _ ⟨⟩) (w_storeP (sz := 1) (v := .int .i64 _) (r' := eK5 (kfun g (l.take (k + 1)))) rfl rfl rfl rfl rfl rfl rfl rfl (by show _ ≤ 5; omega) hset) ?_
      refine Z6 ?_
      refine Z37 ?_
      exact ⟨k + 1, by omega, by omega, (by repeat (first | exact Sub.nil | refine Sub.cons (by first | rfl | (simp [get]; done)) ?_)), .refl _ _⟩
    · have hxg : ¬ x < (g.length : Int) := by simpa using hc
      refine Z3s ?_
      refine ⟨k + 1, by omega, by omega, (by repeat (first | exact Sub.nil | refine Sub.cons (by first | rfl | (simp [get]; done)) ?_)), .inl ?_⟩
      rw [show eK5 (kfun g (l.take (k + 1))) = eK5 (kfun g (l.take k)) from eK5_congr fun j _ => by simp [kfun, hstep, kin, hxg]]
  · have : k = l.length := by simp at hc; omega
    subst this
    refine Z2 ?_
    refine Z6j ?_
    refine Z6k ?_
    refine Zb ?_
    rw [List.take_length]
    exact Z6l
end Go.Av

namespace Go.Av
open Go.Proofs
set_option maxRecDepth 10000
set_option linter.unusedSimpArgs false
set_option linter.unusedVariables false

theorem slices_CloneT (l : List Thing) (H : Heap) (hn : l.length ≤ 1000000) : AC Tryd.prog 38 [.pl (l.map eThing)] H (Ret (.pl (l.map eThing)) H) := by
  refine AC.body (N := 8) [.tmp 2] Tryd.func38 rfl rfl rfl (Nat.le_of_ble_eq_true rfl) fun B hB => ?_
  refine Z2o ?_
  refine Z2p ?_
  refine ao_cons rfl (by rintro _ ⟨⟩; decide) (o_eqNil rfl rfl _ _ _ _) ?_ (fun _ _ h => h.elim)
  rintro _ _ ⟨nb, rfl, hnb, rfl⟩
  refine Zb ?_
  refine aw_cond rfl (fun hc => ?_) (fun hc => ?_)
  · subst hc
    have hb : l = [] := by
      cases l with
      | nil => rfl
      | cons x b => simp at hnb
    subst hb
    refine Z2q ?_
    refine aw_nslpl 2 rfl ?_
    exact aw_ret (e_done hB (r_tmp rfl .nil) rfl rfl)
  · refine Z2 ?_
    refine Z2r ?_
    refine Z2s ?_
    refine ao2 (by rintro _ ⟨⟩; decide) (g_append_new (sz := 3) (bytes := 32) rfl (Src.pl rfl (things_len l)) rfl (by decide) (by simp; omega) (by simp; omega) (things_bel 0 l)) ?_
    exact Z2u

/-- A clone that is written. -/
theorem slices_CloneO (l : List Int) (H : Heap) (hn : l.length ≤ 1000000) : AC Tryd.prog 78 [.pl (l.map eI)] H (Ret (.sl (Lid H.length 0) 0 0 l.length l.length) (H ++ [⟨0, 1, l.map eI⟩])) := by
  refine AC.body (N := 8) [.tmp 2] Tryd.func78 rfl rfl rfl (Nat.le_of_ble_eq_true rfl) fun B hB => ?_
  refine Z2o ?_
  refine Z2p ?_
  refine ao_cons rfl (by rintro _ ⟨⟩; decide) (o_eqNil rfl rfl _ _ _ _) ?_ (fun _ _ h => h.elim)
  rintro _ _ ⟨nb, rfl, hnb, rfl⟩
  refine Zb ?_
  refine aw_cond rfl (fun hc => ?_) (fun hc => ?_)
  · subst hc
    have hb : l = [] := by
      cases l with
      | nil => rfl
      | cons x b => simp at hnb
    subst hb
    refine Z2q ?_
    refine aw_ghostL (k := 0) 2 1 rfl (by decide) rfl ?_
    exact aw_ret (e_keep (G := []) hB (r_tmp rfl .nil) rfl rfl (by simp [AV.bel, Lid]) (by simp))
  · refine Z2 ?_
    refine Z2r ?_
    refine Z2s ?_
    refine ao2 (by rintro _ ⟨⟩; decide) (g_append_nsl rfl (Src.pl rfl (eI_len l)) rfl (by decide) (by simp; omega) (by simp; omega) rfl) ?_
    refine Z2t ?_
    exact e_keep (G := []) hB (r_tmp rfl .nil) (congrArg (fun n => AV.sl (Lid H.length 0) 0 0 n n) (show (l.map eI).length = l.length by simp)) (by simp) (by simp [AV.bel, Lid]) (by intro o ho r hr; simp only [List.mem_singleton] at ho; subst ho; exact eI_bel _ _ r hr)

theorem slices_IndexFuncI (F : Nat) [FnI Tryd.prog F] (p : Int → Bool) (hF : ∀ (x : Int) (H : Heap), AC Tryd.prog F [.int .i64 x] H (Ret (.bool (p x)) H)) (l : List Int) (H : Heap) (hl : l.length ≤ 1000000) : AC Tryd.prog 63 [.pl (l.map eI), .fn (.func F) [] []] H (Ret (.int .i64 (ixf p l)) H) := by
  refine AC.body (N := 19) [.tmp 4] Tryd.func63 rfl rfl rfl (Nat.le_of_ble_eq_true rfl) fun B hB => ?_
  refine Z8 ?_
  refine Z2s ?_
  refine Z2z ?_
  refine aw_loop (G := Nat) (fun k => k ≤ l.length ∧ ∀ y ∈ l.take k, p y = false) (fun k => [(0, .pl (l.map eI)), (1, .fn (.func F) [] []), (7, .int .i64 (l.length : Int)), (8, .int .i64 (k : Int))]) (fun _ => H ++ []) (fun k => l.length - k) 0 ⟨Nat.zero_le _, by simp⟩ (by repeat (first | exact Sub.nil | refine Sub.cons (by first | rfl | (simp [get]; done)) ?_)) (Fit.refl _ _) ?_
  rintro k ⟨hk, hno⟩
  refine Z30 ?_
  refine aw_cond rfl (fun hc => ?_) (fun hc => ?_)
  · have hlt : k < l.length := by simpa using hc
    obtain ⟨x, hx, hxl⟩ := get_in hlt
    have hr := map_get eI hx
    refine Zy ?_
    refine Z7 ?_
    refine Z1j ?_
    refine Z68 ?_
    refine Z31 ?_
    refine Z21 ?_
    refine ao2 (by rintro _ ⟨⟩; decide) (V2.callv (hF x _) rfl rfl) ?_
    refine Zb ?_
    refine aw_cond rfl (fun hc => ?_) (fun hc => ?_)
    · refine Z1k ?_
      rw [ixf_some hx hc hno]
      exact Zd
    · refine Z3s ?_
      refine ⟨k + 1, by omega, ⟨by omega, ?_⟩, (by repeat (first | exact Sub.nil | refine Sub.cons (by first | rfl | (simp [get]; done)) ?_)), .refl _ _⟩
      rw [take_snoc_get hx]
      intro y hy
      rcases List.mem_append.1 hy with h | h
      · exact hno y h
      · simp only [List.mem_singleton] at h
        subst h
        exact hc
  · have : k = l.length := by simp at hc; omega
    subst this
    rw [List.take_length] at hno
    rw [ixf_none hno]
    exact Z12
theorem slices_ContainsFuncI (F : Nat) [FnI Tryd.prog F] (p : Int → Bool) (hF : ∀ (x : Int) (H : Heap), AC Tryd.prog F [.int .i64 x] H (Ret (.bool (p x)) H)) (l : List Int) (H : Heap) (hl : l.length ≤ 1000000) : AC Tryd.prog 45 [.pl (l.map eI), .fn (.func F) [] []] H (Ret (.bool (l.any p)) H) := by
  refine AC.body (N := 9) [.tmp 4] Tryd.func45 rfl rfl rfl (Nat.le_of_ble_eq_true rfl) fun B hB => ?_
  refine Z3u ?_
  refine Z1j ?_
  refine ao2 (by rintro _ ⟨⟩; decide) (V2.call (slices_IndexFuncI F p hF l _ hl) rfl) ?_
  refine Z1h ?_
  refine Zg ?_
  rw [← ixf_nonneg]
  exact Zd
theorem health_Right_1 (n : Int) (H : Heap) : AC Tryd.prog 46 [.int .i64 n] H (Ret (.bool (decide (n < 0) || decide (2 < n))) H) := by
  refine AC.body (N := 9) [.tmp 2] Tryd.func46 rfl rfl rfl (Nat.le_of_ble_eq_true rfl) fun B hB => ?_
  refine Zh ?_
  refine aw_out 2 (.bool (decide (n < 0) || decide (2 < n))) ?_ ?_
  · refine Za ?_
    refine Zv ?_
    refine ao_split rfl rfl (fun hg2 => ?_) (fun hg2 => ?_)
    · refine Z2c ?_
      exact Zq
    · refine Zl ?_
      refine Z2f ?_
      exact Zq
  exact Z1o
theorem health_Right (g : List Thing) (h : List Int) (H : Heap) (hl : g.length ≤ 1000000) (hh : h.length ≤ 1000000) : AC Tryd.prog 24 [.pl (g.map eThing), .pl (h.map eI)] H (Ret (.bool (hright g h)) H) := by
  have hl2 : g.length ≤ 9223372036854775807 := by omega
  refine AC.body (N := 19) [.tmp 4] Tryd.func24 rfl rfl rfl (Nat.le_of_ble_eq_true rfl) fun B hB => ?_
  refine Zh ?_
  refine aw_out 4 (.bool (hright g h)) ?_ ?_
  · refine Z2s ?_
    refine Z6g ?_
    refine Zj ?_
    refine ao_split rfl rfl (fun hg2 => ?_) (fun hg2 => ?_)
    · refine Z4u ?_
      refine Z4u ?_
      refine Z3d ?_
      refine Z27 ?_
      refine ao_split rfl rfl (fun hg9 => ?_) (fun hg9 => ?_)
      · refine Z4s ?_
        refine ao_y rfl rfl (by decide) (V2.call (slices_ContainsFuncI 46 _ health_Right_1 h _ hh) rfl) ?_
        refine Z1l ?_
        refine Zo ?_
        exact Z6p
      · refine Z1n ?_
        exact Z6p
    · refine Zs ?_
      refine Z2a ?_
      exact Z6p
  exact Z1o
theorem health_New (g : List Thing) (H : Heap) (hl : g.length ≤ 1000000) : AC Tryd.prog 39 [.pl (g.map eThing)] H (Ret (.pl ((if gright g then List.replicate g.length (0 : Int) else []).map eI)) H) := by
  have hl2 : g.length ≤ 9223372036854775807 := by omega
  refine AC.body (N := 9) [.tmp 2] Tryd.func39 rfl rfl rfl (Nat.le_of_ble_eq_true rfl) fun B hB => ?_
  refine Z4n ?_
  refine Z6g ?_
  refine Z2k ?_
  refine aw_cond rfl (fun hc => ?_) (fun hc => ?_)
  · have hno : gright g = false := by simpa only [Bool.not_eq_true'] using hc
    rw [hno]
    refine Z2q ?_
    refine aw_nslpl 2 rfl ?_
    exact aw_ret (e_done hB (r_tmp rfl .nil) rfl rfl)
  have hyes : gright g = true := by simpa only [Bool.not_eq_false'] using hc
  rw [hyes, if_pos rfl]
  have hml : (g.map eThing).length = g.length := by simp
  refine Z4i ?_
  refine Z14 ?_
  refine ao2 (by rintro _ ⟨⟩; decide) (o_makeSliceL (n := g.length) (c := g.length) (bytes := 8) rfl (by decide) (congrArg (fun k : Nat => AV.int .i64 (k : Int)) hml) (congrArg (fun k : Nat => AV.int .i64 (k : Int)) hml) (Nat.le_refl _) (by omega) (by omega) rfl) ?_
  refine Z4g ?_
  refine aw_freezeL (ys := (List.replicate g.length (0 : Int)).map eI) 2 rfl rfl rfl rfl (by rw [List.drop_zero, List.take_of_length_le (by simp), List.map_replicate]) (by simp) (eI_bel 0 _) ?_
  refine aw_ret ?_
  exact Zd
theorem wRow_bel (k : Nat) (g : List Thing) (h : List Int) (i : Nat) : ∀ r ∈ (wRow g h i).map eI, AV.bels k r = true := eI_bel k _
set_option maxHeartbeats 0 in
theorem health_worst (g : List Thing) (h : List Int) (H : Heap) (hg : gright g = true) (hh : h.length = g.length) : AC Tryd.prog 61 [.pl (g.map eThing), .pl (h.map eI)] H (Ret (.pl ((worstL g h g.length).map eI)) H) := by
  have hlen := gright_len hg
  refine AC.body (N := 35) [.tmp 4] Tryd.func61 rfl rfl rfl (Nat.le_of_ble_eq_true rfl) fun B hB => ?_
  refine Z4n ?_
  refine ao2 (by rintro _ ⟨⟩; decide) (V2.callo (slices_CloneO h _ (by omega)) rfl rfl) ?_
  refine Z4m ?_
  rw [hh]
  refine Z67 ?_
  refine aw_loop (G := Nat) (fun i => i ≤ g.length) (fun i => [(5, .sl (Lid H.length 0) 0 0 g.length g.length), (10, .pl (g.map eThing)), (11, .int .i64 ((g.map eThing).length : Int)), (12, .int .i64 (i : Int))]) (fun i => H ++ [⟨0, 1, (wRow g h i).map eI⟩]) (fun i => g.length - i) 0 (Nat.zero_le _) (by repeat (first | exact Sub.nil | refine Sub.cons (by first | rfl | (simp [get]; done)) ?_)) (.inl (by rw [wRow_zero hh])) ?_
  intro i hi
  refine Z30 ?_
  refine aw_cond rfl (fun hc => ?_) (fun hc => ?_)
  · have hlt : i < g.length := by simpa using hc
    obtain ⟨t, ht, htl⟩ := get_in hlt
    have hr := map_get eThing ht
    obtain ⟨hu1, hu2⟩ := gright_up hg ht
    have hat := wW_at (h := h) ht hu1
    refine Z4v ?_
    refine Z4w ?_
    refine Z4x ?_
    refine Z3 ?_
    refine Z4y ?_
    refine Z6 ?_
    refine Z22 ?_
    refine Z1h ?_
    refine Z5 ?_
    clear hr
    refine Z1 ?_
    refine aw_cond rfl (fun hc => ?_) (fun hc => ?_)
    · have hup : 0 ≤ t.up := by simpa using hc
      rw [if_pos hup] at hat
      have hr0 : ((wRow g h i).map eI)[0 + i]? = some [.int .i64 (h.getD i 0)] := by rw [Nat.zero_add, List.getElem?_map, wRow_get hlt, wAt, if_neg (by omega)]; rfl
      have hr1 : ((wRow g h i).map eI)[0 + t.up.toNat]? = some [.int .i64 (wW g h t.up.toNat)] := by rw [Nat.zero_add, List.getElem?_map, wRow_get (by omega), wAt, if_pos (by omega)]; rfl
      have hset : ((wRow g h i).map eI).set (0 + i) [.int .i64 (wW g h i)] = (wRow g h (i + 1)).map eI := by rw [Nat.zero_add, ← wRow_set, List.map_set]
      refine Z1 ?_
      refine aw_drawP mixed (some 13) 2 ?_
      refine Z19 ?_
      first | refine aq0 0 rfl (by decide +kernel) (by decide) (fun _ => o_move (v := .sl _ _ _ _ _) rfl) ?_ | refine aq0 0 rfl (by decide +kernel) (by decide) (fun _ => o_move (v := .pl _) rfl) ?_ | refine aq0 0 rfl (by decide +kernel) (by decide) (fun _ => o_move (v := .nsl) rfl) ?_
      refine Z1b ?_
      first | refine aq0 2 rfl (by decide +kernel) (by decide) (fun _ => o_move (v := .sl _ _ _ _ _) rfl) ?_ | refine aq0 2 rfl (by decide +kernel) (by decide) (fun _ => o_move (v := .pl _) rfl) ?_ | refine aq0 2 rfl (by decide +kernel) (by decide) (fun _ => o_move (v := .nsl) rfl) ?_
      refine Z6q ?_
      refine aqp 4 rfl (by decide +kernel) (by decide) (fun G => w_indexAddrN rfl (lk rfl rfl) rfl rfl rfl (by omega)) ?_
      refine aqp 5 rfl (by decide +kernel) (by decide) (fun G => w_load1 (v := .int _ _) rfl (lk rfl rfl) rfl hr0 rfl) ?_
      refine Z6r ?_
      refine Z6s ?_
      first | refine aqp 8 rfl (by decide +kernel) (by decide) (fun G => w_load1 (v := .int _ _) rfl (lk rfl rfl) rfl rfl rfl) ?_ | refine aqp 8 rfl (by decide +kernel) (by decide) (fun G => w_load1 (v := .int _ _) rfl (lk rfl rfl) rfl (zadd hr) rfl) ?_ | refine aqp 8 rfl (by decide +kernel) (by decide) (fun G => w_load1 (v := .int _ _) rfl (lk rfl rfl) rfl (zadd hr1) rfl) ?_ | refine aqp 8 rfl (by decide +kernel) (by decide) (fun G => w_load1 (v := .int _ _) rfl (lk rfl rfl) rfl (zadd hr2) rfl) ?_ | refine aqp 8 rfl (by decide +kernel) (by decide) (fun G => o_load1p (v := .int _ _) rfl hr rfl) ?_ | refine aqp 8 rfl (by decide +kernel) (by decide) (fun G => o_load1p (v := .int _ _) rfl hr1 rfl) ?_ | refine aqp 8 rfl (by decide +kernel) (by decide) (fun G => o_load1p (v := .int _ _) rfl hr2 rfl) ?_ | refine aqp 8 rfl (by decide +kernel) (by decide) (fun G => w_load1 (v := .int _ _) rfl (lkF hF) rfl rfl rfl) ?_
      refine aqp 9 rfl (by decide +kernel) (by decide) (fun G => w_indexAddr rfl (lk rfl rfl) rfl rfl rfl hup (by omega)) ?_
      refine aqp 10 rfl (by decide +kernel) (by decide) (fun G => w_load1 (v := .int _ _) rfl (lk rfl rfl) rfl hr1 rfl) ?_
      refine aq0 11 rfl (by decide +kernel) (by decide) (fun _ => o_max (r := wW g h i) rfl rfl hat.symm) ?_
      refine aqp 12 rfl (by decide +kernel) (by decide) (fun G => w_indexAddrN rfl (lk rfl rfl) rfl rfl rfl (by omega)) ?_
      refine aqs 13 rfl (by decide +kernel) (by first | exact fun _ => trivial | exact fun _ => ⟨_, rfl⟩ | exact fun _ => ⟨_, rfl, rfl⟩ | exact fun _ => ⟨_, rfl, rfl, rfl⟩ | exact yet_done (by decide +kernel)) (by rintro _ ⟨⟩) (w_storeP (sz := 1) (v := .int _ _) (r' := [.int .i64 (wW g h i)]) rfl rfl rfl rfl hr0 rfl rfl rfl (by show _ ≤ 1; omega) rfl) ?_
      refine Z1d ?_
      rw [hset]
      refine Z3s ?_
      exact ⟨i + 1, by omega, by omega, (by repeat (first | exact Sub.nil | refine Sub.cons (by first | rfl | (simp [get]; done)) ?_)), Fit.loc hB rfl (by repeat (first | exact EBel.nil | refine EBel.cons (by first | rfl | (simp [AV.bel, AV.bels, Lid]; done) | (simp [AV.bel, AV.bels, Lid]; omega)) ?_)) (by intro o ho r hr; simp only [List.mem_singleton] at ho; subst ho; exact eI_bel _ _ r hr)⟩
    · have hup : ¬ 0 ≤ t.up := by simpa using hc
      rw [if_neg hup] at hat
      refine Z3s ?_
      refine ⟨i + 1, by omega, by omega, (by repeat (first | exact Sub.nil | refine Sub.cons (by first | rfl | (simp [get]; done)) ?_)), Fit.loc hB (G := [_]) (by rw [wRow_same hat]; rfl) (by repeat (first | exact EBel.nil | refine EBel.cons (by first | rfl | (simp [AV.bel, AV.bels, Lid]; done) | (simp [AV.bel, AV.bels, Lid]; omega)) ?_)) (by intro o ho r hr; simp only [List.mem_singleton] at ho; subst ho; exact eI_bel _ _ r hr)⟩
  · have : i = g.length := by simp at hc; omega
    subst this
    rw [wRow_all]
    refine Z4i ?_
    refine Z4g ?_
    refine aw_freezeL (ys := (worstL g h g.length).map eI) 4 rfl rfl rfl rfl (by rw [List.drop_zero, List.take_of_length_le (by simp [worstL_len])]) (by simp [worstL_len]) (eI_bel 0 _) ?_
    refine aw_ret ?_
    exact Zd
def hbP (g : List Thing) (h : List Int) (most : Int) (k : Nat) : Bool := decide ((worstL g h g.length).getD k 0 ≤ most)
set_option maxHeartbeats 0 in
theorem health_below (g : List Thing) (h : List Int) (most : Int) (H : Heap) (hl : g.length ≤ 1000000) (hh : h.length ≤ 1000000) : AC Tryd.prog 43 [.pl (g.map eThing), .pl (h.map eI), .int .i64 most] H (Ret (.pl ((hbelow g h most).map eI)) H) := by
  refine AC.body (N := 32) [.tmp 6] Tryd.func43 rfl rfl rfl (Nat.le_of_ble_eq_true rfl) fun B hB => ?_
  refine Z4o ?_
  refine Z6t ?_
  refine Z2k ?_
  refine aw_cond rfl (fun hc => ?_) (fun hc => ?_)
  · have hno : hright g h = false := by simpa only [Bool.not_eq_true'] using hc
    rw [show hbelow g h most = [] by rw [hbelow, hno]; rfl]
    refine Z2q ?_
    refine aw_nslpl 6 rfl ?_
    exact aw_ret (e_done hB (r_tmp rfl .nil) rfl rfl)
  have hyes : hright g h = true := by simpa only [Bool.not_eq_false'] using hc
  obtain ⟨hg, hh2, _⟩ := hright_parts hyes
  have hlen := gright_len hg
  rw [show hbelow g h most = idx (hbP g h most) g.length by rw [hbelow, hyes]; rfl]
  have hwl : ((worstL g h g.length).map eI).length = g.length := by rw [List.length_map, worstL_len]
  clear hc
  refine Z2q ?_
  refine aw_ghostL (k := 0) 7 1 rfl (by decide) rfl ?_
  refine Z4i ?_
  refine Z2s ?_
  refine ao_ret (health_worst _ _ _ (by assumption) (by assumption)) rfl (by decide) ?_
  refine Z2z ?_
  refine aw_loop (G := Nat) (fun i => i ≤ g.length) (fun i => [(2, .int .i64 most), (7, .sl (Lid H.length 0) (idx (hbP g h most) i).length 0 (idx (hbP g h most) i).length (idx (hbP g h most) i).length), (16, .pl ((worstL g h g.length).map eI)), (17, .int .i64 (((worstL g h g.length).map eI).length : Int)), (18, .int .i64 (i : Int))]) (fun i => H ++ [⟨(idx (hbP g h most) i).length, 1, (idx (hbP g h most) i).map eI⟩]) (fun i => g.length - i) 0 (Nat.zero_le _) (by repeat (first | exact Sub.nil | refine Sub.cons (by first | rfl | (simp [get]; done)) ?_)) (Fit.refl _ _) ?_
  intro i hi
  refine Z30 ?_
  refine aw_cond rfl (fun hc => ?_) (fun hc => ?_)
  · have hlt : i < g.length := by rw [hwl] at hc; simpa using hc
    obtain ⟨x, hx, hxl⟩ := get_in (l := worstL g h g.length) (k := i) (by rw [worstL_len]; exact hlt)
    have hr := map_get eI hx
    have hxw := worst_get hx
    have hstep := idx_succ (hbP g h most) i
    have hil := idx_len (hbP g h most) i
    have hP : hbP g h most i = decide (x ≤ most) := by rw [hbP, hxw]; rfl
    refine Z4v ?_
    refine Z21 ?_
    refine Z3 ?_
    refine Z7 ?_
    refine Z1t ?_
    refine Zi ?_
    refine Zb ?_
    refine aw_cond rfl (fun hc => ?_) (fun hc => ?_)
    · have hp : hbP g h most i = true := by rw [hP]; exact hc
      refine Z4j ?_
      refine Z4k ?_
      refine Z4l ?_
      refine Z4m ?_
      rw [show ((idx (hbP g h most) i).map eI).take (idx (hbP g h most) i).length = (idx (hbP g h most) i).map eI from List.take_of_length_le (by simp)]
      refine Z3s ?_
      refine ⟨i + 1, by omega, by omega, by rw [hstep, if_pos hp, List.length_append]; exact (by repeat (first | exact Sub.nil | refine Sub.cons (by first | rfl | (simp [get]; done)) ?_)), Fit.loc hB (by rw [hstep, if_pos hp]; simp only [List.length_append, List.length_cons, List.length_nil, List.map_append, List.map_cons, List.map_nil]; rfl) (by repeat (first | exact EBel.nil | refine EBel.cons (by first | rfl | (simp [AV.bel, AV.bels, Lid]; done) | (simp [AV.bel, AV.bels, Lid]; omega)) ?_)) (by intro o ho r hr; simp only [List.mem_singleton] at ho; subst ho; exact eI_bel _ _ r hr)⟩
    · have hp : ¬ hbP g h most i = true := by rw [hP]; simpa using hc
      refine Z3s ?_
      refine ⟨i + 1, by omega, by omega, by rw [hstep, if_neg hp, List.append_nil]; exact (by repeat (first | exact Sub.nil | refine Sub.cons (by first | rfl | (simp [get]; done)) ?_)), .inl (by rw [hstep, if_neg hp, List.append_nil])⟩
  · have : i = g.length := by rw [hwl] at hc; simp at hc; omega
    subst this
    refine Z4i ?_
    refine Z4g ?_
    refine aw_freezeL (ys := (idx (hbP g h most) g.length).map eI) 6 rfl rfl rfl rfl (by rw [List.drop_zero, List.take_of_length_le (by simp)]) (by simp) (eI_bel 0 _) ?_
    refine aw_ret ?_
    exact Zd
theorem health_Usable (g : List Thing) (h : List Int) (H : Heap) (hl : g.length ≤ 1000000) (hh : h.length ≤ 1000000) : AC Tryd.prog 20 [.pl (g.map eThing), .pl (h.map eI)] H (Ret (.pl ((hbelow g h 0).map eI)) H) := by
  refine AC.body (N := 8) [.tmp 4] Tryd.func20 rfl rfl rfl (Nat.le_of_ble_eq_true rfl) fun B hB => ?_
  refine Z4o ?_
  refine ao_ret (health_below _ _ _ _ (by omega) (by omega)) rfl (by decide) ?_
  exact Z2u
end Go.Av

/-
  THE SCHEDULER's PARTS, plainly: holdings, as1 walks meet them.
-/
namespace Go.Av
set_option linter.unusedVariables false
set_option linter.unusedSimpArgs false

abbrev eN (x : Int) : List AV := [.int .i64 x]
abbrev eHeld (h : Held) : List AV := [.int .i64 h.id, .pl (h.things.map eN), .int .i64 h.frm, .int .i64 h.to]
theorem helds_len (l : List Held) : ∀ r ∈ l.map eHeld, r.length = 4 := rows_len (e := eHeld) (n := 4) (fun _ => rfl) l
theorem helds_bel (n : Nat) (l : List Held) : ∀ r ∈ l.map eHeld, AV.bels n r = true := rows_bel (e := eHeld) (fun _ => rfl) l
theorem heldB_get {l : List Held} {i : Nat} {h : Held} (e : l[i]? = some h) : heldB l i = (hmay h && !(decide (0 < i) && decide (h.id ≤ heldId l (i - 1))) && !((l.take i).any fun x => clash x h)) := by rw [heldB, e]
theorem heldId_get {l : List Held} {i : Nat} {h : Held} (e : l[i]? = some h) : heldId l i = h.id := by rw [heldId, e]
theorem heldAt_get {l : List Held} {i : Nat} {h : Held} (e : l[i]? = some h) : heldAt l i = h := by rw [heldAt, List.getD_eq_getElem?_getD, e]; rfl
/-- Short lists of things: what walks ask for. -/
def HW (l : List Held) : Prop := l.length ≤ 1000000 ∧ ∀ h ∈ l, h.things.length ≤ 1000000
theorem HW.take {l : List Held} (h : HW l) (k : Nat) : HW (l.take k) := ⟨Nat.le_trans (by rw [List.length_take]; omega) h.1, fun x hx => h.2 x (List.mem_of_mem_take hx)⟩
/-- A holding, or none. -/
def eHG (r : Held × Bool) : List AV := if r.2 then eHeld r.1 else [.int .i64 0, .nsl, .int .i64 0, .int .i64 0]
theorem eHG_len (r : Held × Bool) : (eHG r).length = 4 := by unfold eHG; split <;> rfl
structure LH where
  lo : Nat
  hi : Nat
theorem busyL_step {l : List Held} {k : Nat} {h : Held} (e : l[k]? = some h) (frm to : Int) : busyL (l.take (k + 1)) frm to = if meets h.frm h.to frm to then sjoin (busyL (l.take k) frm to) h.things else busyL (l.take k) frm to := by
  rw [busyL, busyL, List.take_add_one, e, List.foldl_append]; rfl
theorem setl_le (op : Bool → Bool → Bool) (a b : List Int) : (setop op a b).length ≤ 1000000 := Nat.le_trans (setop_len op a b) (by decide)
theorem busyL_le : ∀ (l : List Held) (frm to : Int), (busyL l frm to).length ≤ 256 := by
  intro l frm to
  suffices h : ∀ (l : List Held) (out : List Int), out.length ≤ 256 → (l.foldl (fun out h => if meets h.frm h.to frm to then sjoin out h.things else out) out).length ≤ 256 from h l [] (by decide)
  intro l
  induction l with
  | nil => intro out h; exact h
  | cons x l ih =>
    intro out h
    rw [List.foldl_cons]
    refine ih _ ?_
    split
    · exact setop_len _ _ _
    · exact h
theorem heldR_sorted {l : List Held} (h : heldR l = true) : l.Pairwise (fun a b => a.id < b.id) := (held_iff.1 h).2.2.1
end Go.Av

/-
  A REGION THAT DRAWS: calls that read the first rows, and leave the memory as1 it was.
-/
namespace Go.Av
section
variable {P : Program} {N : Nat} {B : Base} {ops : Array Oper} {a : Option Nat} {C : Heap → Prop} {F : Env → Heap → Prop}
variable {fuel : Nat} {listed : Array Bool} {env : Env} {H H0 L : Heap} {op : Op} {ty : TypeId} {pos : String} {after : Array Edge} {v : AV}
theorem aqp2 {d : Nat} {L0 : Heap} (i : Nat) (hi : ops[i]? = some ⟨some d, op, ty, pos, after, none⟩) (hB : firstB ops listed a i = true) (hd : DN d N) (h1 : ∀ G, V2 P N op ty (renv ⟨some d, op, ty, pos, after, none⟩ env) (H0 ++ (L0 ++ G)) v (H0 ++ (L0 ++ G)))
    (h : AAny P N B ops a (Pre H0 L0) F fuel (listed.setIfInBounds i true) ((d, v) :: env) H) : AAny P N B ops a (Pre H0 L0) F (fuel + 1) listed env H :=
  aq2 i hi hB hd (by rintro _ ⟨G, rfl⟩; exact h1 G) h
theorem aqyp2 {d j g : Nat} {want : Bool} {L0 : Heap} (i : Nat) (hi : ops[i]? = some ⟨some d, op, ty, pos, after, some (j, want)⟩) (hB : firstB ops listed a i = true) (hd : DN d N) (hj : (ops[j]?).bind (·.dst) = some g) (hb : get env g = .bool want)
    (h1 : ∀ G, V2 P N op ty (renv ⟨some d, op, ty, pos, after, some (j, want)⟩ env) (H0 ++ (L0 ++ G)) v (H0 ++ (L0 ++ G)))
    (h : AAny P N B ops a (Pre H0 L0) F fuel (listed.setIfInBounds i true) ((d, v) :: env) H) : AAny P N B ops a (Pre H0 L0) F (fuel + 1) listed env H :=
  aqy2 i hi hB hd hj hb (by rintro _ ⟨G, rfl⟩; exact h1 G) h
end
end Go.Av

namespace Go.Av
open Go.Proofs
set_option maxRecDepth 10000
set_option linter.unusedSimpArgs false
set_option linter.unusedVariables false

theorem when_Meets (a b c d : Int) (H : Heap) : AC Tryd.prog 31 [.int .i64 a, .int .i64 b, .int .i64 c, .int .i64 d] H (Ret (.bool (meets a b c d)) H) := by
  refine AC.body (N := 16) [.tmp 8] Tryd.func31 rfl rfl rfl (Nat.le_of_ble_eq_true rfl) fun B hB => ?_
  refine Zh ?_
  refine aw_out 8 (.bool (meets a b c d)) ?_ ?_
  · refine Z1t ?_
    refine ao1 (by decide) (o_max (r := max a c) rfl rfl rfl) ?_
    refine Z1t ?_
    refine ao1 (by decide) (o_min (r := min b d) rfl rfl rfl) ?_
    refine Zu ?_
    refine Zf ?_
    exact Zp
  exact Z1o
theorem held_may (h : Held) (H : Heap) (hw : h.things.length ≤ 1000000) : AC Tryd.prog 49 [.agg (eHeld h)] H (Ret (.bool (hmay h)) H) := by
  refine AC.body (N := 29) [.tmp 2] Tryd.func49 rfl rfl rfl (Nat.le_of_ble_eq_true rfl) fun B hB => ?_
  refine Z2 ?_
  refine Z6u ?_
  refine Zg ?_
  refine aw_out 2 (.bool (hmay h)) ?_ ?_
  · refine Z2w ?_
    refine Z14 ?_
    refine Z1x ?_
    refine Zj ?_
    refine ao_split rfl rfl (fun hg4 => ?_) (fun hg4 => ?_)
    · refine Z6v ?_
      refine Z6i ?_
      refine Z27 ?_
      refine ao_split rfl rfl (fun hg9 => ?_) (fun hg9 => ?_)
      · refine Z25 ?_
        refine Z3j ?_
        refine Z27 ?_
        refine ao_split rfl rfl (fun hg14 => ?_) (fun hg14 => ?_)
        · refine Z25 ?_
          refine Z3j ?_
          refine Z27 ?_
          refine ao_split rfl rfl (fun hg19 => ?_) (fun hg19 => ?_)
          · refine Z25 ?_
            refine Z25 ?_
            refine Zm ?_
            refine Zo ?_
            exact Z6w
          · refine Z3a ?_
            exact Z6w
        · refine Z6x ?_
          exact Z6w
      · refine Z29 ?_
        refine Z6x ?_
        exact Z6w
    · refine Z29 ?_
      refine Z29 ?_
      refine Z6x ?_
      exact Z6w
  exact Z1o
theorem held_clash (a b : Held) (H : Heap) (ha : a.things.length ≤ 1000000) (hb : b.things.length ≤ 1000000) : AC Tryd.prog 52 [.agg (eHeld a), .agg (eHeld b)] H (Ret (.bool (clash a b)) H) := by
  refine AC.body (N := 22) [.tmp 4] Tryd.func52 rfl rfl rfl (Nat.le_of_ble_eq_true rfl) fun B hB => ?_
  refine Z2 ?_
  refine Z6u ?_
  refine Z6u ?_
  refine Zg ?_
  refine aw_out 4 (.bool (clash a b)) ?_ ?_
  · refine Z22 ?_
    refine Z22 ?_
    refine Z22 ?_
    refine Z22 ?_
    refine Z6y ?_
    refine Zj ?_
    refine ao_split rfl rfl (fun hg9 => ?_) (fun hg9 => ?_)
    · refine Z6v ?_
      refine Z6v ?_
      refine ao_y rfl rfl (by decide) (V2.call (set_Apart _ _ (by omega) (by omega) _) rfl) ?_
      refine Z1l ?_
      refine Zo ?_
      exact Z6z
    · refine Z3c ?_
      refine Zt ?_
      exact Z6z
  exact Z1o
theorem held_Right_1 (x y : Held) (ia : Nat) (H : Heap) (hx : x.things.length ≤ 1000000) (hy : y.things.length ≤ 1000000) (ha : H[ia]? = some ⟨0, 4, [eHeld y]⟩) : AC Tryd.prog 51 [.agg (eHeld x), .pt ia 0 0 0] H (Ret (.bool (clash x y)) H) := by
  have hF := ha
  refine AC.body (N := 7) [.tmp 3] Tryd.func51 rfl rfl rfl (Nat.le_of_ble_eq_true rfl) fun B hB => ?_
  refine Z2 ?_
  refine Z6u ?_
  refine Z1f ?_
  refine Z3o ?_
  refine Z3o ?_
  refine ao_ret (held_clash _ _ _ (by assumption) (by assumption)) rfl (by decide) ?_
  refine Zg ?_
  exact Zd

theorem slices_IndexFuncH (l : List Held) (h : Held) (ia : Nat) (H : Heap) (hl : HW l) (hy : h.things.length ≤ 1000000) (ha : H[ia]? = some ⟨0, 4, [eHeld h]⟩) :
    AC Tryd.prog 70 [.pl (l.map eHeld), .fn (.func 51) [] [.pt ia 0 0 0]] H (Ret (.int .i64 (ixf (fun x => clash x h) l)) H) := by
  have hl1 := hl.1
  refine AC.body (N := 19) [.tmp 4] Tryd.func70 rfl rfl rfl (Nat.le_of_ble_eq_true rfl) fun B hB => ?_
  refine Z8 ?_
  refine Z2s ?_
  refine Z2z ?_
  refine aw_loop (G := Nat) (fun k => k ≤ l.length ∧ ∀ y ∈ l.take k, clash y h = false) (fun k => [(0, .pl (l.map eHeld)), (1, .fn (.func 51) [] [.pt ia 0 0 0]), (7, .int .i64 (l.length : Int)), (8, .int .i64 (k : Int))]) (fun _ => H ++ []) (fun k => l.length - k) 0 ⟨Nat.zero_le _, by simp⟩ (by repeat (first | exact Sub.nil | refine Sub.cons (by first | rfl | (simp [get]; done)) ?_)) (Fit.refl _ _) ?_
  rintro k ⟨hk, hno⟩
  refine Z30 ?_
  refine aw_cond rfl (fun hc => ?_) (fun hc => ?_)
  · have hlt : k < l.length := by simp at hc; omega
    obtain ⟨x, hx, hxl⟩ := get_in hlt
    have hr := map_get eHeld hx
    have hxw := hl.2 x hxl
    refine Zy ?_
    refine Z7 ?_
    refine Z1j ?_
    refine Z68 ?_
    refine Z31 ?_
    refine Z3o ?_
    refine ao_retv (held_Right_1 x h ia _ hxw hy (lkF ha)) rfl rfl (by decide) ?_
    refine Zb ?_
    refine aw_cond rfl (fun hc => ?_) (fun hc => ?_)
    · refine Z1k ?_
      rw [ixf_some (p := fun x : Held => clash x h) hx hc hno]
      exact Zd
    · refine Z3s ?_
      refine ⟨k + 1, by omega, ⟨by omega, ?_⟩, (by repeat (first | exact Sub.nil | refine Sub.cons (by first | rfl | (simp [get]; done)) ?_)), .refl _ _⟩
      rw [take_snoc_get hx]
      intro y hy
      rcases List.mem_append.1 hy with h | h
      · exact hno y h
      · simp only [List.mem_singleton] at h
        subst h
        exact hc
  · have : k = l.length := by simp at hc; omega
    subst this
    rw [List.take_length] at hno
    rw [ixf_none hno]
    exact Z12
theorem slices_ContainsFuncH (l : List Held) (h : Held) (ia : Nat) (H : Heap) (hl : HW l) (hy : h.things.length ≤ 1000000) (ha : H[ia]? = some ⟨0, 4, [eHeld h]⟩) :
    AC Tryd.prog 50 [.pl (l.map eHeld), .fn (.func 51) [] [.pt ia 0 0 0]] H (Ret (.bool (l.any fun x => clash x h)) H) := by
  refine AC.body (N := 9) [.tmp 4] Tryd.func50 rfl rfl rfl (Nat.le_of_ble_eq_true rfl) fun B hB => ?_
  refine Z3u ?_
  refine Z1j ?_
  refine ao2 (by rintro _ ⟨⟩; decide) (V2.call (slices_IndexFuncH l h ia _ hl hy (lkF ha)) rfl) ?_
  refine Z1h ?_
  refine Zg ?_
  rw [← ixf_nonneg]
  exact Zd
set_option maxHeartbeats 0 in
theorem held_Right (l : List Held) (H : Heap) (hl : HW l) : AC Tryd.prog 29 [.pl (l.map eHeld)] H (Ret (.bool (heldR l)) H) := by
  have hl1 := hl.1
  refine AC.body (N := 41) [.tmp 2] Tryd.func29 rfl rfl rfl (Nat.le_of_ble_eq_true rfl) fun B hB => ?_
  refine Z3u ?_
  refine Z2x ?_
  refine aw_cond rfl (fun hc => ?_) (fun hc => ?_)
  · have h256 : ¬ l.length ≤ 256 := by simp at hc; omega
    refine Zh ?_
    rw [show heldR l = false by rw [heldR, decide_eq_false h256, Bool.false_and]]
    exact Zd
  have h256 : l.length ≤ 256 := by simp at hc; omega
  rw [show heldR l = allI (heldB l) l.length by rw [heldR, decide_eq_true h256, Bool.true_and]]
  refine Z67 ?_
  refine aw_loop (G := Nat) (fun i => i ≤ l.length ∧ ∀ k, k < i → heldB l k = true) (fun i => [(0, .pl (l.map eHeld)), (8, .pl (l.map eHeld)), (9, .int .i64 (l.length : Int)), (10, .int .i64 (i : Int))]) (fun _ => H ++ []) (fun i => l.length - i) 0 ⟨Nat.zero_le _, fun k hk => by omega⟩ (by repeat (first | exact Sub.nil | refine Sub.cons (by first | rfl | (simp [get]; done)) ?_)) (Fit.refl _ _) ?_
  rintro i ⟨hi, hno⟩
  refine Z30 ?_
  refine aw_cond rfl (fun hc => ?_) (fun hc => ?_)
  · have hlt : i < l.length := by simp at hc; omega
    obtain ⟨h, hh, hhl⟩ := get_in hlt
    have hr := map_get eHeld hh
    have hw := hl.2 h hhl
    have hB2 := heldB_get hh
    have hno0 := hno
    have hli : ((l.map eHeld).take i) = (l.take i).map eHeld := by rw [List.map_take]
    clear hno hc
    refine Z4v ?_
    refine Z3o ?_
    refine Z3n ?_
    refine Z3 ?_
    refine Z70 ?_
    refine Z5 ?_
    clear hr
    by_cases h0 : 0 < i
    · obtain ⟨h1, hh1, _⟩ := get_in (l := l) (k := i - 1) (by omega)
      have hr1 := map_get eHeld hh1
      rw [heldId_get hh1, decide_eq_true h0, Bool.true_and] at hB2
      clear hh hhl hh1
      refine Z1 ?_
      refine aw_of_out 39 (.bool (!heldB l i)) ?_ ?_
      · refine Z4z ?_
        refine Z71 ?_
        refine Z72 ?_
        refine Z73 ?_
        refine Z43 ?_
        refine aq_split (g := 18) rfl (fun hg3 => ?_) (fun hg3 => ?_)
        · refine Z74 ?_
          refine Z75 ?_
          refine Z76 ?_
          refine Z77 ?_
          refine Z78 ?_
          refine Z79 ?_
          refine Z7a ?_
          refine Z7b ?_
          refine Z7c ?_
          refine Z7d ?_
          refine Z7e ?_
          refine Z7f ?_
          refine Z7g ?_
          refine Z7h ?_
          refine Z7i ?_
          refine Z7j ?_
          refine Z7k ?_
          refine Z7l ?_
          refine Z7m ?_
          refine Z7n ?_
          exact Z7o
        · refine Z7p ?_
          refine Z7q ?_
          refine Z7r ?_
          refine aq_split (g := 21) rfl (fun hg6 => ?_) (fun hg6 => ?_)
          · first | refine aqyp (g := 21) 7 rfl (by decide +kernel) (by decide) rfl rfl (fun G => w_fieldAddr rfl (lk rfl rfl) rfl (by decide)) ?_ | refine aqyp (g := 21) 7 rfl (by decide +kernel) (by decide) rfl rfl (fun G => w_fieldAddrp rfl (by decide)) ?_ | refine aqyp (g := 21) 7 rfl (by decide +kernel) (by decide) rfl rfl (fun G => w_fieldAddr rfl (lkF hF) rfl (by decide)) ?_
            first | refine aqyp (g := 21) 8 rfl (by decide +kernel) (by decide) rfl rfl (fun G => w_load1 (v := .int _ _) rfl (lk rfl rfl) rfl rfl rfl) ?_ | refine aqyp (g := 21) 8 rfl (by decide +kernel) (by decide) rfl rfl (fun G => w_load1 (v := .int _ _) rfl (lk rfl rfl) rfl (zadd hr) rfl) ?_ | refine aqyp (g := 21) 8 rfl (by decide +kernel) (by decide) rfl rfl (fun G => w_load1 (v := .int _ _) rfl (lk rfl rfl) rfl (zadd hr1) rfl) ?_ | refine aqyp (g := 21) 8 rfl (by decide +kernel) (by decide) rfl rfl (fun G => w_load1 (v := .int _ _) rfl (lk rfl rfl) rfl (zadd hr2) rfl) ?_ | refine aqyp (g := 21) 8 rfl (by decide +kernel) (by decide) rfl rfl (fun G => o_load1p (v := .int _ _) rfl hr rfl) ?_ | refine aqyp (g := 21) 8 rfl (by decide +kernel) (by decide) rfl rfl (fun G => o_load1p (v := .int _ _) rfl hr1 rfl) ?_ | refine aqyp (g := 21) 8 rfl (by decide +kernel) (by decide) rfl rfl (fun G => o_load1p (v := .int _ _) rfl hr2 rfl) ?_ | refine aqyp (g := 21) 8 rfl (by decide +kernel) (by decide) rfl rfl (fun G => w_load1 (v := .int _ _) rfl (lkF hF) rfl rfl rfl) ?_
            first | refine aqy0 (g := 21) 9 rfl (by decide +kernel) (by decide) rfl rfl (fun _ => o_move (v := .sl _ _ _ _ _) rfl) ?_ | refine aqy0 (g := 21) 9 rfl (by decide +kernel) (by decide) rfl rfl (fun _ => o_move (v := .pl _) rfl) ?_ | refine aqy0 (g := 21) 9 rfl (by decide +kernel) (by decide) rfl rfl (fun _ => o_move (v := .nsl) rfl) ?_
            refine aqy0 (g := 21) 10 rfl (by decide +kernel) (by decide) rfl rfl (fun _ => o_move (v := .int _ _) rfl) ?_
            refine aqy0 (g := 21) 11 rfl (by decide +kernel) (by decide) rfl rfl (fun _ => o_sub (r := ((i - 1 : Nat) : Int)) rfl rfl (by rw [show (i : Int) - 1 = ((i - 1 : Nat) : Int) by omega]; exact wrap64_ok (by omega) (by omega))) ?_
            refine aqyp (g := 21) 12 rfl (by decide +kernel) (by decide) rfl rfl (fun G => w_indexAddrpN rfl rfl hr1 rfl) ?_
            first | refine aqyp (g := 21) 13 rfl (by decide +kernel) (by decide) rfl rfl (fun G => w_fieldAddr rfl (lk rfl rfl) rfl (by decide)) ?_ | refine aqyp (g := 21) 13 rfl (by decide +kernel) (by decide) rfl rfl (fun G => w_fieldAddrp rfl (by decide)) ?_ | refine aqyp (g := 21) 13 rfl (by decide +kernel) (by decide) rfl rfl (fun G => w_fieldAddr rfl (lkF hF) rfl (by decide)) ?_
            refine aqyp (g := 21) 14 rfl (by decide +kernel) (by decide) rfl rfl (fun G => o_load1p (v := .int _ _) rfl hr1 rfl) ?_
            refine aqy0 (g := 21) 15 rfl (by decide +kernel) (by decide) rfl rfl (fun _ => o_le rfl rfl) ?_
            refine Z7s ?_
            refine Z7h ?_
            refine aq_split (g := 33) rfl (fun hg18 => ?_) (fun hg18 => ?_)
            · refine Z7i ?_
              refine Z7j ?_
              refine Z7k ?_
              refine Z7l ?_
              refine Z7m ?_
              refine Z7n ?_
              exact Z7o
            · refine Z7t ?_
              refine Z7u ?_
              refine Z7v ?_
              refine Z7w ?_
              refine Z7x ?_
              refine Z7n ?_
              exact Z7o
          · refine Z7y ?_
            refine Z7z ?_
            refine Z80 ?_
            refine Z81 ?_
            refine Z82 ?_
            refine Z83 ?_
            refine Z84 ?_
            refine Z85 ?_
            refine Z86 ?_
            refine Z7s ?_
            refine Z7h ?_
            refine Z7t ?_
            refine Z7u ?_
            refine Z7v ?_
            refine Z7w ?_
            refine Z7x ?_
            refine Z7n ?_
            exact Z7o
      refine Z1 ?_
      refine aw_cond rfl (fun hc => ?_) (fun hc => ?_)
      · have hbad : heldB l i = false := by simpa only [Bool.not_eq_true'] using hc
        refine Zh ?_
        rw [allI_false hlt hbad]
        exact Zd
      · have hgood : heldB l i = true := by simpa only [Bool.not_eq_false'] using hc
        refine Z3s ?_
        refine ⟨i + 1, by omega, ⟨by omega, fun k hk => ?_⟩, (by repeat (first | exact Sub.nil | refine Sub.cons (by first | rfl | (simp [get]; done)) ?_)), Fit.loc hB (L := []) rfl (by repeat (first | exact EBel.nil | refine EBel.cons (by first | rfl | (simp [AV.bel, AV.bels, Lid]; done) | (simp [AV.bel, AV.bels, Lid]; omega)) ?_)) (fun o ho => by simp at ho)⟩
        rcases Nat.lt_or_eq_of_le (Nat.le_of_lt_succ hk) with h | h
        · exact hno0 k h
        · subst h; exact hgood
    · rw [decide_eq_false h0, Bool.false_and, Bool.not_false, Bool.and_true] at hB2
      clear hh hhl
      refine Z1 ?_
      refine aw_of_out 39 (.bool (!heldB l i)) ?_ ?_
      · refine Z4z ?_
        refine Z71 ?_
        refine Z72 ?_
        refine Z73 ?_
        refine Z43 ?_
        refine aq_split (g := 18) rfl (fun hg3 => ?_) (fun hg3 => ?_)
        · refine Z74 ?_
          refine Z75 ?_
          refine Z76 ?_
          refine Z77 ?_
          refine Z78 ?_
          refine Z79 ?_
          refine Z7a ?_
          refine Z7b ?_
          refine Z7c ?_
          refine Z7d ?_
          refine Z7e ?_
          refine Z7f ?_
          refine Z7g ?_
          refine Z7h ?_
          refine Z7i ?_
          refine Z7j ?_
          refine Z7k ?_
          refine Z7l ?_
          refine Z7m ?_
          refine Z7n ?_
          exact Z87
        · refine Z7p ?_
          refine Z7q ?_
          refine Z7r ?_
          refine aq_split (g := 21) rfl (fun hg6 => ?_) (fun hg6 => ?_)
          · exfalso; simp at hg6; omega
          · refine Z7y ?_
            refine Z7z ?_
            refine Z80 ?_
            refine Z81 ?_
            refine Z82 ?_
            refine Z83 ?_
            refine Z84 ?_
            refine Z85 ?_
            refine Z86 ?_
            refine Z7s ?_
            refine Z7h ?_
            refine Z7t ?_
            refine Z7u ?_
            refine Z7v ?_
            refine Z7w ?_
            refine Z7x ?_
            refine Z7n ?_
            exact Z87
      refine Z1 ?_
      refine aw_cond rfl (fun hc => ?_) (fun hc => ?_)
      · have hbad : heldB l i = false := by simpa only [Bool.not_eq_true'] using hc
        refine Zh ?_
        rw [allI_false hlt hbad]
        exact Zd
      · have hgood : heldB l i = true := by simpa only [Bool.not_eq_false'] using hc
        refine Z3s ?_
        refine ⟨i + 1, by omega, ⟨by omega, fun k hk => ?_⟩, (by repeat (first | exact Sub.nil | refine Sub.cons (by first | rfl | (simp [get]; done)) ?_)), Fit.loc hB (L := []) rfl (by repeat (first | exact EBel.nil | refine EBel.cons (by first | rfl | (simp [AV.bel, AV.bels, Lid]; done) | (simp [AV.bel, AV.bels, Lid]; omega)) ?_)) (fun o ho => by simp at ho)⟩
        rcases Nat.lt_or_eq_of_le (Nat.le_of_lt_succ hk) with h | h
        · exact hno0 k h
        · subst h; exact hgood
  · have : i = l.length := by simp at hc; omega
    subst this
    refine Zh ?_
    rw [allI_true hno]
    exact Zd
end Go.Av

namespace Go.Av
open Go.Proofs
set_option maxRecDepth 10000
set_option linter.unusedSimpArgs false
set_option linter.unusedVariables false

theorem held_find_1 (x : Held) (id : Int) (H : Heap) : AC Tryd.prog 84 [.agg (eHeld x), .int .i64 id] H (Ret (.int .i64 (cmpI x.id id)) H) := by
  refine AC.body (N := 9) [.tmp 4] Tryd.func84 rfl rfl rfl (Nat.le_of_ble_eq_true rfl) fun B hB => ?_
  refine Z2 ?_
  refine Z6u ?_
  refine Z7 ?_
  refine Z22 ?_
  refine Za ?_
  refine Z88 ?_
  exact Ze
set_option maxHeartbeats 0 in
theorem held_search (l : List Held) (id : Int) (H : Heap) (hl : l.length ≤ 1000000) (hs : l.Pairwise (fun a b => a.id < b.id)) :
    AC Tryd.prog 83 [.pl (l.map eHeld), .int .i64 id, .fn (.func 84) [] []] H (Ret (.tup [.int .i64 (heldPos l id : Int), .bool (heldHit l id)]) H) := by
  have hle := kpos_le (f := Held.id) l id
  refine AC.body (N := 49) [.tmp 6, .tmp 7] Tryd.func83 rfl rfl rfl (Nat.le_of_ble_eq_true rfl) fun B hB => ?_
  refine Z1i ?_
  refine Z3t ?_
  refine Z14 ?_
  refine Z7 ?_
  refine Za ?_
  refine Z3 ?_
  refine Z3 ?_
  refine Z16 ?_
  refine aw_loop (G := LH) (fun g => g.lo ≤ kpos Held.id l id ∧ kpos Held.id l id ≤ g.hi ∧ g.hi ≤ l.length) (fun g => [(0, .pl (l.map eHeld)), (1, .int .i64 id), (2, .fn (.func 84) [] []), (8, .int .i64 ((l.map eHeld).length : Int)), (9, .int .i64 (g.lo : Int)), (10, .int .i64 (g.hi : Int))]) (fun _ => H ++ []) (fun g => g.hi - g.lo) ⟨0, (l.map eHeld).length⟩ ⟨Nat.zero_le _, by simp only [List.length_map]; exact hle, by simp⟩ (by repeat (first | exact Sub.nil | refine Sub.cons (by first | rfl | (simp [get]; done)) ?_)) (Fit.refl _ _) ?_
  rintro ⟨lo, hi⟩ ⟨i1, i2, i3⟩
  simp only at i1 i2 i3 ⊢
  refine Z1w ?_
  refine Z17 ?_
  refine aw_cond rfl (fun hc => ?_) (fun hc => ?_)
  · have hlt : lo < hi := by simpa using hc
    obtain ⟨x, hx, hxl⟩ := get_in (l := l) (k := (lo + hi) / 2) (by omega)
    have hr := map_get eHeld hx
    refine Z1w ?_
    refine Z89 ?_
    refine Z8a ?_
    refine Z8b ?_
    refine Z8c ?_
    refine Z7 ?_
    refine Z1j ?_
    refine Z68 ?_
    refine Z31 ?_
    refine Z3o ?_
    refine Za ?_
    refine ao_retv (held_find_1 x id _) rfl rfl (by decide) ?_
    refine Z17 ?_
    refine aw_cond rfl (fun hc => ?_) (fun hc => ?_)
    · have hk : x.id < id := by simp only [decide_eq_true_eq] at hc; unfold cmpI at hc; split at hc <;> first | assumption | (split at hc <;> omega)
      have hp : (lo + hi) / 2 + 1 ≤ kpos Held.id l id := by
        rcases Nat.lt_or_ge ((lo + hi) / 2) (kpos Held.id l id) with h | h
        · omega
        · have := kpos_ge hs h hx; omega
      refine Zy ?_
      refine Z8d ?_
      refine Zc ?_
      exact ⟨⟨(lo + hi) / 2 + 1, hi⟩, by simp only; omega, ⟨hp, i2, i3⟩, (by repeat (first | exact Sub.nil | refine Sub.cons (by first | rfl | (simp [get]; done)) ?_)), .refl _ _⟩
    · have hk : id ≤ x.id := by simp only [decide_eq_false_iff_not] at hc; unfold cmpI at hc; split at hc <;> first | (exfalso; exact hc (by decide)) | omega
      have hp : kpos Held.id l id ≤ (lo + hi) / 2 := by
        rcases Nat.lt_or_ge ((lo + hi) / 2) (kpos Held.id l id) with h | h
        · have := kpos_lt (f := Held.id) h hx; omega
        · exact h
      refine Z1k ?_
      exact ⟨⟨lo, (lo + hi) / 2⟩, by simp only; omega, ⟨i1, hp, by simp only; omega⟩, (by repeat (first | exact Sub.nil | refine Sub.cons (by first | rfl | (simp [get]; done)) ?_)), .refl _ _⟩
  · have hlt : ¬ lo < hi := by simpa using hc
    obtain rfl : lo = kpos Held.id l id := by omega
    have hml : (l.map eHeld).length = l.length := by simp
    clear hc
    refine Z1 ?_
    refine aw_joinQ ([(6, .int .i64 (heldPos l id : Int)), (7, .bool (heldHit l id))]) (H ++ []) ?_ ?_
    · by_cases hn : kpos Held.id l id < l.length
      · obtain ⟨x, hx, hxl⟩ := get_in hn
        have hr := map_get eHeld hx
        have hh : heldHit l id = (cmpI x.id id == 0) := by
          rw [heldHit, show heldPos l id = kpos Held.id l id from rfl, decide_eq_true hn, Bool.true_and, heldId_get hx, Bool.eq_iff_iff]
          unfold cmpI
          simp only [decide_eq_true_eq, beq_iff_eq]
          split
          · omega
          · split <;> omega
        refine Zy ?_
        refine Z1t ?_
        refine Zv ?_
        refine ao_split rfl rfl (fun hg4 => ?_) (fun hg4 => ?_)
        · refine Z8e ?_
          refine Z4s ?_
          refine Zl ?_
          refine Z8f ?_
          first | refine ao_y1 rfl rfl (by decide) (w_loadR rfl (lk rfl rfl) rfl rfl rfl) ?_ | refine ao_y1 rfl rfl (by decide) (w_loadR rfl (lk rfl rfl) rfl (zadd hr) rfl) ?_ | refine ao_y1 rfl rfl (by decide) (w_loadR rfl (lk rfl rfl) rfl (zadd hr1) rfl) ?_ | refine ao_y1 rfl rfl (by decide) (w_loadR rfl (lk rfl rfl) rfl (zadd hr2) rfl) ?_ | refine ao_y1 rfl rfl (by decide) (w_loadRp rfl hr rfl) ?_ | refine ao_y1 rfl rfl (by decide) (w_loadRp rfl hr1 rfl) ?_ | refine ao_y1 rfl rfl (by decide) (w_loadRp rfl hr2 rfl) ?_ | refine ao_y1 rfl rfl (by decide) (w_loadN (cs := [_, _, _, _]) rfl (lk rfl rfl) rfl rfl rfl rfl) ?_ | refine ao_y1 rfl rfl (by decide) (o_loadNp (cs := [_, _, _, _]) rfl hr rfl rfl) ?_ | refine ao_y1 rfl rfl (by decide) (o_loadNp (cs := [_, _, _, _]) rfl hr1 rfl rfl) ?_ | refine ao_y1 rfl rfl (by decide) (o_loadNp (cs := [_, _, _, _]) rfl hr2 rfl rfl) ?_ | refine ao_y1 rfl rfl (by decide) (w_loadR rfl (lkF hF) rfl rfl rfl) ?_ | refine ao_y1 rfl rfl (by decide) (w_loadN (cs := [_, _, _, _]) rfl (lkF hF) rfl rfl rfl rfl) ?_
          refine Zl ?_
          refine ao_y rfl rfl (by decide) (V2.callv (held_find_1 x id _) rfl rfl) ?_
          refine Z3d ?_
          refine Z8i ?_
          (first | (exfalso; simp at hg4; omega) | exact join_nrm (by rw [hh]; exact (by repeat (first | exact Sub.nil | refine Sub.cons (by first | rfl | (simp [get]; done)) ?_))) (.inl rfl))
        · refine Z3c ?_
          refine Z3c ?_
          refine Z8i ?_
          (first | (exfalso; simp at hg4; omega) | exact join_nrm (by rw [hh]; exact (by repeat (first | exact Sub.nil | refine Sub.cons (by first | rfl | (simp [get]; done)) ?_))) (.inl rfl))
      · have hh : heldHit l id = false := by rw [heldHit, show heldPos l id = kpos Held.id l id from rfl, decide_eq_false hn, Bool.false_and]
        refine Zy ?_
        refine Z1t ?_
        refine Zv ?_
        refine ao_split rfl rfl (fun hg4 => ?_) (fun hg4 => ?_)
        · exfalso; simp at hg4; omega
        · refine Z3c ?_
          refine Z3c ?_
          refine Z8i ?_
          (exact join_nrm (by rw [hh]; exact (by repeat (first | exact Sub.nil | refine Sub.cons (by first | rfl | (simp [get]; done)) ?_))) (.inl rfl))
    refine Z1 ?_
    exact Z8j
theorem held_find (l : List Held) (id : Int) (H : Heap) (hl : l.length ≤ 1000000) (hs : l.Pairwise (fun a b => a.id < b.id)) : AC Tryd.prog 72 [.pl (l.map eHeld), .int .i64 id] H (Ret (.tup [.int .i64 (heldPos l id : Int), .bool (heldHit l id)]) H) := by
  refine AC.body (N := 11) [.tmp 4, .tmp 5] Tryd.func72 rfl rfl rfl (Nat.le_of_ble_eq_true rfl) fun B hB => ?_
  refine Z1i ?_
  refine Z3t ?_
  refine Za ?_
  refine ao_ret (held_search _ _ _ (by omega) (by assumption)) rfl (by decide) ?_
  refine Z11 ?_
  refine Z3z ?_
  refine Z3 ?_
  refine Zg ?_
  exact Z8j
theorem held_copied (h : Held) (H : Heap) (hw : h.things.length ≤ 1000000) : AC Tryd.prog 73 [.agg (eHeld h)] H (Ret (.agg (eHeld h)) H) := by
  refine AC.body (N := 8) [.cell 2 59] Tryd.func73 rfl rfl rfl (Nat.le_of_ble_eq_true rfl) fun B hB => ?_
  refine Z2 ?_
  refine Z6u ?_
  refine Z3n ?_
  refine Z6 ?_
  refine Z2w ?_
  refine ao_ret (slices_CloneI _ _ (by assumption)) rfl (by decide) ?_
  refine Z20 ?_
  first | refine ao2 (by rintro _ ⟨⟩) (w_storeP (sz := 1) (v := .sl _ _ _ _ _) (r' := [_, _, _, _]) rfl rfl rfl rfl rfl rfl rfl rfl (Nat.le_of_ble_eq_true rfl) rfl) ?_ | refine ao2 (by rintro _ ⟨⟩) (w_storeP (sz := 1) (v := .pl _) (r' := [_, _, _, _]) rfl rfl rfl rfl rfl rfl rfl rfl (Nat.le_of_ble_eq_true rfl) rfl) ?_ | refine ao2 (by rintro _ ⟨⟩) (w_storeP (sz := 1) (v := .nsl) (r' := [_, _, _, _]) rfl rfl rfl rfl rfl rfl rfl rfl (Nat.le_of_ble_eq_true rfl) rfl) ?_ | refine ao2 (by rintro _ ⟨⟩) (w_storeFP (sz := 1) (v := .sl _ _ _ _ _) (r' := [_, _, _, _]) rfl hF rfl rfl rfl rfl rfl (Nat.le_of_ble_eq_true rfl) rfl) ?_ | refine ao2 (by rintro _ ⟨⟩) (w_storeFP (sz := 1) (v := .sl _ _ _ _ _) (r' := [_, _, _, _]) rfl hF1 rfl rfl rfl rfl rfl (Nat.le_of_ble_eq_true rfl) rfl) ?_ | refine ao2 (by rintro _ ⟨⟩) (w_storeFP (sz := 1) (v := .pl _) (r' := [_, _, _, _]) rfl hF rfl rfl rfl rfl rfl (Nat.le_of_ble_eq_true rfl) rfl) ?_ | refine ao2 (by rintro _ ⟨⟩) (w_storeFP (sz := 1) (v := .pl _) (r' := [_, _, _, _]) rfl hF1 rfl rfl rfl rfl rfl (Nat.le_of_ble_eq_true rfl) rfl) ?_ | refine ao2 (by rintro _ ⟨⟩) (w_storeFP (sz := 1) (v := .nsl) (r' := [_, _, _, _]) rfl hF rfl rfl rfl rfl rfl (Nat.le_of_ble_eq_true rfl) rfl) ?_ | refine ao2 (by rintro _ ⟨⟩) (w_storeFP (sz := 1) (v := .nsl) (r' := [_, _, _, _]) rfl hF1 rfl rfl rfl rfl rfl (Nat.le_of_ble_eq_true rfl) rfl) ?_
  refine Z6 ?_
  refine Z3o ?_
  refine Z70 ?_
  exact Z6m
theorem held_Get (l : List Held) (id : Int) (H : Heap) (hw : HW l) : AC Tryd.prog 53 [.pl (l.map eHeld), .int .i64 id] H (Ret (.tup [.agg (eHeld (heldGet l id).1), .bool (heldGet l id).2]) H) := by
  have hw1 := hw.1
  refine AC.body (N := 26) [.cell 4 59, .tmp 5] Tryd.func53 rfl rfl rfl (Nat.le_of_ble_eq_true rfl) fun B hB => ?_
  refine Z2 ?_
  refine Z3n ?_
  refine Z3t ?_
  refine Z8k ?_
  refine Z2k ?_
  refine aw_cond rfl (fun hc => ?_) (fun hc => ?_)
  · have hno : heldR l = false := by simpa only [Bool.not_eq_true'] using hc
    rw [show heldGet l id = (held0, false) by rw [heldGet, hno]; rfl]
    refine Z2 ?_
    refine Z8l ?_
    refine Z70 ?_
    refine Zg ?_
    exact Z8m
  have hyes : heldR l = true := by simpa only [Bool.not_eq_false'] using hc
  have hs := heldR_sorted hyes
  refine Z4j ?_
  refine ao_ret (held_find _ _ _ (by omega) (by assumption)) rfl (by decide) ?_
  refine Z3w ?_
  refine Z11 ?_
  refine Z3z ?_
  refine Z3 ?_
  refine Z1f ?_
  refine Zj ?_
  refine Z2k ?_
  refine aw_cond rfl (fun hc => ?_) (fun hc => ?_)
  · have hno : heldHit l id = false := by simpa only [Bool.not_eq_true'] using hc
    rw [show heldGet l id = (held0, false) by rw [heldGet, hyes, hno]; rfl]
    refine Z2 ?_
    refine Z8l ?_
    refine Z70 ?_
    refine Zg ?_
    exact Z8m
  have hhit : heldHit l id = true := by simpa only [Bool.not_eq_false'] using hc
  have hn : heldPos l id < l.length := by simp only [heldHit, Bool.and_eq_true, decide_eq_true_eq] at hhit; exact hhit.1
  obtain ⟨x, hx, hxl⟩ := get_in hn
  have hr := map_get eHeld hx
  have hxw := hw.2 x hxl
  rw [show heldGet l id = (x, true) by rw [heldGet, hyes, hhit, heldAt_get hx]; rfl]
  refine Z4j ?_
  refine Z31 ?_
  refine Z3o ?_
  refine ao_ret (held_copied _ _ (by assumption)) rfl (by decide) ?_
  refine Z70 ?_
  refine Zg ?_
  exact Z8m
set_option maxHeartbeats 0 in
theorem held_Busy (l : List Held) (frm to : Int) (H : Heap) (hw : HW l) : ACT Tryd.prog KD 9 [.pl (l.map eHeld), .int .i64 frm, .int .i64 to] H (Ret (.pl ((heldBusy l frm to).map eInt)) H) := by
  have hw1 := hw.1
  refine ACT.body (N := 32) [.tmp 6] Tryd.func9 rfl rfl rfl (Nat.le_of_ble_eq_true rfl) fun B hB => ?_
  refine Z2o ?_
  refine Z4f ?_
  refine Z2s ?_
  refine Z8k ?_
  refine Z2k ?_
  refine aw_cond rfl (fun hc => ?_) (fun hc => ?_)
  · have hno : heldR l = false := by simpa only [Bool.not_eq_true'] using hc
    rw [show heldBusy l frm to = [] by rw [heldBusy, hno]; rfl]
    refine Z2q ?_
    refine aw_nslpl 6 rfl ?_
    exact aw_ret (e_done hB (r_tmp rfl .nil) rfl rfl)
  have hyes : heldR l = true := by simpa only [Bool.not_eq_false'] using hc
  rw [show heldBusy l frm to = busyL l frm to by rw [heldBusy, hyes]; rfl]
  refine Z67 ?_
  refine aw_nslpl 7 rfl ?_
  refine aw_loop (G := Nat) (fun k => k ≤ l.length) (fun k => [(KT, KD.av), (1, .int .i64 frm), (2, .int .i64 to), (7, .pl ((busyL (l.take k) frm to).map eInt)), (13, .pl (l.map eHeld)), (14, .int .i64 (l.length : Int)), (15, .int .i64 (k : Int))]) (fun _ => H ++ []) (fun k => l.length - k) 0 (Nat.zero_le _) (by repeat (first | exact Sub.nil | refine Sub.cons (by first | rfl | (simp [get]; done)) ?_)) (Fit.refl _ _) ?_
  intro k hk
  refine Z30 ?_
  refine aw_cond rfl (fun hc => ?_) (fun hc => ?_)
  · have hlt : k < l.length := by simp at hc; omega
    obtain ⟨x, hx, hxl⟩ := get_in hlt
    have hr := map_get eHeld hx
    have hxw := hw.2 x hxl
    have hstep := busyL_step hx frm to
    have hbl := busyL_le (l.take k) frm to
    refine Z32 ?_
    refine Z3o ?_
    refine Z3n ?_
    refine Z70 ?_
    refine Z6 ?_
    refine Z22 ?_
    refine Z22 ?_
    refine Z1t ?_
    refine Z6y ?_
    refine Zb ?_
    refine aw_cond rfl (fun hc => ?_) (fun hc => ?_)
    · rw [if_pos hc] at hstep
      refine Z4i ?_
      refine Z2w ?_
      refine ao2 (by rintro _ ⟨⟩; decide) (V2.callT (set_Join _ _ (by omega) (by omega) _) rfl rfl) ?_
      refine Z4f ?_
      refine Z37 ?_
      refine ⟨k + 1, by omega, by omega, by rw [hstep]; exact (by repeat (first | exact Sub.nil | refine Sub.cons (by first | rfl | (simp [get]; done)) ?_)), Fit.loc hB (L := []) rfl (by repeat (first | exact EBel.nil | refine EBel.cons (by first | rfl | (simp [AV.bel, AV.bels, Lid]; done) | (simp [AV.bel, AV.bels, Lid]; omega)) ?_)) (fun o ho => by simp at ho)⟩
    · rw [if_neg (by simp [hc])] at hstep
      refine Z3s ?_
      refine ⟨k + 1, by omega, by omega, by rw [hstep]; exact (by repeat (first | exact Sub.nil | refine Sub.cons (by first | rfl | (simp [get]; done)) ?_)), Fit.loc hB (L := []) rfl (by repeat (first | exact EBel.nil | refine EBel.cons (by first | rfl | (simp [AV.bel, AV.bels, Lid]; done) | (simp [AV.bel, AV.bels, Lid]; omega)) ?_)) (fun o ho => by simp at ho)⟩
  · have : k = l.length := by simp at hc; omega
    subst this
    rw [List.take_length]
    refine Z4i ?_
    exact Z2u
end Go.Av

/-
  THE SCHEDULER's PARTS, plainly: jobs and schedulers, as1 walks meet them.
-/
namespace Go.Av
set_option linter.unusedVariables false
set_option linter.unusedSimpArgs false

theorem jright_needs {j : Job} (h : jright j = true) : j.needs.length ≤ 16 := by
  simp only [jright, jneeds, Bool.and_eq_true, decide_eq_true_eq] at h; exact h.1.1.2.1
theorem jobAt_take {l : List Job} {i k : Nat} (h : k < i) : jobAt (l.take i) k = jobAt l k := by
  rw [jobAt, jobAt, List.getD_eq_getElem?_getD, List.getD_eq_getElem?_getD, List.getElem?_take, if_pos h]
theorem jobB_take {l : List Job} {i k : Nat} (h : k < i) : jobB (l.take i) k = jobB l k := by
  unfold jobB jobId
  rw [List.getElem?_take, if_pos h, List.take_take, Nat.min_eq_left (Nat.le_of_lt h)]
  cases l[k]? with
  | none => rfl
  | some j =>
    simp only
    rw [jobAt_take (by omega)]
theorem jobs_take_ok {l : List Job} {i : Nat} (h64 : l.length ≤ 64) (h : ∀ k, k < i → jobB l k = true) : jobsR (l.take i) = true := by
  rw [jobsR, Bool.and_eq_true, decide_eq_true_eq]
  refine ⟨by rw [List.length_take]; omega, allI_true fun k hk => ?_⟩
  rw [List.length_take] at hk
  rw [jobB_take (by omega)]
  exact h k (by omega)
theorem jobs_take_sorted {l : List Job} {i : Nat} (h64 : l.length ≤ 64) (h : ∀ k, k < i → jobB l k = true) : (l.take i).Pairwise (fun a b => a.id < b.id) := (jobs_iff.1 (jobs_take_ok h64 h)).2.2.1
theorem jobB_get {l : List Job} {i : Nat} {j : Job} (e : l[i]? = some j) : jobB l i = (jright j && !(decide (0 < i) && (decide (j.id ≤ jobId l (i - 1)) || decide (j.came < (jobAt l (i - 1)).came))) && j.needs.all fun n => jobHit (l.take i) n) := by rw [jobB, e]
theorem jobId_get {l : List Job} {i : Nat} {j : Job} (e : l[i]? = some j) : jobId l i = j.id := by rw [jobId, jobAt_get e]
theorem jobsR_sorted {l : List Job} (h : jobsR l = true) : l.Pairwise (fun a b => a.id < b.id) := (jobs_iff.1 h).2.2.1

/-! ### counting states -/
theorem stcnt_step {l : List Job} {k : Nat} {j : Job} (e : l[k]? = some j) (c : Int) : stcnt (l.take (k + 1)) c = stcnt (l.take k) c + if decide (j.state = c) then 1 else 0 := by
  rw [stcnt, stcnt, List.take_add_one, e, List.filter_append, List.length_append]
  simp only [Option.toList_some, List.filter_cons, List.filter_nil]
  cases h : decide (j.state = c) <;> simp
theorem stcnt_le (l : List Job) (c : Int) : 0 ≤ stcnt l c ∧ stcnt l c ≤ (l.length : Int) := by
  have := List.length_filter_le (fun j : Job => decide (j.state = c)) l
  rw [stcnt]; omega
abbrev eK7 (f : Nat → Int) : List AV := [.int .i64 (f 0), .int .i64 (f 1), .int .i64 (f 2), .int .i64 (f 3), .int .i64 (f 4), .int .i64 (f 5), .int .i64 (f 6)]
theorem eK7_get (f : Nat → Int) {c : Nat} (h : c < 7) : (eK7 f)[c]? = some (.int .i64 (f c)) := by
  rcases c with _ | _ | _ | _ | _ | _ | _ | c <;> first | rfl | omega
theorem eK7_set (f : Nat → Int) {c : Nat} (h : c < 7) (v : Int) : (eK7 f).take c ++ [.int .i64 v] ++ (eK7 f).drop (c + 1) = eK7 (fun j => if j = c then v else f j) := by
  rcases c with _ | _ | _ | _ | _ | _ | _ | c <;> first | rfl | omega
theorem eK7_congr {f h : Nat → Int} (e : ∀ j, j < 7 → f j = h j) : eK7 f = eK7 h := by
  simp only [eK7, e 0 (by decide), e 1 (by decide), e 2 (by decide), e 3 (by decide), e 4 (by decide), e 5 (by decide), e 6 (by decide)]
def sfun (l : List Job) (j : Nat) : Int := stcnt l (j : Int)
theorem counts_yes {l : List Job} (h : jobsR l = true) : (jobsCounts l).map (AV.int .i64) = eK7 (sfun l) := by rw [jobsCounts, if_pos h]; rfl
theorem counts_no {l : List Job} (h : jobsR l = false) : (jobsCounts l).map (AV.int .i64) = eK7 (fun _ => 0) := by rw [jobsCounts, if_neg (by rw [h]; decide)]; rfl
/-- What runs, so far. -/
def runs (l : List Job) : Nat := (l.filter fun j => decide (j.state = 2)).length
theorem runs_step {l : List Job} {k : Nat} {j : Job} (e : l[k]? = some j) : runs (l.take (k + 1)) = runs (l.take k) + if decide (j.state = 2) then 1 else 0 := by
  rw [runs, runs, List.take_add_one, e, List.filter_append, List.length_append]
  simp only [Option.toList_some, List.filter_cons, List.filter_nil]
  cases h : decide (j.state = 2) <;> simp
theorem runs_le (l : List Job) : runs l ≤ l.length := List.length_filter_le _ _
theorem itoldB_get {i : Inst} {k : Nat} {j : Job} (e : i.jobs[k]? = some j) : itoldB i k = (decide (j.came ≤ i.now) && decide (j.frm ≤ i.now) && (decide (j.state ≠ 2) ||
  ((heldGet i.table j.id).2 && decide ((heldGet i.table j.id).1.frm = j.frm) && decide ((heldGet i.table j.id).1.to = sEnds j.spec j.frm) &&
    decide (i.now < (heldGet i.table j.id).1.to) && ithings i.graph (heldGet i.table j.id).1.things))) := by rw [itoldB, jobAt_get e]
theorem heldGet_len {l : List Held} (h : HW l) (id : Int) : (heldGet l id).1.things.length ≤ 1000000 := by
  rw [heldGet]
  split
  · rename_i hh
    simp only [Bool.and_eq_true, heldHit, decide_eq_true_eq] at hh
    obtain ⟨x, hx, hxl⟩ := get_in hh.2.1
    simp only [heldAt_get hx]
    exact h.2 x hxl
  · decide
/-- Short parts: what walks ask for. -/
structure IW (i : Inst) : Prop where
  graph : i.graph.length ≤ 1000000
  health : i.health.length ≤ 1000000
  lease : i.lease.length ≤ 1000000
  jobs : i.jobs.length ≤ 1000000
  table : HW i.table
end Go.Av

namespace Go.Av
open Go.Proofs
set_option maxRecDepth 10000
set_option linter.unusedSimpArgs false
set_option linter.unusedVariables false

theorem queue_find_1 (x : Job) (id : Int) (H : Heap) : AC Tryd.prog 68 [.agg (eJob x), .int .i64 id] H (Ret (.int .i64 (cmpI x.id id)) H) := by
  refine AC.body (N := 9) [.tmp 4] Tryd.func68 rfl rfl rfl (Nat.le_of_ble_eq_true rfl) fun B hB => ?_
  refine Z2 ?_
  refine Z2v ?_
  refine Z7 ?_
  refine Z22 ?_
  refine Za ?_
  refine Z88 ?_
  exact Ze
set_option maxHeartbeats 0 in
theorem queue_search (l : List Job) (id : Int) (H : Heap) (hl : l.length ≤ 1000000) (hs : l.Pairwise (fun a b => a.id < b.id)) :
    AC Tryd.prog 67 [.pl (l.map eJob), .int .i64 id, .fn (.func 68) [] []] H (Ret (.tup [.int .i64 (jobPos l id : Int), .bool (jobHit l id)]) H) := by
  have hle := kpos_le (f := Job.id) l id
  refine AC.body (N := 49) [.tmp 6, .tmp 7] Tryd.func67 rfl rfl rfl (Nat.le_of_ble_eq_true rfl) fun B hB => ?_
  refine Z1i ?_
  refine Z3t ?_
  refine Z14 ?_
  refine Z7 ?_
  refine Za ?_
  refine Z3 ?_
  refine Z3 ?_
  refine Z16 ?_
  refine aw_loop (G := LH) (fun g => g.lo ≤ kpos Job.id l id ∧ kpos Job.id l id ≤ g.hi ∧ g.hi ≤ l.length) (fun g => [(0, .pl (l.map eJob)), (1, .int .i64 id), (2, .fn (.func 68) [] []), (8, .int .i64 ((l.map eJob).length : Int)), (9, .int .i64 (g.lo : Int)), (10, .int .i64 (g.hi : Int))]) (fun _ => H ++ []) (fun g => g.hi - g.lo) ⟨0, (l.map eJob).length⟩ ⟨Nat.zero_le _, by simp only [List.length_map]; exact hle, by simp⟩ (by repeat (first | exact Sub.nil | refine Sub.cons (by first | rfl | (simp [get]; done)) ?_)) (Fit.refl _ _) ?_
  rintro ⟨lo, hi⟩ ⟨i1, i2, i3⟩
  simp only at i1 i2 i3 ⊢
  refine Z1w ?_
  refine Z17 ?_
  refine aw_cond rfl (fun hc => ?_) (fun hc => ?_)
  · have hlt : lo < hi := by simpa using hc
    obtain ⟨x, hx, hxl⟩ := get_in (l := l) (k := (lo + hi) / 2) (by omega)
    have hr := map_get eJob hx
    refine Z1w ?_
    refine Z89 ?_
    refine Z8a ?_
    refine Z8b ?_
    refine Z8c ?_
    refine Z7 ?_
    refine Z1j ?_
    refine Z68 ?_
    refine Z31 ?_
    refine Z8n ?_
    refine Za ?_
    refine ao_retv (queue_find_1 x id _) rfl rfl (by decide) ?_
    refine Z17 ?_
    refine aw_cond rfl (fun hc => ?_) (fun hc => ?_)
    · have hk : x.id < id := by simp only [decide_eq_true_eq] at hc; unfold cmpI at hc; split at hc <;> first | assumption | (split at hc <;> omega)
      have hp : (lo + hi) / 2 + 1 ≤ kpos Job.id l id := by
        rcases Nat.lt_or_ge ((lo + hi) / 2) (kpos Job.id l id) with h | h
        · omega
        · have := kpos_ge hs h hx; omega
      refine Zy ?_
      refine Z8d ?_
      refine Zc ?_
      exact ⟨⟨(lo + hi) / 2 + 1, hi⟩, by simp only; omega, ⟨hp, i2, i3⟩, (by repeat (first | exact Sub.nil | refine Sub.cons (by first | rfl | (simp [get]; done)) ?_)), .refl _ _⟩
    · have hk : id ≤ x.id := by simp only [decide_eq_false_iff_not] at hc; unfold cmpI at hc; split at hc <;> first | (exfalso; exact hc (by decide)) | omega
      have hp : kpos Job.id l id ≤ (lo + hi) / 2 := by
        rcases Nat.lt_or_ge ((lo + hi) / 2) (kpos Job.id l id) with h | h
        · have := kpos_lt (f := Job.id) h hx; omega
        · exact h
      refine Z1k ?_
      exact ⟨⟨lo, (lo + hi) / 2⟩, by simp only; omega, ⟨i1, hp, by simp only; omega⟩, (by repeat (first | exact Sub.nil | refine Sub.cons (by first | rfl | (simp [get]; done)) ?_)), .refl _ _⟩
  · have hlt : ¬ lo < hi := by simpa using hc
    obtain rfl : lo = kpos Job.id l id := by omega
    have hml : (l.map eJob).length = l.length := by simp
    clear hc
    refine Z1 ?_
    refine aw_joinQ ([(6, .int .i64 (jobPos l id : Int)), (7, .bool (jobHit l id))]) (H ++ []) ?_ ?_
    · by_cases hn : kpos Job.id l id < l.length
      · obtain ⟨x, hx, hxl⟩ := get_in hn
        have hr := map_get eJob hx
        have hh : jobHit l id = (cmpI x.id id == 0) := by
          rw [jobHit, show jobPos l id = kpos Job.id l id from rfl, decide_eq_true hn, Bool.true_and, jobId_get hx, Bool.eq_iff_iff]
          unfold cmpI
          simp only [decide_eq_true_eq, beq_iff_eq]
          split
          · omega
          · split <;> omega
        refine Zy ?_
        refine Z1t ?_
        refine Zv ?_
        refine ao_split rfl rfl (fun hg4 => ?_) (fun hg4 => ?_)
        · refine Z8e ?_
          refine Z4s ?_
          refine Zl ?_
          refine Z8f ?_
          refine Z3i ?_
          refine Zl ?_
          refine ao_y rfl rfl (by decide) (V2.callv (queue_find_1 x id _) rfl rfl) ?_
          refine Z3d ?_
          refine Z8i ?_
          (first | (exfalso; simp at hg4; omega) | exact join_nrm (by rw [hh]; exact (by repeat (first | exact Sub.nil | refine Sub.cons (by first | rfl | (simp [get]; done)) ?_))) (.inl rfl))
        · refine Z3c ?_
          refine Z3c ?_
          refine Z8i ?_
          (first | (exfalso; simp at hg4; omega) | exact join_nrm (by rw [hh]; exact (by repeat (first | exact Sub.nil | refine Sub.cons (by first | rfl | (simp [get]; done)) ?_))) (.inl rfl))
      · have hh : jobHit l id = false := by rw [jobHit, show jobPos l id = kpos Job.id l id from rfl, decide_eq_false hn, Bool.false_and]
        refine Zy ?_
        refine Z1t ?_
        refine Zv ?_
        refine ao_split rfl rfl (fun hg4 => ?_) (fun hg4 => ?_)
        · exfalso; simp at hg4; omega
        · refine Z3c ?_
          refine Z3c ?_
          refine Z8i ?_
          (exact join_nrm (by rw [hh]; exact (by repeat (first | exact Sub.nil | refine Sub.cons (by first | rfl | (simp [get]; done)) ?_))) (.inl rfl))
    refine Z1 ?_
    exact Z8j
theorem queue_find (l : List Job) (id : Int) (H : Heap) (hl : l.length ≤ 1000000) (hs : l.Pairwise (fun a b => a.id < b.id)) : AC Tryd.prog 48 [.pl (l.map eJob), .int .i64 id] H (Ret (.tup [.int .i64 (jobPos l id : Int), .bool (jobHit l id)]) H) := by
  refine AC.body (N := 11) [.tmp 4, .tmp 5] Tryd.func48 rfl rfl rfl (Nat.le_of_ble_eq_true rfl) fun B hB => ?_
  refine Z1i ?_
  refine Z3t ?_
  refine Za ?_
  refine ao_ret (queue_search _ _ _ (by omega) (by assumption)) rfl (by decide) ?_
  refine Z11 ?_
  refine Z3z ?_
  refine Z3 ?_
  refine Zg ?_
  exact Z8j
theorem jobs_len (l : List Job) : ∀ r ∈ l.map eJob, r.length = 13 := rows_len (e := eJob) (n := 13) (fun _ => rfl) l
theorem jobs_bel (n : Nat) (l : List Job) : ∀ r ∈ l.map eJob, AV.bels n r = true := rows_bel (e := eJob) (fun _ => rfl) l
set_option maxHeartbeats 0 in
theorem queue_Right (l : List Job) (H : Heap) (hl : l.length ≤ 1000000) : AC Tryd.prog 28 [.pl (l.map eJob)] H (Ret (.bool (jobsR l)) H) := by
  refine AC.body (N := 67) [.tmp 2] Tryd.func28 rfl rfl rfl (Nat.le_of_ble_eq_true rfl) fun B hB => ?_
  refine Z3u ?_
  refine Z2x ?_
  refine aw_cond rfl (fun hc => ?_) (fun hc => ?_)
  · have h64 : ¬ l.length ≤ 64 := by simp at hc; omega
    refine Zh ?_
    rw [show jobsR l = false by rw [jobsR, decide_eq_false h64, Bool.false_and]]
    exact Zd
  have h64 : l.length ≤ 64 := by simp at hc; omega
  rw [show jobsR l = allI (jobB l) l.length by rw [jobsR, decide_eq_true h64, Bool.true_and]]
  refine Z67 ?_
  refine aw_loop (G := Nat) (fun i => i ≤ l.length ∧ ∀ k, k < i → jobB l k = true) (fun i => [(0, .pl (l.map eJob)), (12, .pl (l.map eJob)), (13, .int .i64 (l.length : Int)), (14, .int .i64 (i : Int))]) (fun _ => H ++ []) (fun i => l.length - i) 0 ⟨Nat.zero_le _, fun k hk => by omega⟩ (by repeat (first | exact Sub.nil | refine Sub.cons (by first | rfl | (simp [get]; done)) ?_)) (Fit.refl _ _) ?_
  rintro i ⟨hi, hno⟩
  refine Z30 ?_
  refine aw_cond rfl (fun hc => ?_) (fun hc => ?_)
  · have hlt : i < l.length := by simp at hc; omega
    obtain ⟨j, hj, hjl⟩ := get_in hlt
    have hr := map_get eJob hj
    have hB2 := jobB_get hj
    have hno0 := hno
    have hli : ((l.map eJob).take i) = (l.take i).map eJob := by rw [List.map_take]
    have hs := jobs_take_sorted h64 hno
    have htl : (l.take i).length ≤ 1000000 := by rw [List.length_take]; omega
    clear hno hc
    refine Z4v ?_
    refine Z8n ?_
    refine Z8o ?_
    refine Z3 ?_
    refine Z8p ?_
    refine Z5 ?_
    clear hr
    refine Z1 ?_
    refine aw_joinQ ([(0, .pl (l.map eJob)), (3, .int .i64 (i : Int)), (4, .pt (Lid H.length 0) 0 0 0), (12, .pl (l.map eJob)), (13, .int .i64 (l.length : Int)), (14, .int .i64 (i : Int)), (47, .bool (!(jright j && !(decide (0 < i) && (decide (j.id ≤ jobId l (i - 1)) || decide (j.came < (jobAt l (i - 1)).came))))))]) (H ++ [⟨0, 13, [eJob j]⟩]) ?_ ?_
    · by_cases h0 : 0 < i
      · obtain ⟨h1, hh1, _⟩ := get_in (l := l) (k := i - 1) (by omega)
        have hr1 := map_get eJob hh1
        rw [jobId_get hh1, jobAt_get hh1, decide_eq_true h0, Bool.true_and]
        clear hB2 hno0 hj hjl hs hh1
        refine Z1 ?_
        refine aw_of_out 47 (.bool (!(jright j && !((decide (j.id ≤ h1.id) || decide (j.came < h1.came)))))) ?_ ?_
        · refine Z4z ?_
          refine Z8q ?_
          refine Z8r ?_
          refine Z73 ?_
          refine Z43 ?_
          refine aq_split (g := 22) rfl (fun hg3 => ?_) (fun hg3 => ?_)
          · refine Z8s ?_
            refine Z8t ?_
            refine Z8u ?_
            refine Z8v ?_
            refine Z8w ?_
            refine Z8x ?_
            refine Z8y ?_
            refine Z8z ?_
            refine Z90 ?_
            refine Z91 ?_
            refine Z92 ?_
            refine Z93 ?_
            refine Z94 ?_
            refine Z95 ?_
            refine Z96 ?_
            refine Z97 ?_
            refine Z98 ?_
            refine Z99 ?_
            refine Z9a ?_
            refine Z9b ?_
            refine Z9c ?_
            refine Z9d ?_
            refine Z9e ?_
            refine Z9f ?_
            refine Z9g ?_
            exact Z9h
          · refine Z9i ?_
            refine Z9j ?_
            refine Z9k ?_
            refine aq_split (g := 25) rfl (fun hg6 => ?_) (fun hg6 => ?_)
            · first | refine aqyp (g := 25) 7 rfl (by decide +kernel) (by decide) rfl rfl (fun G => w_fieldAddr rfl (lk rfl rfl) rfl (by decide)) ?_ | refine aqyp (g := 25) 7 rfl (by decide +kernel) (by decide) rfl rfl (fun G => w_fieldAddrp rfl (by decide)) ?_ | refine aqyp (g := 25) 7 rfl (by decide +kernel) (by decide) rfl rfl (fun G => w_fieldAddr rfl (lkF hF) rfl (by decide)) ?_
              first | refine aqyp (g := 25) 8 rfl (by decide +kernel) (by decide) rfl rfl (fun G => w_load1 (v := .int _ _) rfl (lk rfl rfl) rfl rfl rfl) ?_ | refine aqyp (g := 25) 8 rfl (by decide +kernel) (by decide) rfl rfl (fun G => w_load1 (v := .int _ _) rfl (lk rfl rfl) rfl (zadd hr) rfl) ?_ | refine aqyp (g := 25) 8 rfl (by decide +kernel) (by decide) rfl rfl (fun G => w_load1 (v := .int _ _) rfl (lk rfl rfl) rfl (zadd hr1) rfl) ?_ | refine aqyp (g := 25) 8 rfl (by decide +kernel) (by decide) rfl rfl (fun G => w_load1 (v := .int _ _) rfl (lk rfl rfl) rfl (zadd hr2) rfl) ?_ | refine aqyp (g := 25) 8 rfl (by decide +kernel) (by decide) rfl rfl (fun G => o_load1p (v := .int _ _) rfl hr rfl) ?_ | refine aqyp (g := 25) 8 rfl (by decide +kernel) (by decide) rfl rfl (fun G => o_load1p (v := .int _ _) rfl hr1 rfl) ?_ | refine aqyp (g := 25) 8 rfl (by decide +kernel) (by decide) rfl rfl (fun G => o_load1p (v := .int _ _) rfl hr2 rfl) ?_ | refine aqyp (g := 25) 8 rfl (by decide +kernel) (by decide) rfl rfl (fun G => w_load1 (v := .int _ _) rfl (lkF hF) rfl rfl rfl) ?_
              first | refine aqy0 (g := 25) 9 rfl (by decide +kernel) (by decide) rfl rfl (fun _ => o_move (v := .sl _ _ _ _ _) rfl) ?_ | refine aqy0 (g := 25) 9 rfl (by decide +kernel) (by decide) rfl rfl (fun _ => o_move (v := .pl _) rfl) ?_ | refine aqy0 (g := 25) 9 rfl (by decide +kernel) (by decide) rfl rfl (fun _ => o_move (v := .nsl) rfl) ?_
              refine aqy0 (g := 25) 10 rfl (by decide +kernel) (by decide) rfl rfl (fun _ => o_move (v := .int _ _) rfl) ?_
              refine aqy0 (g := 25) 11 rfl (by decide +kernel) (by decide) rfl rfl (fun _ => o_sub (r := ((i - 1 : Nat) : Int)) rfl rfl (by rw [show (i : Int) - 1 = ((i - 1 : Nat) : Int) by omega]; exact wrap64_ok (by omega) (by omega))) ?_
              refine aqyp (g := 25) 12 rfl (by decide +kernel) (by decide) rfl rfl (fun G => w_indexAddrpN rfl rfl hr1 rfl) ?_
              first | refine aqyp (g := 25) 13 rfl (by decide +kernel) (by decide) rfl rfl (fun G => w_fieldAddr rfl (lk rfl rfl) rfl (by decide)) ?_ | refine aqyp (g := 25) 13 rfl (by decide +kernel) (by decide) rfl rfl (fun G => w_fieldAddrp rfl (by decide)) ?_ | refine aqyp (g := 25) 13 rfl (by decide +kernel) (by decide) rfl rfl (fun G => w_fieldAddr rfl (lkF hF) rfl (by decide)) ?_
              refine aqyp (g := 25) 14 rfl (by decide +kernel) (by decide) rfl rfl (fun G => o_load1p (v := .int _ _) rfl hr1 rfl) ?_
              refine aqy0 (g := 25) 15 rfl (by decide +kernel) (by decide) rfl rfl (fun _ => o_le rfl rfl) ?_
              refine aqy0 (g := 25) 16 rfl (by decide +kernel) (by decide) rfl rfl (fun _ => o_move (v := .bool _) rfl) ?_
              refine aq_split (g := 35) rfl (fun hg16 => ?_) (fun hg16 => ?_)
              · refine aqn0 (g := 35) 17 rfl (by decide +kernel) (by decide) rfl rfl rfl ?_
                refine aqn0 (g := 35) 18 rfl (by decide +kernel) (by decide) rfl rfl rfl ?_
                refine aqn0 (g := 35) 19 rfl (by decide +kernel) (by decide) rfl rfl rfl ?_
                refine aqn0 (g := 35) 20 rfl (by decide +kernel) (by decide) rfl rfl rfl ?_
                refine aqn0 (g := 35) 21 rfl (by decide +kernel) (by decide) rfl rfl rfl ?_
                refine aqn0 (g := 35) 22 rfl (by decide +kernel) (by decide) rfl rfl rfl ?_
                refine aqn0 (g := 35) 23 rfl (by decide +kernel) (by decide) rfl rfl rfl ?_
                refine aqn0 (g := 35) 24 rfl (by decide +kernel) (by decide) rfl rfl rfl ?_
                refine aqn0 (g := 35) 25 rfl (by decide +kernel) (by decide) rfl rfl rfl ?_
                refine Z9l ?_
                refine Z9m ?_
                refine Z9g ?_
                exact Z9h
              · first | refine aqyp (g := 35) 17 rfl (by decide +kernel) (by decide) rfl rfl (fun G => w_fieldAddr rfl (lk rfl rfl) rfl (by decide)) ?_ | refine aqyp (g := 35) 17 rfl (by decide +kernel) (by decide) rfl rfl (fun G => w_fieldAddrp rfl (by decide)) ?_ | refine aqyp (g := 35) 17 rfl (by decide +kernel) (by decide) rfl rfl (fun G => w_fieldAddr rfl (lkF hF) rfl (by decide)) ?_
                first | refine aqyp (g := 35) 18 rfl (by decide +kernel) (by decide) rfl rfl (fun G => w_load1 (v := .int _ _) rfl (lk rfl rfl) rfl rfl rfl) ?_ | refine aqyp (g := 35) 18 rfl (by decide +kernel) (by decide) rfl rfl (fun G => w_load1 (v := .int _ _) rfl (lk rfl rfl) rfl (zadd hr) rfl) ?_ | refine aqyp (g := 35) 18 rfl (by decide +kernel) (by decide) rfl rfl (fun G => w_load1 (v := .int _ _) rfl (lk rfl rfl) rfl (zadd hr1) rfl) ?_ | refine aqyp (g := 35) 18 rfl (by decide +kernel) (by decide) rfl rfl (fun G => w_load1 (v := .int _ _) rfl (lk rfl rfl) rfl (zadd hr2) rfl) ?_ | refine aqyp (g := 35) 18 rfl (by decide +kernel) (by decide) rfl rfl (fun G => o_load1p (v := .int _ _) rfl hr rfl) ?_ | refine aqyp (g := 35) 18 rfl (by decide +kernel) (by decide) rfl rfl (fun G => o_load1p (v := .int _ _) rfl hr1 rfl) ?_ | refine aqyp (g := 35) 18 rfl (by decide +kernel) (by decide) rfl rfl (fun G => o_load1p (v := .int _ _) rfl hr2 rfl) ?_ | refine aqyp (g := 35) 18 rfl (by decide +kernel) (by decide) rfl rfl (fun G => w_load1 (v := .int _ _) rfl (lkF hF) rfl rfl rfl) ?_
                first | refine aqy0 (g := 35) 19 rfl (by decide +kernel) (by decide) rfl rfl (fun _ => o_move (v := .sl _ _ _ _ _) rfl) ?_ | refine aqy0 (g := 35) 19 rfl (by decide +kernel) (by decide) rfl rfl (fun _ => o_move (v := .pl _) rfl) ?_ | refine aqy0 (g := 35) 19 rfl (by decide +kernel) (by decide) rfl rfl (fun _ => o_move (v := .nsl) rfl) ?_
                refine aqy0 (g := 35) 20 rfl (by decide +kernel) (by decide) rfl rfl (fun _ => o_move (v := .int _ _) rfl) ?_
                refine aqy0 (g := 35) 21 rfl (by decide +kernel) (by decide) rfl rfl (fun _ => o_sub (r := ((i - 1 : Nat) : Int)) rfl rfl (by rw [show (i : Int) - 1 = ((i - 1 : Nat) : Int) by omega]; exact wrap64_ok (by omega) (by omega))) ?_
                refine aqyp (g := 35) 22 rfl (by decide +kernel) (by decide) rfl rfl (fun G => w_indexAddrpN rfl rfl hr1 rfl) ?_
                first | refine aqyp (g := 35) 23 rfl (by decide +kernel) (by decide) rfl rfl (fun G => w_fieldAddr rfl (lk rfl rfl) rfl (by decide)) ?_ | refine aqyp (g := 35) 23 rfl (by decide +kernel) (by decide) rfl rfl (fun G => w_fieldAddrp rfl (by decide)) ?_ | refine aqyp (g := 35) 23 rfl (by decide +kernel) (by decide) rfl rfl (fun G => w_fieldAddr rfl (lkF hF) rfl (by decide)) ?_
                refine aqyp (g := 35) 24 rfl (by decide +kernel) (by decide) rfl rfl (fun G => o_load1p (v := .int _ _) rfl hr1 rfl) ?_
                refine aqy0 (g := 35) 25 rfl (by decide +kernel) (by decide) rfl rfl (fun _ => o_lt rfl rfl) ?_
                refine Z9l ?_
                refine Z9m ?_
                refine Z9g ?_
                exact Z9h
            · refine Z9n ?_
              refine Z9o ?_
              refine Z9p ?_
              refine Z9q ?_
              refine Z9r ?_
              refine Z9s ?_
              refine Z9t ?_
              refine Z9u ?_
              refine Z9v ?_
              refine Z9w ?_
              refine Z95 ?_
              refine Z96 ?_
              refine Z97 ?_
              refine Z98 ?_
              refine Z99 ?_
              refine Z9a ?_
              refine Z9b ?_
              refine Z9c ?_
              refine Z9d ?_
              refine Z9x ?_
              refine Z9m ?_
              refine Z9g ?_
              exact Z9h
        exact join_nrm (by repeat (first | exact Sub.nil | refine Sub.cons (by first | rfl | (simp [get]; done)) ?_)) (.inl rfl)
      · rw [decide_eq_false h0, Bool.false_and, Bool.not_false, Bool.and_true]
        clear hB2 hno0 hj hjl hs
        refine Z1 ?_
        refine aw_of_out 47 (.bool (!jright j)) ?_ ?_
        · refine Z4z ?_
          refine Z8q ?_
          refine Z8r ?_
          refine Z73 ?_
          refine Z43 ?_
          refine aq_split (g := 22) rfl (fun hg3 => ?_) (fun hg3 => ?_)
          · refine Z8s ?_
            refine Z8t ?_
            refine Z8u ?_
            refine Z8v ?_
            refine Z8w ?_
            refine Z8x ?_
            refine Z8y ?_
            refine Z8z ?_
            refine Z90 ?_
            refine Z91 ?_
            refine Z92 ?_
            refine Z93 ?_
            refine Z94 ?_
            refine Z95 ?_
            refine Z96 ?_
            refine Z97 ?_
            refine Z98 ?_
            refine Z99 ?_
            refine Z9a ?_
            refine Z9b ?_
            refine Z9c ?_
            refine Z9d ?_
            refine Z9e ?_
            refine Z9f ?_
            refine Z9g ?_
            exact Z9y
          · refine Z9i ?_
            refine Z9j ?_
            refine Z9k ?_
            refine aq_split (g := 25) rfl (fun hg6 => ?_) (fun hg6 => ?_)
            · exfalso; simp at hg6; omega
            · refine Z9n ?_
              refine Z9o ?_
              refine Z9p ?_
              refine Z9q ?_
              refine Z9r ?_
              refine Z9s ?_
              refine Z9t ?_
              refine Z9u ?_
              refine Z9v ?_
              refine Z9w ?_
              refine Z95 ?_
              refine Z96 ?_
              refine Z97 ?_
              refine Z98 ?_
              refine Z99 ?_
              refine Z9a ?_
              refine Z9b ?_
              refine Z9c ?_
              refine Z9d ?_
              refine Z9x ?_
              refine Z9m ?_
              refine Z9g ?_
              exact Z9y
        exact join_nrm (by repeat (first | exact Sub.nil | refine Sub.cons (by first | rfl | (simp [get]; done)) ?_)) (.inl rfl)
    refine Z1 ?_
    refine aw_cond rfl (fun hc => ?_) (fun hc => ?_)
    · have hbad : jobB l i = false := by rw [hB2]; rw [Bool.not_eq_true'] at hc; rw [hc, Bool.false_and]
      refine Zh ?_
      rw [allI_false hlt hbad]
      exact Zd
    have hgd : (jright j && !(decide (0 < i) && (decide (j.id ≤ jobId l (i - 1)) || decide (j.came < (jobAt l (i - 1)).came)))) = true := by simpa only [Bool.not_eq_false'] using hc
    have hjr : jright j = true := by rw [Bool.and_eq_true] at hgd; exact hgd.1
    have hn16 := jright_needs hjr
    rw [hgd, Bool.true_and] at hB2
    clear hc hgd
    refine Z2 ?_
    refine Z2w ?_
    refine Z2z ?_
    refine aw_loop (G := Nat) (fun k => k ≤ j.needs.length ∧ ∀ n ∈ j.needs.take k, jobHit (l.take i) n = true) (fun k => [(0, .pl (l.map eJob)), (3, .int .i64 (i : Int)), (12, .pl (l.map eJob)), (13, .int .i64 (l.length : Int)), (14, .int .i64 (i : Int)), (49, .pl (j.needs.map eI)), (50, .int .i64 (j.needs.length : Int)), (51, .int .i64 (k : Int))]) (fun _ => H ++ [⟨0, 13, [eJob j]⟩]) (fun k => j.needs.length - k) 0 ⟨Nat.zero_le _, by simp⟩ (by repeat (first | exact Sub.nil | refine Sub.cons (by first | rfl | (simp [get]; done)) ?_)) (Fit.refl _ _) ?_
    rintro k ⟨hk, hhit⟩
    refine Z30 ?_
    refine aw_cond rfl (fun hc => ?_) (fun hc => ?_)
    · have hltk : k < j.needs.length := by simpa using hc
      obtain ⟨n, hn, hnl⟩ := get_in hltk
      have hr := map_get eI hn
      refine Z32 ?_
      refine Z21 ?_
      refine Z7 ?_
      refine Z68 ?_
      refine ao1 (by decide) (o_headp (ys := (l.take i).map eJob) rfl (Bd.some rfl rfl) (by simp; omega) (jobs_len _) hli) ?_
      refine Za ?_
      refine ao_ret (queue_find _ _ _ (by omega) (by assumption)) rfl (by decide) ?_
      refine Z3w ?_
      refine Z11 ?_
      refine Z3z ?_
      refine Z3 ?_
      refine Z1f ?_
      refine Zj ?_
      refine Z2k ?_
      refine aw_cond rfl (fun hc => ?_) (fun hc => ?_)
      · have hbad : jobB l i = false := by
          rw [hB2, List.all_eq_false]
          exact ⟨n, hnl, by simpa using hc⟩
        refine Zh ?_
        rw [allI_false hlt hbad]
        exact Zd
      · refine Z3s ?_
        refine ⟨k + 1, by omega, ⟨by omega, ?_⟩, (by repeat (first | exact Sub.nil | refine Sub.cons (by first | rfl | (simp [get]; done)) ?_)), .refl _ _⟩
        rw [take_snoc_get hn]
        intro y hy
        rcases List.mem_append.1 hy with h | h
        · exact hhit y h
        · simp only [List.mem_singleton] at h
          subst h
          simpa using hc
    · have : k = j.needs.length := by simp at hc; omega
      subst this
      rw [List.take_length] at hhit
      have hgood : jobB l i = true := by rw [hB2, List.all_eq_true]; exact hhit
      refine Z3s ?_
      refine ⟨i + 1, by omega, ⟨by omega, fun k hk => ?_⟩, (by repeat (first | exact Sub.nil | refine Sub.cons (by first | rfl | (simp [get]; done)) ?_)), Fit.loc hB (L := []) rfl (by repeat (first | exact EBel.nil | refine EBel.cons (by first | rfl | (simp [AV.bel, AV.bels, Lid]; done) | (simp [AV.bel, AV.bels, Lid]; omega)) ?_)) (fun o ho => by simp at ho)⟩
      rcases Nat.lt_or_eq_of_le (Nat.le_of_lt_succ hk) with h | h
      · exact hno0 k h
      · subst h; exact hgood
  · have : i = l.length := by simp at hc; omega
    subst this
    refine Zh ?_
    rw [allI_true hno]
    exact Zd
end Go.Av

namespace Go.Av
open Go.Proofs
set_option maxRecDepth 10000
set_option linter.unusedSimpArgs false
set_option linter.unusedVariables false

set_option maxHeartbeats 0 in
theorem queue_Counts (l : List Job) (H : Heap) (hl : l.length ≤ 1000000) : AC Tryd.prog 23 [.pl (l.map eJob)] H (Ret (.agg ((jobsCounts l).map (AV.int .i64))) H) := by
  refine AC.body (N := 24) [.cell 2 31] Tryd.func23 rfl rfl rfl (Nat.le_of_ble_eq_true rfl) fun B hB => ?_
  refine Z2 ?_
  refine Z9z ?_
  refine Z6 ?_
  refine Z9z ?_
  refine Z6 ?_
  refine Z2s ?_
  refine ao_ret (queue_Right _ _ (by omega)) rfl (by decide) ?_
  refine Z2k ?_
  refine aw_cond rfl (fun hc => ?_) (fun hc => ?_)
  · have hno : jobsR l = false := by simpa only [Bool.not_eq_true'] using hc
    rw [counts_no hno]
    refine Z2 ?_
    refine Z2j ?_
    refine Za0 ?_
    exact Z6m
  have hyes : jobsR l = true := by simpa only [Bool.not_eq_false'] using hc
  rw [counts_yes hyes]
  clear hc
  refine Z67 ?_
  refine aw_loop (G := Nat) (fun k => k ≤ l.length) (fun k => [(2, .pt (Lid H.length 0) 0 0 0), (3, .pt (Lid H.length 1) 0 0 0), (10, .pl (l.map eJob)), (11, .int .i64 (l.length : Int)), (12, .int .i64 (k : Int))]) (fun k => H ++ [⟨0, 7, [eK7 (fun _ => 0)]⟩, ⟨0, 7, [eK7 (sfun (l.take k))]⟩]) (fun k => l.length - k) 0 (Nat.zero_le _) (by repeat (first | exact Sub.nil | refine Sub.cons (by first | rfl | (simp [get]; done)) ?_)) (.inl rfl) ?_
  intro k hk
  refine Z30 ?_
  refine aw_cond rfl (fun hc => ?_) (fun hc => ?_)
  · have hlt : k < l.length := by simp at hc; omega
    obtain ⟨x, hx, hxl⟩ := get_in hlt
    have hr := map_get eJob hx
    have hstep := fun c => stcnt_step hx c
    obtain ⟨c, hcc, hc7⟩ : ∃ c : Nat, x.state = c ∧ c < 7 := ⟨x.state.toNat, by have := jright_state ((jobs_iff.1 hyes).2.1 x hxl); omega, by have := jright_state ((jobs_iff.1 hyes).2.1 x hxl); omega⟩
    have hb := stcnt_le (l.take k) c
    have hb2 : (l.take k).length ≤ 1000000 := by rw [List.length_take]; omega
    have hcell : (eK7 (sfun (l.take k)))[0 + c * 1]? = some (.int .i64 (sfun (l.take k) c)) := by rw [Nat.zero_add, Nat.mul_one]; exact eK7_get _ hc7
    have hset : (eK7 (sfun (l.take k))).take (0 + c * 1) ++ [AV.int .i64 (sfun (l.take k) c + 1)] ++ (eK7 (sfun (l.take k))).drop (0 + c * 1 + 1) = eK7 (sfun (l.take (k + 1))) := by
      rw [Nat.zero_add, Nat.mul_one, eK7_set _ hc7]
      refine eK7_congr fun j _ => ?_
      simp only [sfun, hstep, hcc]
      by_cases e : j = c
      · subst e; simp
      · have : ¬ (c : Int) = (j : Int) := by omega
        simp [e, this]
    refine Z32 ?_
    refine Z8n ?_
    refine Z8o ?_
    refine Z8p ?_
    refine Z6 ?_
    refine Z22 ?_
    refine Za1 ?_
    refine Z6o ?_
    refine ao1 (by decide) (o_add (r := sfun (l.take k) c + 1) rfl rfl (wrap64_ok (by simp only [sfun]; omega) (by simp only [sfun]; omega))) ?_
    refine Za1 ?_
    refine ao2 (by rintro _ ⟨⟩) (w_storeP (sz := 1) (v := .int .i64 _) (r' := eK7 (sfun (l.take (k + 1)))) rfl rfl rfl rfl rfl rfl rfl rfl (by show _ ≤ 7; omega) hset) ?_
    refine Z6 ?_
    refine Z37 ?_
    exact ⟨k + 1, by omega, by omega, (by repeat (first | exact Sub.nil | refine Sub.cons (by first | rfl | (simp [get]; done)) ?_)), Fit.loc hB rfl (by repeat (first | exact EBel.nil | refine EBel.cons (by first | rfl | (simp [AV.bel, AV.bels, Lid]; done) | (simp [AV.bel, AV.bels, Lid]; omega)) ?_)) (by intro o ho r hr; simp only [List.mem_cons, List.not_mem_nil, or_false] at ho; rcases ho with rfl | rfl <;> (simp only [List.mem_singleton] at hr; subst hr; rfl))⟩
  · have : k = l.length := by simp at hc; omega
    subst this
    refine Z2 ?_
    refine Z2j ?_
    refine Za0 ?_
    refine Zb ?_
    rw [List.take_length]
    exact Z6l

theorem inst_policy (p d : Int) (H : Heap) : AC Tryd.prog 27 [.int .i64 p, .int .i64 d] H (Ret (.bool (ipolicy p d)) H) := by
  refine AC.body (N := 19) [.tmp 4] Tryd.func27 rfl rfl rfl (Nat.le_of_ble_eq_true rfl) fun B hB => ?_
  refine Zh ?_
  refine aw_out 4 (.bool (ipolicy p d)) ?_ ?_
  · refine Za ?_
    refine Z1s ?_
    refine ao_split rfl rfl (fun hg2 => ?_) (fun hg2 => ?_)
    · refine Zx ?_
      refine Z27 ?_
      refine ao_split rfl rfl (fun hg6 => ?_) (fun hg6 => ?_)
      · refine Zl ?_
        refine Z35 ?_
        refine Z27 ?_
        refine ao_split rfl rfl (fun hg10 => ?_) (fun hg10 => ?_)
        · refine Zx ?_
          refine Zo ?_
          exact Za2
        · refine Zt ?_
          exact Za2
      · refine Z3m ?_
        refine Zt ?_
        exact Za2
    · refine Z3m ?_
      refine Z3m ?_
      refine Zt ?_
      exact Za2
  exact Z1o
theorem inst_things (g : List Thing) (l : List Int) (H : Heap) (hg : g.length ≤ 1000000) (hl : l.length ≤ 1000000) : AC Tryd.prog 25 [.pl (g.map eThing), .pl (l.map eInt)] H (Ret (.bool (ithings g l)) H) := by
  refine AC.body (N := 23) [.tmp 4] Tryd.func25 rfl rfl rfl (Nat.le_of_ble_eq_true rfl) fun B hB => ?_
  refine Z2 ?_
  refine Z41 ?_
  by_cases h0 : l.length = 0
  · refine Z1 ?_
    refine aw_out 4 (.bool (ithings g l)) ?_ ?_
    · refine Z2s ?_
      refine Za3 ?_
      refine Zj ?_
      refine ao_split rfl rfl (fun hg2 => ?_) (fun hg2 => ?_)
      · refine Z4u ?_
        refine Z3d ?_
        refine Z2h ?_
        refine ao_split rfl rfl (fun hg6 => ?_) (fun hg6 => ?_)
        · refine Z33 ?_
          refine Z4q ?_
          refine Z6e ?_
          refine Zo ?_
          exact Za4
        · exfalso; have := List.eq_nil_of_length_eq_zero h0; subst this; simp at hg6
      · refine Z3c ?_
        refine Z6c ?_
        refine Z6c ?_
        refine Z6a ?_
        refine Zr ?_
        refine Zo ?_
        exact Za4
    exact Z1o
  · obtain ⟨x, hx, hxl⟩ := get_in (l := l) (k := l.length - 1) (by omega)
    have hr := map_get eInt hx
    have hd : l.getD (l.length - 1) 0 = x := by rw [List.getD_eq_getElem?_getD, hx]; rfl
    have hs : ithings g l = (sok l && decide (x < (g.length : Int))) := by rw [ithings, hd, decide_eq_false h0, Bool.false_or]
    rw [hs]
    refine Z1 ?_
    refine aw_out 4 (.bool (sok l && decide (x < (g.length : Int)))) ?_ ?_
    · refine Z2s ?_
      refine Za3 ?_
      refine Zj ?_
      refine ao_split rfl rfl (fun hg2 => ?_) (fun hg2 => ?_)
      · refine Z4u ?_
        refine Z3d ?_
        refine Z2h ?_
        refine ao_split rfl rfl (fun hg6 => ?_) (fun hg6 => ?_)
        · refine Z33 ?_
          refine Z4q ?_
          refine Z6e ?_
          refine Zo ?_
          exact Za5
        · refine Z4s ?_
          refine Z4u ?_
          refine ao_y1 rfl rfl (by decide) (o_sub (r := ((l.length - 1 : Nat) : Int)) rfl rfl (by rw [List.length_map, show (l.length : Int) - 1 = ((l.length - 1 : Nat) : Int) by omega]; exact wrap64_ok (by omega) (by omega))) ?_
          refine Z8f ?_
          refine Z24 ?_
          refine Z4u ?_
          refine Zm ?_
          refine Z6e ?_
          refine Zo ?_
          exact Za5
      · refine Z3c ?_
        refine Z6c ?_
        refine Z6c ?_
        refine Z6a ?_
        refine Zr ?_
        refine Zo ?_
        exact Za5
    exact Z1o
abbrev eInst (i : Inst) : List AV := [.pl (i.graph.map eThing), .pl (i.health.map eI), .pl (i.lease.map eI), .int .i64 i.til, .pl (i.jobs.map eJob), .pl (i.table.map eHeld), .int .i64 i.now, .int .i64 i.policy, .int .i64 i.depth]
set_option maxHeartbeats 0 in
theorem inst_told (i : Inst) (H : Heap) (hw : IW i) : AC Tryd.prog 30 [.agg (eInst i)] H (Ret (.bool (itold i)) H) := by
  have w1 := hw.graph
  have w2 := hw.jobs
  have w3 := hw.table
  refine AC.body (N := 80) [.tmp 2] Tryd.func30 rfl rfl rfl (Nat.le_of_ble_eq_true rfl) fun B hB => ?_
  refine Za7 ?_
  refine Z1f ?_
  refine Z7 ?_
  refine Z2w ?_
  refine Z2z ?_
  refine aw_loop (G := Nat) (fun k => k ≤ i.jobs.length ∧ ∀ m, m < k → itoldB i m = true) (fun k => [(1, .pt (Lid H.length 0) 0 0 0), (3, .int .i64 (runs (i.jobs.take k) : Int)), (9, .pl (i.jobs.map eJob)), (10, .int .i64 (i.jobs.length : Int)), (11, .int .i64 (k : Int))]) (fun _ => H ++ [⟨0, 9, [eInst i]⟩]) (fun k => i.jobs.length - k) 0 ⟨Nat.zero_le _, fun m hm => by omega⟩ (by repeat (first | exact Sub.nil | refine Sub.cons (by first | rfl | (simp [get]; done)) ?_)) (Fit.refl _ _) ?_
  rintro k ⟨hk, hno⟩
  have hbel : ∀ (b : Nat), ∀ o ∈ [AObj.mk 0 9 [eInst i]], ∀ r ∈ o.rows, AV.bels b r = true := by
    intro b o ho r hr
    simp only [List.mem_singleton] at ho
    subst ho
    simp only [List.mem_singleton] at hr
    subst hr
    rfl
  refine Z30 ?_
  refine aw_cond rfl (fun hc => ?_) (fun hc => ?_)
  · have hlt : k < i.jobs.length := by simp at hc; omega
    obtain ⟨j, hj, hjl⟩ := get_in hlt
    have hr := map_get eJob hj
    have hB2 := itoldB_get hj
    have hstep := runs_step hj
    have hrl := runs_le (i.jobs.take k)
    rw [List.length_take] at hrl
    have hno0 := hno
    have hget := heldGet_len w3 j.id
    clear hno hc
    refine Z32 ?_
    refine Z8n ?_
    refine Z8o ?_
    refine Z8p ?_
    refine Z5 ?_
    clear hr
    refine Z1 ?_
    refine aw_out 26 (.bool (!(decide (j.came ≤ i.now) && decide (j.frm ≤ i.now)))) ?_ ?_
    · refine Z22 ?_
      refine Z22 ?_
      refine Z1x ?_
      refine Zj ?_
      refine ao_split rfl rfl (fun hg5 => ?_) (fun hg5 => ?_)
      · refine Z4q ?_
        refine Zn ?_
        exact Za8
      · refine Z25 ?_
        refine Z25 ?_
        refine Z2f ?_
        refine Zn ?_
        exact Za8
    refine Z1 ?_
    refine aw_cond rfl (fun hc => ?_) (fun hc => ?_)
    · have hbad : itoldB i k = false := by rw [Bool.not_eq_true'] at hc; rw [hB2, hc, Bool.false_and]
      refine Zh ?_
      rw [show itold i = false by rw [itold, allI_false hlt hbad, Bool.false_and]]
      exact Zd
    have h1 : (decide (j.came ≤ i.now) && decide (j.frm ≤ i.now)) = true := by simpa only [Bool.not_eq_false'] using hc
    rw [h1, Bool.true_and] at hB2
    clear hc
    refine Z2 ?_
    refine Z22 ?_
    refine Z1u ?_
    refine Zb ?_
    refine aw_cond rfl (fun hc => ?_) (fun hc => ?_)
    · have h2 : j.state ≠ 2 := by simpa using hc
      rw [decide_eq_true h2, Bool.true_or] at hB2
      rw [if_neg (by simpa using h2), Nat.add_zero] at hstep
      refine Z3s ?_
      refine ⟨k + 1, by omega, ⟨by omega, fun m hm => ?_⟩, by rw [hstep]; exact (by repeat (first | exact Sub.nil | refine Sub.cons (by first | rfl | (simp [get]; done)) ?_)), Fit.loc hB rfl (by repeat (first | exact EBel.nil | refine EBel.cons (by first | rfl | (simp [AV.bel, AV.bels, Lid]; done) | (simp [AV.bel, AV.bels, Lid]; omega)) ?_)) (hbel _)⟩
      rcases Nat.lt_or_eq_of_le (Nat.le_of_lt_succ hm) with h | h
      · exact hno0 m h
      · subst h; exact hB2
    have h2 : j.state = 2 := by simpa using hc
    rw [if_pos (by simpa using h2)] at hstep
    rw [show decide (j.state ≠ 2) = false by simp [h2], Bool.false_or] at hB2
    refine Zy ?_
    refine ao1 (by decide) (o_add (r := ((runs (i.jobs.take k) + 1 : Nat) : Int)) rfl rfl (by rw [show (runs (i.jobs.take k) : Int) + 1 = ((runs (i.jobs.take k) + 1 : Nat) : Int) by omega]; exact wrap64_ok (by omega) (by omega))) ?_
    refine Z7 ?_
    refine Z2w ?_
    refine Z22 ?_
    refine ao_ret (held_Get _ _ _ (by assumption)) rfl (by decide) ?_
    refine Z3y ?_
    refine Z40 ?_
    refine Z70 ?_
    refine Z41 ?_
    generalize heldGet i.table j.id = q at hB2 hget ⊢
    obtain ⟨h, ok⟩ := q
    simp only at hB2 hget
    clear hj hjl
    refine Z1 ?_
    refine aw_of_out 73 (.bool (!itoldB i k)) ?_ ?_
    · refine Za9 ?_
      refine Z19 ?_
      refine Z4b ?_
      refine aq0 1 rfl (by decide +kernel) (by decide) (fun _ => o_not rfl) ?_
      refine Z42 ?_
      refine aq_split (g := 42) rfl (fun hg2 => ?_) (fun hg2 => ?_)
      · refine aqn0 (g := 42) 3 rfl (by decide +kernel) (by decide) rfl rfl rfl ?_
        refine aqn0 (g := 42) 4 rfl (by decide +kernel) (by decide) rfl rfl rfl ?_
        refine aqn0 (g := 42) 5 rfl (by decide +kernel) (by decide) rfl rfl rfl ?_
        refine aqn0 (g := 42) 6 rfl (by decide +kernel) (by decide) rfl rfl rfl ?_
        refine aqn0 (g := 42) 7 rfl (by decide +kernel) (by decide) rfl rfl rfl ?_
        refine Z57 ?_
        refine Zaa ?_
        refine Zab ?_
        refine Zac ?_
        refine Zad ?_
        refine Zae ?_
        refine Zaf ?_
        refine Zag ?_
        refine Zah ?_
        refine Zai ?_
        refine Zaj ?_
        refine Zak ?_
        refine Zal ?_
        refine Zam ?_
        refine Zan ?_
        refine Zao ?_
        refine Zap ?_
        refine Zaq ?_
        refine Zar ?_
        refine Zas ?_
        refine Zat ?_
        refine Zau ?_
        refine Zav ?_
        refine Zaw ?_
        refine Zax ?_
        exact Zay
      · first | refine aqyp (g := 42) 3 rfl (by decide +kernel) (by decide) rfl rfl (fun G => w_fieldAddr rfl (lk rfl rfl) rfl (by decide)) ?_ | refine aqyp (g := 42) 3 rfl (by decide +kernel) (by decide) rfl rfl (fun G => w_fieldAddrp rfl (by decide)) ?_ | refine aqyp (g := 42) 3 rfl (by decide +kernel) (by decide) rfl rfl (fun G => w_fieldAddr rfl (lkF hF) rfl (by decide)) ?_
        first | refine aqyp (g := 42) 4 rfl (by decide +kernel) (by decide) rfl rfl (fun G => w_load1 (v := .int _ _) rfl (lk rfl rfl) rfl rfl rfl) ?_ | refine aqyp (g := 42) 4 rfl (by decide +kernel) (by decide) rfl rfl (fun G => w_load1 (v := .int _ _) rfl (lk rfl rfl) rfl (zadd hr) rfl) ?_ | refine aqyp (g := 42) 4 rfl (by decide +kernel) (by decide) rfl rfl (fun G => w_load1 (v := .int _ _) rfl (lk rfl rfl) rfl (zadd hr1) rfl) ?_ | refine aqyp (g := 42) 4 rfl (by decide +kernel) (by decide) rfl rfl (fun G => w_load1 (v := .int _ _) rfl (lk rfl rfl) rfl (zadd hr2) rfl) ?_ | refine aqyp (g := 42) 4 rfl (by decide +kernel) (by decide) rfl rfl (fun G => o_load1p (v := .int _ _) rfl hr rfl) ?_ | refine aqyp (g := 42) 4 rfl (by decide +kernel) (by decide) rfl rfl (fun G => o_load1p (v := .int _ _) rfl hr1 rfl) ?_ | refine aqyp (g := 42) 4 rfl (by decide +kernel) (by decide) rfl rfl (fun G => o_load1p (v := .int _ _) rfl hr2 rfl) ?_ | refine aqyp (g := 42) 4 rfl (by decide +kernel) (by decide) rfl rfl (fun G => w_load1 (v := .int _ _) rfl (lkF hF) rfl rfl rfl) ?_
        first | refine aqyp (g := 42) 5 rfl (by decide +kernel) (by decide) rfl rfl (fun G => w_fieldAddr rfl (lk rfl rfl) rfl (by decide)) ?_ | refine aqyp (g := 42) 5 rfl (by decide +kernel) (by decide) rfl rfl (fun G => w_fieldAddrp rfl (by decide)) ?_ | refine aqyp (g := 42) 5 rfl (by decide +kernel) (by decide) rfl rfl (fun G => w_fieldAddr rfl (lkF hF) rfl (by decide)) ?_
        first | refine aqyp (g := 42) 6 rfl (by decide +kernel) (by decide) rfl rfl (fun G => w_load1 (v := .int _ _) rfl (lk rfl rfl) rfl rfl rfl) ?_ | refine aqyp (g := 42) 6 rfl (by decide +kernel) (by decide) rfl rfl (fun G => w_load1 (v := .int _ _) rfl (lk rfl rfl) rfl (zadd hr) rfl) ?_ | refine aqyp (g := 42) 6 rfl (by decide +kernel) (by decide) rfl rfl (fun G => w_load1 (v := .int _ _) rfl (lk rfl rfl) rfl (zadd hr1) rfl) ?_ | refine aqyp (g := 42) 6 rfl (by decide +kernel) (by decide) rfl rfl (fun G => w_load1 (v := .int _ _) rfl (lk rfl rfl) rfl (zadd hr2) rfl) ?_ | refine aqyp (g := 42) 6 rfl (by decide +kernel) (by decide) rfl rfl (fun G => o_load1p (v := .int _ _) rfl hr rfl) ?_ | refine aqyp (g := 42) 6 rfl (by decide +kernel) (by decide) rfl rfl (fun G => o_load1p (v := .int _ _) rfl hr1 rfl) ?_ | refine aqyp (g := 42) 6 rfl (by decide +kernel) (by decide) rfl rfl (fun G => o_load1p (v := .int _ _) rfl hr2 rfl) ?_ | refine aqyp (g := 42) 6 rfl (by decide +kernel) (by decide) rfl rfl (fun G => w_load1 (v := .int _ _) rfl (lkF hF) rfl rfl rfl) ?_
        refine aqy0 (g := 42) 7 rfl (by decide +kernel) (by decide) rfl rfl (fun _ => o_ne rfl rfl) ?_
        refine Z57 ?_
        refine aq_split (g := 49) rfl (fun hg9 => ?_) (fun hg9 => ?_)
        · refine Zaa ?_
          refine Zab ?_
          refine Zac ?_
          refine Zad ?_
          refine Zae ?_
          refine Zaf ?_
          refine Zag ?_
          refine Zah ?_
          refine Zai ?_
          refine Zaj ?_
          refine Zak ?_
          refine Zal ?_
          refine Zam ?_
          refine Zan ?_
          refine Zao ?_
          refine Zap ?_
          refine Zaq ?_
          refine Zar ?_
          refine Zas ?_
          refine Zat ?_
          refine Zau ?_
          refine Zav ?_
          refine Zaw ?_
          refine Zax ?_
          exact Zay
        · first | refine aqyp (g := 49) 10 rfl (by decide +kernel) (by decide) rfl rfl (fun G => w_fieldAddr rfl (lk rfl rfl) rfl (by decide)) ?_ | refine aqyp (g := 49) 10 rfl (by decide +kernel) (by decide) rfl rfl (fun G => w_fieldAddrp rfl (by decide)) ?_ | refine aqyp (g := 49) 10 rfl (by decide +kernel) (by decide) rfl rfl (fun G => w_fieldAddr rfl (lkF hF) rfl (by decide)) ?_
          first | refine aqyp (g := 49) 11 rfl (by decide +kernel) (by decide) rfl rfl (fun G => w_load1 (v := .int _ _) rfl (lk rfl rfl) rfl rfl rfl) ?_ | refine aqyp (g := 49) 11 rfl (by decide +kernel) (by decide) rfl rfl (fun G => w_load1 (v := .int _ _) rfl (lk rfl rfl) rfl (zadd hr) rfl) ?_ | refine aqyp (g := 49) 11 rfl (by decide +kernel) (by decide) rfl rfl (fun G => w_load1 (v := .int _ _) rfl (lk rfl rfl) rfl (zadd hr1) rfl) ?_ | refine aqyp (g := 49) 11 rfl (by decide +kernel) (by decide) rfl rfl (fun G => w_load1 (v := .int _ _) rfl (lk rfl rfl) rfl (zadd hr2) rfl) ?_ | refine aqyp (g := 49) 11 rfl (by decide +kernel) (by decide) rfl rfl (fun G => o_load1p (v := .int _ _) rfl hr rfl) ?_ | refine aqyp (g := 49) 11 rfl (by decide +kernel) (by decide) rfl rfl (fun G => o_load1p (v := .int _ _) rfl hr1 rfl) ?_ | refine aqyp (g := 49) 11 rfl (by decide +kernel) (by decide) rfl rfl (fun G => o_load1p (v := .int _ _) rfl hr2 rfl) ?_ | refine aqyp (g := 49) 11 rfl (by decide +kernel) (by decide) rfl rfl (fun G => w_load1 (v := .int _ _) rfl (lkF hF) rfl rfl rfl) ?_
          first | refine aqyp (g := 49) 12 rfl (by decide +kernel) (by decide) rfl rfl (fun G => w_fieldAddr rfl (lk rfl rfl) rfl (by decide)) ?_ | refine aqyp (g := 49) 12 rfl (by decide +kernel) (by decide) rfl rfl (fun G => w_fieldAddrp rfl (by decide)) ?_ | refine aqyp (g := 49) 12 rfl (by decide +kernel) (by decide) rfl rfl (fun G => w_fieldAddr rfl (lkF hF) rfl (by decide)) ?_
          first | refine aqyp (g := 49) 13 rfl (by decide +kernel) (by decide) rfl rfl (fun G => w_loadR rfl (lk rfl rfl) rfl rfl rfl) ?_ | refine aqyp (g := 49) 13 rfl (by decide +kernel) (by decide) rfl rfl (fun G => w_loadR rfl (lk rfl rfl) rfl (zadd hr) rfl) ?_ | refine aqyp (g := 49) 13 rfl (by decide +kernel) (by decide) rfl rfl (fun G => w_loadR rfl (lk rfl rfl) rfl (zadd hr1) rfl) ?_ | refine aqyp (g := 49) 13 rfl (by decide +kernel) (by decide) rfl rfl (fun G => w_loadR rfl (lk rfl rfl) rfl (zadd hr2) rfl) ?_ | refine aqyp (g := 49) 13 rfl (by decide +kernel) (by decide) rfl rfl (fun G => w_loadRp rfl hr rfl) ?_ | refine aqyp (g := 49) 13 rfl (by decide +kernel) (by decide) rfl rfl (fun G => w_loadRp rfl hr1 rfl) ?_ | refine aqyp (g := 49) 13 rfl (by decide +kernel) (by decide) rfl rfl (fun G => w_loadRp rfl hr2 rfl) ?_ | refine aqyp (g := 49) 13 rfl (by decide +kernel) (by decide) rfl rfl (fun G => w_loadN (cs := [_, _, _, _, _, _, _]) rfl (lk rfl rfl) rfl rfl rfl rfl) ?_ | refine aqyp (g := 49) 13 rfl (by decide +kernel) (by decide) rfl rfl (fun G => o_loadNp (cs := [_, _, _, _, _, _, _]) rfl hr rfl rfl) ?_ | refine aqyp (g := 49) 13 rfl (by decide +kernel) (by decide) rfl rfl (fun G => o_loadNp (cs := [_, _, _, _, _, _, _]) rfl hr1 rfl rfl) ?_ | refine aqyp (g := 49) 13 rfl (by decide +kernel) (by decide) rfl rfl (fun G => o_loadNp (cs := [_, _, _, _, _, _, _]) rfl hr2 rfl rfl) ?_ | refine aqyp (g := 49) 13 rfl (by decide +kernel) (by decide) rfl rfl (fun G => w_loadR rfl (lkF hF) rfl rfl rfl) ?_ | refine aqyp (g := 49) 13 rfl (by decide +kernel) (by decide) rfl rfl (fun G => w_loadN (cs := [_, _, _, _, _, _, _]) rfl (lkF hF) rfl rfl rfl rfl) ?_
          first | refine aqyp (g := 49) 14 rfl (by decide +kernel) (by decide) rfl rfl (fun G => w_fieldAddr rfl (lk rfl rfl) rfl (by decide)) ?_ | refine aqyp (g := 49) 14 rfl (by decide +kernel) (by decide) rfl rfl (fun G => w_fieldAddrp rfl (by decide)) ?_ | refine aqyp (g := 49) 14 rfl (by decide +kernel) (by decide) rfl rfl (fun G => w_fieldAddr rfl (lkF hF) rfl (by decide)) ?_
          first | refine aqyp (g := 49) 15 rfl (by decide +kernel) (by decide) rfl rfl (fun G => w_load1 (v := .int _ _) rfl (lk rfl rfl) rfl rfl rfl) ?_ | refine aqyp (g := 49) 15 rfl (by decide +kernel) (by decide) rfl rfl (fun G => w_load1 (v := .int _ _) rfl (lk rfl rfl) rfl (zadd hr) rfl) ?_ | refine aqyp (g := 49) 15 rfl (by decide +kernel) (by decide) rfl rfl (fun G => w_load1 (v := .int _ _) rfl (lk rfl rfl) rfl (zadd hr1) rfl) ?_ | refine aqyp (g := 49) 15 rfl (by decide +kernel) (by decide) rfl rfl (fun G => w_load1 (v := .int _ _) rfl (lk rfl rfl) rfl (zadd hr2) rfl) ?_ | refine aqyp (g := 49) 15 rfl (by decide +kernel) (by decide) rfl rfl (fun G => o_load1p (v := .int _ _) rfl hr rfl) ?_ | refine aqyp (g := 49) 15 rfl (by decide +kernel) (by decide) rfl rfl (fun G => o_load1p (v := .int _ _) rfl hr1 rfl) ?_ | refine aqyp (g := 49) 15 rfl (by decide +kernel) (by decide) rfl rfl (fun G => o_load1p (v := .int _ _) rfl hr2 rfl) ?_ | refine aqyp (g := 49) 15 rfl (by decide +kernel) (by decide) rfl rfl (fun G => w_load1 (v := .int _ _) rfl (lkF hF) rfl rfl rfl) ?_
          refine aqy02 (g := 49) 16 rfl (by decide +kernel) (by decide) rfl rfl (fun _ => V2.call (spec_Ends _ _ _) rfl) ?_
          refine aqy0 (g := 49) 17 rfl (by decide +kernel) (by decide) rfl rfl (fun _ => o_ne rfl rfl) ?_
          refine Zai ?_
          refine Zaj ?_
          refine aq_split (g := 59) rfl (fun hg19 => ?_) (fun hg19 => ?_)
          · refine Zak ?_
            refine Zal ?_
            refine Zam ?_
            refine Zan ?_
            refine Zao ?_
            refine Zap ?_
            refine Zaq ?_
            refine Zar ?_
            refine Zas ?_
            refine Zat ?_
            refine Zau ?_
            refine Zav ?_
            refine Zaw ?_
            refine Zax ?_
            exact Zay
          · first | refine aqyp (g := 59) 20 rfl (by decide +kernel) (by decide) rfl rfl (fun G => w_fieldAddr rfl (lk rfl rfl) rfl (by decide)) ?_ | refine aqyp (g := 59) 20 rfl (by decide +kernel) (by decide) rfl rfl (fun G => w_fieldAddrp rfl (by decide)) ?_ | refine aqyp (g := 59) 20 rfl (by decide +kernel) (by decide) rfl rfl (fun G => w_fieldAddr rfl (lkF hF) rfl (by decide)) ?_
            first | refine aqyp (g := 59) 21 rfl (by decide +kernel) (by decide) rfl rfl (fun G => w_load1 (v := .int _ _) rfl (lk rfl rfl) rfl rfl rfl) ?_ | refine aqyp (g := 59) 21 rfl (by decide +kernel) (by decide) rfl rfl (fun G => w_load1 (v := .int _ _) rfl (lk rfl rfl) rfl (zadd hr) rfl) ?_ | refine aqyp (g := 59) 21 rfl (by decide +kernel) (by decide) rfl rfl (fun G => w_load1 (v := .int _ _) rfl (lk rfl rfl) rfl (zadd hr1) rfl) ?_ | refine aqyp (g := 59) 21 rfl (by decide +kernel) (by decide) rfl rfl (fun G => w_load1 (v := .int _ _) rfl (lk rfl rfl) rfl (zadd hr2) rfl) ?_ | refine aqyp (g := 59) 21 rfl (by decide +kernel) (by decide) rfl rfl (fun G => o_load1p (v := .int _ _) rfl hr rfl) ?_ | refine aqyp (g := 59) 21 rfl (by decide +kernel) (by decide) rfl rfl (fun G => o_load1p (v := .int _ _) rfl hr1 rfl) ?_ | refine aqyp (g := 59) 21 rfl (by decide +kernel) (by decide) rfl rfl (fun G => o_load1p (v := .int _ _) rfl hr2 rfl) ?_ | refine aqyp (g := 59) 21 rfl (by decide +kernel) (by decide) rfl rfl (fun G => w_load1 (v := .int _ _) rfl (lkF hF) rfl rfl rfl) ?_
            first | refine aqyp (g := 59) 22 rfl (by decide +kernel) (by decide) rfl rfl (fun G => w_fieldAddr rfl (lk rfl rfl) rfl (by decide)) ?_ | refine aqyp (g := 59) 22 rfl (by decide +kernel) (by decide) rfl rfl (fun G => w_fieldAddrp rfl (by decide)) ?_ | refine aqyp (g := 59) 22 rfl (by decide +kernel) (by decide) rfl rfl (fun G => w_fieldAddr rfl (lkF hF) rfl (by decide)) ?_
            first | refine aqyp (g := 59) 23 rfl (by decide +kernel) (by decide) rfl rfl (fun G => w_load1 (v := .int _ _) rfl (lk rfl rfl) rfl rfl rfl) ?_ | refine aqyp (g := 59) 23 rfl (by decide +kernel) (by decide) rfl rfl (fun G => w_load1 (v := .int _ _) rfl (lk rfl rfl) rfl (zadd hr) rfl) ?_ | refine aqyp (g := 59) 23 rfl (by decide +kernel) (by decide) rfl rfl (fun G => w_load1 (v := .int _ _) rfl (lk rfl rfl) rfl (zadd hr1) rfl) ?_ | refine aqyp (g := 59) 23 rfl (by decide +kernel) (by decide) rfl rfl (fun G => w_load1 (v := .int _ _) rfl (lk rfl rfl) rfl (zadd hr2) rfl) ?_ | refine aqyp (g := 59) 23 rfl (by decide +kernel) (by decide) rfl rfl (fun G => o_load1p (v := .int _ _) rfl hr rfl) ?_ | refine aqyp (g := 59) 23 rfl (by decide +kernel) (by decide) rfl rfl (fun G => o_load1p (v := .int _ _) rfl hr1 rfl) ?_ | refine aqyp (g := 59) 23 rfl (by decide +kernel) (by decide) rfl rfl (fun G => o_load1p (v := .int _ _) rfl hr2 rfl) ?_ | refine aqyp (g := 59) 23 rfl (by decide +kernel) (by decide) rfl rfl (fun G => w_load1 (v := .int _ _) rfl (lkF hF) rfl rfl rfl) ?_
            refine aqy0 (g := 59) 24 rfl (by decide +kernel) (by decide) rfl rfl (fun _ => o_le rfl rfl) ?_
            refine Zap ?_
            refine Zaq ?_
            refine aq_split (g := 66) rfl (fun hg26 => ?_) (fun hg26 => ?_)
            · refine Zar ?_
              refine Zas ?_
              refine Zat ?_
              refine Zau ?_
              refine Zav ?_
              refine Zaw ?_
              refine Zax ?_
              exact Zay
            · first | refine aqyp (g := 66) 27 rfl (by decide +kernel) (by decide) rfl rfl (fun G => w_fieldAddr rfl (lk rfl rfl) rfl (by decide)) ?_ | refine aqyp (g := 66) 27 rfl (by decide +kernel) (by decide) rfl rfl (fun G => w_fieldAddrp rfl (by decide)) ?_ | refine aqyp (g := 66) 27 rfl (by decide +kernel) (by decide) rfl rfl (fun G => w_fieldAddr rfl (lkF hF) rfl (by decide)) ?_
              first | refine aqyp (g := 66) 28 rfl (by decide +kernel) (by decide) rfl rfl (fun G => w_load1 (v := .sl _ _ _ _ _) rfl (lk rfl rfl) rfl rfl rfl) ?_ | refine aqyp (g := 66) 28 rfl (by decide +kernel) (by decide) rfl rfl (fun G => w_load1 (v := .pl _) rfl (lk rfl rfl) rfl rfl rfl) ?_ | refine aqyp (g := 66) 28 rfl (by decide +kernel) (by decide) rfl rfl (fun G => w_load1 (v := .nsl) rfl (lk rfl rfl) rfl rfl rfl) ?_ | refine aqyp (g := 66) 28 rfl (by decide +kernel) (by decide) rfl rfl (fun G => w_load1 (v := .sl _ _ _ _ _) rfl (lk rfl rfl) rfl (zadd hr) rfl) ?_ | refine aqyp (g := 66) 28 rfl (by decide +kernel) (by decide) rfl rfl (fun G => w_load1 (v := .sl _ _ _ _ _) rfl (lk rfl rfl) rfl (zadd hr1) rfl) ?_ | refine aqyp (g := 66) 28 rfl (by decide +kernel) (by decide) rfl rfl (fun G => w_load1 (v := .sl _ _ _ _ _) rfl (lk rfl rfl) rfl (zadd hr2) rfl) ?_ | refine aqyp (g := 66) 28 rfl (by decide +kernel) (by decide) rfl rfl (fun G => w_load1 (v := .pl _) rfl (lk rfl rfl) rfl (zadd hr) rfl) ?_ | refine aqyp (g := 66) 28 rfl (by decide +kernel) (by decide) rfl rfl (fun G => w_load1 (v := .pl _) rfl (lk rfl rfl) rfl (zadd hr1) rfl) ?_ | refine aqyp (g := 66) 28 rfl (by decide +kernel) (by decide) rfl rfl (fun G => w_load1 (v := .pl _) rfl (lk rfl rfl) rfl (zadd hr2) rfl) ?_ | refine aqyp (g := 66) 28 rfl (by decide +kernel) (by decide) rfl rfl (fun G => w_load1 (v := .nsl) rfl (lk rfl rfl) rfl (zadd hr) rfl) ?_ | refine aqyp (g := 66) 28 rfl (by decide +kernel) (by decide) rfl rfl (fun G => w_load1 (v := .nsl) rfl (lk rfl rfl) rfl (zadd hr1) rfl) ?_ | refine aqyp (g := 66) 28 rfl (by decide +kernel) (by decide) rfl rfl (fun G => w_load1 (v := .nsl) rfl (lk rfl rfl) rfl (zadd hr2) rfl) ?_ | refine aqyp (g := 66) 28 rfl (by decide +kernel) (by decide) rfl rfl (fun G => o_load1p (v := .sl _ _ _ _ _) rfl hr rfl) ?_ | refine aqyp (g := 66) 28 rfl (by decide +kernel) (by decide) rfl rfl (fun G => o_load1p (v := .sl _ _ _ _ _) rfl hr1 rfl) ?_ | refine aqyp (g := 66) 28 rfl (by decide +kernel) (by decide) rfl rfl (fun G => o_load1p (v := .sl _ _ _ _ _) rfl hr2 rfl) ?_ | refine aqyp (g := 66) 28 rfl (by decide +kernel) (by decide) rfl rfl (fun G => o_load1p (v := .pl _) rfl hr rfl) ?_ | refine aqyp (g := 66) 28 rfl (by decide +kernel) (by decide) rfl rfl (fun G => o_load1p (v := .pl _) rfl hr1 rfl) ?_ | refine aqyp (g := 66) 28 rfl (by decide +kernel) (by decide) rfl rfl (fun G => o_load1p (v := .pl _) rfl hr2 rfl) ?_ | refine aqyp (g := 66) 28 rfl (by decide +kernel) (by decide) rfl rfl (fun G => o_load1p (v := .nsl) rfl hr rfl) ?_ | refine aqyp (g := 66) 28 rfl (by decide +kernel) (by decide) rfl rfl (fun G => o_load1p (v := .nsl) rfl hr1 rfl) ?_ | refine aqyp (g := 66) 28 rfl (by decide +kernel) (by decide) rfl rfl (fun G => o_load1p (v := .nsl) rfl hr2 rfl) ?_ | refine aqyp (g := 66) 28 rfl (by decide +kernel) (by decide) rfl rfl (fun G => w_load1 (v := .sl _ _ _ _ _) rfl (lkF hF) rfl rfl rfl) ?_ | refine aqyp (g := 66) 28 rfl (by decide +kernel) (by decide) rfl rfl (fun G => w_load1 (v := .pl _) rfl (lkF hF) rfl rfl rfl) ?_ | refine aqyp (g := 66) 28 rfl (by decide +kernel) (by decide) rfl rfl (fun G => w_load1 (v := .nsl) rfl (lkF hF) rfl rfl rfl) ?_
              first | refine aqyp (g := 66) 29 rfl (by decide +kernel) (by decide) rfl rfl (fun G => w_fieldAddr rfl (lk rfl rfl) rfl (by decide)) ?_ | refine aqyp (g := 66) 29 rfl (by decide +kernel) (by decide) rfl rfl (fun G => w_fieldAddrp rfl (by decide)) ?_ | refine aqyp (g := 66) 29 rfl (by decide +kernel) (by decide) rfl rfl (fun G => w_fieldAddr rfl (lkF hF) rfl (by decide)) ?_
              first | refine aqyp (g := 66) 30 rfl (by decide +kernel) (by decide) rfl rfl (fun G => w_load1 (v := .sl _ _ _ _ _) rfl (lk rfl rfl) rfl rfl rfl) ?_ | refine aqyp (g := 66) 30 rfl (by decide +kernel) (by decide) rfl rfl (fun G => w_load1 (v := .pl _) rfl (lk rfl rfl) rfl rfl rfl) ?_ | refine aqyp (g := 66) 30 rfl (by decide +kernel) (by decide) rfl rfl (fun G => w_load1 (v := .nsl) rfl (lk rfl rfl) rfl rfl rfl) ?_ | refine aqyp (g := 66) 30 rfl (by decide +kernel) (by decide) rfl rfl (fun G => w_load1 (v := .sl _ _ _ _ _) rfl (lk rfl rfl) rfl (zadd hr) rfl) ?_ | refine aqyp (g := 66) 30 rfl (by decide +kernel) (by decide) rfl rfl (fun G => w_load1 (v := .sl _ _ _ _ _) rfl (lk rfl rfl) rfl (zadd hr1) rfl) ?_ | refine aqyp (g := 66) 30 rfl (by decide +kernel) (by decide) rfl rfl (fun G => w_load1 (v := .sl _ _ _ _ _) rfl (lk rfl rfl) rfl (zadd hr2) rfl) ?_ | refine aqyp (g := 66) 30 rfl (by decide +kernel) (by decide) rfl rfl (fun G => w_load1 (v := .pl _) rfl (lk rfl rfl) rfl (zadd hr) rfl) ?_ | refine aqyp (g := 66) 30 rfl (by decide +kernel) (by decide) rfl rfl (fun G => w_load1 (v := .pl _) rfl (lk rfl rfl) rfl (zadd hr1) rfl) ?_ | refine aqyp (g := 66) 30 rfl (by decide +kernel) (by decide) rfl rfl (fun G => w_load1 (v := .pl _) rfl (lk rfl rfl) rfl (zadd hr2) rfl) ?_ | refine aqyp (g := 66) 30 rfl (by decide +kernel) (by decide) rfl rfl (fun G => w_load1 (v := .nsl) rfl (lk rfl rfl) rfl (zadd hr) rfl) ?_ | refine aqyp (g := 66) 30 rfl (by decide +kernel) (by decide) rfl rfl (fun G => w_load1 (v := .nsl) rfl (lk rfl rfl) rfl (zadd hr1) rfl) ?_ | refine aqyp (g := 66) 30 rfl (by decide +kernel) (by decide) rfl rfl (fun G => w_load1 (v := .nsl) rfl (lk rfl rfl) rfl (zadd hr2) rfl) ?_ | refine aqyp (g := 66) 30 rfl (by decide +kernel) (by decide) rfl rfl (fun G => o_load1p (v := .sl _ _ _ _ _) rfl hr rfl) ?_ | refine aqyp (g := 66) 30 rfl (by decide +kernel) (by decide) rfl rfl (fun G => o_load1p (v := .sl _ _ _ _ _) rfl hr1 rfl) ?_ | refine aqyp (g := 66) 30 rfl (by decide +kernel) (by decide) rfl rfl (fun G => o_load1p (v := .sl _ _ _ _ _) rfl hr2 rfl) ?_ | refine aqyp (g := 66) 30 rfl (by decide +kernel) (by decide) rfl rfl (fun G => o_load1p (v := .pl _) rfl hr rfl) ?_ | refine aqyp (g := 66) 30 rfl (by decide +kernel) (by decide) rfl rfl (fun G => o_load1p (v := .pl _) rfl hr1 rfl) ?_ | refine aqyp (g := 66) 30 rfl (by decide +kernel) (by decide) rfl rfl (fun G => o_load1p (v := .pl _) rfl hr2 rfl) ?_ | refine aqyp (g := 66) 30 rfl (by decide +kernel) (by decide) rfl rfl (fun G => o_load1p (v := .nsl) rfl hr rfl) ?_ | refine aqyp (g := 66) 30 rfl (by decide +kernel) (by decide) rfl rfl (fun G => o_load1p (v := .nsl) rfl hr1 rfl) ?_ | refine aqyp (g := 66) 30 rfl (by decide +kernel) (by decide) rfl rfl (fun G => o_load1p (v := .nsl) rfl hr2 rfl) ?_ | refine aqyp (g := 66) 30 rfl (by decide +kernel) (by decide) rfl rfl (fun G => w_load1 (v := .sl _ _ _ _ _) rfl (lkF hF) rfl rfl rfl) ?_ | refine aqyp (g := 66) 30 rfl (by decide +kernel) (by decide) rfl rfl (fun G => w_load1 (v := .pl _) rfl (lkF hF) rfl rfl rfl) ?_ | refine aqyp (g := 66) 30 rfl (by decide +kernel) (by decide) rfl rfl (fun G => w_load1 (v := .nsl) rfl (lkF hF) rfl rfl rfl) ?_
              refine aqy02 (g := 66) 31 rfl (by decide +kernel) (by decide) rfl rfl (fun _ => V2.call (inst_things _ _ _ (by omega) (by omega)) rfl) ?_
              refine aqy0 (g := 66) 32 rfl (by decide +kernel) (by decide) rfl rfl (fun _ => o_not rfl) ?_
              refine Zax ?_
              exact Zay
    refine Z1 ?_
    refine aw_cond rfl (fun hc => ?_) (fun hc => ?_)
    · have hbad : itoldB i k = false := by simpa only [Bool.not_eq_true'] using hc
      refine Zh ?_
      rw [show itold i = false by rw [itold, allI_false hlt hbad, Bool.false_and]]
      exact Zd
    · have hgood : itoldB i k = true := by simpa only [Bool.not_eq_false'] using hc
      refine Z3s ?_
      refine ⟨k + 1, by omega, ⟨by omega, fun m hm => ?_⟩, by rw [hstep]; exact (by repeat (first | exact Sub.nil | refine Sub.cons (by first | rfl | (simp [get]; done)) ?_)), Fit.loc hB rfl (by repeat (first | exact EBel.nil | refine EBel.cons (by first | rfl | (simp [AV.bel, AV.bels, Lid]; done) | (simp [AV.bel, AV.bels, Lid]; omega)) ?_)) (hbel _)⟩
      rcases Nat.lt_or_eq_of_le (Nat.le_of_lt_succ hm) with h | h
      · exact hno0 m h
      · subst h; exact hgood
  · have : k = i.jobs.length := by simp at hc; omega
    subst this
    refine Zy ?_
    refine Z2w ?_
    refine Z14 ?_
    refine Z10 ?_
    rw [List.take_length, show itold i = decide (runs i.jobs = i.table.length) by rw [itold, allI_true hno, Bool.true_and]; rfl]
    exact e_done hB (r_tmp (by refine congrArg AV.bool ?_; rw [Bool.eq_iff_iff]; simp; omega) .nil) rfl rfl
set_option maxHeartbeats 0 in
theorem inst_Right (i : Inst) (H : Heap) (hw : IW i) : AC Tryd.prog 8 [.agg (eInst i)] H (Ret (.bool (iright i)) H) := by
  have w1 := hw.graph
  have w2 := hw.jobs
  have w3 := hw.table
  have w4 := hw.health
  have w5 := hw.lease
  refine AC.body (N := 48) [.tmp 2] Tryd.func8 rfl rfl rfl (Nat.le_of_ble_eq_true rfl) fun B hB => ?_
  refine Za7 ?_
  refine Zg ?_
  refine aw_out 3 (.bool (hright i.graph i.health && ithings i.graph i.lease && tm i.til && tm i.now && ipolicy i.policy i.depth)) ?_ ?_
  · refine Z2w ?_
    refine Z2w ?_
    refine Z6t ?_
    refine Zj ?_
    refine ao_split rfl rfl (fun hg5 => ?_) (fun hg5 => ?_)
    · refine Z6v ?_
      refine Z6v ?_
      refine ao_y rfl rfl (by decide) (V2.call (inst_things _ _ _ (by omega) (by omega)) rfl) ?_
      refine Z27 ?_
      refine ao_split rfl rfl (fun hg12 => ?_) (fun hg12 => ?_)
      · refine Z25 ?_
        refine Z3j ?_
        refine Z27 ?_
        refine ao_split rfl rfl (fun hg17 => ?_) (fun hg17 => ?_)
        · refine Z25 ?_
          refine Z3j ?_
          refine Z27 ?_
          refine ao_split rfl rfl (fun hg22 => ?_) (fun hg22 => ?_)
          · refine Z25 ?_
            refine Z25 ?_
            refine Zaz ?_
            refine Zo ?_
            exact Zb0
          · refine Z3a ?_
            exact Zb0
        · refine Z6x ?_
          exact Zb0
      · refine Z29 ?_
        refine Z6x ?_
        exact Zb0
    · refine Zs ?_
      refine Z29 ?_
      refine Z29 ?_
      refine Z6x ?_
      exact Zb0
  refine Z1 ?_
  refine aw_out 2 (.bool (iright i)) ?_ ?_
  · refine Z2g ?_
    refine ao_split rfl rfl (fun hg1 => ?_) (fun hg1 => ?_)
    · refine Z6v ?_
      refine ao_y rfl rfl (by decide) (V2.call (queue_Right _ _ (by omega)) rfl) ?_
      refine Z27 ?_
      refine ao_split rfl rfl (fun hg6 => ?_) (fun hg6 => ?_)
      · refine Z6v ?_
        refine ao_y rfl rfl (by decide) (V2.call (held_Right _ _ (by assumption)) rfl) ?_
        refine Z27 ?_
        refine ao_split rfl rfl (fun hg11 => ?_) (fun hg11 => ?_)
        · first | refine ao_y1 rfl rfl (by decide) (w_loadR rfl (lk rfl rfl) rfl rfl rfl) ?_ | refine ao_y1 rfl rfl (by decide) (w_loadR rfl (lk rfl rfl) rfl (zadd hr) rfl) ?_ | refine ao_y1 rfl rfl (by decide) (w_loadR rfl (lk rfl rfl) rfl (zadd hr1) rfl) ?_ | refine ao_y1 rfl rfl (by decide) (w_loadR rfl (lk rfl rfl) rfl (zadd hr2) rfl) ?_ | refine ao_y1 rfl rfl (by decide) (w_loadRp rfl hr rfl) ?_ | refine ao_y1 rfl rfl (by decide) (w_loadRp rfl hr1 rfl) ?_ | refine ao_y1 rfl rfl (by decide) (w_loadRp rfl hr2 rfl) ?_ | refine ao_y1 rfl rfl (by decide) (w_loadN (cs := [_, _, _, _, _, _, _, _, _]) rfl (lk rfl rfl) rfl rfl rfl rfl) ?_ | refine ao_y1 rfl rfl (by decide) (o_loadNp (cs := [_, _, _, _, _, _, _, _, _]) rfl hr rfl rfl) ?_ | refine ao_y1 rfl rfl (by decide) (o_loadNp (cs := [_, _, _, _, _, _, _, _, _]) rfl hr1 rfl rfl) ?_ | refine ao_y1 rfl rfl (by decide) (o_loadNp (cs := [_, _, _, _, _, _, _, _, _]) rfl hr2 rfl rfl) ?_ | refine ao_y1 rfl rfl (by decide) (w_loadR rfl (lkF hF) rfl rfl rfl) ?_ | refine ao_y1 rfl rfl (by decide) (w_loadN (cs := [_, _, _, _, _, _, _, _, _]) rfl (lkF hF) rfl rfl rfl rfl) ?_
          refine ao_y rfl rfl (by decide) (V2.call (inst_told _ _ (by assumption)) rfl) ?_
          refine Zo ?_
          exact Zb1
        · refine Zt ?_
          exact Zb1
      · refine Z3l ?_
        exact Zb1
    · refine Z29 ?_
      refine Z3l ?_
      exact Zb1
  exact Z1o
end Go.Av

/-
  THE SCHEDULER's PARTS, plainly: what is counted.
-/
namespace Go.Av
set_option linter.unusedVariables false
set_option linter.unusedSimpArgs false

theorem hbelow_le (g : List Thing) (h : List Int) (m : Int) : (hbelow g h m).length ≤ 256 := by
  rw [hbelow]
  split
  · rename_i hh
    exact Nat.le_trans (idx_len _ _) (gright_len (hright_parts hh).1).2
  · decide
theorem heldBusy_le (l : List Held) (a b : Int) : (heldBusy l a b).length ≤ 256 := by
  rw [heldBusy]
  split
  · exact busyL_le l a b
  · decide
theorem iusable_le (w : Inst) : (iusable w).length ≤ 256 := setop_len _ _ _
theorem ifree_le (i : Inst) : (ifree i).length ≤ 256 := by
  rw [ifree]
  split
  · decide
  · exact setop_len _ _ _
theorem iright_graph {i : Inst} (h : iright i = true) : gright i.graph = true := by
  simp only [iright, hright, Bool.and_eq_true] at h; exact h.1.1.1.1.1.1.1.1.1
theorem iright_jobs {i : Inst} (h : iright i = true) : jobsR i.jobs = true := by
  simp only [iright, Bool.and_eq_true] at h; exact h.1.1.2
theorem iright_table {i : Inst} (h : iright i = true) : heldR i.table = true := by
  simp only [iright, Bool.and_eq_true] at h; exact h.1.2
theorem sok_busyL : ∀ (l : List Held) (a b : Int), sok (busyL l a b) = true := by
  intro l a b
  suffices h : ∀ (l : List Held) (out : List Int), sok out = true → sok (l.foldl (fun out h => if meets h.frm h.to a b then sjoin out h.things else out) out) = true from h l [] rfl
  intro l
  induction l with
  | nil => intro out h; exact h
  | cons x l ih =>
    intro out h
    rw [List.foldl_cons]
    refine ih _ ?_
    split
    · exact sok_setop _ _ _
    · exact h
theorem sok_heldBusy (l : List Held) (a b : Int) : sok (heldBusy l a b) = true := by
  rw [heldBusy]
  split
  · exact sok_busyL l a b
  · rfl
end Go.Av

