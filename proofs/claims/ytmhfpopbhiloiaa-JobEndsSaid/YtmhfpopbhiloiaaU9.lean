/- A part of the proof: walks through the program over abstract values. -/
import Derived.Test.YtmhfpopbhiloiaaU6
import Derived.Test.YtmhfpopbhiloiaaAv18
import Derived.Test.YtmhfpopbhiloiaaAv25
namespace Go.Av
open Go.Proofs
set_option maxRecDepth 10000
set_option linter.unusedSimpArgs false
set_option linter.unusedVariables false


structure Job where
  id : Int
  spec : Spec
  needs : List Int
  state : Int
  came : Int
  frm : Int
  to : Int
  deriving DecidableEq
abbrev eJob (j : Job) : List AV := [.int .i64 j.id, .int .i64 j.spec.nodes, .int .i64 j.spec.cores, .int .i64 j.spec.gpus, .str j.spec.tag, .bool j.spec.whole, .int .i64 j.spec.long, .int .i64 j.spec.prio, .pl (j.needs.map eI), .int .i64 j.state, .int .i64 j.came, .int .i64 j.frm, .int .i64 j.to]
theorem eI_len (l : List Int) : ∀ r ∈ l.map eI, r.length = 1 := rows_len (e := eI) (n := 1) (fun _ => rfl) l
theorem eI_bel (n : Nat) (l : List Int) : ∀ r ∈ l.map eI, AV.bels n r = true := rows_bel (e := eI) (fun _ => rfl) l
def tm (t : Int) : Bool := decide (0 ≤ t) && decide (t ≤ 4611686018427387904)
theorem ref11_time (t : Int) (H : Heap) : AC Try.prog 37 [.int .i64 t] H (Ret (.bool (tm t)) H) := by
  refine AC.body (N := 9) [.tmp 2] Try.func37 rfl rfl rfl (Nat.le_of_ble_eq_true rfl) fun B hB => ?_
  repeat (refine aw_seq ?_)
  refine aw_region ?_
  refine ao1 (by decide) (o_assign (v := .bool _) rfl) ?_
  refine ao_nil ?_
  repeat (first | refine then_nrm ?_ | refine aw_seq ?_)
  refine aw_out 2 (.bool (tm t)) ?_ ?_
  · refine ao1 (by decide) (o_move (v := .int _ _) rfl) ?_
    refine ao1 (by decide) (o_ge rfl rfl) ?_
    refine ao1 (by decide) (o_move (v := .bool _) rfl) ?_
    refine ao_split rfl rfl (fun hg2 => ?_) (fun hg2 => ?_)
    · refine ao_y1 rfl rfl (by decide) (o_move (v := .int _ _) rfl) ?_
      refine ao_y1 rfl rfl (by decide) (o_le rfl rfl) ?_
      refine ao1 (by decide) (o_pick_t (v := .bool _) rfl rfl) ?_
      refine ao1 (by decide) (o_assign (v := .bool _) rfl) ?_
      exact ao_nil (Out.mk (by (refine congrArg AV.bool ?_; (simp only [tm] at *; (simp_all; done)))) (by repeat (first | exact SubX.refl _ _ | refine SubX.at ?_ | refine SubX.put rfl ?_)))
    · refine ao_nT rfl rfl (by decide) ?_
      refine ao_nT rfl rfl (by decide) ?_
      refine ao1 (by decide) (o_pick_f (v := .bool _) rfl rfl) ?_
      refine ao1 (by decide) (o_assign (v := .bool _) rfl) ?_
      exact ao_nil (Out.mk (by (refine congrArg AV.bool ?_; (simp only [tm] at *; (simp_all; omega)))) (by repeat (first | exact SubX.refl _ _ | refine SubX.at ?_ | refine SubX.put rfl ?_)))
  repeat (first | refine then_nrm ?_ | refine aw_ret ?_)
  exact e_done hB (r_tmp rfl .nil) rfl rfl
theorem slices_CloneI (l : List Int) (H : Heap) (hn : l.length ≤ 1000000) : AC Try.prog 34 [.pl (l.map eI)] H (Ret (.pl (l.map eI)) H) := by
  refine AC.body (N := 8) [.tmp 2] Try.func34 rfl rfl rfl (Nat.le_of_ble_eq_true rfl) fun B hB => ?_
  repeat (refine aw_seq ?_)
  refine aw_region ?_
  refine ao1 (by decide) (o_assign (v := .nsl) rfl) ?_
  refine ao_nil ?_
  repeat (first | refine then_nrm ?_ | refine aw_seq ?_)
  refine aw_region ?_
  refine ao1 (by decide) (o_move (v := .pl _) rfl) ?_
  refine ao_cons rfl (by rintro _ ⟨⟩; decide) (o_eqNil rfl rfl _ _ _ _) ?_ (fun _ _ h => h.elim)
  rintro _ _ ⟨nb, rfl, hnb, rfl⟩
  refine ao_nil ?_
  try dsimp only
  repeat (refine then_nrm ?_)
  refine aw_cond rfl (fun hc => ?_) (fun hc => ?_)
  · subst hc
    have hb : l = [] := by
      cases l with
      | nil => rfl
      | cons x b => simp at hnb
    subst hb
    repeat (refine aw_seq ?_)
    refine aw_region ?_
    refine ao1 (by decide) (o_assign (v := .nsl) rfl) ?_
    refine ao_nil ?_
    repeat (refine then_nrm ?_)
    refine aw_nslpl 2 rfl ?_
    exact aw_ret (e_done hB (r_tmp rfl .nil) rfl rfl)
  · repeat (first | refine then_nrm ?_ | refine aw_seq ?_ | refine aw_skip ?_)
    refine aw_region ?_
    refine ao2 (by rintro _ ⟨⟩; decide) (o_buildSlice0) ?_
    refine ao1 (by decide) (o_move (v := .pl _) rfl) ?_
    refine ao2 (by rintro _ ⟨⟩; decide) (g_append_new (sz := 1) (bytes := 8) rfl (Src.pl rfl (eI_len l)) rfl (by decide) (by simp; omega) (by simp; omega) (eI_bel 0 l)) ?_
    refine ao1 (by decide) (o_assign (v := .pl _) rfl) ?_
    refine ao_nil ?_
    try dsimp only
    repeat (first | refine then_nrm ?_ | refine aw_ret ?_)
    exact e_done hB (r_tmp rfl .nil) rfl rfl

/-! ### needs -/
def ndB (id : Int) (l : List Int) (i : Nat) : Bool := match l[i]? with
  | none => true
  | some n => decide (1 ≤ n) && decide (n < id) && (i == 0 || match l[i - 1]? with
    | some m => decide (m < n)
    | none => true)
def ndall (id : Int) (l : List Int) : Bool := (List.range l.length).all (ndB id l)
def jneeds (j : Job) : Bool := decide (j.needs.length ≤ 16) && ndall j.id j.needs
theorem nd_false {id : Int} {l : List Int} {k : Nat} (hk : k < l.length) (h : ndB id l k = false) : ndall id l = false := by
  cases hs : ndall id l with
  | false => rfl
  | true =>
    have := List.all_eq_true.1 hs k (by simpa using hk)
    rw [h] at this; cases this
theorem nd_true {id : Int} {l : List Int} (h : ∀ k, k < l.length → ndB id l k = true) : ndall id l = true := List.all_eq_true.2 fun k hk => h k (by simpa using hk)
theorem ndB_get {id : Int} {l : List Int} {k : Nat} {n : Int} (hn : l[k]? = some n) : ndB id l k = (decide (1 ≤ n) && decide (n < id) && (k == 0 || match l[k - 1]? with
    | some m => decide (m < n)
    | none => true)) := by rw [ndB, hn]
def lastD (l : List Int) (k : Nat) : Int := if k = 0 then 0 else (l[k - 1]?).getD 0
theorem ndB_last {id : Int} {l : List Int} {k : Nat} {n : Int} (hn : l[k]? = some n) (h : ∀ i, i < k → ndB id l i = true) : ndB id l k = !(decide (n ≤ lastD l k) || decide (id ≤ n)) := by
  rw [ndB_get hn, lastD]
  cases k with
  | zero => simp; rw [Bool.eq_iff_iff]; simp; omega
  | succ k =>
    have hk : k < l.length := by have := (List.getElem?_eq_some_iff.1 hn).1; omega
    have hm : l[k]? = some l[k] := List.getElem?_eq_getElem hk
    have h1 := h k (by omega)
    rw [ndB_get hm] at h1
    simp only [Bool.and_eq_true, decide_eq_true_eq] at h1
    simp only [Nat.add_sub_cancel, hm, Option.getD_some]
    rw [Bool.eq_iff_iff]
    simp
    omega
theorem job_needs (j : Job) (H : Heap) : AC Try.prog 39 [.agg (eJob j)] H (Ret (.bool (jneeds j)) H) := by
  refine AC.body (N := 28) [.tmp 2] Try.func39 rfl rfl rfl (Nat.le_of_ble_eq_true rfl) fun B hB => ?_
  repeat (refine aw_seq ?_)
  refine aw_region ?_
  refine ao2 (by rintro _ ⟨⟩; decide) (o_boxL (sz := 13) (v := .agg _) rfl rfl rfl rfl (by decide) rfl) ?_
  refine ao1 (by decide) (o_assign (v := .bool _) rfl) ?_
  refine ao_nil ?_
  try dsimp only
  repeat (first | refine then_nrm ?_ | refine aw_seq ?_)
  refine aw_region ?_
  refine ao1 (by decide) (w_fieldAddr rfl (lk rfl rfl) rfl (by decide)) ?_
  refine ao1 (by decide) (w_load1 (v := .pl _) rfl (lk rfl rfl) rfl rfl rfl) ?_
  refine ao1 (by decide) (o_lenp rfl) ?_
  refine ao1 (by decide) (o_gt rfl rfl) ?_
  refine ao_nil ?_
  try dsimp only
  repeat (refine then_nrm ?_)
  refine aw_cond rfl (fun hc => ?_) (fun hc => ?_)
  · repeat (refine aw_seq ?_)
    refine aw_region ?_
    refine ao1 (by decide) (o_assign (v := .bool _) rfl) ?_
    refine ao_nil ?_
    repeat (first | refine then_nrm ?_ | refine then_ret ?_ | refine aw_ret ?_)
    rw [show jneeds j = false by simp at hc; simp [jneeds]; omega]
    exact e_done hB (r_tmp rfl .nil) rfl rfl
  have hl : j.needs.length ≤ 16 := by simp at hc; omega
  rw [show jneeds j = ndall j.id j.needs by simp [jneeds, hl]]
  repeat (first | refine then_nrm ?_ | refine aw_seq ?_ | refine aw_skip ?_)
  refine aw_region ?_
  refine ao1 (by decide) (o_assign (v := .int _ _) rfl) ?_
  refine ao_nil ?_
  repeat (first | refine then_nrm ?_ | refine aw_seq ?_)
  refine aw_region ?_
  refine ao1 (by decide) (w_fieldAddr rfl (lk rfl rfl) rfl (by decide)) ?_
  refine ao1 (by decide) (w_load1 (v := .pl _) rfl (lk rfl rfl) rfl rfl rfl) ?_
  refine ao1 (by decide) (o_lenp rfl) ?_
  refine ao1 (by decide) (o_move (v := .int _ _) rfl) ?_
  refine ao_nil ?_
  try dsimp only
  repeat (first | refine then_nrm ?_ | refine aw_block ?_)
  refine aw_loop (G := Nat) (fun k => k ≤ j.needs.length ∧ ∀ i, i < k → ndB j.id j.needs i = true) (fun k => [(1, .pt (Lid H.length 0) 0 0 0), (3, .int .i64 (lastD j.needs k)), (11, .pl (j.needs.map eI)), (12, .int .i64 (j.needs.length : Int)), (13, .int .i64 (k : Int))]) (fun _ => H ++ [⟨0, 13, [eJob j]⟩]) (fun k => j.needs.length - k) 0 ⟨Nat.zero_le _, fun i hi => by omega⟩ (by repeat (first | exact Sub.nil | refine Sub.cons (by first | rfl | (simp [get]; done)) ?_)) (Fit.refl _ _) ?_
  rintro k ⟨hk, hno⟩
  repeat (refine aw_seq ?_)
  refine aw_region ?_
  refine ao1 (by decide) (o_lt rfl rfl) ?_
  refine ao_nil ?_
  repeat (first | refine then_nrm ?_ | refine aw_seq ?_)
  refine aw_cond rfl (fun hc => ?_) (fun hc => ?_)
  · have hlt : k < j.needs.length := by simpa using hc
    obtain ⟨x, hx, hxl⟩ := get_in hlt
    have hr := map_get eI hx
    have hok := ndB_last hx hno
    repeat (first | refine then_nrm ?_ | refine aw_seq ?_ | refine aw_block ?_ | refine aw_skip ?_)
    refine aw_region ?_
    refine ao1 (by decide) (w_indexAddrpN rfl rfl hr rfl) ?_
    refine ao1 (by decide) (o_load1p (v := .int _ _) rfl hr rfl) ?_
    refine ao1 (by decide) (o_assign (v := .int _ _) rfl) ?_
    refine ao_nil ?_
    repeat (first | refine then_nrm ?_ | refine aw_seq ?_)
    refine aw_out 25 (.bool (!ndB j.id j.needs k)) ?_ ?_
    · refine ao1 (by decide) (o_move (v := .int _ _) rfl) ?_
      refine ao1 (by decide) (o_move (v := .int _ _) rfl) ?_
      refine ao1 (by decide) (o_le rfl rfl) ?_
      refine ao1 (by decide) (o_move (v := .bool _) rfl) ?_
      refine ao_split rfl rfl (fun hg3 => ?_) (fun hg3 => ?_)
      · refine ao_nF rfl rfl (by decide) ?_
        refine ao_nF rfl rfl (by decide) ?_
        refine ao_nF rfl rfl (by decide) ?_
        refine ao_nF rfl rfl (by decide) ?_
        refine ao1 (by decide) (o_pick_t (v := .bool _) rfl rfl) ?_
        exact ao_nil (Out.mk (by (refine congrArg AV.bool ?_; (rw [hok] at *; simp only [Bool.not_not] at *; (simp_all; done)))) (by repeat (first | exact SubX.refl _ _ | refine SubX.at ?_ | refine SubX.put rfl ?_)))
      · refine ao_y1 rfl rfl (by decide) (o_move (v := .int _ _) rfl) ?_
        refine ao_y1 rfl rfl (by decide) (w_fieldAddr rfl (lk rfl rfl) rfl (by decide)) ?_
        refine ao_y1 rfl rfl (by decide) (w_load1 (v := .int _ _) rfl (lk rfl rfl) rfl rfl rfl) ?_
        refine ao_y1 rfl rfl (by decide) (o_ge rfl rfl) ?_
        refine ao1 (by decide) (o_pick_f (v := .bool _) rfl rfl) ?_
        exact ao_nil (Out.mk (by (refine congrArg AV.bool ?_; (rw [hok] at *; simp only [Bool.not_not] at *; (simp_all; omega)))) (by repeat (first | exact SubX.refl _ _ | refine SubX.at ?_ | refine SubX.put rfl ?_)))
    repeat (refine then_nrm ?_)
    refine aw_cond rfl (fun hc => ?_) (fun hc => ?_)
    · repeat (refine aw_seq ?_)
      refine aw_region ?_
      refine ao1 (by decide) (o_assign (v := .bool _) rfl) ?_
      refine ao_nil ?_
      repeat (first | refine then_nrm ?_ | refine then_ret ?_ | refine blk_ret ?_ | refine aw_ret ?_)
      rw [nd_false hlt (by simpa using hc)]
      exact e_done hB (r_tmp rfl .nil) rfl rfl
    · have hlast : lastD j.needs (k + 1) = x := by rw [lastD, if_neg (by omega), Nat.add_sub_cancel, hx]; rfl
      repeat (first | refine then_nrm ?_ | refine aw_skip ?_)
      refine aw_region ?_
      refine ao1 (by decide) (o_move (v := .int _ _) rfl) ?_
      refine ao1 (by decide) (o_assign (v := .int _ _) rfl) ?_
      refine ao_nil ?_
      repeat (first | refine then_nrm ?_ | refine blk_nrm ?_)
      refine aw_region ?_
      refine ao1 (by decide) (o_add rfl rfl (wrap64_ok (by omega) (by omega))) ?_
      refine ao1 (by decide) (o_move (v := .int _ _) rfl) ?_
      refine ao_nil ?_
      repeat (refine then_nrm ?_)
      refine ⟨k + 1, by omega, ⟨by omega, fun i hi => ?_⟩, by rw [hlast]; exact (by repeat (first | exact Sub.nil | refine Sub.cons (by rfl) ?_)), .refl _ _⟩
      rcases Nat.lt_or_eq_of_le (Nat.le_of_lt_succ hi) with h | h
      · exact hno i h
      · subst h; simpa using hc
  · have : k = j.needs.length := by simp at hc; omega
    subst this
    rw [nd_true hno]
    repeat (first | refine then_nrm ?_ | refine then_brk ?_ | refine blk_hit ?_ | refine aw_seq ?_ | refine aw_exit ?_)
    refine aw_region ?_
    refine ao1 (by decide) (o_assign (v := .bool _) rfl) ?_
    refine ao_nil ?_
    repeat (first | refine then_nrm ?_ | refine aw_ret ?_)
    exact e_done hB (r_tmp rfl .nil) rfl rfl

/-! ### times -/
def jbegun (j : Job) : Bool := tm j.frm && decide (j.came ≤ j.frm)
def jended (j : Job) : Bool := tm j.to && decide (max j.came j.frm ≤ j.to)
def jtimes (j : Job) : Bool :=
  if j.state = 0 ∨ j.state = 1 then j.frm == 0 && j.to == 0
  else if j.state = 2 then jbegun j && j.to == 0
  else if j.state = 3 ∨ j.state = 4 then jbegun j && jended j
  else if j.state = 5 then (jbegun j || j.frm == 0) && jended j
  else j.state == 6 && j.frm == 0 && jended j
set_option maxHeartbeats 0 in
theorem job_times (j : Job) (H : Heap) : AC Try.prog 40 [.agg (eJob j)] H (Ret (.bool (jtimes j)) H) := by
  refine AC.body (N := 78) [.tmp 2] Try.func40 rfl rfl rfl (Nat.le_of_ble_eq_true rfl) fun B hB => ?_
  repeat (refine aw_seq ?_)
  refine aw_region ?_
  refine ao2 (by rintro _ ⟨⟩; decide) (o_boxL (sz := 13) (v := .agg _) rfl rfl rfl rfl (by decide) rfl) ?_
  refine ao1 (by decide) (o_assign (v := .bool _) rfl) ?_
  refine ao_nil ?_
  try dsimp only
  repeat (first | refine then_nrm ?_ | refine aw_seq ?_)
  refine aw_out 3 (.bool (jbegun j)) ?_ ?_
  · refine ao1 (by decide) (w_fieldAddr rfl (lk rfl rfl) rfl (by decide)) ?_
    refine ao1 (by decide) (w_load1 (v := .int _ _) rfl (lk rfl rfl) rfl rfl rfl) ?_
    refine ao_ret (when_Right _ _) rfl (by decide) ?_
    refine ao1 (by decide) (o_move (v := .bool _) rfl) ?_
    refine ao_split rfl rfl (fun hg3 => ?_) (fun hg3 => ?_)
    · refine ao_y1 rfl rfl (by decide) (w_fieldAddr rfl (lk rfl rfl) rfl (by decide)) ?_
      refine ao_y1 rfl rfl (by decide) (w_load1 (v := .int _ _) rfl (lk rfl rfl) rfl rfl rfl) ?_
      refine ao_y1 rfl rfl (by decide) (w_fieldAddr rfl (lk rfl rfl) rfl (by decide)) ?_
      refine ao_y1 rfl rfl (by decide) (w_load1 (v := .int _ _) rfl (lk rfl rfl) rfl rfl rfl) ?_
      refine ao_y1 rfl rfl (by decide) (o_ge rfl rfl) ?_
      refine ao1 (by decide) (o_pick_t (v := .bool _) rfl rfl) ?_
      refine ao1 (by decide) (o_assign (v := .bool _) rfl) ?_
      exact ao_nil (Out.mk (by (refine congrArg AV.bool ?_; (simp only [jbegun, tm] at *; (simp_all; done)))) (by repeat (first | exact SubX.refl _ _ | refine SubX.at ?_ | refine SubX.put rfl ?_)))
    · refine ao_nT rfl rfl (by decide) ?_
      refine ao_nT rfl rfl (by decide) ?_
      refine ao_nT rfl rfl (by decide) ?_
      refine ao_nT rfl rfl (by decide) ?_
      refine ao_nT rfl rfl (by decide) ?_
      refine ao1 (by decide) (o_pick_f (v := .bool _) rfl rfl) ?_
      refine ao1 (by decide) (o_assign (v := .bool _) rfl) ?_
      exact ao_nil (Out.mk (by (refine congrArg AV.bool ?_; (simp only [jbegun, tm] at *; (simp_all; omega)))) (by repeat (first | exact SubX.refl _ _ | refine SubX.at ?_ | refine SubX.put rfl ?_)))
  repeat (first | refine then_nrm ?_ | refine aw_seq ?_)
  refine aw_out 4 (.bool (jended j)) ?_ ?_
  · refine ao1 (by decide) (w_fieldAddr rfl (lk rfl rfl) rfl (by decide)) ?_
    refine ao1 (by decide) (w_load1 (v := .int _ _) rfl (lk rfl rfl) rfl rfl rfl) ?_
    refine ao_ret (when_Right _ _) rfl (by decide) ?_
    refine ao1 (by decide) (o_move (v := .bool _) rfl) ?_
    refine ao_split rfl rfl (fun hg3 => ?_) (fun hg3 => ?_)
    · refine ao_y1 rfl rfl (by decide) (w_fieldAddr rfl (lk rfl rfl) rfl (by decide)) ?_
      refine ao_y1 rfl rfl (by decide) (w_load1 (v := .int _ _) rfl (lk rfl rfl) rfl rfl rfl) ?_
      refine ao_y1 rfl rfl (by decide) (w_fieldAddr rfl (lk rfl rfl) rfl (by decide)) ?_
      refine ao_y1 rfl rfl (by decide) (w_load1 (v := .int _ _) rfl (lk rfl rfl) rfl rfl rfl) ?_
      refine ao_y1 rfl rfl (by decide) (w_fieldAddr rfl (lk rfl rfl) rfl (by decide)) ?_
      refine ao_y1 rfl rfl (by decide) (w_load1 (v := .int _ _) rfl (lk rfl rfl) rfl rfl rfl) ?_
      refine ao_y1 rfl rfl (by decide) (o_max rfl rfl rfl) ?_
      refine ao_y1 rfl rfl (by decide) (o_ge rfl rfl) ?_
      refine ao1 (by decide) (o_pick_t (v := .bool _) rfl rfl) ?_
      refine ao1 (by decide) (o_assign (v := .bool _) rfl) ?_
      exact ao_nil (Out.mk (by (refine congrArg AV.bool ?_; (simp only [jended, tm] at *; (simp_all; done)))) (by repeat (first | exact SubX.refl _ _ | refine SubX.at ?_ | refine SubX.put rfl ?_)))
    · refine ao_nT rfl rfl (by decide) ?_
      refine ao_nT rfl rfl (by decide) ?_
      refine ao_nT rfl rfl (by decide) ?_
      refine ao_nT rfl rfl (by decide) ?_
      refine ao_nT rfl rfl (by decide) ?_
      refine ao_nT rfl rfl (by decide) ?_
      refine ao_nT rfl rfl (by decide) ?_
      refine ao_nT rfl rfl (by decide) ?_
      refine ao1 (by decide) (o_pick_f (v := .bool _) rfl rfl) ?_
      refine ao1 (by decide) (o_assign (v := .bool _) rfl) ?_
      exact ao_nil (Out.mk (by (refine congrArg AV.bool ?_; (simp only [jended, tm] at *; (simp_all; omega)))) (by repeat (first | exact SubX.refl _ _ | refine SubX.at ?_ | refine SubX.put rfl ?_)))
  repeat (first | refine then_nrm ?_ | refine aw_seq ?_)
  refine aw_region ?_
  refine ao1 (by decide) (w_fieldAddr rfl (lk rfl rfl) rfl (by decide)) ?_
  refine ao1 (by decide) (w_load1 (v := .int _ _) rfl (lk rfl rfl) rfl rfl rfl) ?_
  refine ao_nil ?_
  try dsimp only
  repeat (first | refine then_nrm ?_ | refine aw_seq ?_ | refine aw_block ?_)
  refine aw_region ?_
  refine ao1 (by decide) (o_eq rfl rfl) ?_
  refine ao1 (by decide) (o_assign (v := .bool _) rfl) ?_
  refine ao_nil ?_
  repeat (refine then_nrm ?_)
  refine aw_cond rfl (fun hc => ?_) (fun hc => ?_)
  · have hs : j.state = 0 := by simpa using hc
    repeat (first | refine then_nrm ?_ | refine aw_skip ?_)
    refine aw_cond rfl (fun hc => ?_) (fun hc => ?_)
    · repeat (refine aw_seq ?_)
      refine aw_out 2 (.bool (jtimes j)) ?_ ?_
      · refine ao1 (by decide) (w_fieldAddr rfl (lk rfl rfl) rfl (by decide)) ?_
        refine ao1 (by decide) (w_load1 (v := .int _ _) rfl (lk rfl rfl) rfl rfl rfl) ?_
        refine ao1 (by decide) (o_eq rfl rfl) ?_
        refine ao1 (by decide) (o_move (v := .bool _) rfl) ?_
        refine ao_split rfl rfl (fun hg3 => ?_) (fun hg3 => ?_)
        · refine ao_y1 rfl rfl (by decide) (w_fieldAddr rfl (lk rfl rfl) rfl (by decide)) ?_
          refine ao_y1 rfl rfl (by decide) (w_load1 (v := .int _ _) rfl (lk rfl rfl) rfl rfl rfl) ?_
          refine ao_y1 rfl rfl (by decide) (o_eq rfl rfl) ?_
          refine ao1 (by decide) (o_pick_t (v := .bool _) rfl rfl) ?_
          refine ao1 (by decide) (o_assign (v := .bool _) rfl) ?_
          exact ao_nil (Out.mk (by (refine congrArg AV.bool ?_; (simp only [jtimes, hs] at *; (simp_all; done)))) (by repeat (first | exact SubX.refl _ _ | refine SubX.at ?_ | refine SubX.put rfl ?_)))
        · refine ao_nT rfl rfl (by decide) ?_
          refine ao_nT rfl rfl (by decide) ?_
          refine ao_nT rfl rfl (by decide) ?_
          refine ao1 (by decide) (o_pick_f (v := .bool _) rfl rfl) ?_
          refine ao1 (by decide) (o_assign (v := .bool _) rfl) ?_
          exact ao_nil (Out.mk (by (refine congrArg AV.bool ?_; (simp only [jtimes, hs] at *; (simp_all; done)))) (by repeat (first | exact SubX.refl _ _ | refine SubX.at ?_ | refine SubX.put rfl ?_)))
      repeat (first | refine then_nrm ?_ | refine then_ret ?_ | refine blk_ret ?_ | refine aw_ret ?_)
      exact e_done hB (r_tmp rfl .nil) rfl rfl
    · simp [hs] at hc
  · have h0 : j.state ≠ 0 := by simpa using hc
    refine aw_region ?_
    refine ao1 (by decide) (o_eq rfl rfl) ?_
    refine ao1 (by decide) (o_assign (v := .bool _) rfl) ?_
    refine ao_nil ?_
    repeat (refine then_nrm ?_)
    refine aw_cond rfl (fun hc => ?_) (fun hc => ?_)
    · have hs : j.state = 1 := by simpa using hc
      repeat (refine aw_seq ?_)
      refine aw_out 2 (.bool (jtimes j)) ?_ ?_
      · refine ao1 (by decide) (w_fieldAddr rfl (lk rfl rfl) rfl (by decide)) ?_
        refine ao1 (by decide) (w_load1 (v := .int _ _) rfl (lk rfl rfl) rfl rfl rfl) ?_
        refine ao1 (by decide) (o_eq rfl rfl) ?_
        refine ao1 (by decide) (o_move (v := .bool _) rfl) ?_
        refine ao_split rfl rfl (fun hg3 => ?_) (fun hg3 => ?_)
        · refine ao_y1 rfl rfl (by decide) (w_fieldAddr rfl (lk rfl rfl) rfl (by decide)) ?_
          refine ao_y1 rfl rfl (by decide) (w_load1 (v := .int _ _) rfl (lk rfl rfl) rfl rfl rfl) ?_
          refine ao_y1 rfl rfl (by decide) (o_eq rfl rfl) ?_
          refine ao1 (by decide) (o_pick_t (v := .bool _) rfl rfl) ?_
          refine ao1 (by decide) (o_assign (v := .bool _) rfl) ?_
          exact ao_nil (Out.mk (by (refine congrArg AV.bool ?_; (simp only [jtimes, hs] at *; (simp_all; done)))) (by repeat (first | exact SubX.refl _ _ | refine SubX.at ?_ | refine SubX.put rfl ?_)))
        · refine ao_nT rfl rfl (by decide) ?_
          refine ao_nT rfl rfl (by decide) ?_
          refine ao_nT rfl rfl (by decide) ?_
          refine ao1 (by decide) (o_pick_f (v := .bool _) rfl rfl) ?_
          refine ao1 (by decide) (o_assign (v := .bool _) rfl) ?_
          exact ao_nil (Out.mk (by (refine congrArg AV.bool ?_; (simp only [jtimes, hs] at *; (simp_all; done)))) (by repeat (first | exact SubX.refl _ _ | refine SubX.at ?_ | refine SubX.put rfl ?_)))
      repeat (first | refine then_nrm ?_ | refine then_ret ?_ | refine blk_ret ?_ | refine aw_ret ?_)
      exact e_done hB (r_tmp rfl .nil) rfl rfl
    · have h1 : j.state ≠ 1 := by simpa using hc
      repeat (refine aw_seq ?_)
      refine aw_region ?_
      refine ao1 (by decide) (o_eq rfl rfl) ?_
      refine ao1 (by decide) (o_assign (v := .bool _) rfl) ?_
      refine ao_nil ?_
      repeat (refine then_nrm ?_)
      refine aw_cond rfl (fun hc => ?_) (fun hc => ?_)
      · have hs : j.state = 2 := by simpa using hc
        repeat (refine aw_seq ?_)
        refine aw_out 2 (.bool (jtimes j)) ?_ ?_
        · refine ao1 (by decide) (o_move (v := .bool _) rfl) ?_
          refine ao1 (by decide) (o_move (v := .bool _) rfl) ?_
          refine ao_split rfl rfl (fun hg1 => ?_) (fun hg1 => ?_)
          · refine ao_y1 rfl rfl (by decide) (w_fieldAddr rfl (lk rfl rfl) rfl (by decide)) ?_
            refine ao_y1 rfl rfl (by decide) (w_load1 (v := .int _ _) rfl (lk rfl rfl) rfl rfl rfl) ?_
            refine ao_y1 rfl rfl (by decide) (o_eq rfl rfl) ?_
            refine ao1 (by decide) (o_pick_t (v := .bool _) rfl rfl) ?_
            refine ao1 (by decide) (o_assign (v := .bool _) rfl) ?_
            exact ao_nil (Out.mk (by (refine congrArg AV.bool ?_; (simp only [jtimes, hs] at *; (simp_all; done)))) (by repeat (first | exact SubX.refl _ _ | refine SubX.at ?_ | refine SubX.put rfl ?_)))
          · refine ao_nT rfl rfl (by decide) ?_
            refine ao_nT rfl rfl (by decide) ?_
            refine ao_nT rfl rfl (by decide) ?_
            refine ao1 (by decide) (o_pick_f (v := .bool _) rfl rfl) ?_
            refine ao1 (by decide) (o_assign (v := .bool _) rfl) ?_
            exact ao_nil (Out.mk (by (refine congrArg AV.bool ?_; (simp only [jtimes, hs] at *; (simp_all; done)))) (by repeat (first | exact SubX.refl _ _ | refine SubX.at ?_ | refine SubX.put rfl ?_)))
        repeat (first | refine then_nrm ?_ | refine then_ret ?_ | refine blk_ret ?_ | refine aw_ret ?_)
        exact e_done hB (r_tmp rfl .nil) rfl rfl
      · have h2 : j.state ≠ 2 := by simpa using hc
        repeat (refine aw_seq ?_)
        refine aw_region ?_
        refine ao1 (by decide) (o_eq rfl rfl) ?_
        refine ao1 (by decide) (o_assign (v := .bool _) rfl) ?_
        refine ao_nil ?_
        repeat (refine then_nrm ?_)
        refine aw_cond rfl (fun hc => ?_) (fun hc => ?_)
        · have hs : j.state = 3 := by simpa using hc
          repeat (first | refine then_nrm ?_ | refine aw_skip ?_)
          refine aw_cond rfl (fun hc => ?_) (fun hc => ?_)
          · repeat (refine aw_seq ?_)
            refine aw_out 2 (.bool (jtimes j)) ?_ ?_
            · refine ao1 (by decide) (o_move (v := .bool _) rfl) ?_
              refine ao1 (by decide) (o_move (v := .bool _) rfl) ?_
              refine ao_split rfl rfl (fun hg1 => ?_) (fun hg1 => ?_)
              · refine ao_y1 rfl rfl (by decide) (o_move (v := .bool _) rfl) ?_
                refine ao1 (by decide) (o_pick_t (v := .bool _) rfl rfl) ?_
                refine ao1 (by decide) (o_assign (v := .bool _) rfl) ?_
                exact ao_nil (Out.mk (by (refine congrArg AV.bool ?_; (simp only [jtimes, hs] at *; (simp_all; done)))) (by repeat (first | exact SubX.refl _ _ | refine SubX.at ?_ | refine SubX.put rfl ?_)))
              · refine ao_nT rfl rfl (by decide) ?_
                refine ao1 (by decide) (o_pick_f (v := .bool _) rfl rfl) ?_
                refine ao1 (by decide) (o_assign (v := .bool _) rfl) ?_
                exact ao_nil (Out.mk (by (refine congrArg AV.bool ?_; (simp only [jtimes, hs] at *; (simp_all; done)))) (by repeat (first | exact SubX.refl _ _ | refine SubX.at ?_ | refine SubX.put rfl ?_)))
            repeat (first | refine then_nrm ?_ | refine then_ret ?_ | refine blk_ret ?_ | refine aw_ret ?_)
            exact e_done hB (r_tmp rfl .nil) rfl rfl
          · simp [hs] at hc
        · have h3 : j.state ≠ 3 := by simpa using hc
          refine aw_region ?_
          refine ao1 (by decide) (o_eq rfl rfl) ?_
          refine ao1 (by decide) (o_assign (v := .bool _) rfl) ?_
          refine ao_nil ?_
          repeat (refine then_nrm ?_)
          refine aw_cond rfl (fun hc => ?_) (fun hc => ?_)
          · have hs : j.state = 4 := by simpa using hc
            repeat (refine aw_seq ?_)
            refine aw_out 2 (.bool (jtimes j)) ?_ ?_
            · refine ao1 (by decide) (o_move (v := .bool _) rfl) ?_
              refine ao1 (by decide) (o_move (v := .bool _) rfl) ?_
              refine ao_split rfl rfl (fun hg1 => ?_) (fun hg1 => ?_)
              · refine ao_y1 rfl rfl (by decide) (o_move (v := .bool _) rfl) ?_
                refine ao1 (by decide) (o_pick_t (v := .bool _) rfl rfl) ?_
                refine ao1 (by decide) (o_assign (v := .bool _) rfl) ?_
                exact ao_nil (Out.mk (by (refine congrArg AV.bool ?_; (simp only [jtimes, hs] at *; (simp_all; done)))) (by repeat (first | exact SubX.refl _ _ | refine SubX.at ?_ | refine SubX.put rfl ?_)))
              · refine ao_nT rfl rfl (by decide) ?_
                refine ao1 (by decide) (o_pick_f (v := .bool _) rfl rfl) ?_
                refine ao1 (by decide) (o_assign (v := .bool _) rfl) ?_
                exact ao_nil (Out.mk (by (refine congrArg AV.bool ?_; (simp only [jtimes, hs] at *; (simp_all; done)))) (by repeat (first | exact SubX.refl _ _ | refine SubX.at ?_ | refine SubX.put rfl ?_)))
            repeat (first | refine then_nrm ?_ | refine then_ret ?_ | refine blk_ret ?_ | refine aw_ret ?_)
            exact e_done hB (r_tmp rfl .nil) rfl rfl
          · have h4 : j.state ≠ 4 := by simpa using hc
            repeat (refine aw_seq ?_)
            refine aw_region ?_
            refine ao1 (by decide) (o_eq rfl rfl) ?_
            refine ao1 (by decide) (o_assign (v := .bool _) rfl) ?_
            refine ao_nil ?_
            repeat (refine then_nrm ?_)
            refine aw_cond rfl (fun hc => ?_) (fun hc => ?_)
            · have hs : j.state = 5 := by simpa using hc
              repeat (refine aw_seq ?_)
              refine aw_out 2 (.bool (jtimes j)) ?_ ?_
              · refine ao1 (by decide) (o_move (v := .bool _) rfl) ?_
                refine ao1 (by decide) (o_move (v := .bool _) rfl) ?_
                refine ao_split rfl rfl (fun hg1 => ?_) (fun hg1 => ?_)
                · refine ao_nF rfl rfl (by decide) ?_
                  refine ao_nF rfl rfl (by decide) ?_
                  refine ao_nF rfl rfl (by decide) ?_
                  refine ao1 (by decide) (o_pick_t (v := .bool _) rfl rfl) ?_
                  refine ao1 (by decide) (o_move (v := .bool _) rfl) ?_
                  refine ao_y1 rfl rfl (by decide) (o_move (v := .bool _) rfl) ?_
                  refine ao1 (by decide) (o_pick_t (v := .bool _) rfl rfl) ?_
                  refine ao1 (by decide) (o_assign (v := .bool _) rfl) ?_
                  exact ao_nil (Out.mk (by (refine congrArg AV.bool ?_; (simp only [jtimes, hs] at *; (simp_all; done)))) (by repeat (first | exact SubX.refl _ _ | refine SubX.at ?_ | refine SubX.put rfl ?_)))
                · refine ao_y1 rfl rfl (by decide) (w_fieldAddr rfl (lk rfl rfl) rfl (by decide)) ?_
                  refine ao_y1 rfl rfl (by decide) (w_load1 (v := .int _ _) rfl (lk rfl rfl) rfl rfl rfl) ?_
                  refine ao_y1 rfl rfl (by decide) (o_eq rfl rfl) ?_
                  refine ao1 (by decide) (o_pick_f (v := .bool _) rfl rfl) ?_
                  refine ao1 (by decide) (o_move (v := .bool _) rfl) ?_
                  refine ao_split rfl rfl (fun hg6 => ?_) (fun hg6 => ?_)
                  · refine ao_y1 rfl rfl (by decide) (o_move (v := .bool _) rfl) ?_
                    refine ao1 (by decide) (o_pick_t (v := .bool _) rfl rfl) ?_
                    refine ao1 (by decide) (o_assign (v := .bool _) rfl) ?_
                    exact ao_nil (Out.mk (by (refine congrArg AV.bool ?_; (simp only [jtimes, hs] at *; (simp_all; done)))) (by repeat (first | exact SubX.refl _ _ | refine SubX.at ?_ | refine SubX.put rfl ?_)))
                  · refine ao_nT rfl rfl (by decide) ?_
                    refine ao1 (by decide) (o_pick_f (v := .bool _) rfl rfl) ?_
                    refine ao1 (by decide) (o_assign (v := .bool _) rfl) ?_
                    exact ao_nil (Out.mk (by (refine congrArg AV.bool ?_; (simp only [jtimes, hs] at *; (simp_all; done)))) (by repeat (first | exact SubX.refl _ _ | refine SubX.at ?_ | refine SubX.put rfl ?_)))
              repeat (first | refine then_nrm ?_ | refine then_ret ?_ | refine blk_ret ?_ | refine aw_ret ?_)
              exact e_done hB (r_tmp rfl .nil) rfl rfl
            · have h5 : j.state ≠ 5 := by simpa using hc
              repeat (first | refine then_nrm ?_ | refine blk_nrm ?_ | refine aw_seq ?_ | refine aw_skip ?_)
              refine aw_out 2 (.bool (jtimes j)) ?_ ?_
              · refine ao1 (by decide) (w_fieldAddr rfl (lk rfl rfl) rfl (by decide)) ?_
                refine ao1 (by decide) (w_load1 (v := .int _ _) rfl (lk rfl rfl) rfl rfl rfl) ?_
                refine ao1 (by decide) (o_eq rfl rfl) ?_
                refine ao1 (by decide) (o_move (v := .bool _) rfl) ?_
                refine ao_split rfl rfl (fun hg3 => ?_) (fun hg3 => ?_)
                · refine ao_y1 rfl rfl (by decide) (w_fieldAddr rfl (lk rfl rfl) rfl (by decide)) ?_
                  refine ao_y1 rfl rfl (by decide) (w_load1 (v := .int _ _) rfl (lk rfl rfl) rfl rfl rfl) ?_
                  refine ao_y1 rfl rfl (by decide) (o_eq rfl rfl) ?_
                  refine ao1 (by decide) (o_pick_t (v := .bool _) rfl rfl) ?_
                  refine ao1 (by decide) (o_move (v := .bool _) rfl) ?_
                  refine ao_split rfl rfl (fun hg8 => ?_) (fun hg8 => ?_)
                  · refine ao_y1 rfl rfl (by decide) (o_move (v := .bool _) rfl) ?_
                    refine ao1 (by decide) (o_pick_t (v := .bool _) rfl rfl) ?_
                    refine ao1 (by decide) (o_assign (v := .bool _) rfl) ?_
                    exact ao_nil (Out.mk (by (refine congrArg AV.bool ?_; (simp only [jtimes, h0, h1, h2, h3, h4, h5] at *; (simp_all; done)))) (by repeat (first | exact SubX.refl _ _ | refine SubX.at ?_ | refine SubX.put rfl ?_)))
                  · refine ao_nT rfl rfl (by decide) ?_
                    refine ao1 (by decide) (o_pick_f (v := .bool _) rfl rfl) ?_
                    refine ao1 (by decide) (o_assign (v := .bool _) rfl) ?_
                    exact ao_nil (Out.mk (by (refine congrArg AV.bool ?_; (simp only [jtimes, h0, h1, h2, h3, h4, h5] at *; (simp_all; done)))) (by repeat (first | exact SubX.refl _ _ | refine SubX.at ?_ | refine SubX.put rfl ?_)))
                · refine ao_nT rfl rfl (by decide) ?_
                  refine ao_nT rfl rfl (by decide) ?_
                  refine ao_nT rfl rfl (by decide) ?_
                  refine ao1 (by decide) (o_pick_f (v := .bool _) rfl rfl) ?_
                  refine ao1 (by decide) (o_move (v := .bool _) rfl) ?_
                  refine ao_nT rfl rfl (by decide) ?_
                  refine ao1 (by decide) (o_pick_f (v := .bool _) rfl rfl) ?_
                  refine ao1 (by decide) (o_assign (v := .bool _) rfl) ?_
                  exact ao_nil (Out.mk (by (refine congrArg AV.bool ?_; (simp only [jtimes, h0, h1, h2, h3, h4, h5] at *; (simp_all; done)))) (by repeat (first | exact SubX.refl _ _ | refine SubX.at ?_ | refine SubX.put rfl ?_)))
              repeat (first | refine then_nrm ?_ | refine aw_ret ?_)
              exact e_done hB (r_tmp rfl .nil) rfl rfl
end Go.Av
