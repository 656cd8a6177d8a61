/- A part of the proof: walks through the program over abstract values. -/
import Derived.Test.YtmhfpopbhiloiaaDoorV5
namespace Go.Av
open Go.Proofs
set_option maxRecDepth 10000
set_option linter.unusedSimpArgs false
set_option linter.unusedVariables false

/-! ### times -/
def near (t : Int) : Int := max 0 (min t 4611686018427387904)
def plus (t l : Int) : Int := near t + min (near l) (4611686018427387904 - near t)
theorem near_in (t : Int) : 0 ≤ near t ∧ near t ≤ 4611686018427387904 := by unfold near; omega
theorem plus_in (t l : Int) : 0 ≤ plus t l ∧ plus t l ≤ 4611686018427387904 := by unfold plus; have := near_in t; have := near_in l; omega
theorem when_near (t : Int) (H : Heap) : AC Tryd.prog 55 [.int .i64 t] H (Ret (.int .i64 (near t)) H) := by
  refine AC.body (N := 6) [.tmp 2] Tryd.func55 rfl rfl rfl (Nat.le_of_ble_eq_true rfl) fun B hB => ?_
  repeat (refine aw_seq ?_)
  refine aw_region ?_
  refine ao1 (by decide) (o_assign (v := .int _ _) rfl) ?_
  refine ao_nil ?_
  repeat (first | refine then_nrm ?_ | refine aw_seq ?_)
  refine aw_region ?_
  refine ao1 (by decide) (o_move (v := .int _ _) rfl) ?_
  refine ao1 (by decide) (o_min rfl rfl rfl) ?_
  refine ao1 (by decide) (o_max rfl rfl rfl) ?_
  refine ao1 (by decide) (o_assign (v := .int _ _) rfl) ?_
  refine ao_nil ?_
  repeat (first | refine then_nrm ?_ | refine aw_ret ?_)
  exact e_done hB (r_tmp rfl .nil) rfl rfl
theorem when_Plus (t l : Int) (H : Heap) : AC Tryd.prog 39 [.int .i64 t, .int .i64 l] H (Ret (.int .i64 (plus t l)) H) := by
  have h1 := near_in t
  have h2 := near_in l
  refine AC.body (N := 14) [.tmp 4] Tryd.func39 rfl rfl rfl (Nat.le_of_ble_eq_true rfl) fun B hB => ?_
  repeat (refine aw_seq ?_)
  refine aw_region ?_
  refine ao1 (by decide) (o_assign (v := .int _ _) rfl) ?_
  refine ao_nil ?_
  repeat (first | refine then_nrm ?_ | refine aw_seq ?_)
  refine aw_region ?_
  refine ao1 (by decide) (o_move (v := .int _ _) rfl) ?_
  refine ao_ret (when_near _ _) rfl (by decide) ?_
  refine ao1 (by decide) (o_move (v := .int _ _) rfl) ?_
  refine ao_ret (when_near _ _) rfl (by decide) ?_
  refine ao1 (by decide) (o_move (v := .int _ _) rfl) ?_
  refine ao_ret (when_near _ _) rfl (by decide) ?_
  refine ao1 (by decide) (o_sub rfl rfl (wrap64_ok (by omega) (by omega))) ?_
  refine ao1 (by decide) (o_min rfl rfl rfl) ?_
  refine ao1 (by decide) (o_add rfl rfl (wrap64_ok (by omega) (by omega))) ?_
  refine ao1 (by decide) (o_assign (v := .int _ _) rfl) ?_
  refine ao_nil ?_
  repeat (first | refine then_nrm ?_ | refine aw_ret ?_)
  exact e_done hB (r_tmp rfl .nil) rfl rfl
theorem when_Right (t : Int) (H : Heap) : AC Tryd.prog 32 [.int .i64 t] H (Ret (.bool (decide (0 ≤ t) && decide (t ≤ 4611686018427387904))) H) := by
  refine AC.body (N := 9) [.tmp 2] Tryd.func32 rfl rfl rfl (Nat.le_of_ble_eq_true rfl) fun B hB => ?_
  repeat (refine aw_seq ?_)
  refine aw_region ?_
  refine ao1 (by decide) (o_assign (v := .bool _) rfl) ?_
  refine ao_nil ?_
  repeat (first | refine then_nrm ?_ | refine aw_seq ?_)
  refine aw_out 2 (.bool (decide (0 ≤ t) && decide (t ≤ 4611686018427387904))) ?_ ?_
  · refine ao1 (by decide) (o_move (v := .int _ _) rfl) ?_
    refine ao1 (by decide) (o_ge rfl rfl) ?_
    refine ao1 (by decide) (o_move (v := .bool _) rfl) ?_
    refine ao_split rfl rfl (fun hg2 => ?_) (fun hg2 => ?_)
    · refine ao_y1 rfl rfl (by decide) (o_move (v := .int _ _) rfl) ?_
      refine ao_y1 rfl rfl (by decide) (o_le rfl rfl) ?_
      refine ao1 (by decide) (o_pick_t (v := .bool _) rfl rfl) ?_
      refine ao1 (by decide) (o_assign (v := .bool _) rfl) ?_
      exact ao_nil (Out.mk (by (refine congrArg AV.bool ?_; (refine Bool.eq_iff_iff.mpr ?_; simp only [Bool.and_eq_true, Bool.or_eq_true, Bool.not_eq_true', decide_eq_true_eq, decide_eq_false_iff_not, beq_iff_eq, bne_iff_ne, beq_eq_false_iff_ne, Bool.false_eq_true, Bool.true_eq_false, Bool.and_eq_false_iff, Bool.or_eq_false_iff, List.length_map, false_iff, true_iff, iff_true, iff_false] at *; omega))) (by repeat (first | exact SubX.refl _ _ | refine SubX.at ?_ | refine SubX.put rfl ?_)))
    · refine ao_nT rfl rfl (by decide) ?_
      refine ao_nT rfl rfl (by decide) ?_
      refine ao1 (by decide) (o_pick_f (v := .bool _) rfl rfl) ?_
      refine ao1 (by decide) (o_assign (v := .bool _) rfl) ?_
      exact ao_nil (Out.mk (by (refine congrArg AV.bool ?_; (refine Bool.eq_iff_iff.mpr ?_; simp only [Bool.and_eq_true, Bool.or_eq_true, Bool.not_eq_true', decide_eq_true_eq, decide_eq_false_iff_not, beq_iff_eq, bne_iff_ne, beq_eq_false_iff_ne, Bool.false_eq_true, Bool.true_eq_false, Bool.and_eq_false_iff, Bool.or_eq_false_iff, List.length_map, false_iff, true_iff, iff_true, iff_false] at *; omega))) (by repeat (first | exact SubX.refl _ _ | refine SubX.at ?_ | refine SubX.put rfl ?_)))
  repeat (first | refine then_nrm ?_ | refine aw_ret ?_)
  exact e_done hB (r_tmp rfl .nil) rfl rfl
theorem ref02_Near (t : Int) (H : Heap) : AC Tryd.prog 56 [.int .i64 t] H (Ret (.int .u64 (near t)) H) := by
  refine AC.body (N := 9) [.tmp 2] Tryd.func56 rfl rfl rfl (Nat.le_of_ble_eq_true rfl) fun B hB => ?_
  repeat (refine aw_seq ?_)
  refine aw_region ?_
  refine ao1 (by decide) (o_assign (v := .int _ _) rfl) ?_
  refine ao_nil ?_
  repeat (first | refine then_nrm ?_ | refine aw_seq ?_)
  refine aw_region ?_
  refine ao1 (by decide) (o_move (v := .int _ _) rfl) ?_
  refine ao1 (by decide) (o_lt rfl rfl) ?_
  refine ao_nil ?_
  repeat (refine then_nrm ?_)
  refine aw_cond rfl (fun hc => ?_) (fun hc => ?_)
  · repeat (refine aw_seq ?_)
    refine aw_region ?_
    refine ao1 (by decide) (o_assign (v := .int _ _) rfl) ?_
    refine ao_nil ?_
    repeat (first | refine then_nrm ?_ | refine then_ret ?_ | refine aw_ret ?_)
    rw [show near t = 0 by simp at hc; unfold near; omega]
    exact e_done hB (r_tmp rfl .nil) rfl rfl
  · repeat (first | refine then_nrm ?_ | refine aw_seq ?_ | refine aw_skip ?_)
    refine aw_region ?_
    refine ao1 (by decide) (o_move (v := .int _ _) rfl) ?_
    refine ao1 (by decide) (o_gt rfl rfl) ?_
    refine ao_nil ?_
    repeat (refine then_nrm ?_)
    refine aw_cond rfl (fun hc => ?_) (fun hc => ?_)
    · repeat (refine aw_seq ?_)
      refine aw_region ?_
      refine ao1 (by decide) (o_assign (v := .int _ _) rfl) ?_
      refine ao_nil ?_
      repeat (first | refine then_nrm ?_ | refine then_ret ?_ | refine aw_ret ?_)
      rw [show near t = 4611686018427387904 by simp at hc; unfold near; omega]
      exact e_done hB (r_tmp rfl .nil) rfl rfl
    · have ht : 0 ≤ t ∧ t ≤ 4611686018427387904 := by simp at *; omega
      repeat (first | refine then_nrm ?_ | refine aw_seq ?_ | refine aw_skip ?_)
      refine aw_region ?_
      refine ao1 (by decide) (o_move (v := .int _ _) rfl) ?_
      refine ao1 (by decide) (o_conv_int rfl (show IntKind.u64.wrap t = t by rw [IntKind.wrap_u64]; omega)) ?_
      refine ao1 (by decide) (o_assign (v := .int _ _) rfl) ?_
      refine ao_nil ?_
      repeat (first | refine then_nrm ?_ | refine aw_ret ?_)
      rw [show near t = t by unfold near; omega]
      exact e_done hB (r_tmp rfl .nil) rfl rfl
theorem ref02_Plus (t l : Int) (H : Heap) : AC Tryd.prog 40 [.int .i64 t, .int .i64 l] H (Ret (.int .i64 (plus t l)) H) := by
  have h1 := near_in t
  have h2 := near_in l
  refine AC.body (N := 15) [.tmp 4] Tryd.func40 rfl rfl rfl (Nat.le_of_ble_eq_true rfl) fun B hB => ?_
  repeat (refine aw_seq ?_)
  refine aw_region ?_
  refine ao1 (by decide) (o_assign (v := .int _ _) rfl) ?_
  refine ao_nil ?_
  repeat (first | refine then_nrm ?_ | refine aw_seq ?_)
  refine aw_region ?_
  refine ao1 (by decide) (o_move (v := .int _ _) rfl) ?_
  refine ao_ret (ref02_Near _ _) rfl (by decide) ?_
  refine ao1 (by decide) (o_move (v := .int _ _) rfl) ?_
  refine ao_ret (ref02_Near _ _) rfl (by decide) ?_
  refine ao1 (by decide) (o_add (r := near t + near l) rfl rfl (by rw [IntKind.wrap_u64]; omega)) ?_
  refine ao1 (by decide) (o_assign (v := .int _ _) rfl) ?_
  refine ao_nil ?_
  repeat (first | refine then_nrm ?_ | refine aw_seq ?_)
  refine aw_region ?_
  refine ao1 (by decide) (o_move (v := .int _ _) rfl) ?_
  refine ao1 (by decide) (o_gt rfl rfl) ?_
  refine ao_nil ?_
  repeat (refine then_nrm ?_)
  refine aw_cond rfl (fun hc => ?_) (fun hc => ?_)
  · repeat (fail)
    refine aw_region ?_
    refine ao1 (by decide) (o_assign (v := .int _ _) rfl) ?_
    refine ao_nil ?_
    repeat (first | refine then_nrm ?_ | refine aw_seq ?_)
    refine aw_region ?_
    refine ao1 (by decide) (o_move (v := .int _ _) rfl) ?_
    refine ao1 (by decide) (o_conv_int rfl (wrap64_ok (by omega) (by omega))) ?_
    refine ao1 (by decide) (o_assign (v := .int _ _) rfl) ?_
    refine ao_nil ?_
    repeat (first | refine then_nrm ?_ | refine aw_ret ?_)
    rw [show plus t l = 4611686018427387904 by simp at hc; unfold plus; omega]
    exact e_done hB (r_tmp rfl .nil) rfl rfl
  · have : near t + near l ≤ 4611686018427387904 := by simp at hc; omega
    repeat (first | refine then_nrm ?_ | refine aw_seq ?_ | refine aw_skip ?_)
    refine aw_region ?_
    refine ao1 (by decide) (o_move (v := .int _ _) rfl) ?_
    refine ao1 (by decide) (o_conv_int rfl (wrap64_ok (by omega) (by omega))) ?_
    refine ao1 (by decide) (o_assign (v := .int _ _) rfl) ?_
    refine ao_nil ?_
    repeat (first | refine then_nrm ?_ | refine aw_ret ?_)
    rw [show plus t l = near t + near l by unfold plus; omega]
    exact e_done hB (r_tmp rfl .nil) rfl rfl


def tm (t : Int) : Bool := decide (0 ≤ t) && decide (t ≤ 4611686018427387904)
theorem ref19_time (t : Int) (H : Heap) : AC Tryd.prog 37 [.int .i64 t] H (Ret (.bool (tm t)) H) := by
  refine AC.body (N := 9) [.tmp 2] Tryd.func37 rfl rfl rfl (Nat.le_of_ble_eq_true rfl) fun B hB => ?_
  repeat (refine aw_seq ?_)
  refine aw_region ?_
  refine ao1 (by decide) (o_assign (v := .bool _) rfl) ?_
  refine ao_nil ?_
  repeat (first | refine then_nrm ?_ | refine aw_seq ?_)
  refine aw_out 2 (.bool (tm t)) ?_ ?_
  · refine ao1 (by decide) (o_move (v := .int _ _) rfl) ?_
    refine ao1 (by decide) (o_ge rfl rfl) ?_
    refine ao1 (by decide) (o_move (v := .bool _) rfl) ?_
    refine ao_split rfl rfl (fun hg2 => ?_) (fun hg2 => ?_)
    · refine ao_y1 rfl rfl (by decide) (o_move (v := .int _ _) rfl) ?_
      refine ao_y1 rfl rfl (by decide) (o_le rfl rfl) ?_
      refine ao1 (by decide) (o_pick_t (v := .bool _) rfl rfl) ?_
      refine ao1 (by decide) (o_assign (v := .bool _) rfl) ?_
      exact ao_nil (Out.mk (by (refine congrArg AV.bool ?_; (simp only [tm] at *; (simp_all; done)))) (by repeat (first | exact SubX.refl _ _ | refine SubX.at ?_ | refine SubX.put rfl ?_)))
    · refine ao_nT rfl rfl (by decide) ?_
      refine ao_nT rfl rfl (by decide) ?_
      refine ao1 (by decide) (o_pick_f (v := .bool _) rfl rfl) ?_
      refine ao1 (by decide) (o_assign (v := .bool _) rfl) ?_
      exact ao_nil (Out.mk (by (refine congrArg AV.bool ?_; (simp only [tm] at *; (simp_all; omega)))) (by repeat (first | exact SubX.refl _ _ | refine SubX.at ?_ | refine SubX.put rfl ?_)))
  repeat (first | refine then_nrm ?_ | refine aw_ret ?_)
  exact e_done hB (r_tmp rfl .nil) rfl rfl
theorem slices_CloneI (l : List Int) (H : Heap) (hn : l.length ≤ 1000000) : AC Tryd.prog 35 [.pl (l.map eInt)] H (Ret (.pl (l.map eInt)) H) := by
  refine AC.body (N := 8) [.tmp 2] Tryd.func35 rfl rfl rfl (Nat.le_of_ble_eq_true rfl) fun B hB => ?_
  repeat (refine aw_seq ?_)
  refine aw_region ?_
  refine ao1 (by decide) (o_assign (v := .nsl) rfl) ?_
  refine ao_nil ?_
  repeat (first | refine then_nrm ?_ | refine aw_seq ?_)
  refine aw_region ?_
  refine ao1 (by decide) (o_move (v := .pl _) rfl) ?_
  refine ao_cons rfl (by rintro _ ⟨⟩; decide) (o_eqNil rfl rfl _ _ _ _) ?_ (fun _ _ h => h.elim)
  rintro _ _ ⟨nb, rfl, hnb, rfl⟩
  refine ao_nil ?_
  try dsimp only [put]
  repeat (refine then_nrm ?_)
  refine aw_cond rfl (fun hc => ?_) (fun hc => ?_)
  · subst hc
    have hb : l = [] := by
      cases l with
      | nil => rfl
      | cons x b => simp at hnb
    subst hb
    repeat (refine aw_seq ?_)
    refine aw_region ?_
    refine ao1 (by decide) (o_assign (v := .nsl) rfl) ?_
    refine ao_nil ?_
    repeat (refine then_nrm ?_)
    refine aw_nslpl 2 rfl ?_
    exact aw_ret (e_done hB (r_tmp rfl .nil) rfl rfl)
  · repeat (first | refine then_nrm ?_ | refine aw_seq ?_ | refine aw_skip ?_)
    refine aw_region ?_
    refine ao2 (by rintro _ ⟨⟩; decide) (o_buildSlice0) ?_
    refine ao1 (by decide) (o_move (v := .pl _) rfl) ?_
    refine ao2 (by rintro _ ⟨⟩; decide) (g_append_new (sz := 1) (bytes := 8) rfl (Src.pl rfl (ints_len l)) rfl (by decide) (by simp; omega) (by simp; omega) (ints_bel 0 l)) ?_
    refine ao1 (by decide) (o_assign (v := .pl _) rfl) ?_
    refine ao_nil ?_
    try dsimp only [put]
    repeat (first | refine then_nrm ?_ | refine aw_ret ?_)
    exact e_done hB (r_tmp rfl .nil) rfl rfl

structure Loan where
  things : List Int
  asked : List Int
  til : Int
  deriving DecidableEq
abbrev eLoan (l : Loan) : List AV := [.pl (l.things.map eInt), .pl (l.asked.map eInt), .int .i64 l.til]
structure Note where
  kind : Int
  things : List Int
  til : Int
  deriving DecidableEq
abbrev eNote (n : Note) : List AV := [.int .i64 n.kind, .pl (n.things.map eInt), .int .i64 n.til]
def Small (l : Loan) : Prop := l.things.length ≤ 1000000 ∧ l.asked.length ≤ 1000000
theorem lease_copied (l : Loan) (hl : Small l) (H : Heap) : AC Tryd.prog 30 [.agg (eLoan l)] H (Ret (.agg (eLoan l)) H) := by
  refine AC.body (N := 12) [.cell 2 24] Tryd.func30 rfl rfl rfl (Nat.le_of_ble_eq_true rfl) fun B hB => ?_
  repeat (refine aw_seq ?_)
  refine aw_region ?_
  refine ao2 (by rintro _ ⟨⟩; decide) (o_boxL (sz := 3) (v := .agg _) rfl rfl rfl rfl (by decide) rfl) ?_
  refine ao2 (by rintro _ ⟨⟩; decide) (o_allocL (sz := 3) rfl (by decide) rfl) ?_
  refine ao_nil ?_
  try dsimp only [put, AV.cells, List.nil_append, List.length_cons, List.length_nil, Nat.reduceAdd, List.cons_append]
  repeat (first | refine then_nrm ?_ | refine aw_seq ?_)
  refine aw_drawP mixed none 1 ?_
  try dsimp only [List.take_succ_cons, List.take_zero]
  refine aqp 0 rfl (by decide +kernel) (by decide) (fun G => w_fieldAddr rfl (lk rfl rfl) rfl (by decide)) ?_
  refine aqp 1 rfl (by decide +kernel) (by decide) (fun G => w_load1 (v := .pl _) rfl (lk rfl rfl) rfl rfl rfl) ?_
  refine aq02 2 rfl (by decide +kernel) (by decide) (fun _ => V2.call (slices_CloneI l.things _ hl.1) rfl) ?_
  refine aqp 3 rfl (by decide +kernel) (by decide) (fun G => w_fieldAddr rfl (lk rfl rfl) rfl (by decide)) ?_
  refine aqp 4 rfl (by decide +kernel) (by decide) (fun G => w_load1 (v := .pl _) rfl (lk rfl rfl) rfl rfl rfl) ?_
  refine aq02 5 rfl (by decide +kernel) (by decide) (fun _ => V2.call (slices_CloneI l.asked _ hl.2) rfl) ?_
  refine aqp 6 rfl (by decide +kernel) (by decide) (fun G => w_fieldAddr rfl (lk rfl rfl) rfl (by decide)) ?_
  refine aqs 7 rfl (by decide +kernel) (by exact fun _ => ⟨_, rfl⟩) (by rintro _ ⟨⟩) (w_storeP (sz := 1) (v := .pl _) (r' := eLoan l) rfl rfl rfl rfl rfl rfl rfl rfl (Nat.le_of_ble_eq_true rfl) rfl) ?_
  refine aqp 8 rfl (by decide +kernel) (by decide) (fun G => w_fieldAddr rfl (lk rfl rfl) rfl (by decide)) ?_
  refine aqs 9 rfl (by decide +kernel) (by exact fun _ => ⟨_, rfl⟩) (by rintro _ ⟨⟩) (w_storeP (sz := 1) (v := .pl _) (r' := eLoan l) rfl rfl rfl rfl rfl rfl rfl rfl (Nat.le_of_ble_eq_true rfl) rfl) ?_
  refine aa_done (by decide +kernel) (by exact fun _ => ⟨_, rfl⟩) ?_
  try dsimp only [put, Nat.reduceAdd, List.set_cons_zero]
  all_goals
    repeat (first | refine then_nrm ?_ | refine aw_seq ?_)
    refine aw_region ?_
    refine ao1 (by decide) (w_loadR rfl (lk rfl rfl) rfl rfl rfl) ?_
    refine ao2 (by rintro _ ⟨⟩) (w_storeW (sz := 3) rfl rfl rfl rfl rfl rfl rfl rfl (Nat.le_of_ble_eq_true rfl)) ?_
    refine ao_nil ?_
    try dsimp only [put, List.set_cons_zero, List.set_cons_succ]
    repeat (first | refine then_nrm ?_ | refine aw_ret ?_)
    exact e_done hB (r_cellR rfl (lk rfl rfl) rfl rfl rfl .nil) rfl rfl
def lright (l : Loan) : Bool := sok l.things && spart l.asked l.things && tm l.til
theorem lease_Right (l : Loan) (hl : Small l) (H : Heap) : AC Tryd.prog 22 [.agg (eLoan l)] H (Ret (.bool (lright l)) H) := by
  obtain ⟨h1, h2⟩ := hl
  refine AC.body (N := 18) [.tmp 2] Tryd.func22 rfl rfl rfl (Nat.le_of_ble_eq_true rfl) fun B hB => ?_
  repeat (refine aw_seq ?_)
  refine aw_region ?_
  refine ao2 (by rintro _ ⟨⟩; decide) (o_boxL (sz := 3) (v := .agg _) rfl rfl rfl rfl (by decide) rfl) ?_
  refine ao1 (by decide) (o_assign (v := .bool _) rfl) ?_
  refine ao_nil ?_
  try dsimp only [List.length_nil, put, AV.cells, List.nil_append]
  repeat (first | refine then_nrm ?_ | refine aw_seq ?_)
  refine aw_out 2 (.bool (lright l)) ?_ ?_
  · refine ao1 (by decide) (w_fieldAddr rfl (lk rfl rfl) rfl (by decide)) ?_
    refine ao1 (by decide) (w_load1 (v := .pl _) rfl (lk rfl rfl) rfl rfl rfl) ?_
    refine ao_ret (set_Right _ (by assumption) _) rfl (by decide) ?_
    refine ao1 (by decide) (o_move (v := .bool _) rfl) ?_
    refine ao_split rfl rfl (fun hg3 => ?_) (fun hg3 => ?_)
    · refine ao_y1 rfl rfl (by decide) (w_fieldAddr rfl (lk rfl rfl) rfl (by decide)) ?_
      refine ao_y1 rfl rfl (by decide) (w_load1 (v := .pl _) rfl (lk rfl rfl) rfl rfl rfl) ?_
      refine ao_y1 rfl rfl (by decide) (w_fieldAddr rfl (lk rfl rfl) rfl (by decide)) ?_
      refine ao_y1 rfl rfl (by decide) (w_load1 (v := .pl _) rfl (lk rfl rfl) rfl rfl rfl) ?_
      refine ao_y rfl rfl (by decide) (V2.call (set_Part l.asked l.things h2 h1 _) rfl) ?_
      refine ao1 (by decide) (o_pick_t (v := .bool _) rfl rfl) ?_
      refine ao1 (by decide) (o_move (v := .bool _) rfl) ?_
      refine ao_split rfl rfl (fun hg10 => ?_) (fun hg10 => ?_)
      · refine ao_y1 rfl rfl (by decide) (w_fieldAddr rfl (lk rfl rfl) rfl (by decide)) ?_
        refine ao_y1 rfl rfl (by decide) (w_load1 (v := .int _ _) rfl (lk rfl rfl) rfl rfl rfl) ?_
        refine ao_y rfl rfl (by decide) (V2.call (when_Right _ _) rfl) ?_
        refine ao1 (by decide) (o_pick_t (v := .bool _) rfl rfl) ?_
        refine ao1 (by decide) (o_assign (v := .bool _) rfl) ?_
        exact ao_nil (Out.mk (by (refine congrArg AV.bool ?_; (simp only [lright, tm] at *; (simp_all; done)))) (by repeat (first | exact SubX.refl _ _ | refine SubX.at ?_ | refine SubX.put rfl ?_)))
      · refine ao_nT rfl rfl (by decide) ?_
        refine ao_nT rfl rfl (by decide) ?_
        refine ao_nT rfl rfl (by decide) ?_
        refine ao1 (by decide) (o_pick_f (v := .bool _) rfl rfl) ?_
        refine ao1 (by decide) (o_assign (v := .bool _) rfl) ?_
        exact ao_nil (Out.mk (by (refine congrArg AV.bool ?_; (simp only [lright, tm] at *; (simp_all; done)))) (by repeat (first | exact SubX.refl _ _ | refine SubX.at ?_ | refine SubX.put rfl ?_)))
    · refine ao_nT rfl rfl (by decide) ?_
      refine ao_nT rfl rfl (by decide) ?_
      refine ao_nT rfl rfl (by decide) ?_
      refine ao_nT rfl rfl (by decide) ?_
      refine ao_nT rfl rfl (by decide) ?_
      refine ao1 (by decide) (o_pick_f (v := .bool _) rfl rfl) ?_
      refine ao1 (by decide) (o_move (v := .bool _) rfl) ?_
      refine ao_nT rfl rfl (by decide) ?_
      refine ao_nT rfl rfl (by decide) ?_
      refine ao_nT rfl rfl (by decide) ?_
      refine ao1 (by decide) (o_pick_f (v := .bool _) rfl rfl) ?_
      refine ao1 (by decide) (o_assign (v := .bool _) rfl) ?_
      exact ao_nil (Out.mk (by (refine congrArg AV.bool ?_; (simp only [lright, tm] at *; (simp_all; done)))) (by repeat (first | exact SubX.refl _ _ | refine SubX.at ?_ | refine SubX.put rfl ?_)))
  repeat (first | refine then_nrm ?_ | refine aw_ret ?_)
  exact e_done hB (r_tmp rfl .nil) rfl rfl
theorem lright_ref (l : Loan) : lright l = (sok l.things && sok l.asked && decide ((setop (opw 2) l.asked l.things).length = 0) && tm l.til) := by
  unfold lright spart setop
  cases h1 : sok l.things <;> cases h2 : sok l.asked <;> simp [List.length_eq_zero_iff, opw]
theorem ref19_Right (l : Loan) (hl : Small l) (H : Heap) : AC Tryd.prog 23 [.agg (eLoan l)] H (Ret (.bool (lright l)) H) := by
  obtain ⟨h1, h2⟩ := hl
  rw [lright_ref]
  generalize hq : setop (opw 2) l.asked l.things = q
  have c13 := fun H => ref01_Which l.asked l.things 2 h2 h1 H
  rw [hq] at c13
  refine AC.body (N := 25) [.tmp 2] Tryd.func23 rfl rfl rfl (Nat.le_of_ble_eq_true rfl) fun B hB => ?_
  repeat (refine aw_seq ?_)
  refine aw_region ?_
  refine ao2 (by rintro _ ⟨⟩; decide) (o_boxL (sz := 3) (v := .agg _) rfl rfl rfl rfl (by decide) rfl) ?_
  refine ao1 (by decide) (o_assign (v := .bool _) rfl) ?_
  refine ao_nil ?_
  try dsimp only [List.length_nil, put, AV.cells, List.nil_append]
  repeat (first | refine then_nrm ?_ | refine aw_seq ?_)
  refine aw_out 2 (.bool (sok l.things && sok l.asked && decide (q.length = 0) && tm l.til)) ?_ ?_
  · refine ao1 (by decide) (w_fieldAddr rfl (lk rfl rfl) rfl (by decide)) ?_
    refine ao1 (by decide) (w_load1 (v := .pl _) rfl (lk rfl rfl) rfl rfl rfl) ?_
    refine ao_ret (ref01_Right _ (by assumption) _) rfl (by decide) ?_
    refine ao1 (by decide) (o_move (v := .bool _) rfl) ?_
    refine ao_split rfl rfl (fun hg3 => ?_) (fun hg3 => ?_)
    · refine ao_y1 rfl rfl (by decide) (w_fieldAddr rfl (lk rfl rfl) rfl (by decide)) ?_
      refine ao_y1 rfl rfl (by decide) (w_load1 (v := .pl _) rfl (lk rfl rfl) rfl rfl rfl) ?_
      refine ao_y rfl rfl (by decide) (V2.call (ref01_Right _ (by assumption) _) rfl) ?_
      refine ao1 (by decide) (o_pick_t (v := .bool _) rfl rfl) ?_
      refine ao1 (by decide) (o_move (v := .bool _) rfl) ?_
      refine ao_split rfl rfl (fun hg8 => ?_) (fun hg8 => ?_)
      · refine ao_y1 rfl rfl (by decide) (w_fieldAddr rfl (lk rfl rfl) rfl (by decide)) ?_
        refine ao_y1 rfl rfl (by decide) (w_load1 (v := .pl _) rfl (lk rfl rfl) rfl rfl rfl) ?_
        refine ao_y1 rfl rfl (by decide) (w_fieldAddr rfl (lk rfl rfl) rfl (by decide)) ?_
        refine ao_y1 rfl rfl (by decide) (w_load1 (v := .pl _) rfl (lk rfl rfl) rfl rfl rfl) ?_
        refine ao_y rfl rfl (by decide) (V2.call (c13 _) rfl) ?_
        refine ao_y1 rfl rfl (by decide) (o_lenp rfl) ?_
        refine ao_y1 rfl rfl (by decide) (o_eq rfl rfl) ?_
        refine ao1 (by decide) (o_pick_t (v := .bool _) rfl rfl) ?_
        refine ao1 (by decide) (o_move (v := .bool _) rfl) ?_
        refine ao_split rfl rfl (fun hg17 => ?_) (fun hg17 => ?_)
        · refine ao_y1 rfl rfl (by decide) (w_fieldAddr rfl (lk rfl rfl) rfl (by decide)) ?_
          refine ao_y1 rfl rfl (by decide) (w_load1 (v := .int _ _) rfl (lk rfl rfl) rfl rfl rfl) ?_
          refine ao_y rfl rfl (by decide) (V2.call (ref19_time _ _) rfl) ?_
          refine ao1 (by decide) (o_pick_t (v := .bool _) rfl rfl) ?_
          refine ao1 (by decide) (o_assign (v := .bool _) rfl) ?_
          exact ao_nil (Out.mk (by (refine congrArg AV.bool ?_; (clear c13 hq; (simp_all; done)))) (by repeat (first | exact SubX.refl _ _ | refine SubX.at ?_ | refine SubX.put rfl ?_)))
        · refine ao_nT rfl rfl (by decide) ?_
          refine ao_nT rfl rfl (by decide) ?_
          refine ao_nT rfl rfl (by decide) ?_
          refine ao1 (by decide) (o_pick_f (v := .bool _) rfl rfl) ?_
          refine ao1 (by decide) (o_assign (v := .bool _) rfl) ?_
          exact ao_nil (Out.mk (by (refine congrArg AV.bool ?_; (clear c13 hq; (simp_all; done)))) (by repeat (first | exact SubX.refl _ _ | refine SubX.at ?_ | refine SubX.put rfl ?_)))
      · refine ao_nT rfl rfl (by decide) ?_
        refine ao_nT rfl rfl (by decide) ?_
        refine ao_nT rfl rfl (by decide) ?_
        refine ao_nT rfl rfl (by decide) ?_
        refine ao_nT rfl rfl (by decide) ?_
        refine ao_nT rfl rfl (by decide) ?_
        refine ao_nT rfl rfl (by decide) ?_
        refine ao1 (by decide) (o_pick_f (v := .bool _) rfl rfl) ?_
        refine ao1 (by decide) (o_move (v := .bool _) rfl) ?_
        refine ao_nT rfl rfl (by decide) ?_
        refine ao_nT rfl rfl (by decide) ?_
        refine ao_nT rfl rfl (by decide) ?_
        refine ao1 (by decide) (o_pick_f (v := .bool _) rfl rfl) ?_
        refine ao1 (by decide) (o_assign (v := .bool _) rfl) ?_
        exact ao_nil (Out.mk (by (refine congrArg AV.bool ?_; (clear c13 hq; (simp_all; done)))) (by repeat (first | exact SubX.refl _ _ | refine SubX.at ?_ | refine SubX.put rfl ?_)))
    · refine ao_nT rfl rfl (by decide) ?_
      refine ao_nT rfl rfl (by decide) ?_
      refine ao_nT rfl rfl (by decide) ?_
      refine ao1 (by decide) (o_pick_f (v := .bool _) rfl rfl) ?_
      refine ao1 (by decide) (o_move (v := .bool _) rfl) ?_
      refine ao_nT rfl rfl (by decide) ?_
      refine ao_nT rfl rfl (by decide) ?_
      refine ao_nT rfl rfl (by decide) ?_
      refine ao_nT rfl rfl (by decide) ?_
      refine ao_nT rfl rfl (by decide) ?_
      refine ao_nT rfl rfl (by decide) ?_
      refine ao_nT rfl rfl (by decide) ?_
      refine ao1 (by decide) (o_pick_f (v := .bool _) rfl rfl) ?_
      refine ao1 (by decide) (o_move (v := .bool _) rfl) ?_
      refine ao_nT rfl rfl (by decide) ?_
      refine ao_nT rfl rfl (by decide) ?_
      refine ao_nT rfl rfl (by decide) ?_
      refine ao1 (by decide) (o_pick_f (v := .bool _) rfl rfl) ?_
      refine ao1 (by decide) (o_assign (v := .bool _) rfl) ?_
      exact ao_nil (Out.mk (by (refine congrArg AV.bool ?_; (clear c13 hq; (simp_all; done)))) (by repeat (first | exact SubX.refl _ _ | refine SubX.at ?_ | refine SubX.put rfl ?_)))
  repeat (first | refine then_nrm ?_ | refine aw_ret ?_)
  exact e_done hB (r_tmp rfl .nil) rfl rfl
def lmay (n : Note) : Bool := if n.kind = 1 ∨ n.kind = 2 ∨ n.kind = 3 then n.til == 0 && decide (0 < n.things.length) && sok n.things else if n.kind = 4 then tm n.til && decide (n.things.length = 0) else false
set_option maxHeartbeats 0 in
theorem lease_may (n : Note) (hl : n.things.length ≤ 1000000) (H : Heap) : AC Tryd.prog 31 [.agg (eNote n)] H (Ret (.bool (lmay n)) H) := by
  refine AC.body (N := 34) [.tmp 2] Tryd.func31 rfl rfl rfl (Nat.le_of_ble_eq_true rfl) fun B hB => ?_
  repeat (refine aw_seq ?_)
  refine aw_region ?_
  refine ao2 (by rintro _ ⟨⟩; decide) (o_boxL (sz := 3) (v := .agg _) rfl rfl rfl rfl (by decide) rfl) ?_
  refine ao1 (by decide) (o_assign (v := .bool _) rfl) ?_
  refine ao_nil ?_
  try dsimp only [List.length_nil, put, AV.cells, List.nil_append]
  repeat (first | refine then_nrm ?_ | refine aw_seq ?_)
  refine aw_region ?_
  refine ao1 (by decide) (w_fieldAddr rfl (lk rfl rfl) rfl (by decide)) ?_
  refine ao1 (by decide) (w_load1 (v := .int _ _) rfl (lk rfl rfl) rfl rfl rfl) ?_
  refine ao_nil ?_
  try dsimp only [Nat.reduceAdd]
  repeat (first | refine then_nrm ?_ | refine aw_seq ?_ | refine aw_block ?_)
  refine aw_region ?_
  refine ao1 (by decide) (o_eq rfl rfl) ?_
  refine ao1 (by decide) (o_assign (v := .bool _) rfl) ?_
  refine ao_nil ?_
  repeat (refine then_nrm ?_)
  refine aw_cond rfl (fun hc => ?_) (fun hc => ?_)
  · have hk : n.kind = 1 := by simpa using hc
    rw [show lmay n = (n.til == 0 && decide (0 < n.things.length) && sok n.things) by rw [lmay, if_pos (by omega)]]
    repeat (first | refine then_nrm ?_ | refine aw_skip ?_)
    refine aw_cond rfl (fun hc => ?_) (fun hc => ?_)
    · repeat (refine aw_seq ?_)
      refine aw_out 2 (.bool (n.til == 0 && decide (0 < n.things.length) && sok n.things)) ?_ ?_
      · refine ao1 (by decide) (w_fieldAddr rfl (lk rfl rfl) rfl (by decide)) ?_
        refine ao1 (by decide) (w_load1 (v := .int _ _) rfl (lk rfl rfl) rfl rfl rfl) ?_
        refine ao1 (by decide) (o_eq rfl rfl) ?_
        refine ao1 (by decide) (o_move (v := .bool _) rfl) ?_
        refine ao_split rfl rfl (fun hg3 => ?_) (fun hg3 => ?_)
        · refine ao_y1 rfl rfl (by decide) (w_fieldAddr rfl (lk rfl rfl) rfl (by decide)) ?_
          refine ao_y1 rfl rfl (by decide) (w_load1 (v := .pl _) rfl (lk rfl rfl) rfl rfl rfl) ?_
          refine ao_y1 rfl rfl (by decide) (o_lenp rfl) ?_
          refine ao_y1 rfl rfl (by decide) (o_gt rfl rfl) ?_
          refine ao1 (by decide) (o_pick_t (v := .bool _) rfl rfl) ?_
          refine ao1 (by decide) (o_move (v := .bool _) rfl) ?_
          refine ao_split rfl rfl (fun hg9 => ?_) (fun hg9 => ?_)
          · refine ao_y1 rfl rfl (by decide) (w_fieldAddr rfl (lk rfl rfl) rfl (by decide)) ?_
            refine ao_y1 rfl rfl (by decide) (w_load1 (v := .pl _) rfl (lk rfl rfl) rfl rfl rfl) ?_
            refine ao_y rfl rfl (by decide) (V2.call (set_Right _ (by assumption) _) rfl) ?_
            refine ao1 (by decide) (o_pick_t (v := .bool _) rfl rfl) ?_
            refine ao1 (by decide) (o_assign (v := .bool _) rfl) ?_
            exact ao_nil (Out.mk (by (refine congrArg AV.bool ?_; (simp_all; done))) (by repeat (first | exact SubX.refl _ _ | refine SubX.at ?_ | refine SubX.put rfl ?_)))
          · refine ao_nT rfl rfl (by decide) ?_
            refine ao_nT rfl rfl (by decide) ?_
            refine ao_nT rfl rfl (by decide) ?_
            refine ao1 (by decide) (o_pick_f (v := .bool _) rfl rfl) ?_
            refine ao1 (by decide) (o_assign (v := .bool _) rfl) ?_
            exact ao_nil (Out.mk (by (refine congrArg AV.bool ?_; (simp_all; done))) (by repeat (first | exact SubX.refl _ _ | refine SubX.at ?_ | refine SubX.put rfl ?_)))
        · refine ao_nT rfl rfl (by decide) ?_
          refine ao_nT rfl rfl (by decide) ?_
          refine ao_nT rfl rfl (by decide) ?_
          refine ao_nT rfl rfl (by decide) ?_
          refine ao1 (by decide) (o_pick_f (v := .bool _) rfl rfl) ?_
          refine ao1 (by decide) (o_move (v := .bool _) rfl) ?_
          refine ao_nT rfl rfl (by decide) ?_
          refine ao_nT rfl rfl (by decide) ?_
          refine ao_nT rfl rfl (by decide) ?_
          refine ao1 (by decide) (o_pick_f (v := .bool _) rfl rfl) ?_
          refine ao1 (by decide) (o_assign (v := .bool _) rfl) ?_
          exact ao_nil (Out.mk (by (refine congrArg AV.bool ?_; (simp_all; done))) (by repeat (first | exact SubX.refl _ _ | refine SubX.at ?_ | refine SubX.put rfl ?_)))
      repeat (first | refine then_nrm ?_ | refine then_ret ?_ | refine blk_ret ?_ | refine aw_ret ?_)
      exact e_done hB (r_tmp rfl .nil) rfl rfl
    · simp [hk] at hc
  · have h1 : n.kind ≠ 1 := by simpa using hc
    repeat (refine aw_seq ?_)
    refine aw_region ?_
    refine ao1 (by decide) (o_eq rfl rfl) ?_
    refine ao1 (by decide) (o_assign (v := .bool _) rfl) ?_
    refine ao_nil ?_
    repeat (refine then_nrm ?_)
    refine aw_cond rfl (fun hc => ?_) (fun hc => ?_)
    · have hk : n.kind = 2 := by simpa using hc
      rw [show lmay n = (n.til == 0 && decide (0 < n.things.length) && sok n.things) by rw [lmay, if_pos (by omega)]]
      repeat (first | refine then_nrm ?_ | refine aw_skip ?_)
      refine aw_cond rfl (fun hc => ?_) (fun hc => ?_)
      · repeat (refine aw_seq ?_)
        refine aw_out 2 (.bool (n.til == 0 && decide (0 < n.things.length) && sok n.things)) ?_ ?_
        · refine ao1 (by decide) (w_fieldAddr rfl (lk rfl rfl) rfl (by decide)) ?_
          refine ao1 (by decide) (w_load1 (v := .int _ _) rfl (lk rfl rfl) rfl rfl rfl) ?_
          refine ao1 (by decide) (o_eq rfl rfl) ?_
          refine ao1 (by decide) (o_move (v := .bool _) rfl) ?_
          refine ao_split rfl rfl (fun hg3 => ?_) (fun hg3 => ?_)
          · refine ao_y1 rfl rfl (by decide) (w_fieldAddr rfl (lk rfl rfl) rfl (by decide)) ?_
            refine ao_y1 rfl rfl (by decide) (w_load1 (v := .pl _) rfl (lk rfl rfl) rfl rfl rfl) ?_
            refine ao_y1 rfl rfl (by decide) (o_lenp rfl) ?_
            refine ao_y1 rfl rfl (by decide) (o_gt rfl rfl) ?_
            refine ao1 (by decide) (o_pick_t (v := .bool _) rfl rfl) ?_
            refine ao1 (by decide) (o_move (v := .bool _) rfl) ?_
            refine ao_split rfl rfl (fun hg9 => ?_) (fun hg9 => ?_)
            · refine ao_y1 rfl rfl (by decide) (w_fieldAddr rfl (lk rfl rfl) rfl (by decide)) ?_
              refine ao_y1 rfl rfl (by decide) (w_load1 (v := .pl _) rfl (lk rfl rfl) rfl rfl rfl) ?_
              refine ao_y rfl rfl (by decide) (V2.call (set_Right _ (by assumption) _) rfl) ?_
              refine ao1 (by decide) (o_pick_t (v := .bool _) rfl rfl) ?_
              refine ao1 (by decide) (o_assign (v := .bool _) rfl) ?_
              exact ao_nil (Out.mk (by (refine congrArg AV.bool ?_; (simp_all; done))) (by repeat (first | exact SubX.refl _ _ | refine SubX.at ?_ | refine SubX.put rfl ?_)))
            · refine ao_nT rfl rfl (by decide) ?_
              refine ao_nT rfl rfl (by decide) ?_
              refine ao_nT rfl rfl (by decide) ?_
              refine ao1 (by decide) (o_pick_f (v := .bool _) rfl rfl) ?_
              refine ao1 (by decide) (o_assign (v := .bool _) rfl) ?_
              exact ao_nil (Out.mk (by (refine congrArg AV.bool ?_; (simp_all; done))) (by repeat (first | exact SubX.refl _ _ | refine SubX.at ?_ | refine SubX.put rfl ?_)))
          · refine ao_nT rfl rfl (by decide) ?_
            refine ao_nT rfl rfl (by decide) ?_
            refine ao_nT rfl rfl (by decide) ?_
            refine ao_nT rfl rfl (by decide) ?_
            refine ao1 (by decide) (o_pick_f (v := .bool _) rfl rfl) ?_
            refine ao1 (by decide) (o_move (v := .bool _) rfl) ?_
            refine ao_nT rfl rfl (by decide) ?_
            refine ao_nT rfl rfl (by decide) ?_
            refine ao_nT rfl rfl (by decide) ?_
            refine ao1 (by decide) (o_pick_f (v := .bool _) rfl rfl) ?_
            refine ao1 (by decide) (o_assign (v := .bool _) rfl) ?_
            exact ao_nil (Out.mk (by (refine congrArg AV.bool ?_; (simp_all; done))) (by repeat (first | exact SubX.refl _ _ | refine SubX.at ?_ | refine SubX.put rfl ?_)))
        repeat (first | refine then_nrm ?_ | refine then_ret ?_ | refine blk_ret ?_ | refine aw_ret ?_)
        exact e_done hB (r_tmp rfl .nil) rfl rfl
      · simp [hk] at hc
    · have h2 : n.kind ≠ 2 := by simpa using hc
      refine aw_region ?_
      refine ao1 (by decide) (o_eq rfl rfl) ?_
      refine ao1 (by decide) (o_assign (v := .bool _) rfl) ?_
      refine ao_nil ?_
      repeat (refine then_nrm ?_)
      refine aw_cond rfl (fun hc => ?_) (fun hc => ?_)
      · have hk : n.kind = 3 := by simpa using hc
        rw [show lmay n = (n.til == 0 && decide (0 < n.things.length) && sok n.things) by rw [lmay, if_pos (by omega)]]
        repeat (refine aw_seq ?_)
        refine aw_out 2 (.bool (n.til == 0 && decide (0 < n.things.length) && sok n.things)) ?_ ?_
        · refine ao1 (by decide) (w_fieldAddr rfl (lk rfl rfl) rfl (by decide)) ?_
          refine ao1 (by decide) (w_load1 (v := .int _ _) rfl (lk rfl rfl) rfl rfl rfl) ?_
          refine ao1 (by decide) (o_eq rfl rfl) ?_
          refine ao1 (by decide) (o_move (v := .bool _) rfl) ?_
          refine ao_split rfl rfl (fun hg3 => ?_) (fun hg3 => ?_)
          · refine ao_y1 rfl rfl (by decide) (w_fieldAddr rfl (lk rfl rfl) rfl (by decide)) ?_
            refine ao_y1 rfl rfl (by decide) (w_load1 (v := .pl _) rfl (lk rfl rfl) rfl rfl rfl) ?_
            refine ao_y1 rfl rfl (by decide) (o_lenp rfl) ?_
            refine ao_y1 rfl rfl (by decide) (o_gt rfl rfl) ?_
            refine ao1 (by decide) (o_pick_t (v := .bool _) rfl rfl) ?_
            refine ao1 (by decide) (o_move (v := .bool _) rfl) ?_
            refine ao_split rfl rfl (fun hg9 => ?_) (fun hg9 => ?_)
            · refine ao_y1 rfl rfl (by decide) (w_fieldAddr rfl (lk rfl rfl) rfl (by decide)) ?_
              refine ao_y1 rfl rfl (by decide) (w_load1 (v := .pl _) rfl (lk rfl rfl) rfl rfl rfl) ?_
              refine ao_y rfl rfl (by decide) (V2.call (set_Right _ (by assumption) _) rfl) ?_
              refine ao1 (by decide) (o_pick_t (v := .bool _) rfl rfl) ?_
              refine ao1 (by decide) (o_assign (v := .bool _) rfl) ?_
              exact ao_nil (Out.mk (by (refine congrArg AV.bool ?_; (simp_all; done))) (by repeat (first | exact SubX.refl _ _ | refine SubX.at ?_ | refine SubX.put rfl ?_)))
            · refine ao_nT rfl rfl (by decide) ?_
              refine ao_nT rfl rfl (by decide) ?_
              refine ao_nT rfl rfl (by decide) ?_
              refine ao1 (by decide) (o_pick_f (v := .bool _) rfl rfl) ?_
              refine ao1 (by decide) (o_assign (v := .bool _) rfl) ?_
              exact ao_nil (Out.mk (by (refine congrArg AV.bool ?_; (simp_all; done))) (by repeat (first | exact SubX.refl _ _ | refine SubX.at ?_ | refine SubX.put rfl ?_)))
          · refine ao_nT rfl rfl (by decide) ?_
            refine ao_nT rfl rfl (by decide) ?_
            refine ao_nT rfl rfl (by decide) ?_
            refine ao_nT rfl rfl (by decide) ?_
            refine ao1 (by decide) (o_pick_f (v := .bool _) rfl rfl) ?_
            refine ao1 (by decide) (o_move (v := .bool _) rfl) ?_
            refine ao_nT rfl rfl (by decide) ?_
            refine ao_nT rfl rfl (by decide) ?_
            refine ao_nT rfl rfl (by decide) ?_
            refine ao1 (by decide) (o_pick_f (v := .bool _) rfl rfl) ?_
            refine ao1 (by decide) (o_assign (v := .bool _) rfl) ?_
            exact ao_nil (Out.mk (by (refine congrArg AV.bool ?_; (simp_all; done))) (by repeat (first | exact SubX.refl _ _ | refine SubX.at ?_ | refine SubX.put rfl ?_)))
        repeat (first | refine then_nrm ?_ | refine then_ret ?_ | refine blk_ret ?_ | refine aw_ret ?_)
        exact e_done hB (r_tmp rfl .nil) rfl rfl
      · have h3 : n.kind ≠ 3 := by simpa using hc
        repeat (refine aw_seq ?_)
        refine aw_region ?_
        refine ao1 (by decide) (o_eq rfl rfl) ?_
        refine ao1 (by decide) (o_assign (v := .bool _) rfl) ?_
        refine ao_nil ?_
        repeat (refine then_nrm ?_)
        refine aw_cond rfl (fun hc => ?_) (fun hc => ?_)
        · have hk : n.kind = 4 := by simpa using hc
          rw [show lmay n = (tm n.til && decide (n.things.length = 0)) by rw [lmay, if_neg (by omega), if_pos hk]]
          repeat (refine aw_seq ?_)
          refine aw_out 2 (.bool (tm n.til && decide (n.things.length = 0))) ?_ ?_
          · refine ao1 (by decide) (w_fieldAddr rfl (lk rfl rfl) rfl (by decide)) ?_
            refine ao1 (by decide) (w_load1 (v := .int _ _) rfl (lk rfl rfl) rfl rfl rfl) ?_
            refine ao_ret (when_Right _ _) rfl (by decide) ?_
            refine ao1 (by decide) (o_move (v := .bool _) rfl) ?_
            refine ao_split rfl rfl (fun hg3 => ?_) (fun hg3 => ?_)
            · refine ao_y1 rfl rfl (by decide) (w_fieldAddr rfl (lk rfl rfl) rfl (by decide)) ?_
              refine ao_y1 rfl rfl (by decide) (w_load1 (v := .pl _) rfl (lk rfl rfl) rfl rfl rfl) ?_
              refine ao_y1 rfl rfl (by decide) (o_lenp rfl) ?_
              refine ao_y1 rfl rfl (by decide) (o_eq rfl rfl) ?_
              refine ao1 (by decide) (o_pick_t (v := .bool _) rfl rfl) ?_
              refine ao1 (by decide) (o_assign (v := .bool _) rfl) ?_
              exact ao_nil (Out.mk (by (refine congrArg AV.bool ?_; (simp only [tm] at *; grind))) (by repeat (first | exact SubX.refl _ _ | refine SubX.at ?_ | refine SubX.put rfl ?_)))
            · refine ao_nT rfl rfl (by decide) ?_
              refine ao_nT rfl rfl (by decide) ?_
              refine ao_nT rfl rfl (by decide) ?_
              refine ao_nT rfl rfl (by decide) ?_
              refine ao1 (by decide) (o_pick_f (v := .bool _) rfl rfl) ?_
              refine ao1 (by decide) (o_assign (v := .bool _) rfl) ?_
              exact ao_nil (Out.mk (by (refine congrArg AV.bool ?_; (simp only [tm] at *; grind))) (by repeat (first | exact SubX.refl _ _ | refine SubX.at ?_ | refine SubX.put rfl ?_)))
          repeat (first | refine then_nrm ?_ | refine then_ret ?_ | refine blk_ret ?_ | refine aw_ret ?_)
          exact e_done hB (r_tmp rfl .nil) rfl rfl
        · have h4 : n.kind ≠ 4 := by simpa using hc
          rw [show lmay n = false by rw [lmay, if_neg (by omega), if_neg h4]]
          repeat (first | refine then_nrm ?_ | refine blk_nrm ?_ | refine aw_seq ?_ | refine aw_skip ?_)
          refine aw_region ?_
          refine ao1 (by decide) (o_assign (v := .bool _) rfl) ?_
          refine ao_nil ?_
          repeat (first | refine then_nrm ?_ | refine aw_ret ?_)
          exact e_done hB (r_tmp rfl .nil) rfl rfl
set_option maxHeartbeats 0 in
theorem ref19_May (n : Note) (hl : n.things.length ≤ 1000000) (H : Heap) : AC Tryd.prog 36 [.agg (eNote n)] H (Ret (.bool (lmay n)) H) := by
  refine AC.body (N := 39) [.tmp 2] Tryd.func36 rfl rfl rfl (Nat.le_of_ble_eq_true rfl) fun B hB => ?_
  repeat (refine aw_seq ?_)
  refine aw_region ?_
  refine ao2 (by rintro _ ⟨⟩; decide) (o_boxL (sz := 3) (v := .agg _) rfl rfl rfl rfl (by decide) rfl) ?_
  refine ao1 (by decide) (o_assign (v := .bool _) rfl) ?_
  refine ao_nil ?_
  try dsimp only [List.length_nil, put, AV.cells, List.nil_append]
  repeat (first | refine then_nrm ?_ | refine aw_seq ?_)
  refine aw_region ?_
  refine ao1 (by decide) (w_fieldAddr rfl (lk rfl rfl) rfl (by decide)) ?_
  refine ao1 (by decide) (w_load1 (v := .int _ _) rfl (lk rfl rfl) rfl rfl rfl) ?_
  refine ao1 (by decide) (o_eq rfl rfl) ?_
  refine ao_nil ?_
  try dsimp only [Nat.reduceAdd]
  repeat (refine then_nrm ?_)
  refine aw_cond rfl (fun hc => ?_) (fun hc => ?_)
  · have hk : n.kind = 4 := by simpa using hc
    rw [show lmay n = (tm n.til && decide (n.things.length = 0)) by rw [lmay, if_neg (by omega), if_pos hk]]
    repeat (refine aw_seq ?_)
    refine aw_out 2 (.bool (tm n.til && decide (n.things.length = 0))) ?_ ?_
    · refine ao1 (by decide) (w_fieldAddr rfl (lk rfl rfl) rfl (by decide)) ?_
      refine ao1 (by decide) (w_load1 (v := .int _ _) rfl (lk rfl rfl) rfl rfl rfl) ?_
      refine ao_ret (ref19_time _ _) rfl (by decide) ?_
      refine ao1 (by decide) (o_move (v := .bool _) rfl) ?_
      refine ao_split rfl rfl (fun hg3 => ?_) (fun hg3 => ?_)
      · refine ao_y1 rfl rfl (by decide) (w_fieldAddr rfl (lk rfl rfl) rfl (by decide)) ?_
        refine ao_y1 rfl rfl (by decide) (w_load1 (v := .pl _) rfl (lk rfl rfl) rfl rfl rfl) ?_
        refine ao_y1 rfl rfl (by decide) (o_lenp rfl) ?_
        refine ao_y1 rfl rfl (by decide) (o_eq rfl rfl) ?_
        refine ao1 (by decide) (o_pick_t (v := .bool _) rfl rfl) ?_
        refine ao1 (by decide) (o_assign (v := .bool _) rfl) ?_
        exact ao_nil (Out.mk (by (refine congrArg AV.bool ?_; grind)) (by repeat (first | exact SubX.refl _ _ | refine SubX.at ?_ | refine SubX.put rfl ?_)))
      · refine ao_nT rfl rfl (by decide) ?_
        refine ao_nT rfl rfl (by decide) ?_
        refine ao_nT rfl rfl (by decide) ?_
        refine ao_nT rfl rfl (by decide) ?_
        refine ao1 (by decide) (o_pick_f (v := .bool _) rfl rfl) ?_
        refine ao1 (by decide) (o_assign (v := .bool _) rfl) ?_
        exact ao_nil (Out.mk (by (refine congrArg AV.bool ?_; (simp_all; done))) (by repeat (first | exact SubX.refl _ _ | refine SubX.at ?_ | refine SubX.put rfl ?_)))
    repeat (first | refine then_nrm ?_ | refine then_ret ?_ | refine aw_ret ?_)
    exact e_done hB (r_tmp rfl .nil) rfl rfl
  · have h4 : n.kind ≠ 4 := by simpa using hc
    rw [show lmay n = (decide (1 ≤ n.kind) && decide (n.kind ≤ 3) && n.til == 0 && decide (0 < n.things.length) && sok n.things) by
      unfold lmay
      rw [if_neg h4]
      by_cases h : n.kind = 1 ∨ n.kind = 2 ∨ n.kind = 3
      · rw [if_pos h, show decide (1 ≤ n.kind) = true by simp; omega, show decide (n.kind ≤ 3) = true by simp; omega]; rfl
      · rw [if_neg h, show (decide (1 ≤ n.kind) && decide (n.kind ≤ 3)) = false by simp; omega]; rfl]
    repeat (first | refine then_nrm ?_ | refine aw_seq ?_ | refine aw_skip ?_)
    refine aw_out 2 (.bool (decide (1 ≤ n.kind) && decide (n.kind ≤ 3) && n.til == 0 && decide (0 < n.things.length) && sok n.things)) ?_ ?_
    · refine ao1 (by decide) (w_fieldAddr rfl (lk rfl rfl) rfl (by decide)) ?_
      refine ao1 (by decide) (w_load1 (v := .int _ _) rfl (lk rfl rfl) rfl rfl rfl) ?_
      refine ao1 (by decide) (o_ge rfl rfl) ?_
      refine ao1 (by decide) (o_move (v := .bool _) rfl) ?_
      refine ao_split rfl rfl (fun hg3 => ?_) (fun hg3 => ?_)
      · refine ao_y1 rfl rfl (by decide) (w_fieldAddr rfl (lk rfl rfl) rfl (by decide)) ?_
        refine ao_y1 rfl rfl (by decide) (w_load1 (v := .int _ _) rfl (lk rfl rfl) rfl rfl rfl) ?_
        refine ao_y1 rfl rfl (by decide) (o_le rfl rfl) ?_
        refine ao1 (by decide) (o_pick_t (v := .bool _) rfl rfl) ?_
        refine ao1 (by decide) (o_move (v := .bool _) rfl) ?_
        refine ao_split rfl rfl (fun hg8 => ?_) (fun hg8 => ?_)
        · refine ao_y1 rfl rfl (by decide) (w_fieldAddr rfl (lk rfl rfl) rfl (by decide)) ?_
          refine ao_y1 rfl rfl (by decide) (w_load1 (v := .int _ _) rfl (lk rfl rfl) rfl rfl rfl) ?_
          refine ao_y1 rfl rfl (by decide) (o_eq rfl rfl) ?_
          refine ao1 (by decide) (o_pick_t (v := .bool _) rfl rfl) ?_
          refine ao1 (by decide) (o_move (v := .bool _) rfl) ?_
          refine ao_split rfl rfl (fun hg13 => ?_) (fun hg13 => ?_)
          · refine ao_y1 rfl rfl (by decide) (w_fieldAddr rfl (lk rfl rfl) rfl (by decide)) ?_
            refine ao_y1 rfl rfl (by decide) (w_load1 (v := .pl _) rfl (lk rfl rfl) rfl rfl rfl) ?_
            refine ao_y1 rfl rfl (by decide) (o_lenp rfl) ?_
            refine ao_y1 rfl rfl (by decide) (o_gt rfl rfl) ?_
            refine ao1 (by decide) (o_pick_t (v := .bool _) rfl rfl) ?_
            refine ao1 (by decide) (o_move (v := .bool _) rfl) ?_
            refine ao_split rfl rfl (fun hg19 => ?_) (fun hg19 => ?_)
            · refine ao_y1 rfl rfl (by decide) (w_fieldAddr rfl (lk rfl rfl) rfl (by decide)) ?_
              refine ao_y1 rfl rfl (by decide) (w_load1 (v := .pl _) rfl (lk rfl rfl) rfl rfl rfl) ?_
              refine ao_y rfl rfl (by decide) (V2.call (ref01_Right _ (by assumption) _) rfl) ?_
              refine ao1 (by decide) (o_pick_t (v := .bool _) rfl rfl) ?_
              refine ao1 (by decide) (o_assign (v := .bool _) rfl) ?_
              exact ao_nil (Out.mk (by (refine congrArg AV.bool ?_; (simp_all; done))) (by repeat (first | exact SubX.refl _ _ | refine SubX.at ?_ | refine SubX.put rfl ?_)))
            · refine ao_nT rfl rfl (by decide) ?_
              refine ao_nT rfl rfl (by decide) ?_
              refine ao_nT rfl rfl (by decide) ?_
              refine ao1 (by decide) (o_pick_f (v := .bool _) rfl rfl) ?_
              refine ao1 (by decide) (o_assign (v := .bool _) rfl) ?_
              exact ao_nil (Out.mk (by (refine congrArg AV.bool ?_; (simp_all; done))) (by repeat (first | exact SubX.refl _ _ | refine SubX.at ?_ | refine SubX.put rfl ?_)))
          · refine ao_nT rfl rfl (by decide) ?_
            refine ao_nT rfl rfl (by decide) ?_
            refine ao_nT rfl rfl (by decide) ?_
            refine ao_nT rfl rfl (by decide) ?_
            refine ao1 (by decide) (o_pick_f (v := .bool _) rfl rfl) ?_
            refine ao1 (by decide) (o_move (v := .bool _) rfl) ?_
            refine ao_nT rfl rfl (by decide) ?_
            refine ao_nT rfl rfl (by decide) ?_
            refine ao_nT rfl rfl (by decide) ?_
            refine ao1 (by decide) (o_pick_f (v := .bool _) rfl rfl) ?_
            refine ao1 (by decide) (o_assign (v := .bool _) rfl) ?_
            exact ao_nil (Out.mk (by (refine congrArg AV.bool ?_; (simp_all; done))) (by repeat (first | exact SubX.refl _ _ | refine SubX.at ?_ | refine SubX.put rfl ?_)))
        · refine ao_nT rfl rfl (by decide) ?_
          refine ao_nT rfl rfl (by decide) ?_
          refine ao_nT rfl rfl (by decide) ?_
          refine ao1 (by decide) (o_pick_f (v := .bool _) rfl rfl) ?_
          refine ao1 (by decide) (o_move (v := .bool _) rfl) ?_
          refine ao_nT rfl rfl (by decide) ?_
          refine ao_nT rfl rfl (by decide) ?_
          refine ao_nT rfl rfl (by decide) ?_
          refine ao_nT rfl rfl (by decide) ?_
          refine ao1 (by decide) (o_pick_f (v := .bool _) rfl rfl) ?_
          refine ao1 (by decide) (o_move (v := .bool _) rfl) ?_
          refine ao_nT rfl rfl (by decide) ?_
          refine ao_nT rfl rfl (by decide) ?_
          refine ao_nT rfl rfl (by decide) ?_
          refine ao1 (by decide) (o_pick_f (v := .bool _) rfl rfl) ?_
          refine ao1 (by decide) (o_assign (v := .bool _) rfl) ?_
          exact ao_nil (Out.mk (by (refine congrArg AV.bool ?_; grind)) (by repeat (first | exact SubX.refl _ _ | refine SubX.at ?_ | refine SubX.put rfl ?_)))
      · refine ao_nT rfl rfl (by decide) ?_
        refine ao_nT rfl rfl (by decide) ?_
        refine ao_nT rfl rfl (by decide) ?_
        refine ao1 (by decide) (o_pick_f (v := .bool _) rfl rfl) ?_
        refine ao1 (by decide) (o_move (v := .bool _) rfl) ?_
        refine ao_nT rfl rfl (by decide) ?_
        refine ao_nT rfl rfl (by decide) ?_
        refine ao_nT rfl rfl (by decide) ?_
        refine ao1 (by decide) (o_pick_f (v := .bool _) rfl rfl) ?_
        refine ao1 (by decide) (o_move (v := .bool _) rfl) ?_
        refine ao_nT rfl rfl (by decide) ?_
        refine ao_nT rfl rfl (by decide) ?_
        refine ao_nT rfl rfl (by decide) ?_
        refine ao_nT rfl rfl (by decide) ?_
        refine ao1 (by decide) (o_pick_f (v := .bool _) rfl rfl) ?_
        refine ao1 (by decide) (o_move (v := .bool _) rfl) ?_
        refine ao_nT rfl rfl (by decide) ?_
        refine ao_nT rfl rfl (by decide) ?_
        refine ao_nT rfl rfl (by decide) ?_
        refine ao1 (by decide) (o_pick_f (v := .bool _) rfl rfl) ?_
        refine ao1 (by decide) (o_assign (v := .bool _) rfl) ?_
        exact ao_nil (Out.mk (by (refine congrArg AV.bool ?_; grind)) (by repeat (first | exact SubX.refl _ _ | refine SubX.at ?_ | refine SubX.put rfl ?_)))
    repeat (first | refine then_nrm ?_ | refine aw_ret ?_)
    exact e_done hB (r_tmp rfl .nil) rfl rfl
end Go.Av
