/- Parts of the proof: rules for an abstract memory, plain laws, and walks through the program. -/
import Derived.Test.YtmhfpopbhiloiaaDoorLLeaseBytesP3
import Derived.Test.YtmhfpopbhiloiaaDoorLLeaseBytesP2
namespace Go.Av
open Go.Proofs
set_option maxRecDepth 10000
set_option linter.unusedSimpArgs false
set_option linter.unusedVariables false

/-! ### times -/
def near (t : Int) : Int := max 0 (min t 4611686018427387904)
def plus (t l : Int) : Int := near t + min (near l) (4611686018427387904 - near t)
theorem near_in (t : Int) : 0 ≤ near t ∧ near t ≤ 4611686018427387904 := by unfold near; omega
theorem plus_in (t l : Int) : 0 ≤ plus t l ∧ plus t l ≤ 4611686018427387904 := by unfold plus; have := near_in t; have := near_in l; omega
theorem when_near (t : Int) (H : Heap) : AC Tryd.prog 55 [.int .i64 t] H (Ret (.int .i64 (near t)) H) := by
  refine AC.body (N := 6) [.tmp 2] Tryd.func55 rfl rfl rfl (Nat.le_of_ble_eq_true rfl) fun B hB => ?_
  repeat (refine aw_seq ?_)
  refine aw_region ?_
  refine ao1 (by decide) (o_assign (v := .int _ _) rfl) ?_
  refine ao_nil ?_
  repeat (first | refine then_nrm ?_ | refine aw_seq ?_)
  refine aw_region ?_
  refine ao1 (by decide) (o_move (v := .int _ _) rfl) ?_
  refine ao1 (by decide) (o_min rfl rfl rfl) ?_
  refine ao1 (by decide) (o_max rfl rfl rfl) ?_
  refine ao1 (by decide) (o_assign (v := .int _ _) rfl) ?_
  refine ao_nil ?_
  repeat (first | refine then_nrm ?_ | refine aw_ret ?_)
  exact e_done hB (r_tmp rfl .nil) rfl rfl
theorem when_Plus (t l : Int) (H : Heap) : AC Tryd.prog 39 [.int .i64 t, .int .i64 l] H (Ret (.int .i64 (plus t l)) H) := by
  have h1 := near_in t
  have h2 := near_in l
  refine AC.body (N := 14) [.tmp 4] Tryd.func39 rfl rfl rfl (Nat.le_of_ble_eq_true rfl) fun B hB => ?_
  repeat (refine aw_seq ?_)
  refine aw_region ?_
  refine ao1 (by decide) (o_assign (v := .int _ _) rfl) ?_
  refine ao_nil ?_
  repeat (first | refine then_nrm ?_ | refine aw_seq ?_)
  refine aw_region ?_
  refine ao1 (by decide) (o_move (v := .int _ _) rfl) ?_
  refine ao_ret (when_near _ _) rfl (by decide) ?_
  refine ao1 (by decide) (o_move (v := .int _ _) rfl) ?_
  refine ao_ret (when_near _ _) rfl (by decide) ?_
  refine ao1 (by decide) (o_move (v := .int _ _) rfl) ?_
  refine ao_ret (when_near _ _) rfl (by decide) ?_
  refine ao1 (by decide) (o_sub rfl rfl (wrap64_ok (by omega) (by omega))) ?_
  refine ao1 (by decide) (o_min rfl rfl rfl) ?_
  refine ao1 (by decide) (o_add rfl rfl (wrap64_ok (by omega) (by omega))) ?_
  refine ao1 (by decide) (o_assign (v := .int _ _) rfl) ?_
  refine ao_nil ?_
  repeat (first | refine then_nrm ?_ | refine aw_ret ?_)
  exact e_done hB (r_tmp rfl .nil) rfl rfl
theorem when_Right (t : Int) (H : Heap) : AC Tryd.prog 32 [.int .i64 t] H (Ret (.bool (decide (0 ≤ t) && decide (t ≤ 4611686018427387904))) H) := by
  refine AC.body (N := 9) [.tmp 2] Tryd.func32 rfl rfl rfl (Nat.le_of_ble_eq_true rfl) fun B hB => ?_
  repeat (refine aw_seq ?_)
  refine aw_region ?_
  refine ao1 (by decide) (o_assign (v := .bool _) rfl) ?_
  refine ao_nil ?_
  repeat (first | refine then_nrm ?_ | refine aw_seq ?_)
  refine aw_out 2 (.bool (decide (0 ≤ t) && decide (t ≤ 4611686018427387904))) ?_ ?_
  · refine ao1 (by decide) (o_move (v := .int _ _) rfl) ?_
    refine ao1 (by decide) (o_ge rfl rfl) ?_
    refine ao1 (by decide) (o_move (v := .bool _) rfl) ?_
    refine ao_split rfl rfl (fun hg2 => ?_) (fun hg2 => ?_)
    · refine ao_y1 rfl rfl (by decide) (o_move (v := .int _ _) rfl) ?_
      refine ao_y1 rfl rfl (by decide) (o_le rfl rfl) ?_
      refine ao1 (by decide) (o_pick_t (v := .bool _) rfl rfl) ?_
      refine ao1 (by decide) (o_assign (v := .bool _) rfl) ?_
      exact ao_nil (Out.mk (by (refine congrArg AV.bool ?_; (refine Bool.eq_iff_iff.mpr ?_; simp only [Bool.and_eq_true, Bool.or_eq_true, Bool.not_eq_true', decide_eq_true_eq, decide_eq_false_iff_not, beq_iff_eq, bne_iff_ne, beq_eq_false_iff_ne, Bool.false_eq_true, Bool.true_eq_false, Bool.and_eq_false_iff, Bool.or_eq_false_iff, List.length_map, false_iff, true_iff, iff_true, iff_false] at *; omega))) (by repeat (first | exact SubX.refl _ _ | refine SubX.at ?_ | refine SubX.put rfl ?_)))
    · refine ao_nT rfl rfl (by decide) ?_
      refine ao_nT rfl rfl (by decide) ?_
      refine ao1 (by decide) (o_pick_f (v := .bool _) rfl rfl) ?_
      refine ao1 (by decide) (o_assign (v := .bool _) rfl) ?_
      exact ao_nil (Out.mk (by (refine congrArg AV.bool ?_; (refine Bool.eq_iff_iff.mpr ?_; simp only [Bool.and_eq_true, Bool.or_eq_true, Bool.not_eq_true', decide_eq_true_eq, decide_eq_false_iff_not, beq_iff_eq, bne_iff_ne, beq_eq_false_iff_ne, Bool.false_eq_true, Bool.true_eq_false, Bool.and_eq_false_iff, Bool.or_eq_false_iff, List.length_map, false_iff, true_iff, iff_true, iff_false] at *; omega))) (by repeat (first | exact SubX.refl _ _ | refine SubX.at ?_ | refine SubX.put rfl ?_)))
  repeat (first | refine then_nrm ?_ | refine aw_ret ?_)
  exact e_done hB (r_tmp rfl .nil) rfl rfl
theorem ref02_Near (t : Int) (H : Heap) : AC Tryd.prog 56 [.int .i64 t] H (Ret (.int .u64 (near t)) H) := by
  refine AC.body (N := 9) [.tmp 2] Tryd.func56 rfl rfl rfl (Nat.le_of_ble_eq_true rfl) fun B hB => ?_
  repeat (refine aw_seq ?_)
  refine aw_region ?_
  refine ao1 (by decide) (o_assign (v := .int _ _) rfl) ?_
  refine ao_nil ?_
  repeat (first | refine then_nrm ?_ | refine aw_seq ?_)
  refine aw_region ?_
  refine ao1 (by decide) (o_move (v := .int _ _) rfl) ?_
  refine ao1 (by decide) (o_lt rfl rfl) ?_
  refine ao_nil ?_
  repeat (refine then_nrm ?_)
  refine aw_cond rfl (fun hc => ?_) (fun hc => ?_)
  · repeat (refine aw_seq ?_)
    refine aw_region ?_
    refine ao1 (by decide) (o_assign (v := .int _ _) rfl) ?_
    refine ao_nil ?_
    repeat (first | refine then_nrm ?_ | refine then_ret ?_ | refine aw_ret ?_)
    rw [show near t = 0 by simp at hc; unfold near; omega]
    exact e_done hB (r_tmp rfl .nil) rfl rfl
  · repeat (first | refine then_nrm ?_ | refine aw_seq ?_ | refine aw_skip ?_)
    refine aw_region ?_
    refine ao1 (by decide) (o_move (v := .int _ _) rfl) ?_
    refine ao1 (by decide) (o_gt rfl rfl) ?_
    refine ao_nil ?_
    repeat (refine then_nrm ?_)
    refine aw_cond rfl (fun hc => ?_) (fun hc => ?_)
    · repeat (refine aw_seq ?_)
      refine aw_region ?_
      refine ao1 (by decide) (o_assign (v := .int _ _) rfl) ?_
      refine ao_nil ?_
      repeat (first | refine then_nrm ?_ | refine then_ret ?_ | refine aw_ret ?_)
      rw [show near t = 4611686018427387904 by simp at hc; unfold near; omega]
      exact e_done hB (r_tmp rfl .nil) rfl rfl
    · have ht : 0 ≤ t ∧ t ≤ 4611686018427387904 := by simp at *; omega
      repeat (first | refine then_nrm ?_ | refine aw_seq ?_ | refine aw_skip ?_)
      refine aw_region ?_
      refine ao1 (by decide) (o_move (v := .int _ _) rfl) ?_
      refine ao1 (by decide) (o_conv_int rfl (show IntKind.u64.wrap t = t by rw [IntKind.wrap_u64]; omega)) ?_
      refine ao1 (by decide) (o_assign (v := .int _ _) rfl) ?_
      refine ao_nil ?_
      repeat (first | refine then_nrm ?_ | refine aw_ret ?_)
      rw [show near t = t by unfold near; omega]
      exact e_done hB (r_tmp rfl .nil) rfl rfl
theorem ref02_Plus (t l : Int) (H : Heap) : AC Tryd.prog 40 [.int .i64 t, .int .i64 l] H (Ret (.int .i64 (plus t l)) H) := by
  have h1 := near_in t
  have h2 := near_in l
  refine AC.body (N := 15) [.tmp 4] Tryd.func40 rfl rfl rfl (Nat.le_of_ble_eq_true rfl) fun B hB => ?_
  repeat (refine aw_seq ?_)
  refine aw_region ?_
  refine ao1 (by decide) (o_assign (v := .int _ _) rfl) ?_
  refine ao_nil ?_
  repeat (first | refine then_nrm ?_ | refine aw_seq ?_)
  refine aw_region ?_
  refine ao1 (by decide) (o_move (v := .int _ _) rfl) ?_
  refine ao_ret (ref02_Near _ _) rfl (by decide) ?_
  refine ao1 (by decide) (o_move (v := .int _ _) rfl) ?_
  refine ao_ret (ref02_Near _ _) rfl (by decide) ?_
  refine ao1 (by decide) (o_add (r := near t + near l) rfl rfl (by rw [IntKind.wrap_u64]; omega)) ?_
  refine ao1 (by decide) (o_assign (v := .int _ _) rfl) ?_
  refine ao_nil ?_
  repeat (first | refine then_nrm ?_ | refine aw_seq ?_)
  refine aw_region ?_
  refine ao1 (by decide) (o_move (v := .int _ _) rfl) ?_
  refine ao1 (by decide) (o_gt rfl rfl) ?_
  refine ao_nil ?_
  repeat (refine then_nrm ?_)
  refine aw_cond rfl (fun hc => ?_) (fun hc => ?_)
  · repeat (fail)
    refine aw_region ?_
    refine ao1 (by decide) (o_assign (v := .int _ _) rfl) ?_
    refine ao_nil ?_
    repeat (first | refine then_nrm ?_ | refine aw_seq ?_)
    refine aw_region ?_
    refine ao1 (by decide) (o_move (v := .int _ _) rfl) ?_
    refine ao1 (by decide) (o_conv_int rfl (wrap64_ok (by omega) (by omega))) ?_
    refine ao1 (by decide) (o_assign (v := .int _ _) rfl) ?_
    refine ao_nil ?_
    repeat (first | refine then_nrm ?_ | refine aw_ret ?_)
    rw [show plus t l = 4611686018427387904 by simp at hc; unfold plus; omega]
    exact e_done hB (r_tmp rfl .nil) rfl rfl
  · have : near t + near l ≤ 4611686018427387904 := by simp at hc; omega
    repeat (first | refine then_nrm ?_ | refine aw_seq ?_ | refine aw_skip ?_)
    refine aw_region ?_
    refine ao1 (by decide) (o_move (v := .int _ _) rfl) ?_
    refine ao1 (by decide) (o_conv_int rfl (wrap64_ok (by omega) (by omega))) ?_
    refine ao1 (by decide) (o_assign (v := .int _ _) rfl) ?_
    refine ao_nil ?_
    repeat (first | refine then_nrm ?_ | refine aw_ret ?_)
    rw [show plus t l = near t + near l by unfold plus; omega]
    exact e_done hB (r_tmp rfl .nil) rfl rfl


def tm (t : Int) : Bool := decide (0 ≤ t) && decide (t ≤ 4611686018427387904)
theorem ref19_time (t : Int) (H : Heap) : AC Tryd.prog 37 [.int .i64 t] H (Ret (.bool (tm t)) H) := by
  refine AC.body (N := 9) [.tmp 2] Tryd.func37 rfl rfl rfl (Nat.le_of_ble_eq_true rfl) fun B hB => ?_
  repeat (refine aw_seq ?_)
  refine aw_region ?_
  refine ao1 (by decide) (o_assign (v := .bool _) rfl) ?_
  refine ao_nil ?_
  repeat (first | refine then_nrm ?_ | refine aw_seq ?_)
  refine aw_out 2 (.bool (tm t)) ?_ ?_
  · refine ao1 (by decide) (o_move (v := .int _ _) rfl) ?_
    refine ao1 (by decide) (o_ge rfl rfl) ?_
    refine ao1 (by decide) (o_move (v := .bool _) rfl) ?_
    refine ao_split rfl rfl (fun hg2 => ?_) (fun hg2 => ?_)
    · refine ao_y1 rfl rfl (by decide) (o_move (v := .int _ _) rfl) ?_
      refine ao_y1 rfl rfl (by decide) (o_le rfl rfl) ?_
      refine ao1 (by decide) (o_pick_t (v := .bool _) rfl rfl) ?_
      refine ao1 (by decide) (o_assign (v := .bool _) rfl) ?_
      exact ao_nil (Out.mk (by (refine congrArg AV.bool ?_; (simp only [tm] at *; (simp_all; done)))) (by repeat (first | exact SubX.refl _ _ | refine SubX.at ?_ | refine SubX.put rfl ?_)))
    · refine ao_nT rfl rfl (by decide) ?_
      refine ao_nT rfl rfl (by decide) ?_
      refine ao1 (by decide) (o_pick_f (v := .bool _) rfl rfl) ?_
      refine ao1 (by decide) (o_assign (v := .bool _) rfl) ?_
      exact ao_nil (Out.mk (by (refine congrArg AV.bool ?_; (simp only [tm] at *; (simp_all; omega)))) (by repeat (first | exact SubX.refl _ _ | refine SubX.at ?_ | refine SubX.put rfl ?_)))
  repeat (first | refine then_nrm ?_ | refine aw_ret ?_)
  exact e_done hB (r_tmp rfl .nil) rfl rfl
theorem slices_CloneI (l : List Int) (H : Heap) (hn : l.length ≤ 1000000) : AC Tryd.prog 35 [.pl (l.map eInt)] H (Ret (.pl (l.map eInt)) H) := by
  refine AC.body (N := 8) [.tmp 2] Tryd.func35 rfl rfl rfl (Nat.le_of_ble_eq_true rfl) fun B hB => ?_
  repeat (refine aw_seq ?_)
  refine aw_region ?_
  refine ao1 (by decide) (o_assign (v := .nsl) rfl) ?_
  refine ao_nil ?_
  repeat (first | refine then_nrm ?_ | refine aw_seq ?_)
  refine aw_region ?_
  refine ao1 (by decide) (o_move (v := .pl _) rfl) ?_
  refine ao_cons rfl (by rintro _ ⟨⟩; decide) (o_eqNil rfl rfl _ _ _ _) ?_ (fun _ _ h => h.elim)
  rintro _ _ ⟨nb, rfl, hnb, rfl⟩
  refine ao_nil ?_
  try dsimp only [put]
  repeat (refine then_nrm ?_)
  refine aw_cond rfl (fun hc => ?_) (fun hc => ?_)
  · subst hc
    have hb : l = [] := by
      cases l with
      | nil => rfl
      | cons x b => simp at hnb
    subst hb
    repeat (refine aw_seq ?_)
    refine aw_region ?_
    refine ao1 (by decide) (o_assign (v := .nsl) rfl) ?_
    refine ao_nil ?_
    repeat (refine then_nrm ?_)
    refine aw_nslpl 2 rfl ?_
    exact aw_ret (e_done hB (r_tmp rfl .nil) rfl rfl)
  · repeat (first | refine then_nrm ?_ | refine aw_seq ?_ | refine aw_skip ?_)
    refine aw_region ?_
    refine ao2 (by rintro _ ⟨⟩; decide) (o_buildSlice0) ?_
    refine ao1 (by decide) (o_move (v := .pl _) rfl) ?_
    refine ao2 (by rintro _ ⟨⟩; decide) (g_append_new (sz := 1) (bytes := 8) rfl (Src.pl rfl (ints_len l)) rfl (by decide) (by simp; omega) (by simp; omega) (ints_bel 0 l)) ?_
    refine ao1 (by decide) (o_assign (v := .pl _) rfl) ?_
    refine ao_nil ?_
    try dsimp only [put]
    repeat (first | refine then_nrm ?_ | refine aw_ret ?_)
    exact e_done hB (r_tmp rfl .nil) rfl rfl

structure Loan where
  things : List Int
  asked : List Int
  til : Int
  deriving DecidableEq
abbrev eLoan (l : Loan) : List AV := [.pl (l.things.map eInt), .pl (l.asked.map eInt), .int .i64 l.til]
structure Note where
  kind : Int
  things : List Int
  til : Int
  deriving DecidableEq
abbrev eNote (n : Note) : List AV := [.int .i64 n.kind, .pl (n.things.map eInt), .int .i64 n.til]
def Small (l : Loan) : Prop := l.things.length ≤ 1000000 ∧ l.asked.length ≤ 1000000
theorem lease_copied (l : Loan) (hl : Small l) (H : Heap) : AC Tryd.prog 30 [.agg (eLoan l)] H (Ret (.agg (eLoan l)) H) := by
  refine AC.body (N := 12) [.cell 2 24] Tryd.func30 rfl rfl rfl (Nat.le_of_ble_eq_true rfl) fun B hB => ?_
  repeat (refine aw_seq ?_)
  refine aw_region ?_
  refine ao2 (by rintro _ ⟨⟩; decide) (o_boxL (sz := 3) (v := .agg _) rfl rfl rfl rfl (by decide) rfl) ?_
  refine ao2 (by rintro _ ⟨⟩; decide) (o_allocL (sz := 3) rfl (by decide) rfl) ?_
  refine ao_nil ?_
  try dsimp only [put, AV.cells, List.nil_append, List.length_cons, List.length_nil, Nat.reduceAdd, List.cons_append]
  repeat (first | refine then_nrm ?_ | refine aw_seq ?_)
  refine aw_drawP mixed none 1 ?_
  try dsimp only [List.take_succ_cons, List.take_zero]
  refine aqp 0 rfl (by decide +kernel) (by decide) (fun G => w_fieldAddr rfl (lk rfl rfl) rfl (by decide)) ?_
  refine aqp 1 rfl (by decide +kernel) (by decide) (fun G => w_load1 (v := .pl _) rfl (lk rfl rfl) rfl rfl rfl) ?_
  refine aq02 2 rfl (by decide +kernel) (by decide) (fun _ => V2.call (slices_CloneI l.things _ hl.1) rfl) ?_
  refine aqp 3 rfl (by decide +kernel) (by decide) (fun G => w_fieldAddr rfl (lk rfl rfl) rfl (by decide)) ?_
  refine aqp 4 rfl (by decide +kernel) (by decide) (fun G => w_load1 (v := .pl _) rfl (lk rfl rfl) rfl rfl rfl) ?_
  refine aq02 5 rfl (by decide +kernel) (by decide) (fun _ => V2.call (slices_CloneI l.asked _ hl.2) rfl) ?_
  refine aqp 6 rfl (by decide +kernel) (by decide) (fun G => w_fieldAddr rfl (lk rfl rfl) rfl (by decide)) ?_
  refine aqs 7 rfl (by decide +kernel) (by exact fun _ => ⟨_, rfl⟩) (by rintro _ ⟨⟩) (w_storeP (sz := 1) (v := .pl _) (r' := eLoan l) rfl rfl rfl rfl rfl rfl rfl rfl (Nat.le_of_ble_eq_true rfl) rfl) ?_
  refine aqp 8 rfl (by decide +kernel) (by decide) (fun G => w_fieldAddr rfl (lk rfl rfl) rfl (by decide)) ?_
  refine aqs 9 rfl (by decide +kernel) (by exact fun _ => ⟨_, rfl⟩) (by rintro _ ⟨⟩) (w_storeP (sz := 1) (v := .pl _) (r' := eLoan l) rfl rfl rfl rfl rfl rfl rfl rfl (Nat.le_of_ble_eq_true rfl) rfl) ?_
  refine aa_done (by decide +kernel) (by exact fun _ => ⟨_, rfl⟩) ?_
  try dsimp only [put, Nat.reduceAdd, List.set_cons_zero]
  all_goals
    repeat (first | refine then_nrm ?_ | refine aw_seq ?_)
    refine aw_region ?_
    refine ao1 (by decide) (w_loadR rfl (lk rfl rfl) rfl rfl rfl) ?_
    refine ao2 (by rintro _ ⟨⟩) (w_storeW (sz := 3) rfl rfl rfl rfl rfl rfl rfl rfl (Nat.le_of_ble_eq_true rfl)) ?_
    refine ao_nil ?_
    try dsimp only [put, List.set_cons_zero, List.set_cons_succ]
    repeat (first | refine then_nrm ?_ | refine aw_ret ?_)
    exact e_done hB (r_cellR rfl (lk rfl rfl) rfl rfl rfl .nil) rfl rfl
def lright (l : Loan) : Bool := sok l.things && spart l.asked l.things && tm l.til
theorem lease_Right (l : Loan) (hl : Small l) (H : Heap) : AC Tryd.prog 22 [.agg (eLoan l)] H (Ret (.bool (lright l)) H) := by
  obtain ⟨h1, h2⟩ := hl
  refine AC.body (N := 18) [.tmp 2] Tryd.func22 rfl rfl rfl (Nat.le_of_ble_eq_true rfl) fun B hB => ?_
  repeat (refine aw_seq ?_)
  refine aw_region ?_
  refine ao2 (by rintro _ ⟨⟩; decide) (o_boxL (sz := 3) (v := .agg _) rfl rfl rfl rfl (by decide) rfl) ?_
  refine ao1 (by decide) (o_assign (v := .bool _) rfl) ?_
  refine ao_nil ?_
  try dsimp only [List.length_nil, put, AV.cells, List.nil_append]
  repeat (first | refine then_nrm ?_ | refine aw_seq ?_)
  refine aw_out 2 (.bool (lright l)) ?_ ?_
  · refine ao1 (by decide) (w_fieldAddr rfl (lk rfl rfl) rfl (by decide)) ?_
    refine ao1 (by decide) (w_load1 (v := .pl _) rfl (lk rfl rfl) rfl rfl rfl) ?_
    refine ao_ret (set_Right _ (by assumption) _) rfl (by decide) ?_
    refine ao1 (by decide) (o_move (v := .bool _) rfl) ?_
    refine ao_split rfl rfl (fun hg3 => ?_) (fun hg3 => ?_)
    · refine ao_y1 rfl rfl (by decide) (w_fieldAddr rfl (lk rfl rfl) rfl (by decide)) ?_
      refine ao_y1 rfl rfl (by decide) (w_load1 (v := .pl _) rfl (lk rfl rfl) rfl rfl rfl) ?_
      refine ao_y1 rfl rfl (by decide) (w_fieldAddr rfl (lk rfl rfl) rfl (by decide)) ?_
      refine ao_y1 rfl rfl (by decide) (w_load1 (v := .pl _) rfl (lk rfl rfl) rfl rfl rfl) ?_
      refine ao_y rfl rfl (by decide) (V2.call (set_Part l.asked l.things h2 h1 _) rfl) ?_
      refine ao1 (by decide) (o_pick_t (v := .bool _) rfl rfl) ?_
      refine ao1 (by decide) (o_move (v := .bool _) rfl) ?_
      refine ao_split rfl rfl (fun hg10 => ?_) (fun hg10 => ?_)
      · refine ao_y1 rfl rfl (by decide) (w_fieldAddr rfl (lk rfl rfl) rfl (by decide)) ?_
        refine ao_y1 rfl rfl (by decide) (w_load1 (v := .int _ _) rfl (lk rfl rfl) rfl rfl rfl) ?_
        refine ao_y rfl rfl (by decide) (V2.call (when_Right _ _) rfl) ?_
        refine ao1 (by decide) (o_pick_t (v := .bool _) rfl rfl) ?_
        refine ao1 (by decide) (o_assign (v := .bool _) rfl) ?_
        exact ao_nil (Out.mk (by (refine congrArg AV.bool ?_; (simp only [lright, tm] at *; (simp_all; done)))) (by repeat (first | exact SubX.refl _ _ | refine SubX.at ?_ | refine SubX.put rfl ?_)))
      · refine ao_nT rfl rfl (by decide) ?_
        refine ao_nT rfl rfl (by decide) ?_
        refine ao_nT rfl rfl (by decide) ?_
        refine ao1 (by decide) (o_pick_f (v := .bool _) rfl rfl) ?_
        refine ao1 (by decide) (o_assign (v := .bool _) rfl) ?_
        exact ao_nil (Out.mk (by (refine congrArg AV.bool ?_; (simp only [lright, tm] at *; (simp_all; done)))) (by repeat (first | exact SubX.refl _ _ | refine SubX.at ?_ | refine SubX.put rfl ?_)))
    · refine ao_nT rfl rfl (by decide) ?_
      refine ao_nT rfl rfl (by decide) ?_
      refine ao_nT rfl rfl (by decide) ?_
      refine ao_nT rfl rfl (by decide) ?_
      refine ao_nT rfl rfl (by decide) ?_
      refine ao1 (by decide) (o_pick_f (v := .bool _) rfl rfl) ?_
      refine ao1 (by decide) (o_move (v := .bool _) rfl) ?_
      refine ao_nT rfl rfl (by decide) ?_
      refine ao_nT rfl rfl (by decide) ?_
      refine ao_nT rfl rfl (by decide) ?_
      refine ao1 (by decide) (o_pick_f (v := .bool _) rfl rfl) ?_
      refine ao1 (by decide) (o_assign (v := .bool _) rfl) ?_
      exact ao_nil (Out.mk (by (refine congrArg AV.bool ?_; (simp only [lright, tm] at *; (simp_all; done)))) (by repeat (first | exact SubX.refl _ _ | refine SubX.at ?_ | refine SubX.put rfl ?_)))
  repeat (first | refine then_nrm ?_ | refine aw_ret ?_)
  exact e_done hB (r_tmp rfl .nil) rfl rfl
theorem lright_ref (l : Loan) : lright l = (sok l.things && sok l.asked && decide ((setop (opw 2) l.asked l.things).length = 0) && tm l.til) := by
  unfold lright spart setop
  cases h1 : sok l.things <;> cases h2 : sok l.asked <;> simp [List.length_eq_zero_iff, opw]
theorem ref19_Right (l : Loan) (hl : Small l) (H : Heap) : AC Tryd.prog 23 [.agg (eLoan l)] H (Ret (.bool (lright l)) H) := by
  obtain ⟨h1, h2⟩ := hl
  rw [lright_ref]
  generalize hq : setop (opw 2) l.asked l.things = q
  have c13 := fun H => ref01_Which l.asked l.things 2 h2 h1 H
  rw [hq] at c13
  refine AC.body (N := 25) [.tmp 2] Tryd.func23 rfl rfl rfl (Nat.le_of_ble_eq_true rfl) fun B hB => ?_
  repeat (refine aw_seq ?_)
  refine aw_region ?_
  refine ao2 (by rintro _ ⟨⟩; decide) (o_boxL (sz := 3) (v := .agg _) rfl rfl rfl rfl (by decide) rfl) ?_
  refine ao1 (by decide) (o_assign (v := .bool _) rfl) ?_
  refine ao_nil ?_
  try dsimp only [List.length_nil, put, AV.cells, List.nil_append]
  repeat (first | refine then_nrm ?_ | refine aw_seq ?_)
  refine aw_out 2 (.bool (sok l.things && sok l.asked && decide (q.length = 0) && tm l.til)) ?_ ?_
  · refine ao1 (by decide) (w_fieldAddr rfl (lk rfl rfl) rfl (by decide)) ?_
    refine ao1 (by decide) (w_load1 (v := .pl _) rfl (lk rfl rfl) rfl rfl rfl) ?_
    refine ao_ret (ref01_Right _ (by assumption) _) rfl (by decide) ?_
    refine ao1 (by decide) (o_move (v := .bool _) rfl) ?_
    refine ao_split rfl rfl (fun hg3 => ?_) (fun hg3 => ?_)
    · refine ao_y1 rfl rfl (by decide) (w_fieldAddr rfl (lk rfl rfl) rfl (by decide)) ?_
      refine ao_y1 rfl rfl (by decide) (w_load1 (v := .pl _) rfl (lk rfl rfl) rfl rfl rfl) ?_
      refine ao_y rfl rfl (by decide) (V2.call (ref01_Right _ (by assumption) _) rfl) ?_
      refine ao1 (by decide) (o_pick_t (v := .bool _) rfl rfl) ?_
      refine ao1 (by decide) (o_move (v := .bool _) rfl) ?_
      refine ao_split rfl rfl (fun hg8 => ?_) (fun hg8 => ?_)
      · refine ao_y1 rfl rfl (by decide) (w_fieldAddr rfl (lk rfl rfl) rfl (by decide)) ?_
        refine ao_y1 rfl rfl (by decide) (w_load1 (v := .pl _) rfl (lk rfl rfl) rfl rfl rfl) ?_
        refine ao_y1 rfl rfl (by decide) (w_fieldAddr rfl (lk rfl rfl) rfl (by decide)) ?_
        refine ao_y1 rfl rfl (by decide) (w_load1 (v := .pl _) rfl (lk rfl rfl) rfl rfl rfl) ?_
        refine ao_y rfl rfl (by decide) (V2.call (c13 _) rfl) ?_
        refine ao_y1 rfl rfl (by decide) (o_lenp rfl) ?_
        refine ao_y1 rfl rfl (by decide) (o_eq rfl rfl) ?_
        refine ao1 (by decide) (o_pick_t (v := .bool _) rfl rfl) ?_
        refine ao1 (by decide) (o_move (v := .bool _) rfl) ?_
        refine ao_split rfl rfl (fun hg17 => ?_) (fun hg17 => ?_)
        · refine ao_y1 rfl rfl (by decide) (w_fieldAddr rfl (lk rfl rfl) rfl (by decide)) ?_
          refine ao_y1 rfl rfl (by decide) (w_load1 (v := .int _ _) rfl (lk rfl rfl) rfl rfl rfl) ?_
          refine ao_y rfl rfl (by decide) (V2.call (ref19_time _ _) rfl) ?_
          refine ao1 (by decide) (o_pick_t (v := .bool _) rfl rfl) ?_
          refine ao1 (by decide) (o_assign (v := .bool _) rfl) ?_
          exact ao_nil (Out.mk (by (refine congrArg AV.bool ?_; (clear c13 hq; (simp_all; done)))) (by repeat (first | exact SubX.refl _ _ | refine SubX.at ?_ | refine SubX.put rfl ?_)))
        · refine ao_nT rfl rfl (by decide) ?_
          refine ao_nT rfl rfl (by decide) ?_
          refine ao_nT rfl rfl (by decide) ?_
          refine ao1 (by decide) (o_pick_f (v := .bool _) rfl rfl) ?_
          refine ao1 (by decide) (o_assign (v := .bool _) rfl) ?_
          exact ao_nil (Out.mk (by (refine congrArg AV.bool ?_; (clear c13 hq; (simp_all; done)))) (by repeat (first | exact SubX.refl _ _ | refine SubX.at ?_ | refine SubX.put rfl ?_)))
      · refine ao_nT rfl rfl (by decide) ?_
        refine ao_nT rfl rfl (by decide) ?_
        refine ao_nT rfl rfl (by decide) ?_
        refine ao_nT rfl rfl (by decide) ?_
        refine ao_nT rfl rfl (by decide) ?_
        refine ao_nT rfl rfl (by decide) ?_
        refine ao_nT rfl rfl (by decide) ?_
        refine ao1 (by decide) (o_pick_f (v := .bool _) rfl rfl) ?_
        refine ao1 (by decide) (o_move (v := .bool _) rfl) ?_
        refine ao_nT rfl rfl (by decide) ?_
        refine ao_nT rfl rfl (by decide) ?_
        refine ao_nT rfl rfl (by decide) ?_
        refine ao1 (by decide) (o_pick_f (v := .bool _) rfl rfl) ?_
        refine ao1 (by decide) (o_assign (v := .bool _) rfl) ?_
        exact ao_nil (Out.mk (by (refine congrArg AV.bool ?_; (clear c13 hq; (simp_all; done)))) (by repeat (first | exact SubX.refl _ _ | refine SubX.at ?_ | refine SubX.put rfl ?_)))
    · refine ao_nT rfl rfl (by decide) ?_
      refine ao_nT rfl rfl (by decide) ?_
      refine ao_nT rfl rfl (by decide) ?_
      refine ao1 (by decide) (o_pick_f (v := .bool _) rfl rfl) ?_
      refine ao1 (by decide) (o_move (v := .bool _) rfl) ?_
      refine ao_nT rfl rfl (by decide) ?_
      refine ao_nT rfl rfl (by decide) ?_
      refine ao_nT rfl rfl (by decide) ?_
      refine ao_nT rfl rfl (by decide) ?_
      refine ao_nT rfl rfl (by decide) ?_
      refine ao_nT rfl rfl (by decide) ?_
      refine ao_nT rfl rfl (by decide) ?_
      refine ao1 (by decide) (o_pick_f (v := .bool _) rfl rfl) ?_
      refine ao1 (by decide) (o_move (v := .bool _) rfl) ?_
      refine ao_nT rfl rfl (by decide) ?_
      refine ao_nT rfl rfl (by decide) ?_
      refine ao_nT rfl rfl (by decide) ?_
      refine ao1 (by decide) (o_pick_f (v := .bool _) rfl rfl) ?_
      refine ao1 (by decide) (o_assign (v := .bool _) rfl) ?_
      exact ao_nil (Out.mk (by (refine congrArg AV.bool ?_; (clear c13 hq; (simp_all; done)))) (by repeat (first | exact SubX.refl _ _ | refine SubX.at ?_ | refine SubX.put rfl ?_)))
  repeat (first | refine then_nrm ?_ | refine aw_ret ?_)
  exact e_done hB (r_tmp rfl .nil) rfl rfl
def lmay (n : Note) : Bool := if n.kind = 1 ∨ n.kind = 2 ∨ n.kind = 3 then n.til == 0 && decide (0 < n.things.length) && sok n.things else if n.kind = 4 then tm n.til && decide (n.things.length = 0) else false
set_option maxHeartbeats 0 in
theorem lease_may (n : Note) (hl : n.things.length ≤ 1000000) (H : Heap) : AC Tryd.prog 31 [.agg (eNote n)] H (Ret (.bool (lmay n)) H) := by
  refine AC.body (N := 34) [.tmp 2] Tryd.func31 rfl rfl rfl (Nat.le_of_ble_eq_true rfl) fun B hB => ?_
  repeat (refine aw_seq ?_)
  refine aw_region ?_
  refine ao2 (by rintro _ ⟨⟩; decide) (o_boxL (sz := 3) (v := .agg _) rfl rfl rfl rfl (by decide) rfl) ?_
  refine ao1 (by decide) (o_assign (v := .bool _) rfl) ?_
  refine ao_nil ?_
  try dsimp only [List.length_nil, put, AV.cells, List.nil_append]
  repeat (first | refine then_nrm ?_ | refine aw_seq ?_)
  refine aw_region ?_
  refine ao1 (by decide) (w_fieldAddr rfl (lk rfl rfl) rfl (by decide)) ?_
  refine ao1 (by decide) (w_load1 (v := .int _ _) rfl (lk rfl rfl) rfl rfl rfl) ?_
  refine ao_nil ?_
  try dsimp only [Nat.reduceAdd]
  repeat (first | refine then_nrm ?_ | refine aw_seq ?_ | refine aw_block ?_)
  refine aw_region ?_
  refine ao1 (by decide) (o_eq rfl rfl) ?_
  refine ao1 (by decide) (o_assign (v := .bool _) rfl) ?_
  refine ao_nil ?_
  repeat (refine then_nrm ?_)
  refine aw_cond rfl (fun hc => ?_) (fun hc => ?_)
  · have hk : n.kind = 1 := by simpa using hc
    rw [show lmay n = (n.til == 0 && decide (0 < n.things.length) && sok n.things) by rw [lmay, if_pos (by omega)]]
    repeat (first | refine then_nrm ?_ | refine aw_skip ?_)
    refine aw_cond rfl (fun hc => ?_) (fun hc => ?_)
    · repeat (refine aw_seq ?_)
      refine aw_out 2 (.bool (n.til == 0 && decide (0 < n.things.length) && sok n.things)) ?_ ?_
      · refine ao1 (by decide) (w_fieldAddr rfl (lk rfl rfl) rfl (by decide)) ?_
        refine ao1 (by decide) (w_load1 (v := .int _ _) rfl (lk rfl rfl) rfl rfl rfl) ?_
        refine ao1 (by decide) (o_eq rfl rfl) ?_
        refine ao1 (by decide) (o_move (v := .bool _) rfl) ?_
        refine ao_split rfl rfl (fun hg3 => ?_) (fun hg3 => ?_)
        · refine ao_y1 rfl rfl (by decide) (w_fieldAddr rfl (lk rfl rfl) rfl (by decide)) ?_
          refine ao_y1 rfl rfl (by decide) (w_load1 (v := .pl _) rfl (lk rfl rfl) rfl rfl rfl) ?_
          refine ao_y1 rfl rfl (by decide) (o_lenp rfl) ?_
          refine ao_y1 rfl rfl (by decide) (o_gt rfl rfl) ?_
          refine ao1 (by decide) (o_pick_t (v := .bool _) rfl rfl) ?_
          refine ao1 (by decide) (o_move (v := .bool _) rfl) ?_
          refine ao_split rfl rfl (fun hg9 => ?_) (fun hg9 => ?_)
          · refine ao_y1 rfl rfl (by decide) (w_fieldAddr rfl (lk rfl rfl) rfl (by decide)) ?_
            refine ao_y1 rfl rfl (by decide) (w_load1 (v := .pl _) rfl (lk rfl rfl) rfl rfl rfl) ?_
            refine ao_y rfl rfl (by decide) (V2.call (set_Right _ (by assumption) _) rfl) ?_
            refine ao1 (by decide) (o_pick_t (v := .bool _) rfl rfl) ?_
            refine ao1 (by decide) (o_assign (v := .bool _) rfl) ?_
            exact ao_nil (Out.mk (by (refine congrArg AV.bool ?_; (simp_all; done))) (by repeat (first | exact SubX.refl _ _ | refine SubX.at ?_ | refine SubX.put rfl ?_)))
          · refine ao_nT rfl rfl (by decide) ?_
            refine ao_nT rfl rfl (by decide) ?_
            refine ao_nT rfl rfl (by decide) ?_
            refine ao1 (by decide) (o_pick_f (v := .bool _) rfl rfl) ?_
            refine ao1 (by decide) (o_assign (v := .bool _) rfl) ?_
            exact ao_nil (Out.mk (by (refine congrArg AV.bool ?_; (simp_all; done))) (by repeat (first | exact SubX.refl _ _ | refine SubX.at ?_ | refine SubX.put rfl ?_)))
        · refine ao_nT rfl rfl (by decide) ?_
          refine ao_nT rfl rfl (by decide) ?_
          refine ao_nT rfl rfl (by decide) ?_
          refine ao_nT rfl rfl (by decide) ?_
          refine ao1 (by decide) (o_pick_f (v := .bool _) rfl rfl) ?_
          refine ao1 (by decide) (o_move (v := .bool _) rfl) ?_
          refine ao_nT rfl rfl (by decide) ?_
          refine ao_nT rfl rfl (by decide) ?_
          refine ao_nT rfl rfl (by decide) ?_
          refine ao1 (by decide) (o_pick_f (v := .bool _) rfl rfl) ?_
          refine ao1 (by decide) (o_assign (v := .bool _) rfl) ?_
          exact ao_nil (Out.mk (by (refine congrArg AV.bool ?_; (simp_all; done))) (by repeat (first | exact SubX.refl _ _ | refine SubX.at ?_ | refine SubX.put rfl ?_)))
      repeat (first | refine then_nrm ?_ | refine then_ret ?_ | refine blk_ret ?_ | refine aw_ret ?_)
      exact e_done hB (r_tmp rfl .nil) rfl rfl
    · simp [hk] at hc
  · have h1 : n.kind ≠ 1 := by simpa using hc
    repeat (refine aw_seq ?_)
    refine aw_region ?_
    refine ao1 (by decide) (o_eq rfl rfl) ?_
    refine ao1 (by decide) (o_assign (v := .bool _) rfl) ?_
    refine ao_nil ?_
    repeat (refine then_nrm ?_)
    refine aw_cond rfl (fun hc => ?_) (fun hc => ?_)
    · have hk : n.kind = 2 := by simpa using hc
      rw [show lmay n = (n.til == 0 && decide (0 < n.things.length) && sok n.things) by rw [lmay, if_pos (by omega)]]
      repeat (first | refine then_nrm ?_ | refine aw_skip ?_)
      refine aw_cond rfl (fun hc => ?_) (fun hc => ?_)
      · repeat (refine aw_seq ?_)
        refine aw_out 2 (.bool (n.til == 0 && decide (0 < n.things.length) && sok n.things)) ?_ ?_
        · refine ao1 (by decide) (w_fieldAddr rfl (lk rfl rfl) rfl (by decide)) ?_
          refine ao1 (by decide) (w_load1 (v := .int _ _) rfl (lk rfl rfl) rfl rfl rfl) ?_
          refine ao1 (by decide) (o_eq rfl rfl) ?_
          refine ao1 (by decide) (o_move (v := .bool _) rfl) ?_
          refine ao_split rfl rfl (fun hg3 => ?_) (fun hg3 => ?_)
          · refine ao_y1 rfl rfl (by decide) (w_fieldAddr rfl (lk rfl rfl) rfl (by decide)) ?_
            refine ao_y1 rfl rfl (by decide) (w_load1 (v := .pl _) rfl (lk rfl rfl) rfl rfl rfl) ?_
            refine ao_y1 rfl rfl (by decide) (o_lenp rfl) ?_
            refine ao_y1 rfl rfl (by decide) (o_gt rfl rfl) ?_
            refine ao1 (by decide) (o_pick_t (v := .bool _) rfl rfl) ?_
            refine ao1 (by decide) (o_move (v := .bool _) rfl) ?_
            refine ao_split rfl rfl (fun hg9 => ?_) (fun hg9 => ?_)
            · refine ao_y1 rfl rfl (by decide) (w_fieldAddr rfl (lk rfl rfl) rfl (by decide)) ?_
              refine ao_y1 rfl rfl (by decide) (w_load1 (v := .pl _) rfl (lk rfl rfl) rfl rfl rfl) ?_
              refine ao_y rfl rfl (by decide) (V2.call (set_Right _ (by assumption) _) rfl) ?_
              refine ao1 (by decide) (o_pick_t (v := .bool _) rfl rfl) ?_
              refine ao1 (by decide) (o_assign (v := .bool _) rfl) ?_
              exact ao_nil (Out.mk (by (refine congrArg AV.bool ?_; (simp_all; done))) (by repeat (first | exact SubX.refl _ _ | refine SubX.at ?_ | refine SubX.put rfl ?_)))
            · refine ao_nT rfl rfl (by decide) ?_
              refine ao_nT rfl rfl (by decide) ?_
              refine ao_nT rfl rfl (by decide) ?_
              refine ao1 (by decide) (o_pick_f (v := .bool _) rfl rfl) ?_
              refine ao1 (by decide) (o_assign (v := .bool _) rfl) ?_
              exact ao_nil (Out.mk (by (refine congrArg AV.bool ?_; (simp_all; done))) (by repeat (first | exact SubX.refl _ _ | refine SubX.at ?_ | refine SubX.put rfl ?_)))
          · refine ao_nT rfl rfl (by decide) ?_
            refine ao_nT rfl rfl (by decide) ?_
            refine ao_nT rfl rfl (by decide) ?_
            refine ao_nT rfl rfl (by decide) ?_
            refine ao1 (by decide) (o_pick_f (v := .bool _) rfl rfl) ?_
            refine ao1 (by decide) (o_move (v := .bool _) rfl) ?_
            refine ao_nT rfl rfl (by decide) ?_
            refine ao_nT rfl rfl (by decide) ?_
            refine ao_nT rfl rfl (by decide) ?_
            refine ao1 (by decide) (o_pick_f (v := .bool _) rfl rfl) ?_
            refine ao1 (by decide) (o_assign (v := .bool _) rfl) ?_
            exact ao_nil (Out.mk (by (refine congrArg AV.bool ?_; (simp_all; done))) (by repeat (first | exact SubX.refl _ _ | refine SubX.at ?_ | refine SubX.put rfl ?_)))
        repeat (first | refine then_nrm ?_ | refine then_ret ?_ | refine blk_ret ?_ | refine aw_ret ?_)
        exact e_done hB (r_tmp rfl .nil) rfl rfl
      · simp [hk] at hc
    · have h2 : n.kind ≠ 2 := by simpa using hc
      refine aw_region ?_
      refine ao1 (by decide) (o_eq rfl rfl) ?_
      refine ao1 (by decide) (o_assign (v := .bool _) rfl) ?_
      refine ao_nil ?_
      repeat (refine then_nrm ?_)
      refine aw_cond rfl (fun hc => ?_) (fun hc => ?_)
      · have hk : n.kind = 3 := by simpa using hc
        rw [show lmay n = (n.til == 0 && decide (0 < n.things.length) && sok n.things) by rw [lmay, if_pos (by omega)]]
        repeat (refine aw_seq ?_)
        refine aw_out 2 (.bool (n.til == 0 && decide (0 < n.things.length) && sok n.things)) ?_ ?_
        · refine ao1 (by decide) (w_fieldAddr rfl (lk rfl rfl) rfl (by decide)) ?_
          refine ao1 (by decide) (w_load1 (v := .int _ _) rfl (lk rfl rfl) rfl rfl rfl) ?_
          refine ao1 (by decide) (o_eq rfl rfl) ?_
          refine ao1 (by decide) (o_move (v := .bool _) rfl) ?_
          refine ao_split rfl rfl (fun hg3 => ?_) (fun hg3 => ?_)
          · refine ao_y1 rfl rfl (by decide) (w_fieldAddr rfl (lk rfl rfl) rfl (by decide)) ?_
            refine ao_y1 rfl rfl (by decide) (w_load1 (v := .pl _) rfl (lk rfl rfl) rfl rfl rfl) ?_
            refine ao_y1 rfl rfl (by decide) (o_lenp rfl) ?_
            refine ao_y1 rfl rfl (by decide) (o_gt rfl rfl) ?_
            refine ao1 (by decide) (o_pick_t (v := .bool _) rfl rfl) ?_
            refine ao1 (by decide) (o_move (v := .bool _) rfl) ?_
            refine ao_split rfl rfl (fun hg9 => ?_) (fun hg9 => ?_)
            · refine ao_y1 rfl rfl (by decide) (w_fieldAddr rfl (lk rfl rfl) rfl (by decide)) ?_
              refine ao_y1 rfl rfl (by decide) (w_load1 (v := .pl _) rfl (lk rfl rfl) rfl rfl rfl) ?_
              refine ao_y rfl rfl (by decide) (V2.call (set_Right _ (by assumption) _) rfl) ?_
              refine ao1 (by decide) (o_pick_t (v := .bool _) rfl rfl) ?_
              refine ao1 (by decide) (o_assign (v := .bool _) rfl) ?_
              exact ao_nil (Out.mk (by (refine congrArg AV.bool ?_; (simp_all; done))) (by repeat (first | exact SubX.refl _ _ | refine SubX.at ?_ | refine SubX.put rfl ?_)))
            · refine ao_nT rfl rfl (by decide) ?_
              refine ao_nT rfl rfl (by decide) ?_
              refine ao_nT rfl rfl (by decide) ?_
              refine ao1 (by decide) (o_pick_f (v := .bool _) rfl rfl) ?_
              refine ao1 (by decide) (o_assign (v := .bool _) rfl) ?_
              exact ao_nil (Out.mk (by (refine congrArg AV.bool ?_; (simp_all; done))) (by repeat (first | exact SubX.refl _ _ | refine SubX.at ?_ | refine SubX.put rfl ?_)))
          · refine ao_nT rfl rfl (by decide) ?_
            refine ao_nT rfl rfl (by decide) ?_
            refine ao_nT rfl rfl (by decide) ?_
            refine ao_nT rfl rfl (by decide) ?_
            refine ao1 (by decide) (o_pick_f (v := .bool _) rfl rfl) ?_
            refine ao1 (by decide) (o_move (v := .bool _) rfl) ?_
            refine ao_nT rfl rfl (by decide) ?_
            refine ao_nT rfl rfl (by decide) ?_
            refine ao_nT rfl rfl (by decide) ?_
            refine ao1 (by decide) (o_pick_f (v := .bool _) rfl rfl) ?_
            refine ao1 (by decide) (o_assign (v := .bool _) rfl) ?_
            exact ao_nil (Out.mk (by (refine congrArg AV.bool ?_; (simp_all; done))) (by repeat (first | exact SubX.refl _ _ | refine SubX.at ?_ | refine SubX.put rfl ?_)))
        repeat (first | refine then_nrm ?_ | refine then_ret ?_ | refine blk_ret ?_ | refine aw_ret ?_)
        exact e_done hB (r_tmp rfl .nil) rfl rfl
      · have h3 : n.kind ≠ 3 := by simpa using hc
        repeat (refine aw_seq ?_)
        refine aw_region ?_
        refine ao1 (by decide) (o_eq rfl rfl) ?_
        refine ao1 (by decide) (o_assign (v := .bool _) rfl) ?_
        refine ao_nil ?_
        repeat (refine then_nrm ?_)
        refine aw_cond rfl (fun hc => ?_) (fun hc => ?_)
        · have hk : n.kind = 4 := by simpa using hc
          rw [show lmay n = (tm n.til && decide (n.things.length = 0)) by rw [lmay, if_neg (by omega), if_pos hk]]
          repeat (refine aw_seq ?_)
          refine aw_out 2 (.bool (tm n.til && decide (n.things.length = 0))) ?_ ?_
          · refine ao1 (by decide) (w_fieldAddr rfl (lk rfl rfl) rfl (by decide)) ?_
            refine ao1 (by decide) (w_load1 (v := .int _ _) rfl (lk rfl rfl) rfl rfl rfl) ?_
            refine ao_ret (when_Right _ _) rfl (by decide) ?_
            refine ao1 (by decide) (o_move (v := .bool _) rfl) ?_
            refine ao_split rfl rfl (fun hg3 => ?_) (fun hg3 => ?_)
            · refine ao_y1 rfl rfl (by decide) (w_fieldAddr rfl (lk rfl rfl) rfl (by decide)) ?_
              refine ao_y1 rfl rfl (by decide) (w_load1 (v := .pl _) rfl (lk rfl rfl) rfl rfl rfl) ?_
              refine ao_y1 rfl rfl (by decide) (o_lenp rfl) ?_
              refine ao_y1 rfl rfl (by decide) (o_eq rfl rfl) ?_
              refine ao1 (by decide) (o_pick_t (v := .bool _) rfl rfl) ?_
              refine ao1 (by decide) (o_assign (v := .bool _) rfl) ?_
              exact ao_nil (Out.mk (by (refine congrArg AV.bool ?_; (simp only [tm] at *; grind))) (by repeat (first | exact SubX.refl _ _ | refine SubX.at ?_ | refine SubX.put rfl ?_)))
            · refine ao_nT rfl rfl (by decide) ?_
              refine ao_nT rfl rfl (by decide) ?_
              refine ao_nT rfl rfl (by decide) ?_
              refine ao_nT rfl rfl (by decide) ?_
              refine ao1 (by decide) (o_pick_f (v := .bool _) rfl rfl) ?_
              refine ao1 (by decide) (o_assign (v := .bool _) rfl) ?_
              exact ao_nil (Out.mk (by (refine congrArg AV.bool ?_; (simp only [tm] at *; grind))) (by repeat (first | exact SubX.refl _ _ | refine SubX.at ?_ | refine SubX.put rfl ?_)))
          repeat (first | refine then_nrm ?_ | refine then_ret ?_ | refine blk_ret ?_ | refine aw_ret ?_)
          exact e_done hB (r_tmp rfl .nil) rfl rfl
        · have h4 : n.kind ≠ 4 := by simpa using hc
          rw [show lmay n = false by rw [lmay, if_neg (by omega), if_neg h4]]
          repeat (first | refine then_nrm ?_ | refine blk_nrm ?_ | refine aw_seq ?_ | refine aw_skip ?_)
          refine aw_region ?_
          refine ao1 (by decide) (o_assign (v := .bool _) rfl) ?_
          refine ao_nil ?_
          repeat (first | refine then_nrm ?_ | refine aw_ret ?_)
          exact e_done hB (r_tmp rfl .nil) rfl rfl
set_option maxHeartbeats 0 in
theorem ref19_May (n : Note) (hl : n.things.length ≤ 1000000) (H : Heap) : AC Tryd.prog 36 [.agg (eNote n)] H (Ret (.bool (lmay n)) H) := by
  refine AC.body (N := 39) [.tmp 2] Tryd.func36 rfl rfl rfl (Nat.le_of_ble_eq_true rfl) fun B hB => ?_
  repeat (refine aw_seq ?_)
  refine aw_region ?_
  refine ao2 (by rintro _ ⟨⟩; decide) (o_boxL (sz := 3) (v := .agg _) rfl rfl rfl rfl (by decide) rfl) ?_
  refine ao1 (by decide) (o_assign (v := .bool _) rfl) ?_
  refine ao_nil ?_
  try dsimp only [List.length_nil, put, AV.cells, List.nil_append]
  repeat (first | refine then_nrm ?_ | refine aw_seq ?_)
  refine aw_region ?_
  refine ao1 (by decide) (w_fieldAddr rfl (lk rfl rfl) rfl (by decide)) ?_
  refine ao1 (by decide) (w_load1 (v := .int _ _) rfl (lk rfl rfl) rfl rfl rfl) ?_
  refine ao1 (by decide) (o_eq rfl rfl) ?_
  refine ao_nil ?_
  try dsimp only [Nat.reduceAdd]
  repeat (refine then_nrm ?_)
  refine aw_cond rfl (fun hc => ?_) (fun hc => ?_)
  · have hk : n.kind = 4 := by simpa using hc
    rw [show lmay n = (tm n.til && decide (n.things.length = 0)) by rw [lmay, if_neg (by omega), if_pos hk]]
    repeat (refine aw_seq ?_)
    refine aw_out 2 (.bool (tm n.til && decide (n.things.length = 0))) ?_ ?_
    · refine ao1 (by decide) (w_fieldAddr rfl (lk rfl rfl) rfl (by decide)) ?_
      refine ao1 (by decide) (w_load1 (v := .int _ _) rfl (lk rfl rfl) rfl rfl rfl) ?_
      refine ao_ret (ref19_time _ _) rfl (by decide) ?_
      refine ao1 (by decide) (o_move (v := .bool _) rfl) ?_
      refine ao_split rfl rfl (fun hg3 => ?_) (fun hg3 => ?_)
      · refine ao_y1 rfl rfl (by decide) (w_fieldAddr rfl (lk rfl rfl) rfl (by decide)) ?_
        refine ao_y1 rfl rfl (by decide) (w_load1 (v := .pl _) rfl (lk rfl rfl) rfl rfl rfl) ?_
        refine ao_y1 rfl rfl (by decide) (o_lenp rfl) ?_
        refine ao_y1 rfl rfl (by decide) (o_eq rfl rfl) ?_
        refine ao1 (by decide) (o_pick_t (v := .bool _) rfl rfl) ?_
        refine ao1 (by decide) (o_assign (v := .bool _) rfl) ?_
        exact ao_nil (Out.mk (by (refine congrArg AV.bool ?_; grind)) (by repeat (first | exact SubX.refl _ _ | refine SubX.at ?_ | refine SubX.put rfl ?_)))
      · refine ao_nT rfl rfl (by decide) ?_
        refine ao_nT rfl rfl (by decide) ?_
        refine ao_nT rfl rfl (by decide) ?_
        refine ao_nT rfl rfl (by decide) ?_
        refine ao1 (by decide) (o_pick_f (v := .bool _) rfl rfl) ?_
        refine ao1 (by decide) (o_assign (v := .bool _) rfl) ?_
        exact ao_nil (Out.mk (by (refine congrArg AV.bool ?_; (simp_all; done))) (by repeat (first | exact SubX.refl _ _ | refine SubX.at ?_ | refine SubX.put rfl ?_)))
    repeat (first | refine then_nrm ?_ | refine then_ret ?_ | refine aw_ret ?_)
    exact e_done hB (r_tmp rfl .nil) rfl rfl
  · have h4 : n.kind ≠ 4 := by simpa using hc
    rw [show lmay n = (decide (1 ≤ n.kind) && decide (n.kind ≤ 3) && n.til == 0 && decide (0 < n.things.length) && sok n.things) by
      unfold lmay
      rw [if_neg h4]
      by_cases h : n.kind = 1 ∨ n.kind = 2 ∨ n.kind = 3
      · rw [if_pos h, show decide (1 ≤ n.kind) = true by simp; omega, show decide (n.kind ≤ 3) = true by simp; omega]; rfl
      · rw [if_neg h, show (decide (1 ≤ n.kind) && decide (n.kind ≤ 3)) = false by simp; omega]; rfl]
    repeat (first | refine then_nrm ?_ | refine aw_seq ?_ | refine aw_skip ?_)
    refine aw_out 2 (.bool (decide (1 ≤ n.kind) && decide (n.kind ≤ 3) && n.til == 0 && decide (0 < n.things.length) && sok n.things)) ?_ ?_
    · refine ao1 (by decide) (w_fieldAddr rfl (lk rfl rfl) rfl (by decide)) ?_
      refine ao1 (by decide) (w_load1 (v := .int _ _) rfl (lk rfl rfl) rfl rfl rfl) ?_
      refine ao1 (by decide) (o_ge rfl rfl) ?_
      refine ao1 (by decide) (o_move (v := .bool _) rfl) ?_
      refine ao_split rfl rfl (fun hg3 => ?_) (fun hg3 => ?_)
      · refine ao_y1 rfl rfl (by decide) (w_fieldAddr rfl (lk rfl rfl) rfl (by decide)) ?_
        refine ao_y1 rfl rfl (by decide) (w_load1 (v := .int _ _) rfl (lk rfl rfl) rfl rfl rfl) ?_
        refine ao_y1 rfl rfl (by decide) (o_le rfl rfl) ?_
        refine ao1 (by decide) (o_pick_t (v := .bool _) rfl rfl) ?_
        refine ao1 (by decide) (o_move (v := .bool _) rfl) ?_
        refine ao_split rfl rfl (fun hg8 => ?_) (fun hg8 => ?_)
        · refine ao_y1 rfl rfl (by decide) (w_fieldAddr rfl (lk rfl rfl) rfl (by decide)) ?_
          refine ao_y1 rfl rfl (by decide) (w_load1 (v := .int _ _) rfl (lk rfl rfl) rfl rfl rfl) ?_
          refine ao_y1 rfl rfl (by decide) (o_eq rfl rfl) ?_
          refine ao1 (by decide) (o_pick_t (v := .bool _) rfl rfl) ?_
          refine ao1 (by decide) (o_move (v := .bool _) rfl) ?_
          refine ao_split rfl rfl (fun hg13 => ?_) (fun hg13 => ?_)
          · refine ao_y1 rfl rfl (by decide) (w_fieldAddr rfl (lk rfl rfl) rfl (by decide)) ?_
            refine ao_y1 rfl rfl (by decide) (w_load1 (v := .pl _) rfl (lk rfl rfl) rfl rfl rfl) ?_
            refine ao_y1 rfl rfl (by decide) (o_lenp rfl) ?_
            refine ao_y1 rfl rfl (by decide) (o_gt rfl rfl) ?_
            refine ao1 (by decide) (o_pick_t (v := .bool _) rfl rfl) ?_
            refine ao1 (by decide) (o_move (v := .bool _) rfl) ?_
            refine ao_split rfl rfl (fun hg19 => ?_) (fun hg19 => ?_)
            · refine ao_y1 rfl rfl (by decide) (w_fieldAddr rfl (lk rfl rfl) rfl (by decide)) ?_
              refine ao_y1 rfl rfl (by decide) (w_load1 (v := .pl _) rfl (lk rfl rfl) rfl rfl rfl) ?_
              refine ao_y rfl rfl (by decide) (V2.call (ref01_Right _ (by assumption) _) rfl) ?_
              refine ao1 (by decide) (o_pick_t (v := .bool _) rfl rfl) ?_
              refine ao1 (by decide) (o_assign (v := .bool _) rfl) ?_
              exact ao_nil (Out.mk (by (refine congrArg AV.bool ?_; (simp_all; done))) (by repeat (first | exact SubX.refl _ _ | refine SubX.at ?_ | refine SubX.put rfl ?_)))
            · refine ao_nT rfl rfl (by decide) ?_
              refine ao_nT rfl rfl (by decide) ?_
              refine ao_nT rfl rfl (by decide) ?_
              refine ao1 (by decide) (o_pick_f (v := .bool _) rfl rfl) ?_
              refine ao1 (by decide) (o_assign (v := .bool _) rfl) ?_
              exact ao_nil (Out.mk (by (refine congrArg AV.bool ?_; (simp_all; done))) (by repeat (first | exact SubX.refl _ _ | refine SubX.at ?_ | refine SubX.put rfl ?_)))
          · refine ao_nT rfl rfl (by decide) ?_
            refine ao_nT rfl rfl (by decide) ?_
            refine ao_nT rfl rfl (by decide) ?_
            refine ao_nT rfl rfl (by decide) ?_
            refine ao1 (by decide) (o_pick_f (v := .bool _) rfl rfl) ?_
            refine ao1 (by decide) (o_move (v := .bool _) rfl) ?_
            refine ao_nT rfl rfl (by decide) ?_
            refine ao_nT rfl rfl (by decide) ?_
            refine ao_nT rfl rfl (by decide) ?_
            refine ao1 (by decide) (o_pick_f (v := .bool _) rfl rfl) ?_
            refine ao1 (by decide) (o_assign (v := .bool _) rfl) ?_
            exact ao_nil (Out.mk (by (refine congrArg AV.bool ?_; (simp_all; done))) (by repeat (first | exact SubX.refl _ _ | refine SubX.at ?_ | refine SubX.put rfl ?_)))
        · refine ao_nT rfl rfl (by decide) ?_
          refine ao_nT rfl rfl (by decide) ?_
          refine ao_nT rfl rfl (by decide) ?_
          refine ao1 (by decide) (o_pick_f (v := .bool _) rfl rfl) ?_
          refine ao1 (by decide) (o_move (v := .bool _) rfl) ?_
          refine ao_nT rfl rfl (by decide) ?_
          refine ao_nT rfl rfl (by decide) ?_
          refine ao_nT rfl rfl (by decide) ?_
          refine ao_nT rfl rfl (by decide) ?_
          refine ao1 (by decide) (o_pick_f (v := .bool _) rfl rfl) ?_
          refine ao1 (by decide) (o_move (v := .bool _) rfl) ?_
          refine ao_nT rfl rfl (by decide) ?_
          refine ao_nT rfl rfl (by decide) ?_
          refine ao_nT rfl rfl (by decide) ?_
          refine ao1 (by decide) (o_pick_f (v := .bool _) rfl rfl) ?_
          refine ao1 (by decide) (o_assign (v := .bool _) rfl) ?_
          exact ao_nil (Out.mk (by (refine congrArg AV.bool ?_; grind)) (by repeat (first | exact SubX.refl _ _ | refine SubX.at ?_ | refine SubX.put rfl ?_)))
      · refine ao_nT rfl rfl (by decide) ?_
        refine ao_nT rfl rfl (by decide) ?_
        refine ao_nT rfl rfl (by decide) ?_
        refine ao1 (by decide) (o_pick_f (v := .bool _) rfl rfl) ?_
        refine ao1 (by decide) (o_move (v := .bool _) rfl) ?_
        refine ao_nT rfl rfl (by decide) ?_
        refine ao_nT rfl rfl (by decide) ?_
        refine ao_nT rfl rfl (by decide) ?_
        refine ao1 (by decide) (o_pick_f (v := .bool _) rfl rfl) ?_
        refine ao1 (by decide) (o_move (v := .bool _) rfl) ?_
        refine ao_nT rfl rfl (by decide) ?_
        refine ao_nT rfl rfl (by decide) ?_
        refine ao_nT rfl rfl (by decide) ?_
        refine ao_nT rfl rfl (by decide) ?_
        refine ao1 (by decide) (o_pick_f (v := .bool _) rfl rfl) ?_
        refine ao1 (by decide) (o_move (v := .bool _) rfl) ?_
        refine ao_nT rfl rfl (by decide) ?_
        refine ao_nT rfl rfl (by decide) ?_
        refine ao_nT rfl rfl (by decide) ?_
        refine ao1 (by decide) (o_pick_f (v := .bool _) rfl rfl) ?_
        refine ao1 (by decide) (o_assign (v := .bool _) rfl) ?_
        exact ao_nil (Out.mk (by (refine congrArg AV.bool ?_; grind)) (by repeat (first | exact SubX.refl _ _ | refine SubX.at ?_ | refine SubX.put rfl ?_)))
    repeat (first | refine then_nrm ?_ | refine aw_ret ?_)
    exact e_done hB (r_tmp rfl .nil) rfl rfl
end Go.Av

namespace Go.Av
open Go.Proofs
set_option maxRecDepth 10000
set_option linter.unusedSimpArgs false
set_option linter.unusedVariables false

theorem setop_len (op : Bool → Bool → Bool) (a b : List Int) : (setop op a b).length ≤ 256 := by
  unfold setop
  split
  · exact setl_len _
  · exact Nat.zero_le _
theorem eq_step {α : Type} {a b : List α} {k : Nat} {x : α} (hx : a[k]? = some x) (hy : b[k]? = some x) (h : a.take k = b.take k) : a.take (k + 1) = b.take (k + 1) := by
  rw [take_snoc_get hx, take_snoc_get hy, h]
theorem eq_done {α : Type} {a b : List α} (hn : a.length = b.length) (h : a.take a.length = b.take a.length) : a = b := by
  rw [List.take_length, hn, List.take_length] at h; exact h
theorem ne_at {α : Type} {a b : List α} {k : Nat} {x y : α} (hx : a[k]? = some x) (hy : b[k]? = some y) (h : x ≠ y) : a ≠ b := by
  rintro rfl; rw [hx] at hy; exact h (Option.some.inj hy)
theorem ref01_Same (a b : List Int) (ha : a.length ≤ 1000000) (H : Heap) : AC Tryd.prog 29 [.pl (a.map eInt), .pl (b.map eInt)] H (Ret (.bool (decide (a = b))) H) := by
  refine AC.body (N := 26) [.tmp 4] Tryd.func29 rfl rfl rfl (Nat.le_of_ble_eq_true rfl) fun B hB => ?_
  repeat (refine aw_seq ?_)
  refine aw_region ?_
  refine ao1 (by decide) (o_assign (v := .bool _) rfl) ?_
  refine ao_nil ?_
  repeat (first | refine then_nrm ?_ | refine aw_seq ?_)
  refine aw_region ?_
  refine ao1 (by decide) (o_move (v := .pl _) rfl) ?_
  refine ao1 (by decide) (o_lenp rfl) ?_
  refine ao1 (by decide) (o_move (v := .pl _) rfl) ?_
  refine ao1 (by decide) (o_lenp rfl) ?_
  refine ao1 (by decide) (o_ne rfl rfl) ?_
  refine ao_nil ?_
  repeat (refine then_nrm ?_)
  refine aw_cond rfl (fun hc => ?_) (fun hc => ?_)
  · have hn : a.length ≠ b.length := by simp at hc; omega
    rw [show decide (a = b) = false by simp; intro e; exact hn (congrArg List.length e)]
    repeat (refine aw_seq ?_)
    refine aw_region ?_
    refine ao1 (by decide) (o_assign (v := .bool _) rfl) ?_
    refine ao_nil ?_
    repeat (first | refine then_nrm ?_ | refine then_ret ?_ | refine aw_ret ?_)
    exact e_done hB (r_tmp rfl .nil) rfl rfl
  have hn : a.length = b.length := by simp at hc; omega
  repeat (first | refine then_nrm ?_ | refine aw_seq ?_ | refine aw_skip ?_)
  refine aw_region ?_
  refine ao1 (by decide) (o_assign (v := .int _ _) rfl) ?_
  refine ao_nil ?_
  repeat (first | refine then_nrm ?_ | refine aw_block ?_)
  refine aw_loop (G := Nat) (fun k => k ≤ a.length ∧ a.take k = b.take k) (fun k => [(0, .pl (a.map eInt)), (1, .pl (b.map eInt)), (5, .int .i64 (k : Int))]) (fun _ => H ++ []) (fun k => a.length - k) 0 ⟨Nat.zero_le _, by simp⟩ (by repeat (first | exact Sub.nil | refine Sub.cons (by rfl) ?_)) (Fit.refl _ _) ?_
  rintro k ⟨hk, he⟩
  repeat (refine aw_seq ?_)
  refine aw_region ?_
  refine ao1 (by decide) (o_move (v := .int _ _) rfl) ?_
  refine ao1 (by decide) (o_move (v := .pl _) rfl) ?_
  refine ao1 (by decide) (o_lenp rfl) ?_
  refine ao1 (by decide) (o_lt rfl rfl) ?_
  refine ao_nil ?_
  repeat (refine then_nrm ?_)
  refine aw_cond rfl (fun hc => ?_) (fun hc => ?_)
  · have hlt : k < a.length := by simpa using hc
    obtain ⟨x, hx, _⟩ := get_in hlt
    obtain ⟨y, hy, _⟩ := get_in (l := b) (k := k) (by omega)
    have hr := map_get eInt hx
    have hr1 := map_get eInt hy
    repeat (first | refine then_nrm ?_ | refine aw_seq ?_ | refine aw_block ?_ | refine aw_skip ?_)
    refine aw_drawP mixed none 999 ?_
    refine aq0 0 rfl (by decide +kernel) (by decide) (fun _ => o_move (v := .pl _) rfl) ?_
    refine aq0 1 rfl (by decide +kernel) (by decide) (fun _ => o_move (v := .int _ _) rfl) ?_
    refine aqp 2 rfl (by decide +kernel) (by decide) (fun G => w_indexAddrpN rfl rfl hr rfl) ?_
    refine aqp 3 rfl (by decide +kernel) (by decide) (fun G => o_load1p (v := .int _ _) rfl hr rfl) ?_
    refine aq0 4 rfl (by decide +kernel) (by decide) (fun _ => o_move (v := .pl _) rfl) ?_
    refine aq0 5 rfl (by decide +kernel) (by decide) (fun _ => o_move (v := .int _ _) rfl) ?_
    refine aqp 6 rfl (by decide +kernel) (by decide) (fun G => w_indexAddrpN rfl rfl hr1 rfl) ?_
    refine aqp 7 rfl (by decide +kernel) (by decide) (fun G => o_load1p (v := .int _ _) rfl hr1 rfl) ?_
    refine aq0 8 rfl (by decide +kernel) (by decide) (fun _ => o_ne rfl rfl) ?_
    refine aa_done (by decide +kernel) (by exact fun _ => ⟨_, rfl⟩) ?_
    repeat (refine then_nrm ?_)
    refine aw_cond rfl (fun hc => ?_) (fun hc => ?_)
    · rw [show decide (a = b) = false by simp; exact ne_at hx hy (by simpa using hc)]
      repeat (refine aw_seq ?_)
      refine aw_region ?_
      refine ao1 (by decide) (o_assign (v := .bool _) rfl) ?_
      refine ao_nil ?_
      repeat (first | refine then_nrm ?_ | refine then_ret ?_ | refine blk_ret ?_ | refine aw_ret ?_)
      exact e_done hB (r_tmp rfl .nil) rfl rfl
    · have hxy : x = y := by simpa using hc
      subst hxy
      repeat (first | refine then_nrm ?_ | refine blk_nrm ?_ | refine aw_skip ?_)
      refine aw_region ?_
      refine ao1 (by decide) (o_move (v := .int _ _) rfl) ?_
      refine ao1 (by decide) (o_add rfl rfl (wrap64_ok (by omega) (by omega))) ?_
      refine ao1 (by decide) (o_assign (v := .int _ _) rfl) ?_
      refine ao_nil ?_
      repeat (refine then_nrm ?_)
      exact ⟨k + 1, by omega, ⟨by omega, eq_step hx hy he⟩, (by repeat (first | exact Sub.nil | refine Sub.cons (by rfl) ?_)), .refl _ _⟩
  · have : k = a.length := by simp at hc; omega
    subst this
    rw [show decide (a = b) = true by simp; exact eq_done hn he]
    repeat (first | refine then_nrm ?_ | refine then_brk ?_ | refine blk_hit ?_ | refine aw_seq ?_ | refine aw_exit ?_)
    refine aw_region ?_
    refine ao1 (by decide) (o_assign (v := .bool _) rfl) ?_
    refine ao_nil ?_
    repeat (first | refine then_nrm ?_ | refine aw_ret ?_)
    exact e_done hB (r_tmp rfl .nil) rfl rfl
theorem ref19_Same (a b : Loan) (ha : Small a) (H : Heap) : AC Tryd.prog 12 [.agg (eLoan a), .agg (eLoan b)] H (Ret (.bool (decide (a = b))) H) := by
  have he : decide (a = b) = (decide (a.things = b.things) && decide (a.asked = b.asked) && a.til == b.til) := by
    cases a; cases b; simp [Bool.beq_eq_decide_eq]; grind
  rw [he]
  obtain ⟨h1, h2⟩ := ha
  refine AC.body (N := 24) [.tmp 4] Tryd.func12 rfl rfl rfl (Nat.le_of_ble_eq_true rfl) fun B hB => ?_
  repeat (refine aw_seq ?_)
  refine aw_region ?_
  refine ao2 (by rintro _ ⟨⟩; decide) (o_boxL (sz := 3) (v := .agg _) rfl rfl rfl rfl (by decide) rfl) ?_
  refine ao2 (by rintro _ ⟨⟩; decide) (o_boxL (sz := 3) (v := .agg _) rfl rfl rfl rfl (by decide) rfl) ?_
  refine ao1 (by decide) (o_assign (v := .bool _) rfl) ?_
  refine ao_nil ?_
  try dsimp only [List.length_nil, put, AV.cells, List.nil_append, List.length_cons, Nat.reduceAdd, List.cons_append]
  repeat (first | refine then_nrm ?_ | refine aw_seq ?_)
  refine aw_out 4 (.bool (decide (a.things = b.things) && decide (a.asked = b.asked) && a.til == b.til)) ?_ ?_
  · refine ao1 (by decide) (w_fieldAddr rfl (lk rfl rfl) rfl (by decide)) ?_
    refine ao1 (by decide) (w_load1 (v := .pl _) rfl (lk rfl rfl) rfl rfl rfl) ?_
    refine ao1 (by decide) (w_fieldAddr rfl (lk rfl rfl) rfl (by decide)) ?_
    refine ao1 (by decide) (w_load1 (v := .pl _) rfl (lk rfl rfl) rfl rfl rfl) ?_
    refine ao2 (by rintro _ ⟨⟩; decide) (V2.call (ref01_Same a.things b.things h1 _) rfl) ?_
    refine ao1 (by decide) (o_move (v := .bool _) rfl) ?_
    refine ao_split rfl rfl (fun hg5 => ?_) (fun hg5 => ?_)
    · refine ao_y1 rfl rfl (by decide) (w_fieldAddr rfl (lk rfl rfl) rfl (by decide)) ?_
      refine ao_y1 rfl rfl (by decide) (w_load1 (v := .pl _) rfl (lk rfl rfl) rfl rfl rfl) ?_
      refine ao_y1 rfl rfl (by decide) (w_fieldAddr rfl (lk rfl rfl) rfl (by decide)) ?_
      refine ao_y1 rfl rfl (by decide) (w_load1 (v := .pl _) rfl (lk rfl rfl) rfl rfl rfl) ?_
      refine ao_y rfl rfl (by decide) (V2.call (ref01_Same a.asked b.asked h2 _) rfl) ?_
      refine ao1 (by decide) (o_pick_t (v := .bool _) rfl rfl) ?_
      refine ao1 (by decide) (o_move (v := .bool _) rfl) ?_
      refine ao_split rfl rfl (fun hg12 => ?_) (fun hg12 => ?_)
      · refine ao_y1 rfl rfl (by decide) (w_fieldAddr rfl (lk rfl rfl) rfl (by decide)) ?_
        refine ao_y1 rfl rfl (by decide) (w_load1 (v := .int _ _) rfl (lk rfl rfl) rfl rfl rfl) ?_
        refine ao_y1 rfl rfl (by decide) (w_fieldAddr rfl (lk rfl rfl) rfl (by decide)) ?_
        refine ao_y1 rfl rfl (by decide) (w_load1 (v := .int _ _) rfl (lk rfl rfl) rfl rfl rfl) ?_
        refine ao_y1 rfl rfl (by decide) (o_eq rfl rfl) ?_
        refine ao1 (by decide) (o_pick_t (v := .bool _) rfl rfl) ?_
        refine ao1 (by decide) (o_assign (v := .bool _) rfl) ?_
        exact ao_nil (Out.mk (by (refine congrArg AV.bool ?_; (simp_all))) (by repeat (first | exact SubX.refl _ _ | refine SubX.at ?_ | refine SubX.put rfl ?_)))
      · refine ao_nT rfl rfl (by decide) ?_
        refine ao_nT rfl rfl (by decide) ?_
        refine ao_nT rfl rfl (by decide) ?_
        refine ao_nT rfl rfl (by decide) ?_
        refine ao_nT rfl rfl (by decide) ?_
        refine ao1 (by decide) (o_pick_f (v := .bool _) rfl rfl) ?_
        refine ao1 (by decide) (o_assign (v := .bool _) rfl) ?_
        exact ao_nil (Out.mk (by (refine congrArg AV.bool ?_; (simp_all))) (by repeat (first | exact SubX.refl _ _ | refine SubX.at ?_ | refine SubX.put rfl ?_)))
    · refine ao_nT rfl rfl (by decide) ?_
      refine ao_nT rfl rfl (by decide) ?_
      refine ao_nT rfl rfl (by decide) ?_
      refine ao_nT rfl rfl (by decide) ?_
      refine ao_nT rfl rfl (by decide) ?_
      refine ao1 (by decide) (o_pick_f (v := .bool _) rfl rfl) ?_
      refine ao1 (by decide) (o_move (v := .bool _) rfl) ?_
      refine ao_nT rfl rfl (by decide) ?_
      refine ao_nT rfl rfl (by decide) ?_
      refine ao_nT rfl rfl (by decide) ?_
      refine ao_nT rfl rfl (by decide) ?_
      refine ao_nT rfl rfl (by decide) ?_
      refine ao1 (by decide) (o_pick_f (v := .bool _) rfl rfl) ?_
      refine ao1 (by decide) (o_assign (v := .bool _) rfl) ?_
      exact ao_nil (Out.mk (by (refine congrArg AV.bool ?_; (simp_all))) (by repeat (first | exact SubX.refl _ _ | refine SubX.at ?_ | refine SubX.put rfl ?_)))
  repeat (first | refine then_nrm ?_ | refine aw_ret ?_)
  exact e_done hB (r_tmp rfl .nil) rfl rfl
theorem ref19_SameNote (a b : Note) (h1 : a.things.length ≤ 1000000) (H : Heap) : AC Tryd.prog 13 [.agg (eNote a), .agg (eNote b)] H (Ret (.bool (decide (a = b))) H) := by
  have he : decide (a = b) = (a.kind == b.kind && decide (a.things = b.things) && a.til == b.til) := by
    cases a; cases b; simp [Bool.beq_eq_decide_eq]; grind
  rw [he]
  refine AC.body (N := 24) [.tmp 4] Tryd.func13 rfl rfl rfl (Nat.le_of_ble_eq_true rfl) fun B hB => ?_
  repeat (refine aw_seq ?_)
  refine aw_region ?_
  refine ao2 (by rintro _ ⟨⟩; decide) (o_boxL (sz := 3) (v := .agg _) rfl rfl rfl rfl (by decide) rfl) ?_
  refine ao2 (by rintro _ ⟨⟩; decide) (o_boxL (sz := 3) (v := .agg _) rfl rfl rfl rfl (by decide) rfl) ?_
  refine ao1 (by decide) (o_assign (v := .bool _) rfl) ?_
  refine ao_nil ?_
  try dsimp only [List.length_nil, put, AV.cells, List.nil_append, List.length_cons, Nat.reduceAdd, List.cons_append]
  repeat (first | refine then_nrm ?_ | refine aw_seq ?_)
  refine aw_out 4 (.bool (a.kind == b.kind && decide (a.things = b.things) && a.til == b.til)) ?_ ?_
  · refine ao1 (by decide) (w_fieldAddr rfl (lk rfl rfl) rfl (by decide)) ?_
    refine ao1 (by decide) (w_load1 (v := .int _ _) rfl (lk rfl rfl) rfl rfl rfl) ?_
    refine ao1 (by decide) (w_fieldAddr rfl (lk rfl rfl) rfl (by decide)) ?_
    refine ao1 (by decide) (w_load1 (v := .int _ _) rfl (lk rfl rfl) rfl rfl rfl) ?_
    refine ao1 (by decide) (o_eq rfl rfl) ?_
    refine ao1 (by decide) (o_move (v := .bool _) rfl) ?_
    refine ao_split rfl rfl (fun hg5 => ?_) (fun hg5 => ?_)
    · refine ao_y1 rfl rfl (by decide) (w_fieldAddr rfl (lk rfl rfl) rfl (by decide)) ?_
      refine ao_y1 rfl rfl (by decide) (w_load1 (v := .pl _) rfl (lk rfl rfl) rfl rfl rfl) ?_
      refine ao_y1 rfl rfl (by decide) (w_fieldAddr rfl (lk rfl rfl) rfl (by decide)) ?_
      refine ao_y1 rfl rfl (by decide) (w_load1 (v := .pl _) rfl (lk rfl rfl) rfl rfl rfl) ?_
      refine ao_y rfl rfl (by decide) (V2.call (ref01_Same a.things b.things h1 _) rfl) ?_
      refine ao1 (by decide) (o_pick_t (v := .bool _) rfl rfl) ?_
      refine ao1 (by decide) (o_move (v := .bool _) rfl) ?_
      refine ao_split rfl rfl (fun hg12 => ?_) (fun hg12 => ?_)
      · refine ao_y1 rfl rfl (by decide) (w_fieldAddr rfl (lk rfl rfl) rfl (by decide)) ?_
        refine ao_y1 rfl rfl (by decide) (w_load1 (v := .int _ _) rfl (lk rfl rfl) rfl rfl rfl) ?_
        refine ao_y1 rfl rfl (by decide) (w_fieldAddr rfl (lk rfl rfl) rfl (by decide)) ?_
        refine ao_y1 rfl rfl (by decide) (w_load1 (v := .int _ _) rfl (lk rfl rfl) rfl rfl rfl) ?_
        refine ao_y1 rfl rfl (by decide) (o_eq rfl rfl) ?_
        refine ao1 (by decide) (o_pick_t (v := .bool _) rfl rfl) ?_
        refine ao1 (by decide) (o_assign (v := .bool _) rfl) ?_
        exact ao_nil (Out.mk (by (refine congrArg AV.bool ?_; (simp_all))) (by repeat (first | exact SubX.refl _ _ | refine SubX.at ?_ | refine SubX.put rfl ?_)))
      · refine ao_nT rfl rfl (by decide) ?_
        refine ao_nT rfl rfl (by decide) ?_
        refine ao_nT rfl rfl (by decide) ?_
        refine ao_nT rfl rfl (by decide) ?_
        refine ao_nT rfl rfl (by decide) ?_
        refine ao1 (by decide) (o_pick_f (v := .bool _) rfl rfl) ?_
        refine ao1 (by decide) (o_assign (v := .bool _) rfl) ?_
        exact ao_nil (Out.mk (by (refine congrArg AV.bool ?_; (simp_all))) (by repeat (first | exact SubX.refl _ _ | refine SubX.at ?_ | refine SubX.put rfl ?_)))
    · refine ao_nT rfl rfl (by decide) ?_
      refine ao_nT rfl rfl (by decide) ?_
      refine ao_nT rfl rfl (by decide) ?_
      refine ao_nT rfl rfl (by decide) ?_
      refine ao_nT rfl rfl (by decide) ?_
      refine ao1 (by decide) (o_pick_f (v := .bool _) rfl rfl) ?_
      refine ao1 (by decide) (o_move (v := .bool _) rfl) ?_
      refine ao_nT rfl rfl (by decide) ?_
      refine ao_nT rfl rfl (by decide) ?_
      refine ao_nT rfl rfl (by decide) ?_
      refine ao_nT rfl rfl (by decide) ?_
      refine ao_nT rfl rfl (by decide) ?_
      refine ao1 (by decide) (o_pick_f (v := .bool _) rfl rfl) ?_
      refine ao1 (by decide) (o_assign (v := .bool _) rfl) ?_
      exact ao_nil (Out.mk (by (refine congrArg AV.bool ?_; (simp_all))) (by repeat (first | exact SubX.refl _ _ | refine SubX.at ?_ | refine SubX.put rfl ?_)))
  repeat (first | refine then_nrm ?_ | refine aw_ret ?_)
  exact e_done hB (r_tmp rfl .nil) rfl rfl

theorem when_RightT (t : Int) (H : Heap) : AC Tryd.prog 32 [.int .i64 t] H (Ret (.bool (tm t)) H) := when_Right t H
theorem lease_some (l : List Int) (hl : l.length ≤ 1000000) (H : Heap) : AC Tryd.prog 42 [.pl (l.map eInt)] H (Ret (.bool (decide (0 < l.length) && sok l)) H) := by
  refine AC.body (N := 10) [.tmp 2] Tryd.func42 rfl rfl rfl (Nat.le_of_ble_eq_true rfl) fun B hB => ?_
  repeat (refine aw_seq ?_)
  refine aw_region ?_
  refine ao1 (by decide) (o_assign (v := .bool _) rfl) ?_
  refine ao_nil ?_
  repeat (first | refine then_nrm ?_ | refine aw_seq ?_)
  refine aw_out 2 (.bool (decide (0 < l.length) && sok l)) ?_ ?_
  · refine ao1 (by decide) (o_move (v := .pl _) rfl) ?_
    refine ao1 (by decide) (o_lenp rfl) ?_
    refine ao1 (by decide) (o_gt rfl rfl) ?_
    refine ao1 (by decide) (o_move (v := .bool _) rfl) ?_
    refine ao_split rfl rfl (fun hg3 => ?_) (fun hg3 => ?_)
    · refine ao_y1 rfl rfl (by decide) (o_move (v := .pl _) rfl) ?_
      refine ao_y rfl rfl (by decide) (V2.call (set_Right _ (by assumption) _) rfl) ?_
      refine ao1 (by decide) (o_pick_t (v := .bool _) rfl rfl) ?_
      refine ao1 (by decide) (o_assign (v := .bool _) rfl) ?_
      exact ao_nil (Out.mk (by (refine congrArg AV.bool ?_; (simp_all; done))) (by repeat (first | exact SubX.refl _ _ | refine SubX.at ?_ | refine SubX.put rfl ?_)))
    · refine ao_nT rfl rfl (by decide) ?_
      refine ao_nT rfl rfl (by decide) ?_
      refine ao1 (by decide) (o_pick_f (v := .bool _) rfl rfl) ?_
      refine ao1 (by decide) (o_assign (v := .bool _) rfl) ?_
      exact ao_nil (Out.mk (by (refine congrArg AV.bool ?_; (simp_all; done))) (by repeat (first | exact SubX.refl _ _ | refine SubX.at ?_ | refine SubX.put rfl ?_)))
  repeat (first | refine then_nrm ?_ | refine aw_ret ?_)
  exact e_done hB (r_tmp rfl .nil) rfl rfl
def lopen (l : Loan) (now : Int) (fine : Bool) : Int := if (lright l && tm now && fine) = false then 1 else if l.til ≤ now then 8 else 0
theorem lease_open (l : Loan) (hl : Small l) (now : Int) (fine : Bool) (H : Heap) : AC Tryd.prog 41 [.agg (eLoan l), .int .i64 now, .bool fine] H (Ret (.int .i64 (lopen l now fine)) H) := by
  refine AC.body (N := 25) [.tmp 6] Tryd.func41 rfl rfl rfl (Nat.le_of_ble_eq_true rfl) fun B hB => ?_
  repeat (refine aw_seq ?_)
  refine aw_region ?_
  refine ao2 (by rintro _ ⟨⟩; decide) (o_boxL (sz := 3) (v := .agg _) rfl rfl rfl rfl (by decide) rfl) ?_
  refine ao1 (by decide) (o_assign (v := .int _ _) rfl) ?_
  refine ao_nil ?_
  try dsimp only [List.length_nil, put, AV.cells, List.nil_append]
  repeat (first | refine then_nrm ?_ | refine aw_seq ?_ | refine aw_block ?_)
  refine aw_out 7 (.bool (!(lright l && tm now && fine))) ?_ ?_
  · refine ao1 (by decide) (w_loadR rfl (lk rfl rfl) rfl rfl rfl) ?_
    refine ao_ret (lease_Right l hl _) rfl (by decide) ?_
    refine ao1 (by decide) (o_not rfl) ?_
    refine ao1 (by decide) (o_move (v := .bool _) rfl) ?_
    refine ao_split rfl rfl (fun hg3 => ?_) (fun hg3 => ?_)
    · refine ao_nF rfl rfl (by decide) ?_
      refine ao_nF rfl rfl (by decide) ?_
      refine ao_nF rfl rfl (by decide) ?_
      refine ao1 (by decide) (o_pick_t (v := .bool _) rfl rfl) ?_
      refine ao1 (by decide) (o_move (v := .bool _) rfl) ?_
      refine ao_nF rfl rfl (by decide) ?_
      refine ao_nF rfl rfl (by decide) ?_
      refine ao1 (by decide) (o_pick_t (v := .bool _) rfl rfl) ?_
      refine ao1 (by decide) (o_assign (v := .bool _) rfl) ?_
      exact ao_nil (Out.mk (by (refine congrArg AV.bool ?_; (simp only [lright, tm] at *; (simp_all; done)))) (by repeat (first | exact SubX.refl _ _ | refine SubX.at ?_ | refine SubX.put rfl ?_)))
    · refine ao_y1 rfl rfl (by decide) (o_move (v := .int _ _) rfl) ?_
      refine ao_y rfl rfl (by decide) (V2.call (when_RightT _ _) rfl) ?_
      refine ao_y1 rfl rfl (by decide) (o_not rfl) ?_
      refine ao1 (by decide) (o_pick_f (v := .bool _) rfl rfl) ?_
      refine ao1 (by decide) (o_move (v := .bool _) rfl) ?_
      refine ao_split rfl rfl (fun hg8 => ?_) (fun hg8 => ?_)
      · refine ao_nF rfl rfl (by decide) ?_
        refine ao_nF rfl rfl (by decide) ?_
        refine ao1 (by decide) (o_pick_t (v := .bool _) rfl rfl) ?_
        refine ao1 (by decide) (o_assign (v := .bool _) rfl) ?_
        exact ao_nil (Out.mk (by (refine congrArg AV.bool ?_; (simp only [lright, tm] at *; (simp_all; done)))) (by repeat (first | exact SubX.refl _ _ | refine SubX.at ?_ | refine SubX.put rfl ?_)))
      · refine ao_y1 rfl rfl (by decide) (o_move (v := .bool _) rfl) ?_
        refine ao_y1 rfl rfl (by decide) (o_not rfl) ?_
        refine ao1 (by decide) (o_pick_f (v := .bool _) rfl rfl) ?_
        refine ao1 (by decide) (o_assign (v := .bool _) rfl) ?_
        exact ao_nil (Out.mk (by (refine congrArg AV.bool ?_; (simp only [lright, tm] at *; (simp_all; done)))) (by repeat (first | exact SubX.refl _ _ | refine SubX.at ?_ | refine SubX.put rfl ?_)))
  repeat (refine then_nrm ?_)
  refine aw_cond rfl (fun hc => ?_) (fun hc => ?_)
  · rw [show lopen l now fine = 1 by rw [lopen, if_pos ((Bool.not_eq_true' _).mp hc)]]
    repeat (refine aw_seq ?_)
    refine aw_region ?_
    refine ao1 (by decide) (o_assign (v := .int _ _) rfl) ?_
    refine ao_nil ?_
    repeat (first | refine then_nrm ?_ | refine then_ret ?_ | refine blk_ret ?_ | refine aw_ret ?_)
    exact e_done hB (r_tmp rfl .nil) rfl rfl
  · repeat (refine aw_seq ?_)
    refine aw_region ?_
    refine ao1 (by decide) (o_move (v := .int _ _) rfl) ?_
    refine ao1 (by decide) (w_fieldAddr rfl (lk rfl rfl) rfl (by decide)) ?_
    refine ao1 (by decide) (w_load1 (v := .int _ _) rfl (lk rfl rfl) rfl rfl rfl) ?_
    refine ao1 (by decide) (o_ge rfl rfl) ?_
    refine ao1 (by decide) (o_assign (v := .bool _) rfl) ?_
    refine ao_nil ?_
    try dsimp only [Nat.reduceAdd]
    have hok : ¬ (lright l && tm now && fine) = false := by intro h; rw [h] at hc; cases hc
    repeat (refine then_nrm ?_)
    refine aw_cond rfl (fun hc => ?_) (fun hc => ?_)
    · rw [show lopen l now fine = 8 by rw [lopen, if_neg hok, if_pos (by simpa using hc)]]
      repeat (refine aw_seq ?_)
      refine aw_region ?_
      refine ao1 (by decide) (o_assign (v := .int _ _) rfl) ?_
      refine ao_nil ?_
      repeat (first | refine then_nrm ?_ | refine then_ret ?_ | refine blk_ret ?_ | refine aw_ret ?_)
      exact e_done hB (r_tmp rfl .nil) rfl rfl
    · rw [show lopen l now fine = 0 by rw [lopen, if_neg hok, if_neg (by simpa using hc)]]
      repeat (first | refine then_nrm ?_ | refine blk_nrm ?_ | refine aw_seq ?_ | refine aw_skip ?_)
      refine aw_region ?_
      refine ao1 (by decide) (o_assign (v := .int _ _) rfl) ?_
      refine ao_nil ?_
      repeat (first | refine then_nrm ?_ | refine aw_ret ?_)
      exact e_done hB (r_tmp rfl .nil) rfl rfl
def lover (l : Loan) (now guard : Int) : Loan := if lright l = true ∧ plus l.til guard ≤ now then ⟨[], [], l.til⟩ else l
theorem lease_Over (l : Loan) (hl : Small l) (now guard : Int) (H : Heap) : AC Tryd.prog 14 [.agg (eLoan l), .int .i64 now, .int .i64 guard] H (Ret (.agg (eLoan (lover l now guard))) H) := by
  refine AC.body (N := 22) [.cell 6 24] Tryd.func14 rfl rfl rfl (Nat.le_of_ble_eq_true rfl) fun B hB => ?_
  repeat (refine aw_seq ?_)
  refine aw_region ?_
  refine ao2 (by rintro _ ⟨⟩; decide) (o_boxL (sz := 3) (v := .agg _) rfl rfl rfl rfl (by decide) rfl) ?_
  refine ao2 (by rintro _ ⟨⟩; decide) (o_allocL (sz := 3) rfl (by decide) rfl) ?_
  refine ao_nil ?_
  try dsimp only [put, AV.cells, List.nil_append, List.length_cons, List.length_nil, Nat.reduceAdd, List.cons_append]
  repeat (first | refine then_nrm ?_ | refine aw_seq ?_)
  refine aw_region ?_
  refine ao1 (by decide) (w_loadR rfl (lk rfl rfl) rfl rfl rfl) ?_
  refine ao_ret (lease_copied l hl _) rfl (by decide) ?_
  refine ao2 (by rintro _ ⟨⟩) (w_storeW (sz := 3) rfl rfl rfl rfl rfl rfl rfl rfl (Nat.le_of_ble_eq_true rfl)) ?_
  refine ao_nil ?_
  try dsimp only [put, List.set_cons_zero]
  repeat (first | refine then_nrm ?_ | refine aw_seq ?_)
  refine aw_out 18 (.bool (lright l && decide (plus l.til guard ≤ now))) ?_ ?_
  · refine ao1 (by decide) (w_loadR rfl (lk rfl rfl) rfl rfl rfl) ?_
    refine ao_ret (lease_Right l hl _) rfl (by decide) ?_
    refine ao1 (by decide) (o_move (v := .bool _) rfl) ?_
    refine ao_split rfl rfl (fun hg2 => ?_) (fun hg2 => ?_)
    · refine ao_y1 rfl rfl (by decide) (o_move (v := .int _ _) rfl) ?_
      refine ao_y1 rfl rfl (by decide) (w_fieldAddr rfl (lk rfl rfl) rfl (by decide)) ?_
      refine ao_y1 rfl rfl (by decide) (w_load1 (v := .int _ _) rfl (lk rfl rfl) rfl rfl rfl) ?_
      refine ao_y1 rfl rfl (by decide) (o_move (v := .int _ _) rfl) ?_
      refine ao_y rfl rfl (by decide) (V2.call (when_Plus _ _ _) rfl) ?_
      refine ao_y1 rfl rfl (by decide) (o_ge rfl rfl) ?_
      refine ao1 (by decide) (o_pick_t (v := .bool _) rfl rfl) ?_
      exact ao_nil (Out.mk (by (refine congrArg AV.bool ?_; ((simp_all; done)))) (by repeat (first | exact SubX.refl _ _ | refine SubX.at ?_ | refine SubX.put rfl ?_)))
    · refine ao_nT rfl rfl (by decide) ?_
      refine ao_nT rfl rfl (by decide) ?_
      refine ao_nT rfl rfl (by decide) ?_
      refine ao_nT rfl rfl (by decide) ?_
      refine ao_nT rfl rfl (by decide) ?_
      refine ao_nT rfl rfl (by decide) ?_
      refine ao1 (by decide) (o_pick_f (v := .bool _) rfl rfl) ?_
      exact ao_nil (Out.mk (by (refine congrArg AV.bool ?_; ((simp_all; done)))) (by repeat (first | exact SubX.refl _ _ | refine SubX.at ?_ | refine SubX.put rfl ?_)))
  repeat (refine then_nrm ?_)
  refine aw_cond rfl (fun hc => ?_) (fun hc => ?_)
  · rw [show lover l now guard = ⟨[], [], l.til⟩ by rw [lover, if_pos (by simpa using hc)]]
    refine aw_region ?_
    refine ao1 (by decide) (w_fieldAddr rfl (lk rfl rfl) rfl (by decide)) ?_
    refine ao2 (by rintro _ ⟨⟩) (w_storeP (sz := 1) (v := .nsl) (r' := [_, _, _]) rfl rfl rfl rfl rfl rfl rfl rfl (Nat.le_of_ble_eq_true rfl) rfl) ?_
    refine ao1 (by decide) (w_fieldAddr rfl (lk rfl rfl) rfl (by decide)) ?_
    refine ao2 (by rintro _ ⟨⟩) (w_storeP (sz := 1) (v := .nsl) (r' := [_, _, _]) rfl rfl rfl rfl rfl rfl rfl rfl (Nat.le_of_ble_eq_true rfl) rfl) ?_
    refine ao_nil ?_
    try dsimp only [put, Nat.reduceAdd, List.set_cons_zero]
    repeat (first | refine then_nrm ?_ | refine aw_seq ?_)
    refine aw_region ?_
    refine ao1 (by decide) (V1.up (w_loadR rfl (lk rfl rfl) rfl rfl rfl)) ?_
    refine ao2 (by rintro _ ⟨⟩) (w_storeW (sz := 3) rfl rfl rfl rfl rfl rfl rfl rfl (Nat.le_of_ble_eq_true rfl)) ?_
    refine ao_nil ?_
    try dsimp only [put, AV.up, List.set_cons_zero, List.set_cons_succ]
    repeat (first | refine then_nrm ?_ | refine aw_ret ?_)
    exact e_done hB (r_cellR rfl (lk rfl rfl) rfl rfl rfl .nil) rfl rfl
  · rw [show lover l now guard = l by rw [lover, if_neg (by simpa using hc)]]
    repeat (first | refine then_nrm ?_ | refine aw_seq ?_ | refine aw_skip ?_)
    refine aw_region ?_
    refine ao1 (by decide) (w_loadR rfl (lk rfl rfl) rfl rfl rfl) ?_
    refine ao2 (by rintro _ ⟨⟩) (w_storeW (sz := 3) rfl rfl rfl rfl rfl rfl rfl rfl (Nat.le_of_ble_eq_true rfl)) ?_
    refine ao_nil ?_
    try dsimp only [put, List.set_cons_zero, List.set_cons_succ]
    repeat (first | refine then_nrm ?_ | refine aw_ret ?_)
    exact e_done hB (r_cellR rfl (lk rfl rfl) rfl rfl rfl .nil) rfl rfl
theorem ref19_Over (l : Loan) (hl : Small l) (now guard : Int) (H : Heap) : AC Tryd.prog 15 [.agg (eLoan l), .int .i64 now, .int .i64 guard] H (Ret (.agg (eLoan (lover l now guard))) H) := by
  refine AC.body (N := 21) [.cell 6 24] Tryd.func15 rfl rfl rfl (Nat.le_of_ble_eq_true rfl) fun B hB => ?_
  repeat (refine aw_seq ?_)
  refine aw_region ?_
  refine ao2 (by rintro _ ⟨⟩; decide) (o_boxL (sz := 3) (v := .agg _) rfl rfl rfl rfl (by decide) rfl) ?_
  refine ao2 (by rintro _ ⟨⟩; decide) (o_allocL (sz := 3) rfl (by decide) rfl) ?_
  refine ao_nil ?_
  try dsimp only [put, AV.cells, List.nil_append, List.length_cons, List.length_nil, Nat.reduceAdd, List.cons_append]
  repeat (first | refine then_nrm ?_ | refine aw_seq ?_)
  refine aw_out 16 (.bool (lright l && decide (plus l.til guard ≤ now))) ?_ ?_
  · refine ao1 (by decide) (w_loadR rfl (lk rfl rfl) rfl rfl rfl) ?_
    refine ao_ret (ref19_Right l hl _) rfl (by decide) ?_
    refine ao1 (by decide) (o_move (v := .bool _) rfl) ?_
    refine ao_split rfl rfl (fun hg2 => ?_) (fun hg2 => ?_)
    · refine ao_y1 rfl rfl (by decide) (o_move (v := .int _ _) rfl) ?_
      refine ao_y1 rfl rfl (by decide) (w_fieldAddr rfl (lk rfl rfl) rfl (by decide)) ?_
      refine ao_y1 rfl rfl (by decide) (w_load1 (v := .int _ _) rfl (lk rfl rfl) rfl rfl rfl) ?_
      refine ao_y1 rfl rfl (by decide) (o_move (v := .int _ _) rfl) ?_
      refine ao_y rfl rfl (by decide) (V2.call (ref02_Plus _ _ _) rfl) ?_
      refine ao_y1 rfl rfl (by decide) (o_ge rfl rfl) ?_
      refine ao1 (by decide) (o_pick_t (v := .bool _) rfl rfl) ?_
      exact ao_nil (Out.mk (by (refine congrArg AV.bool ?_; ((simp_all; done)))) (by repeat (first | exact SubX.refl _ _ | refine SubX.at ?_ | refine SubX.put rfl ?_)))
    · refine ao_nT rfl rfl (by decide) ?_
      refine ao_nT rfl rfl (by decide) ?_
      refine ao_nT rfl rfl (by decide) ?_
      refine ao_nT rfl rfl (by decide) ?_
      refine ao_nT rfl rfl (by decide) ?_
      refine ao_nT rfl rfl (by decide) ?_
      refine ao1 (by decide) (o_pick_f (v := .bool _) rfl rfl) ?_
      exact ao_nil (Out.mk (by (refine congrArg AV.bool ?_; ((simp_all; done)))) (by repeat (first | exact SubX.refl _ _ | refine SubX.at ?_ | refine SubX.put rfl ?_)))
  repeat (refine then_nrm ?_)
  refine aw_cond rfl (fun hc => ?_) (fun hc => ?_)
  · rw [show lover l now guard = ⟨[], [], l.til⟩ by rw [lover, if_pos (by simpa using hc)]]
    repeat (refine aw_seq ?_)
    refine aw_region ?_
    refine ao1 (by decide) (w_fieldAddr rfl (lk rfl rfl) rfl (by decide)) ?_
    refine ao1 (by decide) (w_load1 (v := .int _ _) rfl (lk rfl rfl) rfl rfl rfl) ?_
    refine ao1 (by decide) (V1.up (o_build (cs := [_, _, .int _ _]) rfl)) ?_
    refine ao2 (by rintro _ ⟨⟩) (w_storeW (sz := 3) rfl rfl rfl rfl rfl rfl rfl rfl (Nat.le_of_ble_eq_true rfl)) ?_
    refine ao_nil ?_
    try dsimp only [put, AV.up, Nat.reduceAdd, List.set_cons_zero, List.set_cons_succ]
    repeat (first | refine then_nrm ?_ | refine then_ret ?_ | refine aw_ret ?_)
    exact e_done hB (r_cellR rfl (lk rfl rfl) rfl rfl rfl .nil) rfl rfl
  · rw [show lover l now guard = l by rw [lover, if_neg (by simpa using hc)]]
    repeat (first | refine then_nrm ?_ | refine aw_seq ?_ | refine aw_skip ?_)
    refine aw_region ?_
    refine ao1 (by decide) (w_loadR rfl (lk rfl rfl) rfl rfl rfl) ?_
    refine ao2 (by rintro _ ⟨⟩) (w_storeW (sz := 3) rfl rfl rfl rfl rfl rfl rfl rfl (Nat.le_of_ble_eq_true rfl)) ?_
    refine ao_nil ?_
    try dsimp only [put, List.set_cons_zero, List.set_cons_succ]
    repeat (first | refine then_nrm ?_ | refine aw_ret ?_)
    exact e_done hB (r_cellR rfl (lk rfl rfl) rfl rfl rfl .nil) rfl rfl
end Go.Av

namespace Go.Av
open Go.Proofs
set_option maxRecDepth 10000
set_option linter.unusedSimpArgs false
set_option linter.unusedVariables false

def noNote : Note := ⟨0, [], 0⟩
abbrev orb (x y : Bool) : Bool := x || y
abbrev lessb (x y : Bool) : Bool := x && !y
def hok (l : Loan) (n : Note) (now : Int) : Bool := lright l && decide (l.asked.length = 0) && lmay n && tm now
def hear (l : Loan) (n : Note) (now : Int) : Loan × Note × Bool :=
  if hok l n now = false then (l, noNote, false)
  else if n.kind = 1 then (if now < l.til then (⟨setop (· || ·) l.things n.things, l.asked, l.til⟩, noNote, false) else (l, noNote, false))
  else if n.kind = 2 then (⟨setop (fun x y => x && !y) l.things n.things, l.asked, l.til⟩, ⟨3, n.things, 0⟩, true)
  else if n.kind = 4 then (⟨l.things, l.asked, max l.til n.til⟩, noNote, false)
  else (l, noNote, false)
set_option maxHeartbeats 0 in
theorem lease_Hear (l : Loan) (hl : Small l) (n : Note) (hn : n.things.length ≤ 1000000) (now : Int) (H : Heap) : ACT Tryd.prog KD 10 [.agg (eLoan l), .agg (eNote n), .int .i64 now] H (Ret (.tup [.agg (eLoan (hear l n now).1), .agg (eNote (hear l n now).2.1), .bool (hear l n now).2.2]) H) := by
  refine ACT.body (N := 69) [.cell 6 24, .cell 7 26, .tmp 8] Tryd.func10 rfl rfl rfl (Nat.le_of_ble_eq_true rfl) fun B hB => ?_
  repeat (refine aw_seq ?_)
  refine aw_region ?_
  refine ao2 (by rintro _ ⟨⟩; decide) (o_boxL (sz := 3) (v := .agg _) rfl rfl rfl rfl (by decide) rfl) ?_
  refine ao2 (by rintro _ ⟨⟩; decide) (o_boxL (sz := 3) (v := .agg _) rfl rfl rfl rfl (by decide) rfl) ?_
  refine ao2 (by rintro _ ⟨⟩; decide) (o_allocL (sz := 3) rfl (by decide) rfl) ?_
  refine ao2 (by rintro _ ⟨⟩; decide) (o_allocL (sz := 3) rfl (by decide) rfl) ?_
  refine ao1 (by decide) (o_assign (v := .bool _) rfl) ?_
  refine ao_nil ?_
  try dsimp only [List.length_nil, put, AV.cells, List.nil_append, List.length_cons, Nat.reduceAdd, List.cons_append]
  repeat (first | refine then_nrm ?_ | refine aw_seq ?_)
  refine aw_region ?_
  refine ao1 (by decide) (w_loadR rfl (lk rfl rfl) rfl rfl rfl) ?_
  refine ao_ret (lease_copied l hl _) rfl (by decide) ?_
  refine ao2 (by rintro _ ⟨⟩) (w_storeW (sz := 3) rfl rfl rfl rfl rfl rfl rfl rfl (Nat.le_of_ble_eq_true rfl)) ?_
  refine ao_nil ?_
  try dsimp only [put, List.set_cons_zero]
  repeat (first | refine then_nrm ?_ | refine aw_seq ?_)
  refine aw_out 29 (.bool (!(hok l n now))) ?_ ?_
  · refine ao1 (by decide) (w_loadR rfl (lk rfl rfl) rfl rfl rfl) ?_
    refine ao_ret (lease_Right l hl _) rfl (by decide) ?_
    refine ao1 (by decide) (o_not rfl) ?_
    refine ao1 (by decide) (o_move (v := .bool _) rfl) ?_
    refine ao_split rfl rfl (fun hg3 => ?_) (fun hg3 => ?_)
    · refine ao_nF rfl rfl (by decide) ?_
      refine ao_nF rfl rfl (by decide) ?_
      refine ao_nF rfl rfl (by decide) ?_
      refine ao_nF rfl rfl (by decide) ?_
      refine ao1 (by decide) (o_pick_t (v := .bool _) rfl rfl) ?_
      refine ao1 (by decide) (o_move (v := .bool _) rfl) ?_
      refine ao_nF rfl rfl (by decide) ?_
      refine ao_nF rfl rfl (by decide) ?_
      refine ao_nF rfl rfl (by decide) ?_
      refine ao1 (by decide) (o_pick_t (v := .bool _) rfl rfl) ?_
      refine ao1 (by decide) (o_move (v := .bool _) rfl) ?_
      refine ao_nF rfl rfl (by decide) ?_
      refine ao_nF rfl rfl (by decide) ?_
      refine ao_nF rfl rfl (by decide) ?_
      refine ao1 (by decide) (o_pick_t (v := .bool _) rfl rfl) ?_
      exact ao_nil (Out.mk (by (refine congrArg AV.bool ?_; (simp only [hok] at *; (simp_all; done)))) (by repeat (first | exact SubX.refl _ _ | refine SubX.at ?_ | refine SubX.put rfl ?_)))
    · refine ao_y1 rfl rfl (by decide) (w_fieldAddr rfl (lk rfl rfl) rfl (by decide)) ?_
      refine ao_y1 rfl rfl (by decide) (w_load1 (v := .pl _) rfl (lk rfl rfl) rfl rfl rfl) ?_
      refine ao_y1 rfl rfl (by decide) (o_lenp rfl) ?_
      refine ao_y1 rfl rfl (by decide) (o_gt rfl rfl) ?_
      refine ao1 (by decide) (o_pick_f (v := .bool _) rfl rfl) ?_
      refine ao1 (by decide) (o_move (v := .bool _) rfl) ?_
      refine ao_split rfl rfl (fun hg9 => ?_) (fun hg9 => ?_)
      · refine ao_nF rfl rfl (by decide) ?_
        refine ao_nF rfl rfl (by decide) ?_
        refine ao_nF rfl rfl (by decide) ?_
        refine ao1 (by decide) (o_pick_t (v := .bool _) rfl rfl) ?_
        refine ao1 (by decide) (o_move (v := .bool _) rfl) ?_
        refine ao_nF rfl rfl (by decide) ?_
        refine ao_nF rfl rfl (by decide) ?_
        refine ao_nF rfl rfl (by decide) ?_
        refine ao1 (by decide) (o_pick_t (v := .bool _) rfl rfl) ?_
        exact ao_nil (Out.mk (by (refine congrArg AV.bool ?_; (simp only [hok] at *; grind))) (by repeat (first | exact SubX.refl _ _ | refine SubX.at ?_ | refine SubX.put rfl ?_)))
      · refine ao_y1 rfl rfl (by decide) (w_loadR rfl (lk rfl rfl) rfl rfl rfl) ?_
        refine ao_y rfl rfl (by decide) (V2.call (lease_may n hn _) rfl) ?_
        refine ao_y1 rfl rfl (by decide) (o_not rfl) ?_
        refine ao1 (by decide) (o_pick_f (v := .bool _) rfl rfl) ?_
        refine ao1 (by decide) (o_move (v := .bool _) rfl) ?_
        refine ao_split rfl rfl (fun hg14 => ?_) (fun hg14 => ?_)
        · refine ao_nF rfl rfl (by decide) ?_
          refine ao_nF rfl rfl (by decide) ?_
          refine ao_nF rfl rfl (by decide) ?_
          refine ao1 (by decide) (o_pick_t (v := .bool _) rfl rfl) ?_
          exact ao_nil (Out.mk (by (refine congrArg AV.bool ?_; (simp only [hok] at *; (simp_all; done)))) (by repeat (first | exact SubX.refl _ _ | refine SubX.at ?_ | refine SubX.put rfl ?_)))
        · refine ao_y1 rfl rfl (by decide) (o_move (v := .int _ _) rfl) ?_
          refine ao_y rfl rfl (by decide) (V2.call (when_RightT _ _) rfl) ?_
          refine ao_y1 rfl rfl (by decide) (o_not rfl) ?_
          refine ao1 (by decide) (o_pick_f (v := .bool _) rfl rfl) ?_
          exact ao_nil (Out.mk (by (refine congrArg AV.bool ?_; (simp only [hok] at *; (simp_all; done)))) (by repeat (first | exact SubX.refl _ _ | refine SubX.at ?_ | refine SubX.put rfl ?_)))
  repeat (refine then_nrm ?_)
  refine aw_cond rfl (fun hc => ?_) (fun hc => ?_)
  · rw [show hear l n now = (l, noNote, false) by rw [hear, if_pos ((Bool.not_eq_true' _).mp hc)]]
    repeat (refine aw_seq ?_)
    refine aw_region ?_
    refine ao1 (by decide) (w_loadR rfl (lk rfl rfl) rfl rfl rfl) ?_
    refine ao1 (by decide) (V1.up (o_build (cs := [.int _ _, _, .int _ _]) rfl)) ?_
    refine ao2 (by rintro _ ⟨⟩) (w_storeW (sz := 3) rfl rfl rfl rfl rfl rfl rfl rfl (Nat.le_of_ble_eq_true rfl)) ?_
    refine ao2 (by rintro _ ⟨⟩) (w_storeW (sz := 3) rfl rfl rfl rfl rfl rfl rfl rfl (Nat.le_of_ble_eq_true rfl)) ?_
    refine ao1 (by decide) (o_assign (v := .bool _) rfl) ?_
    refine ao_nil ?_
    try dsimp only [AV.up, put, List.set_cons_zero, List.set_cons_succ]
    repeat (first | refine then_nrm ?_ | refine then_ret ?_ | refine aw_ret ?_)
    exact e_done hB (r_cellR rfl (lk rfl rfl) rfl rfl rfl (r_cellR rfl (lk rfl rfl) rfl rfl rfl (r_tmp rfl .nil))) rfl rfl
  have hk : ¬ hok l n now = false := by intro h; rw [h] at hc; cases hc
  repeat (first | refine then_nrm ?_ | refine aw_seq ?_ | refine aw_skip ?_)
  refine aw_region ?_
  refine ao1 (by decide) (w_fieldAddr rfl (lk rfl rfl) rfl (by decide)) ?_
  refine ao1 (by decide) (w_load1 (v := .int _ _) rfl (lk rfl rfl) rfl rfl rfl) ?_
  refine ao_nil ?_
  try dsimp only [Nat.reduceAdd]
  repeat (first | refine then_nrm ?_ | refine aw_seq ?_ | refine aw_block ?_)
  refine aw_region ?_
  refine ao1 (by decide) (o_eq rfl rfl) ?_
  refine ao1 (by decide) (o_assign (v := .bool _) rfl) ?_
  refine ao_nil ?_
  repeat (refine then_nrm ?_)
  refine aw_cond rfl (fun hc => ?_) (fun hc => ?_)
  · have h1 : n.kind = 1 := by simpa using hc
    repeat (refine aw_seq ?_)
    refine aw_region ?_
    refine ao1 (by decide) (o_move (v := .int _ _) rfl) ?_
    refine ao1 (by decide) (w_fieldAddr rfl (lk rfl rfl) rfl (by decide)) ?_
    refine ao1 (by decide) (w_load1 (v := .int _ _) rfl (lk rfl rfl) rfl rfl rfl) ?_
    refine ao1 (by decide) (o_lt rfl rfl) ?_
    refine ao_nil ?_
    try dsimp only [Nat.reduceAdd]
    repeat (refine then_nrm ?_)
    refine aw_cond rfl (fun hc => ?_) (fun hc => ?_)
    · rw [show hear l n now = (⟨setop (· || ·) l.things n.things, l.asked, l.til⟩, noNote, false) by rw [hear, if_neg hk, if_pos h1, if_pos (by simpa using hc)]]
      refine aw_region ?_
      refine ao1 (by decide) (w_fieldAddr rfl (lk rfl rfl) rfl (by decide)) ?_
      refine ao1 (by decide) (w_load1 (v := .pl _) rfl (lk rfl rfl) rfl rfl rfl) ?_
      refine ao1 (by decide) (w_fieldAddr rfl (lk rfl rfl) rfl (by decide)) ?_
      refine ao1 (by decide) (w_load1 (v := .pl _) rfl (lk rfl rfl) rfl rfl rfl) ?_
      refine ao2 (by rintro _ ⟨⟩; decide) (V2.callT (set_Join l.things n.things hl.1 hn _) rfl rfl) ?_
      refine ao1 (by decide) (w_fieldAddr rfl (lk rfl rfl) rfl (by decide)) ?_
      refine ao2 (by rintro _ ⟨⟩) (w_storeP (sz := 1) (v := .pl _) (r' := [_, _, _]) rfl rfl rfl rfl rfl rfl rfl rfl (Nat.le_of_ble_eq_true rfl) rfl) ?_
      refine ao_nil ?_
      try dsimp only [put, Nat.reduceAdd, List.set_cons_zero]
      repeat (first | refine then_nrm ?_ | refine blk_nrm ?_ | refine aw_seq ?_)
      refine aw_region ?_
      refine ao1 (by decide) (w_loadR rfl (lk rfl rfl) rfl rfl rfl) ?_
      refine ao1 (by decide) (V1.up (o_build (cs := [.int _ _, _, .int _ _]) rfl)) ?_
      refine ao2 (by rintro _ ⟨⟩) (w_storeW (sz := 3) rfl rfl rfl rfl rfl rfl rfl rfl (Nat.le_of_ble_eq_true rfl)) ?_
      refine ao2 (by rintro _ ⟨⟩) (w_storeW (sz := 3) rfl rfl rfl rfl rfl rfl rfl rfl (Nat.le_of_ble_eq_true rfl)) ?_
      refine ao1 (by decide) (o_assign (v := .bool _) rfl) ?_
      refine ao_nil ?_
      try dsimp only [AV.up, put, List.set_cons_zero, List.set_cons_succ]
      repeat (first | refine then_nrm ?_ | refine aw_ret ?_)
      exact e_done hB (r_cellR rfl (lk rfl rfl) rfl rfl rfl (r_cellR rfl (lk rfl rfl) rfl rfl rfl (r_tmp rfl .nil))) rfl rfl
    · rw [show hear l n now = (l, noNote, false) by rw [hear, if_neg hk, if_pos h1, if_neg (by simpa using hc)]]
      repeat (first | refine then_nrm ?_ | refine blk_nrm ?_ | refine aw_seq ?_ | refine aw_skip ?_)
      refine aw_region ?_
      refine ao1 (by decide) (w_loadR rfl (lk rfl rfl) rfl rfl rfl) ?_
      refine ao1 (by decide) (V1.up (o_build (cs := [.int _ _, _, .int _ _]) rfl)) ?_
      refine ao2 (by rintro _ ⟨⟩) (w_storeW (sz := 3) rfl rfl rfl rfl rfl rfl rfl rfl (Nat.le_of_ble_eq_true rfl)) ?_
      refine ao2 (by rintro _ ⟨⟩) (w_storeW (sz := 3) rfl rfl rfl rfl rfl rfl rfl rfl (Nat.le_of_ble_eq_true rfl)) ?_
      refine ao1 (by decide) (o_assign (v := .bool _) rfl) ?_
      refine ao_nil ?_
      try dsimp only [AV.up, put, List.set_cons_zero, List.set_cons_succ]
      repeat (first | refine then_nrm ?_ | refine aw_ret ?_)
      exact e_done hB (r_cellR rfl (lk rfl rfl) rfl rfl rfl (r_cellR rfl (lk rfl rfl) rfl rfl rfl (r_tmp rfl .nil))) rfl rfl
  · have h1 : ¬ n.kind = 1 := by simpa using hc
    repeat (refine aw_seq ?_)
    refine aw_region ?_
    refine ao1 (by decide) (o_eq rfl rfl) ?_
    refine ao1 (by decide) (o_assign (v := .bool _) rfl) ?_
    refine ao_nil ?_
    repeat (refine then_nrm ?_)
    refine aw_cond rfl (fun hc => ?_) (fun hc => ?_)
    · have h2 : n.kind = 2 := by simpa using hc
      rw [show hear l n now = (⟨setop (fun x y => x && !y) l.things n.things, l.asked, l.til⟩, ⟨3, n.things, 0⟩, true) by rw [hear, if_neg hk, if_neg h1, if_pos h2]]
      repeat (refine aw_seq ?_)
      refine aw_region ?_
      refine ao1 (by decide) (w_fieldAddr rfl (lk rfl rfl) rfl (by decide)) ?_
      refine ao1 (by decide) (w_load1 (v := .pl _) rfl (lk rfl rfl) rfl rfl rfl) ?_
      refine ao1 (by decide) (w_fieldAddr rfl (lk rfl rfl) rfl (by decide)) ?_
      refine ao1 (by decide) (w_load1 (v := .pl _) rfl (lk rfl rfl) rfl rfl rfl) ?_
      refine ao2 (by rintro _ ⟨⟩; decide) (V2.callT (set_Less l.things n.things hl.1 hn _) rfl rfl) ?_
      refine ao1 (by decide) (w_fieldAddr rfl (lk rfl rfl) rfl (by decide)) ?_
      refine ao2 (by rintro _ ⟨⟩) (w_storeP (sz := 1) (v := .pl _) (r' := [_, _, _]) rfl rfl rfl rfl rfl rfl rfl rfl (Nat.le_of_ble_eq_true rfl) rfl) ?_
      refine ao_nil ?_
      try dsimp only [put, Nat.reduceAdd, List.set_cons_zero]
      repeat (first | refine then_nrm ?_ | refine aw_seq ?_)
      refine aw_drawP mixed none 2 ?_
      try dsimp only [List.take_succ_cons, List.take_zero]
      refine aqp 0 rfl (by decide +kernel) (by decide) (fun G => w_loadR rfl (lk rfl rfl) rfl rfl rfl) ?_
      refine aqp 1 rfl (by decide +kernel) (by decide) (fun G => w_fieldAddr rfl (lk rfl rfl) rfl (by decide)) ?_
      refine aqp 2 rfl (by decide +kernel) (by decide) (fun G => w_load1 (v := .pl _) rfl (lk rfl rfl) rfl rfl rfl) ?_
      refine aq02 3 rfl (by decide +kernel) (by decide) (fun _ => V2.call (slices_CloneI n.things _ hn) rfl) ?_
      refine aq0 4 rfl (by decide +kernel) (by decide) (fun _ => V1.up (o_build (cs := [.int _ _, _, .int _ _]) rfl)) ?_
      refine aqs 5 rfl (by decide +kernel) (by exact fun _ => ⟨_, rfl⟩) (by rintro _ ⟨⟩) (w_storeW (sz := 3) rfl rfl rfl rfl rfl rfl rfl rfl (Nat.le_of_ble_eq_true rfl)) ?_
      refine aqs 6 rfl (by decide +kernel) (by exact fun _ => ⟨_, rfl⟩) (by rintro _ ⟨⟩) (w_storeW (sz := 3) rfl rfl rfl rfl rfl rfl rfl rfl (Nat.le_of_ble_eq_true rfl)) ?_
      refine aq0 7 rfl (by decide +kernel) (by decide) (fun _ => o_assign (v := .bool _) rfl) ?_
      refine aa_done (by decide +kernel) (by exact fun _ => ⟨_, rfl⟩) ?_
      try dsimp only [Nat.reduceAdd, AV.up, put, List.set_cons_zero, List.set_cons_succ]
      all_goals
        repeat (first | refine then_nrm ?_ | refine then_ret ?_ | refine blk_ret ?_ | refine aw_ret ?_)
        exact e_done hB (r_cellR rfl (lk rfl rfl) rfl rfl rfl (r_cellR rfl (lk rfl rfl) rfl rfl rfl (r_tmp rfl .nil))) rfl rfl
    · have h2 : ¬ n.kind = 2 := by simpa using hc
      repeat (refine aw_seq ?_)
      refine aw_region ?_
      refine ao1 (by decide) (o_eq rfl rfl) ?_
      refine ao1 (by decide) (o_assign (v := .bool _) rfl) ?_
      refine ao_nil ?_
      repeat (refine then_nrm ?_)
      refine aw_cond rfl (fun hc => ?_) (fun hc => ?_)
      · have h4 : n.kind = 4 := by simpa using hc
        rw [show hear l n now = (⟨l.things, l.asked, max l.til n.til⟩, noNote, false) by rw [hear, if_neg hk, if_neg h1, if_neg h2, if_pos h4]]
        refine aw_region ?_
        refine ao1 (by decide) (w_fieldAddr rfl (lk rfl rfl) rfl (by decide)) ?_
        refine ao1 (by decide) (w_load1 (v := .int _ _) rfl (lk rfl rfl) rfl rfl rfl) ?_
        refine ao1 (by decide) (w_fieldAddr rfl (lk rfl rfl) rfl (by decide)) ?_
        refine ao1 (by decide) (w_load1 (v := .int _ _) rfl (lk rfl rfl) rfl rfl rfl) ?_
        refine ao1 (by decide) (o_max rfl rfl rfl) ?_
        refine ao1 (by decide) (w_fieldAddr rfl (lk rfl rfl) rfl (by decide)) ?_
        refine ao2 (by rintro _ ⟨⟩) (w_storeP (sz := 1) (v := .int _ _) (r' := [_, _, _]) rfl rfl rfl rfl rfl rfl rfl rfl (Nat.le_of_ble_eq_true rfl) rfl) ?_
        refine ao_nil ?_
        try dsimp only [put, Nat.reduceAdd, List.set_cons_zero]
        repeat (first | refine then_nrm ?_ | refine blk_nrm ?_ | refine aw_seq ?_)
        refine aw_region ?_
        refine ao1 (by decide) (w_loadR rfl (lk rfl rfl) rfl rfl rfl) ?_
        refine ao1 (by decide) (V1.up (o_build (cs := [.int _ _, _, .int _ _]) rfl)) ?_
        refine ao2 (by rintro _ ⟨⟩) (w_storeW (sz := 3) rfl rfl rfl rfl rfl rfl rfl rfl (Nat.le_of_ble_eq_true rfl)) ?_
        refine ao2 (by rintro _ ⟨⟩) (w_storeW (sz := 3) rfl rfl rfl rfl rfl rfl rfl rfl (Nat.le_of_ble_eq_true rfl)) ?_
        refine ao1 (by decide) (o_assign (v := .bool _) rfl) ?_
        refine ao_nil ?_
        try dsimp only [AV.up, put, List.set_cons_zero, List.set_cons_succ]
        repeat (first | refine then_nrm ?_ | refine aw_ret ?_)
        exact e_done hB (r_cellR rfl (lk rfl rfl) rfl rfl rfl (r_cellR rfl (lk rfl rfl) rfl rfl rfl (r_tmp rfl .nil))) rfl rfl
      · have h4 : ¬ n.kind = 4 := by simpa using hc
        rw [show hear l n now = (l, noNote, false) by rw [hear, if_neg hk, if_neg h1, if_neg h2, if_neg h4]]
        repeat (first | refine then_nrm ?_ | refine blk_nrm ?_ | refine aw_seq ?_ | refine aw_skip ?_)
        refine aw_region ?_
        refine ao1 (by decide) (w_loadR rfl (lk rfl rfl) rfl rfl rfl) ?_
        refine ao1 (by decide) (V1.up (o_build (cs := [.int _ _, _, .int _ _]) rfl)) ?_
        refine ao2 (by rintro _ ⟨⟩) (w_storeW (sz := 3) rfl rfl rfl rfl rfl rfl rfl rfl (Nat.le_of_ble_eq_true rfl)) ?_
        refine ao2 (by rintro _ ⟨⟩) (w_storeW (sz := 3) rfl rfl rfl rfl rfl rfl rfl rfl (Nat.le_of_ble_eq_true rfl)) ?_
        refine ao1 (by decide) (o_assign (v := .bool _) rfl) ?_
        refine ao_nil ?_
        try dsimp only [AV.up, put, List.set_cons_zero, List.set_cons_succ]
        repeat (first | refine then_nrm ?_ | refine aw_ret ?_)
        exact e_done hB (r_cellR rfl (lk rfl rfl) rfl rfl rfl (r_cellR rfl (lk rfl rfl) rfl rfl rfl (r_tmp rfl .nil))) rfl rfl
theorem opw0 : opw 0 = fun x y => x || y := by funext x y; simp [opw]
theorem opw2 : opw 2 = fun x y => x && !y := by funext x y; simp [opw]
theorem lmay_kind {n : Note} (h : lmay n = true) : (n.kind = 4 ∧ n.things = []) ∨ (1 ≤ n.kind ∧ n.kind ≤ 3 ∧ n.til = 0) := by
  unfold lmay at h
  split at h
  · right; rename_i hk; simp at h; omega
  · split at h
    · left; rename_i hk; simp [List.length_eq_zero_iff] at h; exact ⟨hk, h.2⟩
    · cases h
theorem hok_may {l : Loan} {n : Note} {now : Int} (h : ¬ hok l n now = false) : lright l = true ∧ l.asked = [] ∧ lmay n = true ∧ tm now = true := by
  have : hok l n now = true := by simpa using h
  simp [hok, List.length_eq_zero_iff] at this
  exact ⟨this.1.1.1, this.1.1.2, this.1.2, this.2⟩
set_option maxHeartbeats 0 in
theorem ref19_Hear (l : Loan) (hl : Small l) (n : Note) (hn : n.things.length ≤ 1000000) (now : Int) (H : Heap) : AC Tryd.prog 11 [.agg (eLoan l), .agg (eNote n), .int .i64 now] H (Ret (.tup [.agg (eLoan (hear l n now).1), .agg (eNote (hear l n now).2.1), .bool (hear l n now).2.2]) H) := by
  have c0 := fun H => ref01_Which l.things n.things 0 hl.1 hn H
  have c2 := fun H => ref01_Which l.things n.things 2 hl.1 hn H
  rw [opw0] at c0
  rw [opw2] at c2
  refine AC.body (N := 72) [.cell 6 24, .cell 7 26, .tmp 8] Tryd.func11 rfl rfl rfl (Nat.le_of_ble_eq_true rfl) fun B hB => ?_
  repeat (refine aw_seq ?_)
  refine aw_region ?_
  refine ao2 (by rintro _ ⟨⟩; decide) (o_boxL (sz := 3) (v := .agg _) rfl rfl rfl rfl (by decide) rfl) ?_
  refine ao2 (by rintro _ ⟨⟩; decide) (o_boxL (sz := 3) (v := .agg _) rfl rfl rfl rfl (by decide) rfl) ?_
  refine ao2 (by rintro _ ⟨⟩; decide) (o_allocL (sz := 3) rfl (by decide) rfl) ?_
  refine ao2 (by rintro _ ⟨⟩; decide) (o_allocL (sz := 3) rfl (by decide) rfl) ?_
  refine ao1 (by decide) (o_assign (v := .bool _) rfl) ?_
  refine ao_nil ?_
  try dsimp only [List.length_nil, put, AV.cells, List.nil_append, List.length_cons, Nat.reduceAdd, List.cons_append]
  repeat (first | refine then_nrm ?_ | refine aw_seq ?_)
  refine aw_out 32 (.bool (!(hok l n now && !decide (n.kind = 3)))) ?_ ?_
  · refine ao1 (by decide) (w_loadR rfl (lk rfl rfl) rfl rfl rfl) ?_
    refine ao_ret (ref19_Right l hl _) rfl (by decide) ?_
    refine ao1 (by decide) (o_not rfl) ?_
    refine ao1 (by decide) (o_move (v := .bool _) rfl) ?_
    refine ao_split rfl rfl (fun hg3 => ?_) (fun hg3 => ?_)
    · refine ao_nF rfl rfl (by decide) ?_
      refine ao_nF rfl rfl (by decide) ?_
      refine ao_nF rfl rfl (by decide) ?_
      refine ao_nF rfl rfl (by decide) ?_
      refine ao1 (by decide) (o_pick_t (v := .bool _) rfl rfl) ?_
      refine ao1 (by decide) (o_move (v := .bool _) rfl) ?_
      refine ao_nF rfl rfl (by decide) ?_
      refine ao_nF rfl rfl (by decide) ?_
      refine ao_nF rfl rfl (by decide) ?_
      refine ao1 (by decide) (o_pick_t (v := .bool _) rfl rfl) ?_
      refine ao1 (by decide) (o_move (v := .bool _) rfl) ?_
      refine ao_nF rfl rfl (by decide) ?_
      refine ao_nF rfl rfl (by decide) ?_
      refine ao_nF rfl rfl (by decide) ?_
      refine ao1 (by decide) (o_pick_t (v := .bool _) rfl rfl) ?_
      refine ao1 (by decide) (o_move (v := .bool _) rfl) ?_
      refine ao_nF rfl rfl (by decide) ?_
      refine ao_nF rfl rfl (by decide) ?_
      refine ao_nF rfl rfl (by decide) ?_
      refine ao1 (by decide) (o_pick_t (v := .bool _) rfl rfl) ?_
      exact ao_nil (Out.mk (by (refine congrArg AV.bool ?_; (clear c0 c2; simp only [hok] at *; (simp_all; done)))) (by repeat (first | exact SubX.refl _ _ | refine SubX.at ?_ | refine SubX.put rfl ?_)))
    · refine ao_y1 rfl rfl (by decide) (w_fieldAddr rfl (lk rfl rfl) rfl (by decide)) ?_
      refine ao_y1 rfl rfl (by decide) (w_load1 (v := .pl _) rfl (lk rfl rfl) rfl rfl rfl) ?_
      refine ao_y1 rfl rfl (by decide) (o_lenp rfl) ?_
      refine ao_y1 rfl rfl (by decide) (o_ne rfl rfl) ?_
      refine ao1 (by decide) (o_pick_f (v := .bool _) rfl rfl) ?_
      refine ao1 (by decide) (o_move (v := .bool _) rfl) ?_
      refine ao_split rfl rfl (fun hg9 => ?_) (fun hg9 => ?_)
      · refine ao_nF rfl rfl (by decide) ?_
        refine ao_nF rfl rfl (by decide) ?_
        refine ao_nF rfl rfl (by decide) ?_
        refine ao1 (by decide) (o_pick_t (v := .bool _) rfl rfl) ?_
        refine ao1 (by decide) (o_move (v := .bool _) rfl) ?_
        refine ao_nF rfl rfl (by decide) ?_
        refine ao_nF rfl rfl (by decide) ?_
        refine ao_nF rfl rfl (by decide) ?_
        refine ao1 (by decide) (o_pick_t (v := .bool _) rfl rfl) ?_
        refine ao1 (by decide) (o_move (v := .bool _) rfl) ?_
        refine ao_nF rfl rfl (by decide) ?_
        refine ao_nF rfl rfl (by decide) ?_
        refine ao_nF rfl rfl (by decide) ?_
        refine ao1 (by decide) (o_pick_t (v := .bool _) rfl rfl) ?_
        exact ao_nil (Out.mk (by (refine congrArg AV.bool ?_; (clear c0 c2; simp only [hok] at *; (simp_all; done)))) (by repeat (first | exact SubX.refl _ _ | refine SubX.at ?_ | refine SubX.put rfl ?_)))
      · refine ao_y1 rfl rfl (by decide) (w_loadR rfl (lk rfl rfl) rfl rfl rfl) ?_
        refine ao_y rfl rfl (by decide) (V2.call (ref19_May n hn _) rfl) ?_
        refine ao_y1 rfl rfl (by decide) (o_not rfl) ?_
        refine ao1 (by decide) (o_pick_f (v := .bool _) rfl rfl) ?_
        refine ao1 (by decide) (o_move (v := .bool _) rfl) ?_
        refine ao_split rfl rfl (fun hg14 => ?_) (fun hg14 => ?_)
        · refine ao_nF rfl rfl (by decide) ?_
          refine ao_nF rfl rfl (by decide) ?_
          refine ao_nF rfl rfl (by decide) ?_
          refine ao1 (by decide) (o_pick_t (v := .bool _) rfl rfl) ?_
          refine ao1 (by decide) (o_move (v := .bool _) rfl) ?_
          refine ao_nF rfl rfl (by decide) ?_
          refine ao_nF rfl rfl (by decide) ?_
          refine ao_nF rfl rfl (by decide) ?_
          refine ao1 (by decide) (o_pick_t (v := .bool _) rfl rfl) ?_
          exact ao_nil (Out.mk (by (refine congrArg AV.bool ?_; (clear c0 c2; simp only [hok] at *; (simp_all; done)))) (by repeat (first | exact SubX.refl _ _ | refine SubX.at ?_ | refine SubX.put rfl ?_)))
        · refine ao_y1 rfl rfl (by decide) (o_move (v := .int _ _) rfl) ?_
          refine ao_y rfl rfl (by decide) (V2.call (ref19_time _ _) rfl) ?_
          refine ao_y1 rfl rfl (by decide) (o_not rfl) ?_
          refine ao1 (by decide) (o_pick_f (v := .bool _) rfl rfl) ?_
          refine ao1 (by decide) (o_move (v := .bool _) rfl) ?_
          refine ao_split rfl rfl (fun hg19 => ?_) (fun hg19 => ?_)
          · refine ao_nF rfl rfl (by decide) ?_
            refine ao_nF rfl rfl (by decide) ?_
            refine ao_nF rfl rfl (by decide) ?_
            refine ao1 (by decide) (o_pick_t (v := .bool _) rfl rfl) ?_
            exact ao_nil (Out.mk (by (refine congrArg AV.bool ?_; (clear c0 c2; simp only [hok] at *; (simp_all; done)))) (by repeat (first | exact SubX.refl _ _ | refine SubX.at ?_ | refine SubX.put rfl ?_)))
          · refine ao_y1 rfl rfl (by decide) (w_fieldAddr rfl (lk rfl rfl) rfl (by decide)) ?_
            refine ao_y1 rfl rfl (by decide) (w_load1 (v := .int _ _) rfl (lk rfl rfl) rfl rfl rfl) ?_
            refine ao_y1 rfl rfl (by decide) (o_eq rfl rfl) ?_
            refine ao1 (by decide) (o_pick_f (v := .bool _) rfl rfl) ?_
            exact ao_nil (Out.mk (by (refine congrArg AV.bool ?_; (clear c0 c2; simp only [hok] at *; grind))) (by repeat (first | exact SubX.refl _ _ | refine SubX.at ?_ | refine SubX.put rfl ?_)))
  repeat (refine then_nrm ?_)
  refine aw_cond rfl (fun hc => ?_) (fun hc => ?_)
  · rw [show hear l n now = (l, noNote, false) by
      cases h : hok l n now with
      | false => rw [hear, if_pos h]
      | true =>
        have h3 : n.kind = 3 := by simpa [h] using hc
        rw [hear, if_neg (by rw [h]; simp), if_neg (by omega), if_neg (by omega), if_neg (by omega)]]
    repeat (refine aw_seq ?_)
    refine aw_region ?_
    refine ao1 (by decide) (w_loadR rfl (lk rfl rfl) rfl rfl rfl) ?_
    refine ao1 (by decide) (V1.up (o_build (cs := [.int _ _, _, .int _ _]) rfl)) ?_
    refine ao2 (by rintro _ ⟨⟩) (w_storeW (sz := 3) rfl rfl rfl rfl rfl rfl rfl rfl (Nat.le_of_ble_eq_true rfl)) ?_
    refine ao2 (by rintro _ ⟨⟩) (w_storeW (sz := 3) rfl rfl rfl rfl rfl rfl rfl rfl (Nat.le_of_ble_eq_true rfl)) ?_
    refine ao1 (by decide) (o_assign (v := .bool _) rfl) ?_
    refine ao_nil ?_
    try dsimp only [AV.up, put, List.set_cons_zero, List.set_cons_succ]
    repeat (first | refine then_nrm ?_ | refine then_ret ?_ | refine aw_ret ?_)
    exact e_done hB (r_cellR rfl (lk rfl rfl) rfl rfl rfl (r_cellR rfl (lk rfl rfl) rfl rfl rfl (r_tmp rfl .nil))) rfl rfl
  have hk : ¬ hok l n now = false := by intro h; rw [h] at hc; cases hc
  have h3 : ¬ n.kind = 3 := by intro h; rw [h] at hc; simp at hc
  have hm := lmay_kind (hok_may hk).2.2.1
  repeat (first | refine then_nrm ?_ | refine aw_seq ?_ | refine aw_skip ?_)
  refine aw_region ?_
  refine ao1 (by decide) (w_fieldAddr rfl (lk rfl rfl) rfl (by decide)) ?_
  refine ao1 (by decide) (w_load1 (v := .int _ _) rfl (lk rfl rfl) rfl rfl rfl) ?_
  refine ao1 (by decide) (o_eq rfl rfl) ?_
  refine ao_nil ?_
  try dsimp only [Nat.reduceAdd]
  repeat (refine then_nrm ?_)
  refine aw_cond rfl (fun hc => ?_) (fun hc => ?_)
  · have h4 : n.kind = 4 := by simpa using hc
    rw [show hear l n now = (⟨l.things, l.asked, max l.til n.til⟩, noNote, false) by rw [hear, if_neg hk, if_neg (by omega), if_neg (by omega), if_pos h4]]
    repeat (refine aw_seq ?_)
    refine aw_region ?_
    refine ao1 (by decide) (w_fieldAddr rfl (lk rfl rfl) rfl (by decide)) ?_
    refine ao1 (by decide) (w_load1 (v := .int _ _) rfl (lk rfl rfl) rfl rfl rfl) ?_
    refine ao1 (by decide) (w_fieldAddr rfl (lk rfl rfl) rfl (by decide)) ?_
    refine ao1 (by decide) (w_load1 (v := .int _ _) rfl (lk rfl rfl) rfl rfl rfl) ?_
    refine ao1 (by decide) (o_gt rfl rfl) ?_
    refine ao_nil ?_
    try dsimp only [Nat.reduceAdd]
    repeat (refine then_nrm ?_)
    refine aw_cond rfl (fun hc => ?_) (fun hc => ?_)
    · rw [show max l.til n.til = n.til by simp at hc; omega]
      refine aw_region ?_
      refine ao1 (by decide) (w_fieldAddr rfl (lk rfl rfl) rfl (by decide)) ?_
      refine ao1 (by decide) (w_load1 (v := .int _ _) rfl (lk rfl rfl) rfl rfl rfl) ?_
      refine ao1 (by decide) (w_fieldAddr rfl (lk rfl rfl) rfl (by decide)) ?_
      refine ao2 (by rintro _ ⟨⟩) (w_storeP (sz := 1) (v := .int _ _) (r' := [_, _, _]) rfl rfl rfl rfl rfl rfl rfl rfl (Nat.le_of_ble_eq_true rfl) rfl) ?_
      refine ao_nil ?_
      try dsimp only [put, Nat.reduceAdd, List.set_cons_zero]
      repeat (first | refine then_nrm ?_ | refine aw_seq ?_)
      refine aw_region ?_
      refine ao1 (by decide) (w_loadR rfl (lk rfl rfl) rfl rfl rfl) ?_
      refine ao1 (by decide) (V1.up (o_build (cs := [.int _ _, _, .int _ _]) rfl)) ?_
      refine ao2 (by rintro _ ⟨⟩) (w_storeW (sz := 3) rfl rfl rfl rfl rfl rfl rfl rfl (Nat.le_of_ble_eq_true rfl)) ?_
      refine ao2 (by rintro _ ⟨⟩) (w_storeW (sz := 3) rfl rfl rfl rfl rfl rfl rfl rfl (Nat.le_of_ble_eq_true rfl)) ?_
      refine ao1 (by decide) (o_assign (v := .bool _) rfl) ?_
      refine ao_nil ?_
      try dsimp only [AV.up, put, List.set_cons_zero, List.set_cons_succ]
      repeat (first | refine then_nrm ?_ | refine then_ret ?_ | refine aw_ret ?_)
      exact e_done hB (r_cellR rfl (lk rfl rfl) rfl rfl rfl (r_cellR rfl (lk rfl rfl) rfl rfl rfl (r_tmp rfl .nil))) rfl rfl
    · rw [show max l.til n.til = l.til by simp at hc; omega]
      repeat (first | refine then_nrm ?_ | refine aw_seq ?_ | refine aw_skip ?_)
      refine aw_region ?_
      refine ao1 (by decide) (w_loadR rfl (lk rfl rfl) rfl rfl rfl) ?_
      refine ao1 (by decide) (V1.up (o_build (cs := [.int _ _, _, .int _ _]) rfl)) ?_
      refine ao2 (by rintro _ ⟨⟩) (w_storeW (sz := 3) rfl rfl rfl rfl rfl rfl rfl rfl (Nat.le_of_ble_eq_true rfl)) ?_
      refine ao2 (by rintro _ ⟨⟩) (w_storeW (sz := 3) rfl rfl rfl rfl rfl rfl rfl rfl (Nat.le_of_ble_eq_true rfl)) ?_
      refine ao1 (by decide) (o_assign (v := .bool _) rfl) ?_
      refine ao_nil ?_
      try dsimp only [AV.up, put, List.set_cons_zero, List.set_cons_succ]
      repeat (first | refine then_nrm ?_ | refine then_ret ?_ | refine aw_ret ?_)
      exact e_done hB (r_cellR rfl (lk rfl rfl) rfl rfl rfl (r_cellR rfl (lk rfl rfl) rfl rfl rfl (r_tmp rfl .nil))) rfl rfl
  · have h4 : ¬ n.kind = 4 := by simpa using hc
    repeat (first | refine then_nrm ?_ | refine aw_seq ?_ | refine aw_skip ?_)
    refine aw_region ?_
    refine ao1 (by decide) (w_fieldAddr rfl (lk rfl rfl) rfl (by decide)) ?_
    refine ao1 (by decide) (w_load1 (v := .int _ _) rfl (lk rfl rfl) rfl rfl rfl) ?_
    refine ao1 (by decide) (o_eq rfl rfl) ?_
    refine ao_nil ?_
    try dsimp only [Nat.reduceAdd]
    repeat (refine then_nrm ?_)
    refine aw_cond rfl (fun hc => ?_) (fun hc => ?_)
    · have h2 : n.kind = 2 := by simpa using hc
      have h0 : n.til = 0 := by omega
      rw [show hear l n now = (⟨setop (fun x y => x && !y) l.things n.things, l.asked, l.til⟩, ⟨3, n.things, n.til⟩, true) by rw [hear, if_neg hk, if_neg (by omega), if_pos h2, h0]]
      repeat (refine aw_seq ?_)
      refine aw_region ?_
      refine ao1 (by decide) (w_fieldAddr rfl (lk rfl rfl) rfl (by decide)) ?_
      refine ao1 (by decide) (w_load1 (v := .pl _) rfl (lk rfl rfl) rfl rfl rfl) ?_
      refine ao1 (by decide) (w_fieldAddr rfl (lk rfl rfl) rfl (by decide)) ?_
      refine ao1 (by decide) (w_load1 (v := .pl _) rfl (lk rfl rfl) rfl rfl rfl) ?_
      refine ao2 (by rintro _ ⟨⟩; decide) (V2.call (c2 _) rfl) ?_
      refine ao1 (by decide) (w_fieldAddr rfl (lk rfl rfl) rfl (by decide)) ?_
      refine ao2 (by rintro _ ⟨⟩) (w_storeP (sz := 1) (v := .pl _) (r' := [_, _, _]) rfl rfl rfl rfl rfl rfl rfl rfl (Nat.le_of_ble_eq_true rfl) rfl) ?_
      refine ao_nil ?_
      try dsimp only [put, Nat.reduceAdd, List.set_cons_zero]
      repeat (first | refine then_nrm ?_ | refine aw_seq ?_)
      refine aw_region ?_
      refine ao1 (by decide) (w_fieldAddr rfl (lk rfl rfl) rfl (by decide)) ?_
      refine ao2 (by rintro _ ⟨⟩) (w_storeP (sz := 1) (v := .int _ _) (r' := [_, _, _]) rfl rfl rfl rfl rfl rfl rfl rfl (Nat.le_of_ble_eq_true rfl) rfl) ?_
      refine ao_nil ?_
      try dsimp only [put, Nat.reduceAdd, List.set_cons_zero, List.set_cons_succ]
      repeat (first | refine then_nrm ?_ | refine aw_seq ?_)
      refine aw_drawP mixed none 2 ?_
      try dsimp only [List.take_succ_cons, List.take_zero]
      refine aqp 0 rfl (by decide +kernel) (by decide) (fun G => w_loadR rfl (lk rfl rfl) rfl rfl rfl) ?_
      refine aqp 1 rfl (by decide +kernel) (by decide) (fun G => w_loadR rfl (lk rfl rfl) rfl rfl rfl) ?_
      refine aqs 2 rfl (by decide +kernel) (by exact fun _ => ⟨_, rfl⟩) (by rintro _ ⟨⟩) (w_storeW (sz := 3) rfl rfl rfl rfl rfl rfl rfl rfl (Nat.le_of_ble_eq_true rfl)) ?_
      refine aqs 3 rfl (by decide +kernel) (by exact fun _ => ⟨_, rfl⟩) (by rintro _ ⟨⟩) (w_storeW (sz := 3) rfl rfl rfl rfl rfl rfl rfl rfl (Nat.le_of_ble_eq_true rfl)) ?_
      refine aq0 4 rfl (by decide +kernel) (by decide) (fun _ => o_assign (v := .bool _) rfl) ?_
      refine aa_done (by decide +kernel) (by exact fun _ => ⟨_, rfl⟩) ?_
      try dsimp only [put, List.set_cons_zero, List.set_cons_succ]
      all_goals
        repeat (first | refine then_nrm ?_ | refine then_ret ?_ | refine aw_ret ?_)
        exact e_done hB (r_cellR rfl (lk rfl rfl) rfl rfl rfl (r_cellR rfl (lk rfl rfl) rfl rfl rfl (r_tmp rfl .nil))) rfl rfl
    · have h1 : n.kind = 1 := by have : ¬ n.kind = 2 := by simpa using hc
                                 omega
      repeat (first | refine then_nrm ?_ | refine aw_seq ?_ | refine aw_skip ?_)
      refine aw_region ?_
      refine ao1 (by decide) (o_move (v := .int _ _) rfl) ?_
      refine ao1 (by decide) (w_fieldAddr rfl (lk rfl rfl) rfl (by decide)) ?_
      refine ao1 (by decide) (w_load1 (v := .int _ _) rfl (lk rfl rfl) rfl rfl rfl) ?_
      refine ao1 (by decide) (o_lt rfl rfl) ?_
      refine ao_nil ?_
      try dsimp only [Nat.reduceAdd]
      repeat (refine then_nrm ?_)
      refine aw_cond rfl (fun hc => ?_) (fun hc => ?_)
      · rw [show hear l n now = (⟨setop (· || ·) l.things n.things, l.asked, l.til⟩, noNote, false) by rw [hear, if_neg hk, if_pos h1, if_pos (by simpa using hc)]]
        refine aw_region ?_
        refine ao1 (by decide) (w_fieldAddr rfl (lk rfl rfl) rfl (by decide)) ?_
        refine ao1 (by decide) (w_load1 (v := .pl _) rfl (lk rfl rfl) rfl rfl rfl) ?_
        refine ao1 (by decide) (w_fieldAddr rfl (lk rfl rfl) rfl (by decide)) ?_
        refine ao1 (by decide) (w_load1 (v := .pl _) rfl (lk rfl rfl) rfl rfl rfl) ?_
        refine ao2 (by rintro _ ⟨⟩; decide) (V2.call (c0 _) rfl) ?_
        refine ao1 (by decide) (w_fieldAddr rfl (lk rfl rfl) rfl (by decide)) ?_
        refine ao2 (by rintro _ ⟨⟩) (w_storeP (sz := 1) (v := .pl _) (r' := [_, _, _]) rfl rfl rfl rfl rfl rfl rfl rfl (Nat.le_of_ble_eq_true rfl) rfl) ?_
        refine ao_nil ?_
        try dsimp only [put, Nat.reduceAdd, List.set_cons_zero]
        repeat (first | refine then_nrm ?_ | refine aw_seq ?_)
        refine aw_region ?_
        refine ao1 (by decide) (w_loadR rfl (lk rfl rfl) rfl rfl rfl) ?_
        refine ao1 (by decide) (V1.up (o_build (cs := [.int _ _, _, .int _ _]) rfl)) ?_
        refine ao2 (by rintro _ ⟨⟩) (w_storeW (sz := 3) rfl rfl rfl rfl rfl rfl rfl rfl (Nat.le_of_ble_eq_true rfl)) ?_
        refine ao2 (by rintro _ ⟨⟩) (w_storeW (sz := 3) rfl rfl rfl rfl rfl rfl rfl rfl (Nat.le_of_ble_eq_true rfl)) ?_
        refine ao1 (by decide) (o_assign (v := .bool _) rfl) ?_
        refine ao_nil ?_
        try dsimp only [AV.up, put, List.set_cons_zero, List.set_cons_succ]
        repeat (first | refine then_nrm ?_ | refine aw_ret ?_)
        exact e_done hB (r_cellR rfl (lk rfl rfl) rfl rfl rfl (r_cellR rfl (lk rfl rfl) rfl rfl rfl (r_tmp rfl .nil))) rfl rfl
      · rw [show hear l n now = (l, noNote, false) by rw [hear, if_neg hk, if_pos h1, if_neg (by simpa using hc)]]
        repeat (first | refine then_nrm ?_ | refine aw_seq ?_ | refine aw_skip ?_)
        refine aw_region ?_
        refine ao1 (by decide) (w_loadR rfl (lk rfl rfl) rfl rfl rfl) ?_
        refine ao1 (by decide) (V1.up (o_build (cs := [.int _ _, _, .int _ _]) rfl)) ?_
        refine ao2 (by rintro _ ⟨⟩) (w_storeW (sz := 3) rfl rfl rfl rfl rfl rfl rfl rfl (Nat.le_of_ble_eq_true rfl)) ?_
        refine ao2 (by rintro _ ⟨⟩) (w_storeW (sz := 3) rfl rfl rfl rfl rfl rfl rfl rfl (Nat.le_of_ble_eq_true rfl)) ?_
        refine ao1 (by decide) (o_assign (v := .bool _) rfl) ?_
        refine ao_nil ?_
        try dsimp only [AV.up, put, List.set_cons_zero, List.set_cons_succ]
        repeat (first | refine then_nrm ?_ | refine aw_ret ?_)
        exact e_done hB (r_cellR rfl (lk rfl rfl) rfl rfl rfl (r_cellR rfl (lk rfl rfl) rfl rfl rfl (r_tmp rfl .nil))) rfl rfl
end Go.Av

/-
  A REGION THAT DRAWS: an operation that is bound to the turning one by another one is taken first.
-/
namespace Go.Av
section
variable {P : Program} {N : Nat} {B : Base} {ops : Array Oper} {a : Option Nat} {C : Heap → Prop} {F : Env → Heap → Prop} {Q : Post}
variable {op : Op} {ty : TypeId} {pos : String} {after : Array Edge}
/-- i stands ahead of m, by way of operations that have not come up. -/
inductive Anc (ops : Array Oper) (listed : Array Bool) (i : Nat) : Nat → Prop
  | here : Anc ops listed i i
  | step {m : Nat} {om : Oper} {e : Edge} : listed.getD m true = false → ops[m]? = some om → e ∈ om.after → Region.binds .any e = true → Anc ops listed i e.on → Anc ops listed i m
def Wait2 (ops : Array Oper) (a : Option Nat) (i : Nat) (listed : Array Bool) : Prop := ∀ a', a = some a' → ∀ oa, ops[a']? = some oa → ∃ e ∈ oa.after, Region.binds .any e = true ∧ Anc ops listed i e.on
theorem listed_no {listed : Array Bool} {m : Nat} (h1 : listed.getD m false = true) (h2 : listed.getD m true = false) : False := by
  rcases Nat.lt_or_ge m listed.size with h' | h'
  · simp [h'] at h1 h2; rw [h1] at h2; cases h2
  · simp [Array.getElem?_eq_none h'] at h1
theorem Anc.put {listed : Array Bool} {i j m : Nat} {oj : Oper} (hoj : ops[j]? = some oj) (hall : ∀ e ∈ oj.after, Region.binds .any e = true → listed.getD e.on false = true) (hnot : ∀ e ∈ oj.after, Region.binds .any e = true → e.on ≠ i) (h : Anc ops listed i m) : Anc ops (listed.setIfInBounds j true) i m := by
  induction h with
  | here => exact .here
  | @step m om e hm hom he hb h ih =>
    refine .step ?_ hom he hb ih
    have : j ≠ m := by
      rintro rfl
      rw [hoj] at hom
      obtain rfl := Option.some.inj hom
      have h1 := hall e he hb
      have h2 := hnot e he hb
      cases h with
      | here => exact h2 rfl
      | step h3 => exact listed_no h1 h3
    rw [getD_set_ne true this]; exact hm
/-- Taken first: what binds it to the one that turns stands between. -/
theorem aa_first_aux2 {i : Nat} {oi : Oper} {v : AV} (hi : ops[i]? = some oi) (hdi : ∀ t, oi.dst = some t → DN t N) (hai : a ≠ some i) :
    ∀ (fuel : Nat) (listed : Array Bool) (env : Env) (H : Heap), Wait2 ops a i listed → listed.size = ops.size →
      (∀ j oj, ops[j]? = some oj → j ≠ i → listed.getD j true = false → (∀ e ∈ oj.after, Region.binds .any e = true → e.on ≠ i) → oi.apart ops oj = true) →
      i ∈ Region.ready .any ops listed → Yet a listed → Quiet P N ops C oi env v →
      AAny P N B ops a C F fuel (listed.setIfInBounds i true) (Av.put env oi.dst v) H → AAny P N B ops a C F (fuel + 1) listed env H := by
  have hset : ∀ (listed : Array Bool) (j : Nat), a ≠ some j → Yet a (listed.setIfInBounds j true) = Yet a listed := fun listed j hj => by
    unfold Yet
    cases a with
    | none => rfl
    | some a => simp only; rw [getD_set_ne true (fun e => hj (by rw [e]))]
  intro fuel
  induction fuel with
  | zero =>
    intro listed env H _ hsz _ hr ha hq h
    have hC : C H := h.1 (by rw [hset _ _ hai]; exact ha)
    refine ⟨fun _ => hC, fun h0 => (by rw [h0] at hr; cases hr), fun j hj => ?_⟩
    by_cases hji : j = i
    · subst hji; exact hq.at_ hi hdi hC h
    · have := ready_mono hj hji
      rw [h.2.1] at this
      cases this
  | succ fuel ih =>
    intro listed env H hwait hsz hfree hr ha hq h
    have hC : C H := h.1 (by rw [hset _ _ hai]; exact ha)
    refine ⟨fun _ => hC, fun h0 => (by rw [h0] at hr; cases hr), fun j hj => ?_⟩
    by_cases hji : j = i
    · subst hji; exact hq.at_ hi hdi hC h
    · have h1 := h.2.2 j (ready_mono hj hji)
      obtain ⟨hjun, oj, hoj, hall⟩ := mem_ready.1 hj
      have hnot : ∀ e ∈ oj.after, Region.binds .any e = true → e.on ≠ i := fun e he hb heq => by
        have h1 := hall e he hb
        have h0 := (mem_ready.1 hr).1
        rw [heq] at h1
        rcases Nat.lt_or_ge i listed.size with h' | h'
        · simp [h'] at h0 h1; rw [h0] at h1; cases h1
        · simp [Array.getElem?_eq_none h'] at h1
      have hja : a ≠ some j := by
        rintro rfl
        obtain ⟨e, he, hb, hm⟩ := hwait j rfl oj hoj
        generalize hx : e.on = x at hm
        cases hm with
        | here => exact hnot e he hb hx
        | step h3 => exact listed_no (hall e he hb) (by rw [hx]; exact h3)
      have hwait' : Wait2 ops a i (listed.setIfInBounds j true) := by
        intro a' ha' oa hoa
        obtain ⟨e, he, hb, hm⟩ := hwait a' ha' oa hoa
        exact ⟨e, he, hb, hm.put hoj hall hnot⟩
      have hap := hfree j oj hoj hji hjun hnot
      obtain ⟨p1, p2, p3⟩ := Oper.apart_spec hap
      have hfree' : ∀ k ok, ops[k]? = some ok → k ≠ i → (listed.setIfInBounds j true).getD k true = false →
          (∀ e ∈ ok.after, Region.binds .any e = true → e.on ≠ i) → oi.apart ops ok = true := fun k ok hk hki hun hno => by
        refine hfree k ok hk hki ?_ hno
        by_cases hjk : j = k
        · subst hjk; exact hjun
        · rw [getD_set_ne true hjk] at hun; exact hun
      obtain ⟨o, ho, hd, h2⟩ := h1
      rw [hoj] at ho
      obtain rfl := Option.some.inj ho
      have step : ∀ x H', AAny P N B ops a C F fuel ((listed.setIfInBounds i true).setIfInBounds j true) (Av.put (Av.put env oi.dst v) oj.dst x) H' → AAny P N B ops a C F (fuel + 1) (listed.setIfInBounds j true) (Av.put env oj.dst x) H' := by
        intro x H' hx
        refine ih (listed.setIfInBounds j true) (Av.put env oj.dst x) H' hwait' (by simpa using hsz) hfree' (ready_mono hr (Ne.symm hji)) (by rw [hset _ _ hja]; exact ha) (hq.put p3 fun t ht => (hd t ht).2) ?_
        rw [Array.setIfInBounds_comm _ _ hji]
        exact AAny.eqv _ _ _ _ _ (Eqv.comm env v x p2) hx
      refine ⟨oj, hoj, hd, ?_⟩
      rcases h2 with ⟨k1, V, k2, k3⟩ | ⟨k1, k2⟩
      · exact .inl ⟨k1.put p1, V, by rw [renv_put ops oj env oi.dst v p1 fun t ht => (hdi t ht).2] at k2; exact k2, fun x H' hx => step x H' (k3 x H' hx)⟩
      · exact .inr ⟨k1.put p1, step _ _ k2⟩

def ancB (ops : Array Oper) (listed : Array Bool) (i : Nat) : Nat → List Nat → Bool
  | m, [] => m == i
  | m, x :: l => !(listed.getD m true) && (match ops[m]? with
      | some om => om.after.toList.any fun e => Region.binds .any e && e.on == x
      | none => false) && ancB ops listed i x l
theorem ancB_spec {listed : Array Bool} {i : Nat} : ∀ (l : List Nat) (m : Nat), ancB ops listed i m l = true → Anc ops listed i m
  | [], m, h => by simp only [ancB, beq_iff_eq] at h; subst h; exact .here
  | x :: l, m, h => by
    simp only [ancB, Bool.and_eq_true, Bool.not_eq_true'] at h
    obtain ⟨⟨h1, h2⟩, h3⟩ := h
    cases hm : ops[m]? with
    | none => rw [hm] at h2; cases h2
    | some om =>
      rw [hm] at h2
      simp only [List.any_eq_true, Bool.and_eq_true, beq_iff_eq] at h2
      obtain ⟨e, he, hb, ho⟩ := h2
      subst ho
      exact .step h1 hm (by simpa using he) hb (ancB_spec l _ h3)
def firstB2 (ops : Array Oper) (listed : Array Bool) (a : Nat) (l : List Nat) (i : Nat) : Bool :=
  (Region.ready .any ops listed).contains i && Region.free .any ops listed i && decide (listed.size = ops.size) &&
    (i != a && !(listed.getD a true) && ancB ops listed i a l)
theorem aqpz {fuel : Nat} {listed : Array Bool} {env : Env} {H H0 : Heap} {v : AV} {d a : Nat} {L0 : Heap} (l : List Nat) (i : Nat) (hi : ops[i]? = some ⟨some d, op, ty, pos, after, none⟩) (hB : firstB2 ops listed a l i = true) (hd : DN d N) (h1 : ∀ G, V1 P N op ty (renv ⟨some d, op, ty, pos, after, none⟩ env) (H0 ++ (L0 ++ G)) v)
    (h : AAny P N B ops (some a) (Pre H0 L0) F fuel (listed.setIfInBounds i true) ((d, v) :: env) H) : AAny P N B ops (some a) (Pre H0 L0) F (fuel + 1) listed env H := by
  simp only [firstB2, Bool.and_eq_true, decide_eq_true_eq, bne_iff_ne, Bool.not_eq_true'] at hB
  obtain ⟨⟨⟨h2, h3⟩, h5⟩, ⟨h6, h7⟩, h8⟩ := hB
  refine aa_first_aux2 hi (by rintro _ ⟨⟩; exact hd) (fun e => h6 (Option.some.inj e).symm) fuel listed env H ?_ h5 (Region.free_spec hi h3) (by simpa using h2) h7 (.inl ⟨rfl, by rintro H ⟨G, rfl⟩; exact (h1 G).toV2 _ _ _ _⟩) h
  intro a' ha oa hoa
  obtain rfl := Option.some.inj ha
  cases ancB_spec _ _ h8 with
  | here => exact absurd rfl h6
  | step h9 h10 h11 h12 h13 =>
    rw [hoa] at h10
    obtain rfl := Option.some.inj h10
    exact ⟨_, h11, h12, h13⟩
end
end Go.Av

namespace Go.Av
open Go.Proofs
set_option maxRecDepth 10000
set_option linter.unusedSimpArgs false
set_option linter.unusedVariables false

def lend (l : Loan) (n : Note) (now : Int) : Loan × Note × Int :=
  if (lright l && tm now && lmay n) = false then (l, noNote, 1)
  else if l.til ≤ now then (l, noNote, 8)
  else if n.kind = 1 then (if 0 < (setop (fun x y => x && y) l.things n.things).length then (l, noNote, 7) else (⟨setop (fun x y => x || y) l.things n.things, l.asked, l.til⟩, n, 0))
  else if n.kind = 2 then (if 0 < (setop (fun x y => x && !y) n.things l.things).length then (l, noNote, 6) else if 0 < (setop (fun x y => x && y) n.things l.asked).length then (l, noNote, 7) else (⟨l.things, setop (fun x y => x || y) l.asked n.things, l.til⟩, n, 0))
  else (if n.til ≤ l.til then (l, noNote, 6) else (⟨l.things, l.asked, n.til⟩, n, 0))
theorem lend_open {l : Loan} {n : Note} {now : Int} (h : lopen l now (lmay n) ≠ 0) : lend l n now = (l, noNote, lopen l now (lmay n)) := by
  unfold lopen at h ⊢
  unfold lend
  split
  · rfl
  · rename_i h1
    rw [if_neg h1] at h
    split
    · rfl
    · rename_i h2; rw [if_neg h2] at h; exact absurd rfl h
theorem lopen_ok {l : Loan} {now : Int} {f : Bool} (h : lopen l now f = 0) : lright l = true ∧ tm now = true ∧ f = true ∧ ¬ l.til ≤ now := by
  unfold lopen at h
  split at h
  · cases h
  · rename_i h1
    split at h
    · cases h
    · rename_i h2
      have : (lright l && tm now && f) = true := by
        cases h : (lright l && tm now && f) with
        | false => exact absurd h h1
        | true => rfl
      rw [Bool.and_eq_true, Bool.and_eq_true] at this
      exact ⟨this.1.1, this.1.2, this.2, h2⟩
theorem lend_ok {l : Loan} {n : Note} {now : Int} (h : lopen l now (lmay n) = 0) : lend l n now = if n.kind = 1 then (if 0 < (setop (fun x y => x && y) l.things n.things).length then (l, noNote, 7) else (⟨setop (fun x y => x || y) l.things n.things, l.asked, l.til⟩, n, 0))
  else if n.kind = 2 then (if 0 < (setop (fun x y => x && !y) n.things l.things).length then (l, noNote, 6) else if 0 < (setop (fun x y => x && y) n.things l.asked).length then (l, noNote, 7) else (⟨l.things, setop (fun x y => x || y) l.asked n.things, l.til⟩, n, 0))
  else (if n.til ≤ l.til then (l, noNote, 6) else (⟨l.things, l.asked, n.til⟩, n, 0)) := by
  obtain ⟨h1, h2, h3, h4⟩ := lopen_ok h
  rw [lend, if_neg (by simp [h1, h2, h3]), if_neg h4]
theorem lend_past {l : Loan} {n : Note} {now : Int} (h1 : ¬ (lright l && tm now && lmay n) = false) (h2 : ¬ l.til ≤ now) : lend l n now = if n.kind = 1 then (if 0 < (setop (fun x y => x && y) l.things n.things).length then (l, noNote, 7) else (⟨setop (fun x y => x || y) l.things n.things, l.asked, l.til⟩, n, 0))
  else if n.kind = 2 then (if 0 < (setop (fun x y => x && !y) n.things l.things).length then (l, noNote, 6) else if 0 < (setop (fun x y => x && y) n.things l.asked).length then (l, noNote, 7) else (⟨l.things, setop (fun x y => x || y) l.asked n.things, l.til⟩, n, 0))
  else (if n.til ≤ l.til then (l, noNote, 6) else (⟨l.things, l.asked, n.til⟩, n, 0)) := by
  rw [lend, if_neg h1, if_neg h2]
theorem lmay1 (t : List Int) : lmay ⟨1, t, 0⟩ = (decide (0 < t.length) && sok t) := by simp [lmay]
theorem lmay2 (t : List Int) : lmay ⟨2, t, 0⟩ = (decide (0 < t.length) && sok t) := by simp [lmay]
theorem lmay4 (u : Int) : lmay ⟨4, [], u⟩ = tm u := by simp [lmay]
theorem sapart_op {a b : List Int} (ha : sok a = true) (hb : sok b = true) : sapart a b = decide ((setop (fun x y => x && y) a b).length = 0) := by
  simp [sapart, setop, ha, hb, List.length_eq_zero_iff]
theorem spart_op {a b : List Int} (ha : sok a = true) (hb : sok b = true) : spart a b = decide ((setop (fun x y => x && !y) a b).length = 0) := by
  simp [spart, setop, ha, hb, List.length_eq_zero_iff]
theorem lright_sok {l : Loan} (h : lright l = true) : sok l.things = true ∧ sok l.asked = true := by
  rw [lright_ref] at h; simp at h; exact ⟨h.1.1.1, h.1.1.2⟩
set_option maxHeartbeats 0 in
theorem lease_Give (l : Loan) (hl : Small l) (things : List Int) (hn : things.length ≤ 1000000) (now : Int) (H : Heap) : ACT Tryd.prog KD 16 [.agg (eLoan l), .pl (things.map eInt), .int .i64 now] H (Ret (.tup [.agg (eLoan (lend l ⟨1, things, 0⟩ now).1), .agg (eNote (lend l ⟨1, things, 0⟩ now).2.1), .int .i64 (lend l ⟨1, things, 0⟩ now).2.2]) H) := by
  have hopen := @lend_open l ⟨1, things, 0⟩ now
  have hdone := @lend_ok l ⟨1, things, 0⟩ now
  have hlo := fun h => @lopen_ok l now (decide (0 < things.length) && sok things) h
  rw [lmay1] at hopen hdone
  have co := fun H => lease_open l hl now (decide (0 < things.length) && sok things) H
  generalize lopen l now (decide (0 < things.length) && sok things) = e at hopen hdone hlo co
  refine ACT.body (N := 40) [.cell 6 24, .cell 7 26, .tmp 8] Tryd.func16 rfl rfl rfl (Nat.le_of_ble_eq_true rfl) fun B hB => ?_
  repeat (refine aw_seq ?_)
  refine aw_region ?_
  refine ao2 (by rintro _ ⟨⟩; decide) (o_boxL (sz := 3) (v := .agg _) rfl rfl rfl rfl (by decide) rfl) ?_
  refine ao2 (by rintro _ ⟨⟩; decide) (o_allocL (sz := 3) rfl (by decide) rfl) ?_
  refine ao2 (by rintro _ ⟨⟩; decide) (o_allocL (sz := 3) rfl (by decide) rfl) ?_
  refine ao1 (by decide) (o_assign (v := .int _ _) rfl) ?_
  refine ao_nil ?_
  try dsimp only [List.length_nil, put, AV.cells, List.nil_append, List.length_cons, Nat.reduceAdd, List.cons_append]
  repeat (first | refine then_nrm ?_ | refine aw_seq ?_)
  refine aw_region ?_
  refine ao1 (by decide) (w_loadR rfl (lk rfl rfl) rfl rfl rfl) ?_
  refine ao_ret (lease_copied l hl _) rfl (by decide) ?_
  refine ao2 (by rintro _ ⟨⟩) (w_storeW (sz := 3) rfl rfl rfl rfl rfl rfl rfl rfl (Nat.le_of_ble_eq_true rfl)) ?_
  refine ao_nil ?_
  try dsimp only [put, List.set_cons_zero]
  repeat (first | refine then_nrm ?_ | refine aw_seq ?_)
  refine aw_drawP mixed none 999 ?_
  try dsimp only [List.take_succ_cons]
  refine aqp 0 rfl (by decide +kernel) (by decide) (fun G => w_loadR rfl (lk rfl rfl) rfl rfl rfl) ?_
  refine aq0 1 rfl (by decide +kernel) (by decide) (fun _ => o_move (v := .int _ _) rfl) ?_
  refine aq0 2 rfl (by decide +kernel) (by decide) (fun _ => o_move (v := .pl _) rfl) ?_
  refine aq02 3 rfl (by decide +kernel) (by decide) (fun _ => V2.call (lease_some things hn _) rfl) ?_
  refine aq02 4 rfl (by decide +kernel) (by decide) (fun _ => V2.call (co _) rfl) ?_
  refine aq0 5 rfl (by decide +kernel) (by decide) (fun _ => o_assign (v := .int _ _) rfl) ?_
  refine aa_done (by decide +kernel) (by exact fun _ => ⟨_, rfl⟩) ?_
  repeat (first | refine then_nrm ?_ | refine aw_seq ?_)
  refine aw_out 25 (.bool (decide (e = 0) && !sapart l.things things)) ?_ ?_
  · refine ao1 (by decide) (o_move (v := .int _ _) rfl) ?_
    refine ao1 (by decide) (o_eq rfl rfl) ?_
    refine ao1 (by decide) (o_move (v := .bool _) rfl) ?_
    refine ao_split rfl rfl (fun hg2 => ?_) (fun hg2 => ?_)
    · refine ao_y1 rfl rfl (by decide) (w_fieldAddr rfl (lk rfl rfl) rfl (by decide)) ?_
      refine ao_y1 rfl rfl (by decide) (w_load1 (v := .pl _) rfl (lk rfl rfl) rfl rfl rfl) ?_
      refine ao_y1 rfl rfl (by decide) (o_move (v := .pl _) rfl) ?_
      refine ao_y rfl rfl (by decide) (V2.call (set_Apart l.things things hl.1 hn _) rfl) ?_
      refine ao_y1 rfl rfl (by decide) (o_not rfl) ?_
      refine ao1 (by decide) (o_pick_t (v := .bool _) rfl rfl) ?_
      exact ao_nil (Out.mk (by (refine congrArg AV.bool ?_; (clear hopen hdone hlo co; (simp_all; done)))) (by repeat (first | exact SubX.refl _ _ | refine SubX.at ?_ | refine SubX.put rfl ?_)))
    · refine ao_nT rfl rfl (by decide) ?_
      refine ao_nT rfl rfl (by decide) ?_
      refine ao_nT rfl rfl (by decide) ?_
      refine ao_nT rfl rfl (by decide) ?_
      refine ao_nT rfl rfl (by decide) ?_
      refine ao1 (by decide) (o_pick_f (v := .bool _) rfl rfl) ?_
      exact ao_nil (Out.mk (by (refine congrArg AV.bool ?_; (clear hopen hdone hlo co; (simp_all; done)))) (by repeat (first | exact SubX.refl _ _ | refine SubX.at ?_ | refine SubX.put rfl ?_)))
  repeat (refine then_nrm ?_)
  refine aw_cond rfl (fun hc => ?_) (fun hc => ?_)
  · have h2 : e = 0 ∧ sapart l.things things = false := by simpa using hc
    obtain ⟨hr, _, hf, _⟩ := hlo h2.1
    simp at hf
    have hap := h2.2
    rw [sapart_op (lright_sok hr).1 hf.2] at hap
    rw [show lend l ⟨1, things, 0⟩ now = (l, noNote, 7) by rw [hdone h2.1, if_pos rfl, if_pos (by have := of_decide_eq_false hap; show 0 < (setop _ l.things things).length; omega)]]
    refine aw_region ?_
    refine ao1 (by decide) (o_assign (v := .int _ _) rfl) ?_
    refine ao_nil ?_
    try dsimp only
    repeat (first | refine then_nrm ?_ | refine aw_seq ?_)
    refine aw_region ?_
    refine ao1 (by decide) (o_move (v := .int _ _) rfl) ?_
    refine ao1 (by decide) (o_ne rfl rfl) ?_
    refine ao_nil ?_
    repeat (refine then_nrm ?_)
    refine aw_cond rfl (fun hc => ?_) (fun hc => ?_)
    · repeat (refine aw_seq ?_)
      refine aw_region ?_
      refine ao1 (by decide) (w_loadR rfl (lk rfl rfl) rfl rfl rfl) ?_
      refine ao1 (by decide) (V1.up (o_build (cs := [.int _ _, _, .int _ _]) rfl)) ?_
      refine ao1 (by decide) (o_move (v := .int _ _) rfl) ?_
      refine ao2 (by rintro _ ⟨⟩) (w_storeW (sz := 3) rfl rfl rfl rfl rfl rfl rfl rfl (Nat.le_of_ble_eq_true rfl)) ?_
      refine ao2 (by rintro _ ⟨⟩) (w_storeW (sz := 3) rfl rfl rfl rfl rfl rfl rfl rfl (Nat.le_of_ble_eq_true rfl)) ?_
      refine ao1 (by decide) (o_assign (v := .int _ _) rfl) ?_
      refine ao_nil ?_
      try dsimp only [AV.up, put, List.set_cons_zero, List.set_cons_succ]
      repeat (first | refine then_nrm ?_ | refine then_ret ?_ | refine aw_ret ?_)
      exact e_done hB (r_cellR rfl (lk rfl rfl) rfl rfl rfl (r_cellR rfl (lk rfl rfl) rfl rfl rfl (r_tmp rfl .nil))) rfl rfl
    · simp at hc
  · have h2 : e = 0 → sapart l.things things = true := by intro h; rw [h] at hc; simpa using hc
    repeat (first | refine then_nrm ?_ | refine aw_seq ?_ | refine aw_skip ?_)
    refine aw_region ?_
    refine ao1 (by decide) (o_move (v := .int _ _) rfl) ?_
    refine ao1 (by decide) (o_ne rfl rfl) ?_
    refine ao_nil ?_
    repeat (refine then_nrm ?_)
    refine aw_cond rfl (fun hc => ?_) (fun hc => ?_)
    · have h3 : e ≠ 0 := by simpa using hc
      rw [hopen h3]
      repeat (refine aw_seq ?_)
      refine aw_region ?_
      refine ao1 (by decide) (w_loadR rfl (lk rfl rfl) rfl rfl rfl) ?_
      refine ao1 (by decide) (V1.up (o_build (cs := [.int _ _, _, .int _ _]) rfl)) ?_
      refine ao1 (by decide) (o_move (v := .int _ _) rfl) ?_
      refine ao2 (by rintro _ ⟨⟩) (w_storeW (sz := 3) rfl rfl rfl rfl rfl rfl rfl rfl (Nat.le_of_ble_eq_true rfl)) ?_
      refine ao2 (by rintro _ ⟨⟩) (w_storeW (sz := 3) rfl rfl rfl rfl rfl rfl rfl rfl (Nat.le_of_ble_eq_true rfl)) ?_
      refine ao1 (by decide) (o_assign (v := .int _ _) rfl) ?_
      refine ao_nil ?_
      try dsimp only [AV.up, put, List.set_cons_zero, List.set_cons_succ]
      repeat (first | refine then_nrm ?_ | refine then_ret ?_ | refine aw_ret ?_)
      exact e_done hB (r_cellR rfl (lk rfl rfl) rfl rfl rfl (r_cellR rfl (lk rfl rfl) rfl rfl rfl (r_tmp rfl .nil))) rfl rfl
    · have h3 : e = 0 := by simpa using hc
      obtain ⟨hr, _, hf, _⟩ := hlo h3
      simp at hf
      have hap := h2 h3
      rw [sapart_op (lright_sok hr).1 hf.2] at hap
      rw [show lend l ⟨1, things, 0⟩ now = (⟨setop (fun x y => x || y) l.things things, l.asked, l.til⟩, ⟨1, things, 0⟩, 0) by rw [hdone h3, if_pos rfl, if_neg (by have := of_decide_eq_true hap; show ¬ 0 < (setop _ l.things things).length; omega)]]
      repeat (first | refine then_nrm ?_ | refine aw_seq ?_ | refine aw_skip ?_)
      refine aw_region ?_
      refine ao1 (by decide) (w_fieldAddr rfl (lk rfl rfl) rfl (by decide)) ?_
      refine ao1 (by decide) (w_load1 (v := .pl _) rfl (lk rfl rfl) rfl rfl rfl) ?_
      refine ao1 (by decide) (o_move (v := .pl _) rfl) ?_
      refine ao2 (by rintro _ ⟨⟩; decide) (V2.callT (set_Join l.things things hl.1 hn _) rfl rfl) ?_
      refine ao1 (by decide) (w_fieldAddr rfl (lk rfl rfl) rfl (by decide)) ?_
      refine ao2 (by rintro _ ⟨⟩) (w_storeP (sz := 1) (v := .pl _) (r' := [_, _, _]) rfl rfl rfl rfl rfl rfl rfl rfl (Nat.le_of_ble_eq_true rfl) rfl) ?_
      refine ao_nil ?_
      try dsimp only [put, Nat.reduceAdd, List.set_cons_zero]
      repeat (first | refine then_nrm ?_ | refine aw_seq ?_)
      refine aw_drawP mixed none 1 ?_
      try dsimp only [List.take_succ_cons, List.take_zero]
      refine aqp 0 rfl (by decide +kernel) (by decide) (fun G => w_loadR rfl (lk rfl rfl) rfl rfl rfl) ?_
      refine aq0 1 rfl (by decide +kernel) (by decide) (fun _ => o_move (v := .pl _) rfl) ?_
      refine aq02 2 rfl (by decide +kernel) (by decide) (fun _ => V2.call (slices_CloneI things _ hn) rfl) ?_
      refine aq0 3 rfl (by decide +kernel) (by decide) (fun _ => V1.up (o_build (cs := [.int _ _, _, .int _ _]) rfl)) ?_
      refine aqs 4 rfl (by decide +kernel) (by exact fun _ => ⟨_, rfl⟩) (by rintro _ ⟨⟩) (w_storeW (sz := 3) rfl rfl rfl rfl rfl rfl rfl rfl (Nat.le_of_ble_eq_true rfl)) ?_
      refine aqs 5 rfl (by decide +kernel) (by exact fun _ => ⟨_, rfl⟩) (by rintro _ ⟨⟩) (w_storeW (sz := 3) rfl rfl rfl rfl rfl rfl rfl rfl (Nat.le_of_ble_eq_true rfl)) ?_
      refine aq0 6 rfl (by decide +kernel) (by decide) (fun _ => o_assign (v := .int _ _) rfl) ?_
      refine aa_done (by decide +kernel) (by exact fun _ => ⟨_, rfl⟩) ?_
      try dsimp only [AV.up, put, List.set_cons_zero, List.set_cons_succ]
      all_goals
        repeat (first | refine then_nrm ?_ | refine aw_ret ?_)
        exact e_done hB (r_cellR rfl (lk rfl rfl) rfl rfl rfl (r_cellR rfl (lk rfl rfl) rfl rfl rfl (r_tmp rfl .nil))) rfl rfl
set_option maxHeartbeats 0 in
theorem lease_Ask (l : Loan) (hl : Small l) (things : List Int) (hn : things.length ≤ 1000000) (now : Int) (H : Heap) : ACT Tryd.prog KD 17 [.agg (eLoan l), .pl (things.map eInt), .int .i64 now] H (Ret (.tup [.agg (eLoan (lend l ⟨2, things, 0⟩ now).1), .agg (eNote (lend l ⟨2, things, 0⟩ now).2.1), .int .i64 (lend l ⟨2, things, 0⟩ now).2.2]) H) := by
  have hopen := @lend_open l ⟨2, things, 0⟩ now
  have hdone := @lend_ok l ⟨2, things, 0⟩ now
  have hlo := fun h => @lopen_ok l now (decide (0 < things.length) && sok things) h
  rw [lmay2] at hopen hdone
  have co := fun H => lease_open l hl now (decide (0 < things.length) && sok things) H
  generalize lopen l now (decide (0 < things.length) && sok things) = e at hopen hdone hlo co
  refine ACT.body (N := 51) [.cell 6 24, .cell 7 26, .tmp 8] Tryd.func17 rfl rfl rfl (Nat.le_of_ble_eq_true rfl) fun B hB => ?_
  repeat (refine aw_seq ?_)
  refine aw_region ?_
  refine ao2 (by rintro _ ⟨⟩; decide) (o_boxL (sz := 3) (v := .agg _) rfl rfl rfl rfl (by decide) rfl) ?_
  refine ao2 (by rintro _ ⟨⟩; decide) (o_allocL (sz := 3) rfl (by decide) rfl) ?_
  refine ao2 (by rintro _ ⟨⟩; decide) (o_allocL (sz := 3) rfl (by decide) rfl) ?_
  refine ao1 (by decide) (o_assign (v := .int _ _) rfl) ?_
  refine ao_nil ?_
  try dsimp only [List.length_nil, put, AV.cells, List.nil_append, List.length_cons, Nat.reduceAdd, List.cons_append]
  repeat (first | refine then_nrm ?_ | refine aw_seq ?_)
  refine aw_region ?_
  refine ao1 (by decide) (w_loadR rfl (lk rfl rfl) rfl rfl rfl) ?_
  refine ao_ret (lease_copied l hl _) rfl (by decide) ?_
  refine ao2 (by rintro _ ⟨⟩) (w_storeW (sz := 3) rfl rfl rfl rfl rfl rfl rfl rfl (Nat.le_of_ble_eq_true rfl)) ?_
  refine ao_nil ?_
  try dsimp only [put, List.set_cons_zero]
  repeat (first | refine then_nrm ?_ | refine aw_seq ?_)
  refine aw_drawP mixed none 999 ?_
  try dsimp only [List.take_succ_cons]
  refine aqp 0 rfl (by decide +kernel) (by decide) (fun G => w_loadR rfl (lk rfl rfl) rfl rfl rfl) ?_
  refine aq0 1 rfl (by decide +kernel) (by decide) (fun _ => o_move (v := .int _ _) rfl) ?_
  refine aq0 2 rfl (by decide +kernel) (by decide) (fun _ => o_move (v := .pl _) rfl) ?_
  refine aq02 3 rfl (by decide +kernel) (by decide) (fun _ => V2.call (lease_some things hn _) rfl) ?_
  refine aq02 4 rfl (by decide +kernel) (by decide) (fun _ => V2.call (co _) rfl) ?_
  refine aq0 5 rfl (by decide +kernel) (by decide) (fun _ => o_assign (v := .int _ _) rfl) ?_
  refine aa_done (by decide +kernel) (by exact fun _ => ⟨_, rfl⟩) ?_
  repeat (first | refine then_nrm ?_ | refine aw_seq ?_ | refine aw_block ?_)
  refine aw_out 17 (.bool (decide (e = 0) && !spart things l.things)) ?_ ?_
  · refine ao1 (by decide) (o_move (v := .int _ _) rfl) ?_
    refine ao1 (by decide) (o_eq rfl rfl) ?_
    refine ao1 (by decide) (o_move (v := .bool _) rfl) ?_
    refine ao_split rfl rfl (fun hg2 => ?_) (fun hg2 => ?_)
    · refine ao_y1 rfl rfl (by decide) (o_move (v := .pl _) rfl) ?_
      refine ao_y1 rfl rfl (by decide) (w_fieldAddr rfl (lk rfl rfl) rfl (by decide)) ?_
      refine ao_y1 rfl rfl (by decide) (w_load1 (v := .pl _) rfl (lk rfl rfl) rfl rfl rfl) ?_
      refine ao_y rfl rfl (by decide) (V2.call (set_Part things l.things hn hl.1 _) rfl) ?_
      refine ao_y1 rfl rfl (by decide) (o_not rfl) ?_
      refine ao1 (by decide) (o_pick_t (v := .bool _) rfl rfl) ?_
      refine ao1 (by decide) (o_assign (v := .bool _) rfl) ?_
      exact ao_nil (Out.mk (by (refine congrArg AV.bool ?_; (clear hopen hdone hlo co; (simp_all; done)))) (by repeat (first | exact SubX.refl _ _ | refine SubX.at ?_ | refine SubX.put rfl ?_)))
    · refine ao_nT rfl rfl (by decide) ?_
      refine ao_nT rfl rfl (by decide) ?_
      refine ao_nT rfl rfl (by decide) ?_
      refine ao_nT rfl rfl (by decide) ?_
      refine ao_nT rfl rfl (by decide) ?_
      refine ao1 (by decide) (o_pick_f (v := .bool _) rfl rfl) ?_
      refine ao1 (by decide) (o_assign (v := .bool _) rfl) ?_
      exact ao_nil (Out.mk (by (refine congrArg AV.bool ?_; (clear hopen hdone hlo co; (simp_all; done)))) (by repeat (first | exact SubX.refl _ _ | refine SubX.at ?_ | refine SubX.put rfl ?_)))
  repeat (refine then_nrm ?_)
  refine aw_cond rfl (fun hc => ?_) (fun hc => ?_)
  · have h2 : e = 0 ∧ spart things l.things = false := by simpa using hc
    obtain ⟨hr, _, hf, _⟩ := hlo h2.1
    simp at hf
    have hap := h2.2
    rw [spart_op hf.2 (lright_sok hr).1] at hap
    rw [show lend l ⟨2, things, 0⟩ now = (l, noNote, 6) by rw [hdone h2.1, if_neg (by simp), if_pos rfl, if_pos (by have := of_decide_eq_false hap; show 0 < (setop _ things l.things).length; omega)]]
    refine aw_region ?_
    refine ao1 (by decide) (o_assign (v := .int _ _) rfl) ?_
    refine ao_nil ?_
    try dsimp only
    repeat (first | refine then_nrm ?_ | refine blk_nrm ?_ | refine aw_seq ?_)
    refine aw_region ?_
    refine ao1 (by decide) (o_move (v := .int _ _) rfl) ?_
    refine ao1 (by decide) (o_ne rfl rfl) ?_
    refine ao_nil ?_
    repeat (refine then_nrm ?_)
    refine aw_cond rfl (fun hc => ?_) (fun hc => ?_)
    · repeat (refine aw_seq ?_)
      refine aw_region ?_
      refine ao1 (by decide) (w_loadR rfl (lk rfl rfl) rfl rfl rfl) ?_
      refine ao1 (by decide) (V1.up (o_build (cs := [.int _ _, _, .int _ _]) rfl)) ?_
      refine ao1 (by decide) (o_move (v := .int _ _) rfl) ?_
      refine ao2 (by rintro _ ⟨⟩) (w_storeW (sz := 3) rfl rfl rfl rfl rfl rfl rfl rfl (Nat.le_of_ble_eq_true rfl)) ?_
      refine ao2 (by rintro _ ⟨⟩) (w_storeW (sz := 3) rfl rfl rfl rfl rfl rfl rfl rfl (Nat.le_of_ble_eq_true rfl)) ?_
      refine ao1 (by decide) (o_assign (v := .int _ _) rfl) ?_
      refine ao_nil ?_
      try dsimp only [AV.up, put, List.set_cons_zero, List.set_cons_succ]
      repeat (first | refine then_nrm ?_ | refine then_ret ?_ | refine aw_ret ?_)
      exact e_done hB (r_cellR rfl (lk rfl rfl) rfl rfl rfl (r_cellR rfl (lk rfl rfl) rfl rfl rfl (r_tmp rfl .nil))) rfl rfl
    · simp at hc
  · have h1 : e = 0 → spart things l.things = true := by intro h; rw [h] at hc; simpa using hc
    repeat (refine aw_seq ?_)
    refine aw_out 27 (.bool (decide (e = 0) && !sapart things l.asked)) ?_ ?_
    · refine ao1 (by decide) (o_move (v := .int _ _) rfl) ?_
      refine ao1 (by decide) (o_eq rfl rfl) ?_
      refine ao1 (by decide) (o_move (v := .bool _) rfl) ?_
      refine ao_split rfl rfl (fun hg2 => ?_) (fun hg2 => ?_)
      · refine ao_y1 rfl rfl (by decide) (o_move (v := .pl _) rfl) ?_
        refine ao_y1 rfl rfl (by decide) (w_fieldAddr rfl (lk rfl rfl) rfl (by decide)) ?_
        refine ao_y1 rfl rfl (by decide) (w_load1 (v := .pl _) rfl (lk rfl rfl) rfl rfl rfl) ?_
        refine ao_y rfl rfl (by decide) (V2.call (set_Apart things l.asked hn hl.2 _) rfl) ?_
        refine ao_y1 rfl rfl (by decide) (o_not rfl) ?_
        refine ao1 (by decide) (o_pick_t (v := .bool _) rfl rfl) ?_
        refine ao1 (by decide) (o_assign (v := .bool _) rfl) ?_
        exact ao_nil (Out.mk (by (refine congrArg AV.bool ?_; (clear hopen hdone hlo co; (simp_all; done)))) (by repeat (first | exact SubX.refl _ _ | refine SubX.at ?_ | refine SubX.put rfl ?_)))
      · refine ao_nT rfl rfl (by decide) ?_
        refine ao_nT rfl rfl (by decide) ?_
        refine ao_nT rfl rfl (by decide) ?_
        refine ao_nT rfl rfl (by decide) ?_
        refine ao_nT rfl rfl (by decide) ?_
        refine ao1 (by decide) (o_pick_f (v := .bool _) rfl rfl) ?_
        refine ao1 (by decide) (o_assign (v := .bool _) rfl) ?_
        exact ao_nil (Out.mk (by (refine congrArg AV.bool ?_; (clear hopen hdone hlo co; (simp_all; done)))) (by repeat (first | exact SubX.refl _ _ | refine SubX.at ?_ | refine SubX.put rfl ?_)))
    repeat (refine then_nrm ?_)
    refine aw_cond rfl (fun hc => ?_) (fun hc => ?_)
    · have h2 : e = 0 ∧ sapart things l.asked = false := by simpa using hc
      obtain ⟨hr, _, hf, _⟩ := hlo h2.1
      simp at hf
      have hap := h2.2
      have hp := h1 h2.1
      rw [sapart_op hf.2 (lright_sok hr).2] at hap
      rw [spart_op hf.2 (lright_sok hr).1] at hp
      rw [show lend l ⟨2, things, 0⟩ now = (l, noNote, 7) by rw [hdone h2.1, if_neg (by simp), if_pos rfl, if_neg (by have := of_decide_eq_true hp; show ¬ 0 < (setop _ things l.things).length; omega), if_pos (by have := of_decide_eq_false hap; show 0 < (setop _ things l.asked).length; omega)]]
      refine aw_region ?_
      refine ao1 (by decide) (o_assign (v := .int _ _) rfl) ?_
      refine ao_nil ?_
      try dsimp only
      repeat (first | refine then_nrm ?_ | refine blk_nrm ?_ | refine aw_seq ?_)
      refine aw_region ?_
      refine ao1 (by decide) (o_move (v := .int _ _) rfl) ?_
      refine ao1 (by decide) (o_ne rfl rfl) ?_
      refine ao_nil ?_
      repeat (refine then_nrm ?_)
      refine aw_cond rfl (fun hc => ?_) (fun hc => ?_)
      · repeat (refine aw_seq ?_)
        refine aw_region ?_
        refine ao1 (by decide) (w_loadR rfl (lk rfl rfl) rfl rfl rfl) ?_
        refine ao1 (by decide) (V1.up (o_build (cs := [.int _ _, _, .int _ _]) rfl)) ?_
        refine ao1 (by decide) (o_move (v := .int _ _) rfl) ?_
        refine ao2 (by rintro _ ⟨⟩) (w_storeW (sz := 3) rfl rfl rfl rfl rfl rfl rfl rfl (Nat.le_of_ble_eq_true rfl)) ?_
        refine ao2 (by rintro _ ⟨⟩) (w_storeW (sz := 3) rfl rfl rfl rfl rfl rfl rfl rfl (Nat.le_of_ble_eq_true rfl)) ?_
        refine ao1 (by decide) (o_assign (v := .int _ _) rfl) ?_
        refine ao_nil ?_
        try dsimp only [AV.up, put, List.set_cons_zero, List.set_cons_succ]
        repeat (first | refine then_nrm ?_ | refine then_ret ?_ | refine aw_ret ?_)
        exact e_done hB (r_cellR rfl (lk rfl rfl) rfl rfl rfl (r_cellR rfl (lk rfl rfl) rfl rfl rfl (r_tmp rfl .nil))) rfl rfl
      · simp at hc
    · have h2 : e = 0 → sapart things l.asked = true := by intro h; rw [h] at hc; simpa using hc
      repeat (first | refine then_nrm ?_ | refine blk_nrm ?_ | refine aw_seq ?_ | refine aw_skip ?_)
      refine aw_region ?_
      refine ao1 (by decide) (o_move (v := .int _ _) rfl) ?_
      refine ao1 (by decide) (o_ne rfl rfl) ?_
      refine ao_nil ?_
      repeat (refine then_nrm ?_)
      refine aw_cond rfl (fun hc => ?_) (fun hc => ?_)
      · have h3 : e ≠ 0 := by simpa using hc
        rw [hopen h3]
        repeat (refine aw_seq ?_)
        refine aw_region ?_
        refine ao1 (by decide) (w_loadR rfl (lk rfl rfl) rfl rfl rfl) ?_
        refine ao1 (by decide) (V1.up (o_build (cs := [.int _ _, _, .int _ _]) rfl)) ?_
        refine ao1 (by decide) (o_move (v := .int _ _) rfl) ?_
        refine ao2 (by rintro _ ⟨⟩) (w_storeW (sz := 3) rfl rfl rfl rfl rfl rfl rfl rfl (Nat.le_of_ble_eq_true rfl)) ?_
        refine ao2 (by rintro _ ⟨⟩) (w_storeW (sz := 3) rfl rfl rfl rfl rfl rfl rfl rfl (Nat.le_of_ble_eq_true rfl)) ?_
        refine ao1 (by decide) (o_assign (v := .int _ _) rfl) ?_
        refine ao_nil ?_
        try dsimp only [AV.up, put, List.set_cons_zero, List.set_cons_succ]
        repeat (first | refine then_nrm ?_ | refine then_ret ?_ | refine aw_ret ?_)
        exact e_done hB (r_cellR rfl (lk rfl rfl) rfl rfl rfl (r_cellR rfl (lk rfl rfl) rfl rfl rfl (r_tmp rfl .nil))) rfl rfl
      · have h3 : e = 0 := by simpa using hc
        obtain ⟨hr, _, hf, _⟩ := hlo h3
        simp at hf
        have hap := h2 h3
        have hp := h1 h3
        rw [sapart_op hf.2 (lright_sok hr).2] at hap
        rw [spart_op hf.2 (lright_sok hr).1] at hp
        rw [show lend l ⟨2, things, 0⟩ now = (⟨l.things, setop (fun x y => x || y) l.asked things, l.til⟩, ⟨2, things, 0⟩, 0) by rw [hdone h3, if_neg (by simp), if_pos rfl, if_neg (by have := of_decide_eq_true hp; show ¬ 0 < (setop _ things l.things).length; omega), if_neg (by have := of_decide_eq_true hap; show ¬ 0 < (setop _ things l.asked).length; omega)]]
        repeat (first | refine then_nrm ?_ | refine aw_seq ?_ | refine aw_skip ?_)
        refine aw_region ?_
        refine ao1 (by decide) (w_fieldAddr rfl (lk rfl rfl) rfl (by decide)) ?_
        refine ao1 (by decide) (w_load1 (v := .pl _) rfl (lk rfl rfl) rfl rfl rfl) ?_
        refine ao1 (by decide) (o_move (v := .pl _) rfl) ?_
        refine ao2 (by rintro _ ⟨⟩; decide) (V2.callT (set_Join l.asked things hl.2 hn _) rfl rfl) ?_
        refine ao1 (by decide) (w_fieldAddr rfl (lk rfl rfl) rfl (by decide)) ?_
        refine ao2 (by rintro _ ⟨⟩) (w_storeP (sz := 1) (v := .pl _) (r' := [_, _, _]) rfl rfl rfl rfl rfl rfl rfl rfl (Nat.le_of_ble_eq_true rfl) rfl) ?_
        refine ao_nil ?_
        try dsimp only [put, Nat.reduceAdd, List.set_cons_zero]
        repeat (first | refine then_nrm ?_ | refine aw_seq ?_)
        refine aw_drawP mixed none 1 ?_
        try dsimp only [List.take_succ_cons, List.take_zero]
        refine aqp 0 rfl (by decide +kernel) (by decide) (fun G => w_loadR rfl (lk rfl rfl) rfl rfl rfl) ?_
        refine aq0 1 rfl (by decide +kernel) (by decide) (fun _ => o_move (v := .pl _) rfl) ?_
        refine aq02 2 rfl (by decide +kernel) (by decide) (fun _ => V2.call (slices_CloneI things _ hn) rfl) ?_
        refine aq0 3 rfl (by decide +kernel) (by decide) (fun _ => V1.up (o_build (cs := [.int _ _, _, .int _ _]) rfl)) ?_
        refine aqs 4 rfl (by decide +kernel) (by exact fun _ => ⟨_, rfl⟩) (by rintro _ ⟨⟩) (w_storeW (sz := 3) rfl rfl rfl rfl rfl rfl rfl rfl (Nat.le_of_ble_eq_true rfl)) ?_
        refine aqs 5 rfl (by decide +kernel) (by exact fun _ => ⟨_, rfl⟩) (by rintro _ ⟨⟩) (w_storeW (sz := 3) rfl rfl rfl rfl rfl rfl rfl rfl (Nat.le_of_ble_eq_true rfl)) ?_
        refine aq0 6 rfl (by decide +kernel) (by decide) (fun _ => o_assign (v := .int _ _) rfl) ?_
        refine aa_done (by decide +kernel) (by exact fun _ => ⟨_, rfl⟩) ?_
        try dsimp only [AV.up, put, List.set_cons_zero, List.set_cons_succ]
        all_goals
          repeat (first | refine then_nrm ?_ | refine aw_ret ?_)
          exact e_done hB (r_cellR rfl (lk rfl rfl) rfl rfl rfl (r_cellR rfl (lk rfl rfl) rfl rfl rfl (r_tmp rfl .nil))) rfl rfl
set_option maxHeartbeats 0 in
theorem lease_Till (l : Loan) (hl : Small l) (u now : Int) (H : Heap) : AC Tryd.prog 20 [.agg (eLoan l), .int .i64 u, .int .i64 now] H (Ret (.tup [.agg (eLoan (lend l ⟨4, [], u⟩ now).1), .agg (eNote (lend l ⟨4, [], u⟩ now).2.1), .int .i64 (lend l ⟨4, [], u⟩ now).2.2]) H) := by
  have hopen := @lend_open l ⟨4, [], u⟩ now
  have hdone := @lend_ok l ⟨4, [], u⟩ now
  rw [lmay4] at hopen hdone
  have co := fun H => lease_open l hl now (tm u) H
  generalize lopen l now (tm u) = e at hopen hdone co
  refine AC.body (N := 35) [.cell 6 24, .cell 7 26, .tmp 8] Tryd.func20 rfl rfl rfl (Nat.le_of_ble_eq_true rfl) fun B hB => ?_
  repeat (refine aw_seq ?_)
  refine aw_region ?_
  refine ao2 (by rintro _ ⟨⟩; decide) (o_boxL (sz := 3) (v := .agg _) rfl rfl rfl rfl (by decide) rfl) ?_
  refine ao2 (by rintro _ ⟨⟩; decide) (o_allocL (sz := 3) rfl (by decide) rfl) ?_
  refine ao2 (by rintro _ ⟨⟩; decide) (o_allocL (sz := 3) rfl (by decide) rfl) ?_
  refine ao1 (by decide) (o_assign (v := .int _ _) rfl) ?_
  refine ao_nil ?_
  try dsimp only [List.length_nil, put, AV.cells, List.nil_append, List.length_cons, Nat.reduceAdd, List.cons_append]
  repeat (first | refine then_nrm ?_ | refine aw_seq ?_)
  refine aw_region ?_
  refine ao1 (by decide) (w_loadR rfl (lk rfl rfl) rfl rfl rfl) ?_
  refine ao_ret (lease_copied l hl _) rfl (by decide) ?_
  refine ao2 (by rintro _ ⟨⟩) (w_storeW (sz := 3) rfl rfl rfl rfl rfl rfl rfl rfl (Nat.le_of_ble_eq_true rfl)) ?_
  refine ao_nil ?_
  try dsimp only [put, List.set_cons_zero]
  repeat (first | refine then_nrm ?_ | refine aw_seq ?_)
  refine aw_drawP mixed none 999 ?_
  try dsimp only [List.take_succ_cons]
  refine aqp 0 rfl (by decide +kernel) (by decide) (fun G => w_loadR rfl (lk rfl rfl) rfl rfl rfl) ?_
  refine aq0 1 rfl (by decide +kernel) (by decide) (fun _ => o_move (v := .int _ _) rfl) ?_
  refine aq0 2 rfl (by decide +kernel) (by decide) (fun _ => o_move (v := .int _ _) rfl) ?_
  refine aq02 3 rfl (by decide +kernel) (by decide) (fun _ => V2.call (when_RightT _ _) rfl) ?_
  refine aq02 4 rfl (by decide +kernel) (by decide) (fun _ => V2.call (co _) rfl) ?_
  refine aq0 5 rfl (by decide +kernel) (by decide) (fun _ => o_assign (v := .int _ _) rfl) ?_
  refine aa_done (by decide +kernel) (by exact fun _ => ⟨_, rfl⟩) ?_
  repeat (first | refine then_nrm ?_ | refine aw_seq ?_)
  refine aw_out 24 (.bool (decide (e = 0) && decide (u ≤ l.til))) ?_ ?_
  · refine ao1 (by decide) (o_move (v := .int _ _) rfl) ?_
    refine ao1 (by decide) (o_eq rfl rfl) ?_
    refine ao1 (by decide) (o_move (v := .bool _) rfl) ?_
    refine ao_split rfl rfl (fun hg2 => ?_) (fun hg2 => ?_)
    · refine ao_y1 rfl rfl (by decide) (o_move (v := .int _ _) rfl) ?_
      refine ao_y1 rfl rfl (by decide) (w_fieldAddr rfl (lk rfl rfl) rfl (by decide)) ?_
      refine ao_y1 rfl rfl (by decide) (w_load1 (v := .int _ _) rfl (lk rfl rfl) rfl rfl rfl) ?_
      refine ao_y1 rfl rfl (by decide) (o_le rfl rfl) ?_
      refine ao1 (by decide) (o_pick_t (v := .bool _) rfl rfl) ?_
      exact ao_nil (Out.mk (by (refine congrArg AV.bool ?_; (clear hopen hdone co; (simp_all; done)))) (by repeat (first | exact SubX.refl _ _ | refine SubX.at ?_ | refine SubX.put rfl ?_)))
    · refine ao_nT rfl rfl (by decide) ?_
      refine ao_nT rfl rfl (by decide) ?_
      refine ao_nT rfl rfl (by decide) ?_
      refine ao_nT rfl rfl (by decide) ?_
      refine ao1 (by decide) (o_pick_f (v := .bool _) rfl rfl) ?_
      exact ao_nil (Out.mk (by (refine congrArg AV.bool ?_; (clear hopen hdone co; (simp_all; done)))) (by repeat (first | exact SubX.refl _ _ | refine SubX.at ?_ | refine SubX.put rfl ?_)))
  repeat (refine then_nrm ?_)
  refine aw_cond rfl (fun hc => ?_) (fun hc => ?_)
  · have h2 : e = 0 ∧ u ≤ l.til := by simpa using hc
    rw [show lend l ⟨4, [], u⟩ now = (l, noNote, 6) by rw [hdone h2.1, if_neg (by simp), if_neg (by simp), if_pos h2.2]]
    refine aw_region ?_
    refine ao1 (by decide) (o_assign (v := .int _ _) rfl) ?_
    refine ao_nil ?_
    try dsimp only
    repeat (first | refine then_nrm ?_ | refine aw_seq ?_)
    refine aw_region ?_
    refine ao1 (by decide) (o_move (v := .int _ _) rfl) ?_
    refine ao1 (by decide) (o_ne rfl rfl) ?_
    refine ao_nil ?_
    repeat (refine then_nrm ?_)
    refine aw_cond rfl (fun hc => ?_) (fun hc => ?_)
    · repeat (refine aw_seq ?_)
      refine aw_region ?_
      refine ao1 (by decide) (w_loadR rfl (lk rfl rfl) rfl rfl rfl) ?_
      refine ao1 (by decide) (V1.up (o_build (cs := [.int _ _, _, .int _ _]) rfl)) ?_
      refine ao1 (by decide) (o_move (v := .int _ _) rfl) ?_
      refine ao2 (by rintro _ ⟨⟩) (w_storeW (sz := 3) rfl rfl rfl rfl rfl rfl rfl rfl (Nat.le_of_ble_eq_true rfl)) ?_
      refine ao2 (by rintro _ ⟨⟩) (w_storeW (sz := 3) rfl rfl rfl rfl rfl rfl rfl rfl (Nat.le_of_ble_eq_true rfl)) ?_
      refine ao1 (by decide) (o_assign (v := .int _ _) rfl) ?_
      refine ao_nil ?_
      try dsimp only [AV.up, put, List.set_cons_zero, List.set_cons_succ]
      repeat (first | refine then_nrm ?_ | refine then_ret ?_ | refine aw_ret ?_)
      exact e_done hB (r_cellR rfl (lk rfl rfl) rfl rfl rfl (r_cellR rfl (lk rfl rfl) rfl rfl rfl (r_tmp rfl .nil))) rfl rfl
    · simp at hc
  · have h2 : e = 0 → ¬ u ≤ l.til := by intro h; rw [h] at hc; simpa using hc
    repeat (first | refine then_nrm ?_ | refine aw_seq ?_ | refine aw_skip ?_)
    refine aw_region ?_
    refine ao1 (by decide) (o_move (v := .int _ _) rfl) ?_
    refine ao1 (by decide) (o_ne rfl rfl) ?_
    refine ao_nil ?_
    repeat (refine then_nrm ?_)
    refine aw_cond rfl (fun hc => ?_) (fun hc => ?_)
    · have h3 : e ≠ 0 := by simpa using hc
      rw [hopen h3]
      repeat (refine aw_seq ?_)
      refine aw_region ?_
      refine ao1 (by decide) (w_loadR rfl (lk rfl rfl) rfl rfl rfl) ?_
      refine ao1 (by decide) (V1.up (o_build (cs := [.int _ _, _, .int _ _]) rfl)) ?_
      refine ao1 (by decide) (o_move (v := .int _ _) rfl) ?_
      refine ao2 (by rintro _ ⟨⟩) (w_storeW (sz := 3) rfl rfl rfl rfl rfl rfl rfl rfl (Nat.le_of_ble_eq_true rfl)) ?_
      refine ao2 (by rintro _ ⟨⟩) (w_storeW (sz := 3) rfl rfl rfl rfl rfl rfl rfl rfl (Nat.le_of_ble_eq_true rfl)) ?_
      refine ao1 (by decide) (o_assign (v := .int _ _) rfl) ?_
      refine ao_nil ?_
      try dsimp only [AV.up, put, List.set_cons_zero, List.set_cons_succ]
      repeat (first | refine then_nrm ?_ | refine then_ret ?_ | refine aw_ret ?_)
      exact e_done hB (r_cellR rfl (lk rfl rfl) rfl rfl rfl (r_cellR rfl (lk rfl rfl) rfl rfl rfl (r_tmp rfl .nil))) rfl rfl
    · have h3 : e = 0 := by simpa using hc
      rw [show lend l ⟨4, [], u⟩ now = (⟨l.things, l.asked, u⟩, ⟨4, [], u⟩, 0) by rw [hdone h3, if_neg (by simp), if_neg (by simp), if_neg (h2 h3)]]
      repeat (first | refine then_nrm ?_ | refine aw_seq ?_ | refine aw_skip ?_)
      refine aw_region ?_
      refine ao1 (by decide) (o_move (v := .int _ _) rfl) ?_
      refine ao1 (by decide) (w_fieldAddr rfl (lk rfl rfl) rfl (by decide)) ?_
      refine ao2 (by rintro _ ⟨⟩) (w_storeP (sz := 1) (v := .int _ _) (r' := [_, _, _]) rfl rfl rfl rfl rfl rfl rfl rfl (Nat.le_of_ble_eq_true rfl) rfl) ?_
      refine ao_nil ?_
      try dsimp only [put, Nat.reduceAdd, List.set_cons_zero]
      repeat (first | refine then_nrm ?_ | refine aw_seq ?_)
      refine aw_region ?_
      refine ao1 (by decide) (w_loadR rfl (lk rfl rfl) rfl rfl rfl) ?_
      refine ao1 (by decide) (o_move (v := .int _ _) rfl) ?_
      refine ao1 (by decide) (V1.up (o_build (cs := [.int _ _, _, .int _ _]) rfl)) ?_
      refine ao2 (by rintro _ ⟨⟩) (w_storeW (sz := 3) rfl rfl rfl rfl rfl rfl rfl rfl (Nat.le_of_ble_eq_true rfl)) ?_
      refine ao2 (by rintro _ ⟨⟩) (w_storeW (sz := 3) rfl rfl rfl rfl rfl rfl rfl rfl (Nat.le_of_ble_eq_true rfl)) ?_
      refine ao1 (by decide) (o_assign (v := .int _ _) rfl) ?_
      refine ao_nil ?_
      try dsimp only [AV.up, put, List.set_cons_zero, List.set_cons_succ]
      repeat (first | refine then_nrm ?_ | refine aw_ret ?_)
      exact e_done hB (r_cellR rfl (lk rfl rfl) rfl rfl rfl (r_cellR rfl (lk rfl rfl) rfl rfl rfl (r_tmp rfl .nil))) rfl rfl
def lback (l : Loan) (n : Note) : Loan × Int := if (lright l && lmay n && decide (n.kind = 3)) = false then (l, 1) else (⟨setop (fun x y => x && !y) l.things n.things, setop (fun x y => x && !y) l.asked n.things, l.til⟩, 0)
set_option maxHeartbeats 0 in
theorem lease_Back (l : Loan) (hl : Small l) (n : Note) (hn : n.things.length ≤ 1000000) (H : Heap) : ACT Tryd.prog KD 18 [.agg (eLoan l), .agg (eNote n)] H (Ret (.tup [.agg (eLoan (lback l n).1), .int .i64 (lback l n).2]) H) := by
  refine ACT.body (N := 35) [.cell 4 24, .tmp 5] Tryd.func18 rfl rfl rfl (Nat.le_of_ble_eq_true rfl) fun B hB => ?_
  repeat (refine aw_seq ?_)
  refine aw_region ?_
  refine ao2 (by rintro _ ⟨⟩; decide) (o_boxL (sz := 3) (v := .agg _) rfl rfl rfl rfl (by decide) rfl) ?_
  refine ao2 (by rintro _ ⟨⟩; decide) (o_boxL (sz := 3) (v := .agg _) rfl rfl rfl rfl (by decide) rfl) ?_
  refine ao2 (by rintro _ ⟨⟩; decide) (o_allocL (sz := 3) rfl (by decide) rfl) ?_
  refine ao1 (by decide) (o_assign (v := .int _ _) rfl) ?_
  refine ao_nil ?_
  try dsimp only [List.length_nil, put, AV.cells, List.nil_append, List.length_cons, Nat.reduceAdd, List.cons_append]
  repeat (first | refine then_nrm ?_ | refine aw_seq ?_)
  refine aw_region ?_
  refine ao1 (by decide) (w_loadR rfl (lk rfl rfl) rfl rfl rfl) ?_
  refine ao_ret (lease_copied l hl _) rfl (by decide) ?_
  refine ao2 (by rintro _ ⟨⟩) (w_storeW (sz := 3) rfl rfl rfl rfl rfl rfl rfl rfl (Nat.le_of_ble_eq_true rfl)) ?_
  refine ao_nil ?_
  try dsimp only [put, List.set_cons_zero]
  repeat (first | refine then_nrm ?_ | refine aw_seq ?_)
  refine aw_out 20 (.bool (!(lright l && lmay n && decide (n.kind = 3)))) ?_ ?_
  · refine ao1 (by decide) (w_loadR rfl (lk rfl rfl) rfl rfl rfl) ?_
    refine ao_ret (lease_Right l hl _) rfl (by decide) ?_
    refine ao1 (by decide) (o_not rfl) ?_
    refine ao1 (by decide) (o_move (v := .bool _) rfl) ?_
    refine ao_split rfl rfl (fun hg3 => ?_) (fun hg3 => ?_)
    · refine ao_nF rfl rfl (by decide) ?_
      refine ao_nF rfl rfl (by decide) ?_
      refine ao_nF rfl rfl (by decide) ?_
      refine ao1 (by decide) (o_pick_t (v := .bool _) rfl rfl) ?_
      refine ao1 (by decide) (o_move (v := .bool _) rfl) ?_
      refine ao_nF rfl rfl (by decide) ?_
      refine ao_nF rfl rfl (by decide) ?_
      refine ao_nF rfl rfl (by decide) ?_
      refine ao1 (by decide) (o_pick_t (v := .bool _) rfl rfl) ?_
      exact ao_nil (Out.mk (by (refine congrArg AV.bool ?_; (simp_all; done))) (by repeat (first | exact SubX.refl _ _ | refine SubX.at ?_ | refine SubX.put rfl ?_)))
    · refine ao_y1 rfl rfl (by decide) (w_loadR rfl (lk rfl rfl) rfl rfl rfl) ?_
      refine ao_y rfl rfl (by decide) (V2.call (lease_may n hn _) rfl) ?_
      refine ao_y1 rfl rfl (by decide) (o_not rfl) ?_
      refine ao1 (by decide) (o_pick_f (v := .bool _) rfl rfl) ?_
      refine ao1 (by decide) (o_move (v := .bool _) rfl) ?_
      refine ao_split rfl rfl (fun hg8 => ?_) (fun hg8 => ?_)
      · refine ao_nF rfl rfl (by decide) ?_
        refine ao_nF rfl rfl (by decide) ?_
        refine ao_nF rfl rfl (by decide) ?_
        refine ao1 (by decide) (o_pick_t (v := .bool _) rfl rfl) ?_
        exact ao_nil (Out.mk (by (refine congrArg AV.bool ?_; (simp_all; done))) (by repeat (first | exact SubX.refl _ _ | refine SubX.at ?_ | refine SubX.put rfl ?_)))
      · refine ao_y1 rfl rfl (by decide) (w_fieldAddr rfl (lk rfl rfl) rfl (by decide)) ?_
        refine ao_y1 rfl rfl (by decide) (w_load1 (v := .int _ _) rfl (lk rfl rfl) rfl rfl rfl) ?_
        refine ao_y1 rfl rfl (by decide) (o_ne rfl rfl) ?_
        refine ao1 (by decide) (o_pick_f (v := .bool _) rfl rfl) ?_
        exact ao_nil (Out.mk (by (refine congrArg AV.bool ?_; grind)) (by repeat (first | exact SubX.refl _ _ | refine SubX.at ?_ | refine SubX.put rfl ?_)))
  repeat (refine then_nrm ?_)
  refine aw_cond rfl (fun hc => ?_) (fun hc => ?_)
  · rw [show lback l n = (l, 1) by rw [lback, if_pos ((Bool.not_eq_true' _).mp hc)]]
    repeat (refine aw_seq ?_)
    refine aw_region ?_
    refine ao1 (by decide) (w_loadR rfl (lk rfl rfl) rfl rfl rfl) ?_
    refine ao2 (by rintro _ ⟨⟩) (w_storeW (sz := 3) rfl rfl rfl rfl rfl rfl rfl rfl (Nat.le_of_ble_eq_true rfl)) ?_
    refine ao1 (by decide) (o_assign (v := .int _ _) rfl) ?_
    refine ao_nil ?_
    try dsimp only [put, List.set_cons_zero, List.set_cons_succ]
    repeat (first | refine then_nrm ?_ | refine then_ret ?_ | refine aw_ret ?_)
    exact e_done hB (r_cellR rfl (lk rfl rfl) rfl rfl rfl (r_tmp rfl .nil)) rfl rfl
  · have hk : ¬ (lright l && lmay n && decide (n.kind = 3)) = false := by intro h; rw [h] at hc; cases hc
    rw [show lback l n = (⟨setop (fun x y => x && !y) l.things n.things, setop (fun x y => x && !y) l.asked n.things, l.til⟩, 0) by rw [lback, if_neg hk]]
    repeat (first | refine then_nrm ?_ | refine aw_seq ?_ | refine aw_skip ?_)
    refine aw_drawP mixed (some 11) 2 ?_
    try dsimp only [List.take_succ_cons, List.take_zero]
    refine aqp 0 rfl (by decide +kernel) (by decide) (fun G => w_fieldAddr rfl (lk rfl rfl) rfl (by decide)) ?_
    refine aqp 1 rfl (by decide +kernel) (by decide) (fun G => w_load1 (v := .pl _) rfl (lk rfl rfl) rfl rfl rfl) ?_
    refine aqp 2 rfl (by decide +kernel) (by decide) (fun G => w_fieldAddr rfl (lk rfl rfl) rfl (by decide)) ?_
    refine aqp 3 rfl (by decide +kernel) (by decide) (fun G => w_load1 (v := .pl _) rfl (lk rfl rfl) rfl rfl rfl) ?_
    refine aq02 4 rfl (by decide +kernel) (by decide) (fun _ => V2.callT (set_Less l.things n.things hl.1 hn _) rfl rfl) ?_
    refine aqp 5 rfl (by decide +kernel) (by decide) (fun G => w_fieldAddr rfl (lk rfl rfl) rfl (by decide)) ?_
    refine aqp 6 rfl (by decide +kernel) (by decide) (fun G => w_load1 (v := .pl _) rfl (lk rfl rfl) rfl rfl rfl) ?_
    refine aqpz [9, 8, 7] 7 rfl (by decide +kernel) (by decide) (fun G => w_fieldAddr rfl (lk rfl rfl) rfl (by decide)) ?_
    refine aqpz [9, 8] 8 rfl (by decide +kernel) (by decide) (fun G => w_load1 (v := .pl _) rfl (lk rfl rfl) rfl rfl rfl) ?_
    refine aq02 9 rfl (by decide +kernel) (by decide) (fun _ => V2.callT (set_Less l.asked n.things hl.2 hn _) rfl rfl) ?_
    refine aqp 10 rfl (by decide +kernel) (by decide) (fun G => w_fieldAddr rfl (lk rfl rfl) rfl (by decide)) ?_
    refine aqs 11 rfl (by decide +kernel) (by exact fun _ => ⟨_, rfl⟩) (by rintro _ ⟨⟩) (w_storeP (sz := 1) (v := .pl _) (r' := [_, _, _]) rfl rfl rfl rfl rfl rfl rfl rfl (Nat.le_of_ble_eq_true rfl) rfl) ?_
    refine aqs 12 rfl (by decide +kernel) (by exact yet_done (by decide +kernel)) (by rintro _ ⟨⟩; decide) (V1.toV2 (w_fieldAddr rfl (lk rfl rfl) rfl (by decide))) ?_
    refine aqs 13 rfl (by decide +kernel) (by exact yet_done (by decide +kernel)) (by rintro _ ⟨⟩) (w_storeP (sz := 1) (v := .pl _) (r' := [_, _, _]) rfl rfl rfl rfl rfl rfl rfl rfl (Nat.le_of_ble_eq_true rfl) rfl) ?_
    refine aa_done (by decide +kernel) (by exact yet_done (by decide +kernel)) ?_
    try dsimp only [put, Nat.reduceAdd, List.set_cons_zero]
    repeat (first | refine then_nrm ?_ | refine aw_seq ?_)
    refine aw_region ?_
    refine ao1 (by decide) (w_loadR rfl (lk rfl rfl) rfl rfl rfl) ?_
    refine ao2 (by rintro _ ⟨⟩) (w_storeW (sz := 3) rfl rfl rfl rfl rfl rfl rfl rfl (Nat.le_of_ble_eq_true rfl)) ?_
    refine ao1 (by decide) (o_assign (v := .int _ _) rfl) ?_
    refine ao_nil ?_
    try dsimp only [put, List.set_cons_zero, List.set_cons_succ]
    repeat (first | refine then_nrm ?_ | refine aw_ret ?_)
    exact e_done hB (r_cellR rfl (lk rfl rfl) rfl rfl rfl (r_tmp rfl .nil)) rfl rfl
set_option maxHeartbeats 0 in
theorem ref19_Back (l : Loan) (hl : Small l) (n : Note) (hn : n.things.length ≤ 1000000) (H : Heap) : AC Tryd.prog 21 [.agg (eLoan l), .agg (eNote n)] H (Ret (.tup [.agg (eLoan (lback l n).1), .int .i64 (lback l n).2]) H) := by
  have c0 := fun H => ref01_Which l.things n.things 2 hl.1 hn H
  have c2 := fun H => ref01_Which l.asked n.things 2 hl.2 hn H
  rw [opw2] at c0 c2
  refine AC.body (N := 33) [.cell 4 24, .tmp 5] Tryd.func21 rfl rfl rfl (Nat.le_of_ble_eq_true rfl) fun B hB => ?_
  repeat (refine aw_seq ?_)
  refine aw_region ?_
  refine ao2 (by rintro _ ⟨⟩; decide) (o_boxL (sz := 3) (v := .agg _) rfl rfl rfl rfl (by decide) rfl) ?_
  refine ao2 (by rintro _ ⟨⟩; decide) (o_boxL (sz := 3) (v := .agg _) rfl rfl rfl rfl (by decide) rfl) ?_
  refine ao2 (by rintro _ ⟨⟩; decide) (o_allocL (sz := 3) rfl (by decide) rfl) ?_
  refine ao1 (by decide) (o_assign (v := .int _ _) rfl) ?_
  refine ao_nil ?_
  try dsimp only [List.length_nil, put, AV.cells, List.nil_append, List.length_cons, Nat.reduceAdd, List.cons_append]
  repeat (first | refine then_nrm ?_ | refine aw_seq ?_)
  refine aw_out 18 (.bool (!(lright l && lmay n && decide (n.kind = 3)))) ?_ ?_
  · refine ao1 (by decide) (w_loadR rfl (lk rfl rfl) rfl rfl rfl) ?_
    refine ao_ret (ref19_Right l hl _) rfl (by decide) ?_
    refine ao1 (by decide) (o_not rfl) ?_
    refine ao1 (by decide) (o_move (v := .bool _) rfl) ?_
    refine ao_split rfl rfl (fun hg3 => ?_) (fun hg3 => ?_)
    · refine ao_nF rfl rfl (by decide) ?_
      refine ao_nF rfl rfl (by decide) ?_
      refine ao_nF rfl rfl (by decide) ?_
      refine ao1 (by decide) (o_pick_t (v := .bool _) rfl rfl) ?_
      refine ao1 (by decide) (o_move (v := .bool _) rfl) ?_
      refine ao_nF rfl rfl (by decide) ?_
      refine ao_nF rfl rfl (by decide) ?_
      refine ao_nF rfl rfl (by decide) ?_
      refine ao1 (by decide) (o_pick_t (v := .bool _) rfl rfl) ?_
      exact ao_nil (Out.mk (by (refine congrArg AV.bool ?_; (clear c0 c2; (simp_all; done)))) (by repeat (first | exact SubX.refl _ _ | refine SubX.at ?_ | refine SubX.put rfl ?_)))
    · refine ao_y1 rfl rfl (by decide) (w_loadR rfl (lk rfl rfl) rfl rfl rfl) ?_
      refine ao_y rfl rfl (by decide) (V2.call (ref19_May n hn _) rfl) ?_
      refine ao_y1 rfl rfl (by decide) (o_not rfl) ?_
      refine ao1 (by decide) (o_pick_f (v := .bool _) rfl rfl) ?_
      refine ao1 (by decide) (o_move (v := .bool _) rfl) ?_
      refine ao_split rfl rfl (fun hg8 => ?_) (fun hg8 => ?_)
      · refine ao_nF rfl rfl (by decide) ?_
        refine ao_nF rfl rfl (by decide) ?_
        refine ao_nF rfl rfl (by decide) ?_
        refine ao1 (by decide) (o_pick_t (v := .bool _) rfl rfl) ?_
        exact ao_nil (Out.mk (by (refine congrArg AV.bool ?_; (clear c0 c2; (simp_all; done)))) (by repeat (first | exact SubX.refl _ _ | refine SubX.at ?_ | refine SubX.put rfl ?_)))
      · refine ao_y1 rfl rfl (by decide) (w_fieldAddr rfl (lk rfl rfl) rfl (by decide)) ?_
        refine ao_y1 rfl rfl (by decide) (w_load1 (v := .int _ _) rfl (lk rfl rfl) rfl rfl rfl) ?_
        refine ao_y1 rfl rfl (by decide) (o_ne rfl rfl) ?_
        refine ao1 (by decide) (o_pick_f (v := .bool _) rfl rfl) ?_
        exact ao_nil (Out.mk (by (refine congrArg AV.bool ?_; (clear c0 c2; grind))) (by repeat (first | exact SubX.refl _ _ | refine SubX.at ?_ | refine SubX.put rfl ?_)))
  repeat (refine then_nrm ?_)
  refine aw_cond rfl (fun hc => ?_) (fun hc => ?_)
  · rw [show lback l n = (l, 1) by rw [lback, if_pos ((Bool.not_eq_true' _).mp hc)]]
    repeat (refine aw_seq ?_)
    refine aw_region ?_
    refine ao1 (by decide) (w_loadR rfl (lk rfl rfl) rfl rfl rfl) ?_
    refine ao2 (by rintro _ ⟨⟩) (w_storeW (sz := 3) rfl rfl rfl rfl rfl rfl rfl rfl (Nat.le_of_ble_eq_true rfl)) ?_
    refine ao1 (by decide) (o_assign (v := .int _ _) rfl) ?_
    refine ao_nil ?_
    try dsimp only [put, List.set_cons_zero, List.set_cons_succ]
    repeat (first | refine then_nrm ?_ | refine then_ret ?_ | refine aw_ret ?_)
    exact e_done hB (r_cellR rfl (lk rfl rfl) rfl rfl rfl (r_tmp rfl .nil)) rfl rfl
  · have hk : ¬ (lright l && lmay n && decide (n.kind = 3)) = false := by intro h; rw [h] at hc; cases hc
    rw [show lback l n = (⟨setop (fun x y => x && !y) l.things n.things, setop (fun x y => x && !y) l.asked n.things, l.til⟩, 0) by rw [lback, if_neg hk]]
    repeat (first | refine then_nrm ?_ | refine aw_seq ?_ | refine aw_skip ?_)
    refine aw_region ?_
    refine ao1 (by decide) (w_fieldAddr rfl (lk rfl rfl) rfl (by decide)) ?_
    refine ao1 (by decide) (w_load1 (v := .pl _) rfl (lk rfl rfl) rfl rfl rfl) ?_
    refine ao1 (by decide) (w_fieldAddr rfl (lk rfl rfl) rfl (by decide)) ?_
    refine ao1 (by decide) (w_load1 (v := .pl _) rfl (lk rfl rfl) rfl rfl rfl) ?_
    refine ao2 (by rintro _ ⟨⟩; decide) (V2.call (c0 _) rfl) ?_
    refine ao1 (by decide) (w_fieldAddr rfl (lk rfl rfl) rfl (by decide)) ?_
    refine ao2 (by rintro _ ⟨⟩) (w_storeP (sz := 1) (v := .pl _) (r' := [_, _, _]) rfl rfl rfl rfl rfl rfl rfl rfl (Nat.le_of_ble_eq_true rfl) rfl) ?_
    refine ao_nil ?_
    try dsimp only [put, Nat.reduceAdd, List.set_cons_zero]
    repeat (first | refine then_nrm ?_ | refine aw_seq ?_)
    refine aw_region ?_
    refine ao1 (by decide) (w_fieldAddr rfl (lk rfl rfl) rfl (by decide)) ?_
    refine ao1 (by decide) (w_load1 (v := .pl _) rfl (lk rfl rfl) rfl rfl rfl) ?_
    refine ao1 (by decide) (w_fieldAddr rfl (lk rfl rfl) rfl (by decide)) ?_
    refine ao1 (by decide) (w_load1 (v := .pl _) rfl (lk rfl rfl) rfl rfl rfl) ?_
    refine ao2 (by rintro _ ⟨⟩; decide) (V2.call (c2 _) rfl) ?_
    refine ao1 (by decide) (w_fieldAddr rfl (lk rfl rfl) rfl (by decide)) ?_
    refine ao2 (by rintro _ ⟨⟩) (w_storeP (sz := 1) (v := .pl _) (r' := [_, _, _]) rfl rfl rfl rfl rfl rfl rfl rfl (Nat.le_of_ble_eq_true rfl) rfl) ?_
    refine ao_nil ?_
    try dsimp only [put, Nat.reduceAdd, List.set_cons_zero]
    repeat (first | refine then_nrm ?_ | refine aw_seq ?_)
    refine aw_region ?_
    refine ao1 (by decide) (w_loadR rfl (lk rfl rfl) rfl rfl rfl) ?_
    refine ao2 (by rintro _ ⟨⟩) (w_storeW (sz := 3) rfl rfl rfl rfl rfl rfl rfl rfl (Nat.le_of_ble_eq_true rfl)) ?_
    refine ao1 (by decide) (o_assign (v := .int _ _) rfl) ?_
    refine ao_nil ?_
    try dsimp only [put, List.set_cons_zero, List.set_cons_succ]
    repeat (first | refine then_nrm ?_ | refine aw_ret ?_)
    exact e_done hB (r_cellR rfl (lk rfl rfl) rfl rfl rfl (r_tmp rfl .nil)) rfl rfl
theorem opw1 : opw 1 = fun x y => x && y := by funext x y; simp [opw]
set_option maxHeartbeats 0 in
theorem ref19_Lend (l : Loan) (hl : Small l) (n : Note) (hn : n.things.length ≤ 1000000) (now : Int) (H : Heap) : AC Tryd.prog 19 [.agg (eLoan l), .agg (eNote n), .int .i64 now] H (Ret (.tup [.agg (eLoan (lend l n now).1), .agg (eNote (lend l n now).2.1), .int .i64 (lend l n now).2.2]) H) := by
  have cA := fun H => ref01_Which l.things n.things 1 hl.1 hn H
  have cJ := fun H => ref01_Which l.things n.things 0 hl.1 hn H
  have cL := fun H => ref01_Which n.things l.things 2 hn hl.1 H
  have cB := fun H => ref01_Which n.things l.asked 1 hn hl.2 H
  have cK := fun H => ref01_Which l.asked n.things 0 hl.2 hn H
  rw [opw0] at cJ cK
  rw [opw1] at cA cB
  rw [opw2] at cL
  refine AC.body (N := 87) [.cell 6 24, .cell 7 26, .tmp 8] Tryd.func19 rfl rfl rfl (Nat.le_of_ble_eq_true rfl) fun B hB => ?_
  repeat (refine aw_seq ?_)
  refine aw_region ?_
  refine ao2 (by rintro _ ⟨⟩; decide) (o_boxL (sz := 3) (v := .agg _) rfl rfl rfl rfl (by decide) rfl) ?_
  refine ao2 (by rintro _ ⟨⟩; decide) (o_boxL (sz := 3) (v := .agg _) rfl rfl rfl rfl (by decide) rfl) ?_
  refine ao2 (by rintro _ ⟨⟩; decide) (o_allocL (sz := 3) rfl (by decide) rfl) ?_
  refine ao2 (by rintro _ ⟨⟩; decide) (o_allocL (sz := 3) rfl (by decide) rfl) ?_
  refine ao1 (by decide) (o_assign (v := .int _ _) rfl) ?_
  refine ao_nil ?_
  try dsimp only [List.length_nil, put, AV.cells, List.nil_append, List.length_cons, Nat.reduceAdd, List.cons_append]
  repeat (first | refine then_nrm ?_ | refine aw_seq ?_)
  refine aw_out 21 (.bool (!(lright l && tm now && lmay n))) ?_ ?_
  · refine ao1 (by decide) (w_loadR rfl (lk rfl rfl) rfl rfl rfl) ?_
    refine ao_ret (ref19_Right l hl _) rfl (by decide) ?_
    refine ao1 (by decide) (o_not rfl) ?_
    refine ao1 (by decide) (o_move (v := .bool _) rfl) ?_
    refine ao_split rfl rfl (fun hg3 => ?_) (fun hg3 => ?_)
    · refine ao_nF rfl rfl (by decide) ?_
      refine ao_nF rfl rfl (by decide) ?_
      refine ao_nF rfl rfl (by decide) ?_
      refine ao1 (by decide) (o_pick_t (v := .bool _) rfl rfl) ?_
      refine ao1 (by decide) (o_move (v := .bool _) rfl) ?_
      refine ao_nF rfl rfl (by decide) ?_
      refine ao_nF rfl rfl (by decide) ?_
      refine ao_nF rfl rfl (by decide) ?_
      refine ao1 (by decide) (o_pick_t (v := .bool _) rfl rfl) ?_
      exact ao_nil (Out.mk (by (refine congrArg AV.bool ?_; (clear cA cJ cL cB cK; (simp_all; done)))) (by repeat (first | exact SubX.refl _ _ | refine SubX.at ?_ | refine SubX.put rfl ?_)))
    · refine ao_y1 rfl rfl (by decide) (o_move (v := .int _ _) rfl) ?_
      refine ao_y rfl rfl (by decide) (V2.call (ref19_time _ _) rfl) ?_
      refine ao_y1 rfl rfl (by decide) (o_not rfl) ?_
      refine ao1 (by decide) (o_pick_f (v := .bool _) rfl rfl) ?_
      refine ao1 (by decide) (o_move (v := .bool _) rfl) ?_
      refine ao_split rfl rfl (fun hg8 => ?_) (fun hg8 => ?_)
      · refine ao_nF rfl rfl (by decide) ?_
        refine ao_nF rfl rfl (by decide) ?_
        refine ao_nF rfl rfl (by decide) ?_
        refine ao1 (by decide) (o_pick_t (v := .bool _) rfl rfl) ?_
        exact ao_nil (Out.mk (by (refine congrArg AV.bool ?_; (clear cA cJ cL cB cK; (simp_all; done)))) (by repeat (first | exact SubX.refl _ _ | refine SubX.at ?_ | refine SubX.put rfl ?_)))
      · refine ao_y1 rfl rfl (by decide) (w_loadR rfl (lk rfl rfl) rfl rfl rfl) ?_
        refine ao_y rfl rfl (by decide) (V2.call (ref19_May n hn _) rfl) ?_
        refine ao_y1 rfl rfl (by decide) (o_not rfl) ?_
        refine ao1 (by decide) (o_pick_f (v := .bool _) rfl rfl) ?_
        exact ao_nil (Out.mk (by (refine congrArg AV.bool ?_; (clear cA cJ cL cB cK; (simp_all; done)))) (by repeat (first | exact SubX.refl _ _ | refine SubX.at ?_ | refine SubX.put rfl ?_)))
  repeat (refine then_nrm ?_)
  refine aw_cond rfl (fun hc => ?_) (fun hc => ?_)
  · rw [show lend l n now = (l, noNote, 1) by rw [lend, if_pos ((Bool.not_eq_true' _).mp hc)]]
    repeat (refine aw_seq ?_)
    refine aw_region ?_
    refine ao1 (by decide) (w_loadR rfl (lk rfl rfl) rfl rfl rfl) ?_
    refine ao1 (by decide) (V1.up (o_build (cs := [.int _ _, _, .int _ _]) rfl)) ?_
    refine ao2 (by rintro _ ⟨⟩) (w_storeW (sz := 3) rfl rfl rfl rfl rfl rfl rfl rfl (Nat.le_of_ble_eq_true rfl)) ?_
    refine ao2 (by rintro _ ⟨⟩) (w_storeW (sz := 3) rfl rfl rfl rfl rfl rfl rfl rfl (Nat.le_of_ble_eq_true rfl)) ?_
    refine ao1 (by decide) (o_assign (v := .int _ _) rfl) ?_
    refine ao_nil ?_
    try dsimp only [AV.up, put, List.set_cons_zero, List.set_cons_succ]
    repeat (first | refine then_nrm ?_ | refine then_ret ?_ | refine aw_ret ?_)
    exact e_done hB (r_cellR rfl (lk rfl rfl) rfl rfl rfl (r_cellR rfl (lk rfl rfl) rfl rfl rfl (r_tmp rfl .nil))) rfl rfl
  have hk : ¬ (lright l && tm now && lmay n) = false := by intro h; rw [h] at hc; cases hc
  repeat (first | refine then_nrm ?_ | refine aw_seq ?_ | refine aw_skip ?_)
  refine aw_region ?_
  refine ao1 (by decide) (o_move (v := .int _ _) rfl) ?_
  refine ao1 (by decide) (w_fieldAddr rfl (lk rfl rfl) rfl (by decide)) ?_
  refine ao1 (by decide) (w_load1 (v := .int _ _) rfl (lk rfl rfl) rfl rfl rfl) ?_
  refine ao1 (by decide) (o_ge rfl rfl) ?_
  refine ao_nil ?_
  try dsimp only [Nat.reduceAdd]
  repeat (refine then_nrm ?_)
  refine aw_cond rfl (fun hc => ?_) (fun hc => ?_)
  · rw [show lend l n now = (l, noNote, 8) by rw [lend, if_neg hk, if_pos (by simpa using hc)]]
    repeat (refine aw_seq ?_)
    refine aw_region ?_
    refine ao1 (by decide) (w_loadR rfl (lk rfl rfl) rfl rfl rfl) ?_
    refine ao1 (by decide) (V1.up (o_build (cs := [.int _ _, _, .int _ _]) rfl)) ?_
    refine ao2 (by rintro _ ⟨⟩) (w_storeW (sz := 3) rfl rfl rfl rfl rfl rfl rfl rfl (Nat.le_of_ble_eq_true rfl)) ?_
    refine ao2 (by rintro _ ⟨⟩) (w_storeW (sz := 3) rfl rfl rfl rfl rfl rfl rfl rfl (Nat.le_of_ble_eq_true rfl)) ?_
    refine ao1 (by decide) (o_assign (v := .int _ _) rfl) ?_
    refine ao_nil ?_
    try dsimp only [AV.up, put, List.set_cons_zero, List.set_cons_succ]
    repeat (first | refine then_nrm ?_ | refine then_ret ?_ | refine aw_ret ?_)
    exact e_done hB (r_cellR rfl (lk rfl rfl) rfl rfl rfl (r_cellR rfl (lk rfl rfl) rfl rfl rfl (r_tmp rfl .nil))) rfl rfl
  have ht : ¬ l.til ≤ now := by simpa using hc
  have hd := lend_past hk ht
  repeat (first | refine then_nrm ?_ | refine aw_seq ?_ | refine aw_skip ?_)
  refine aw_region ?_
  refine ao1 (by decide) (w_fieldAddr rfl (lk rfl rfl) rfl (by decide)) ?_
  refine ao1 (by decide) (w_load1 (v := .int _ _) rfl (lk rfl rfl) rfl rfl rfl) ?_
  refine ao_nil ?_
  try dsimp only [Nat.reduceAdd]
  repeat (first | refine then_nrm ?_ | refine aw_seq ?_ | refine aw_block ?_)
  refine aw_region ?_
  refine ao1 (by decide) (o_eq rfl rfl) ?_
  refine ao1 (by decide) (o_assign (v := .bool _) rfl) ?_
  refine ao_nil ?_
  repeat (refine then_nrm ?_)
  refine aw_cond rfl (fun hc => ?_) (fun hc => ?_)
  · have h1 : n.kind = 1 := by simpa using hc
    rw [if_pos h1] at hd
    repeat (refine aw_seq ?_)
    refine aw_region ?_
    refine ao1 (by decide) (w_fieldAddr rfl (lk rfl rfl) rfl (by decide)) ?_
    refine ao1 (by decide) (w_load1 (v := .pl _) rfl (lk rfl rfl) rfl rfl rfl) ?_
    refine ao1 (by decide) (w_fieldAddr rfl (lk rfl rfl) rfl (by decide)) ?_
    refine ao1 (by decide) (w_load1 (v := .pl _) rfl (lk rfl rfl) rfl rfl rfl) ?_
    refine ao2 (by rintro _ ⟨⟩; decide) (V2.call (cA _) rfl) ?_
    refine ao1 (by decide) (o_lenp rfl) ?_
    refine ao1 (by decide) (o_gt rfl rfl) ?_
    refine ao_nil ?_
    try dsimp only [Nat.reduceAdd, put]
    repeat (refine then_nrm ?_)
    refine aw_cond rfl (fun hc => ?_) (fun hc => ?_)
    · rw [if_pos (by simpa using hc)] at hd
      rw [hd]
      repeat (refine aw_seq ?_)
      refine aw_region ?_
      refine ao1 (by decide) (w_loadR rfl (lk rfl rfl) rfl rfl rfl) ?_
      refine ao1 (by decide) (V1.up (o_build (cs := [.int _ _, _, .int _ _]) rfl)) ?_
      refine ao2 (by rintro _ ⟨⟩) (w_storeW (sz := 3) rfl rfl rfl rfl rfl rfl rfl rfl (Nat.le_of_ble_eq_true rfl)) ?_
      refine ao2 (by rintro _ ⟨⟩) (w_storeW (sz := 3) rfl rfl rfl rfl rfl rfl rfl rfl (Nat.le_of_ble_eq_true rfl)) ?_
      refine ao1 (by decide) (o_assign (v := .int _ _) rfl) ?_
      refine ao_nil ?_
      try dsimp only [AV.up, put, List.set_cons_zero, List.set_cons_succ]
      repeat (first | refine then_nrm ?_ | refine then_ret ?_ | refine blk_ret ?_ | refine aw_ret ?_)
      exact e_done hB (r_cellR rfl (lk rfl rfl) rfl rfl rfl (r_cellR rfl (lk rfl rfl) rfl rfl rfl (r_tmp rfl .nil))) rfl rfl
    · rw [if_neg (by simpa using hc)] at hd
      rw [hd]
      repeat (first | refine then_nrm ?_ | refine aw_skip ?_)
      refine aw_region ?_
      refine ao1 (by decide) (w_fieldAddr rfl (lk rfl rfl) rfl (by decide)) ?_
      refine ao1 (by decide) (w_load1 (v := .pl _) rfl (lk rfl rfl) rfl rfl rfl) ?_
      refine ao1 (by decide) (w_fieldAddr rfl (lk rfl rfl) rfl (by decide)) ?_
      refine ao1 (by decide) (w_load1 (v := .pl _) rfl (lk rfl rfl) rfl rfl rfl) ?_
      refine ao2 (by rintro _ ⟨⟩; decide) (V2.call (cJ _) rfl) ?_
      refine ao1 (by decide) (w_fieldAddr rfl (lk rfl rfl) rfl (by decide)) ?_
      refine ao2 (by rintro _ ⟨⟩) (w_storeP (sz := 1) (v := .pl _) (r' := [_, _, _]) rfl rfl rfl rfl rfl rfl rfl rfl (Nat.le_of_ble_eq_true rfl) rfl) ?_
      refine ao_nil ?_
      try dsimp only [put, Nat.reduceAdd, List.set_cons_zero]
      repeat (first | refine then_nrm ?_ | refine blk_nrm ?_ | refine aw_seq ?_)
      refine aw_drawP mixed none 2 ?_
      try dsimp only [List.take_succ_cons, List.take_zero]
      refine aqp 0 rfl (by decide +kernel) (by decide) (fun G => w_loadR rfl (lk rfl rfl) rfl rfl rfl) ?_
      refine aqp 1 rfl (by decide +kernel) (by decide) (fun G => w_loadR rfl (lk rfl rfl) rfl rfl rfl) ?_
      refine aqs 2 rfl (by decide +kernel) (by exact fun _ => ⟨_, rfl⟩) (by rintro _ ⟨⟩) (w_storeW (sz := 3) rfl rfl rfl rfl rfl rfl rfl rfl (Nat.le_of_ble_eq_true rfl)) ?_
      refine aqs 3 rfl (by decide +kernel) (by exact fun _ => ⟨_, rfl⟩) (by rintro _ ⟨⟩) (w_storeW (sz := 3) rfl rfl rfl rfl rfl rfl rfl rfl (Nat.le_of_ble_eq_true rfl)) ?_
      refine aq0 4 rfl (by decide +kernel) (by decide) (fun _ => o_assign (v := .int _ _) rfl) ?_
      refine aa_done (by decide +kernel) (by exact fun _ => ⟨_, rfl⟩) ?_
      try dsimp only [put, List.set_cons_zero, List.set_cons_succ]
      all_goals
        repeat (first | refine then_nrm ?_ | refine aw_ret ?_)
        exact e_done hB (r_cellR rfl (lk rfl rfl) rfl rfl rfl (r_cellR rfl (lk rfl rfl) rfl rfl rfl (r_tmp rfl .nil))) rfl rfl
  · have h1 : ¬ n.kind = 1 := by simpa using hc
    rw [if_neg h1] at hd
    repeat (refine aw_seq ?_)
    refine aw_region ?_
    refine ao1 (by decide) (o_eq rfl rfl) ?_
    refine ao1 (by decide) (o_assign (v := .bool _) rfl) ?_
    refine ao_nil ?_
    repeat (refine then_nrm ?_)
    refine aw_cond rfl (fun hc => ?_) (fun hc => ?_)
    · have h2 : n.kind = 2 := by simpa using hc
      rw [if_pos h2] at hd
      repeat (refine aw_seq ?_)
      refine aw_region ?_
      refine ao1 (by decide) (w_fieldAddr rfl (lk rfl rfl) rfl (by decide)) ?_
      refine ao1 (by decide) (w_load1 (v := .pl _) rfl (lk rfl rfl) rfl rfl rfl) ?_
      refine ao1 (by decide) (w_fieldAddr rfl (lk rfl rfl) rfl (by decide)) ?_
      refine ao1 (by decide) (w_load1 (v := .pl _) rfl (lk rfl rfl) rfl rfl rfl) ?_
      refine ao2 (by rintro _ ⟨⟩; decide) (V2.call (cL _) rfl) ?_
      refine ao1 (by decide) (o_lenp rfl) ?_
      refine ao1 (by decide) (o_gt rfl rfl) ?_
      refine ao_nil ?_
      try dsimp only [Nat.reduceAdd, put]
      repeat (refine then_nrm ?_)
      refine aw_cond rfl (fun hc => ?_) (fun hc => ?_)
      · rw [if_pos (by simpa using hc)] at hd
        rw [hd]
        repeat (refine aw_seq ?_)
        refine aw_region ?_
        refine ao1 (by decide) (w_loadR rfl (lk rfl rfl) rfl rfl rfl) ?_
        refine ao1 (by decide) (V1.up (o_build (cs := [.int _ _, _, .int _ _]) rfl)) ?_
        refine ao2 (by rintro _ ⟨⟩) (w_storeW (sz := 3) rfl rfl rfl rfl rfl rfl rfl rfl (Nat.le_of_ble_eq_true rfl)) ?_
        refine ao2 (by rintro _ ⟨⟩) (w_storeW (sz := 3) rfl rfl rfl rfl rfl rfl rfl rfl (Nat.le_of_ble_eq_true rfl)) ?_
        refine ao1 (by decide) (o_assign (v := .int _ _) rfl) ?_
        refine ao_nil ?_
        try dsimp only [AV.up, put, List.set_cons_zero, List.set_cons_succ]
        repeat (first | refine then_nrm ?_ | refine then_ret ?_ | refine blk_ret ?_ | refine aw_ret ?_)
        exact e_done hB (r_cellR rfl (lk rfl rfl) rfl rfl rfl (r_cellR rfl (lk rfl rfl) rfl rfl rfl (r_tmp rfl .nil))) rfl rfl
      · rw [if_neg (by simpa using hc)] at hd
        repeat (first | refine then_nrm ?_ | refine aw_seq ?_ | refine aw_skip ?_)
        refine aw_region ?_
        refine ao1 (by decide) (w_fieldAddr rfl (lk rfl rfl) rfl (by decide)) ?_
        refine ao1 (by decide) (w_load1 (v := .pl _) rfl (lk rfl rfl) rfl rfl rfl) ?_
        refine ao1 (by decide) (w_fieldAddr rfl (lk rfl rfl) rfl (by decide)) ?_
        refine ao1 (by decide) (w_load1 (v := .pl _) rfl (lk rfl rfl) rfl rfl rfl) ?_
        refine ao2 (by rintro _ ⟨⟩; decide) (V2.call (cB _) rfl) ?_
        refine ao1 (by decide) (o_lenp rfl) ?_
        refine ao1 (by decide) (o_gt rfl rfl) ?_
        refine ao_nil ?_
        try dsimp only [Nat.reduceAdd, put]
        repeat (refine then_nrm ?_)
        refine aw_cond rfl (fun hc => ?_) (fun hc => ?_)
        · rw [if_pos (by simpa using hc)] at hd
          rw [hd]
          repeat (refine aw_seq ?_)
          refine aw_region ?_
          refine ao1 (by decide) (w_loadR rfl (lk rfl rfl) rfl rfl rfl) ?_
          refine ao1 (by decide) (V1.up (o_build (cs := [.int _ _, _, .int _ _]) rfl)) ?_
          refine ao2 (by rintro _ ⟨⟩) (w_storeW (sz := 3) rfl rfl rfl rfl rfl rfl rfl rfl (Nat.le_of_ble_eq_true rfl)) ?_
          refine ao2 (by rintro _ ⟨⟩) (w_storeW (sz := 3) rfl rfl rfl rfl rfl rfl rfl rfl (Nat.le_of_ble_eq_true rfl)) ?_
          refine ao1 (by decide) (o_assign (v := .int _ _) rfl) ?_
          refine ao_nil ?_
          try dsimp only [AV.up, put, List.set_cons_zero, List.set_cons_succ]
          repeat (first | refine then_nrm ?_ | refine then_ret ?_ | refine blk_ret ?_ | refine aw_ret ?_)
          exact e_done hB (r_cellR rfl (lk rfl rfl) rfl rfl rfl (r_cellR rfl (lk rfl rfl) rfl rfl rfl (r_tmp rfl .nil))) rfl rfl
        · rw [if_neg (by simpa using hc)] at hd
          rw [hd]
          repeat (first | refine then_nrm ?_ | refine aw_skip ?_)
          refine aw_region ?_
          refine ao1 (by decide) (w_fieldAddr rfl (lk rfl rfl) rfl (by decide)) ?_
          refine ao1 (by decide) (w_load1 (v := .pl _) rfl (lk rfl rfl) rfl rfl rfl) ?_
          refine ao1 (by decide) (w_fieldAddr rfl (lk rfl rfl) rfl (by decide)) ?_
          refine ao1 (by decide) (w_load1 (v := .pl _) rfl (lk rfl rfl) rfl rfl rfl) ?_
          refine ao2 (by rintro _ ⟨⟩; decide) (V2.call (cK _) rfl) ?_
          refine ao1 (by decide) (w_fieldAddr rfl (lk rfl rfl) rfl (by decide)) ?_
          refine ao2 (by rintro _ ⟨⟩) (w_storeP (sz := 1) (v := .pl _) (r' := [_, _, _]) rfl rfl rfl rfl rfl rfl rfl rfl (Nat.le_of_ble_eq_true rfl) rfl) ?_
          refine ao_nil ?_
          try dsimp only [put, Nat.reduceAdd, List.set_cons_zero]
          repeat (first | refine then_nrm ?_ | refine blk_nrm ?_ | refine aw_seq ?_)
          refine aw_drawP mixed none 2 ?_
          try dsimp only [List.take_succ_cons, List.take_zero]
          refine aqp 0 rfl (by decide +kernel) (by decide) (fun G => w_loadR rfl (lk rfl rfl) rfl rfl rfl) ?_
          refine aqp 1 rfl (by decide +kernel) (by decide) (fun G => w_loadR rfl (lk rfl rfl) rfl rfl rfl) ?_
          refine aqs 2 rfl (by decide +kernel) (by exact fun _ => ⟨_, rfl⟩) (by rintro _ ⟨⟩) (w_storeW (sz := 3) rfl rfl rfl rfl rfl rfl rfl rfl (Nat.le_of_ble_eq_true rfl)) ?_
          refine aqs 3 rfl (by decide +kernel) (by exact fun _ => ⟨_, rfl⟩) (by rintro _ ⟨⟩) (w_storeW (sz := 3) rfl rfl rfl rfl rfl rfl rfl rfl (Nat.le_of_ble_eq_true rfl)) ?_
          refine aq0 4 rfl (by decide +kernel) (by decide) (fun _ => o_assign (v := .int _ _) rfl) ?_
          refine aa_done (by decide +kernel) (by exact fun _ => ⟨_, rfl⟩) ?_
          try dsimp only [put, List.set_cons_zero, List.set_cons_succ]
          all_goals
            repeat (first | refine then_nrm ?_ | refine aw_ret ?_)
            exact e_done hB (r_cellR rfl (lk rfl rfl) rfl rfl rfl (r_cellR rfl (lk rfl rfl) rfl rfl rfl (r_tmp rfl .nil))) rfl rfl
    · have h2 : ¬ n.kind = 2 := by simpa using hc
      rw [if_neg h2] at hd
      repeat (refine aw_seq ?_)
      refine aw_region ?_
      refine ao1 (by decide) (w_fieldAddr rfl (lk rfl rfl) rfl (by decide)) ?_
      refine ao1 (by decide) (w_load1 (v := .int _ _) rfl (lk rfl rfl) rfl rfl rfl) ?_
      refine ao1 (by decide) (w_fieldAddr rfl (lk rfl rfl) rfl (by decide)) ?_
      refine ao1 (by decide) (w_load1 (v := .int _ _) rfl (lk rfl rfl) rfl rfl rfl) ?_
      refine ao1 (by decide) (o_le rfl rfl) ?_
      refine ao_nil ?_
      try dsimp only [Nat.reduceAdd]
      repeat (refine then_nrm ?_)
      refine aw_cond rfl (fun hc => ?_) (fun hc => ?_)
      · rw [if_pos (by simpa using hc)] at hd
        rw [hd]
        repeat (refine aw_seq ?_)
        refine aw_region ?_
        refine ao1 (by decide) (w_loadR rfl (lk rfl rfl) rfl rfl rfl) ?_
        refine ao1 (by decide) (V1.up (o_build (cs := [.int _ _, _, .int _ _]) rfl)) ?_
        refine ao2 (by rintro _ ⟨⟩) (w_storeW (sz := 3) rfl rfl rfl rfl rfl rfl rfl rfl (Nat.le_of_ble_eq_true rfl)) ?_
        refine ao2 (by rintro _ ⟨⟩) (w_storeW (sz := 3) rfl rfl rfl rfl rfl rfl rfl rfl (Nat.le_of_ble_eq_true rfl)) ?_
        refine ao1 (by decide) (o_assign (v := .int _ _) rfl) ?_
        refine ao_nil ?_
        try dsimp only [AV.up, put, List.set_cons_zero, List.set_cons_succ]
        repeat (first | refine then_nrm ?_ | refine then_ret ?_ | refine blk_ret ?_ | refine aw_ret ?_)
        exact e_done hB (r_cellR rfl (lk rfl rfl) rfl rfl rfl (r_cellR rfl (lk rfl rfl) rfl rfl rfl (r_tmp rfl .nil))) rfl rfl
      · rw [if_neg (by simpa using hc)] at hd
        rw [hd]
        repeat (first | refine then_nrm ?_ | refine aw_skip ?_)
        refine aw_region ?_
        refine ao1 (by decide) (w_fieldAddr rfl (lk rfl rfl) rfl (by decide)) ?_
        refine ao1 (by decide) (w_load1 (v := .int _ _) rfl (lk rfl rfl) rfl rfl rfl) ?_
        refine ao1 (by decide) (w_fieldAddr rfl (lk rfl rfl) rfl (by decide)) ?_
        refine ao2 (by rintro _ ⟨⟩) (w_storeP (sz := 1) (v := .int _ _) (r' := [_, _, _]) rfl rfl rfl rfl rfl rfl rfl rfl (Nat.le_of_ble_eq_true rfl) rfl) ?_
        refine ao_nil ?_
        try dsimp only [put, Nat.reduceAdd, List.set_cons_zero]
        repeat (first | refine then_nrm ?_ | refine blk_nrm ?_ | refine aw_seq ?_)
        refine aw_drawP mixed none 2 ?_
        try dsimp only [List.take_succ_cons, List.take_zero]
        refine aqp 0 rfl (by decide +kernel) (by decide) (fun G => w_loadR rfl (lk rfl rfl) rfl rfl rfl) ?_
        refine aqp 1 rfl (by decide +kernel) (by decide) (fun G => w_loadR rfl (lk rfl rfl) rfl rfl rfl) ?_
        refine aqs 2 rfl (by decide +kernel) (by exact fun _ => ⟨_, rfl⟩) (by rintro _ ⟨⟩) (w_storeW (sz := 3) rfl rfl rfl rfl rfl rfl rfl rfl (Nat.le_of_ble_eq_true rfl)) ?_
        refine aqs 3 rfl (by decide +kernel) (by exact fun _ => ⟨_, rfl⟩) (by rintro _ ⟨⟩) (w_storeW (sz := 3) rfl rfl rfl rfl rfl rfl rfl rfl (Nat.le_of_ble_eq_true rfl)) ?_
        refine aq0 4 rfl (by decide +kernel) (by decide) (fun _ => o_assign (v := .int _ _) rfl) ?_
        refine aa_done (by decide +kernel) (by exact fun _ => ⟨_, rfl⟩) ?_
        try dsimp only [put, List.set_cons_zero, List.set_cons_succ]
        all_goals
          repeat (first | refine then_nrm ?_ | refine aw_ret ?_)
          exact e_done hB (r_cellR rfl (lk rfl rfl) rfl rfl rfl (r_cellR rfl (lk rfl rfl) rfl rfl rfl (r_tmp rfl .nil))) rfl rfl
end Go.Av

/-
  SETS AS LISTS: two that have the same numbers are one; what is joined, met and taken away, number by number.
-/
namespace Go.Av
theorem sorted_ext : ∀ {a b : List Int}, a.Pairwise (· < ·) → b.Pairwise (· < ·) → (∀ x, x ∈ a ↔ x ∈ b) → a = b
  | [], [], _, _, _ => rfl
  | [], y :: b, _, _, h => absurd ((h y).2 List.mem_cons_self) (by simp)
  | x :: a, [], _, _, h => absurd ((h x).1 List.mem_cons_self) (by simp)
  | x :: a, y :: b, ha, hb, h => by
    rw [List.pairwise_cons] at ha hb
    have e : x = y := by
      rcases List.mem_cons.1 ((h x).1 List.mem_cons_self) with e | e
      · exact e
      · rcases List.mem_cons.1 ((h y).2 List.mem_cons_self) with e' | e'
        · exact e'.symm
        · have := hb.1 x e; have := ha.1 y e'; omega
    subst e
    congr 1
    refine sorted_ext ha.2 hb.2 fun z => ⟨fun hz => ?_, fun hz => ?_⟩
    · rcases List.mem_cons.1 ((h z).1 (List.mem_cons_of_mem _ hz)) with e | e
      · have := ha.1 z hz; omega
      · exact e
    · rcases List.mem_cons.1 ((h z).2 (List.mem_cons_of_mem _ hz)) with e | e
      · have := hb.1 z hz; omega
      · exact e
theorem sok_get_range {l : List Int} (h : sok l = true) {k : Nat} (hk : k < l.length) : 0 ≤ l[k] ∧ l[k] < 256 := okB_range (List.getElem?_eq_getElem hk) (sok_get h hk)
theorem sok_step {l : List Int} (h : sok l = true) {k : Nat} (hk : k + 1 < l.length) : l[k] < l[k + 1] := by
  have h1 := sok_get h hk
  rw [okB_get (List.getElem?_eq_getElem hk)] at h1
  simp only [Nat.add_sub_cancel, List.getElem?_eq_getElem (Nat.lt_of_succ_lt hk), Bool.and_eq_true, Bool.or_eq_true, decide_eq_true_eq, beq_iff_eq] at h1
  omega
theorem sok_sorted {l : List Int} (h : sok l = true) : l.Pairwise (· < ·) := by
  rw [List.pairwise_iff_getElem]
  intro i j hi hj hij
  obtain ⟨d, rfl⟩ : ∃ d, j = i + 1 + d := ⟨j - i - 1, by omega⟩
  induction d with
  | zero => exact sok_step h hj
  | succ d ih =>
    have h1 := ih (by omega) (by omega)
    have h2 := sok_step h (k := i + 1 + d) (by omega)
    exact Int.lt_trans h1 h2
theorem sok_of_sorted {l : List Int} (h : l.Pairwise (· < ·)) (hr : ∀ x ∈ l, 0 ≤ x ∧ x < 256) : sok l = true := by
  refine sok_true fun k hk => ?_
  rw [okB_get (List.getElem?_eq_getElem hk)]
  have h1 := hr l[k] (List.getElem_mem hk)
  simp only [Bool.and_eq_true, Bool.or_eq_true, decide_eq_true_eq, beq_iff_eq]
  refine ⟨h1, ?_⟩
  cases k with
  | zero => exact .inl rfl
  | succ k =>
    refine .inr ?_
    rw [Nat.add_sub_cancel, List.getElem?_eq_getElem (by omega)]
    exact decide_eq_true (List.pairwise_iff_getElem.1 h k (k + 1) (by omega) hk (by omega))
theorem mem_setl {f : Nat → Bool} {x : Int} : x ∈ setl f ↔ ∃ n : Nat, x = n ∧ n < 256 ∧ f n = true := by
  unfold setl
  simp only [List.mem_map, List.mem_filter, List.mem_range]
  constructor
  · rintro ⟨n, ⟨h1, h2⟩, rfl⟩; exact ⟨n, rfl, h1, h2⟩
  · rintro ⟨n, rfl, h1, h2⟩; exact ⟨n, ⟨h1, h2⟩, rfl⟩
theorem setl_sorted (f : Nat → Bool) : (setl f).Pairwise (· < ·) := by
  unfold setl
  rw [List.pairwise_map]
  exact (List.pairwise_lt_range.filter _).imp (by intro a b h; omega)
theorem sok_setl (f : Nat → Bool) : sok (setl f) = true := sok_of_sorted (setl_sorted f) fun x hx => by
  obtain ⟨n, rfl, h, _⟩ := mem_setl.1 hx
  omega
theorem inl_mem {l : List Int} {n : Nat} : inl l n = true ↔ (n : Int) ∈ l := by
  unfold inl
  rw [List.any_eq_true]
  constructor
  · rintro ⟨x, hx, h⟩; obtain rfl : x = n := by simpa using h
    exact hx
  · intro h; exact ⟨_, h, by simp⟩
theorem inl_setl (f : Nat → Bool) (n : Nat) : inl (setl f) n = (decide (n < 256) && f n) := by
  rw [Bool.eq_iff_iff, inl_mem, mem_setl]
  simp only [Bool.and_eq_true, decide_eq_true_eq]
  constructor
  · rintro ⟨m, h, h1, h2⟩; obtain rfl : n = m := by omega
    exact ⟨h1, h2⟩
  · rintro ⟨h1, h2⟩; exact ⟨n, rfl, h1, h2⟩
theorem inl_256 {l : List Int} (h : sok l = true) {n : Nat} (hn : inl l n = true) : n < 256 := by
  obtain ⟨k, hk, e⟩ := List.getElem_of_mem (inl_mem.1 hn)
  have := sok_get_range h hk
  omega
theorem sok_mem {l : List Int} (h : sok l = true) {x : Int} (hx : x ∈ l) : 0 ≤ x ∧ x < 256 := by
  obtain ⟨k, hk, rfl⟩ := List.getElem_of_mem hx
  exact sok_get_range h hk
/-- Sets with the same numbers are one. -/
theorem sok_ext {a b : List Int} (ha : sok a = true) (hb : sok b = true) (h : ∀ n, inl a n = inl b n) : a = b := by
  refine sorted_ext (sok_sorted ha) (sok_sorted hb) fun x => ?_
  constructor
  · intro hx
    have := sok_mem ha hx
    have h1 : inl a x.toNat = true := inl_mem.2 (by rw [Int.toNat_of_nonneg this.1]; exact hx)
    rw [h] at h1
    have := inl_mem.1 h1
    rwa [Int.toNat_of_nonneg (by omega)] at this
  · intro hx
    have := sok_mem hb hx
    have h1 : inl b x.toNat = true := inl_mem.2 (by rw [Int.toNat_of_nonneg this.1]; exact hx)
    rw [← h] at h1
    have := inl_mem.1 h1
    rwa [Int.toNat_of_nonneg (by omega)] at this
theorem setl_nil {f : Nat → Bool} : setl f = [] ↔ ∀ n, n < 256 → f n = false := by
  constructor
  · intro h n hn
    cases hf : f n with
    | false => rfl
    | true =>
      have : (n : Int) ∈ setl f := mem_setl.2 ⟨n, rfl, hn, hf⟩
      rw [h] at this; cases this
  · intro h
    refine List.eq_nil_iff_forall_not_mem.2 fun x hx => ?_
    obtain ⟨n, rfl, h1, h2⟩ := mem_setl.1 hx
    rw [h n h1] at h2; cases h2
theorem sok_nil : sok [] = true := by decide
theorem inl_nil (n : Nat) : inl [] n = false := rfl
end Go.Av

/-
  CODES, plainly: numbers as1 bytes, seven bits a byte; sets as1 runs; what bytes are read as1.
-/
namespace Go.Av
/-- A number, and what is left; or the error. -/
def got (i n : Nat) : List UInt8 → Except Int (Nat × List UInt8)
  | [] => .error 2
  | c :: r =>
    if 8 < i ∨ (0 < i ∧ c = 0) then .error 3
    else if c.toNat < 128 then (if 4611686018427387904 < n + c.toNat % 128 * 128 ^ i then .error 3 else .ok (n + c.toNat % 128 * 128 ^ i, r))
    else got (i + 1) (n + c.toNat % 128 * 128 ^ i) r
def goti (first last : Nat) : List Int := (List.range (last + 1 - first)).map fun k => ((first + k : Nat) : Int)
/-- The runs of a set, one behind the other. -/
def gots : Nat → Bool → Nat → List Int → List UInt8 → Except Int (List Int × List UInt8)
  | 0, _, _, acc, b => .ok (acc, b)
  | m + 1, first, last, acc, b =>
    match got 0 0 b with
    | .error e => .error e
    | .ok (far, b1) =>
      match got 0 0 b1 with
      | .error e => .error e
      | .ok (more, b2) =>
        if far < 256 ∧ more < 256 ∧ last + far + more < 256 ∧ (first = true ∨ 1 < far) then gots m false (last + far + more) (acc ++ goti (last + far) (last + far + more)) b2
        else .error 3
def rset : List UInt8 → Except Int (List Int × List UInt8)
  | [] => .error 2
  | c :: r =>
    if c ≠ 2 then .error 3
    else match got 0 0 r with
      | .error e => .error e
      | .ok (many, b) => if 256 < many then .error 3 else gots many true 0 [] b
def readSet (b : List UInt8) : List Int × Int :=
  if 65536 < b.length then ([], 4)
  else match rset b with
    | .error e => ([], e)
    | .ok (l, r) => if r = [] then (l, 0) else ([], 3)
theorem got_rest {b : List UInt8} : ∀ {i n : Nat} {m : Nat} {r : List UInt8}, got i n b = .ok (m, r) → r.length < b.length ∧ m ≤ 4611686018427387904 := by
  induction b with
  | nil => intro i n m r h; cases h
  | cons c b ih =>
    intro i n m r h
    unfold got at h
    split at h
    · cases h
    split at h
    · split at h
      · cases h
      · cases h; exact ⟨by simp, by omega⟩
    · have := ih h; exact ⟨by simp; omega, this.2⟩
end Go.Av

namespace Go.Av
open Go.Proofs
set_option maxRecDepth 10000
set_option linter.unusedSimpArgs false
set_option linter.unusedVariables false

/-- The type of errors. -/
abbrev TE : Nat := 35
def rdR (H : Heap) (id g : Nat) (res : Except Int (AV × List UInt8)) : AOut → Heap → Prop := fun o H' => match res with
  | .ok (v, rest) => o = .ret v ∧ H' = H.set id ⟨g, 1, [[.pl (rest.map brow)]]⟩
  | .error e => o = .pan (.ifc TE (.int .i64 e)) ∧ ∃ rest : List UInt8, H' = H.set id ⟨g, 1, [[.pl (rest.map brow)]]⟩
theorem set_same {H : Heap} {id : Nat} {o : AObj} (h : H[id]? = some o) : H.set id o = H := by
  obtain ⟨h1, h2⟩ := List.getElem?_eq_some_iff.1 h
  subst h2
  exact List.set_getElem_self h1
theorem e_pan {P : Program} {B : Base} {rs : List ResultVar} {R : AOut → Heap → Prop} {v : AV} {env : Env} {H L M : Heap} {args : List AV} (hB : Begun B H args) (hR : R (.pan v) M) (hb : v.bel H.length = true) (hl : M.length = H.length) (hM : HBel H.length M) : Ends P B rs R (.pan v) env (M ++ L) :=
  ⟨M, .inr ⟨L, rfl, by rw [hB.len, hl]; exact Nat.le_refl _, by rw [hl]; exact hb, by rw [hl]; exact hM⟩, hR⟩
theorem e_ret {P : Program} {B : Base} {rs : List ResultVar} {R : AOut → Heap → Prop} {vs : List AV} {v : AV} {env : Env} {H L M : Heap} {args : List AV} (hB : Begun B H args) (h : ResVs P env (M ++ L) rs vs) (hv : tupv vs = v) (hR : R (.ret v) M) (hb : v.bel H.length = true) (hl : M.length = H.length) (hM : HBel H.length M) : Ends P B rs R .ret env (M ++ L) :=
  ⟨vs, M, h, .inr ⟨L, rfl, by rw [hB.len, hl]; exact Nat.le_refl _, by rw [hv, hl]; exact hb, by rw [hl]; exact hM⟩, by rw [hv]; exact hR⟩
theorem bytes_bel1 (n : Nat) (l : List UInt8) : AV.bels n [AV.pl (l.map brow)] = true := rfl
theorem join_pan {B : Base} {E : Env} {M : Heap} {Q : Post} {v : AV} {env : Env} {H : Heap} (h : Q (.pan v) env H) : JoinP B E M Q (.pan v) env H := h
def needR (b : Bool) (e : Int) (H : Heap) : AOut → Heap → Prop := fun o H' => H' = H ∧ o = if b then .ret (.tup []) else .pan (.ifc TE (.int .i64 e))
theorem bytes_len1 (l : List UInt8) : ∀ r ∈ l.map brow, r.length = 1 := rows_len (e := brow) (n := 1) (fun _ => rfl) l
theorem code_need (b : Bool) (e : Int) (H : Heap) : AC Tryd.prog 68 [.bool b, .int .i64 e] H (needR b e H) := by
  refine AC.body (N := 8) [] Tryd.func68 rfl rfl rfl (Nat.le_of_ble_eq_true rfl) fun B hB => ?_
  repeat (refine aw_seq ?_)
  refine aw_region ?_
  refine ao1 (by decide) (o_move (v := .bool _) rfl) ?_
  refine ao1 (by decide) (o_not rfl) ?_
  refine ao_nil ?_
  repeat (refine then_nrm ?_)
  refine aw_cond rfl (fun hc => ?_) (fun hc => ?_)
  · have hb : b = false := by simpa using hc
    subst hb
    refine aw_region ?_
    refine ao1 (by decide) (o_move (v := .int _ _) rfl) ?_
    refine ao1 (by decide) (o_makeIface (v := .int _ _) rfl) ?_
    refine ao_panic rfl ?_ (by rintro _ ⟨⟩)
    exact e_pan hB ⟨rfl, rfl⟩ rfl rfl hB.heap
  · have hb : b = true := by simpa using hc
    subst hb
    repeat (refine aw_skip ?_)
    exact e_ret (vs := []) hB .nil rfl ⟨rfl, rfl⟩ rfl rfl hB.heap
theorem code_needT (e : Int) (H : Heap) : AC Tryd.prog 68 [.bool true, .int .i64 e] H (Ret (.tup []) H) := (code_need true e H).mono fun o H' h => ⟨h.2, h.1⟩
theorem code_needF (e : Int) (H : Heap) : AC Tryd.prog 68 [.bool false, .int .i64 e] H (fun o H' => H' = H ∧ o = .pan (.ifc TE (.int .i64 e))) := code_need false e H
def nextS : List UInt8 → Except Int (AV × List UInt8) | [] => .error 2 | c :: r => .ok (.int .u8 c.toNat, r)
theorem code_next (bs : List UInt8) (H : Heap) (id g : Nat) (hF : H[id]? = some ⟨g, 1, [[.pl (bs.map brow)]]⟩) : AC Tryd.prog 73 [.pt id g 0 0] H (rdR H id g (nextS bs)) := by
  refine AC.body (N := 26) [.tmp 2] Tryd.func73 rfl rfl rfl (Nat.le_of_ble_eq_true rfl) fun B hB => ?_
  repeat (refine aw_seq ?_)
  refine aw_region ?_
  refine ao1 (by decide) (o_assign (v := .int _ _) rfl) ?_
  refine ao_nil ?_
  cases bs with
  | nil =>
    repeat (first | refine then_nrm ?_ | refine aw_seq ?_)
    refine aw_region ?_
    refine ao1 (by decide) (o_move (v := .pt _ _ _ _) rfl) ?_
    refine ao1 (by decide) (w_nilCheck rfl (lkF hF) rfl) ?_
    refine ao1 (by decide) (w_fieldAddr rfl (lkF hF) rfl (by decide)) ?_
    refine ao1 (by decide) (w_load1 (v := .pl _) rfl (lkF hF) rfl rfl rfl) ?_
    refine ao1 (by decide) (o_lenp rfl) ?_
    refine ao1 (by decide) (o_gt rfl rfl) ?_
    refine ao_call (vs := [.bool false, .int .i64 2]) rfl (by decide) (code_needF 2 _) (by rintro v H' ⟨_, h⟩; cases h) (by rintro v H' ⟨rfl, h⟩; cases h; (repeat (refine then_pan ?_)); exact e_pan hB ⟨rfl, [], (set_same hF).symm⟩ rfl rfl hB.heap)
  | cons c r =>
    repeat (first | refine then_nrm ?_ | refine aw_seq ?_)
    refine aw_region ?_
    refine ao1 (by decide) (o_move (v := .pt _ _ _ _) rfl) ?_
    refine ao1 (by decide) (w_nilCheck rfl (lkF hF) rfl) ?_
    refine ao1 (by decide) (w_fieldAddr rfl (lkF hF) rfl (by decide)) ?_
    refine ao1 (by decide) (w_load1 (v := .pl _) rfl (lkF hF) rfl rfl rfl) ?_
    refine ao1 (by decide) (o_lenp rfl) ?_
    refine ao1 (by decide) (o_gt rfl rfl) ?_
    refine ao_ret (code_needT 2 _) (by show [AV.bool (decide (0 < (((c :: r).map brow).length : Int))), AV.int .i64 2] = _; simp) (by decide) ?_
    refine ao_nil ?_
    try dsimp only [Nat.reduceAdd]
    have hr : ((c :: r).map brow)[(0 : Int).toNat]? = some (brow c) := rfl
    repeat (first | refine then_nrm ?_ | refine aw_seq ?_)
    refine aw_region ?_
    refine ao1 (by decide) (o_move (v := .pt _ _ _ _) rfl) ?_
    refine ao1 (by decide) (w_nilCheck rfl (lkF hF) rfl) ?_
    refine ao1 (by decide) (w_fieldAddr rfl (lkF hF) rfl (by decide)) ?_
    refine ao1 (by decide) (w_load1 (v := .pl _) rfl (lkF hF) rfl rfl rfl) ?_
    refine ao1 (by decide) (w_indexAddrpN rfl rfl hr rfl) ?_
    refine ao1 (by decide) (o_load1p (v := .int _ _) rfl hr rfl) ?_
    refine ao1 (by decide) (o_assign (v := .int _ _) rfl) ?_
    refine ao_nil ?_
    try dsimp only [Nat.reduceAdd]
    repeat (first | refine then_nrm ?_ | refine aw_seq ?_)
    refine aw_region ?_
    refine ao1 (by decide) (o_move (v := .pt _ _ _ _) rfl) ?_
    refine ao1 (by decide) (o_move (v := .pt _ _ _ _) rfl) ?_
    refine ao1 (by decide) (w_nilCheck rfl (lkF hF) rfl) ?_
    refine ao1 (by decide) (w_fieldAddr rfl (lkF hF) rfl (by decide)) ?_
    refine ao1 (by decide) (w_load1 (v := .pl _) rfl (lkF hF) rfl rfl rfl) ?_
    refine ao1 (by decide) (o_slicep (sz := 1) (l := 1) (h := r.length + 1) rfl (.some rfl rfl) (by simpa using Bd.none) (by omega) (by simp) (bytes_len1 _)) ?_
    refine ao1 (by decide) (w_nilCheck rfl (lkF hF) rfl) ?_
    refine ao1 (by decide) (w_fieldAddr rfl (lkF hF) rfl (by decide)) ?_
    refine ao2 (by rintro _ ⟨⟩) (w_storeFP (sz := 1) (v := .pl _) (r' := [.pl (r.map brow)]) rfl hF rfl rfl rfl rfl rfl (Nat.le_refl 1) (by simp [List.take_of_length_le, AV.cells])) ?_
    refine ao_nil ?_
    try dsimp only [put, Nat.reduceAdd, List.set_cons_zero]
    repeat (first | refine then_nrm ?_ | refine aw_seq ?_)
    refine aw_region ?_
    refine ao1 (by decide) (o_move (v := .int _ _) rfl) ?_
    refine ao1 (by decide) (o_assign (v := .int _ _) rfl) ?_
    refine ao_nil ?_
    repeat (first | refine then_nrm ?_ | refine aw_ret ?_)
    exact e_ret hB (r_tmp rfl .nil) rfl ⟨rfl, rfl⟩ rfl (by simp) (HBel.set hB.heap _ _ (by simp [AV.bels, AV.bel]))
/-! ### the reader's row -/
def Hs (H : Heap) (id g : Nat) (bs : List UInt8) : Heap := H.set id ⟨g, 1, [[.pl (bs.map brow)]]⟩
theorem hs_get {H : Heap} {id g : Nat} {bs : List UInt8} (h : id < H.length) : (Hs H id g bs)[id]? = some ⟨g, 1, [[.pl (bs.map brow)]]⟩ := by
  unfold Hs; rw [List.getElem?_set_self h]
theorem hs_hs (H : Heap) (id g : Nat) (bs cs : List UInt8) : Hs (Hs H id g bs) id g cs = Hs H id g cs := by unfold Hs; rw [List.set_set]
theorem hs_app {H L : Heap} {id g : Nat} {bs : List UInt8} (h : id < H.length) : Hs (H ++ L) id g bs = Hs H id g bs ++ L := by unfold Hs; rw [List.set_append_left _ _ h]
theorem hs_len (H : Heap) (id g : Nat) (bs : List UInt8) : (Hs H id g bs).length = H.length := by unfold Hs; rw [List.length_set]
theorem hs_self {H : Heap} {id g : Nat} {bs : List UInt8} (hF : H[id]? = some ⟨g, 1, [[.pl (bs.map brow)]]⟩) : Hs H id g bs = H := set_same hF
theorem hs_bel {n : Nat} {H : Heap} (h : HBel n H) (id g : Nat) (bs : List UInt8) : HBel n (Hs H id g bs) := HBel.set h _ _ (by simp [AV.bels, AV.bel])
/-- What reading comes to: a value, and what is left; or a panic with an error. -/
def rdS (H : Heap) (id g : Nat) (res : Except Int (AV × List UInt8)) : AOut → Heap → Prop := fun o H' => match res with
  | .ok (v, rest) => o = .ret v ∧ H' = Hs H id g rest
  | .error e => o = .pan (.ifc TE (.int .i64 e)) ∧ ∃ rest : List UInt8, H' = Hs H id g rest
theorem AC.rd {P : Program} {f : FuncId} {args : List AV} {H : Heap} {id g : Nat} {bs : List UInt8} {res : Except Int (AV × List UInt8)} (h : AC P f args (Hs H id g bs) (rdR (Hs H id g bs) id g res)) : AC P f args (Hs H id g bs) (rdS H id g res) := h.mono fun o H' k => by
  cases res with
  | ok x => obtain ⟨k1, k2⟩ := k; exact ⟨k1, by rw [k2]; exact hs_hs _ _ _ _ _⟩
  | error e => obtain ⟨k1, r, k2⟩ := k; exact ⟨k1, r, by rw [k2]; exact hs_hs _ _ _ _ _⟩
section
variable {P : Program} {N : Nat} {B : Base} {Q : Post} {env : Env} {H L : Heap} {ty : TypeId} {ops : Array Oper} {rest : List Oper}
/-- A call that reads. -/
theorem ao_rd {d f id g : Nat} {xs : Array Operand} {ts : Array TypeId} {pos : String} {after : Array Edge} {vs : List AV} {bs : List UInt8} {res : Except Int (AV × List UInt8)} [FnI P f] (hvs : xs.toList.map (aev env) = vs) (hd : d < N) (hlt : id < H.length) (hac : ∀ H, id < H.length → AC P f vs (Hs H id g bs) (rdS H id g res))
    (hK : ∀ v r, res = .ok (v, r) → AOps P N B ops rest Q ((d, v) :: env) (Hs H id g r ++ L)) (hX : ∀ e r, res = .error e → Q (.pan (.ifc TE (.int .i64 e))) env (Hs H id g r ++ L)) :
    AOps P N B ops (⟨some d, .call { callee := .value (.func f), args := xs, argTypes := ts }, ty, pos, after, none⟩ :: rest) Q env (Hs H id g bs ++ L) := by
  have hlt' : id < (H ++ L).length := by rw [List.length_append]; omega
  have h := hac (H ++ L) hlt'
  rw [hs_app hlt] at h
  refine ao_call hvs hd h ?_ ?_
  · rintro v H' h
    cases res with
    | ok x => obtain ⟨h1, h2⟩ := h; cases h1; rw [h2, hs_app hlt]; exact hK _ _ rfl
    | error e => obtain ⟨h1, _⟩ := h; cases h1
  · rintro v H' h
    cases res with
    | ok x => obtain ⟨h1, _⟩ := h; cases h1
    | error e => obtain ⟨h1, r, h2⟩ := h; cases h1; rw [h2, hs_app hlt]; exact hX _ _ rfl
/-- It needs something. -/
theorem ao_need {d f : Nat} {xs : Array Operand} {ts : Array TypeId} {pos : String} {after : Array Edge} {b : Bool} {e : Int} {H : Heap} [FnI P f] (hvs : xs.toList.map (aev env) = [.bool b, .int .i64 e]) (hd : d < N) (hac : ∀ b e H, AC P f [.bool b, .int .i64 e] H (needR b e H))
    (hK : b = true → AOps P N B ops rest Q ((d, .tup []) :: env) H) (hX : b = false → Q (.pan (.ifc TE (.int .i64 e))) env H) :
    AOps P N B ops (⟨some d, .call { callee := .value (.func f), args := xs, argTypes := ts }, ty, pos, after, none⟩ :: rest) Q env H := by
  refine ao_call hvs hd (hac b e H) ?_ ?_
  · rintro v H' ⟨rfl, h⟩
    cases b with
    | true => cases h; exact hK rfl
    | false => cases h
  · rintro v H' ⟨rfl, h⟩
    cases b with
    | true => cases h
    | false => cases h; exact hX rfl
theorem e_rdX {args : List AV} {rs : List ResultVar} {id g : Nat} {bs r : List UInt8} {e : Int} {res : Except Int (AV × List UInt8)} (hB : Begun B (Hs H id g bs) args) (hr : res = .error e) : Ends P B rs (rdS H id g res) (.pan (.ifc TE (.int .i64 e))) env (Hs H id g r ++ L) := by
  subst hr
  have hbel := hs_bel hB.heap id g r
  rw [hs_hs] at hbel
  exact e_pan hB ⟨rfl, r, rfl⟩ rfl (by rw [hs_len, hs_len]) hbel
theorem e_rd {args : List AV} {rs : List ResultVar} {vs : List AV} {v : AV} {id g : Nat} {bs r : List UInt8} {res : Except Int (AV × List UInt8)} (hB : Begun B (Hs H id g bs) args) (h : ResVs P env (Hs H id g r ++ L) rs vs) (hv : tupv vs = v) (hr : res = .ok (v, r)) (hb : v.bel H.length = true) : Ends P B rs (rdS H id g res) .ret env (Hs H id g r ++ L) := by
  subst hr
  have hbel := hs_bel hB.heap id g r
  rw [hs_hs] at hbel
  exact e_ret hB h hv ⟨rfl, rfl⟩ (by rw [hs_len]; exact hb) (by rw [hs_len, hs_len]) hbel
end
theorem code_nextS (bs : List UInt8) (id g : Nat) (H : Heap) (h : id < H.length) : AC Tryd.prog 73 [.pt id g 0 0] (Hs H id g bs) (rdS H id g (nextS bs)) := (code_next bs _ id g (hs_get h)).rd
def kindS (k : Int) : List UInt8 → Except Int (AV × List UInt8) | [] => .error 2 | c :: r => if (c.toNat : Int) = k then .ok (.tup [], r) else .error 3
theorem code_kind (bs : List UInt8) (k : Int) (id g : Nat) (H : Heap) (h : id < H.length) : AC Tryd.prog 69 [.pt id g 0 0, .int .u8 k] (Hs H id g bs) (rdS H id g (kindS k bs)) := by
  refine AC.body (N := 9) [] Tryd.func69 rfl rfl rfl (Nat.le_of_ble_eq_true rfl) fun B hB => ?_
  cases bs with
  | nil =>
    refine aw_region ?_
    refine ao1 (by decide) (o_move (v := .pt _ _ _ _) rfl) ?_
    refine ao_rd rfl (by decide) h (code_nextS [] id g) (by rintro v r e; cases e) (by rintro e r e1; cases e1; (repeat (fail)); exact e_rdX hB rfl)
  | cons c r =>
    refine aw_region ?_
    refine ao1 (by decide) (o_move (v := .pt _ _ _ _) rfl) ?_
    refine ao_rd rfl (by decide) h (code_nextS (c :: r) id g) (fun v r' e => ?_) (by rintro e r e1; cases e1); cases e
    refine ao1 (by decide) (o_move (v := .int _ _) rfl) ?_
    refine ao1 (by decide) (o_eq rfl rfl) ?_
    refine ao_need rfl (by decide) code_need (fun hb => ?_) (fun hb => (by (repeat (fail)); exact e_rdX hB (by simp only [kindS]; rw [if_neg (by simpa using hb)])))
    refine ao_nil ?_
    exact e_rd hB .nil rfl (by simp only [kindS]; rw [if_pos (by simpa using hb)]; rfl) rfl
end Go.Av

