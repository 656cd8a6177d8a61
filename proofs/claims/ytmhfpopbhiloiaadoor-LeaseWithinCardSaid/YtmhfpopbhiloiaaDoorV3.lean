/- A part of the proof: walks through the program over abstract values. -/
import Derived.Test.YtmhfpopbhiloiaaDoorV2
namespace Go.Av
open Go.Proofs
set_option maxRecDepth 10000
set_option linter.unusedSimpArgs false
set_option linter.unusedVariables false

theorem words_zero (f : Nat → Bool) : ((List.range 4).all fun k => wd f k == 0) = decide (setl f = []) := by
  rw [Bool.eq_iff_iff, List.all_eq_true, decide_eq_true_eq, setl, List.map_eq_nil_iff, List.filter_eq_nil_iff]
  simp only [List.mem_range, beq_iff_eq, wd_eq_zero]
  constructor
  · intro h n hn
    have := h (n / 64) (by omega) (n % 64) (by omega)
    rw [show 64 * (n / 64) + n % 64 = n by omega] at this
    simp [this]
  · intro h k hk j hj
    have := h (64 * k + j) (by omega)
    simpa using this
theorem all_range_step {p : Nat → Bool} (k : Nat) : (List.range (k + 1)).all p = ((List.range k).all p && p k) := by
  rw [List.range_succ, List.all_append]; simp
def spart (a b : List Int) : Bool := sok a && sok b && decide (setl (fun n => inl a n && !inl b n) = [])
def sapart (a b : List Int) : Bool := sok a && sok b && decide (setl (fun n => inl a n && inl b n) = [])
theorem set_Part (a b : List Int) (ha : a.length ≤ 1000000) (hb : b.length ≤ 1000000) (H : Heap) : AC Tryd.prog 24 [.pl (a.map eInt), .pl (b.map eInt)] H (Ret (.bool (spart a b)) H) := by
  refine AC.body (N := 32) [.tmp 4] Tryd.func24 rfl rfl rfl (Nat.le_of_ble_eq_true rfl) fun B hB => ?_
  repeat (first | refine join_ret ?_ | refine join_brk ?_ | refine then_nrm ?_ | refine blk_nrm ?_ | refine then_brk ?_ | refine blk_hit ?_ | refine blk_miss rfl ?_ | refine then_ret ?_ | refine blk_ret ?_ | refine aw_seq ?_ | refine aw_block ?_ | refine aw_skip ?_ | refine aw_exit ?_ | refine aw_scope ?_ | refine aw_ret ?_)
  refine aw_region ?_
  refine ao1 (by decide) (o_assign (v := .bool _) rfl) ?_
  refine ao_nil ?_
  try dsimp only [List.set_cons_zero, List.set_cons_succ, List.cons_append, List.nil_append, List.take_succ_cons, List.take_zero, List.drop_succ_cons, List.drop_zero, AV.cells, List.length_nil, List.length_cons, Av.put, Nat.reduceAdd, AV.up, AV.up1, List.map_cons, List.map_nil]
  repeat (first | refine join_ret ?_ | refine join_brk ?_ | refine then_nrm ?_ | refine blk_nrm ?_ | refine then_brk ?_ | refine blk_hit ?_ | refine blk_miss rfl ?_ | refine then_ret ?_ | refine blk_ret ?_ | refine aw_seq ?_ | refine aw_block ?_ | refine aw_skip ?_ | refine aw_exit ?_ | refine aw_scope ?_ | refine aw_ret ?_)
  refine aw_region ?_
  first | refine ao1 (by decide) (o_move (v := .sl _ _ _ _ _) rfl) ?_ | refine ao1 (by decide) (o_move (v := .pl _) rfl) ?_ | refine ao1 (by decide) (o_move (v := .nsl) rfl) ?_
  first | refine ao1 (by decide) (o_move (v := .sl _ _ _ _ _) rfl) ?_ | refine ao1 (by decide) (o_move (v := .pl _) rfl) ?_ | refine ao1 (by decide) (o_move (v := .nsl) rfl) ?_
  refine ao_ret (set_both _ _ (by assumption) (by assumption) _) rfl (by decide) ?_
  refine ao1 (by decide) (o_move (v := .tup _) rfl) ?_
  refine ao1 (by decide) (o_extract (v := .agg _) rfl rfl) ?_
  refine ao1 (by decide) (o_extract (v := .agg _) rfl rfl) ?_
  refine ao1 (by decide) (o_extract (v := .bool _) rfl rfl) ?_
  refine ao2 (by rintro _ ⟨⟩; decide) (o_allocL (sz := 4) rfl (by decide) rfl) ?_
  refine ao2 (by rintro _ ⟨⟩; decide) (o_allocL (sz := 4) rfl (by decide) rfl) ?_
  refine ao2 (by rintro _ ⟨⟩) (w_storeW (sz := 4) rfl rfl rfl rfl rfl rfl (eWn_len _) rfl (Nat.le_of_ble_eq_true rfl)) ?_
  refine ao2 (by rintro _ ⟨⟩) (w_storeW (sz := 4) rfl rfl rfl rfl rfl rfl (eWn_len _) rfl (Nat.le_of_ble_eq_true rfl)) ?_
  refine ao1 (by decide) (o_assign (v := .bool _) rfl) ?_
  refine ao_nil ?_
  try dsimp only [List.set_cons_zero, List.set_cons_succ, List.cons_append, List.nil_append, List.take_succ_cons, List.take_zero, List.drop_succ_cons, List.drop_zero, AV.cells, List.length_nil, List.length_cons, Av.put, Nat.reduceAdd, AV.up, AV.up1, List.map_cons, List.map_nil]
  repeat (first | refine join_ret ?_ | refine join_brk ?_ | refine then_nrm ?_ | refine blk_nrm ?_ | refine then_brk ?_ | refine blk_hit ?_ | refine blk_miss rfl ?_ | refine then_ret ?_ | refine blk_ret ?_ | refine aw_seq ?_ | refine aw_block ?_ | refine aw_skip ?_ | refine aw_exit ?_ | refine aw_scope ?_ | refine aw_ret ?_)
  refine aw_region ?_
  refine ao1 (by decide) (o_move (v := .int _ _) rfl) ?_
  refine ao_nil ?_
  try dsimp only [List.set_cons_zero, List.set_cons_succ, List.cons_append, List.nil_append, List.take_succ_cons, List.take_zero, List.drop_succ_cons, List.drop_zero, AV.cells, List.length_nil, List.length_cons, Av.put, Nat.reduceAdd, AV.up, AV.up1, List.map_cons, List.map_nil]
  repeat (first | refine join_ret ?_ | refine join_brk ?_ | refine then_nrm ?_ | refine blk_nrm ?_ | refine then_brk ?_ | refine blk_hit ?_ | refine blk_miss rfl ?_ | refine then_ret ?_ | refine blk_ret ?_ | refine aw_seq ?_ | refine aw_block ?_ | refine aw_skip ?_ | refine aw_exit ?_ | refine aw_scope ?_)
  refine aw_loop (G := Nat) (fun k => k ≤ 4) (fun k => [(5, .pt (Lid H.length 0) 0 0 0), (6, .pt (Lid H.length 1) 0 0 0), (7, .bool (sok a && sok b && (List.range k).all fun i => wd (fun n => fpre a (okn a) n && !fpre b (okn b) n) i == 0)), (16, .int .i64 (k : Int))]) (fun _ => H ++ [⟨0, 4, [eWn (pof a)]⟩, ⟨0, 4, [eWn (pof b)]⟩]) (fun k => 4 - k) 0 (Nat.zero_le _) (by simp only [List.range_zero, List.all_nil, Bool.and_true]; exact (by repeat (first | exact Sub.nil | refine Sub.cons (by first | rfl | (simp [get]; done)) ?_))) (Fit.refl _ _) ?_
  intro k hk
  repeat (first | refine join_ret ?_ | refine join_brk ?_ | refine then_nrm ?_ | refine blk_nrm ?_ | refine then_brk ?_ | refine blk_hit ?_ | refine blk_miss rfl ?_ | refine then_ret ?_ | refine blk_ret ?_ | refine aw_seq ?_ | refine aw_block ?_ | refine aw_skip ?_ | refine aw_exit ?_ | refine aw_scope ?_ | refine aw_ret ?_)
  refine aw_region ?_
  refine ao1 (by decide) (o_lt rfl rfl) ?_
  refine ao_nil ?_
  try dsimp only [List.set_cons_zero, List.set_cons_succ, List.cons_append, List.nil_append, List.take_succ_cons, List.take_zero, List.drop_succ_cons, List.drop_zero, AV.cells, List.length_nil, List.length_cons, Av.put, Nat.reduceAdd, AV.up, AV.up1, List.map_cons, List.map_nil]
  repeat (first | refine join_ret ?_ | refine join_brk ?_ | refine then_nrm ?_ | refine blk_nrm ?_ | refine then_brk ?_ | refine blk_hit ?_ | refine blk_miss rfl ?_ | refine then_ret ?_ | refine blk_ret ?_ | refine aw_seq ?_ | refine aw_block ?_ | refine aw_skip ?_ | refine aw_exit ?_ | refine aw_scope ?_ | refine aw_ret ?_)
  refine aw_cond rfl (fun hc => ?_) (fun hc => ?_)
  · have hk4 : k < 4 := by simp at hc; omega
    have hx : (eWn (pof a))[0 + k * 1]? = some (.int .u64 ((wd (fpre a (okn a)) k : Nat) : Int)) := by rw [Nat.zero_add, Nat.mul_one]; exact eWn_get _ hk4
    have hy : (eWn (pof b))[0 + k * 1]? = some (.int .u64 ((wd (fpre b (okn b)) k : Nat) : Int)) := by rw [Nat.zero_add, Nat.mul_one]; exact eWn_get _ hk4
    repeat (first | refine join_ret ?_ | refine join_brk ?_ | refine then_nrm ?_ | refine blk_nrm ?_ | refine then_brk ?_ | refine blk_hit ?_ | refine blk_miss rfl ?_ | refine then_ret ?_ | refine blk_ret ?_ | refine aw_seq ?_ | refine aw_block ?_ | refine aw_skip ?_ | refine aw_exit ?_ | refine aw_scope ?_ | refine aw_ret ?_)
    refine aw_region ?_
    refine ao1 (by decide) (o_move (v := .int _ _) rfl) ?_
    refine ao1 (by decide) (o_assign (v := .int _ _) rfl) ?_
    refine ao_nil ?_
    try dsimp only [List.set_cons_zero, List.set_cons_succ, List.cons_append, List.nil_append, List.take_succ_cons, List.take_zero, List.drop_succ_cons, List.drop_zero, AV.cells, List.length_nil, List.length_cons, Av.put, Nat.reduceAdd, AV.up, AV.up1, List.map_cons, List.map_nil]
    repeat (first | refine join_ret ?_ | refine join_brk ?_ | refine then_nrm ?_ | refine blk_nrm ?_ | refine then_brk ?_ | refine blk_hit ?_ | refine blk_miss rfl ?_ | refine then_ret ?_ | refine blk_ret ?_ | refine aw_seq ?_ | refine aw_block ?_ | refine aw_skip ?_ | refine aw_exit ?_ | refine aw_scope ?_ | refine aw_ret ?_)
    refine aw_of_out 7 (.bool (sok a && sok b && (List.range (k + 1)).all fun i => wd (fun n => fpre a (okn a) n && !fpre b (okn b) n) i == 0)) ?_ ?_
    · refine aw_drawP mixed none 2 ?_
      try dsimp only [List.take_succ_cons, List.take_zero, List.take_nil, List.set_cons_zero, List.set_cons_succ, List.cons_append, List.nil_append]
      refine aq0 0 rfl (by decide +kernel) (by decide) (fun _ => o_move (v := .bool _) rfl) ?_
      refine aq0 1 rfl (by decide +kernel) (by decide) (fun _ => o_move (v := .bool _) rfl) ?_
      refine aq_split (g := 20) rfl (fun hg1 => ?_) (fun hg1 => ?_)
      · refine aqy0 (g := 20) 2 rfl (by decide +kernel) (by decide) rfl rfl (fun _ => o_move (v := .int _ _) rfl) ?_
        refine aqyp (g := 20) 3 rfl (by decide +kernel) (by decide) rfl rfl (fun G => w_indexArrN rfl (lk rfl rfl) rfl rfl hk4) ?_
        refine aqyp (g := 20) 4 rfl (by decide +kernel) (by decide) rfl rfl (fun G => w_load1 (v := .int .u64 _) rfl (lk rfl rfl) rfl rfl hx) ?_
        refine aqy0 (g := 20) 5 rfl (by decide +kernel) (by decide) rfl rfl (fun _ => o_move (v := .int _ _) rfl) ?_
        refine aqyp (g := 20) 6 rfl (by decide +kernel) (by decide) rfl rfl (fun G => w_indexArrN rfl (lk rfl rfl) rfl rfl hk4) ?_
        refine aqyp (g := 20) 7 rfl (by decide +kernel) (by decide) rfl rfl (fun G => w_load1 (v := .int .u64 _) rfl (lk rfl rfl) rfl rfl hy) ?_
        refine aqy0 (g := 20) 8 rfl (by decide +kernel) (by decide) rfl rfl (fun _ => o_andNot (r := ((wd (fun n => fpre a (okn a) n && !fpre b (okn b) n) k : Nat) : Int)) rfl rfl (u64_andNot _ _ _)) ?_
        refine aqy0 (g := 20) 9 rfl (by decide +kernel) (by decide) rfl rfl (fun _ => o_eq rfl rfl) ?_
        first | refine aq0 10 rfl (by decide +kernel) (by decide) (fun _ => o_pick_t (v := .bool _) rfl rfl) ?_ | refine aq0 10 rfl (by decide +kernel) (by decide) (fun _ => o_pick_f (v := .bool _) rfl rfl) ?_ | refine aq0 10 rfl (by decide +kernel) (by decide) (fun _ => o_pick_b rfl rfl rfl) ?_
        refine aq0 11 rfl (by decide +kernel) (by decide) (fun _ => o_assign (v := .bool _) rfl) ?_
        exact aa_done (by decide +kernel) (by first | exact fun _ => trivial | exact fun _ => ⟨_, rfl⟩ | exact fun _ => ⟨_, rfl, rfl⟩ | exact fun _ => ⟨_, rfl, rfl, rfl⟩ | exact yet_done (by decide +kernel)) (Out.mk (by first | rfl | (refine congrArg AV.bool ?_; (rw [all_range_step]; generalize ((List.range k).all fun i => wd (fun n => fpre a (okn a) n && !fpre b (okn b) n) i == 0) = q at *; generalize wd (fun n => fpre a (okn a) n && !fpre b (okn b) n) k = m at *; rw [← Bool.and_assoc]; first | (simp_all; done) | (rw [Bool.eq_iff_iff]; simp_all; omega) | grind))) (by repeat (first | exact SubX.refl _ _ | refine SubX.at ?_ | refine SubX.put rfl ?_ | refine SubX.put_same rfl ?_)))
      · refine aqn0 (g := 20) 2 rfl (by decide +kernel) (by decide) rfl rfl rfl ?_
        refine aqn0 (g := 20) 3 rfl (by decide +kernel) (by decide) rfl rfl rfl ?_
        refine aqn0 (g := 20) 4 rfl (by decide +kernel) (by decide) rfl rfl rfl ?_
        refine aqn0 (g := 20) 5 rfl (by decide +kernel) (by decide) rfl rfl rfl ?_
        refine aqn0 (g := 20) 6 rfl (by decide +kernel) (by decide) rfl rfl rfl ?_
        refine aqn0 (g := 20) 7 rfl (by decide +kernel) (by decide) rfl rfl rfl ?_
        refine aqn0 (g := 20) 8 rfl (by decide +kernel) (by decide) rfl rfl rfl ?_
        refine aqn0 (g := 20) 9 rfl (by decide +kernel) (by decide) rfl rfl rfl ?_
        first | refine aq0 10 rfl (by decide +kernel) (by decide) (fun _ => o_pick_t (v := .bool _) rfl rfl) ?_ | refine aq0 10 rfl (by decide +kernel) (by decide) (fun _ => o_pick_f (v := .bool _) rfl rfl) ?_ | refine aq0 10 rfl (by decide +kernel) (by decide) (fun _ => o_pick_b rfl rfl rfl) ?_
        refine aq0 11 rfl (by decide +kernel) (by decide) (fun _ => o_assign (v := .bool _) rfl) ?_
        exact aa_done (by decide +kernel) (by first | exact fun _ => trivial | exact fun _ => ⟨_, rfl⟩ | exact fun _ => ⟨_, rfl, rfl⟩ | exact fun _ => ⟨_, rfl, rfl, rfl⟩ | exact yet_done (by decide +kernel)) (Out.mk (by first | rfl | (refine congrArg AV.bool ?_; (rw [all_range_step]; generalize ((List.range k).all fun i => wd (fun n => fpre a (okn a) n && !fpre b (okn b) n) i == 0) = q at *; generalize wd (fun n => fpre a (okn a) n && !fpre b (okn b) n) k = m at *; rw [← Bool.and_assoc]; first | (simp_all; done) | (rw [Bool.eq_iff_iff]; simp_all; omega) | grind))) (by repeat (first | exact SubX.refl _ _ | refine SubX.at ?_ | refine SubX.put rfl ?_ | refine SubX.put_same rfl ?_)))
    repeat (first | refine join_ret ?_ | refine join_brk ?_ | refine then_nrm ?_ | refine blk_nrm ?_ | refine then_brk ?_ | refine blk_hit ?_ | refine blk_miss rfl ?_ | refine then_ret ?_ | refine blk_ret ?_ | refine aw_seq ?_ | refine aw_block ?_ | refine aw_skip ?_ | refine aw_exit ?_ | refine aw_scope ?_ | refine aw_ret ?_)
    refine aw_region ?_
    first | refine ao1 (by decide) (o_add rfl rfl (wrap64_ok (by omega) (by omega))) ?_ | refine ao1 (by decide) (o_add rfl rfl rfl) ?_
    refine ao1 (by decide) (o_move (v := .int _ _) rfl) ?_
    refine ao_nil ?_
    try dsimp only [List.set_cons_zero, List.set_cons_succ, List.cons_append, List.nil_append, List.take_succ_cons, List.take_zero, List.drop_succ_cons, List.drop_zero, AV.cells, List.length_nil, List.length_cons, Av.put, Nat.reduceAdd, AV.up, AV.up1, List.map_cons, List.map_nil]
    repeat (first | refine join_ret ?_ | refine join_brk ?_ | refine then_nrm ?_ | refine blk_nrm ?_ | refine then_brk ?_ | refine blk_hit ?_ | refine blk_miss rfl ?_ | refine then_ret ?_ | refine blk_ret ?_ | refine aw_seq ?_ | refine aw_block ?_ | refine aw_skip ?_ | refine aw_exit ?_ | refine aw_scope ?_ | refine aw_ret ?_)
    exact ⟨k + 1, by omega, by omega, (by repeat (first | exact Sub.nil | refine Sub.cons (by first | rfl | (simp [get]; done)) ?_)), .refl _ _⟩
  · have : k = 4 := by simp at hc; omega
    subst this
    rw [words_zero]
    repeat (first | refine join_ret ?_ | refine join_brk ?_ | refine then_nrm ?_ | refine blk_nrm ?_ | refine then_brk ?_ | refine blk_hit ?_ | refine blk_miss rfl ?_ | refine then_ret ?_ | refine blk_ret ?_ | refine aw_seq ?_ | refine aw_block ?_ | refine aw_skip ?_ | refine aw_exit ?_ | refine aw_scope ?_ | refine aw_ret ?_)
    refine aw_region ?_
    refine ao1 (by decide) (o_move (v := .bool _) rfl) ?_
    refine ao1 (by decide) (o_assign (v := .bool _) rfl) ?_
    refine ao_nil ?_
    try dsimp only [List.set_cons_zero, List.set_cons_succ, List.cons_append, List.nil_append, List.take_succ_cons, List.take_zero, List.drop_succ_cons, List.drop_zero, AV.cells, List.length_nil, List.length_cons, Av.put, Nat.reduceAdd, AV.up, AV.up1, List.map_cons, List.map_nil]
    repeat (first | refine join_ret ?_ | refine join_brk ?_ | refine then_nrm ?_ | refine blk_nrm ?_ | refine then_brk ?_ | refine blk_hit ?_ | refine blk_miss rfl ?_ | refine then_ret ?_ | refine blk_ret ?_ | refine aw_seq ?_ | refine aw_block ?_ | refine aw_skip ?_ | refine aw_exit ?_ | refine aw_scope ?_ | refine aw_ret ?_)
    rw [show (sok a && sok b && decide (setl (fun n => fpre a (okn a) n && !fpre b (okn b) n) = [])) = spart a b by
      unfold spart
      cases h1 : sok a with
      | false => simp
      | true =>
        cases h2 : sok b with
        | false => simp
        | true => rw [okn_all fun i hi => sok_get h1 hi, okn_all fun i hi => sok_get h2 hi, fpre_all, fpre_all]]
    exact e_done hB (r_tmp rfl .nil) rfl rfl
theorem set_Apart (a b : List Int) (ha : a.length ≤ 1000000) (hb : b.length ≤ 1000000) (H : Heap) : AC Tryd.prog 43 [.pl (a.map eInt), .pl (b.map eInt)] H (Ret (.bool (sapart a b)) H) := by
  refine AC.body (N := 32) [.tmp 4] Tryd.func43 rfl rfl rfl (Nat.le_of_ble_eq_true rfl) fun B hB => ?_
  repeat (first | refine join_ret ?_ | refine join_brk ?_ | refine then_nrm ?_ | refine blk_nrm ?_ | refine then_brk ?_ | refine blk_hit ?_ | refine blk_miss rfl ?_ | refine then_ret ?_ | refine blk_ret ?_ | refine aw_seq ?_ | refine aw_block ?_ | refine aw_skip ?_ | refine aw_exit ?_ | refine aw_scope ?_ | refine aw_ret ?_)
  refine aw_region ?_
  refine ao1 (by decide) (o_assign (v := .bool _) rfl) ?_
  refine ao_nil ?_
  try dsimp only [List.set_cons_zero, List.set_cons_succ, List.cons_append, List.nil_append, List.take_succ_cons, List.take_zero, List.drop_succ_cons, List.drop_zero, AV.cells, List.length_nil, List.length_cons, Av.put, Nat.reduceAdd, AV.up, AV.up1, List.map_cons, List.map_nil]
  repeat (first | refine join_ret ?_ | refine join_brk ?_ | refine then_nrm ?_ | refine blk_nrm ?_ | refine then_brk ?_ | refine blk_hit ?_ | refine blk_miss rfl ?_ | refine then_ret ?_ | refine blk_ret ?_ | refine aw_seq ?_ | refine aw_block ?_ | refine aw_skip ?_ | refine aw_exit ?_ | refine aw_scope ?_ | refine aw_ret ?_)
  refine aw_region ?_
  first | refine ao1 (by decide) (o_move (v := .sl _ _ _ _ _) rfl) ?_ | refine ao1 (by decide) (o_move (v := .pl _) rfl) ?_ | refine ao1 (by decide) (o_move (v := .nsl) rfl) ?_
  first | refine ao1 (by decide) (o_move (v := .sl _ _ _ _ _) rfl) ?_ | refine ao1 (by decide) (o_move (v := .pl _) rfl) ?_ | refine ao1 (by decide) (o_move (v := .nsl) rfl) ?_
  refine ao_ret (set_both _ _ (by assumption) (by assumption) _) rfl (by decide) ?_
  refine ao1 (by decide) (o_move (v := .tup _) rfl) ?_
  refine ao1 (by decide) (o_extract (v := .agg _) rfl rfl) ?_
  refine ao1 (by decide) (o_extract (v := .agg _) rfl rfl) ?_
  refine ao1 (by decide) (o_extract (v := .bool _) rfl rfl) ?_
  refine ao2 (by rintro _ ⟨⟩; decide) (o_allocL (sz := 4) rfl (by decide) rfl) ?_
  refine ao2 (by rintro _ ⟨⟩; decide) (o_allocL (sz := 4) rfl (by decide) rfl) ?_
  refine ao2 (by rintro _ ⟨⟩) (w_storeW (sz := 4) rfl rfl rfl rfl rfl rfl (eWn_len _) rfl (Nat.le_of_ble_eq_true rfl)) ?_
  refine ao2 (by rintro _ ⟨⟩) (w_storeW (sz := 4) rfl rfl rfl rfl rfl rfl (eWn_len _) rfl (Nat.le_of_ble_eq_true rfl)) ?_
  refine ao1 (by decide) (o_assign (v := .bool _) rfl) ?_
  refine ao_nil ?_
  try dsimp only [List.set_cons_zero, List.set_cons_succ, List.cons_append, List.nil_append, List.take_succ_cons, List.take_zero, List.drop_succ_cons, List.drop_zero, AV.cells, List.length_nil, List.length_cons, Av.put, Nat.reduceAdd, AV.up, AV.up1, List.map_cons, List.map_nil]
  repeat (first | refine join_ret ?_ | refine join_brk ?_ | refine then_nrm ?_ | refine blk_nrm ?_ | refine then_brk ?_ | refine blk_hit ?_ | refine blk_miss rfl ?_ | refine then_ret ?_ | refine blk_ret ?_ | refine aw_seq ?_ | refine aw_block ?_ | refine aw_skip ?_ | refine aw_exit ?_ | refine aw_scope ?_ | refine aw_ret ?_)
  refine aw_region ?_
  refine ao1 (by decide) (o_move (v := .int _ _) rfl) ?_
  refine ao_nil ?_
  try dsimp only [List.set_cons_zero, List.set_cons_succ, List.cons_append, List.nil_append, List.take_succ_cons, List.take_zero, List.drop_succ_cons, List.drop_zero, AV.cells, List.length_nil, List.length_cons, Av.put, Nat.reduceAdd, AV.up, AV.up1, List.map_cons, List.map_nil]
  repeat (first | refine join_ret ?_ | refine join_brk ?_ | refine then_nrm ?_ | refine blk_nrm ?_ | refine then_brk ?_ | refine blk_hit ?_ | refine blk_miss rfl ?_ | refine then_ret ?_ | refine blk_ret ?_ | refine aw_seq ?_ | refine aw_block ?_ | refine aw_skip ?_ | refine aw_exit ?_ | refine aw_scope ?_)
  refine aw_loop (G := Nat) (fun k => k ≤ 4) (fun k => [(5, .pt (Lid H.length 0) 0 0 0), (6, .pt (Lid H.length 1) 0 0 0), (7, .bool (sok a && sok b && (List.range k).all fun i => wd (fun n => fpre a (okn a) n && fpre b (okn b) n) i == 0)), (16, .int .i64 (k : Int))]) (fun _ => H ++ [⟨0, 4, [eWn (pof a)]⟩, ⟨0, 4, [eWn (pof b)]⟩]) (fun k => 4 - k) 0 (Nat.zero_le _) (by simp only [List.range_zero, List.all_nil, Bool.and_true]; exact (by repeat (first | exact Sub.nil | refine Sub.cons (by first | rfl | (simp [get]; done)) ?_))) (Fit.refl _ _) ?_
  intro k hk
  repeat (first | refine join_ret ?_ | refine join_brk ?_ | refine then_nrm ?_ | refine blk_nrm ?_ | refine then_brk ?_ | refine blk_hit ?_ | refine blk_miss rfl ?_ | refine then_ret ?_ | refine blk_ret ?_ | refine aw_seq ?_ | refine aw_block ?_ | refine aw_skip ?_ | refine aw_exit ?_ | refine aw_scope ?_ | refine aw_ret ?_)
  refine aw_region ?_
  refine ao1 (by decide) (o_lt rfl rfl) ?_
  refine ao_nil ?_
  try dsimp only [List.set_cons_zero, List.set_cons_succ, List.cons_append, List.nil_append, List.take_succ_cons, List.take_zero, List.drop_succ_cons, List.drop_zero, AV.cells, List.length_nil, List.length_cons, Av.put, Nat.reduceAdd, AV.up, AV.up1, List.map_cons, List.map_nil]
  repeat (first | refine join_ret ?_ | refine join_brk ?_ | refine then_nrm ?_ | refine blk_nrm ?_ | refine then_brk ?_ | refine blk_hit ?_ | refine blk_miss rfl ?_ | refine then_ret ?_ | refine blk_ret ?_ | refine aw_seq ?_ | refine aw_block ?_ | refine aw_skip ?_ | refine aw_exit ?_ | refine aw_scope ?_ | refine aw_ret ?_)
  refine aw_cond rfl (fun hc => ?_) (fun hc => ?_)
  · have hk4 : k < 4 := by simp at hc; omega
    have hx : (eWn (pof a))[0 + k * 1]? = some (.int .u64 ((wd (fpre a (okn a)) k : Nat) : Int)) := by rw [Nat.zero_add, Nat.mul_one]; exact eWn_get _ hk4
    have hy : (eWn (pof b))[0 + k * 1]? = some (.int .u64 ((wd (fpre b (okn b)) k : Nat) : Int)) := by rw [Nat.zero_add, Nat.mul_one]; exact eWn_get _ hk4
    repeat (first | refine join_ret ?_ | refine join_brk ?_ | refine then_nrm ?_ | refine blk_nrm ?_ | refine then_brk ?_ | refine blk_hit ?_ | refine blk_miss rfl ?_ | refine then_ret ?_ | refine blk_ret ?_ | refine aw_seq ?_ | refine aw_block ?_ | refine aw_skip ?_ | refine aw_exit ?_ | refine aw_scope ?_ | refine aw_ret ?_)
    refine aw_region ?_
    refine ao1 (by decide) (o_move (v := .int _ _) rfl) ?_
    refine ao1 (by decide) (o_assign (v := .int _ _) rfl) ?_
    refine ao_nil ?_
    try dsimp only [List.set_cons_zero, List.set_cons_succ, List.cons_append, List.nil_append, List.take_succ_cons, List.take_zero, List.drop_succ_cons, List.drop_zero, AV.cells, List.length_nil, List.length_cons, Av.put, Nat.reduceAdd, AV.up, AV.up1, List.map_cons, List.map_nil]
    repeat (first | refine join_ret ?_ | refine join_brk ?_ | refine then_nrm ?_ | refine blk_nrm ?_ | refine then_brk ?_ | refine blk_hit ?_ | refine blk_miss rfl ?_ | refine then_ret ?_ | refine blk_ret ?_ | refine aw_seq ?_ | refine aw_block ?_ | refine aw_skip ?_ | refine aw_exit ?_ | refine aw_scope ?_ | refine aw_ret ?_)
    refine aw_of_out 7 (.bool (sok a && sok b && (List.range (k + 1)).all fun i => wd (fun n => fpre a (okn a) n && fpre b (okn b) n) i == 0)) ?_ ?_
    · refine aw_drawP mixed none 2 ?_
      try dsimp only [List.take_succ_cons, List.take_zero, List.take_nil, List.set_cons_zero, List.set_cons_succ, List.cons_append, List.nil_append]
      refine aq0 0 rfl (by decide +kernel) (by decide) (fun _ => o_move (v := .bool _) rfl) ?_
      refine aq0 1 rfl (by decide +kernel) (by decide) (fun _ => o_move (v := .bool _) rfl) ?_
      refine aq_split (g := 20) rfl (fun hg1 => ?_) (fun hg1 => ?_)
      · refine aqy0 (g := 20) 2 rfl (by decide +kernel) (by decide) rfl rfl (fun _ => o_move (v := .int _ _) rfl) ?_
        refine aqyp (g := 20) 3 rfl (by decide +kernel) (by decide) rfl rfl (fun G => w_indexArrN rfl (lk rfl rfl) rfl rfl hk4) ?_
        refine aqyp (g := 20) 4 rfl (by decide +kernel) (by decide) rfl rfl (fun G => w_load1 (v := .int .u64 _) rfl (lk rfl rfl) rfl rfl hx) ?_
        refine aqy0 (g := 20) 5 rfl (by decide +kernel) (by decide) rfl rfl (fun _ => o_move (v := .int _ _) rfl) ?_
        refine aqyp (g := 20) 6 rfl (by decide +kernel) (by decide) rfl rfl (fun G => w_indexArrN rfl (lk rfl rfl) rfl rfl hk4) ?_
        refine aqyp (g := 20) 7 rfl (by decide +kernel) (by decide) rfl rfl (fun G => w_load1 (v := .int .u64 _) rfl (lk rfl rfl) rfl rfl hy) ?_
        refine aqy0 (g := 20) 8 rfl (by decide +kernel) (by decide) rfl rfl (fun _ => o_and (r := ((wd (fun n => fpre a (okn a) n && fpre b (okn b) n) k : Nat) : Int)) rfl rfl (by rw [u64_and _ _ (wd_lt _ _) (wd_lt _ _), wd_and])) ?_
        refine aqy0 (g := 20) 9 rfl (by decide +kernel) (by decide) rfl rfl (fun _ => o_eq rfl rfl) ?_
        first | refine aq0 10 rfl (by decide +kernel) (by decide) (fun _ => o_pick_t (v := .bool _) rfl rfl) ?_ | refine aq0 10 rfl (by decide +kernel) (by decide) (fun _ => o_pick_f (v := .bool _) rfl rfl) ?_ | refine aq0 10 rfl (by decide +kernel) (by decide) (fun _ => o_pick_b rfl rfl rfl) ?_
        refine aq0 11 rfl (by decide +kernel) (by decide) (fun _ => o_assign (v := .bool _) rfl) ?_
        exact aa_done (by decide +kernel) (by first | exact fun _ => trivial | exact fun _ => ⟨_, rfl⟩ | exact fun _ => ⟨_, rfl, rfl⟩ | exact fun _ => ⟨_, rfl, rfl, rfl⟩ | exact yet_done (by decide +kernel)) (Out.mk (by first | rfl | (refine congrArg AV.bool ?_; (rw [all_range_step]; generalize ((List.range k).all fun i => wd (fun n => fpre a (okn a) n && fpre b (okn b) n) i == 0) = q at *; generalize wd (fun n => fpre a (okn a) n && fpre b (okn b) n) k = m at *; rw [← Bool.and_assoc]; first | (simp_all; done) | (rw [Bool.eq_iff_iff]; simp_all; omega) | grind))) (by repeat (first | exact SubX.refl _ _ | refine SubX.at ?_ | refine SubX.put rfl ?_ | refine SubX.put_same rfl ?_)))
      · refine aqn0 (g := 20) 2 rfl (by decide +kernel) (by decide) rfl rfl rfl ?_
        refine aqn0 (g := 20) 3 rfl (by decide +kernel) (by decide) rfl rfl rfl ?_
        refine aqn0 (g := 20) 4 rfl (by decide +kernel) (by decide) rfl rfl rfl ?_
        refine aqn0 (g := 20) 5 rfl (by decide +kernel) (by decide) rfl rfl rfl ?_
        refine aqn0 (g := 20) 6 rfl (by decide +kernel) (by decide) rfl rfl rfl ?_
        refine aqn0 (g := 20) 7 rfl (by decide +kernel) (by decide) rfl rfl rfl ?_
        refine aqn0 (g := 20) 8 rfl (by decide +kernel) (by decide) rfl rfl rfl ?_
        refine aqn0 (g := 20) 9 rfl (by decide +kernel) (by decide) rfl rfl rfl ?_
        first | refine aq0 10 rfl (by decide +kernel) (by decide) (fun _ => o_pick_t (v := .bool _) rfl rfl) ?_ | refine aq0 10 rfl (by decide +kernel) (by decide) (fun _ => o_pick_f (v := .bool _) rfl rfl) ?_ | refine aq0 10 rfl (by decide +kernel) (by decide) (fun _ => o_pick_b rfl rfl rfl) ?_
        refine aq0 11 rfl (by decide +kernel) (by decide) (fun _ => o_assign (v := .bool _) rfl) ?_
        exact aa_done (by decide +kernel) (by first | exact fun _ => trivial | exact fun _ => ⟨_, rfl⟩ | exact fun _ => ⟨_, rfl, rfl⟩ | exact fun _ => ⟨_, rfl, rfl, rfl⟩ | exact yet_done (by decide +kernel)) (Out.mk (by first | rfl | (refine congrArg AV.bool ?_; (rw [all_range_step]; generalize ((List.range k).all fun i => wd (fun n => fpre a (okn a) n && fpre b (okn b) n) i == 0) = q at *; generalize wd (fun n => fpre a (okn a) n && fpre b (okn b) n) k = m at *; rw [← Bool.and_assoc]; first | (simp_all; done) | (rw [Bool.eq_iff_iff]; simp_all; omega) | grind))) (by repeat (first | exact SubX.refl _ _ | refine SubX.at ?_ | refine SubX.put rfl ?_ | refine SubX.put_same rfl ?_)))
    repeat (first | refine join_ret ?_ | refine join_brk ?_ | refine then_nrm ?_ | refine blk_nrm ?_ | refine then_brk ?_ | refine blk_hit ?_ | refine blk_miss rfl ?_ | refine then_ret ?_ | refine blk_ret ?_ | refine aw_seq ?_ | refine aw_block ?_ | refine aw_skip ?_ | refine aw_exit ?_ | refine aw_scope ?_ | refine aw_ret ?_)
    refine aw_region ?_
    first | refine ao1 (by decide) (o_add rfl rfl (wrap64_ok (by omega) (by omega))) ?_ | refine ao1 (by decide) (o_add rfl rfl rfl) ?_
    refine ao1 (by decide) (o_move (v := .int _ _) rfl) ?_
    refine ao_nil ?_
    try dsimp only [List.set_cons_zero, List.set_cons_succ, List.cons_append, List.nil_append, List.take_succ_cons, List.take_zero, List.drop_succ_cons, List.drop_zero, AV.cells, List.length_nil, List.length_cons, Av.put, Nat.reduceAdd, AV.up, AV.up1, List.map_cons, List.map_nil]
    repeat (first | refine join_ret ?_ | refine join_brk ?_ | refine then_nrm ?_ | refine blk_nrm ?_ | refine then_brk ?_ | refine blk_hit ?_ | refine blk_miss rfl ?_ | refine then_ret ?_ | refine blk_ret ?_ | refine aw_seq ?_ | refine aw_block ?_ | refine aw_skip ?_ | refine aw_exit ?_ | refine aw_scope ?_ | refine aw_ret ?_)
    exact ⟨k + 1, by omega, by omega, (by repeat (first | exact Sub.nil | refine Sub.cons (by first | rfl | (simp [get]; done)) ?_)), .refl _ _⟩
  · have : k = 4 := by simp at hc; omega
    subst this
    rw [words_zero]
    repeat (first | refine join_ret ?_ | refine join_brk ?_ | refine then_nrm ?_ | refine blk_nrm ?_ | refine then_brk ?_ | refine blk_hit ?_ | refine blk_miss rfl ?_ | refine then_ret ?_ | refine blk_ret ?_ | refine aw_seq ?_ | refine aw_block ?_ | refine aw_skip ?_ | refine aw_exit ?_ | refine aw_scope ?_ | refine aw_ret ?_)
    refine aw_region ?_
    refine ao1 (by decide) (o_move (v := .bool _) rfl) ?_
    refine ao1 (by decide) (o_assign (v := .bool _) rfl) ?_
    refine ao_nil ?_
    try dsimp only [List.set_cons_zero, List.set_cons_succ, List.cons_append, List.nil_append, List.take_succ_cons, List.take_zero, List.drop_succ_cons, List.drop_zero, AV.cells, List.length_nil, List.length_cons, Av.put, Nat.reduceAdd, AV.up, AV.up1, List.map_cons, List.map_nil]
    repeat (first | refine join_ret ?_ | refine join_brk ?_ | refine then_nrm ?_ | refine blk_nrm ?_ | refine then_brk ?_ | refine blk_hit ?_ | refine blk_miss rfl ?_ | refine then_ret ?_ | refine blk_ret ?_ | refine aw_seq ?_ | refine aw_block ?_ | refine aw_skip ?_ | refine aw_exit ?_ | refine aw_scope ?_ | refine aw_ret ?_)
    rw [show (sok a && sok b && decide (setl (fun n => fpre a (okn a) n && fpre b (okn b) n) = [])) = sapart a b by
      unfold sapart
      cases h1 : sok a with
      | false => simp
      | true =>
        cases h2 : sok b with
        | false => simp
        | true => rw [okn_all fun i hi => sok_get h1 hi, okn_all fun i hi => sok_get h2 hi, fpre_all, fpre_all]]
    exact e_done hB (r_tmp rfl .nil) rfl rfl
end Go.Av
