/- A part of the proof: walks through the program over abstract values. -/
import Derived.Test.YtmhfpopbhiloiaaU7
namespace Go.Av
open Go.Proofs
set_option maxRecDepth 10000
set_option linter.unusedSimpArgs false
set_option linter.unusedVariables false


theorem sPart_right {s : Spec} (h : sright s = true) {n : Int} (h0 : 0 ≤ n) (h1 : n < s.nodes) : sright ⟨s.nodes - n, s.cores, s.gpus, s.tag, s.whole, s.long, s.prio⟩ = true := by
  simp only [sright, smany, ssome, Bool.and_eq_true, Bool.or_eq_true, decide_eq_true_eq] at h ⊢
  refine ⟨⟨⟨⟨⟨⟨?_, ?_⟩, ?_⟩, ?_⟩, ?_⟩, ?_⟩, ?_⟩ <;> first | exact h.1.1.1.2 | exact h.1.1.2 | omega
set_option maxHeartbeats 0 in
theorem law07_SpecParts (s : Spec) (x y : Int) (hx : 0 ≤ x ∧ x ≤ 255) (hy : 0 ≤ y ∧ y ≤ 255) (H : Heap) : AC Try.prog 5 [.agg (eSpec s), .int .u8 x, .int .u8 y] H (Ret (.bool true) H) := by
  have c3 := fun H => spec_Part s x H
  refine AC.body (N := 103) [.tmp 6] Try.func5 rfl rfl rfl (Nat.le_of_ble_eq_true rfl) fun B hB => ?_
  repeat (first | refine join_ret ?_ | refine join_brk ?_ | refine then_nrm ?_ | refine blk_nrm ?_ | refine then_brk ?_ | refine blk_hit ?_ | refine blk_miss rfl ?_ | refine then_ret ?_ | refine blk_ret ?_ | refine aw_seq ?_ | refine aw_block ?_ | refine aw_skip ?_ | refine aw_exit ?_ | refine aw_scope ?_ | refine aw_ret ?_)
  refine aw_region ?_
  refine ao2 (by rintro _ ⟨⟩; decide) (o_boxL (sz := 7) (v := .agg _) rfl rfl rfl rfl (by decide) rfl) ?_
  refine ao1 (by decide) (o_assign (v := .bool _) rfl) ?_
  refine ao_nil ?_
  try dsimp only [List.set_cons_zero, List.set_cons_succ, List.cons_append, List.nil_append, List.take_succ_cons, List.take_zero, List.drop_succ_cons, List.drop_zero, AV.cells, List.length_nil, List.length_cons, Av.put, Nat.reduceAdd, AV.up, AV.up1, List.map_cons, List.map_nil]
  repeat (first | refine join_ret ?_ | refine join_brk ?_ | refine then_nrm ?_ | refine blk_nrm ?_ | refine then_brk ?_ | refine blk_hit ?_ | refine blk_miss rfl ?_ | refine then_ret ?_ | refine blk_ret ?_ | refine aw_seq ?_ | refine aw_block ?_ | refine aw_skip ?_ | refine aw_exit ?_ | refine aw_scope ?_ | refine aw_ret ?_)
  refine aw_region ?_
  refine ao_ret (law07_awake _) rfl (by decide) ?_
  refine ao1 (by decide) (o_not rfl) ?_
  refine ao_nil ?_
  try dsimp only [List.set_cons_zero, List.set_cons_succ, List.cons_append, List.nil_append, List.take_succ_cons, List.take_zero, List.drop_succ_cons, List.drop_zero, AV.cells, List.length_nil, List.length_cons, Av.put, Nat.reduceAdd, AV.up, AV.up1, List.map_cons, List.map_nil]
  repeat (first | refine join_ret ?_ | refine join_brk ?_ | refine then_nrm ?_ | refine blk_nrm ?_ | refine then_brk ?_ | refine blk_hit ?_ | refine blk_miss rfl ?_ | refine then_ret ?_ | refine blk_ret ?_ | refine aw_seq ?_ | refine aw_block ?_ | refine aw_skip ?_ | refine aw_exit ?_ | refine aw_scope ?_ | refine aw_ret ?_)
  refine aw_cond rfl (fun hc => ?_) (fun hc => ?_)
  · simp at hc
  rcases sPart_cases s x with ⟨h1, h2⟩ | ⟨h1, h2, h3⟩ | ⟨h1, h2, h3⟩
  · rw [h2] at c3
    repeat (first | refine join_ret ?_ | refine join_brk ?_ | refine then_nrm ?_ | refine blk_nrm ?_ | refine then_brk ?_ | refine blk_hit ?_ | refine blk_miss rfl ?_ | refine then_ret ?_ | refine blk_ret ?_ | refine aw_seq ?_ | refine aw_block ?_ | refine aw_skip ?_ | refine aw_exit ?_ | refine aw_scope ?_ | refine aw_ret ?_)
    refine aw_region ?_
    first | refine ao1 (by decide) (w_loadR rfl (lk rfl rfl) rfl rfl rfl) ?_ | refine ao1 (by decide) (w_loadR rfl (lk rfl rfl) rfl (zadd hr) rfl) ?_ | refine ao1 (by decide) (w_loadR rfl (lk rfl rfl) rfl (zadd hr1) rfl) ?_ | refine ao1 (by decide) (w_loadR rfl (lk rfl rfl) rfl (zadd hr2) rfl) ?_ | refine ao1 (by decide) (w_loadRp rfl hr rfl) ?_ | refine ao1 (by decide) (w_loadRp rfl hr1 rfl) ?_ | refine ao1 (by decide) (w_loadRp rfl hr2 rfl) ?_ | refine ao1 (by decide) (w_loadN (cs := [_, _, _, _, _, _, _]) rfl (lk rfl rfl) rfl rfl rfl rfl) ?_ | refine ao1 (by decide) (o_loadNp (cs := [_, _, _, _, _, _, _]) rfl hr rfl rfl) ?_ | refine ao1 (by decide) (o_loadNp (cs := [_, _, _, _, _, _, _]) rfl hr1 rfl rfl) ?_ | refine ao1 (by decide) (o_loadNp (cs := [_, _, _, _, _, _, _]) rfl hr2 rfl rfl) ?_ | refine ao1 (by decide) (w_loadR rfl (lkF hF) rfl rfl rfl) ?_ | refine ao1 (by decide) (w_loadN (cs := [_, _, _, _, _, _, _]) rfl (lkF hF) rfl rfl rfl rfl) ?_
    refine ao1 (by decide) (o_move (v := .int _ _) rfl) ?_
    first | refine ao1 (by decide) (o_conv_int rfl (wrap64_ok (by omega) (by omega))) ?_ | refine ao1 (by decide) (o_conv_int rfl rfl) ?_
    refine ao2 (by rintro _ ⟨⟩; decide) (V2.call (c3 _) rfl) ?_
    refine ao1 (by decide) (o_move (v := .tup _) rfl) ?_
    refine ao1 (by decide) (o_extract (v := .agg _) rfl rfl) ?_
    refine ao1 (by decide) (o_extract (v := .int _ _) rfl rfl) ?_
    refine ao2 (by rintro _ ⟨⟩; decide) (o_allocL (sz := 7) rfl (by decide) rfl) ?_
    first | refine ao2 (by rintro _ ⟨⟩) (w_storeW (sz := 7) rfl rfl rfl rfl rfl rfl rfl rfl (Nat.le_of_ble_eq_true rfl)) ?_ | refine ao2 (by rintro _ ⟨⟩) (w_storeFP (sz := 7) (v := .agg _) (r' := [_, _, _, _, _, _, _]) rfl hF rfl rfl rfl rfl rfl (Nat.le_of_ble_eq_true rfl) rfl) ?_ | refine ao2 (by rintro _ ⟨⟩) (w_storeFP (sz := 7) (v := .agg _) (r' := [_, _, _, _, _, _, _]) rfl hF1 rfl rfl rfl rfl rfl (Nat.le_of_ble_eq_true rfl) rfl) ?_
    refine ao1 (by decide) (o_assign (v := .int _ _) rfl) ?_
    refine ao_nil ?_
    try dsimp only [List.set_cons_zero, List.set_cons_succ, List.cons_append, List.nil_append, List.take_succ_cons, List.take_zero, List.drop_succ_cons, List.drop_zero, AV.cells, List.length_nil, List.length_cons, Av.put, Nat.reduceAdd, AV.up, AV.up1, List.map_cons, List.map_nil]
    repeat (first | refine join_ret ?_ | refine join_brk ?_ | refine then_nrm ?_ | refine blk_nrm ?_ | refine then_brk ?_ | refine blk_hit ?_ | refine blk_miss rfl ?_ | refine then_ret ?_ | refine blk_ret ?_ | refine aw_seq ?_ | refine aw_block ?_ | refine aw_skip ?_ | refine aw_exit ?_ | refine aw_scope ?_ | refine aw_ret ?_)
    refine aw_region ?_
    refine ao1 (by decide) (o_move (v := .int _ _) rfl) ?_
    refine ao1 (by decide) (o_ne rfl rfl) ?_
    refine ao_nil ?_
    try dsimp only [List.set_cons_zero, List.set_cons_succ, List.cons_append, List.nil_append, List.take_succ_cons, List.take_zero, List.drop_succ_cons, List.drop_zero, AV.cells, List.length_nil, List.length_cons, Av.put, Nat.reduceAdd, AV.up, AV.up1, List.map_cons, List.map_nil]
    repeat (first | refine join_ret ?_ | refine join_brk ?_ | refine then_nrm ?_ | refine blk_nrm ?_ | refine then_brk ?_ | refine blk_hit ?_ | refine blk_miss rfl ?_ | refine then_ret ?_ | refine blk_ret ?_ | refine aw_seq ?_ | refine aw_block ?_ | refine aw_skip ?_ | refine aw_exit ?_ | refine aw_scope ?_ | refine aw_ret ?_)
    refine aw_cond rfl (fun hc => ?_) (fun hc => ?_)
    · repeat (first | refine join_ret ?_ | refine join_brk ?_ | refine then_nrm ?_ | refine blk_nrm ?_ | refine then_brk ?_ | refine blk_hit ?_ | refine blk_miss rfl ?_ | refine then_ret ?_ | refine blk_ret ?_ | refine aw_seq ?_ | refine aw_block ?_ | refine aw_skip ?_ | refine aw_exit ?_ | refine aw_scope ?_ | refine aw_ret ?_)
      refine aw_region ?_
      first | refine ao1 (by decide) (w_loadR rfl (lk rfl rfl) rfl rfl rfl) ?_ | refine ao1 (by decide) (w_loadR rfl (lk rfl rfl) rfl (zadd hr) rfl) ?_ | refine ao1 (by decide) (w_loadR rfl (lk rfl rfl) rfl (zadd hr1) rfl) ?_ | refine ao1 (by decide) (w_loadR rfl (lk rfl rfl) rfl (zadd hr2) rfl) ?_ | refine ao1 (by decide) (w_loadRp rfl hr rfl) ?_ | refine ao1 (by decide) (w_loadRp rfl hr1 rfl) ?_ | refine ao1 (by decide) (w_loadRp rfl hr2 rfl) ?_ | refine ao1 (by decide) (w_loadN (cs := [_, _, _, _, _, _, _]) rfl (lk rfl rfl) rfl rfl rfl rfl) ?_ | refine ao1 (by decide) (o_loadNp (cs := [_, _, _, _, _, _, _]) rfl hr rfl rfl) ?_ | refine ao1 (by decide) (o_loadNp (cs := [_, _, _, _, _, _, _]) rfl hr1 rfl rfl) ?_ | refine ao1 (by decide) (o_loadNp (cs := [_, _, _, _, _, _, _]) rfl hr2 rfl rfl) ?_ | refine ao1 (by decide) (w_loadR rfl (lkF hF) rfl rfl rfl) ?_ | refine ao1 (by decide) (w_loadN (cs := [_, _, _, _, _, _, _]) rfl (lkF hF) rfl rfl rfl rfl) ?_
      refine ao1 (by decide) (V1.up (o_build (cs := [.int _ _, .int _ _, .int _ _, .str _, .bool _, .int _ _, .int _ _]) rfl)) ?_
      refine ao1 (by decide) (o_eqAgg (us := uSpec spec0) (vs := uSpec spec0) rfl rfl rfl rfl (by kernel_rfl) (eqSpec_run spec0 spec0)) ?_
      refine ao1 (by decide) (o_assign (v := .bool _) rfl) ?_
      refine ao_nil ?_
      try dsimp only [List.set_cons_zero, List.set_cons_succ, List.cons_append, List.nil_append, List.take_succ_cons, List.take_zero, List.drop_succ_cons, List.drop_zero, AV.cells, List.length_nil, List.length_cons, Av.put, Nat.reduceAdd, AV.up, AV.up1, List.map_cons, List.map_nil]
      repeat (first | refine join_ret ?_ | refine join_brk ?_ | refine then_nrm ?_ | refine blk_nrm ?_ | refine then_brk ?_ | refine blk_hit ?_ | refine blk_miss rfl ?_ | refine then_ret ?_ | refine blk_ret ?_ | refine aw_seq ?_ | refine aw_block ?_ | refine aw_skip ?_ | refine aw_exit ?_ | refine aw_scope ?_ | refine aw_ret ?_)
      exact e_done hB (r_tmp rfl .nil) rfl rfl
    · simp at hc
  · rw [h3] at c3
    repeat (first | refine join_ret ?_ | refine join_brk ?_ | refine then_nrm ?_ | refine blk_nrm ?_ | refine then_brk ?_ | refine blk_hit ?_ | refine blk_miss rfl ?_ | refine then_ret ?_ | refine blk_ret ?_ | refine aw_seq ?_ | refine aw_block ?_ | refine aw_skip ?_ | refine aw_exit ?_ | refine aw_scope ?_ | refine aw_ret ?_)
    refine aw_region ?_
    first | refine ao1 (by decide) (w_loadR rfl (lk rfl rfl) rfl rfl rfl) ?_ | refine ao1 (by decide) (w_loadR rfl (lk rfl rfl) rfl (zadd hr) rfl) ?_ | refine ao1 (by decide) (w_loadR rfl (lk rfl rfl) rfl (zadd hr1) rfl) ?_ | refine ao1 (by decide) (w_loadR rfl (lk rfl rfl) rfl (zadd hr2) rfl) ?_ | refine ao1 (by decide) (w_loadRp rfl hr rfl) ?_ | refine ao1 (by decide) (w_loadRp rfl hr1 rfl) ?_ | refine ao1 (by decide) (w_loadRp rfl hr2 rfl) ?_ | refine ao1 (by decide) (w_loadN (cs := [_, _, _, _, _, _, _]) rfl (lk rfl rfl) rfl rfl rfl rfl) ?_ | refine ao1 (by decide) (o_loadNp (cs := [_, _, _, _, _, _, _]) rfl hr rfl rfl) ?_ | refine ao1 (by decide) (o_loadNp (cs := [_, _, _, _, _, _, _]) rfl hr1 rfl rfl) ?_ | refine ao1 (by decide) (o_loadNp (cs := [_, _, _, _, _, _, _]) rfl hr2 rfl rfl) ?_ | refine ao1 (by decide) (w_loadR rfl (lkF hF) rfl rfl rfl) ?_ | refine ao1 (by decide) (w_loadN (cs := [_, _, _, _, _, _, _]) rfl (lkF hF) rfl rfl rfl rfl) ?_
    refine ao1 (by decide) (o_move (v := .int _ _) rfl) ?_
    first | refine ao1 (by decide) (o_conv_int rfl (wrap64_ok (by omega) (by omega))) ?_ | refine ao1 (by decide) (o_conv_int rfl rfl) ?_
    refine ao2 (by rintro _ ⟨⟩; decide) (V2.call (c3 _) rfl) ?_
    refine ao1 (by decide) (o_move (v := .tup _) rfl) ?_
    refine ao1 (by decide) (o_extract (v := .agg _) rfl rfl) ?_
    refine ao1 (by decide) (o_extract (v := .int _ _) rfl rfl) ?_
    refine ao2 (by rintro _ ⟨⟩; decide) (o_allocL (sz := 7) rfl (by decide) rfl) ?_
    first | refine ao2 (by rintro _ ⟨⟩) (w_storeW (sz := 7) rfl rfl rfl rfl rfl rfl rfl rfl (Nat.le_of_ble_eq_true rfl)) ?_ | refine ao2 (by rintro _ ⟨⟩) (w_storeFP (sz := 7) (v := .agg _) (r' := [_, _, _, _, _, _, _]) rfl hF rfl rfl rfl rfl rfl (Nat.le_of_ble_eq_true rfl) rfl) ?_ | refine ao2 (by rintro _ ⟨⟩) (w_storeFP (sz := 7) (v := .agg _) (r' := [_, _, _, _, _, _, _]) rfl hF1 rfl rfl rfl rfl rfl (Nat.le_of_ble_eq_true rfl) rfl) ?_
    refine ao1 (by decide) (o_assign (v := .int _ _) rfl) ?_
    refine ao_nil ?_
    try dsimp only [List.set_cons_zero, List.set_cons_succ, List.cons_append, List.nil_append, List.take_succ_cons, List.take_zero, List.drop_succ_cons, List.drop_zero, AV.cells, List.length_nil, List.length_cons, Av.put, Nat.reduceAdd, AV.up, AV.up1, List.map_cons, List.map_nil]
    repeat (first | refine join_ret ?_ | refine join_brk ?_ | refine then_nrm ?_ | refine blk_nrm ?_ | refine then_brk ?_ | refine blk_hit ?_ | refine blk_miss rfl ?_ | refine then_ret ?_ | refine blk_ret ?_ | refine aw_seq ?_ | refine aw_block ?_ | refine aw_skip ?_ | refine aw_exit ?_ | refine aw_scope ?_ | refine aw_ret ?_)
    refine aw_region ?_
    refine ao1 (by decide) (o_move (v := .int _ _) rfl) ?_
    refine ao1 (by decide) (o_ne rfl rfl) ?_
    refine ao_nil ?_
    try dsimp only [List.set_cons_zero, List.set_cons_succ, List.cons_append, List.nil_append, List.take_succ_cons, List.take_zero, List.drop_succ_cons, List.drop_zero, AV.cells, List.length_nil, List.length_cons, Av.put, Nat.reduceAdd, AV.up, AV.up1, List.map_cons, List.map_nil]
    repeat (first | refine join_ret ?_ | refine join_brk ?_ | refine then_nrm ?_ | refine blk_nrm ?_ | refine then_brk ?_ | refine blk_hit ?_ | refine blk_miss rfl ?_ | refine then_ret ?_ | refine blk_ret ?_ | refine aw_seq ?_ | refine aw_block ?_ | refine aw_skip ?_ | refine aw_exit ?_ | refine aw_scope ?_ | refine aw_ret ?_)
    refine aw_cond rfl (fun hc => ?_) (fun hc => ?_)
    · repeat (first | refine join_ret ?_ | refine join_brk ?_ | refine then_nrm ?_ | refine blk_nrm ?_ | refine then_brk ?_ | refine blk_hit ?_ | refine blk_miss rfl ?_ | refine then_ret ?_ | refine blk_ret ?_ | refine aw_seq ?_ | refine aw_block ?_ | refine aw_skip ?_ | refine aw_exit ?_ | refine aw_scope ?_ | refine aw_ret ?_)
      refine aw_region ?_
      first | refine ao1 (by decide) (w_loadR rfl (lk rfl rfl) rfl rfl rfl) ?_ | refine ao1 (by decide) (w_loadR rfl (lk rfl rfl) rfl (zadd hr) rfl) ?_ | refine ao1 (by decide) (w_loadR rfl (lk rfl rfl) rfl (zadd hr1) rfl) ?_ | refine ao1 (by decide) (w_loadR rfl (lk rfl rfl) rfl (zadd hr2) rfl) ?_ | refine ao1 (by decide) (w_loadRp rfl hr rfl) ?_ | refine ao1 (by decide) (w_loadRp rfl hr1 rfl) ?_ | refine ao1 (by decide) (w_loadRp rfl hr2 rfl) ?_ | refine ao1 (by decide) (w_loadN (cs := [_, _, _, _, _, _, _]) rfl (lk rfl rfl) rfl rfl rfl rfl) ?_ | refine ao1 (by decide) (o_loadNp (cs := [_, _, _, _, _, _, _]) rfl hr rfl rfl) ?_ | refine ao1 (by decide) (o_loadNp (cs := [_, _, _, _, _, _, _]) rfl hr1 rfl rfl) ?_ | refine ao1 (by decide) (o_loadNp (cs := [_, _, _, _, _, _, _]) rfl hr2 rfl rfl) ?_ | refine ao1 (by decide) (w_loadR rfl (lkF hF) rfl rfl rfl) ?_ | refine ao1 (by decide) (w_loadN (cs := [_, _, _, _, _, _, _]) rfl (lkF hF) rfl rfl rfl rfl) ?_
      refine ao1 (by decide) (V1.up (o_build (cs := [.int _ _, .int _ _, .int _ _, .str _, .bool _, .int _ _, .int _ _]) rfl)) ?_
      refine ao1 (by decide) (o_eqAgg (us := uSpec spec0) (vs := uSpec spec0) rfl rfl rfl rfl (by kernel_rfl) (eqSpec_run spec0 spec0)) ?_
      refine ao1 (by decide) (o_assign (v := .bool _) rfl) ?_
      refine ao_nil ?_
      try dsimp only [List.set_cons_zero, List.set_cons_succ, List.cons_append, List.nil_append, List.take_succ_cons, List.take_zero, List.drop_succ_cons, List.drop_zero, AV.cells, List.length_nil, List.length_cons, Av.put, Nat.reduceAdd, AV.up, AV.up1, List.map_cons, List.map_nil]
      repeat (first | refine join_ret ?_ | refine join_brk ?_ | refine then_nrm ?_ | refine blk_nrm ?_ | refine then_brk ?_ | refine blk_hit ?_ | refine blk_miss rfl ?_ | refine then_ret ?_ | refine blk_ret ?_ | refine aw_seq ?_ | refine aw_block ?_ | refine aw_skip ?_ | refine aw_exit ?_ | refine aw_scope ?_ | refine aw_ret ?_)
      exact e_done hB (r_tmp rfl .nil) rfl rfl
    · simp at hc
  · have hs : sright s = true := by simp at h1; exact h1.1
    have hf := sright_facts hs
    have hsa := sPart_right hs hx.1 h2
    rw [h3] at c3
    repeat (first | refine join_ret ?_ | refine join_brk ?_ | refine then_nrm ?_ | refine blk_nrm ?_ | refine then_brk ?_ | refine blk_hit ?_ | refine blk_miss rfl ?_ | refine then_ret ?_ | refine blk_ret ?_ | refine aw_seq ?_ | refine aw_block ?_ | refine aw_skip ?_ | refine aw_exit ?_ | refine aw_scope ?_ | refine aw_ret ?_)
    refine aw_region ?_
    first | refine ao1 (by decide) (w_loadR rfl (lk rfl rfl) rfl rfl rfl) ?_ | refine ao1 (by decide) (w_loadR rfl (lk rfl rfl) rfl (zadd hr) rfl) ?_ | refine ao1 (by decide) (w_loadR rfl (lk rfl rfl) rfl (zadd hr1) rfl) ?_ | refine ao1 (by decide) (w_loadR rfl (lk rfl rfl) rfl (zadd hr2) rfl) ?_ | refine ao1 (by decide) (w_loadRp rfl hr rfl) ?_ | refine ao1 (by decide) (w_loadRp rfl hr1 rfl) ?_ | refine ao1 (by decide) (w_loadRp rfl hr2 rfl) ?_ | refine ao1 (by decide) (w_loadN (cs := [_, _, _, _, _, _, _]) rfl (lk rfl rfl) rfl rfl rfl rfl) ?_ | refine ao1 (by decide) (o_loadNp (cs := [_, _, _, _, _, _, _]) rfl hr rfl rfl) ?_ | refine ao1 (by decide) (o_loadNp (cs := [_, _, _, _, _, _, _]) rfl hr1 rfl rfl) ?_ | refine ao1 (by decide) (o_loadNp (cs := [_, _, _, _, _, _, _]) rfl hr2 rfl rfl) ?_ | refine ao1 (by decide) (w_loadR rfl (lkF hF) rfl rfl rfl) ?_ | refine ao1 (by decide) (w_loadN (cs := [_, _, _, _, _, _, _]) rfl (lkF hF) rfl rfl rfl rfl) ?_
    refine ao1 (by decide) (o_move (v := .int _ _) rfl) ?_
    first | refine ao1 (by decide) (o_conv_int rfl (wrap64_ok (by omega) (by omega))) ?_ | refine ao1 (by decide) (o_conv_int rfl rfl) ?_
    refine ao2 (by rintro _ ⟨⟩; decide) (V2.call (c3 _) rfl) ?_
    refine ao1 (by decide) (o_move (v := .tup _) rfl) ?_
    refine ao1 (by decide) (o_extract (v := .agg _) rfl rfl) ?_
    refine ao1 (by decide) (o_extract (v := .int _ _) rfl rfl) ?_
    refine ao2 (by rintro _ ⟨⟩; decide) (o_allocL (sz := 7) rfl (by decide) rfl) ?_
    first | refine ao2 (by rintro _ ⟨⟩) (w_storeW (sz := 7) rfl rfl rfl rfl rfl rfl rfl rfl (Nat.le_of_ble_eq_true rfl)) ?_ | refine ao2 (by rintro _ ⟨⟩) (w_storeFP (sz := 7) (v := .agg _) (r' := [_, _, _, _, _, _, _]) rfl hF rfl rfl rfl rfl rfl (Nat.le_of_ble_eq_true rfl) rfl) ?_ | refine ao2 (by rintro _ ⟨⟩) (w_storeFP (sz := 7) (v := .agg _) (r' := [_, _, _, _, _, _, _]) rfl hF1 rfl rfl rfl rfl rfl (Nat.le_of_ble_eq_true rfl) rfl) ?_
    refine ao1 (by decide) (o_assign (v := .int _ _) rfl) ?_
    refine ao_nil ?_
    try dsimp only [List.set_cons_zero, List.set_cons_succ, List.cons_append, List.nil_append, List.take_succ_cons, List.take_zero, List.drop_succ_cons, List.drop_zero, AV.cells, List.length_nil, List.length_cons, Av.put, Nat.reduceAdd, AV.up, AV.up1, List.map_cons, List.map_nil]
    repeat (first | refine join_ret ?_ | refine join_brk ?_ | refine then_nrm ?_ | refine blk_nrm ?_ | refine then_brk ?_ | refine blk_hit ?_ | refine blk_miss rfl ?_ | refine then_ret ?_ | refine blk_ret ?_ | refine aw_seq ?_ | refine aw_block ?_ | refine aw_skip ?_ | refine aw_exit ?_ | refine aw_scope ?_ | refine aw_ret ?_)
    refine aw_region ?_
    refine ao1 (by decide) (o_move (v := .int _ _) rfl) ?_
    refine ao1 (by decide) (o_ne rfl rfl) ?_
    refine ao_nil ?_
    try dsimp only [List.set_cons_zero, List.set_cons_succ, List.cons_append, List.nil_append, List.take_succ_cons, List.take_zero, List.drop_succ_cons, List.drop_zero, AV.cells, List.length_nil, List.length_cons, Av.put, Nat.reduceAdd, AV.up, AV.up1, List.map_cons, List.map_nil]
    repeat (first | refine join_ret ?_ | refine join_brk ?_ | refine then_nrm ?_ | refine blk_nrm ?_ | refine then_brk ?_ | refine blk_hit ?_ | refine blk_miss rfl ?_ | refine then_ret ?_ | refine blk_ret ?_ | refine aw_seq ?_ | refine aw_block ?_ | refine aw_skip ?_ | refine aw_exit ?_ | refine aw_scope ?_ | refine aw_ret ?_)
    refine aw_cond rfl (fun hc => ?_) (fun hc => ?_)
    · simp at hc
    have c6 := fun H => spec_Asks s H
    rw [show asks s = ⟨s.nodes, s.nodes * s.cores, s.nodes * s.gpus⟩ by simp [asks, hs]] at c6
    have c7 := fun H => spec_Asks ⟨s.nodes - x, s.cores, s.gpus, s.tag, s.whole, s.long, s.prio⟩ H
    rw [show asks ⟨s.nodes - x, s.cores, s.gpus, s.tag, s.whole, s.long, s.prio⟩ = ⟨s.nodes - x, (s.nodes - x) * s.cores, (s.nodes - x) * s.gpus⟩ by simp [asks, hsa]] at c7
    have c8 := fun H => spec_Right ⟨s.nodes - x, s.cores, s.gpus, s.tag, s.whole, s.long, s.prio⟩ H
    rw [hsa] at c8
    have m1 := mul_in (a := s.nodes) (b := s.cores) (by omega) (by omega)
    have m2 := mul_in (a := s.nodes) (b := s.gpus) (by omega) (by omega)
    have m3 := mul_in (a := s.nodes - x) (b := s.cores) (by omega) (by omega)
    have m4 := mul_in (a := s.nodes - x) (b := s.gpus) (by omega) (by omega)
    have m5 := mul_in (a := x) (b := s.cores) (by omega) (by omega)
    have m6 := mul_in (a := x) (b := s.gpus) (by omega) (by omega)
    have e1 : (s.nodes - x) * s.cores = s.nodes * s.cores - x * s.cores := Int.sub_mul _ _ _
    have e2 : (s.nodes - x) * s.gpus = s.nodes * s.gpus - x * s.gpus := Int.sub_mul _ _ _
    repeat (first | refine join_ret ?_ | refine join_brk ?_ | refine then_nrm ?_ | refine blk_nrm ?_ | refine then_brk ?_ | refine blk_hit ?_ | refine blk_miss rfl ?_ | refine then_ret ?_ | refine blk_ret ?_ | refine aw_seq ?_ | refine aw_block ?_ | refine aw_skip ?_ | refine aw_exit ?_ | refine aw_scope ?_ | refine aw_ret ?_)
    refine aw_region ?_
    first | refine ao1 (by decide) (w_loadR rfl (lk rfl rfl) rfl rfl rfl) ?_ | refine ao1 (by decide) (w_loadR rfl (lk rfl rfl) rfl (zadd hr) rfl) ?_ | refine ao1 (by decide) (w_loadR rfl (lk rfl rfl) rfl (zadd hr1) rfl) ?_ | refine ao1 (by decide) (w_loadR rfl (lk rfl rfl) rfl (zadd hr2) rfl) ?_ | refine ao1 (by decide) (w_loadRp rfl hr rfl) ?_ | refine ao1 (by decide) (w_loadRp rfl hr1 rfl) ?_ | refine ao1 (by decide) (w_loadRp rfl hr2 rfl) ?_ | refine ao1 (by decide) (w_loadN (cs := [_, _, _, _, _, _, _]) rfl (lk rfl rfl) rfl rfl rfl rfl) ?_ | refine ao1 (by decide) (o_loadNp (cs := [_, _, _, _, _, _, _]) rfl hr rfl rfl) ?_ | refine ao1 (by decide) (o_loadNp (cs := [_, _, _, _, _, _, _]) rfl hr1 rfl rfl) ?_ | refine ao1 (by decide) (o_loadNp (cs := [_, _, _, _, _, _, _]) rfl hr2 rfl rfl) ?_ | refine ao1 (by decide) (w_loadR rfl (lkF hF) rfl rfl rfl) ?_ | refine ao1 (by decide) (w_loadN (cs := [_, _, _, _, _, _, _]) rfl (lkF hF) rfl rfl rfl rfl) ?_
    refine ao2 (by rintro _ ⟨⟩; decide) (V2.call (c6 _) rfl) ?_
    refine ao1 (by decide) (o_move (v := .tup _) rfl) ?_
    refine ao1 (by decide) (o_extract (v := .int _ _) rfl rfl) ?_
    refine ao1 (by decide) (o_extract (v := .int _ _) rfl rfl) ?_
    refine ao1 (by decide) (o_extract (v := .int _ _) rfl rfl) ?_
    refine ao1 (by decide) (o_assign (v := .int _ _) rfl) ?_
    refine ao1 (by decide) (o_assign (v := .int _ _) rfl) ?_
    refine ao1 (by decide) (o_assign (v := .int _ _) rfl) ?_
    refine ao_nil ?_
    try dsimp only [List.set_cons_zero, List.set_cons_succ, List.cons_append, List.nil_append, List.take_succ_cons, List.take_zero, List.drop_succ_cons, List.drop_zero, AV.cells, List.length_nil, List.length_cons, Av.put, Nat.reduceAdd, AV.up, AV.up1, List.map_cons, List.map_nil]
    repeat (first | refine join_ret ?_ | refine join_brk ?_ | refine then_nrm ?_ | refine blk_nrm ?_ | refine then_brk ?_ | refine blk_hit ?_ | refine blk_miss rfl ?_ | refine then_ret ?_ | refine blk_ret ?_ | refine aw_seq ?_ | refine aw_block ?_ | refine aw_skip ?_ | refine aw_exit ?_ | refine aw_scope ?_ | refine aw_ret ?_)
    refine aw_region ?_
    first | refine ao1 (by decide) (w_loadR rfl (lk rfl rfl) rfl rfl rfl) ?_ | refine ao1 (by decide) (w_loadR rfl (lk rfl rfl) rfl (zadd hr) rfl) ?_ | refine ao1 (by decide) (w_loadR rfl (lk rfl rfl) rfl (zadd hr1) rfl) ?_ | refine ao1 (by decide) (w_loadR rfl (lk rfl rfl) rfl (zadd hr2) rfl) ?_ | refine ao1 (by decide) (w_loadRp rfl hr rfl) ?_ | refine ao1 (by decide) (w_loadRp rfl hr1 rfl) ?_ | refine ao1 (by decide) (w_loadRp rfl hr2 rfl) ?_ | refine ao1 (by decide) (w_loadN (cs := [_, _, _, _, _, _, _]) rfl (lk rfl rfl) rfl rfl rfl rfl) ?_ | refine ao1 (by decide) (o_loadNp (cs := [_, _, _, _, _, _, _]) rfl hr rfl rfl) ?_ | refine ao1 (by decide) (o_loadNp (cs := [_, _, _, _, _, _, _]) rfl hr1 rfl rfl) ?_ | refine ao1 (by decide) (o_loadNp (cs := [_, _, _, _, _, _, _]) rfl hr2 rfl rfl) ?_ | refine ao1 (by decide) (w_loadR rfl (lkF hF) rfl rfl rfl) ?_ | refine ao1 (by decide) (w_loadN (cs := [_, _, _, _, _, _, _]) rfl (lkF hF) rfl rfl rfl rfl) ?_
    refine ao2 (by rintro _ ⟨⟩; decide) (V2.call (c7 _) rfl) ?_
    refine ao1 (by decide) (o_move (v := .tup _) rfl) ?_
    refine ao1 (by decide) (o_extract (v := .int _ _) rfl rfl) ?_
    refine ao1 (by decide) (o_extract (v := .int _ _) rfl rfl) ?_
    refine ao1 (by decide) (o_extract (v := .int _ _) rfl rfl) ?_
    refine ao1 (by decide) (o_assign (v := .int _ _) rfl) ?_
    refine ao1 (by decide) (o_assign (v := .int _ _) rfl) ?_
    refine ao1 (by decide) (o_assign (v := .int _ _) rfl) ?_
    refine ao_nil ?_
    try dsimp only [List.set_cons_zero, List.set_cons_succ, List.cons_append, List.nil_append, List.take_succ_cons, List.take_zero, List.drop_succ_cons, List.drop_zero, AV.cells, List.length_nil, List.length_cons, Av.put, Nat.reduceAdd, AV.up, AV.up1, List.map_cons, List.map_nil]
    repeat (first | refine join_ret ?_ | refine join_brk ?_ | refine then_nrm ?_ | refine blk_nrm ?_ | refine then_brk ?_ | refine blk_hit ?_ | refine blk_miss rfl ?_ | refine then_ret ?_ | refine blk_ret ?_ | refine aw_seq ?_ | refine aw_block ?_ | refine aw_skip ?_ | refine aw_exit ?_ | refine aw_scope ?_ | refine aw_ret ?_)
    refine aw_out 77 (.bool false) ?_ ?_
    · first | refine ao1 (by decide) (w_loadR rfl (lk rfl rfl) rfl rfl rfl) ?_ | refine ao1 (by decide) (w_loadR rfl (lk rfl rfl) rfl (zadd hr) rfl) ?_ | refine ao1 (by decide) (w_loadR rfl (lk rfl rfl) rfl (zadd hr1) rfl) ?_ | refine ao1 (by decide) (w_loadR rfl (lk rfl rfl) rfl (zadd hr2) rfl) ?_ | refine ao1 (by decide) (w_loadRp rfl hr rfl) ?_ | refine ao1 (by decide) (w_loadRp rfl hr1 rfl) ?_ | refine ao1 (by decide) (w_loadRp rfl hr2 rfl) ?_ | refine ao1 (by decide) (w_loadN (cs := [_, _, _, _, _, _, _]) rfl (lk rfl rfl) rfl rfl rfl rfl) ?_ | refine ao1 (by decide) (o_loadNp (cs := [_, _, _, _, _, _, _]) rfl hr rfl rfl) ?_ | refine ao1 (by decide) (o_loadNp (cs := [_, _, _, _, _, _, _]) rfl hr1 rfl rfl) ?_ | refine ao1 (by decide) (o_loadNp (cs := [_, _, _, _, _, _, _]) rfl hr2 rfl rfl) ?_ | refine ao1 (by decide) (w_loadR rfl (lkF hF) rfl rfl rfl) ?_ | refine ao1 (by decide) (w_loadN (cs := [_, _, _, _, _, _, _]) rfl (lkF hF) rfl rfl rfl rfl) ?_
      refine ao2 (by rintro _ ⟨⟩; decide) (V2.call (c8 _) rfl) ?_
      refine ao1 (by decide) (o_not rfl) ?_
      refine ao1 (by decide) (o_move (v := .bool _) rfl) ?_
      refine ao_split rfl rfl (fun hg3 => ?_) (fun hg3 => ?_)
      · refine ao_nF rfl rfl (by decide) ?_
        refine ao_nF rfl rfl (by decide) ?_
        refine ao_nF rfl rfl (by decide) ?_
        refine ao_nF rfl rfl (by decide) ?_
        refine ao_nF rfl rfl (by decide) ?_
        refine ao_nF rfl rfl (by decide) ?_
        first | refine ao1 (by decide) (o_pick_t (v := .bool _) rfl rfl) ?_ | refine ao1 (by decide) (o_pick_f (v := .bool _) rfl rfl) ?_ | refine ao1 (by decide) (o_pick_b rfl rfl rfl) ?_
        refine ao1 (by decide) (o_move (v := .bool _) rfl) ?_
        refine ao_nF rfl rfl (by decide) ?_
        refine ao_nF rfl rfl (by decide) ?_
        refine ao_nF rfl rfl (by decide) ?_
        refine ao_nF rfl rfl (by decide) ?_
        refine ao_nF rfl rfl (by decide) ?_
        refine ao_nF rfl rfl (by decide) ?_
        refine ao_nF rfl rfl (by decide) ?_
        refine ao_nF rfl rfl (by decide) ?_
        refine ao_nF rfl rfl (by decide) ?_
        first | refine ao1 (by decide) (o_pick_t (v := .bool _) rfl rfl) ?_ | refine ao1 (by decide) (o_pick_f (v := .bool _) rfl rfl) ?_ | refine ao1 (by decide) (o_pick_b rfl rfl rfl) ?_
        refine ao1 (by decide) (o_move (v := .bool _) rfl) ?_
        refine ao_nF rfl rfl (by decide) ?_
        refine ao_nF rfl rfl (by decide) ?_
        refine ao_nF rfl rfl (by decide) ?_
        refine ao_nF rfl rfl (by decide) ?_
        refine ao_nF rfl rfl (by decide) ?_
        refine ao_nF rfl rfl (by decide) ?_
        refine ao_nF rfl rfl (by decide) ?_
        refine ao_nF rfl rfl (by decide) ?_
        refine ao_nF rfl rfl (by decide) ?_
        first | refine ao1 (by decide) (o_pick_t (v := .bool _) rfl rfl) ?_ | refine ao1 (by decide) (o_pick_f (v := .bool _) rfl rfl) ?_ | refine ao1 (by decide) (o_pick_b rfl rfl rfl) ?_
        exact ao_nil (Out.mk (by first | rfl | (refine congrArg AV.bool ?_; first | (simp at *; done) | (simp_all; done) | (simp at *; omega) | (simp_all; omega) | grind)) (by repeat (first | exact SubX.refl _ _ | refine SubX.at ?_ | refine SubX.put rfl ?_ | refine SubX.put_same rfl ?_)))
      · refine ao_y1 rfl rfl (by decide) (o_move (v := .int _ _) rfl) ?_
        refine ao_y1 rfl rfl (by decide) (o_move (v := .int _ _) rfl) ?_
        first | refine ao_y1 rfl rfl (by decide) (o_sub rfl rfl (wrap64_ok (by omega) (by omega))) ?_ | refine ao_y1 rfl rfl (by decide) (o_sub rfl rfl rfl) ?_
        refine ao_y1 rfl rfl (by decide) (o_move (v := .int _ _) rfl) ?_
        first | refine ao_y1 rfl rfl (by decide) (o_conv_int rfl (wrap64_ok (by omega) (by omega))) ?_ | refine ao_y1 rfl rfl (by decide) (o_conv_int rfl rfl) ?_
        refine ao_y1 rfl rfl (by decide) (o_ne rfl rfl) ?_
        first | refine ao1 (by decide) (o_pick_t (v := .bool _) rfl rfl) ?_ | refine ao1 (by decide) (o_pick_f (v := .bool _) rfl rfl) ?_ | refine ao1 (by decide) (o_pick_b rfl rfl rfl) ?_
        refine ao1 (by decide) (o_move (v := .bool _) rfl) ?_
        refine ao_split rfl rfl (fun hg11 => ?_) (fun hg11 => ?_)
        · refine ao_nF rfl rfl (by decide) ?_
          refine ao_nF rfl rfl (by decide) ?_
          refine ao_nF rfl rfl (by decide) ?_
          refine ao_nF rfl rfl (by decide) ?_
          refine ao_nF rfl rfl (by decide) ?_
          refine ao_nF rfl rfl (by decide) ?_
          refine ao_nF rfl rfl (by decide) ?_
          refine ao_nF rfl rfl (by decide) ?_
          refine ao_nF rfl rfl (by decide) ?_
          first | refine ao1 (by decide) (o_pick_t (v := .bool _) rfl rfl) ?_ | refine ao1 (by decide) (o_pick_f (v := .bool _) rfl rfl) ?_ | refine ao1 (by decide) (o_pick_b rfl rfl rfl) ?_
          refine ao1 (by decide) (o_move (v := .bool _) rfl) ?_
          refine ao_nF rfl rfl (by decide) ?_
          refine ao_nF rfl rfl (by decide) ?_
          refine ao_nF rfl rfl (by decide) ?_
          refine ao_nF rfl rfl (by decide) ?_
          refine ao_nF rfl rfl (by decide) ?_
          refine ao_nF rfl rfl (by decide) ?_
          refine ao_nF rfl rfl (by decide) ?_
          refine ao_nF rfl rfl (by decide) ?_
          refine ao_nF rfl rfl (by decide) ?_
          first | refine ao1 (by decide) (o_pick_t (v := .bool _) rfl rfl) ?_ | refine ao1 (by decide) (o_pick_f (v := .bool _) rfl rfl) ?_ | refine ao1 (by decide) (o_pick_b rfl rfl rfl) ?_
          exact ao_nil (Out.mk (by first | rfl | (refine congrArg AV.bool ?_; first | (simp at *; done) | (simp_all; done) | (simp at *; omega) | (simp_all; omega) | grind)) (by repeat (first | exact SubX.refl _ _ | refine SubX.at ?_ | refine SubX.put rfl ?_ | refine SubX.put_same rfl ?_)))
        · refine ao_y1 rfl rfl (by decide) (o_move (v := .int _ _) rfl) ?_
          refine ao_y1 rfl rfl (by decide) (o_move (v := .int _ _) rfl) ?_
          first | refine ao_y1 rfl rfl (by decide) (o_sub rfl rfl (wrap64_ok (by omega) (by omega))) ?_ | refine ao_y1 rfl rfl (by decide) (o_sub rfl rfl rfl) ?_
          refine ao_y1 rfl rfl (by decide) (o_move (v := .int _ _) rfl) ?_
          first | refine ao_y1 rfl rfl (by decide) (o_conv_int rfl (wrap64_ok (by omega) (by omega))) ?_ | refine ao_y1 rfl rfl (by decide) (o_conv_int rfl rfl) ?_
          first | refine ao_y1 rfl rfl (by decide) (w_fieldAddr rfl (lk rfl rfl) rfl (by decide)) ?_ | refine ao_y1 rfl rfl (by decide) (w_fieldAddrp rfl (by decide)) ?_ | refine ao_y1 rfl rfl (by decide) (w_fieldAddr rfl (lkF hF) rfl (by decide)) ?_
          first | refine ao_y1 rfl rfl (by decide) (w_load1 (v := .int _ _) rfl (lk rfl rfl) rfl rfl rfl) ?_ | refine ao_y1 rfl rfl (by decide) (w_load1 (v := .int _ _) rfl (lk rfl rfl) rfl (zadd hr) rfl) ?_ | refine ao_y1 rfl rfl (by decide) (w_load1 (v := .int _ _) rfl (lk rfl rfl) rfl (zadd hr1) rfl) ?_ | refine ao_y1 rfl rfl (by decide) (w_load1 (v := .int _ _) rfl (lk rfl rfl) rfl (zadd hr2) rfl) ?_ | refine ao_y1 rfl rfl (by decide) (o_load1p (v := .int _ _) rfl hr rfl) ?_ | refine ao_y1 rfl rfl (by decide) (o_load1p (v := .int _ _) rfl hr1 rfl) ?_ | refine ao_y1 rfl rfl (by decide) (o_load1p (v := .int _ _) rfl hr2 rfl) ?_ | refine ao_y1 rfl rfl (by decide) (w_load1 (v := .int _ _) rfl (lkF hF) rfl rfl rfl) ?_
          first | refine ao_y1 rfl rfl (by decide) (o_mul rfl rfl (wrap64_ok (by omega) (by omega))) ?_ | refine ao_y1 rfl rfl (by decide) (o_mul rfl rfl rfl) ?_
          refine ao_y1 rfl rfl (by decide) (o_ne rfl rfl) ?_
          first | refine ao1 (by decide) (o_pick_t (v := .bool _) rfl rfl) ?_ | refine ao1 (by decide) (o_pick_f (v := .bool _) rfl rfl) ?_ | refine ao1 (by decide) (o_pick_b rfl rfl rfl) ?_
          refine ao1 (by decide) (o_move (v := .bool _) rfl) ?_
          refine ao_split rfl rfl (fun hg22 => ?_) (fun hg22 => ?_)
          · refine ao_nF rfl rfl (by decide) ?_
            refine ao_nF rfl rfl (by decide) ?_
            refine ao_nF rfl rfl (by decide) ?_
            refine ao_nF rfl rfl (by decide) ?_
            refine ao_nF rfl rfl (by decide) ?_
            refine ao_nF rfl rfl (by decide) ?_
            refine ao_nF rfl rfl (by decide) ?_
            refine ao_nF rfl rfl (by decide) ?_
            refine ao_nF rfl rfl (by decide) ?_
            first | refine ao1 (by decide) (o_pick_t (v := .bool _) rfl rfl) ?_ | refine ao1 (by decide) (o_pick_f (v := .bool _) rfl rfl) ?_ | refine ao1 (by decide) (o_pick_b rfl rfl rfl) ?_
            exact ao_nil (Out.mk (by first | rfl | (refine congrArg AV.bool ?_; first | (simp at *; done) | (simp_all; done) | (simp at *; omega) | (simp_all; omega) | grind)) (by repeat (first | exact SubX.refl _ _ | refine SubX.at ?_ | refine SubX.put rfl ?_ | refine SubX.put_same rfl ?_)))
          · refine ao_y1 rfl rfl (by decide) (o_move (v := .int _ _) rfl) ?_
            refine ao_y1 rfl rfl (by decide) (o_move (v := .int _ _) rfl) ?_
            first | refine ao_y1 rfl rfl (by decide) (o_sub rfl rfl (wrap64_ok (by omega) (by omega))) ?_ | refine ao_y1 rfl rfl (by decide) (o_sub rfl rfl rfl) ?_
            refine ao_y1 rfl rfl (by decide) (o_move (v := .int _ _) rfl) ?_
            first | refine ao_y1 rfl rfl (by decide) (o_conv_int rfl (wrap64_ok (by omega) (by omega))) ?_ | refine ao_y1 rfl rfl (by decide) (o_conv_int rfl rfl) ?_
            first | refine ao_y1 rfl rfl (by decide) (w_fieldAddr rfl (lk rfl rfl) rfl (by decide)) ?_ | refine ao_y1 rfl rfl (by decide) (w_fieldAddrp rfl (by decide)) ?_ | refine ao_y1 rfl rfl (by decide) (w_fieldAddr rfl (lkF hF) rfl (by decide)) ?_
            first | refine ao_y1 rfl rfl (by decide) (w_load1 (v := .int _ _) rfl (lk rfl rfl) rfl rfl rfl) ?_ | refine ao_y1 rfl rfl (by decide) (w_load1 (v := .int _ _) rfl (lk rfl rfl) rfl (zadd hr) rfl) ?_ | refine ao_y1 rfl rfl (by decide) (w_load1 (v := .int _ _) rfl (lk rfl rfl) rfl (zadd hr1) rfl) ?_ | refine ao_y1 rfl rfl (by decide) (w_load1 (v := .int _ _) rfl (lk rfl rfl) rfl (zadd hr2) rfl) ?_ | refine ao_y1 rfl rfl (by decide) (o_load1p (v := .int _ _) rfl hr rfl) ?_ | refine ao_y1 rfl rfl (by decide) (o_load1p (v := .int _ _) rfl hr1 rfl) ?_ | refine ao_y1 rfl rfl (by decide) (o_load1p (v := .int _ _) rfl hr2 rfl) ?_ | refine ao_y1 rfl rfl (by decide) (w_load1 (v := .int _ _) rfl (lkF hF) rfl rfl rfl) ?_
            first | refine ao_y1 rfl rfl (by decide) (o_mul rfl rfl (wrap64_ok (by omega) (by omega))) ?_ | refine ao_y1 rfl rfl (by decide) (o_mul rfl rfl rfl) ?_
            refine ao_y1 rfl rfl (by decide) (o_ne rfl rfl) ?_
            first | refine ao1 (by decide) (o_pick_t (v := .bool _) rfl rfl) ?_ | refine ao1 (by decide) (o_pick_f (v := .bool _) rfl rfl) ?_ | refine ao1 (by decide) (o_pick_b rfl rfl rfl) ?_
            exact ao_nil (Out.mk (by first | rfl | (refine congrArg AV.bool ?_; first | (simp at *; done) | (simp_all; done) | (simp at *; omega) | (simp_all; omega) | grind)) (by repeat (first | exact SubX.refl _ _ | refine SubX.at ?_ | refine SubX.put rfl ?_ | refine SubX.put_same rfl ?_)))
    repeat (first | refine join_ret ?_ | refine join_brk ?_ | refine then_nrm ?_ | refine blk_nrm ?_ | refine then_brk ?_ | refine blk_hit ?_ | refine blk_miss rfl ?_ | refine then_ret ?_ | refine blk_ret ?_ | refine aw_seq ?_ | refine aw_block ?_ | refine aw_skip ?_ | refine aw_exit ?_ | refine aw_scope ?_ | refine aw_ret ?_)
    refine aw_cond rfl (fun hc => ?_) (fun hc => ?_)
    · simp at hc
    have c10 := fun H => spec_Part ⟨s.nodes - x, s.cores, s.gpus, s.tag, s.whole, s.long, s.prio⟩ y H
    have c11 := fun H => spec_Part s (x + y) H
    have hsx : (!sright s || decide (x + y < 0)) = false := by simp [hs]; omega
    have hsy : (!sright ⟨s.nodes - x, s.cores, s.gpus, s.tag, s.whole, s.long, s.prio⟩ || decide (y < 0)) = false := by simp [hsa]; omega
    by_cases hlt : x + y < s.nodes
    · rw [show sPart ⟨s.nodes - x, s.cores, s.gpus, s.tag, s.whole, s.long, s.prio⟩ y = (⟨s.nodes - (x + y), s.cores, s.gpus, s.tag, s.whole, s.long, s.prio⟩, 0) by
        rw [sPart, if_neg (by rw [hsy]; simp), if_neg (by simp only; omega)]; simp only; rw [show s.nodes - x - y = s.nodes - (x + y) by omega]] at c10
      rw [show sPart s (x + y) = (⟨s.nodes - (x + y), s.cores, s.gpus, s.tag, s.whole, s.long, s.prio⟩, 0) by rw [sPart, if_neg (by rw [hsx]; simp), if_neg (by omega)]] at c11
      repeat (first | refine join_ret ?_ | refine join_brk ?_ | refine then_nrm ?_ | refine blk_nrm ?_ | refine then_brk ?_ | refine blk_hit ?_ | refine blk_miss rfl ?_ | refine then_ret ?_ | refine blk_ret ?_ | refine aw_seq ?_ | refine aw_block ?_ | refine aw_skip ?_ | refine aw_exit ?_ | refine aw_scope ?_ | refine aw_ret ?_)
      refine aw_region ?_
      first | refine ao1 (by decide) (w_loadR rfl (lk rfl rfl) rfl rfl rfl) ?_ | refine ao1 (by decide) (w_loadR rfl (lk rfl rfl) rfl (zadd hr) rfl) ?_ | refine ao1 (by decide) (w_loadR rfl (lk rfl rfl) rfl (zadd hr1) rfl) ?_ | refine ao1 (by decide) (w_loadR rfl (lk rfl rfl) rfl (zadd hr2) rfl) ?_ | refine ao1 (by decide) (w_loadRp rfl hr rfl) ?_ | refine ao1 (by decide) (w_loadRp rfl hr1 rfl) ?_ | refine ao1 (by decide) (w_loadRp rfl hr2 rfl) ?_ | refine ao1 (by decide) (w_loadN (cs := [_, _, _, _, _, _, _]) rfl (lk rfl rfl) rfl rfl rfl rfl) ?_ | refine ao1 (by decide) (o_loadNp (cs := [_, _, _, _, _, _, _]) rfl hr rfl rfl) ?_ | refine ao1 (by decide) (o_loadNp (cs := [_, _, _, _, _, _, _]) rfl hr1 rfl rfl) ?_ | refine ao1 (by decide) (o_loadNp (cs := [_, _, _, _, _, _, _]) rfl hr2 rfl rfl) ?_ | refine ao1 (by decide) (w_loadR rfl (lkF hF) rfl rfl rfl) ?_ | refine ao1 (by decide) (w_loadN (cs := [_, _, _, _, _, _, _]) rfl (lkF hF) rfl rfl rfl rfl) ?_
      refine ao1 (by decide) (o_move (v := .int _ _) rfl) ?_
      first | refine ao1 (by decide) (o_conv_int rfl (wrap64_ok (by omega) (by omega))) ?_ | refine ao1 (by decide) (o_conv_int rfl rfl) ?_
      refine ao2 (by rintro _ ⟨⟩; decide) (V2.call (c10 _) rfl) ?_
      refine ao1 (by decide) (o_move (v := .tup _) rfl) ?_
      refine ao1 (by decide) (o_extract (v := .agg _) rfl rfl) ?_
      refine ao1 (by decide) (o_extract (v := .int _ _) rfl rfl) ?_
      refine ao2 (by rintro _ ⟨⟩; decide) (o_allocL (sz := 7) rfl (by decide) rfl) ?_
      first | refine ao2 (by rintro _ ⟨⟩) (w_storeW (sz := 7) rfl rfl rfl rfl rfl rfl rfl rfl (Nat.le_of_ble_eq_true rfl)) ?_ | refine ao2 (by rintro _ ⟨⟩) (w_storeFP (sz := 7) (v := .agg _) (r' := [_, _, _, _, _, _, _]) rfl hF rfl rfl rfl rfl rfl (Nat.le_of_ble_eq_true rfl) rfl) ?_ | refine ao2 (by rintro _ ⟨⟩) (w_storeFP (sz := 7) (v := .agg _) (r' := [_, _, _, _, _, _, _]) rfl hF1 rfl rfl rfl rfl rfl (Nat.le_of_ble_eq_true rfl) rfl) ?_
      refine ao1 (by decide) (o_assign (v := .int _ _) rfl) ?_
      refine ao_nil ?_
      try dsimp only [List.set_cons_zero, List.set_cons_succ, List.cons_append, List.nil_append, List.take_succ_cons, List.take_zero, List.drop_succ_cons, List.drop_zero, AV.cells, List.length_nil, List.length_cons, Av.put, Nat.reduceAdd, AV.up, AV.up1, List.map_cons, List.map_nil]
      repeat (first | refine join_ret ?_ | refine join_brk ?_ | refine then_nrm ?_ | refine blk_nrm ?_ | refine then_brk ?_ | refine blk_hit ?_ | refine blk_miss rfl ?_ | refine then_ret ?_ | refine blk_ret ?_ | refine aw_seq ?_ | refine aw_block ?_ | refine aw_skip ?_ | refine aw_exit ?_ | refine aw_scope ?_ | refine aw_ret ?_)
      refine aw_region ?_
      first | refine ao1 (by decide) (w_loadR rfl (lk rfl rfl) rfl rfl rfl) ?_ | refine ao1 (by decide) (w_loadR rfl (lk rfl rfl) rfl (zadd hr) rfl) ?_ | refine ao1 (by decide) (w_loadR rfl (lk rfl rfl) rfl (zadd hr1) rfl) ?_ | refine ao1 (by decide) (w_loadR rfl (lk rfl rfl) rfl (zadd hr2) rfl) ?_ | refine ao1 (by decide) (w_loadRp rfl hr rfl) ?_ | refine ao1 (by decide) (w_loadRp rfl hr1 rfl) ?_ | refine ao1 (by decide) (w_loadRp rfl hr2 rfl) ?_ | refine ao1 (by decide) (w_loadN (cs := [_, _, _, _, _, _, _]) rfl (lk rfl rfl) rfl rfl rfl rfl) ?_ | refine ao1 (by decide) (o_loadNp (cs := [_, _, _, _, _, _, _]) rfl hr rfl rfl) ?_ | refine ao1 (by decide) (o_loadNp (cs := [_, _, _, _, _, _, _]) rfl hr1 rfl rfl) ?_ | refine ao1 (by decide) (o_loadNp (cs := [_, _, _, _, _, _, _]) rfl hr2 rfl rfl) ?_ | refine ao1 (by decide) (w_loadR rfl (lkF hF) rfl rfl rfl) ?_ | refine ao1 (by decide) (w_loadN (cs := [_, _, _, _, _, _, _]) rfl (lkF hF) rfl rfl rfl rfl) ?_
      refine ao1 (by decide) (o_move (v := .int _ _) rfl) ?_
      first | refine ao1 (by decide) (o_conv_int rfl (wrap64_ok (by omega) (by omega))) ?_ | refine ao1 (by decide) (o_conv_int rfl rfl) ?_
      refine ao1 (by decide) (o_move (v := .int _ _) rfl) ?_
      first | refine ao1 (by decide) (o_conv_int rfl (wrap64_ok (by omega) (by omega))) ?_ | refine ao1 (by decide) (o_conv_int rfl rfl) ?_
      first | refine ao1 (by decide) (o_add rfl rfl (wrap64_ok (by omega) (by omega))) ?_ | refine ao1 (by decide) (o_add rfl rfl rfl) ?_
      refine ao2 (by rintro _ ⟨⟩; decide) (V2.call (c11 _) rfl) ?_
      refine ao1 (by decide) (o_move (v := .tup _) rfl) ?_
      refine ao1 (by decide) (o_extract (v := .agg _) rfl rfl) ?_
      refine ao1 (by decide) (o_extract (v := .int _ _) rfl rfl) ?_
      refine ao2 (by rintro _ ⟨⟩; decide) (o_allocL (sz := 7) rfl (by decide) rfl) ?_
      first | refine ao2 (by rintro _ ⟨⟩) (w_storeW (sz := 7) rfl rfl rfl rfl rfl rfl rfl rfl (Nat.le_of_ble_eq_true rfl)) ?_ | refine ao2 (by rintro _ ⟨⟩) (w_storeFP (sz := 7) (v := .agg _) (r' := [_, _, _, _, _, _, _]) rfl hF rfl rfl rfl rfl rfl (Nat.le_of_ble_eq_true rfl) rfl) ?_ | refine ao2 (by rintro _ ⟨⟩) (w_storeFP (sz := 7) (v := .agg _) (r' := [_, _, _, _, _, _, _]) rfl hF1 rfl rfl rfl rfl rfl (Nat.le_of_ble_eq_true rfl) rfl) ?_
      refine ao1 (by decide) (o_assign (v := .int _ _) rfl) ?_
      refine ao_nil ?_
      try dsimp only [List.set_cons_zero, List.set_cons_succ, List.cons_append, List.nil_append, List.take_succ_cons, List.take_zero, List.drop_succ_cons, List.drop_zero, AV.cells, List.length_nil, List.length_cons, Av.put, Nat.reduceAdd, AV.up, AV.up1, List.map_cons, List.map_nil]
      repeat (first | refine join_ret ?_ | refine join_brk ?_ | refine then_nrm ?_ | refine blk_nrm ?_ | refine then_brk ?_ | refine blk_hit ?_ | refine blk_miss rfl ?_ | refine then_ret ?_ | refine blk_ret ?_ | refine aw_seq ?_ | refine aw_block ?_ | refine aw_skip ?_ | refine aw_exit ?_ | refine aw_scope ?_ | refine aw_ret ?_)
      refine aw_out 6 (.bool true) ?_ ?_
      · refine ao1 (by decide) (o_move (v := .int _ _) rfl) ?_
        refine ao1 (by decide) (o_move (v := .int _ _) rfl) ?_
        refine ao1 (by decide) (o_eq rfl rfl) ?_
        refine ao1 (by decide) (o_move (v := .bool _) rfl) ?_
        refine ao_split rfl rfl (fun hg3 => ?_) (fun hg3 => ?_)
        · first | refine ao_y1 rfl rfl (by decide) (w_loadR rfl (lk rfl rfl) rfl rfl rfl) ?_ | refine ao_y1 rfl rfl (by decide) (w_loadR rfl (lk rfl rfl) rfl (zadd hr) rfl) ?_ | refine ao_y1 rfl rfl (by decide) (w_loadR rfl (lk rfl rfl) rfl (zadd hr1) rfl) ?_ | refine ao_y1 rfl rfl (by decide) (w_loadR rfl (lk rfl rfl) rfl (zadd hr2) rfl) ?_ | refine ao_y1 rfl rfl (by decide) (w_loadRp rfl hr rfl) ?_ | refine ao_y1 rfl rfl (by decide) (w_loadRp rfl hr1 rfl) ?_ | refine ao_y1 rfl rfl (by decide) (w_loadRp rfl hr2 rfl) ?_ | refine ao_y1 rfl rfl (by decide) (w_loadN (cs := [_, _, _, _, _, _, _]) rfl (lk rfl rfl) rfl rfl rfl rfl) ?_ | refine ao_y1 rfl rfl (by decide) (o_loadNp (cs := [_, _, _, _, _, _, _]) rfl hr rfl rfl) ?_ | refine ao_y1 rfl rfl (by decide) (o_loadNp (cs := [_, _, _, _, _, _, _]) rfl hr1 rfl rfl) ?_ | refine ao_y1 rfl rfl (by decide) (o_loadNp (cs := [_, _, _, _, _, _, _]) rfl hr2 rfl rfl) ?_ | refine ao_y1 rfl rfl (by decide) (w_loadR rfl (lkF hF) rfl rfl rfl) ?_ | refine ao_y1 rfl rfl (by decide) (w_loadN (cs := [_, _, _, _, _, _, _]) rfl (lkF hF) rfl rfl rfl rfl) ?_
          first | refine ao_y1 rfl rfl (by decide) (w_loadR rfl (lk rfl rfl) rfl rfl rfl) ?_ | refine ao_y1 rfl rfl (by decide) (w_loadR rfl (lk rfl rfl) rfl (zadd hr) rfl) ?_ | refine ao_y1 rfl rfl (by decide) (w_loadR rfl (lk rfl rfl) rfl (zadd hr1) rfl) ?_ | refine ao_y1 rfl rfl (by decide) (w_loadR rfl (lk rfl rfl) rfl (zadd hr2) rfl) ?_ | refine ao_y1 rfl rfl (by decide) (w_loadRp rfl hr rfl) ?_ | refine ao_y1 rfl rfl (by decide) (w_loadRp rfl hr1 rfl) ?_ | refine ao_y1 rfl rfl (by decide) (w_loadRp rfl hr2 rfl) ?_ | refine ao_y1 rfl rfl (by decide) (w_loadN (cs := [_, _, _, _, _, _, _]) rfl (lk rfl rfl) rfl rfl rfl rfl) ?_ | refine ao_y1 rfl rfl (by decide) (o_loadNp (cs := [_, _, _, _, _, _, _]) rfl hr rfl rfl) ?_ | refine ao_y1 rfl rfl (by decide) (o_loadNp (cs := [_, _, _, _, _, _, _]) rfl hr1 rfl rfl) ?_ | refine ao_y1 rfl rfl (by decide) (o_loadNp (cs := [_, _, _, _, _, _, _]) rfl hr2 rfl rfl) ?_ | refine ao_y1 rfl rfl (by decide) (w_loadR rfl (lkF hF) rfl rfl rfl) ?_ | refine ao_y1 rfl rfl (by decide) (w_loadN (cs := [_, _, _, _, _, _, _]) rfl (lkF hF) rfl rfl rfl rfl) ?_
          refine ao_y1 rfl rfl (by decide) (o_eqAgg (us := uSpec ⟨s.nodes - (x + y), s.cores, s.gpus, s.tag, s.whole, s.long, s.prio⟩) (vs := uSpec ⟨s.nodes - (x + y), s.cores, s.gpus, s.tag, s.whole, s.long, s.prio⟩) rfl rfl rfl rfl (by kernel_rfl) (eqSpec_run _ _)) ?_
          first | refine ao1 (by decide) (o_pick_t (v := .bool _) rfl rfl) ?_ | refine ao1 (by decide) (o_pick_f (v := .bool _) rfl rfl) ?_ | refine ao1 (by decide) (o_pick_b rfl rfl rfl) ?_
          refine ao1 (by decide) (o_assign (v := .bool _) rfl) ?_
          exact ao_nil (Out.mk (by first | rfl | (refine congrArg AV.bool ?_; first | (simp at *; done) | (simp_all; done))) (by repeat (first | exact SubX.refl _ _ | refine SubX.at ?_ | refine SubX.put rfl ?_ | refine SubX.put_same rfl ?_)))
        · refine ao_nT rfl rfl (by decide) ?_
          refine ao_nT rfl rfl (by decide) ?_
          refine ao_nT rfl rfl (by decide) ?_
          first | refine ao1 (by decide) (o_pick_t (v := .bool _) rfl rfl) ?_ | refine ao1 (by decide) (o_pick_f (v := .bool _) rfl rfl) ?_ | refine ao1 (by decide) (o_pick_b rfl rfl rfl) ?_
          refine ao1 (by decide) (o_assign (v := .bool _) rfl) ?_
          exact ao_nil (Out.mk (by first | rfl | (refine congrArg AV.bool ?_; first | (simp at *; done) | (simp_all; done))) (by repeat (first | exact SubX.refl _ _ | refine SubX.at ?_ | refine SubX.put rfl ?_ | refine SubX.put_same rfl ?_)))
      repeat (first | refine join_ret ?_ | refine join_brk ?_ | refine then_nrm ?_ | refine blk_nrm ?_ | refine then_brk ?_ | refine blk_hit ?_ | refine blk_miss rfl ?_ | refine then_ret ?_ | refine blk_ret ?_ | refine aw_seq ?_ | refine aw_block ?_ | refine aw_skip ?_ | refine aw_exit ?_ | refine aw_scope ?_ | refine aw_ret ?_)
      exact e_done hB (r_tmp rfl .nil) rfl rfl
    · rw [show sPart ⟨s.nodes - x, s.cores, s.gpus, s.tag, s.whole, s.long, s.prio⟩ y = (spec0, 6) by
        rw [sPart, if_neg (by rw [hsy]; simp), if_pos (by simp only; omega)]] at c10
      rw [show sPart s (x + y) = (spec0, 6) by rw [sPart, if_neg (by rw [hsx]; simp), if_pos (by omega)]] at c11
      repeat (first | refine join_ret ?_ | refine join_brk ?_ | refine then_nrm ?_ | refine blk_nrm ?_ | refine then_brk ?_ | refine blk_hit ?_ | refine blk_miss rfl ?_ | refine then_ret ?_ | refine blk_ret ?_ | refine aw_seq ?_ | refine aw_block ?_ | refine aw_skip ?_ | refine aw_exit ?_ | refine aw_scope ?_ | refine aw_ret ?_)
      refine aw_region ?_
      first | refine ao1 (by decide) (w_loadR rfl (lk rfl rfl) rfl rfl rfl) ?_ | refine ao1 (by decide) (w_loadR rfl (lk rfl rfl) rfl (zadd hr) rfl) ?_ | refine ao1 (by decide) (w_loadR rfl (lk rfl rfl) rfl (zadd hr1) rfl) ?_ | refine ao1 (by decide) (w_loadR rfl (lk rfl rfl) rfl (zadd hr2) rfl) ?_ | refine ao1 (by decide) (w_loadRp rfl hr rfl) ?_ | refine ao1 (by decide) (w_loadRp rfl hr1 rfl) ?_ | refine ao1 (by decide) (w_loadRp rfl hr2 rfl) ?_ | refine ao1 (by decide) (w_loadN (cs := [_, _, _, _, _, _, _]) rfl (lk rfl rfl) rfl rfl rfl rfl) ?_ | refine ao1 (by decide) (o_loadNp (cs := [_, _, _, _, _, _, _]) rfl hr rfl rfl) ?_ | refine ao1 (by decide) (o_loadNp (cs := [_, _, _, _, _, _, _]) rfl hr1 rfl rfl) ?_ | refine ao1 (by decide) (o_loadNp (cs := [_, _, _, _, _, _, _]) rfl hr2 rfl rfl) ?_ | refine ao1 (by decide) (w_loadR rfl (lkF hF) rfl rfl rfl) ?_ | refine ao1 (by decide) (w_loadN (cs := [_, _, _, _, _, _, _]) rfl (lkF hF) rfl rfl rfl rfl) ?_
      refine ao1 (by decide) (o_move (v := .int _ _) rfl) ?_
      first | refine ao1 (by decide) (o_conv_int rfl (wrap64_ok (by omega) (by omega))) ?_ | refine ao1 (by decide) (o_conv_int rfl rfl) ?_
      refine ao2 (by rintro _ ⟨⟩; decide) (V2.call (c10 _) rfl) ?_
      refine ao1 (by decide) (o_move (v := .tup _) rfl) ?_
      refine ao1 (by decide) (o_extract (v := .agg _) rfl rfl) ?_
      refine ao1 (by decide) (o_extract (v := .int _ _) rfl rfl) ?_
      refine ao2 (by rintro _ ⟨⟩; decide) (o_allocL (sz := 7) rfl (by decide) rfl) ?_
      first | refine ao2 (by rintro _ ⟨⟩) (w_storeW (sz := 7) rfl rfl rfl rfl rfl rfl rfl rfl (Nat.le_of_ble_eq_true rfl)) ?_ | refine ao2 (by rintro _ ⟨⟩) (w_storeFP (sz := 7) (v := .agg _) (r' := [_, _, _, _, _, _, _]) rfl hF rfl rfl rfl rfl rfl (Nat.le_of_ble_eq_true rfl) rfl) ?_ | refine ao2 (by rintro _ ⟨⟩) (w_storeFP (sz := 7) (v := .agg _) (r' := [_, _, _, _, _, _, _]) rfl hF1 rfl rfl rfl rfl rfl (Nat.le_of_ble_eq_true rfl) rfl) ?_
      refine ao1 (by decide) (o_assign (v := .int _ _) rfl) ?_
      refine ao_nil ?_
      try dsimp only [List.set_cons_zero, List.set_cons_succ, List.cons_append, List.nil_append, List.take_succ_cons, List.take_zero, List.drop_succ_cons, List.drop_zero, AV.cells, List.length_nil, List.length_cons, Av.put, Nat.reduceAdd, AV.up, AV.up1, List.map_cons, List.map_nil]
      repeat (first | refine join_ret ?_ | refine join_brk ?_ | refine then_nrm ?_ | refine blk_nrm ?_ | refine then_brk ?_ | refine blk_hit ?_ | refine blk_miss rfl ?_ | refine then_ret ?_ | refine blk_ret ?_ | refine aw_seq ?_ | refine aw_block ?_ | refine aw_skip ?_ | refine aw_exit ?_ | refine aw_scope ?_ | refine aw_ret ?_)
      refine aw_region ?_
      first | refine ao1 (by decide) (w_loadR rfl (lk rfl rfl) rfl rfl rfl) ?_ | refine ao1 (by decide) (w_loadR rfl (lk rfl rfl) rfl (zadd hr) rfl) ?_ | refine ao1 (by decide) (w_loadR rfl (lk rfl rfl) rfl (zadd hr1) rfl) ?_ | refine ao1 (by decide) (w_loadR rfl (lk rfl rfl) rfl (zadd hr2) rfl) ?_ | refine ao1 (by decide) (w_loadRp rfl hr rfl) ?_ | refine ao1 (by decide) (w_loadRp rfl hr1 rfl) ?_ | refine ao1 (by decide) (w_loadRp rfl hr2 rfl) ?_ | refine ao1 (by decide) (w_loadN (cs := [_, _, _, _, _, _, _]) rfl (lk rfl rfl) rfl rfl rfl rfl) ?_ | refine ao1 (by decide) (o_loadNp (cs := [_, _, _, _, _, _, _]) rfl hr rfl rfl) ?_ | refine ao1 (by decide) (o_loadNp (cs := [_, _, _, _, _, _, _]) rfl hr1 rfl rfl) ?_ | refine ao1 (by decide) (o_loadNp (cs := [_, _, _, _, _, _, _]) rfl hr2 rfl rfl) ?_ | refine ao1 (by decide) (w_loadR rfl (lkF hF) rfl rfl rfl) ?_ | refine ao1 (by decide) (w_loadN (cs := [_, _, _, _, _, _, _]) rfl (lkF hF) rfl rfl rfl rfl) ?_
      refine ao1 (by decide) (o_move (v := .int _ _) rfl) ?_
      first | refine ao1 (by decide) (o_conv_int rfl (wrap64_ok (by omega) (by omega))) ?_ | refine ao1 (by decide) (o_conv_int rfl rfl) ?_
      refine ao1 (by decide) (o_move (v := .int _ _) rfl) ?_
      first | refine ao1 (by decide) (o_conv_int rfl (wrap64_ok (by omega) (by omega))) ?_ | refine ao1 (by decide) (o_conv_int rfl rfl) ?_
      first | refine ao1 (by decide) (o_add rfl rfl (wrap64_ok (by omega) (by omega))) ?_ | refine ao1 (by decide) (o_add rfl rfl rfl) ?_
      refine ao2 (by rintro _ ⟨⟩; decide) (V2.call (c11 _) rfl) ?_
      refine ao1 (by decide) (o_move (v := .tup _) rfl) ?_
      refine ao1 (by decide) (o_extract (v := .agg _) rfl rfl) ?_
      refine ao1 (by decide) (o_extract (v := .int _ _) rfl rfl) ?_
      refine ao2 (by rintro _ ⟨⟩; decide) (o_allocL (sz := 7) rfl (by decide) rfl) ?_
      first | refine ao2 (by rintro _ ⟨⟩) (w_storeW (sz := 7) rfl rfl rfl rfl rfl rfl rfl rfl (Nat.le_of_ble_eq_true rfl)) ?_ | refine ao2 (by rintro _ ⟨⟩) (w_storeFP (sz := 7) (v := .agg _) (r' := [_, _, _, _, _, _, _]) rfl hF rfl rfl rfl rfl rfl (Nat.le_of_ble_eq_true rfl) rfl) ?_ | refine ao2 (by rintro _ ⟨⟩) (w_storeFP (sz := 7) (v := .agg _) (r' := [_, _, _, _, _, _, _]) rfl hF1 rfl rfl rfl rfl rfl (Nat.le_of_ble_eq_true rfl) rfl) ?_
      refine ao1 (by decide) (o_assign (v := .int _ _) rfl) ?_
      refine ao_nil ?_
      try dsimp only [List.set_cons_zero, List.set_cons_succ, List.cons_append, List.nil_append, List.take_succ_cons, List.take_zero, List.drop_succ_cons, List.drop_zero, AV.cells, List.length_nil, List.length_cons, Av.put, Nat.reduceAdd, AV.up, AV.up1, List.map_cons, List.map_nil]
      repeat (first | refine join_ret ?_ | refine join_brk ?_ | refine then_nrm ?_ | refine blk_nrm ?_ | refine then_brk ?_ | refine blk_hit ?_ | refine blk_miss rfl ?_ | refine then_ret ?_ | refine blk_ret ?_ | refine aw_seq ?_ | refine aw_block ?_ | refine aw_skip ?_ | refine aw_exit ?_ | refine aw_scope ?_ | refine aw_ret ?_)
      refine aw_out 6 (.bool true) ?_ ?_
      · refine ao1 (by decide) (o_move (v := .int _ _) rfl) ?_
        refine ao1 (by decide) (o_move (v := .int _ _) rfl) ?_
        refine ao1 (by decide) (o_eq rfl rfl) ?_
        refine ao1 (by decide) (o_move (v := .bool _) rfl) ?_
        refine ao_split rfl rfl (fun hg3 => ?_) (fun hg3 => ?_)
        · first | refine ao_y1 rfl rfl (by decide) (w_loadR rfl (lk rfl rfl) rfl rfl rfl) ?_ | refine ao_y1 rfl rfl (by decide) (w_loadR rfl (lk rfl rfl) rfl (zadd hr) rfl) ?_ | refine ao_y1 rfl rfl (by decide) (w_loadR rfl (lk rfl rfl) rfl (zadd hr1) rfl) ?_ | refine ao_y1 rfl rfl (by decide) (w_loadR rfl (lk rfl rfl) rfl (zadd hr2) rfl) ?_ | refine ao_y1 rfl rfl (by decide) (w_loadRp rfl hr rfl) ?_ | refine ao_y1 rfl rfl (by decide) (w_loadRp rfl hr1 rfl) ?_ | refine ao_y1 rfl rfl (by decide) (w_loadRp rfl hr2 rfl) ?_ | refine ao_y1 rfl rfl (by decide) (w_loadN (cs := [_, _, _, _, _, _, _]) rfl (lk rfl rfl) rfl rfl rfl rfl) ?_ | refine ao_y1 rfl rfl (by decide) (o_loadNp (cs := [_, _, _, _, _, _, _]) rfl hr rfl rfl) ?_ | refine ao_y1 rfl rfl (by decide) (o_loadNp (cs := [_, _, _, _, _, _, _]) rfl hr1 rfl rfl) ?_ | refine ao_y1 rfl rfl (by decide) (o_loadNp (cs := [_, _, _, _, _, _, _]) rfl hr2 rfl rfl) ?_ | refine ao_y1 rfl rfl (by decide) (w_loadR rfl (lkF hF) rfl rfl rfl) ?_ | refine ao_y1 rfl rfl (by decide) (w_loadN (cs := [_, _, _, _, _, _, _]) rfl (lkF hF) rfl rfl rfl rfl) ?_
          first | refine ao_y1 rfl rfl (by decide) (w_loadR rfl (lk rfl rfl) rfl rfl rfl) ?_ | refine ao_y1 rfl rfl (by decide) (w_loadR rfl (lk rfl rfl) rfl (zadd hr) rfl) ?_ | refine ao_y1 rfl rfl (by decide) (w_loadR rfl (lk rfl rfl) rfl (zadd hr1) rfl) ?_ | refine ao_y1 rfl rfl (by decide) (w_loadR rfl (lk rfl rfl) rfl (zadd hr2) rfl) ?_ | refine ao_y1 rfl rfl (by decide) (w_loadRp rfl hr rfl) ?_ | refine ao_y1 rfl rfl (by decide) (w_loadRp rfl hr1 rfl) ?_ | refine ao_y1 rfl rfl (by decide) (w_loadRp rfl hr2 rfl) ?_ | refine ao_y1 rfl rfl (by decide) (w_loadN (cs := [_, _, _, _, _, _, _]) rfl (lk rfl rfl) rfl rfl rfl rfl) ?_ | refine ao_y1 rfl rfl (by decide) (o_loadNp (cs := [_, _, _, _, _, _, _]) rfl hr rfl rfl) ?_ | refine ao_y1 rfl rfl (by decide) (o_loadNp (cs := [_, _, _, _, _, _, _]) rfl hr1 rfl rfl) ?_ | refine ao_y1 rfl rfl (by decide) (o_loadNp (cs := [_, _, _, _, _, _, _]) rfl hr2 rfl rfl) ?_ | refine ao_y1 rfl rfl (by decide) (w_loadR rfl (lkF hF) rfl rfl rfl) ?_ | refine ao_y1 rfl rfl (by decide) (w_loadN (cs := [_, _, _, _, _, _, _]) rfl (lkF hF) rfl rfl rfl rfl) ?_
          refine ao_y1 rfl rfl (by decide) (o_eqAgg (us := uSpec spec0) (vs := uSpec spec0) rfl rfl rfl rfl (by kernel_rfl) (eqSpec_run _ _)) ?_
          first | refine ao1 (by decide) (o_pick_t (v := .bool _) rfl rfl) ?_ | refine ao1 (by decide) (o_pick_f (v := .bool _) rfl rfl) ?_ | refine ao1 (by decide) (o_pick_b rfl rfl rfl) ?_
          refine ao1 (by decide) (o_assign (v := .bool _) rfl) ?_
          exact ao_nil (Out.mk (by first | rfl | (refine congrArg AV.bool ?_; first | (simp at *; done) | (simp_all; done))) (by repeat (first | exact SubX.refl _ _ | refine SubX.at ?_ | refine SubX.put rfl ?_ | refine SubX.put_same rfl ?_)))
        · refine ao_nT rfl rfl (by decide) ?_
          refine ao_nT rfl rfl (by decide) ?_
          refine ao_nT rfl rfl (by decide) ?_
          first | refine ao1 (by decide) (o_pick_t (v := .bool _) rfl rfl) ?_ | refine ao1 (by decide) (o_pick_f (v := .bool _) rfl rfl) ?_ | refine ao1 (by decide) (o_pick_b rfl rfl rfl) ?_
          refine ao1 (by decide) (o_assign (v := .bool _) rfl) ?_
          exact ao_nil (Out.mk (by first | rfl | (refine congrArg AV.bool ?_; first | (simp at *; done) | (simp_all; done))) (by repeat (first | exact SubX.refl _ _ | refine SubX.at ?_ | refine SubX.put rfl ?_ | refine SubX.put_same rfl ?_)))
      repeat (first | refine join_ret ?_ | refine join_brk ?_ | refine then_nrm ?_ | refine blk_nrm ?_ | refine then_brk ?_ | refine blk_hit ?_ | refine blk_miss rfl ?_ | refine then_ret ?_ | refine blk_ret ?_ | refine aw_seq ?_ | refine aw_block ?_ | refine aw_skip ?_ | refine aw_exit ?_ | refine aw_scope ?_ | refine aw_ret ?_)
      exact e_done hB (r_tmp rfl .nil) rfl rfl

set_option maxHeartbeats 0 in
theorem law07_SpecEnds (s : Spec) (a b : Int) (ha : 0 ≤ a ∧ a ≤ 4294967295) (hb : 0 ≤ b ∧ b ≤ 4294967295) (H : Heap) : AC Try.prog 6 [.agg (eSpec s), .int .u32 a, .int .u32 b] H (Ret (.bool true) H) := by
  obtain ⟨x, hx⟩ : ∃ x, min a b = x := ⟨_, rfl⟩
  obtain ⟨y, hy⟩ : ∃ y, max a b = y := ⟨_, rfl⟩
  have hxy : 0 ≤ x ∧ x ≤ y ∧ y ≤ 4294967295 := by omega
  refine AC.body (N := 60) [.tmp 6] Try.func6 rfl rfl rfl (Nat.le_of_ble_eq_true rfl) fun B hB => ?_
  repeat (first | refine join_ret ?_ | refine join_brk ?_ | refine then_nrm ?_ | refine blk_nrm ?_ | refine then_brk ?_ | refine blk_hit ?_ | refine blk_miss rfl ?_ | refine then_ret ?_ | refine blk_ret ?_ | refine aw_seq ?_ | refine aw_block ?_ | refine aw_skip ?_ | refine aw_exit ?_ | refine aw_scope ?_ | refine aw_ret ?_)
  refine aw_region ?_
  refine ao2 (by rintro _ ⟨⟩; decide) (o_boxL (sz := 7) (v := .agg _) rfl rfl rfl rfl (by decide) rfl) ?_
  refine ao1 (by decide) (o_assign (v := .bool _) rfl) ?_
  refine ao_nil ?_
  try dsimp only [List.set_cons_zero, List.set_cons_succ, List.cons_append, List.nil_append, List.take_succ_cons, List.take_zero, List.drop_succ_cons, List.drop_zero, AV.cells, List.length_nil, List.length_cons, Av.put, Nat.reduceAdd, AV.up, AV.up1, List.map_cons, List.map_nil]
  repeat (first | refine join_ret ?_ | refine join_brk ?_ | refine then_nrm ?_ | refine blk_nrm ?_ | refine then_brk ?_ | refine blk_hit ?_ | refine blk_miss rfl ?_ | refine then_ret ?_ | refine blk_ret ?_ | refine aw_seq ?_ | refine aw_block ?_ | refine aw_skip ?_ | refine aw_exit ?_ | refine aw_scope ?_ | refine aw_ret ?_)
  refine aw_region ?_
  refine ao_ret (law07_awake _) rfl (by decide) ?_
  refine ao1 (by decide) (o_not rfl) ?_
  refine ao_nil ?_
  try dsimp only [List.set_cons_zero, List.set_cons_succ, List.cons_append, List.nil_append, List.take_succ_cons, List.take_zero, List.drop_succ_cons, List.drop_zero, AV.cells, List.length_nil, List.length_cons, Av.put, Nat.reduceAdd, AV.up, AV.up1, List.map_cons, List.map_nil]
  repeat (first | refine join_ret ?_ | refine join_brk ?_ | refine then_nrm ?_ | refine blk_nrm ?_ | refine then_brk ?_ | refine blk_hit ?_ | refine blk_miss rfl ?_ | refine then_ret ?_ | refine blk_ret ?_ | refine aw_seq ?_ | refine aw_block ?_ | refine aw_skip ?_ | refine aw_exit ?_ | refine aw_scope ?_ | refine aw_ret ?_)
  refine aw_cond rfl (fun hc => ?_) (fun hc => ?_)
  · simp at hc
  repeat (first | refine join_ret ?_ | refine join_brk ?_ | refine then_nrm ?_ | refine blk_nrm ?_ | refine then_brk ?_ | refine blk_hit ?_ | refine blk_miss rfl ?_ | refine then_ret ?_ | refine blk_ret ?_ | refine aw_seq ?_ | refine aw_block ?_ | refine aw_skip ?_ | refine aw_exit ?_ | refine aw_scope ?_ | refine aw_ret ?_)
  refine aw_region ?_
  refine ao1 (by decide) (o_move (v := .int _ _) rfl) ?_
  refine ao1 (by decide) (o_move (v := .int _ _) rfl) ?_
  refine ao1 (by decide) (o_min rfl rfl hx) ?_
  first | refine ao1 (by decide) (o_conv_int rfl (wrap64_ok (by omega) (by omega))) ?_ | refine ao1 (by decide) (o_conv_int rfl rfl) ?_
  refine ao1 (by decide) (o_move (v := .int _ _) rfl) ?_
  refine ao1 (by decide) (o_move (v := .int _ _) rfl) ?_
  refine ao1 (by decide) (o_max rfl rfl hy) ?_
  first | refine ao1 (by decide) (o_conv_int rfl (wrap64_ok (by omega) (by omega))) ?_ | refine ao1 (by decide) (o_conv_int rfl rfl) ?_
  refine ao1 (by decide) (o_assign (v := .int _ _) rfl) ?_
  refine ao1 (by decide) (o_assign (v := .int _ _) rfl) ?_
  refine ao_nil ?_
  try dsimp only [List.set_cons_zero, List.set_cons_succ, List.cons_append, List.nil_append, List.take_succ_cons, List.take_zero, List.drop_succ_cons, List.drop_zero, AV.cells, List.length_nil, List.length_cons, Av.put, Nat.reduceAdd, AV.up, AV.up1, List.map_cons, List.map_nil]
  have hle : sEnds s x ≤ sEnds s y := by unfold sEnds plus near; split <;> omega
  repeat (first | refine join_ret ?_ | refine join_brk ?_ | refine then_nrm ?_ | refine blk_nrm ?_ | refine then_brk ?_ | refine blk_hit ?_ | refine blk_miss rfl ?_ | refine then_ret ?_ | refine blk_ret ?_ | refine aw_seq ?_ | refine aw_block ?_ | refine aw_skip ?_ | refine aw_exit ?_ | refine aw_scope ?_ | refine aw_ret ?_)
  refine aw_drawP mixed none 1 ?_
  try dsimp only [List.take_succ_cons, List.take_zero, List.take_nil, List.set_cons_zero, List.set_cons_succ, List.cons_append, List.nil_append]
  first | refine aqp 0 rfl (by decide +kernel) (by decide) (fun G => w_loadR rfl (lk rfl rfl) rfl rfl rfl) ?_ | refine aqp 0 rfl (by decide +kernel) (by decide) (fun G => w_loadR rfl (lk rfl rfl) rfl (zadd hr) rfl) ?_ | refine aqp 0 rfl (by decide +kernel) (by decide) (fun G => w_loadR rfl (lk rfl rfl) rfl (zadd hr1) rfl) ?_ | refine aqp 0 rfl (by decide +kernel) (by decide) (fun G => w_loadR rfl (lk rfl rfl) rfl (zadd hr2) rfl) ?_ | refine aqp 0 rfl (by decide +kernel) (by decide) (fun G => w_loadRp rfl hr rfl) ?_ | refine aqp 0 rfl (by decide +kernel) (by decide) (fun G => w_loadRp rfl hr1 rfl) ?_ | refine aqp 0 rfl (by decide +kernel) (by decide) (fun G => w_loadRp rfl hr2 rfl) ?_ | refine aqp 0 rfl (by decide +kernel) (by decide) (fun G => w_loadN (cs := [_, _, _, _, _, _, _]) rfl (lk rfl rfl) rfl rfl rfl rfl) ?_ | refine aqp 0 rfl (by decide +kernel) (by decide) (fun G => o_loadNp (cs := [_, _, _, _, _, _, _]) rfl hr rfl rfl) ?_ | refine aqp 0 rfl (by decide +kernel) (by decide) (fun G => o_loadNp (cs := [_, _, _, _, _, _, _]) rfl hr1 rfl rfl) ?_ | refine aqp 0 rfl (by decide +kernel) (by decide) (fun G => o_loadNp (cs := [_, _, _, _, _, _, _]) rfl hr2 rfl rfl) ?_ | refine aqp 0 rfl (by decide +kernel) (by decide) (fun G => w_loadR rfl (lkF hF) rfl rfl rfl) ?_ | refine aqp 0 rfl (by decide +kernel) (by decide) (fun G => w_loadN (cs := [_, _, _, _, _, _, _]) rfl (lkF hF) rfl rfl rfl rfl) ?_
  refine aq0 1 rfl (by decide +kernel) (by decide) (fun _ => o_move (v := .int _ _) rfl) ?_
  refine aq02 2 rfl (by decide +kernel) (by decide) (fun _ => V2.call (spec_Ends _ _ _) rfl) ?_
  first | refine aqp 3 rfl (by decide +kernel) (by decide) (fun G => w_loadR rfl (lk rfl rfl) rfl rfl rfl) ?_ | refine aqp 3 rfl (by decide +kernel) (by decide) (fun G => w_loadR rfl (lk rfl rfl) rfl (zadd hr) rfl) ?_ | refine aqp 3 rfl (by decide +kernel) (by decide) (fun G => w_loadR rfl (lk rfl rfl) rfl (zadd hr1) rfl) ?_ | refine aqp 3 rfl (by decide +kernel) (by decide) (fun G => w_loadR rfl (lk rfl rfl) rfl (zadd hr2) rfl) ?_ | refine aqp 3 rfl (by decide +kernel) (by decide) (fun G => w_loadRp rfl hr rfl) ?_ | refine aqp 3 rfl (by decide +kernel) (by decide) (fun G => w_loadRp rfl hr1 rfl) ?_ | refine aqp 3 rfl (by decide +kernel) (by decide) (fun G => w_loadRp rfl hr2 rfl) ?_ | refine aqp 3 rfl (by decide +kernel) (by decide) (fun G => w_loadN (cs := [_, _, _, _, _, _, _]) rfl (lk rfl rfl) rfl rfl rfl rfl) ?_ | refine aqp 3 rfl (by decide +kernel) (by decide) (fun G => o_loadNp (cs := [_, _, _, _, _, _, _]) rfl hr rfl rfl) ?_ | refine aqp 3 rfl (by decide +kernel) (by decide) (fun G => o_loadNp (cs := [_, _, _, _, _, _, _]) rfl hr1 rfl rfl) ?_ | refine aqp 3 rfl (by decide +kernel) (by decide) (fun G => o_loadNp (cs := [_, _, _, _, _, _, _]) rfl hr2 rfl rfl) ?_ | refine aqp 3 rfl (by decide +kernel) (by decide) (fun G => w_loadR rfl (lkF hF) rfl rfl rfl) ?_ | refine aqp 3 rfl (by decide +kernel) (by decide) (fun G => w_loadN (cs := [_, _, _, _, _, _, _]) rfl (lkF hF) rfl rfl rfl rfl) ?_
  refine aq0 4 rfl (by decide +kernel) (by decide) (fun _ => o_move (v := .int _ _) rfl) ?_
  refine aq02 5 rfl (by decide +kernel) (by decide) (fun _ => V2.call (spec_Ends _ _ _) rfl) ?_
  refine aq0 6 rfl (by decide +kernel) (by decide) (fun _ => o_gt rfl rfl) ?_
  refine aa_done (by decide +kernel) (by first | exact fun _ => trivial | exact fun _ => ⟨_, rfl⟩ | exact fun _ => ⟨_, rfl, rfl⟩ | exact yet_done (by decide +kernel)) ?_
  try dsimp only [List.set_cons_zero, List.set_cons_succ, List.cons_append, List.nil_append, List.take_succ_cons, List.take_zero, List.drop_succ_cons, List.drop_zero, AV.cells, List.length_nil, List.length_cons, Av.put, Nat.reduceAdd, AV.up, AV.up1, List.map_cons, List.map_nil]
  repeat (first | refine join_ret ?_ | refine join_brk ?_ | refine then_nrm ?_ | refine blk_nrm ?_ | refine then_brk ?_ | refine blk_hit ?_ | refine blk_miss rfl ?_ | refine then_ret ?_ | refine blk_ret ?_ | refine aw_seq ?_ | refine aw_block ?_ | refine aw_skip ?_ | refine aw_exit ?_ | refine aw_scope ?_ | refine aw_ret ?_)
  refine aw_cond rfl (fun hc => ?_) (fun hc => ?_)
  · simp at hc; omega
  repeat (first | refine join_ret ?_ | refine join_brk ?_ | refine then_nrm ?_ | refine blk_nrm ?_ | refine then_brk ?_ | refine blk_hit ?_ | refine blk_miss rfl ?_ | refine then_ret ?_ | refine blk_ret ?_ | refine aw_seq ?_ | refine aw_block ?_ | refine aw_skip ?_ | refine aw_exit ?_ | refine aw_scope ?_ | refine aw_ret ?_)
  refine aw_region ?_
  first | refine ao1 (by decide) (w_loadR rfl (lk rfl rfl) rfl rfl rfl) ?_ | refine ao1 (by decide) (w_loadR rfl (lk rfl rfl) rfl (zadd hr) rfl) ?_ | refine ao1 (by decide) (w_loadR rfl (lk rfl rfl) rfl (zadd hr1) rfl) ?_ | refine ao1 (by decide) (w_loadR rfl (lk rfl rfl) rfl (zadd hr2) rfl) ?_ | refine ao1 (by decide) (w_loadRp rfl hr rfl) ?_ | refine ao1 (by decide) (w_loadRp rfl hr1 rfl) ?_ | refine ao1 (by decide) (w_loadRp rfl hr2 rfl) ?_ | refine ao1 (by decide) (w_loadN (cs := [_, _, _, _, _, _, _]) rfl (lk rfl rfl) rfl rfl rfl rfl) ?_ | refine ao1 (by decide) (o_loadNp (cs := [_, _, _, _, _, _, _]) rfl hr rfl rfl) ?_ | refine ao1 (by decide) (o_loadNp (cs := [_, _, _, _, _, _, _]) rfl hr1 rfl rfl) ?_ | refine ao1 (by decide) (o_loadNp (cs := [_, _, _, _, _, _, _]) rfl hr2 rfl rfl) ?_ | refine ao1 (by decide) (w_loadR rfl (lkF hF) rfl rfl rfl) ?_ | refine ao1 (by decide) (w_loadN (cs := [_, _, _, _, _, _, _]) rfl (lkF hF) rfl rfl rfl rfl) ?_
  refine ao_ret (spec_Right _ _) rfl (by decide) ?_
  refine ao1 (by decide) (o_not rfl) ?_
  refine ao_nil ?_
  try dsimp only [List.set_cons_zero, List.set_cons_succ, List.cons_append, List.nil_append, List.take_succ_cons, List.take_zero, List.drop_succ_cons, List.drop_zero, AV.cells, List.length_nil, List.length_cons, Av.put, Nat.reduceAdd, AV.up, AV.up1, List.map_cons, List.map_nil]
  repeat (first | refine join_ret ?_ | refine join_brk ?_ | refine then_nrm ?_ | refine blk_nrm ?_ | refine then_brk ?_ | refine blk_hit ?_ | refine blk_miss rfl ?_ | refine then_ret ?_ | refine blk_ret ?_ | refine aw_seq ?_ | refine aw_block ?_ | refine aw_skip ?_ | refine aw_exit ?_ | refine aw_scope ?_ | refine aw_ret ?_)
  refine aw_cond rfl (fun hc => ?_) (fun hc => ?_)
  · have hs : sright s = false := by simpa using hc
    have he : sEnds s x = x := by simp [sEnds, hs]; unfold plus near; omega
    repeat (first | refine join_ret ?_ | refine join_brk ?_ | refine then_nrm ?_ | refine blk_nrm ?_ | refine then_brk ?_ | refine blk_hit ?_ | refine blk_miss rfl ?_ | refine then_ret ?_ | refine blk_ret ?_ | refine aw_seq ?_ | refine aw_block ?_ | refine aw_skip ?_ | refine aw_exit ?_ | refine aw_scope ?_ | refine aw_ret ?_)
    refine aw_out 6 (.bool true) ?_ ?_
    · first | refine ao1 (by decide) (w_loadR rfl (lk rfl rfl) rfl rfl rfl) ?_ | refine ao1 (by decide) (w_loadR rfl (lk rfl rfl) rfl (zadd hr) rfl) ?_ | refine ao1 (by decide) (w_loadR rfl (lk rfl rfl) rfl (zadd hr1) rfl) ?_ | refine ao1 (by decide) (w_loadR rfl (lk rfl rfl) rfl (zadd hr2) rfl) ?_ | refine ao1 (by decide) (w_loadRp rfl hr rfl) ?_ | refine ao1 (by decide) (w_loadRp rfl hr1 rfl) ?_ | refine ao1 (by decide) (w_loadRp rfl hr2 rfl) ?_ | refine ao1 (by decide) (w_loadN (cs := [_, _, _, _, _, _, _]) rfl (lk rfl rfl) rfl rfl rfl rfl) ?_ | refine ao1 (by decide) (o_loadNp (cs := [_, _, _, _, _, _, _]) rfl hr rfl rfl) ?_ | refine ao1 (by decide) (o_loadNp (cs := [_, _, _, _, _, _, _]) rfl hr1 rfl rfl) ?_ | refine ao1 (by decide) (o_loadNp (cs := [_, _, _, _, _, _, _]) rfl hr2 rfl rfl) ?_ | refine ao1 (by decide) (w_loadR rfl (lkF hF) rfl rfl rfl) ?_ | refine ao1 (by decide) (w_loadN (cs := [_, _, _, _, _, _, _]) rfl (lkF hF) rfl rfl rfl rfl) ?_
      refine ao1 (by decide) (o_move (v := .int _ _) rfl) ?_
      refine ao_ret (spec_Ends _ _ _) rfl (by decide) ?_
      refine ao1 (by decide) (o_move (v := .int _ _) rfl) ?_
      refine ao1 (by decide) (o_eq rfl rfl) ?_
      refine ao1 (by decide) (o_assign (v := .bool _) rfl) ?_
      exact ao_nil (Out.mk (by first | rfl | (refine congrArg AV.bool ?_; first | (simp at *; done) | (simp_all; done))) (by repeat (first | exact SubX.refl _ _ | refine SubX.at ?_ | refine SubX.put rfl ?_ | refine SubX.put_same rfl ?_)))
    repeat (first | refine join_ret ?_ | refine join_brk ?_ | refine then_nrm ?_ | refine blk_nrm ?_ | refine then_brk ?_ | refine blk_hit ?_ | refine blk_miss rfl ?_ | refine then_ret ?_ | refine blk_ret ?_ | refine aw_seq ?_ | refine aw_block ?_ | refine aw_skip ?_ | refine aw_exit ?_ | refine aw_scope ?_ | refine aw_ret ?_)
    exact e_done hB (r_tmp rfl .nil) rfl rfl
  · have hs : sright s = true := by simpa using hc
    have hf := sright_facts hs
    have he : sEnds s x = x + s.long := by simp [sEnds, hs]; unfold plus near; omega
    have he2 : sEnds s y = y + s.long := by simp [sEnds, hs]; unfold plus near; omega
    have he3 : sEnds s 4611686018427387904 = 4611686018427387904 := by simp [sEnds, hs]; unfold plus near; omega
    have c1 := fun H => spec_Ends s x H
    have c2 := fun H => spec_Ends s y H
    have c3 := fun H => spec_Ends s 4611686018427387904 H
    rw [he] at c1
    rw [he2] at c2
    rw [he3] at c3
    repeat (first | refine join_ret ?_ | refine join_brk ?_ | refine then_nrm ?_ | refine blk_nrm ?_ | refine then_brk ?_ | refine blk_hit ?_ | refine blk_miss rfl ?_ | refine then_ret ?_ | refine blk_ret ?_ | refine aw_seq ?_ | refine aw_block ?_ | refine aw_skip ?_ | refine aw_exit ?_ | refine aw_scope ?_ | refine aw_ret ?_)
    refine aw_of_out 6 (.bool true) ?_ ?_
    · refine aw_drawP mixed none 999 ?_
      try dsimp only [List.take_succ_cons, List.take_zero, List.take_nil, List.set_cons_zero, List.set_cons_succ, List.cons_append, List.nil_append]
      first | refine aqp 0 rfl (by decide +kernel) (by decide) (fun G => w_loadR rfl (lk rfl rfl) rfl rfl rfl) ?_ | refine aqp 0 rfl (by decide +kernel) (by decide) (fun G => w_loadR rfl (lk rfl rfl) rfl (zadd hr) rfl) ?_ | refine aqp 0 rfl (by decide +kernel) (by decide) (fun G => w_loadR rfl (lk rfl rfl) rfl (zadd hr1) rfl) ?_ | refine aqp 0 rfl (by decide +kernel) (by decide) (fun G => w_loadR rfl (lk rfl rfl) rfl (zadd hr2) rfl) ?_ | refine aqp 0 rfl (by decide +kernel) (by decide) (fun G => w_loadRp rfl hr rfl) ?_ | refine aqp 0 rfl (by decide +kernel) (by decide) (fun G => w_loadRp rfl hr1 rfl) ?_ | refine aqp 0 rfl (by decide +kernel) (by decide) (fun G => w_loadRp rfl hr2 rfl) ?_ | refine aqp 0 rfl (by decide +kernel) (by decide) (fun G => w_loadN (cs := [_, _, _, _, _, _, _]) rfl (lk rfl rfl) rfl rfl rfl rfl) ?_ | refine aqp 0 rfl (by decide +kernel) (by decide) (fun G => o_loadNp (cs := [_, _, _, _, _, _, _]) rfl hr rfl rfl) ?_ | refine aqp 0 rfl (by decide +kernel) (by decide) (fun G => o_loadNp (cs := [_, _, _, _, _, _, _]) rfl hr1 rfl rfl) ?_ | refine aqp 0 rfl (by decide +kernel) (by decide) (fun G => o_loadNp (cs := [_, _, _, _, _, _, _]) rfl hr2 rfl rfl) ?_ | refine aqp 0 rfl (by decide +kernel) (by decide) (fun G => w_loadR rfl (lkF hF) rfl rfl rfl) ?_ | refine aqp 0 rfl (by decide +kernel) (by decide) (fun G => w_loadN (cs := [_, _, _, _, _, _, _]) rfl (lkF hF) rfl rfl rfl rfl) ?_
      refine aq0 1 rfl (by decide +kernel) (by decide) (fun _ => o_move (v := .int _ _) rfl) ?_
      refine aq02 2 rfl (by decide +kernel) (by decide) (fun _ => V2.call (c1 _) rfl) ?_
      refine aq0 3 rfl (by decide +kernel) (by decide) (fun _ => o_move (v := .int _ _) rfl) ?_
      first | refine aq0 4 rfl (by decide +kernel) (by decide) (fun _ => o_sub rfl rfl (wrap64_ok (by omega) (by omega))) ?_ | refine aq0 4 rfl (by decide +kernel) (by decide) (fun _ => o_sub rfl rfl rfl) ?_
      first | refine aqp 5 rfl (by decide +kernel) (by decide) (fun G => w_fieldAddr rfl (lk rfl rfl) rfl (by decide)) ?_ | refine aqp 5 rfl (by decide +kernel) (by decide) (fun G => w_fieldAddrp rfl (by decide)) ?_ | refine aqp 5 rfl (by decide +kernel) (by decide) (fun G => w_fieldAddr rfl (lkF hF) rfl (by decide)) ?_
      first | refine aqp 6 rfl (by decide +kernel) (by decide) (fun G => w_load1 (v := .int _ _) rfl (lk rfl rfl) rfl rfl rfl) ?_ | refine aqp 6 rfl (by decide +kernel) (by decide) (fun G => w_load1 (v := .int _ _) rfl (lk rfl rfl) rfl (zadd hr) rfl) ?_ | refine aqp 6 rfl (by decide +kernel) (by decide) (fun G => w_load1 (v := .int _ _) rfl (lk rfl rfl) rfl (zadd hr1) rfl) ?_ | refine aqp 6 rfl (by decide +kernel) (by decide) (fun G => w_load1 (v := .int _ _) rfl (lk rfl rfl) rfl (zadd hr2) rfl) ?_ | refine aqp 6 rfl (by decide +kernel) (by decide) (fun G => o_load1p (v := .int _ _) rfl hr rfl) ?_ | refine aqp 6 rfl (by decide +kernel) (by decide) (fun G => o_load1p (v := .int _ _) rfl hr1 rfl) ?_ | refine aqp 6 rfl (by decide +kernel) (by decide) (fun G => o_load1p (v := .int _ _) rfl hr2 rfl) ?_ | refine aqp 6 rfl (by decide +kernel) (by decide) (fun G => w_load1 (v := .int _ _) rfl (lkF hF) rfl rfl rfl) ?_
      refine aq0 7 rfl (by decide +kernel) (by decide) (fun _ => o_eq rfl rfl) ?_
      refine aq0 8 rfl (by decide +kernel) (by decide) (fun _ => o_move (v := .bool _) rfl) ?_
      refine aq_split (g := 42) rfl (fun hg8 => ?_) (fun hg8 => ?_)
      · first | refine aqyp (g := 42) 9 rfl (by decide +kernel) (by decide) rfl rfl (fun G => w_loadR rfl (lk rfl rfl) rfl rfl rfl) ?_ | refine aqyp (g := 42) 9 rfl (by decide +kernel) (by decide) rfl rfl (fun G => w_loadR rfl (lk rfl rfl) rfl (zadd hr) rfl) ?_ | refine aqyp (g := 42) 9 rfl (by decide +kernel) (by decide) rfl rfl (fun G => w_loadR rfl (lk rfl rfl) rfl (zadd hr1) rfl) ?_ | refine aqyp (g := 42) 9 rfl (by decide +kernel) (by decide) rfl rfl (fun G => w_loadR rfl (lk rfl rfl) rfl (zadd hr2) rfl) ?_ | refine aqyp (g := 42) 9 rfl (by decide +kernel) (by decide) rfl rfl (fun G => w_loadRp rfl hr rfl) ?_ | refine aqyp (g := 42) 9 rfl (by decide +kernel) (by decide) rfl rfl (fun G => w_loadRp rfl hr1 rfl) ?_ | refine aqyp (g := 42) 9 rfl (by decide +kernel) (by decide) rfl rfl (fun G => w_loadRp rfl hr2 rfl) ?_ | refine aqyp (g := 42) 9 rfl (by decide +kernel) (by decide) rfl rfl (fun G => w_loadN (cs := [_, _, _, _, _, _, _]) rfl (lk rfl rfl) rfl rfl rfl rfl) ?_ | refine aqyp (g := 42) 9 rfl (by decide +kernel) (by decide) rfl rfl (fun G => o_loadNp (cs := [_, _, _, _, _, _, _]) rfl hr rfl rfl) ?_ | refine aqyp (g := 42) 9 rfl (by decide +kernel) (by decide) rfl rfl (fun G => o_loadNp (cs := [_, _, _, _, _, _, _]) rfl hr1 rfl rfl) ?_ | refine aqyp (g := 42) 9 rfl (by decide +kernel) (by decide) rfl rfl (fun G => o_loadNp (cs := [_, _, _, _, _, _, _]) rfl hr2 rfl rfl) ?_ | refine aqyp (g := 42) 9 rfl (by decide +kernel) (by decide) rfl rfl (fun G => w_loadR rfl (lkF hF) rfl rfl rfl) ?_ | refine aqyp (g := 42) 9 rfl (by decide +kernel) (by decide) rfl rfl (fun G => w_loadN (cs := [_, _, _, _, _, _, _]) rfl (lkF hF) rfl rfl rfl rfl) ?_
        refine aqy0 (g := 42) 10 rfl (by decide +kernel) (by decide) rfl rfl (fun _ => o_move (v := .int _ _) rfl) ?_
        refine aqy02 (g := 42) 11 rfl (by decide +kernel) (by decide) rfl rfl (fun _ => V2.call (c2 _) rfl) ?_
        first | refine aqyp (g := 42) 12 rfl (by decide +kernel) (by decide) rfl rfl (fun G => w_loadR rfl (lk rfl rfl) rfl rfl rfl) ?_ | refine aqyp (g := 42) 12 rfl (by decide +kernel) (by decide) rfl rfl (fun G => w_loadR rfl (lk rfl rfl) rfl (zadd hr) rfl) ?_ | refine aqyp (g := 42) 12 rfl (by decide +kernel) (by decide) rfl rfl (fun G => w_loadR rfl (lk rfl rfl) rfl (zadd hr1) rfl) ?_ | refine aqyp (g := 42) 12 rfl (by decide +kernel) (by decide) rfl rfl (fun G => w_loadR rfl (lk rfl rfl) rfl (zadd hr2) rfl) ?_ | refine aqyp (g := 42) 12 rfl (by decide +kernel) (by decide) rfl rfl (fun G => w_loadRp rfl hr rfl) ?_ | refine aqyp (g := 42) 12 rfl (by decide +kernel) (by decide) rfl rfl (fun G => w_loadRp rfl hr1 rfl) ?_ | refine aqyp (g := 42) 12 rfl (by decide +kernel) (by decide) rfl rfl (fun G => w_loadRp rfl hr2 rfl) ?_ | refine aqyp (g := 42) 12 rfl (by decide +kernel) (by decide) rfl rfl (fun G => w_loadN (cs := [_, _, _, _, _, _, _]) rfl (lk rfl rfl) rfl rfl rfl rfl) ?_ | refine aqyp (g := 42) 12 rfl (by decide +kernel) (by decide) rfl rfl (fun G => o_loadNp (cs := [_, _, _, _, _, _, _]) rfl hr rfl rfl) ?_ | refine aqyp (g := 42) 12 rfl (by decide +kernel) (by decide) rfl rfl (fun G => o_loadNp (cs := [_, _, _, _, _, _, _]) rfl hr1 rfl rfl) ?_ | refine aqyp (g := 42) 12 rfl (by decide +kernel) (by decide) rfl rfl (fun G => o_loadNp (cs := [_, _, _, _, _, _, _]) rfl hr2 rfl rfl) ?_ | refine aqyp (g := 42) 12 rfl (by decide +kernel) (by decide) rfl rfl (fun G => w_loadR rfl (lkF hF) rfl rfl rfl) ?_ | refine aqyp (g := 42) 12 rfl (by decide +kernel) (by decide) rfl rfl (fun G => w_loadN (cs := [_, _, _, _, _, _, _]) rfl (lkF hF) rfl rfl rfl rfl) ?_
        refine aqy0 (g := 42) 13 rfl (by decide +kernel) (by decide) rfl rfl (fun _ => o_move (v := .int _ _) rfl) ?_
        refine aqy02 (g := 42) 14 rfl (by decide +kernel) (by decide) rfl rfl (fun _ => V2.call (c1 _) rfl) ?_
        first | refine aqy0 (g := 42) 15 rfl (by decide +kernel) (by decide) rfl rfl (fun _ => o_sub rfl rfl (wrap64_ok (by omega) (by omega))) ?_ | refine aqy0 (g := 42) 15 rfl (by decide +kernel) (by decide) rfl rfl (fun _ => o_sub rfl rfl rfl) ?_
        refine aqy0 (g := 42) 16 rfl (by decide +kernel) (by decide) rfl rfl (fun _ => o_move (v := .int _ _) rfl) ?_
        refine aqy0 (g := 42) 17 rfl (by decide +kernel) (by decide) rfl rfl (fun _ => o_move (v := .int _ _) rfl) ?_
        first | refine aqy0 (g := 42) 18 rfl (by decide +kernel) (by decide) rfl rfl (fun _ => o_sub rfl rfl (wrap64_ok (by omega) (by omega))) ?_ | refine aqy0 (g := 42) 18 rfl (by decide +kernel) (by decide) rfl rfl (fun _ => o_sub rfl rfl rfl) ?_
        refine aqy0 (g := 42) 19 rfl (by decide +kernel) (by decide) rfl rfl (fun _ => o_eq rfl rfl) ?_
        first | refine aq0 20 rfl (by decide +kernel) (by decide) (fun _ => o_pick_t (v := .bool _) rfl rfl) ?_ | refine aq0 20 rfl (by decide +kernel) (by decide) (fun _ => o_pick_f (v := .bool _) rfl rfl) ?_ | refine aq0 20 rfl (by decide +kernel) (by decide) (fun _ => o_pick_b rfl rfl rfl) ?_
        refine aq0 21 rfl (by decide +kernel) (by decide) (fun _ => o_move (v := .bool _) rfl) ?_
        refine aq_split (g := 55) rfl (fun hg21 => ?_) (fun hg21 => ?_)
        · first | refine aqyp (g := 55) 22 rfl (by decide +kernel) (by decide) rfl rfl (fun G => w_loadR rfl (lk rfl rfl) rfl rfl rfl) ?_ | refine aqyp (g := 55) 22 rfl (by decide +kernel) (by decide) rfl rfl (fun G => w_loadR rfl (lk rfl rfl) rfl (zadd hr) rfl) ?_ | refine aqyp (g := 55) 22 rfl (by decide +kernel) (by decide) rfl rfl (fun G => w_loadR rfl (lk rfl rfl) rfl (zadd hr1) rfl) ?_ | refine aqyp (g := 55) 22 rfl (by decide +kernel) (by decide) rfl rfl (fun G => w_loadR rfl (lk rfl rfl) rfl (zadd hr2) rfl) ?_ | refine aqyp (g := 55) 22 rfl (by decide +kernel) (by decide) rfl rfl (fun G => w_loadRp rfl hr rfl) ?_ | refine aqyp (g := 55) 22 rfl (by decide +kernel) (by decide) rfl rfl (fun G => w_loadRp rfl hr1 rfl) ?_ | refine aqyp (g := 55) 22 rfl (by decide +kernel) (by decide) rfl rfl (fun G => w_loadRp rfl hr2 rfl) ?_ | refine aqyp (g := 55) 22 rfl (by decide +kernel) (by decide) rfl rfl (fun G => w_loadN (cs := [_, _, _, _, _, _, _]) rfl (lk rfl rfl) rfl rfl rfl rfl) ?_ | refine aqyp (g := 55) 22 rfl (by decide +kernel) (by decide) rfl rfl (fun G => o_loadNp (cs := [_, _, _, _, _, _, _]) rfl hr rfl rfl) ?_ | refine aqyp (g := 55) 22 rfl (by decide +kernel) (by decide) rfl rfl (fun G => o_loadNp (cs := [_, _, _, _, _, _, _]) rfl hr1 rfl rfl) ?_ | refine aqyp (g := 55) 22 rfl (by decide +kernel) (by decide) rfl rfl (fun G => o_loadNp (cs := [_, _, _, _, _, _, _]) rfl hr2 rfl rfl) ?_ | refine aqyp (g := 55) 22 rfl (by decide +kernel) (by decide) rfl rfl (fun G => w_loadR rfl (lkF hF) rfl rfl rfl) ?_ | refine aqyp (g := 55) 22 rfl (by decide +kernel) (by decide) rfl rfl (fun G => w_loadN (cs := [_, _, _, _, _, _, _]) rfl (lkF hF) rfl rfl rfl rfl) ?_
          refine aqy02 (g := 55) 23 rfl (by decide +kernel) (by decide) rfl rfl (fun _ => V2.call (c3 _) rfl) ?_
          refine aqy0 (g := 55) 24 rfl (by decide +kernel) (by decide) rfl rfl (fun _ => o_eq rfl rfl) ?_
          first | refine aq0 25 rfl (by decide +kernel) (by decide) (fun _ => o_pick_t (v := .bool _) rfl rfl) ?_ | refine aq0 25 rfl (by decide +kernel) (by decide) (fun _ => o_pick_f (v := .bool _) rfl rfl) ?_ | refine aq0 25 rfl (by decide +kernel) (by decide) (fun _ => o_pick_b rfl rfl rfl) ?_
          refine aq0 26 rfl (by decide +kernel) (by decide) (fun _ => o_assign (v := .bool _) rfl) ?_
          exact aa_done (by decide +kernel) (by first | exact fun _ => trivial | exact fun _ => ⟨_, rfl⟩ | exact fun _ => ⟨_, rfl, rfl⟩ | exact yet_done (by decide +kernel)) (Out.mk (by first | rfl | (refine congrArg AV.bool ?_; first | (simp at *; done) | (simp_all; done) | (simp at *; omega) | (simp_all; omega))) (by repeat (first | exact SubX.refl _ _ | refine SubX.at ?_ | refine SubX.put rfl ?_ | refine SubX.put_same rfl ?_)))
        · refine aqn0 (g := 55) 22 rfl (by decide +kernel) (by decide) rfl rfl rfl ?_
          refine aqn0 (g := 55) 23 rfl (by decide +kernel) (by decide) rfl rfl rfl ?_
          refine aqn0 (g := 55) 24 rfl (by decide +kernel) (by decide) rfl rfl rfl ?_
          first | refine aq0 25 rfl (by decide +kernel) (by decide) (fun _ => o_pick_t (v := .bool _) rfl rfl) ?_ | refine aq0 25 rfl (by decide +kernel) (by decide) (fun _ => o_pick_f (v := .bool _) rfl rfl) ?_ | refine aq0 25 rfl (by decide +kernel) (by decide) (fun _ => o_pick_b rfl rfl rfl) ?_
          refine aq0 26 rfl (by decide +kernel) (by decide) (fun _ => o_assign (v := .bool _) rfl) ?_
          exact aa_done (by decide +kernel) (by first | exact fun _ => trivial | exact fun _ => ⟨_, rfl⟩ | exact fun _ => ⟨_, rfl, rfl⟩ | exact yet_done (by decide +kernel)) (Out.mk (by first | rfl | (refine congrArg AV.bool ?_; first | (simp at *; done) | (simp_all; done) | (simp at *; omega) | (simp_all; omega))) (by repeat (first | exact SubX.refl _ _ | refine SubX.at ?_ | refine SubX.put rfl ?_ | refine SubX.put_same rfl ?_)))
      · refine aqn0 (g := 42) 9 rfl (by decide +kernel) (by decide) rfl rfl rfl ?_
        refine aqn0 (g := 42) 10 rfl (by decide +kernel) (by decide) rfl rfl rfl ?_
        refine aqn0 (g := 42) 11 rfl (by decide +kernel) (by decide) rfl rfl rfl ?_
        refine aqn0 (g := 42) 12 rfl (by decide +kernel) (by decide) rfl rfl rfl ?_
        refine aqn0 (g := 42) 13 rfl (by decide +kernel) (by decide) rfl rfl rfl ?_
        refine aqn0 (g := 42) 14 rfl (by decide +kernel) (by decide) rfl rfl rfl ?_
        refine aqn0 (g := 42) 15 rfl (by decide +kernel) (by decide) rfl rfl rfl ?_
        refine aqn0 (g := 42) 16 rfl (by decide +kernel) (by decide) rfl rfl rfl ?_
        refine aqn0 (g := 42) 17 rfl (by decide +kernel) (by decide) rfl rfl rfl ?_
        refine aqn0 (g := 42) 18 rfl (by decide +kernel) (by decide) rfl rfl rfl ?_
        refine aqn0 (g := 42) 19 rfl (by decide +kernel) (by decide) rfl rfl rfl ?_
        first | refine aq0 20 rfl (by decide +kernel) (by decide) (fun _ => o_pick_t (v := .bool _) rfl rfl) ?_ | refine aq0 20 rfl (by decide +kernel) (by decide) (fun _ => o_pick_f (v := .bool _) rfl rfl) ?_ | refine aq0 20 rfl (by decide +kernel) (by decide) (fun _ => o_pick_b rfl rfl rfl) ?_
        refine aq0 21 rfl (by decide +kernel) (by decide) (fun _ => o_move (v := .bool _) rfl) ?_
        refine aqn0 (g := 55) 22 rfl (by decide +kernel) (by decide) rfl rfl rfl ?_
        refine aqn0 (g := 55) 23 rfl (by decide +kernel) (by decide) rfl rfl rfl ?_
        refine aqn0 (g := 55) 24 rfl (by decide +kernel) (by decide) rfl rfl rfl ?_
        first | refine aq0 25 rfl (by decide +kernel) (by decide) (fun _ => o_pick_t (v := .bool _) rfl rfl) ?_ | refine aq0 25 rfl (by decide +kernel) (by decide) (fun _ => o_pick_f (v := .bool _) rfl rfl) ?_ | refine aq0 25 rfl (by decide +kernel) (by decide) (fun _ => o_pick_b rfl rfl rfl) ?_
        refine aq0 26 rfl (by decide +kernel) (by decide) (fun _ => o_assign (v := .bool _) rfl) ?_
        exact aa_done (by decide +kernel) (by first | exact fun _ => trivial | exact fun _ => ⟨_, rfl⟩ | exact fun _ => ⟨_, rfl, rfl⟩ | exact yet_done (by decide +kernel)) (Out.mk (by first | rfl | (refine congrArg AV.bool ?_; first | (simp at *; done) | (simp_all; done) | (simp at *; omega) | (simp_all; omega))) (by repeat (first | exact SubX.refl _ _ | refine SubX.at ?_ | refine SubX.put rfl ?_ | refine SubX.put_same rfl ?_)))
    repeat (first | refine join_ret ?_ | refine join_brk ?_ | refine then_nrm ?_ | refine blk_nrm ?_ | refine then_brk ?_ | refine blk_hit ?_ | refine blk_miss rfl ?_ | refine then_ret ?_ | refine blk_ret ?_ | refine aw_seq ?_ | refine aw_block ?_ | refine aw_skip ?_ | refine aw_exit ?_ | refine aw_scope ?_ | refine aw_ret ?_)
    exact e_done hB (r_tmp rfl .nil) rfl rfl
end Go.Av
