/- A part of the proof: walks through the program over abstract values. -/
import Derived.Test.YtmhfpopbhiloiaaU6
namespace Go.Av
open Go.Proofs
set_option maxRecDepth 10000
set_option linter.unusedSimpArgs false
set_option linter.unusedVariables false


theorem sPart_cases (s : Spec) (n : Int) : ((!sright s || decide (n < 0)) = true ∧ sPart s n = (spec0, 1)) ∨ ((!sright s || decide (n < 0)) = false ∧ s.nodes ≤ n ∧ sPart s n = (spec0, 6)) ∨
    ((!sright s || decide (n < 0)) = false ∧ n < s.nodes ∧ sPart s n = (⟨s.nodes - n, s.cores, s.gpus, s.tag, s.whole, s.long, s.prio⟩, 0)) := by
  unfold sPart
  cases h : (!sright s || decide (n < 0)) with
  | true => exact .inl ⟨rfl, by rw [if_pos rfl]⟩
  | false =>
    by_cases h2 : s.nodes ≤ n
    · exact .inr (.inl ⟨rfl, h2, by rw [if_neg (by simp), if_pos h2]⟩)
    · exact .inr (.inr ⟨rfl, by omega, by rw [if_neg (by simp), if_neg h2]⟩)

set_option maxHeartbeats 0 in
theorem law07_SpecRight (a b : Spec) (t n : Int) (H : Heap) (ha : a.tag.size ≤ 9223372036854775807) (hb : b.tag.size ≤ 9223372036854775807) : AC Try.prog 3 [.agg (eSpec a), .agg (eSpec b), .int .i64 t, .int .i64 n] H (Ret (.bool true) H) := by
  have c7 := fun H => spec_Part a n H
  refine AC.body (N := 120) [.tmp 8] Try.func3 rfl rfl rfl (Nat.le_of_ble_eq_true rfl) fun B hB => ?_
  repeat (first | refine join_ret ?_ | refine join_brk ?_ | refine then_nrm ?_ | refine blk_nrm ?_ | refine then_brk ?_ | refine blk_hit ?_ | refine blk_miss rfl ?_ | refine then_ret ?_ | refine blk_ret ?_ | refine aw_seq ?_ | refine aw_block ?_ | refine aw_skip ?_ | refine aw_exit ?_ | refine aw_scope ?_ | refine aw_ret ?_)
  refine aw_region ?_
  refine ao2 (by rintro _ ⟨⟩; decide) (o_boxL (sz := 7) (v := .agg _) rfl rfl rfl rfl (by decide) rfl) ?_
  refine ao2 (by rintro _ ⟨⟩; decide) (o_boxL (sz := 7) (v := .agg _) rfl rfl rfl rfl (by decide) rfl) ?_
  refine ao1 (by decide) (o_assign (v := .bool _) rfl) ?_
  refine ao_nil ?_
  try dsimp only [List.set_cons_zero, List.set_cons_succ, List.cons_append, List.nil_append, List.take_succ_cons, List.take_zero, List.drop_succ_cons, List.drop_zero, AV.cells, List.length_nil, List.length_cons, Av.put, Nat.reduceAdd, AV.up, AV.up1, List.map_cons, List.map_nil]
  repeat (first | refine join_ret ?_ | refine join_brk ?_ | refine then_nrm ?_ | refine blk_nrm ?_ | refine then_brk ?_ | refine blk_hit ?_ | refine blk_miss rfl ?_ | refine then_ret ?_ | refine blk_ret ?_ | refine aw_seq ?_ | refine aw_block ?_ | refine aw_skip ?_ | refine aw_exit ?_ | refine aw_scope ?_ | refine aw_ret ?_)
  refine aw_region ?_
  refine ao_ret (law07_awake _) rfl (by decide) ?_
  refine ao1 (by decide) (o_not rfl) ?_
  refine ao_nil ?_
  try dsimp only [List.set_cons_zero, List.set_cons_succ, List.cons_append, List.nil_append, List.take_succ_cons, List.take_zero, List.drop_succ_cons, List.drop_zero, AV.cells, List.length_nil, List.length_cons, Av.put, Nat.reduceAdd, AV.up, AV.up1, List.map_cons, List.map_nil]
  repeat (first | refine join_ret ?_ | refine join_brk ?_ | refine then_nrm ?_ | refine blk_nrm ?_ | refine then_brk ?_ | refine blk_hit ?_ | refine blk_miss rfl ?_ | refine then_ret ?_ | refine blk_ret ?_ | refine aw_seq ?_ | refine aw_block ?_ | refine aw_skip ?_ | refine aw_exit ?_ | refine aw_scope ?_ | refine aw_ret ?_)
  refine aw_cond rfl (fun hc => ?_) (fun hc => ?_)
  · simp at hc
  repeat (first | refine join_ret ?_ | refine join_brk ?_ | refine then_nrm ?_ | refine blk_nrm ?_ | refine then_brk ?_ | refine blk_hit ?_ | refine blk_miss rfl ?_ | refine then_ret ?_ | refine blk_ret ?_ | refine aw_seq ?_ | refine aw_block ?_ | refine aw_skip ?_ | refine aw_exit ?_ | refine aw_scope ?_ | refine aw_ret ?_)
  refine aw_region ?_
  first | refine ao1 (by decide) (w_loadR rfl (lk rfl rfl) rfl rfl rfl) ?_ | refine ao1 (by decide) (w_loadR rfl (lk rfl rfl) rfl (zadd hr) rfl) ?_ | refine ao1 (by decide) (w_loadR rfl (lk rfl rfl) rfl (zadd hr1) rfl) ?_ | refine ao1 (by decide) (w_loadR rfl (lk rfl rfl) rfl (zadd hr2) rfl) ?_ | refine ao1 (by decide) (w_loadRp rfl hr rfl) ?_ | refine ao1 (by decide) (w_loadRp rfl hr1 rfl) ?_ | refine ao1 (by decide) (w_loadRp rfl hr2 rfl) ?_ | refine ao1 (by decide) (w_loadN (cs := [_, _, _, _, _, _, _]) rfl (lk rfl rfl) rfl rfl rfl rfl) ?_ | refine ao1 (by decide) (o_loadNp (cs := [_, _, _, _, _, _, _]) rfl hr rfl rfl) ?_ | refine ao1 (by decide) (o_loadNp (cs := [_, _, _, _, _, _, _]) rfl hr1 rfl rfl) ?_ | refine ao1 (by decide) (o_loadNp (cs := [_, _, _, _, _, _, _]) rfl hr2 rfl rfl) ?_ | refine ao1 (by decide) (w_loadR rfl (lkF hF) rfl rfl rfl) ?_ | refine ao1 (by decide) (w_loadN (cs := [_, _, _, _, _, _, _]) rfl (lkF hF) rfl rfl rfl rfl) ?_
  refine ao_ret (ref07_Right _ _ (by assumption)) rfl (by decide) ?_
  refine ao1 (by decide) (o_assign (v := .bool _) rfl) ?_
  refine ao_nil ?_
  try dsimp only [List.set_cons_zero, List.set_cons_succ, List.cons_append, List.nil_append, List.take_succ_cons, List.take_zero, List.drop_succ_cons, List.drop_zero, AV.cells, List.length_nil, List.length_cons, Av.put, Nat.reduceAdd, AV.up, AV.up1, List.map_cons, List.map_nil]
  cases hs : sright a with
  | false =>
    have c4 := fun H => spec_Asks a H
    rw [show asks a = ⟨0, 0, 0⟩ by simp [asks, hs]] at c4
    have c5 := fun H => spec_Right a H
    rw [hs] at c5
    have c6 := fun H => spec_Ahead a b H
    rw [show sahead a b = false by simp [sahead, hs]] at c6
    have c8 := fun H => ref07_Ahead a b H ha hb
    rw [show sahead a b = false by simp [sahead, hs]] at c8
    rw [show sPart a n = (spec0, 1) by simp [sPart, hs]] at c7
    repeat (first | refine join_ret ?_ | refine join_brk ?_ | refine then_nrm ?_ | refine blk_nrm ?_ | refine then_brk ?_ | refine blk_hit ?_ | refine blk_miss rfl ?_ | refine then_ret ?_ | refine blk_ret ?_ | refine aw_seq ?_ | refine aw_block ?_ | refine aw_skip ?_ | refine aw_exit ?_ | refine aw_scope ?_ | refine aw_ret ?_)
    refine aw_region ?_
    first | refine ao1 (by decide) (w_loadR rfl (lk rfl rfl) rfl rfl rfl) ?_ | refine ao1 (by decide) (w_loadR rfl (lk rfl rfl) rfl (zadd hr) rfl) ?_ | refine ao1 (by decide) (w_loadR rfl (lk rfl rfl) rfl (zadd hr1) rfl) ?_ | refine ao1 (by decide) (w_loadR rfl (lk rfl rfl) rfl (zadd hr2) rfl) ?_ | refine ao1 (by decide) (w_loadRp rfl hr rfl) ?_ | refine ao1 (by decide) (w_loadRp rfl hr1 rfl) ?_ | refine ao1 (by decide) (w_loadRp rfl hr2 rfl) ?_ | refine ao1 (by decide) (w_loadN (cs := [_, _, _, _, _, _, _]) rfl (lk rfl rfl) rfl rfl rfl rfl) ?_ | refine ao1 (by decide) (o_loadNp (cs := [_, _, _, _, _, _, _]) rfl hr rfl rfl) ?_ | refine ao1 (by decide) (o_loadNp (cs := [_, _, _, _, _, _, _]) rfl hr1 rfl rfl) ?_ | refine ao1 (by decide) (o_loadNp (cs := [_, _, _, _, _, _, _]) rfl hr2 rfl rfl) ?_ | refine ao1 (by decide) (w_loadR rfl (lkF hF) rfl rfl rfl) ?_ | refine ao1 (by decide) (w_loadN (cs := [_, _, _, _, _, _, _]) rfl (lkF hF) rfl rfl rfl rfl) ?_
    refine ao2 (by rintro _ ⟨⟩; decide) (V2.call (c4 _) rfl) ?_
    refine ao1 (by decide) (o_move (v := .tup _) rfl) ?_
    refine ao1 (by decide) (o_extract (v := .int _ _) rfl rfl) ?_
    refine ao1 (by decide) (o_extract (v := .int _ _) rfl rfl) ?_
    refine ao1 (by decide) (o_extract (v := .int _ _) rfl rfl) ?_
    refine ao1 (by decide) (o_assign (v := .int _ _) rfl) ?_
    refine ao1 (by decide) (o_assign (v := .int _ _) rfl) ?_
    refine ao1 (by decide) (o_assign (v := .int _ _) rfl) ?_
    refine ao_nil ?_
    try dsimp only [List.set_cons_zero, List.set_cons_succ, List.cons_append, List.nil_append, List.take_succ_cons, List.take_zero, List.drop_succ_cons, List.drop_zero, AV.cells, List.length_nil, List.length_cons, Av.put, Nat.reduceAdd, AV.up, AV.up1, List.map_cons, List.map_nil]
    repeat (first | refine join_ret ?_ | refine join_brk ?_ | refine then_nrm ?_ | refine blk_nrm ?_ | refine then_brk ?_ | refine blk_hit ?_ | refine blk_miss rfl ?_ | refine then_ret ?_ | refine blk_ret ?_ | refine aw_seq ?_ | refine aw_block ?_ | refine aw_skip ?_ | refine aw_exit ?_ | refine aw_scope ?_ | refine aw_ret ?_)
    refine aw_out 69 (.bool false) ?_ ?_
    · refine ao1 (by decide) (o_move (v := .bool _) rfl) ?_
      first | refine ao1 (by decide) (w_loadR rfl (lk rfl rfl) rfl rfl rfl) ?_ | refine ao1 (by decide) (w_loadR rfl (lk rfl rfl) rfl (zadd hr) rfl) ?_ | refine ao1 (by decide) (w_loadR rfl (lk rfl rfl) rfl (zadd hr1) rfl) ?_ | refine ao1 (by decide) (w_loadR rfl (lk rfl rfl) rfl (zadd hr2) rfl) ?_ | refine ao1 (by decide) (w_loadRp rfl hr rfl) ?_ | refine ao1 (by decide) (w_loadRp rfl hr1 rfl) ?_ | refine ao1 (by decide) (w_loadRp rfl hr2 rfl) ?_ | refine ao1 (by decide) (w_loadN (cs := [_, _, _, _, _, _, _]) rfl (lk rfl rfl) rfl rfl rfl rfl) ?_ | refine ao1 (by decide) (o_loadNp (cs := [_, _, _, _, _, _, _]) rfl hr rfl rfl) ?_ | refine ao1 (by decide) (o_loadNp (cs := [_, _, _, _, _, _, _]) rfl hr1 rfl rfl) ?_ | refine ao1 (by decide) (o_loadNp (cs := [_, _, _, _, _, _, _]) rfl hr2 rfl rfl) ?_ | refine ao1 (by decide) (w_loadR rfl (lkF hF) rfl rfl rfl) ?_ | refine ao1 (by decide) (w_loadN (cs := [_, _, _, _, _, _, _]) rfl (lkF hF) rfl rfl rfl rfl) ?_
      refine ao2 (by rintro _ ⟨⟩; decide) (V2.call (c5 _) rfl) ?_
      refine ao1 (by decide) (o_bne rfl rfl) ?_
      refine ao1 (by decide) (o_move (v := .bool _) rfl) ?_
      refine ao_split rfl rfl (fun hg4 => ?_) (fun hg4 => ?_)
      · refine ao_nF rfl rfl (by decide) ?_
        refine ao_nF rfl rfl (by decide) ?_
        refine ao_nU rfl rfl (by decide) ?_
        refine ao_nU rfl rfl (by decide) ?_
        refine ao_nU rfl rfl (by decide) ?_
        refine ao_nU rfl rfl (by decide) ?_
        refine ao_nU rfl rfl (by decide) ?_
        refine ao_nU rfl rfl (by decide) ?_
        refine ao_nU rfl rfl (by decide) ?_
        refine ao_nU rfl rfl (by decide) ?_
        refine ao_nU rfl rfl (by decide) ?_
        refine ao_nU rfl rfl (by decide) ?_
        refine ao_nU rfl rfl (by decide) ?_
        refine ao_nU rfl rfl (by decide) ?_
        refine ao_nU rfl rfl (by decide) ?_
        refine ao_nU rfl rfl (by decide) ?_
        refine ao_nU rfl rfl (by decide) ?_
        refine ao_nU rfl rfl (by decide) ?_
        refine ao_nU rfl rfl (by decide) ?_
        refine ao_nU rfl rfl (by decide) ?_
        refine ao_nU rfl rfl (by decide) ?_
        refine ao_nU rfl rfl (by decide) ?_
        refine ao_nU rfl rfl (by decide) ?_
        refine ao_nU rfl rfl (by decide) ?_
        refine ao_nF rfl rfl (by decide) ?_
        first | refine ao1 (by decide) (o_pick_t (v := .bool _) rfl rfl) ?_ | refine ao1 (by decide) (o_pick_f (v := .bool _) rfl rfl) ?_ | refine ao1 (by decide) (o_pick_b rfl rfl rfl) ?_
        refine ao1 (by decide) (o_move (v := .bool _) rfl) ?_
        refine ao_nF rfl rfl (by decide) ?_
        refine ao_nF rfl rfl (by decide) ?_
        refine ao_nF rfl rfl (by decide) ?_
        refine ao_nU rfl rfl (by decide) ?_
        refine ao_nU rfl rfl (by decide) ?_
        refine ao_nU rfl rfl (by decide) ?_
        refine ao_nU rfl rfl (by decide) ?_
        refine ao_nU rfl rfl (by decide) ?_
        refine ao_nU rfl rfl (by decide) ?_
        refine ao_nF rfl rfl (by decide) ?_
        first | refine ao1 (by decide) (o_pick_t (v := .bool _) rfl rfl) ?_ | refine ao1 (by decide) (o_pick_f (v := .bool _) rfl rfl) ?_ | refine ao1 (by decide) (o_pick_b rfl rfl rfl) ?_
        exact ao_nil (Out.mk (by first | rfl | (refine congrArg AV.bool ?_; first | (simp at *; done) | (simp_all; done))) (by repeat (first | exact SubX.refl _ _ | refine SubX.at ?_ | refine SubX.put rfl ?_ | refine SubX.put_same rfl ?_)))
      · refine ao_y1 rfl rfl (by decide) (o_move (v := .bool _) rfl) ?_
        refine ao_y1 rfl rfl (by decide) (o_move (v := .bool _) rfl) ?_
        refine ao_split rfl rfl (fun hg6 => ?_) (fun hg6 => ?_)
        · refine ao_y1 rfl rfl (by decide) (o_move (v := .int _ _) rfl) ?_
          first | refine ao_y1 rfl rfl (by decide) (w_fieldAddr rfl (lk rfl rfl) rfl (by decide)) ?_ | refine ao_y1 rfl rfl (by decide) (w_fieldAddrp rfl (by decide)) ?_ | refine ao_y1 rfl rfl (by decide) (w_fieldAddr rfl (lkF hF) rfl (by decide)) ?_
          first | refine ao_y1 rfl rfl (by decide) (w_load1 (v := .int _ _) rfl (lk rfl rfl) rfl rfl rfl) ?_ | refine ao_y1 rfl rfl (by decide) (w_load1 (v := .int _ _) rfl (lk rfl rfl) rfl (zadd hr) rfl) ?_ | refine ao_y1 rfl rfl (by decide) (w_load1 (v := .int _ _) rfl (lk rfl rfl) rfl (zadd hr1) rfl) ?_ | refine ao_y1 rfl rfl (by decide) (w_load1 (v := .int _ _) rfl (lk rfl rfl) rfl (zadd hr2) rfl) ?_ | refine ao_y1 rfl rfl (by decide) (o_load1p (v := .int _ _) rfl hr rfl) ?_ | refine ao_y1 rfl rfl (by decide) (o_load1p (v := .int _ _) rfl hr1 rfl) ?_ | refine ao_y1 rfl rfl (by decide) (o_load1p (v := .int _ _) rfl hr2 rfl) ?_ | refine ao_y1 rfl rfl (by decide) (w_load1 (v := .int _ _) rfl (lkF hF) rfl rfl rfl) ?_
          refine ao_y1 rfl rfl (by decide) (o_ne rfl rfl) ?_
          refine ao_y1 rfl rfl (by decide) (o_move (v := .bool _) rfl) ?_
          refine ao_split rfl rfl (fun hg11 => ?_) (fun hg11 => ?_)
          · refine ao_nF rfl rfl (by decide) ?_
            refine ao_nF rfl rfl (by decide) ?_
            refine ao_nF rfl rfl (by decide) ?_
            refine ao_nF rfl rfl (by decide) ?_
            refine ao_nF rfl rfl (by decide) ?_
            refine ao_nF rfl rfl (by decide) ?_
            refine ao_nF rfl rfl (by decide) ?_
            first | refine ao_y1 rfl rfl (by decide) (o_pick_t (v := .bool _) rfl rfl) ?_ | refine ao_y1 rfl rfl (by decide) (o_pick_f (v := .bool _) rfl rfl) ?_ | refine ao_y1 rfl rfl (by decide) (o_pick_b rfl rfl rfl) ?_
            refine ao_y1 rfl rfl (by decide) (o_move (v := .bool _) rfl) ?_
            refine ao_nF rfl rfl (by decide) ?_
            refine ao_nF rfl rfl (by decide) ?_
            refine ao_nF rfl rfl (by decide) ?_
            refine ao_nF rfl rfl (by decide) ?_
            refine ao_nF rfl rfl (by decide) ?_
            refine ao_nF rfl rfl (by decide) ?_
            refine ao_nF rfl rfl (by decide) ?_
            first | refine ao_y1 rfl rfl (by decide) (o_pick_t (v := .bool _) rfl rfl) ?_ | refine ao_y1 rfl rfl (by decide) (o_pick_f (v := .bool _) rfl rfl) ?_ | refine ao_y1 rfl rfl (by decide) (o_pick_b rfl rfl rfl) ?_
            first | refine ao_y1 rfl rfl (by decide) (o_pick_t (v := .bool _) rfl rfl) ?_ | refine ao_y1 rfl rfl (by decide) (o_pick_f (v := .bool _) rfl rfl) ?_ | refine ao_y1 rfl rfl (by decide) (o_pick_b rfl rfl rfl) ?_
            first | refine ao1 (by decide) (o_pick_t (v := .bool _) rfl rfl) ?_ | refine ao1 (by decide) (o_pick_f (v := .bool _) rfl rfl) ?_ | refine ao1 (by decide) (o_pick_b rfl rfl rfl) ?_
            refine ao1 (by decide) (o_move (v := .bool _) rfl) ?_
            refine ao_nF rfl rfl (by decide) ?_
            refine ao_nF rfl rfl (by decide) ?_
            refine ao_nF rfl rfl (by decide) ?_
            refine ao_nU rfl rfl (by decide) ?_
            refine ao_nU rfl rfl (by decide) ?_
            refine ao_nU rfl rfl (by decide) ?_
            refine ao_nU rfl rfl (by decide) ?_
            refine ao_nU rfl rfl (by decide) ?_
            refine ao_nU rfl rfl (by decide) ?_
            refine ao_nF rfl rfl (by decide) ?_
            first | refine ao1 (by decide) (o_pick_t (v := .bool _) rfl rfl) ?_ | refine ao1 (by decide) (o_pick_f (v := .bool _) rfl rfl) ?_ | refine ao1 (by decide) (o_pick_b rfl rfl rfl) ?_
            exact ao_nil (Out.mk (by first | rfl | (refine congrArg AV.bool ?_; first | (simp at *; done) | (simp_all; done))) (by repeat (first | exact SubX.refl _ _ | refine SubX.at ?_ | refine SubX.put rfl ?_ | refine SubX.put_same rfl ?_)))
          · refine ao_y1 rfl rfl (by decide) (o_move (v := .int _ _) rfl) ?_
            first | refine ao_y1 rfl rfl (by decide) (w_fieldAddr rfl (lk rfl rfl) rfl (by decide)) ?_ | refine ao_y1 rfl rfl (by decide) (w_fieldAddrp rfl (by decide)) ?_ | refine ao_y1 rfl rfl (by decide) (w_fieldAddr rfl (lkF hF) rfl (by decide)) ?_
            first | refine ao_y1 rfl rfl (by decide) (w_load1 (v := .int _ _) rfl (lk rfl rfl) rfl rfl rfl) ?_ | refine ao_y1 rfl rfl (by decide) (w_load1 (v := .int _ _) rfl (lk rfl rfl) rfl (zadd hr) rfl) ?_ | refine ao_y1 rfl rfl (by decide) (w_load1 (v := .int _ _) rfl (lk rfl rfl) rfl (zadd hr1) rfl) ?_ | refine ao_y1 rfl rfl (by decide) (w_load1 (v := .int _ _) rfl (lk rfl rfl) rfl (zadd hr2) rfl) ?_ | refine ao_y1 rfl rfl (by decide) (o_load1p (v := .int _ _) rfl hr rfl) ?_ | refine ao_y1 rfl rfl (by decide) (o_load1p (v := .int _ _) rfl hr1 rfl) ?_ | refine ao_y1 rfl rfl (by decide) (o_load1p (v := .int _ _) rfl hr2 rfl) ?_ | refine ao_y1 rfl rfl (by decide) (w_load1 (v := .int _ _) rfl (lkF hF) rfl rfl rfl) ?_
            first | refine ao_y1 rfl rfl (by decide) (w_fieldAddr rfl (lk rfl rfl) rfl (by decide)) ?_ | refine ao_y1 rfl rfl (by decide) (w_fieldAddrp rfl (by decide)) ?_ | refine ao_y1 rfl rfl (by decide) (w_fieldAddr rfl (lkF hF) rfl (by decide)) ?_
            first | refine ao_y1 rfl rfl (by decide) (w_load1 (v := .int _ _) rfl (lk rfl rfl) rfl rfl rfl) ?_ | refine ao_y1 rfl rfl (by decide) (w_load1 (v := .int _ _) rfl (lk rfl rfl) rfl (zadd hr) rfl) ?_ | refine ao_y1 rfl rfl (by decide) (w_load1 (v := .int _ _) rfl (lk rfl rfl) rfl (zadd hr1) rfl) ?_ | refine ao_y1 rfl rfl (by decide) (w_load1 (v := .int _ _) rfl (lk rfl rfl) rfl (zadd hr2) rfl) ?_ | refine ao_y1 rfl rfl (by decide) (o_load1p (v := .int _ _) rfl hr rfl) ?_ | refine ao_y1 rfl rfl (by decide) (o_load1p (v := .int _ _) rfl hr1 rfl) ?_ | refine ao_y1 rfl rfl (by decide) (o_load1p (v := .int _ _) rfl hr2 rfl) ?_ | refine ao_y1 rfl rfl (by decide) (w_load1 (v := .int _ _) rfl (lkF hF) rfl rfl rfl) ?_
            first | refine ao_y1 rfl rfl (by decide) (o_mul rfl rfl (wrap64_ok (by omega) (by omega))) ?_ | refine ao_y1 rfl rfl (by decide) (o_mul rfl rfl rfl) ?_
            refine ao_y1 rfl rfl (by decide) (o_ne rfl rfl) ?_
            first | refine ao_y1 rfl rfl (by decide) (o_pick_t (v := .bool _) rfl rfl) ?_ | refine ao_y1 rfl rfl (by decide) (o_pick_f (v := .bool _) rfl rfl) ?_ | refine ao_y1 rfl rfl (by decide) (o_pick_b rfl rfl rfl) ?_
            refine ao_y1 rfl rfl (by decide) (o_move (v := .bool _) rfl) ?_
            refine ao_split rfl rfl (fun hg20 => ?_) (fun hg20 => ?_)
            · refine ao_nF rfl rfl (by decide) ?_
              refine ao_nF rfl rfl (by decide) ?_
              refine ao_nF rfl rfl (by decide) ?_
              refine ao_nF rfl rfl (by decide) ?_
              refine ao_nF rfl rfl (by decide) ?_
              refine ao_nF rfl rfl (by decide) ?_
              refine ao_nF rfl rfl (by decide) ?_
              first | refine ao_y1 rfl rfl (by decide) (o_pick_t (v := .bool _) rfl rfl) ?_ | refine ao_y1 rfl rfl (by decide) (o_pick_f (v := .bool _) rfl rfl) ?_ | refine ao_y1 rfl rfl (by decide) (o_pick_b rfl rfl rfl) ?_
              first | refine ao_y1 rfl rfl (by decide) (o_pick_t (v := .bool _) rfl rfl) ?_ | refine ao_y1 rfl rfl (by decide) (o_pick_f (v := .bool _) rfl rfl) ?_ | refine ao_y1 rfl rfl (by decide) (o_pick_b rfl rfl rfl) ?_
              first | refine ao1 (by decide) (o_pick_t (v := .bool _) rfl rfl) ?_ | refine ao1 (by decide) (o_pick_f (v := .bool _) rfl rfl) ?_ | refine ao1 (by decide) (o_pick_b rfl rfl rfl) ?_
              refine ao1 (by decide) (o_move (v := .bool _) rfl) ?_
              refine ao_nF rfl rfl (by decide) ?_
              refine ao_nF rfl rfl (by decide) ?_
              refine ao_nF rfl rfl (by decide) ?_
              refine ao_nU rfl rfl (by decide) ?_
              refine ao_nU rfl rfl (by decide) ?_
              refine ao_nU rfl rfl (by decide) ?_
              refine ao_nU rfl rfl (by decide) ?_
              refine ao_nU rfl rfl (by decide) ?_
              refine ao_nU rfl rfl (by decide) ?_
              refine ao_nF rfl rfl (by decide) ?_
              first | refine ao1 (by decide) (o_pick_t (v := .bool _) rfl rfl) ?_ | refine ao1 (by decide) (o_pick_f (v := .bool _) rfl rfl) ?_ | refine ao1 (by decide) (o_pick_b rfl rfl rfl) ?_
              exact ao_nil (Out.mk (by first | rfl | (refine congrArg AV.bool ?_; first | (simp at *; done) | (simp_all; done))) (by repeat (first | exact SubX.refl _ _ | refine SubX.at ?_ | refine SubX.put rfl ?_ | refine SubX.put_same rfl ?_)))
            · refine ao_y1 rfl rfl (by decide) (o_move (v := .int _ _) rfl) ?_
              first | refine ao_y1 rfl rfl (by decide) (w_fieldAddr rfl (lk rfl rfl) rfl (by decide)) ?_ | refine ao_y1 rfl rfl (by decide) (w_fieldAddrp rfl (by decide)) ?_ | refine ao_y1 rfl rfl (by decide) (w_fieldAddr rfl (lkF hF) rfl (by decide)) ?_
              first | refine ao_y1 rfl rfl (by decide) (w_load1 (v := .int _ _) rfl (lk rfl rfl) rfl rfl rfl) ?_ | refine ao_y1 rfl rfl (by decide) (w_load1 (v := .int _ _) rfl (lk rfl rfl) rfl (zadd hr) rfl) ?_ | refine ao_y1 rfl rfl (by decide) (w_load1 (v := .int _ _) rfl (lk rfl rfl) rfl (zadd hr1) rfl) ?_ | refine ao_y1 rfl rfl (by decide) (w_load1 (v := .int _ _) rfl (lk rfl rfl) rfl (zadd hr2) rfl) ?_ | refine ao_y1 rfl rfl (by decide) (o_load1p (v := .int _ _) rfl hr rfl) ?_ | refine ao_y1 rfl rfl (by decide) (o_load1p (v := .int _ _) rfl hr1 rfl) ?_ | refine ao_y1 rfl rfl (by decide) (o_load1p (v := .int _ _) rfl hr2 rfl) ?_ | refine ao_y1 rfl rfl (by decide) (w_load1 (v := .int _ _) rfl (lkF hF) rfl rfl rfl) ?_
              first | refine ao_y1 rfl rfl (by decide) (w_fieldAddr rfl (lk rfl rfl) rfl (by decide)) ?_ | refine ao_y1 rfl rfl (by decide) (w_fieldAddrp rfl (by decide)) ?_ | refine ao_y1 rfl rfl (by decide) (w_fieldAddr rfl (lkF hF) rfl (by decide)) ?_
              first | refine ao_y1 rfl rfl (by decide) (w_load1 (v := .int _ _) rfl (lk rfl rfl) rfl rfl rfl) ?_ | refine ao_y1 rfl rfl (by decide) (w_load1 (v := .int _ _) rfl (lk rfl rfl) rfl (zadd hr) rfl) ?_ | refine ao_y1 rfl rfl (by decide) (w_load1 (v := .int _ _) rfl (lk rfl rfl) rfl (zadd hr1) rfl) ?_ | refine ao_y1 rfl rfl (by decide) (w_load1 (v := .int _ _) rfl (lk rfl rfl) rfl (zadd hr2) rfl) ?_ | refine ao_y1 rfl rfl (by decide) (o_load1p (v := .int _ _) rfl hr rfl) ?_ | refine ao_y1 rfl rfl (by decide) (o_load1p (v := .int _ _) rfl hr1 rfl) ?_ | refine ao_y1 rfl rfl (by decide) (o_load1p (v := .int _ _) rfl hr2 rfl) ?_ | refine ao_y1 rfl rfl (by decide) (w_load1 (v := .int _ _) rfl (lkF hF) rfl rfl rfl) ?_
              first | refine ao_y1 rfl rfl (by decide) (o_mul rfl rfl (wrap64_ok (by omega) (by omega))) ?_ | refine ao_y1 rfl rfl (by decide) (o_mul rfl rfl rfl) ?_
              refine ao_y1 rfl rfl (by decide) (o_ne rfl rfl) ?_
              first | refine ao_y1 rfl rfl (by decide) (o_pick_t (v := .bool _) rfl rfl) ?_ | refine ao_y1 rfl rfl (by decide) (o_pick_f (v := .bool _) rfl rfl) ?_ | refine ao_y1 rfl rfl (by decide) (o_pick_b rfl rfl rfl) ?_
              first | refine ao_y1 rfl rfl (by decide) (o_pick_t (v := .bool _) rfl rfl) ?_ | refine ao_y1 rfl rfl (by decide) (o_pick_f (v := .bool _) rfl rfl) ?_ | refine ao_y1 rfl rfl (by decide) (o_pick_b rfl rfl rfl) ?_
              first | refine ao1 (by decide) (o_pick_t (v := .bool _) rfl rfl) ?_ | refine ao1 (by decide) (o_pick_f (v := .bool _) rfl rfl) ?_ | refine ao1 (by decide) (o_pick_b rfl rfl rfl) ?_
              refine ao1 (by decide) (o_move (v := .bool _) rfl) ?_
              refine ao_split rfl rfl (fun hg31 => ?_) (fun hg31 => ?_)
              · refine ao_nF rfl rfl (by decide) ?_
                refine ao_nF rfl rfl (by decide) ?_
                refine ao_nF rfl rfl (by decide) ?_
                refine ao_nU rfl rfl (by decide) ?_
                refine ao_nU rfl rfl (by decide) ?_
                refine ao_nU rfl rfl (by decide) ?_
                refine ao_nU rfl rfl (by decide) ?_
                refine ao_nU rfl rfl (by decide) ?_
                refine ao_nU rfl rfl (by decide) ?_
                refine ao_nF rfl rfl (by decide) ?_
                first | refine ao1 (by decide) (o_pick_t (v := .bool _) rfl rfl) ?_ | refine ao1 (by decide) (o_pick_f (v := .bool _) rfl rfl) ?_ | refine ao1 (by decide) (o_pick_b rfl rfl rfl) ?_
                exact ao_nil (Out.mk (by first | rfl | (refine congrArg AV.bool ?_; first | (simp at *; done) | (simp_all; done))) (by repeat (first | exact SubX.refl _ _ | refine SubX.at ?_ | refine SubX.put rfl ?_ | refine SubX.put_same rfl ?_)))
              · refine ao_y1 rfl rfl (by decide) (o_move (v := .bool _) rfl) ?_
                refine ao_y1 rfl rfl (by decide) (o_not rfl) ?_
                refine ao_y1 rfl rfl (by decide) (o_move (v := .bool _) rfl) ?_
                refine ao_split rfl rfl (fun hg34 => ?_) (fun hg34 => ?_)
                · refine ao_y1 rfl rfl (by decide) (o_move (v := .int _ _) rfl) ?_
                  refine ao_y1 rfl rfl (by decide) (o_move (v := .int _ _) rfl) ?_
                  first | refine ao_y1 rfl rfl (by decide) (o_add rfl rfl (wrap64_ok (by omega) (by omega))) ?_ | refine ao_y1 rfl rfl (by decide) (o_add rfl rfl rfl) ?_
                  refine ao_y1 rfl rfl (by decide) (o_move (v := .int _ _) rfl) ?_
                  first | refine ao_y1 rfl rfl (by decide) (o_add rfl rfl (wrap64_ok (by omega) (by omega))) ?_ | refine ao_y1 rfl rfl (by decide) (o_add rfl rfl rfl) ?_
                  refine ao_y1 rfl rfl (by decide) (o_ne rfl rfl) ?_
                  first | refine ao_y1 rfl rfl (by decide) (o_pick_t (v := .bool _) rfl rfl) ?_ | refine ao_y1 rfl rfl (by decide) (o_pick_f (v := .bool _) rfl rfl) ?_ | refine ao_y1 rfl rfl (by decide) (o_pick_b rfl rfl rfl) ?_
                  first | refine ao1 (by decide) (o_pick_t (v := .bool _) rfl rfl) ?_ | refine ao1 (by decide) (o_pick_f (v := .bool _) rfl rfl) ?_ | refine ao1 (by decide) (o_pick_b rfl rfl rfl) ?_
                  exact ao_nil (Out.mk (by first | rfl | (refine congrArg AV.bool ?_; first | (simp at *; done) | (simp_all; done))) (by repeat (first | exact SubX.refl _ _ | refine SubX.at ?_ | refine SubX.put rfl ?_ | refine SubX.put_same rfl ?_)))
                · refine ao_nT rfl rfl (by decide) ?_
                  refine ao_nT rfl rfl (by decide) ?_
                  refine ao_nT rfl rfl (by decide) ?_
                  refine ao_nT rfl rfl (by decide) ?_
                  refine ao_nT rfl rfl (by decide) ?_
                  refine ao_nT rfl rfl (by decide) ?_
                  first | refine ao_y1 rfl rfl (by decide) (o_pick_t (v := .bool _) rfl rfl) ?_ | refine ao_y1 rfl rfl (by decide) (o_pick_f (v := .bool _) rfl rfl) ?_ | refine ao_y1 rfl rfl (by decide) (o_pick_b rfl rfl rfl) ?_
                  first | refine ao1 (by decide) (o_pick_t (v := .bool _) rfl rfl) ?_ | refine ao1 (by decide) (o_pick_f (v := .bool _) rfl rfl) ?_ | refine ao1 (by decide) (o_pick_b rfl rfl rfl) ?_
                  exact ao_nil (Out.mk (by first | rfl | (refine congrArg AV.bool ?_; first | (simp at *; done) | (simp_all; done))) (by repeat (first | exact SubX.refl _ _ | refine SubX.at ?_ | refine SubX.put rfl ?_ | refine SubX.put_same rfl ?_)))
        · refine ao_nT rfl rfl (by decide) ?_
          refine ao_nT rfl rfl (by decide) ?_
          refine ao_nT rfl rfl (by decide) ?_
          refine ao_nT rfl rfl (by decide) ?_
          refine ao_nT rfl rfl (by decide) ?_
          refine ao_nU rfl rfl (by decide) ?_
          refine ao_nU rfl rfl (by decide) ?_
          refine ao_nU rfl rfl (by decide) ?_
          refine ao_nU rfl rfl (by decide) ?_
          refine ao_nU rfl rfl (by decide) ?_
          refine ao_nU rfl rfl (by decide) ?_
          refine ao_nU rfl rfl (by decide) ?_
          refine ao_nT rfl rfl (by decide) ?_
          refine ao_nT rfl rfl (by decide) ?_
          refine ao_nU rfl rfl (by decide) ?_
          refine ao_nU rfl rfl (by decide) ?_
          refine ao_nU rfl rfl (by decide) ?_
          refine ao_nU rfl rfl (by decide) ?_
          refine ao_nU rfl rfl (by decide) ?_
          refine ao_nU rfl rfl (by decide) ?_
          refine ao_nU rfl rfl (by decide) ?_
          refine ao_nT rfl rfl (by decide) ?_
          first | refine ao_y1 rfl rfl (by decide) (o_pick_t (v := .bool _) rfl rfl) ?_ | refine ao_y1 rfl rfl (by decide) (o_pick_f (v := .bool _) rfl rfl) ?_ | refine ao_y1 rfl rfl (by decide) (o_pick_b rfl rfl rfl) ?_
          first | refine ao1 (by decide) (o_pick_t (v := .bool _) rfl rfl) ?_ | refine ao1 (by decide) (o_pick_f (v := .bool _) rfl rfl) ?_ | refine ao1 (by decide) (o_pick_b rfl rfl rfl) ?_
          refine ao1 (by decide) (o_move (v := .bool _) rfl) ?_
          refine ao_y1 rfl rfl (by decide) (o_move (v := .bool _) rfl) ?_
          refine ao_y1 rfl rfl (by decide) (o_not rfl) ?_
          refine ao_y1 rfl rfl (by decide) (o_move (v := .bool _) rfl) ?_
          refine ao_split rfl rfl (fun hg34 => ?_) (fun hg34 => ?_)
          · refine ao_y1 rfl rfl (by decide) (o_move (v := .int _ _) rfl) ?_
            refine ao_y1 rfl rfl (by decide) (o_move (v := .int _ _) rfl) ?_
            first | refine ao_y1 rfl rfl (by decide) (o_add rfl rfl (wrap64_ok (by omega) (by omega))) ?_ | refine ao_y1 rfl rfl (by decide) (o_add rfl rfl rfl) ?_
            refine ao_y1 rfl rfl (by decide) (o_move (v := .int _ _) rfl) ?_
            first | refine ao_y1 rfl rfl (by decide) (o_add rfl rfl (wrap64_ok (by omega) (by omega))) ?_ | refine ao_y1 rfl rfl (by decide) (o_add rfl rfl rfl) ?_
            refine ao_y1 rfl rfl (by decide) (o_ne rfl rfl) ?_
            first | refine ao_y1 rfl rfl (by decide) (o_pick_t (v := .bool _) rfl rfl) ?_ | refine ao_y1 rfl rfl (by decide) (o_pick_f (v := .bool _) rfl rfl) ?_ | refine ao_y1 rfl rfl (by decide) (o_pick_b rfl rfl rfl) ?_
            first | refine ao1 (by decide) (o_pick_t (v := .bool _) rfl rfl) ?_ | refine ao1 (by decide) (o_pick_f (v := .bool _) rfl rfl) ?_ | refine ao1 (by decide) (o_pick_b rfl rfl rfl) ?_
            exact ao_nil (Out.mk (by first | rfl | (refine congrArg AV.bool ?_; first | (simp at *; done) | (simp_all; done))) (by repeat (first | exact SubX.refl _ _ | refine SubX.at ?_ | refine SubX.put rfl ?_ | refine SubX.put_same rfl ?_)))
          · refine ao_nT rfl rfl (by decide) ?_
            refine ao_nT rfl rfl (by decide) ?_
            refine ao_nT rfl rfl (by decide) ?_
            refine ao_nT rfl rfl (by decide) ?_
            refine ao_nT rfl rfl (by decide) ?_
            refine ao_nT rfl rfl (by decide) ?_
            first | refine ao_y1 rfl rfl (by decide) (o_pick_t (v := .bool _) rfl rfl) ?_ | refine ao_y1 rfl rfl (by decide) (o_pick_f (v := .bool _) rfl rfl) ?_ | refine ao_y1 rfl rfl (by decide) (o_pick_b rfl rfl rfl) ?_
            first | refine ao1 (by decide) (o_pick_t (v := .bool _) rfl rfl) ?_ | refine ao1 (by decide) (o_pick_f (v := .bool _) rfl rfl) ?_ | refine ao1 (by decide) (o_pick_b rfl rfl rfl) ?_
            exact ao_nil (Out.mk (by first | rfl | (refine congrArg AV.bool ?_; first | (simp at *; done) | (simp_all; done))) (by repeat (first | exact SubX.refl _ _ | refine SubX.at ?_ | refine SubX.put rfl ?_ | refine SubX.put_same rfl ?_)))
    repeat (first | refine join_ret ?_ | refine join_brk ?_ | refine then_nrm ?_ | refine blk_nrm ?_ | refine then_brk ?_ | refine blk_hit ?_ | refine blk_miss rfl ?_ | refine then_ret ?_ | refine blk_ret ?_ | refine aw_seq ?_ | refine aw_block ?_ | refine aw_skip ?_ | refine aw_exit ?_ | refine aw_scope ?_ | refine aw_ret ?_)
    refine aw_cond rfl (fun hc => ?_) (fun hc => ?_)
    · simp at hc
    repeat (first | refine join_ret ?_ | refine join_brk ?_ | refine then_nrm ?_ | refine blk_nrm ?_ | refine then_brk ?_ | refine blk_hit ?_ | refine blk_miss rfl ?_ | refine then_ret ?_ | refine blk_ret ?_ | refine aw_seq ?_ | refine aw_block ?_ | refine aw_skip ?_ | refine aw_exit ?_ | refine aw_scope ?_ | refine aw_ret ?_)
    refine aw_region ?_
    first | refine ao1 (by decide) (w_loadR rfl (lk rfl rfl) rfl rfl rfl) ?_ | refine ao1 (by decide) (w_loadR rfl (lk rfl rfl) rfl (zadd hr) rfl) ?_ | refine ao1 (by decide) (w_loadR rfl (lk rfl rfl) rfl (zadd hr1) rfl) ?_ | refine ao1 (by decide) (w_loadR rfl (lk rfl rfl) rfl (zadd hr2) rfl) ?_ | refine ao1 (by decide) (w_loadRp rfl hr rfl) ?_ | refine ao1 (by decide) (w_loadRp rfl hr1 rfl) ?_ | refine ao1 (by decide) (w_loadRp rfl hr2 rfl) ?_ | refine ao1 (by decide) (w_loadN (cs := [_, _, _, _, _, _, _]) rfl (lk rfl rfl) rfl rfl rfl rfl) ?_ | refine ao1 (by decide) (o_loadNp (cs := [_, _, _, _, _, _, _]) rfl hr rfl rfl) ?_ | refine ao1 (by decide) (o_loadNp (cs := [_, _, _, _, _, _, _]) rfl hr1 rfl rfl) ?_ | refine ao1 (by decide) (o_loadNp (cs := [_, _, _, _, _, _, _]) rfl hr2 rfl rfl) ?_ | refine ao1 (by decide) (w_loadR rfl (lkF hF) rfl rfl rfl) ?_ | refine ao1 (by decide) (w_loadN (cs := [_, _, _, _, _, _, _]) rfl (lkF hF) rfl rfl rfl rfl) ?_
    refine ao1 (by decide) (o_move (v := .int _ _) rfl) ?_
    refine ao2 (by rintro _ ⟨⟩; decide) (V2.call (c7 _) rfl) ?_
    refine ao1 (by decide) (o_move (v := .tup _) rfl) ?_
    refine ao1 (by decide) (o_extract (v := .agg _) rfl rfl) ?_
    refine ao1 (by decide) (o_extract (v := .int _ _) rfl rfl) ?_
    refine ao2 (by rintro _ ⟨⟩; decide) (o_allocL (sz := 7) rfl (by decide) rfl) ?_
    first | refine ao2 (by rintro _ ⟨⟩) (w_storeW (sz := 7) rfl rfl rfl rfl rfl rfl rfl rfl (Nat.le_of_ble_eq_true rfl)) ?_ | refine ao2 (by rintro _ ⟨⟩) (w_storeFP (sz := 7) (v := .agg _) (r' := [_, _, _, _, _, _, _]) rfl hF rfl rfl rfl rfl rfl (Nat.le_of_ble_eq_true rfl) rfl) ?_ | refine ao2 (by rintro _ ⟨⟩) (w_storeFP (sz := 7) (v := .agg _) (r' := [_, _, _, _, _, _, _]) rfl hF1 rfl rfl rfl rfl rfl (Nat.le_of_ble_eq_true rfl) rfl) ?_
    refine ao1 (by decide) (o_assign (v := .int _ _) rfl) ?_
    refine ao_nil ?_
    try dsimp only [List.set_cons_zero, List.set_cons_succ, List.cons_append, List.nil_append, List.take_succ_cons, List.take_zero, List.drop_succ_cons, List.drop_zero, AV.cells, List.length_nil, List.length_cons, Av.put, Nat.reduceAdd, AV.up, AV.up1, List.map_cons, List.map_nil]
    repeat (first | refine join_ret ?_ | refine join_brk ?_ | refine then_nrm ?_ | refine blk_nrm ?_ | refine then_brk ?_ | refine blk_hit ?_ | refine blk_miss rfl ?_ | refine then_ret ?_ | refine blk_ret ?_ | refine aw_seq ?_ | refine aw_block ?_ | refine aw_skip ?_ | refine aw_exit ?_ | refine aw_scope ?_ | refine aw_ret ?_)
    refine aw_region ?_
    first | refine ao1 (by decide) (w_loadR rfl (lk rfl rfl) rfl rfl rfl) ?_ | refine ao1 (by decide) (w_loadR rfl (lk rfl rfl) rfl (zadd hr) rfl) ?_ | refine ao1 (by decide) (w_loadR rfl (lk rfl rfl) rfl (zadd hr1) rfl) ?_ | refine ao1 (by decide) (w_loadR rfl (lk rfl rfl) rfl (zadd hr2) rfl) ?_ | refine ao1 (by decide) (w_loadRp rfl hr rfl) ?_ | refine ao1 (by decide) (w_loadRp rfl hr1 rfl) ?_ | refine ao1 (by decide) (w_loadRp rfl hr2 rfl) ?_ | refine ao1 (by decide) (w_loadN (cs := [_, _, _, _, _, _, _]) rfl (lk rfl rfl) rfl rfl rfl rfl) ?_ | refine ao1 (by decide) (o_loadNp (cs := [_, _, _, _, _, _, _]) rfl hr rfl rfl) ?_ | refine ao1 (by decide) (o_loadNp (cs := [_, _, _, _, _, _, _]) rfl hr1 rfl rfl) ?_ | refine ao1 (by decide) (o_loadNp (cs := [_, _, _, _, _, _, _]) rfl hr2 rfl rfl) ?_ | refine ao1 (by decide) (w_loadR rfl (lkF hF) rfl rfl rfl) ?_ | refine ao1 (by decide) (w_loadN (cs := [_, _, _, _, _, _, _]) rfl (lkF hF) rfl rfl rfl rfl) ?_
    refine ao2 (by rintro _ ⟨⟩; decide) (o_allocL (sz := 7) rfl (by decide) rfl) ?_
    first | refine ao2 (by rintro _ ⟨⟩) (w_storeW (sz := 7) rfl rfl rfl rfl rfl rfl rfl rfl (Nat.le_of_ble_eq_true rfl)) ?_ | refine ao2 (by rintro _ ⟨⟩) (w_storeFP (sz := 7) (v := .agg _) (r' := [_, _, _, _, _, _, _]) rfl hF rfl rfl rfl rfl rfl (Nat.le_of_ble_eq_true rfl) rfl) ?_ | refine ao2 (by rintro _ ⟨⟩) (w_storeFP (sz := 7) (v := .agg _) (r' := [_, _, _, _, _, _, _]) rfl hF1 rfl rfl rfl rfl rfl (Nat.le_of_ble_eq_true rfl) rfl) ?_
    refine ao1 (by decide) (o_assign (v := .int _ _) rfl) ?_
    refine ao_nil ?_
    try dsimp only [List.set_cons_zero, List.set_cons_succ, List.cons_append, List.nil_append, List.take_succ_cons, List.take_zero, List.drop_succ_cons, List.drop_zero, AV.cells, List.length_nil, List.length_cons, Av.put, Nat.reduceAdd, AV.up, AV.up1, List.map_cons, List.map_nil]
    repeat (first | refine join_ret ?_ | refine join_brk ?_ | refine then_nrm ?_ | refine blk_nrm ?_ | refine then_brk ?_ | refine blk_hit ?_ | refine blk_miss rfl ?_ | refine then_ret ?_ | refine blk_ret ?_ | refine aw_seq ?_ | refine aw_block ?_ | refine aw_skip ?_ | refine aw_exit ?_ | refine aw_scope ?_ | refine aw_ret ?_)
    refine aw_out 82 (.bool true) ?_ ?_
    · refine ao1 (by decide) (o_move (v := .bool _) rfl) ?_
      refine ao1 (by decide) (o_not rfl) ?_
      refine ao1 (by decide) (o_move (v := .bool _) rfl) ?_
      refine ao_split rfl rfl (fun hg2 => ?_) (fun hg2 => ?_)
      · refine ao_nF rfl rfl (by decide) ?_
        refine ao_nF rfl rfl (by decide) ?_
        first | refine ao1 (by decide) (o_pick_t (v := .bool _) rfl rfl) ?_ | refine ao1 (by decide) (o_pick_f (v := .bool _) rfl rfl) ?_ | refine ao1 (by decide) (o_pick_b rfl rfl rfl) ?_
        exact ao_nil (Out.mk (by first | rfl | (refine congrArg AV.bool ?_; first | (simp at *; done) | (simp_all; done))) (by repeat (first | exact SubX.refl _ _ | refine SubX.at ?_ | refine SubX.put rfl ?_ | refine SubX.put_same rfl ?_)))
      · refine ao_y1 rfl rfl (by decide) (o_move (v := .int _ _) rfl) ?_
        refine ao_y1 rfl rfl (by decide) (o_lt rfl rfl) ?_
        first | refine ao1 (by decide) (o_pick_t (v := .bool _) rfl rfl) ?_ | refine ao1 (by decide) (o_pick_f (v := .bool _) rfl rfl) ?_ | refine ao1 (by decide) (o_pick_b rfl rfl rfl) ?_
        exact ao_nil (Out.mk (by first | rfl | (refine congrArg AV.bool ?_; first | (simp at *; done) | (simp_all; done))) (by repeat (first | exact SubX.refl _ _ | refine SubX.at ?_ | refine SubX.put rfl ?_ | refine SubX.put_same rfl ?_)))
    repeat (first | refine join_ret ?_ | refine join_brk ?_ | refine then_nrm ?_ | refine blk_nrm ?_ | refine then_brk ?_ | refine blk_hit ?_ | refine blk_miss rfl ?_ | refine then_ret ?_ | refine blk_ret ?_ | refine aw_seq ?_ | refine aw_block ?_ | refine aw_skip ?_ | refine aw_exit ?_ | refine aw_scope ?_ | refine aw_ret ?_)
    refine aw_cond rfl (fun hc => ?_) (fun hc => ?_)
    · repeat (first | refine join_ret ?_ | refine join_brk ?_ | refine then_nrm ?_ | refine blk_nrm ?_ | refine then_brk ?_ | refine blk_hit ?_ | refine blk_miss rfl ?_ | refine then_ret ?_ | refine blk_ret ?_ | refine aw_seq ?_ | refine aw_block ?_ | refine aw_skip ?_ | refine aw_exit ?_ | refine aw_scope ?_ | refine aw_ret ?_)
      refine aw_region ?_
      refine ao1 (by decide) (V1.up (o_build (cs := [.int _ _, .int _ _, .int _ _, .str _, .bool _, .int _ _, .int _ _]) rfl)) ?_
      first | refine ao2 (by rintro _ ⟨⟩) (w_storeW (sz := 7) rfl rfl rfl rfl rfl rfl rfl rfl (Nat.le_of_ble_eq_true rfl)) ?_ | refine ao2 (by rintro _ ⟨⟩) (w_storeFP (sz := 7) (v := .agg _) (r' := [_, _, _, _, _, _, _]) rfl hF rfl rfl rfl rfl rfl (Nat.le_of_ble_eq_true rfl) rfl) ?_ | refine ao2 (by rintro _ ⟨⟩) (w_storeFP (sz := 7) (v := .agg _) (r' := [_, _, _, _, _, _, _]) rfl hF1 rfl rfl rfl rfl rfl (Nat.le_of_ble_eq_true rfl) rfl) ?_
      refine ao1 (by decide) (o_assign (v := .int _ _) rfl) ?_
      refine ao_nil ?_
      try dsimp only [List.set_cons_zero, List.set_cons_succ, List.cons_append, List.nil_append, List.take_succ_cons, List.take_zero, List.drop_succ_cons, List.drop_zero, AV.cells, List.length_nil, List.length_cons, Av.put, Nat.reduceAdd, AV.up, AV.up1, List.map_cons, List.map_nil]
      repeat (first | refine join_ret ?_ | refine join_brk ?_ | refine then_nrm ?_ | refine blk_nrm ?_ | refine then_brk ?_ | refine blk_hit ?_ | refine blk_miss rfl ?_ | refine then_ret ?_ | refine blk_ret ?_ | refine aw_seq ?_ | refine aw_block ?_ | refine aw_skip ?_ | refine aw_exit ?_ | refine aw_scope ?_ | refine aw_ret ?_)
      refine aw_of_out 8 (.bool true) ?_ ?_
      · refine aw_drawP mixed none 999 ?_
        try dsimp only [List.take_succ_cons, List.take_zero, List.take_nil, List.set_cons_zero, List.set_cons_succ, List.cons_append, List.nil_append]
        first | refine aqp 0 rfl (by decide +kernel) (by decide) (fun G => w_loadR rfl (lk rfl rfl) rfl rfl rfl) ?_ | refine aqp 0 rfl (by decide +kernel) (by decide) (fun G => w_loadR rfl (lk rfl rfl) rfl (zadd hr) rfl) ?_ | refine aqp 0 rfl (by decide +kernel) (by decide) (fun G => w_loadR rfl (lk rfl rfl) rfl (zadd hr1) rfl) ?_ | refine aqp 0 rfl (by decide +kernel) (by decide) (fun G => w_loadR rfl (lk rfl rfl) rfl (zadd hr2) rfl) ?_ | refine aqp 0 rfl (by decide +kernel) (by decide) (fun G => w_loadRp rfl hr rfl) ?_ | refine aqp 0 rfl (by decide +kernel) (by decide) (fun G => w_loadRp rfl hr1 rfl) ?_ | refine aqp 0 rfl (by decide +kernel) (by decide) (fun G => w_loadRp rfl hr2 rfl) ?_ | refine aqp 0 rfl (by decide +kernel) (by decide) (fun G => w_loadN (cs := [_, _, _, _, _, _, _]) rfl (lk rfl rfl) rfl rfl rfl rfl) ?_ | refine aqp 0 rfl (by decide +kernel) (by decide) (fun G => o_loadNp (cs := [_, _, _, _, _, _, _]) rfl hr rfl rfl) ?_ | refine aqp 0 rfl (by decide +kernel) (by decide) (fun G => o_loadNp (cs := [_, _, _, _, _, _, _]) rfl hr1 rfl rfl) ?_ | refine aqp 0 rfl (by decide +kernel) (by decide) (fun G => o_loadNp (cs := [_, _, _, _, _, _, _]) rfl hr2 rfl rfl) ?_ | refine aqp 0 rfl (by decide +kernel) (by decide) (fun G => w_loadR rfl (lkF hF) rfl rfl rfl) ?_ | refine aqp 0 rfl (by decide +kernel) (by decide) (fun G => w_loadN (cs := [_, _, _, _, _, _, _]) rfl (lkF hF) rfl rfl rfl rfl) ?_
        refine aq0 1 rfl (by decide +kernel) (by decide) (fun _ => o_move (v := .int _ _) rfl) ?_
        refine aq02 2 rfl (by decide +kernel) (by decide) (fun _ => V2.call (spec_Ends _ _ _) rfl) ?_
        first | refine aqp 3 rfl (by decide +kernel) (by decide) (fun G => w_loadR rfl (lk rfl rfl) rfl rfl rfl) ?_ | refine aqp 3 rfl (by decide +kernel) (by decide) (fun G => w_loadR rfl (lk rfl rfl) rfl (zadd hr) rfl) ?_ | refine aqp 3 rfl (by decide +kernel) (by decide) (fun G => w_loadR rfl (lk rfl rfl) rfl (zadd hr1) rfl) ?_ | refine aqp 3 rfl (by decide +kernel) (by decide) (fun G => w_loadR rfl (lk rfl rfl) rfl (zadd hr2) rfl) ?_ | refine aqp 3 rfl (by decide +kernel) (by decide) (fun G => w_loadRp rfl hr rfl) ?_ | refine aqp 3 rfl (by decide +kernel) (by decide) (fun G => w_loadRp rfl hr1 rfl) ?_ | refine aqp 3 rfl (by decide +kernel) (by decide) (fun G => w_loadRp rfl hr2 rfl) ?_ | refine aqp 3 rfl (by decide +kernel) (by decide) (fun G => w_loadN (cs := [_, _, _, _, _, _, _]) rfl (lk rfl rfl) rfl rfl rfl rfl) ?_ | refine aqp 3 rfl (by decide +kernel) (by decide) (fun G => o_loadNp (cs := [_, _, _, _, _, _, _]) rfl hr rfl rfl) ?_ | refine aqp 3 rfl (by decide +kernel) (by decide) (fun G => o_loadNp (cs := [_, _, _, _, _, _, _]) rfl hr1 rfl rfl) ?_ | refine aqp 3 rfl (by decide +kernel) (by decide) (fun G => o_loadNp (cs := [_, _, _, _, _, _, _]) rfl hr2 rfl rfl) ?_ | refine aqp 3 rfl (by decide +kernel) (by decide) (fun G => w_loadR rfl (lkF hF) rfl rfl rfl) ?_ | refine aqp 3 rfl (by decide +kernel) (by decide) (fun G => w_loadN (cs := [_, _, _, _, _, _, _]) rfl (lkF hF) rfl rfl rfl rfl) ?_
        refine aq0 4 rfl (by decide +kernel) (by decide) (fun _ => o_move (v := .int _ _) rfl) ?_
        refine aq02 5 rfl (by decide +kernel) (by decide) (fun _ => V2.call (ref07_Ends _ _ _ (by assumption)) rfl) ?_
        refine aq0 6 rfl (by decide +kernel) (by decide) (fun _ => o_eq rfl rfl) ?_
        refine aq0 7 rfl (by decide +kernel) (by decide) (fun _ => o_move (v := .bool _) rfl) ?_
        refine aq_split (g := 101) rfl (fun hg7 => ?_) (fun hg7 => ?_)
        · first | refine aqyp (g := 101) 8 rfl (by decide +kernel) (by decide) rfl rfl (fun G => w_loadR rfl (lk rfl rfl) rfl rfl rfl) ?_ | refine aqyp (g := 101) 8 rfl (by decide +kernel) (by decide) rfl rfl (fun G => w_loadR rfl (lk rfl rfl) rfl (zadd hr) rfl) ?_ | refine aqyp (g := 101) 8 rfl (by decide +kernel) (by decide) rfl rfl (fun G => w_loadR rfl (lk rfl rfl) rfl (zadd hr1) rfl) ?_ | refine aqyp (g := 101) 8 rfl (by decide +kernel) (by decide) rfl rfl (fun G => w_loadR rfl (lk rfl rfl) rfl (zadd hr2) rfl) ?_ | refine aqyp (g := 101) 8 rfl (by decide +kernel) (by decide) rfl rfl (fun G => w_loadRp rfl hr rfl) ?_ | refine aqyp (g := 101) 8 rfl (by decide +kernel) (by decide) rfl rfl (fun G => w_loadRp rfl hr1 rfl) ?_ | refine aqyp (g := 101) 8 rfl (by decide +kernel) (by decide) rfl rfl (fun G => w_loadRp rfl hr2 rfl) ?_ | refine aqyp (g := 101) 8 rfl (by decide +kernel) (by decide) rfl rfl (fun G => w_loadN (cs := [_, _, _, _, _, _, _]) rfl (lk rfl rfl) rfl rfl rfl rfl) ?_ | refine aqyp (g := 101) 8 rfl (by decide +kernel) (by decide) rfl rfl (fun G => o_loadNp (cs := [_, _, _, _, _, _, _]) rfl hr rfl rfl) ?_ | refine aqyp (g := 101) 8 rfl (by decide +kernel) (by decide) rfl rfl (fun G => o_loadNp (cs := [_, _, _, _, _, _, _]) rfl hr1 rfl rfl) ?_ | refine aqyp (g := 101) 8 rfl (by decide +kernel) (by decide) rfl rfl (fun G => o_loadNp (cs := [_, _, _, _, _, _, _]) rfl hr2 rfl rfl) ?_ | refine aqyp (g := 101) 8 rfl (by decide +kernel) (by decide) rfl rfl (fun G => w_loadR rfl (lkF hF) rfl rfl rfl) ?_ | refine aqyp (g := 101) 8 rfl (by decide +kernel) (by decide) rfl rfl (fun G => w_loadN (cs := [_, _, _, _, _, _, _]) rfl (lkF hF) rfl rfl rfl rfl) ?_
          first | refine aqyp (g := 101) 9 rfl (by decide +kernel) (by decide) rfl rfl (fun G => w_loadR rfl (lk rfl rfl) rfl rfl rfl) ?_ | refine aqyp (g := 101) 9 rfl (by decide +kernel) (by decide) rfl rfl (fun G => w_loadR rfl (lk rfl rfl) rfl (zadd hr) rfl) ?_ | refine aqyp (g := 101) 9 rfl (by decide +kernel) (by decide) rfl rfl (fun G => w_loadR rfl (lk rfl rfl) rfl (zadd hr1) rfl) ?_ | refine aqyp (g := 101) 9 rfl (by decide +kernel) (by decide) rfl rfl (fun G => w_loadR rfl (lk rfl rfl) rfl (zadd hr2) rfl) ?_ | refine aqyp (g := 101) 9 rfl (by decide +kernel) (by decide) rfl rfl (fun G => w_loadRp rfl hr rfl) ?_ | refine aqyp (g := 101) 9 rfl (by decide +kernel) (by decide) rfl rfl (fun G => w_loadRp rfl hr1 rfl) ?_ | refine aqyp (g := 101) 9 rfl (by decide +kernel) (by decide) rfl rfl (fun G => w_loadRp rfl hr2 rfl) ?_ | refine aqyp (g := 101) 9 rfl (by decide +kernel) (by decide) rfl rfl (fun G => w_loadN (cs := [_, _, _, _, _, _, _]) rfl (lk rfl rfl) rfl rfl rfl rfl) ?_ | refine aqyp (g := 101) 9 rfl (by decide +kernel) (by decide) rfl rfl (fun G => o_loadNp (cs := [_, _, _, _, _, _, _]) rfl hr rfl rfl) ?_ | refine aqyp (g := 101) 9 rfl (by decide +kernel) (by decide) rfl rfl (fun G => o_loadNp (cs := [_, _, _, _, _, _, _]) rfl hr1 rfl rfl) ?_ | refine aqyp (g := 101) 9 rfl (by decide +kernel) (by decide) rfl rfl (fun G => o_loadNp (cs := [_, _, _, _, _, _, _]) rfl hr2 rfl rfl) ?_ | refine aqyp (g := 101) 9 rfl (by decide +kernel) (by decide) rfl rfl (fun G => w_loadR rfl (lkF hF) rfl rfl rfl) ?_ | refine aqyp (g := 101) 9 rfl (by decide +kernel) (by decide) rfl rfl (fun G => w_loadN (cs := [_, _, _, _, _, _, _]) rfl (lkF hF) rfl rfl rfl rfl) ?_
          refine aqy02 (g := 101) 10 rfl (by decide +kernel) (by decide) rfl rfl (fun _ => V2.call (c6 _) rfl) ?_
          first | refine aqyp (g := 101) 11 rfl (by decide +kernel) (by decide) rfl rfl (fun G => w_loadR rfl (lk rfl rfl) rfl rfl rfl) ?_ | refine aqyp (g := 101) 11 rfl (by decide +kernel) (by decide) rfl rfl (fun G => w_loadR rfl (lk rfl rfl) rfl (zadd hr) rfl) ?_ | refine aqyp (g := 101) 11 rfl (by decide +kernel) (by decide) rfl rfl (fun G => w_loadR rfl (lk rfl rfl) rfl (zadd hr1) rfl) ?_ | refine aqyp (g := 101) 11 rfl (by decide +kernel) (by decide) rfl rfl (fun G => w_loadR rfl (lk rfl rfl) rfl (zadd hr2) rfl) ?_ | refine aqyp (g := 101) 11 rfl (by decide +kernel) (by decide) rfl rfl (fun G => w_loadRp rfl hr rfl) ?_ | refine aqyp (g := 101) 11 rfl (by decide +kernel) (by decide) rfl rfl (fun G => w_loadRp rfl hr1 rfl) ?_ | refine aqyp (g := 101) 11 rfl (by decide +kernel) (by decide) rfl rfl (fun G => w_loadRp rfl hr2 rfl) ?_ | refine aqyp (g := 101) 11 rfl (by decide +kernel) (by decide) rfl rfl (fun G => w_loadN (cs := [_, _, _, _, _, _, _]) rfl (lk rfl rfl) rfl rfl rfl rfl) ?_ | refine aqyp (g := 101) 11 rfl (by decide +kernel) (by decide) rfl rfl (fun G => o_loadNp (cs := [_, _, _, _, _, _, _]) rfl hr rfl rfl) ?_ | refine aqyp (g := 101) 11 rfl (by decide +kernel) (by decide) rfl rfl (fun G => o_loadNp (cs := [_, _, _, _, _, _, _]) rfl hr1 rfl rfl) ?_ | refine aqyp (g := 101) 11 rfl (by decide +kernel) (by decide) rfl rfl (fun G => o_loadNp (cs := [_, _, _, _, _, _, _]) rfl hr2 rfl rfl) ?_ | refine aqyp (g := 101) 11 rfl (by decide +kernel) (by decide) rfl rfl (fun G => w_loadR rfl (lkF hF) rfl rfl rfl) ?_ | refine aqyp (g := 101) 11 rfl (by decide +kernel) (by decide) rfl rfl (fun G => w_loadN (cs := [_, _, _, _, _, _, _]) rfl (lkF hF) rfl rfl rfl rfl) ?_
          first | refine aqyp (g := 101) 12 rfl (by decide +kernel) (by decide) rfl rfl (fun G => w_loadR rfl (lk rfl rfl) rfl rfl rfl) ?_ | refine aqyp (g := 101) 12 rfl (by decide +kernel) (by decide) rfl rfl (fun G => w_loadR rfl (lk rfl rfl) rfl (zadd hr) rfl) ?_ | refine aqyp (g := 101) 12 rfl (by decide +kernel) (by decide) rfl rfl (fun G => w_loadR rfl (lk rfl rfl) rfl (zadd hr1) rfl) ?_ | refine aqyp (g := 101) 12 rfl (by decide +kernel) (by decide) rfl rfl (fun G => w_loadR rfl (lk rfl rfl) rfl (zadd hr2) rfl) ?_ | refine aqyp (g := 101) 12 rfl (by decide +kernel) (by decide) rfl rfl (fun G => w_loadRp rfl hr rfl) ?_ | refine aqyp (g := 101) 12 rfl (by decide +kernel) (by decide) rfl rfl (fun G => w_loadRp rfl hr1 rfl) ?_ | refine aqyp (g := 101) 12 rfl (by decide +kernel) (by decide) rfl rfl (fun G => w_loadRp rfl hr2 rfl) ?_ | refine aqyp (g := 101) 12 rfl (by decide +kernel) (by decide) rfl rfl (fun G => w_loadN (cs := [_, _, _, _, _, _, _]) rfl (lk rfl rfl) rfl rfl rfl rfl) ?_ | refine aqyp (g := 101) 12 rfl (by decide +kernel) (by decide) rfl rfl (fun G => o_loadNp (cs := [_, _, _, _, _, _, _]) rfl hr rfl rfl) ?_ | refine aqyp (g := 101) 12 rfl (by decide +kernel) (by decide) rfl rfl (fun G => o_loadNp (cs := [_, _, _, _, _, _, _]) rfl hr1 rfl rfl) ?_ | refine aqyp (g := 101) 12 rfl (by decide +kernel) (by decide) rfl rfl (fun G => o_loadNp (cs := [_, _, _, _, _, _, _]) rfl hr2 rfl rfl) ?_ | refine aqyp (g := 101) 12 rfl (by decide +kernel) (by decide) rfl rfl (fun G => w_loadR rfl (lkF hF) rfl rfl rfl) ?_ | refine aqyp (g := 101) 12 rfl (by decide +kernel) (by decide) rfl rfl (fun G => w_loadN (cs := [_, _, _, _, _, _, _]) rfl (lkF hF) rfl rfl rfl rfl) ?_
          refine aqy02 (g := 101) 13 rfl (by decide +kernel) (by decide) rfl rfl (fun _ => V2.call (c8 _) rfl) ?_
          refine aqy0 (g := 101) 14 rfl (by decide +kernel) (by decide) rfl rfl (fun _ => o_beq rfl rfl) ?_
          first | refine aq0 15 rfl (by decide +kernel) (by decide) (fun _ => o_pick_t (v := .bool _) rfl rfl) ?_ | refine aq0 15 rfl (by decide +kernel) (by decide) (fun _ => o_pick_f (v := .bool _) rfl rfl) ?_ | refine aq0 15 rfl (by decide +kernel) (by decide) (fun _ => o_pick_b rfl rfl rfl) ?_
          refine aq0 16 rfl (by decide +kernel) (by decide) (fun _ => o_move (v := .bool _) rfl) ?_
          refine aq_split (g := 110) rfl (fun hg16 => ?_) (fun hg16 => ?_)
          · first | refine aqyp (g := 110) 17 rfl (by decide +kernel) (by decide) rfl rfl (fun G => w_loadR rfl (lk rfl rfl) rfl rfl rfl) ?_ | refine aqyp (g := 110) 17 rfl (by decide +kernel) (by decide) rfl rfl (fun G => w_loadR rfl (lk rfl rfl) rfl (zadd hr) rfl) ?_ | refine aqyp (g := 110) 17 rfl (by decide +kernel) (by decide) rfl rfl (fun G => w_loadR rfl (lk rfl rfl) rfl (zadd hr1) rfl) ?_ | refine aqyp (g := 110) 17 rfl (by decide +kernel) (by decide) rfl rfl (fun G => w_loadR rfl (lk rfl rfl) rfl (zadd hr2) rfl) ?_ | refine aqyp (g := 110) 17 rfl (by decide +kernel) (by decide) rfl rfl (fun G => w_loadRp rfl hr rfl) ?_ | refine aqyp (g := 110) 17 rfl (by decide +kernel) (by decide) rfl rfl (fun G => w_loadRp rfl hr1 rfl) ?_ | refine aqyp (g := 110) 17 rfl (by decide +kernel) (by decide) rfl rfl (fun G => w_loadRp rfl hr2 rfl) ?_ | refine aqyp (g := 110) 17 rfl (by decide +kernel) (by decide) rfl rfl (fun G => w_loadN (cs := [_, _, _, _, _, _, _]) rfl (lk rfl rfl) rfl rfl rfl rfl) ?_ | refine aqyp (g := 110) 17 rfl (by decide +kernel) (by decide) rfl rfl (fun G => o_loadNp (cs := [_, _, _, _, _, _, _]) rfl hr rfl rfl) ?_ | refine aqyp (g := 110) 17 rfl (by decide +kernel) (by decide) rfl rfl (fun G => o_loadNp (cs := [_, _, _, _, _, _, _]) rfl hr1 rfl rfl) ?_ | refine aqyp (g := 110) 17 rfl (by decide +kernel) (by decide) rfl rfl (fun G => o_loadNp (cs := [_, _, _, _, _, _, _]) rfl hr2 rfl rfl) ?_ | refine aqyp (g := 110) 17 rfl (by decide +kernel) (by decide) rfl rfl (fun G => w_loadR rfl (lkF hF) rfl rfl rfl) ?_ | refine aqyp (g := 110) 17 rfl (by decide +kernel) (by decide) rfl rfl (fun G => w_loadN (cs := [_, _, _, _, _, _, _]) rfl (lkF hF) rfl rfl rfl rfl) ?_
            first | refine aqyp (g := 110) 18 rfl (by decide +kernel) (by decide) rfl rfl (fun G => w_loadR rfl (lk rfl rfl) rfl rfl rfl) ?_ | refine aqyp (g := 110) 18 rfl (by decide +kernel) (by decide) rfl rfl (fun G => w_loadR rfl (lk rfl rfl) rfl (zadd hr) rfl) ?_ | refine aqyp (g := 110) 18 rfl (by decide +kernel) (by decide) rfl rfl (fun G => w_loadR rfl (lk rfl rfl) rfl (zadd hr1) rfl) ?_ | refine aqyp (g := 110) 18 rfl (by decide +kernel) (by decide) rfl rfl (fun G => w_loadR rfl (lk rfl rfl) rfl (zadd hr2) rfl) ?_ | refine aqyp (g := 110) 18 rfl (by decide +kernel) (by decide) rfl rfl (fun G => w_loadRp rfl hr rfl) ?_ | refine aqyp (g := 110) 18 rfl (by decide +kernel) (by decide) rfl rfl (fun G => w_loadRp rfl hr1 rfl) ?_ | refine aqyp (g := 110) 18 rfl (by decide +kernel) (by decide) rfl rfl (fun G => w_loadRp rfl hr2 rfl) ?_ | refine aqyp (g := 110) 18 rfl (by decide +kernel) (by decide) rfl rfl (fun G => w_loadN (cs := [_, _, _, _, _, _, _]) rfl (lk rfl rfl) rfl rfl rfl rfl) ?_ | refine aqyp (g := 110) 18 rfl (by decide +kernel) (by decide) rfl rfl (fun G => o_loadNp (cs := [_, _, _, _, _, _, _]) rfl hr rfl rfl) ?_ | refine aqyp (g := 110) 18 rfl (by decide +kernel) (by decide) rfl rfl (fun G => o_loadNp (cs := [_, _, _, _, _, _, _]) rfl hr1 rfl rfl) ?_ | refine aqyp (g := 110) 18 rfl (by decide +kernel) (by decide) rfl rfl (fun G => o_loadNp (cs := [_, _, _, _, _, _, _]) rfl hr2 rfl rfl) ?_ | refine aqyp (g := 110) 18 rfl (by decide +kernel) (by decide) rfl rfl (fun G => w_loadR rfl (lkF hF) rfl rfl rfl) ?_ | refine aqyp (g := 110) 18 rfl (by decide +kernel) (by decide) rfl rfl (fun G => w_loadN (cs := [_, _, _, _, _, _, _]) rfl (lkF hF) rfl rfl rfl rfl) ?_
            refine aqy0 (g := 110) 19 rfl (by decide +kernel) (by decide) rfl rfl (fun _ => o_eqAgg (us := uSpec spec0) (vs := uSpec spec0) rfl rfl rfl rfl (by kernel_rfl) (eqSpec_run spec0 spec0)) ?_
            first | refine aq0 20 rfl (by decide +kernel) (by decide) (fun _ => o_pick_t (v := .bool _) rfl rfl) ?_ | refine aq0 20 rfl (by decide +kernel) (by decide) (fun _ => o_pick_f (v := .bool _) rfl rfl) ?_ | refine aq0 20 rfl (by decide +kernel) (by decide) (fun _ => o_pick_b rfl rfl rfl) ?_
            refine aq0 21 rfl (by decide +kernel) (by decide) (fun _ => o_move (v := .bool _) rfl) ?_
            refine aq_split (g := 115) rfl (fun hg21 => ?_) (fun hg21 => ?_)
            · refine aqy0 (g := 115) 22 rfl (by decide +kernel) (by decide) rfl rfl (fun _ => o_move (v := .int _ _) rfl) ?_
              refine aqy0 (g := 115) 23 rfl (by decide +kernel) (by decide) rfl rfl (fun _ => o_move (v := .int _ _) rfl) ?_
              refine aqy0 (g := 115) 24 rfl (by decide +kernel) (by decide) rfl rfl (fun _ => o_eq rfl rfl) ?_
              first | refine aq0 25 rfl (by decide +kernel) (by decide) (fun _ => o_pick_t (v := .bool _) rfl rfl) ?_ | refine aq0 25 rfl (by decide +kernel) (by decide) (fun _ => o_pick_f (v := .bool _) rfl rfl) ?_ | refine aq0 25 rfl (by decide +kernel) (by decide) (fun _ => o_pick_b rfl rfl rfl) ?_
              refine aq0 26 rfl (by decide +kernel) (by decide) (fun _ => o_assign (v := .bool _) rfl) ?_
              exact aa_done (by decide +kernel) (by first | exact fun _ => trivial | exact fun _ => ⟨_, rfl⟩ | exact fun _ => ⟨_, rfl, rfl⟩ | exact yet_done (by decide +kernel)) (Out.mk (by first | rfl | (refine congrArg AV.bool ?_; first | (simp at *; done) | (simp_all; done))) (by repeat (first | exact SubX.refl _ _ | refine SubX.at ?_ | refine SubX.put rfl ?_ | refine SubX.put_same rfl ?_)))
            · refine aqn0 (g := 115) 22 rfl (by decide +kernel) (by decide) rfl rfl rfl ?_
              refine aqn0 (g := 115) 23 rfl (by decide +kernel) (by decide) rfl rfl rfl ?_
              refine aqn0 (g := 115) 24 rfl (by decide +kernel) (by decide) rfl rfl rfl ?_
              first | refine aq0 25 rfl (by decide +kernel) (by decide) (fun _ => o_pick_t (v := .bool _) rfl rfl) ?_ | refine aq0 25 rfl (by decide +kernel) (by decide) (fun _ => o_pick_f (v := .bool _) rfl rfl) ?_ | refine aq0 25 rfl (by decide +kernel) (by decide) (fun _ => o_pick_b rfl rfl rfl) ?_
              refine aq0 26 rfl (by decide +kernel) (by decide) (fun _ => o_assign (v := .bool _) rfl) ?_
              exact aa_done (by decide +kernel) (by first | exact fun _ => trivial | exact fun _ => ⟨_, rfl⟩ | exact fun _ => ⟨_, rfl, rfl⟩ | exact yet_done (by decide +kernel)) (Out.mk (by first | rfl | (refine congrArg AV.bool ?_; first | (simp at *; done) | (simp_all; done))) (by repeat (first | exact SubX.refl _ _ | refine SubX.at ?_ | refine SubX.put rfl ?_ | refine SubX.put_same rfl ?_)))
          · refine aqn0 (g := 110) 17 rfl (by decide +kernel) (by decide) rfl rfl rfl ?_
            refine aqn0 (g := 110) 18 rfl (by decide +kernel) (by decide) rfl rfl rfl ?_
            refine aqn0 (g := 110) 19 rfl (by decide +kernel) (by decide) rfl rfl rfl ?_
            first | refine aq0 20 rfl (by decide +kernel) (by decide) (fun _ => o_pick_t (v := .bool _) rfl rfl) ?_ | refine aq0 20 rfl (by decide +kernel) (by decide) (fun _ => o_pick_f (v := .bool _) rfl rfl) ?_ | refine aq0 20 rfl (by decide +kernel) (by decide) (fun _ => o_pick_b rfl rfl rfl) ?_
            refine aq0 21 rfl (by decide +kernel) (by decide) (fun _ => o_move (v := .bool _) rfl) ?_
            refine aqn0 (g := 115) 22 rfl (by decide +kernel) (by decide) rfl rfl rfl ?_
            refine aqn0 (g := 115) 23 rfl (by decide +kernel) (by decide) rfl rfl rfl ?_
            refine aqn0 (g := 115) 24 rfl (by decide +kernel) (by decide) rfl rfl rfl ?_
            first | refine aq0 25 rfl (by decide +kernel) (by decide) (fun _ => o_pick_t (v := .bool _) rfl rfl) ?_ | refine aq0 25 rfl (by decide +kernel) (by decide) (fun _ => o_pick_f (v := .bool _) rfl rfl) ?_ | refine aq0 25 rfl (by decide +kernel) (by decide) (fun _ => o_pick_b rfl rfl rfl) ?_
            refine aq0 26 rfl (by decide +kernel) (by decide) (fun _ => o_assign (v := .bool _) rfl) ?_
            exact aa_done (by decide +kernel) (by first | exact fun _ => trivial | exact fun _ => ⟨_, rfl⟩ | exact fun _ => ⟨_, rfl, rfl⟩ | exact yet_done (by decide +kernel)) (Out.mk (by first | rfl | (refine congrArg AV.bool ?_; first | (simp at *; done) | (simp_all; done))) (by repeat (first | exact SubX.refl _ _ | refine SubX.at ?_ | refine SubX.put rfl ?_ | refine SubX.put_same rfl ?_)))
        · refine aqn0 (g := 101) 8 rfl (by decide +kernel) (by decide) rfl rfl rfl ?_
          refine aqn0 (g := 101) 9 rfl (by decide +kernel) (by decide) rfl rfl rfl ?_
          refine aqn0 (g := 101) 10 rfl (by decide +kernel) (by decide) rfl rfl rfl ?_
          refine aqn0 (g := 101) 11 rfl (by decide +kernel) (by decide) rfl rfl rfl ?_
          refine aqn0 (g := 101) 12 rfl (by decide +kernel) (by decide) rfl rfl rfl ?_
          refine aqn0 (g := 101) 13 rfl (by decide +kernel) (by decide) rfl rfl rfl ?_
          refine aqn0 (g := 101) 14 rfl (by decide +kernel) (by decide) rfl rfl rfl ?_
          first | refine aq0 15 rfl (by decide +kernel) (by decide) (fun _ => o_pick_t (v := .bool _) rfl rfl) ?_ | refine aq0 15 rfl (by decide +kernel) (by decide) (fun _ => o_pick_f (v := .bool _) rfl rfl) ?_ | refine aq0 15 rfl (by decide +kernel) (by decide) (fun _ => o_pick_b rfl rfl rfl) ?_
          refine aq0 16 rfl (by decide +kernel) (by decide) (fun _ => o_move (v := .bool _) rfl) ?_
          refine aqn0 (g := 110) 17 rfl (by decide +kernel) (by decide) rfl rfl rfl ?_
          refine aqn0 (g := 110) 18 rfl (by decide +kernel) (by decide) rfl rfl rfl ?_
          refine aqn0 (g := 110) 19 rfl (by decide +kernel) (by decide) rfl rfl rfl ?_
          first | refine aq0 20 rfl (by decide +kernel) (by decide) (fun _ => o_pick_t (v := .bool _) rfl rfl) ?_ | refine aq0 20 rfl (by decide +kernel) (by decide) (fun _ => o_pick_f (v := .bool _) rfl rfl) ?_ | refine aq0 20 rfl (by decide +kernel) (by decide) (fun _ => o_pick_b rfl rfl rfl) ?_
          refine aq0 21 rfl (by decide +kernel) (by decide) (fun _ => o_move (v := .bool _) rfl) ?_
          refine aqn0 (g := 115) 22 rfl (by decide +kernel) (by decide) rfl rfl rfl ?_
          refine aqn0 (g := 115) 23 rfl (by decide +kernel) (by decide) rfl rfl rfl ?_
          refine aqn0 (g := 115) 24 rfl (by decide +kernel) (by decide) rfl rfl rfl ?_
          first | refine aq0 25 rfl (by decide +kernel) (by decide) (fun _ => o_pick_t (v := .bool _) rfl rfl) ?_ | refine aq0 25 rfl (by decide +kernel) (by decide) (fun _ => o_pick_f (v := .bool _) rfl rfl) ?_ | refine aq0 25 rfl (by decide +kernel) (by decide) (fun _ => o_pick_b rfl rfl rfl) ?_
          refine aq0 26 rfl (by decide +kernel) (by decide) (fun _ => o_assign (v := .bool _) rfl) ?_
          exact aa_done (by decide +kernel) (by first | exact fun _ => trivial | exact fun _ => ⟨_, rfl⟩ | exact fun _ => ⟨_, rfl, rfl⟩ | exact yet_done (by decide +kernel)) (Out.mk (by first | rfl | (refine congrArg AV.bool ?_; first | (simp at *; done) | (simp_all; done))) (by repeat (first | exact SubX.refl _ _ | refine SubX.at ?_ | refine SubX.put rfl ?_ | refine SubX.put_same rfl ?_)))
      repeat (first | refine join_ret ?_ | refine join_brk ?_ | refine then_nrm ?_ | refine blk_nrm ?_ | refine then_brk ?_ | refine blk_hit ?_ | refine blk_miss rfl ?_ | refine then_ret ?_ | refine blk_ret ?_ | refine aw_seq ?_ | refine aw_block ?_ | refine aw_skip ?_ | refine aw_exit ?_ | refine aw_scope ?_ | refine aw_ret ?_)
      exact e_done hB (r_tmp rfl .nil) rfl rfl
    · simp at hc
  | true =>
    have hf := sright_facts hs
    have m1 := mul_in (a := a.nodes) (b := a.cores) (by omega) (by omega)
    have m2 := mul_in (a := a.nodes) (b := a.gpus) (by omega) (by omega)
    have c4 := fun H => spec_Asks a H
    rw [show asks a = ⟨a.nodes, a.nodes * a.cores, a.nodes * a.gpus⟩ by simp [asks, hs]] at c4
    have c5 := fun H => spec_Right a H
    rw [hs] at c5
    repeat (first | refine join_ret ?_ | refine join_brk ?_ | refine then_nrm ?_ | refine blk_nrm ?_ | refine then_brk ?_ | refine blk_hit ?_ | refine blk_miss rfl ?_ | refine then_ret ?_ | refine blk_ret ?_ | refine aw_seq ?_ | refine aw_block ?_ | refine aw_skip ?_ | refine aw_exit ?_ | refine aw_scope ?_ | refine aw_ret ?_)
    refine aw_region ?_
    first | refine ao1 (by decide) (w_loadR rfl (lk rfl rfl) rfl rfl rfl) ?_ | refine ao1 (by decide) (w_loadR rfl (lk rfl rfl) rfl (zadd hr) rfl) ?_ | refine ao1 (by decide) (w_loadR rfl (lk rfl rfl) rfl (zadd hr1) rfl) ?_ | refine ao1 (by decide) (w_loadR rfl (lk rfl rfl) rfl (zadd hr2) rfl) ?_ | refine ao1 (by decide) (w_loadRp rfl hr rfl) ?_ | refine ao1 (by decide) (w_loadRp rfl hr1 rfl) ?_ | refine ao1 (by decide) (w_loadRp rfl hr2 rfl) ?_ | refine ao1 (by decide) (w_loadN (cs := [_, _, _, _, _, _, _]) rfl (lk rfl rfl) rfl rfl rfl rfl) ?_ | refine ao1 (by decide) (o_loadNp (cs := [_, _, _, _, _, _, _]) rfl hr rfl rfl) ?_ | refine ao1 (by decide) (o_loadNp (cs := [_, _, _, _, _, _, _]) rfl hr1 rfl rfl) ?_ | refine ao1 (by decide) (o_loadNp (cs := [_, _, _, _, _, _, _]) rfl hr2 rfl rfl) ?_ | refine ao1 (by decide) (w_loadR rfl (lkF hF) rfl rfl rfl) ?_ | refine ao1 (by decide) (w_loadN (cs := [_, _, _, _, _, _, _]) rfl (lkF hF) rfl rfl rfl rfl) ?_
    refine ao2 (by rintro _ ⟨⟩; decide) (V2.call (c4 _) rfl) ?_
    refine ao1 (by decide) (o_move (v := .tup _) rfl) ?_
    refine ao1 (by decide) (o_extract (v := .int _ _) rfl rfl) ?_
    refine ao1 (by decide) (o_extract (v := .int _ _) rfl rfl) ?_
    refine ao1 (by decide) (o_extract (v := .int _ _) rfl rfl) ?_
    refine ao1 (by decide) (o_assign (v := .int _ _) rfl) ?_
    refine ao1 (by decide) (o_assign (v := .int _ _) rfl) ?_
    refine ao1 (by decide) (o_assign (v := .int _ _) rfl) ?_
    refine ao_nil ?_
    try dsimp only [List.set_cons_zero, List.set_cons_succ, List.cons_append, List.nil_append, List.take_succ_cons, List.take_zero, List.drop_succ_cons, List.drop_zero, AV.cells, List.length_nil, List.length_cons, Av.put, Nat.reduceAdd, AV.up, AV.up1, List.map_cons, List.map_nil]
    repeat (first | refine join_ret ?_ | refine join_brk ?_ | refine then_nrm ?_ | refine blk_nrm ?_ | refine then_brk ?_ | refine blk_hit ?_ | refine blk_miss rfl ?_ | refine then_ret ?_ | refine blk_ret ?_ | refine aw_seq ?_ | refine aw_block ?_ | refine aw_skip ?_ | refine aw_exit ?_ | refine aw_scope ?_ | refine aw_ret ?_)
    refine aw_out 69 (.bool false) ?_ ?_
    · refine ao1 (by decide) (o_move (v := .bool _) rfl) ?_
      first | refine ao1 (by decide) (w_loadR rfl (lk rfl rfl) rfl rfl rfl) ?_ | refine ao1 (by decide) (w_loadR rfl (lk rfl rfl) rfl (zadd hr) rfl) ?_ | refine ao1 (by decide) (w_loadR rfl (lk rfl rfl) rfl (zadd hr1) rfl) ?_ | refine ao1 (by decide) (w_loadR rfl (lk rfl rfl) rfl (zadd hr2) rfl) ?_ | refine ao1 (by decide) (w_loadRp rfl hr rfl) ?_ | refine ao1 (by decide) (w_loadRp rfl hr1 rfl) ?_ | refine ao1 (by decide) (w_loadRp rfl hr2 rfl) ?_ | refine ao1 (by decide) (w_loadN (cs := [_, _, _, _, _, _, _]) rfl (lk rfl rfl) rfl rfl rfl rfl) ?_ | refine ao1 (by decide) (o_loadNp (cs := [_, _, _, _, _, _, _]) rfl hr rfl rfl) ?_ | refine ao1 (by decide) (o_loadNp (cs := [_, _, _, _, _, _, _]) rfl hr1 rfl rfl) ?_ | refine ao1 (by decide) (o_loadNp (cs := [_, _, _, _, _, _, _]) rfl hr2 rfl rfl) ?_ | refine ao1 (by decide) (w_loadR rfl (lkF hF) rfl rfl rfl) ?_ | refine ao1 (by decide) (w_loadN (cs := [_, _, _, _, _, _, _]) rfl (lkF hF) rfl rfl rfl rfl) ?_
      refine ao2 (by rintro _ ⟨⟩; decide) (V2.call (c5 _) rfl) ?_
      refine ao1 (by decide) (o_bne rfl rfl) ?_
      refine ao1 (by decide) (o_move (v := .bool _) rfl) ?_
      refine ao_split rfl rfl (fun hg4 => ?_) (fun hg4 => ?_)
      · refine ao_nF rfl rfl (by decide) ?_
        refine ao_nF rfl rfl (by decide) ?_
        refine ao_nU rfl rfl (by decide) ?_
        refine ao_nU rfl rfl (by decide) ?_
        refine ao_nU rfl rfl (by decide) ?_
        refine ao_nU rfl rfl (by decide) ?_
        refine ao_nU rfl rfl (by decide) ?_
        refine ao_nU rfl rfl (by decide) ?_
        refine ao_nU rfl rfl (by decide) ?_
        refine ao_nU rfl rfl (by decide) ?_
        refine ao_nU rfl rfl (by decide) ?_
        refine ao_nU rfl rfl (by decide) ?_
        refine ao_nU rfl rfl (by decide) ?_
        refine ao_nU rfl rfl (by decide) ?_
        refine ao_nU rfl rfl (by decide) ?_
        refine ao_nU rfl rfl (by decide) ?_
        refine ao_nU rfl rfl (by decide) ?_
        refine ao_nU rfl rfl (by decide) ?_
        refine ao_nU rfl rfl (by decide) ?_
        refine ao_nU rfl rfl (by decide) ?_
        refine ao_nU rfl rfl (by decide) ?_
        refine ao_nU rfl rfl (by decide) ?_
        refine ao_nU rfl rfl (by decide) ?_
        refine ao_nU rfl rfl (by decide) ?_
        refine ao_nF rfl rfl (by decide) ?_
        first | refine ao1 (by decide) (o_pick_t (v := .bool _) rfl rfl) ?_ | refine ao1 (by decide) (o_pick_f (v := .bool _) rfl rfl) ?_ | refine ao1 (by decide) (o_pick_b rfl rfl rfl) ?_
        refine ao1 (by decide) (o_move (v := .bool _) rfl) ?_
        refine ao_nF rfl rfl (by decide) ?_
        refine ao_nF rfl rfl (by decide) ?_
        refine ao_nF rfl rfl (by decide) ?_
        refine ao_nU rfl rfl (by decide) ?_
        refine ao_nU rfl rfl (by decide) ?_
        refine ao_nU rfl rfl (by decide) ?_
        refine ao_nU rfl rfl (by decide) ?_
        refine ao_nU rfl rfl (by decide) ?_
        refine ao_nU rfl rfl (by decide) ?_
        refine ao_nF rfl rfl (by decide) ?_
        first | refine ao1 (by decide) (o_pick_t (v := .bool _) rfl rfl) ?_ | refine ao1 (by decide) (o_pick_f (v := .bool _) rfl rfl) ?_ | refine ao1 (by decide) (o_pick_b rfl rfl rfl) ?_
        exact ao_nil (Out.mk (by first | rfl | (refine congrArg AV.bool ?_; first | (simp at *; done) | (simp_all; done))) (by repeat (first | exact SubX.refl _ _ | refine SubX.at ?_ | refine SubX.put rfl ?_ | refine SubX.put_same rfl ?_)))
      · refine ao_y1 rfl rfl (by decide) (o_move (v := .bool _) rfl) ?_
        refine ao_y1 rfl rfl (by decide) (o_move (v := .bool _) rfl) ?_
        refine ao_split rfl rfl (fun hg6 => ?_) (fun hg6 => ?_)
        · refine ao_y1 rfl rfl (by decide) (o_move (v := .int _ _) rfl) ?_
          first | refine ao_y1 rfl rfl (by decide) (w_fieldAddr rfl (lk rfl rfl) rfl (by decide)) ?_ | refine ao_y1 rfl rfl (by decide) (w_fieldAddrp rfl (by decide)) ?_ | refine ao_y1 rfl rfl (by decide) (w_fieldAddr rfl (lkF hF) rfl (by decide)) ?_
          first | refine ao_y1 rfl rfl (by decide) (w_load1 (v := .int _ _) rfl (lk rfl rfl) rfl rfl rfl) ?_ | refine ao_y1 rfl rfl (by decide) (w_load1 (v := .int _ _) rfl (lk rfl rfl) rfl (zadd hr) rfl) ?_ | refine ao_y1 rfl rfl (by decide) (w_load1 (v := .int _ _) rfl (lk rfl rfl) rfl (zadd hr1) rfl) ?_ | refine ao_y1 rfl rfl (by decide) (w_load1 (v := .int _ _) rfl (lk rfl rfl) rfl (zadd hr2) rfl) ?_ | refine ao_y1 rfl rfl (by decide) (o_load1p (v := .int _ _) rfl hr rfl) ?_ | refine ao_y1 rfl rfl (by decide) (o_load1p (v := .int _ _) rfl hr1 rfl) ?_ | refine ao_y1 rfl rfl (by decide) (o_load1p (v := .int _ _) rfl hr2 rfl) ?_ | refine ao_y1 rfl rfl (by decide) (w_load1 (v := .int _ _) rfl (lkF hF) rfl rfl rfl) ?_
          refine ao_y1 rfl rfl (by decide) (o_ne rfl rfl) ?_
          refine ao_y1 rfl rfl (by decide) (o_move (v := .bool _) rfl) ?_
          refine ao_split rfl rfl (fun hg11 => ?_) (fun hg11 => ?_)
          · refine ao_nF rfl rfl (by decide) ?_
            refine ao_nF rfl rfl (by decide) ?_
            refine ao_nF rfl rfl (by decide) ?_
            refine ao_nF rfl rfl (by decide) ?_
            refine ao_nF rfl rfl (by decide) ?_
            refine ao_nF rfl rfl (by decide) ?_
            refine ao_nF rfl rfl (by decide) ?_
            first | refine ao_y1 rfl rfl (by decide) (o_pick_t (v := .bool _) rfl rfl) ?_ | refine ao_y1 rfl rfl (by decide) (o_pick_f (v := .bool _) rfl rfl) ?_ | refine ao_y1 rfl rfl (by decide) (o_pick_b rfl rfl rfl) ?_
            refine ao_y1 rfl rfl (by decide) (o_move (v := .bool _) rfl) ?_
            refine ao_nF rfl rfl (by decide) ?_
            refine ao_nF rfl rfl (by decide) ?_
            refine ao_nF rfl rfl (by decide) ?_
            refine ao_nF rfl rfl (by decide) ?_
            refine ao_nF rfl rfl (by decide) ?_
            refine ao_nF rfl rfl (by decide) ?_
            refine ao_nF rfl rfl (by decide) ?_
            first | refine ao_y1 rfl rfl (by decide) (o_pick_t (v := .bool _) rfl rfl) ?_ | refine ao_y1 rfl rfl (by decide) (o_pick_f (v := .bool _) rfl rfl) ?_ | refine ao_y1 rfl rfl (by decide) (o_pick_b rfl rfl rfl) ?_
            first | refine ao_y1 rfl rfl (by decide) (o_pick_t (v := .bool _) rfl rfl) ?_ | refine ao_y1 rfl rfl (by decide) (o_pick_f (v := .bool _) rfl rfl) ?_ | refine ao_y1 rfl rfl (by decide) (o_pick_b rfl rfl rfl) ?_
            first | refine ao1 (by decide) (o_pick_t (v := .bool _) rfl rfl) ?_ | refine ao1 (by decide) (o_pick_f (v := .bool _) rfl rfl) ?_ | refine ao1 (by decide) (o_pick_b rfl rfl rfl) ?_
            refine ao1 (by decide) (o_move (v := .bool _) rfl) ?_
            refine ao_nF rfl rfl (by decide) ?_
            refine ao_nF rfl rfl (by decide) ?_
            refine ao_nF rfl rfl (by decide) ?_
            refine ao_nU rfl rfl (by decide) ?_
            refine ao_nU rfl rfl (by decide) ?_
            refine ao_nU rfl rfl (by decide) ?_
            refine ao_nU rfl rfl (by decide) ?_
            refine ao_nU rfl rfl (by decide) ?_
            refine ao_nU rfl rfl (by decide) ?_
            refine ao_nF rfl rfl (by decide) ?_
            first | refine ao1 (by decide) (o_pick_t (v := .bool _) rfl rfl) ?_ | refine ao1 (by decide) (o_pick_f (v := .bool _) rfl rfl) ?_ | refine ao1 (by decide) (o_pick_b rfl rfl rfl) ?_
            exact ao_nil (Out.mk (by first | rfl | (refine congrArg AV.bool ?_; first | (simp at *; done) | (simp_all; done))) (by repeat (first | exact SubX.refl _ _ | refine SubX.at ?_ | refine SubX.put rfl ?_ | refine SubX.put_same rfl ?_)))
          · refine ao_y1 rfl rfl (by decide) (o_move (v := .int _ _) rfl) ?_
            first | refine ao_y1 rfl rfl (by decide) (w_fieldAddr rfl (lk rfl rfl) rfl (by decide)) ?_ | refine ao_y1 rfl rfl (by decide) (w_fieldAddrp rfl (by decide)) ?_ | refine ao_y1 rfl rfl (by decide) (w_fieldAddr rfl (lkF hF) rfl (by decide)) ?_
            first | refine ao_y1 rfl rfl (by decide) (w_load1 (v := .int _ _) rfl (lk rfl rfl) rfl rfl rfl) ?_ | refine ao_y1 rfl rfl (by decide) (w_load1 (v := .int _ _) rfl (lk rfl rfl) rfl (zadd hr) rfl) ?_ | refine ao_y1 rfl rfl (by decide) (w_load1 (v := .int _ _) rfl (lk rfl rfl) rfl (zadd hr1) rfl) ?_ | refine ao_y1 rfl rfl (by decide) (w_load1 (v := .int _ _) rfl (lk rfl rfl) rfl (zadd hr2) rfl) ?_ | refine ao_y1 rfl rfl (by decide) (o_load1p (v := .int _ _) rfl hr rfl) ?_ | refine ao_y1 rfl rfl (by decide) (o_load1p (v := .int _ _) rfl hr1 rfl) ?_ | refine ao_y1 rfl rfl (by decide) (o_load1p (v := .int _ _) rfl hr2 rfl) ?_ | refine ao_y1 rfl rfl (by decide) (w_load1 (v := .int _ _) rfl (lkF hF) rfl rfl rfl) ?_
            first | refine ao_y1 rfl rfl (by decide) (w_fieldAddr rfl (lk rfl rfl) rfl (by decide)) ?_ | refine ao_y1 rfl rfl (by decide) (w_fieldAddrp rfl (by decide)) ?_ | refine ao_y1 rfl rfl (by decide) (w_fieldAddr rfl (lkF hF) rfl (by decide)) ?_
            first | refine ao_y1 rfl rfl (by decide) (w_load1 (v := .int _ _) rfl (lk rfl rfl) rfl rfl rfl) ?_ | refine ao_y1 rfl rfl (by decide) (w_load1 (v := .int _ _) rfl (lk rfl rfl) rfl (zadd hr) rfl) ?_ | refine ao_y1 rfl rfl (by decide) (w_load1 (v := .int _ _) rfl (lk rfl rfl) rfl (zadd hr1) rfl) ?_ | refine ao_y1 rfl rfl (by decide) (w_load1 (v := .int _ _) rfl (lk rfl rfl) rfl (zadd hr2) rfl) ?_ | refine ao_y1 rfl rfl (by decide) (o_load1p (v := .int _ _) rfl hr rfl) ?_ | refine ao_y1 rfl rfl (by decide) (o_load1p (v := .int _ _) rfl hr1 rfl) ?_ | refine ao_y1 rfl rfl (by decide) (o_load1p (v := .int _ _) rfl hr2 rfl) ?_ | refine ao_y1 rfl rfl (by decide) (w_load1 (v := .int _ _) rfl (lkF hF) rfl rfl rfl) ?_
            first | refine ao_y1 rfl rfl (by decide) (o_mul rfl rfl (wrap64_ok (by omega) (by omega))) ?_ | refine ao_y1 rfl rfl (by decide) (o_mul rfl rfl rfl) ?_
            refine ao_y1 rfl rfl (by decide) (o_ne rfl rfl) ?_
            first | refine ao_y1 rfl rfl (by decide) (o_pick_t (v := .bool _) rfl rfl) ?_ | refine ao_y1 rfl rfl (by decide) (o_pick_f (v := .bool _) rfl rfl) ?_ | refine ao_y1 rfl rfl (by decide) (o_pick_b rfl rfl rfl) ?_
            refine ao_y1 rfl rfl (by decide) (o_move (v := .bool _) rfl) ?_
            refine ao_split rfl rfl (fun hg20 => ?_) (fun hg20 => ?_)
            · refine ao_nF rfl rfl (by decide) ?_
              refine ao_nF rfl rfl (by decide) ?_
              refine ao_nF rfl rfl (by decide) ?_
              refine ao_nF rfl rfl (by decide) ?_
              refine ao_nF rfl rfl (by decide) ?_
              refine ao_nF rfl rfl (by decide) ?_
              refine ao_nF rfl rfl (by decide) ?_
              first | refine ao_y1 rfl rfl (by decide) (o_pick_t (v := .bool _) rfl rfl) ?_ | refine ao_y1 rfl rfl (by decide) (o_pick_f (v := .bool _) rfl rfl) ?_ | refine ao_y1 rfl rfl (by decide) (o_pick_b rfl rfl rfl) ?_
              first | refine ao_y1 rfl rfl (by decide) (o_pick_t (v := .bool _) rfl rfl) ?_ | refine ao_y1 rfl rfl (by decide) (o_pick_f (v := .bool _) rfl rfl) ?_ | refine ao_y1 rfl rfl (by decide) (o_pick_b rfl rfl rfl) ?_
              first | refine ao1 (by decide) (o_pick_t (v := .bool _) rfl rfl) ?_ | refine ao1 (by decide) (o_pick_f (v := .bool _) rfl rfl) ?_ | refine ao1 (by decide) (o_pick_b rfl rfl rfl) ?_
              refine ao1 (by decide) (o_move (v := .bool _) rfl) ?_
              refine ao_nF rfl rfl (by decide) ?_
              refine ao_nF rfl rfl (by decide) ?_
              refine ao_nF rfl rfl (by decide) ?_
              refine ao_nU rfl rfl (by decide) ?_
              refine ao_nU rfl rfl (by decide) ?_
              refine ao_nU rfl rfl (by decide) ?_
              refine ao_nU rfl rfl (by decide) ?_
              refine ao_nU rfl rfl (by decide) ?_
              refine ao_nU rfl rfl (by decide) ?_
              refine ao_nF rfl rfl (by decide) ?_
              first | refine ao1 (by decide) (o_pick_t (v := .bool _) rfl rfl) ?_ | refine ao1 (by decide) (o_pick_f (v := .bool _) rfl rfl) ?_ | refine ao1 (by decide) (o_pick_b rfl rfl rfl) ?_
              exact ao_nil (Out.mk (by first | rfl | (refine congrArg AV.bool ?_; first | (simp at *; done) | (simp_all; done))) (by repeat (first | exact SubX.refl _ _ | refine SubX.at ?_ | refine SubX.put rfl ?_ | refine SubX.put_same rfl ?_)))
            · refine ao_y1 rfl rfl (by decide) (o_move (v := .int _ _) rfl) ?_
              first | refine ao_y1 rfl rfl (by decide) (w_fieldAddr rfl (lk rfl rfl) rfl (by decide)) ?_ | refine ao_y1 rfl rfl (by decide) (w_fieldAddrp rfl (by decide)) ?_ | refine ao_y1 rfl rfl (by decide) (w_fieldAddr rfl (lkF hF) rfl (by decide)) ?_
              first | refine ao_y1 rfl rfl (by decide) (w_load1 (v := .int _ _) rfl (lk rfl rfl) rfl rfl rfl) ?_ | refine ao_y1 rfl rfl (by decide) (w_load1 (v := .int _ _) rfl (lk rfl rfl) rfl (zadd hr) rfl) ?_ | refine ao_y1 rfl rfl (by decide) (w_load1 (v := .int _ _) rfl (lk rfl rfl) rfl (zadd hr1) rfl) ?_ | refine ao_y1 rfl rfl (by decide) (w_load1 (v := .int _ _) rfl (lk rfl rfl) rfl (zadd hr2) rfl) ?_ | refine ao_y1 rfl rfl (by decide) (o_load1p (v := .int _ _) rfl hr rfl) ?_ | refine ao_y1 rfl rfl (by decide) (o_load1p (v := .int _ _) rfl hr1 rfl) ?_ | refine ao_y1 rfl rfl (by decide) (o_load1p (v := .int _ _) rfl hr2 rfl) ?_ | refine ao_y1 rfl rfl (by decide) (w_load1 (v := .int _ _) rfl (lkF hF) rfl rfl rfl) ?_
              first | refine ao_y1 rfl rfl (by decide) (w_fieldAddr rfl (lk rfl rfl) rfl (by decide)) ?_ | refine ao_y1 rfl rfl (by decide) (w_fieldAddrp rfl (by decide)) ?_ | refine ao_y1 rfl rfl (by decide) (w_fieldAddr rfl (lkF hF) rfl (by decide)) ?_
              first | refine ao_y1 rfl rfl (by decide) (w_load1 (v := .int _ _) rfl (lk rfl rfl) rfl rfl rfl) ?_ | refine ao_y1 rfl rfl (by decide) (w_load1 (v := .int _ _) rfl (lk rfl rfl) rfl (zadd hr) rfl) ?_ | refine ao_y1 rfl rfl (by decide) (w_load1 (v := .int _ _) rfl (lk rfl rfl) rfl (zadd hr1) rfl) ?_ | refine ao_y1 rfl rfl (by decide) (w_load1 (v := .int _ _) rfl (lk rfl rfl) rfl (zadd hr2) rfl) ?_ | refine ao_y1 rfl rfl (by decide) (o_load1p (v := .int _ _) rfl hr rfl) ?_ | refine ao_y1 rfl rfl (by decide) (o_load1p (v := .int _ _) rfl hr1 rfl) ?_ | refine ao_y1 rfl rfl (by decide) (o_load1p (v := .int _ _) rfl hr2 rfl) ?_ | refine ao_y1 rfl rfl (by decide) (w_load1 (v := .int _ _) rfl (lkF hF) rfl rfl rfl) ?_
              first | refine ao_y1 rfl rfl (by decide) (o_mul rfl rfl (wrap64_ok (by omega) (by omega))) ?_ | refine ao_y1 rfl rfl (by decide) (o_mul rfl rfl rfl) ?_
              refine ao_y1 rfl rfl (by decide) (o_ne rfl rfl) ?_
              first | refine ao_y1 rfl rfl (by decide) (o_pick_t (v := .bool _) rfl rfl) ?_ | refine ao_y1 rfl rfl (by decide) (o_pick_f (v := .bool _) rfl rfl) ?_ | refine ao_y1 rfl rfl (by decide) (o_pick_b rfl rfl rfl) ?_
              first | refine ao_y1 rfl rfl (by decide) (o_pick_t (v := .bool _) rfl rfl) ?_ | refine ao_y1 rfl rfl (by decide) (o_pick_f (v := .bool _) rfl rfl) ?_ | refine ao_y1 rfl rfl (by decide) (o_pick_b rfl rfl rfl) ?_
              first | refine ao1 (by decide) (o_pick_t (v := .bool _) rfl rfl) ?_ | refine ao1 (by decide) (o_pick_f (v := .bool _) rfl rfl) ?_ | refine ao1 (by decide) (o_pick_b rfl rfl rfl) ?_
              refine ao1 (by decide) (o_move (v := .bool _) rfl) ?_
              refine ao_split rfl rfl (fun hg31 => ?_) (fun hg31 => ?_)
              · refine ao_nF rfl rfl (by decide) ?_
                refine ao_nF rfl rfl (by decide) ?_
                refine ao_nF rfl rfl (by decide) ?_
                refine ao_nU rfl rfl (by decide) ?_
                refine ao_nU rfl rfl (by decide) ?_
                refine ao_nU rfl rfl (by decide) ?_
                refine ao_nU rfl rfl (by decide) ?_
                refine ao_nU rfl rfl (by decide) ?_
                refine ao_nU rfl rfl (by decide) ?_
                refine ao_nF rfl rfl (by decide) ?_
                first | refine ao1 (by decide) (o_pick_t (v := .bool _) rfl rfl) ?_ | refine ao1 (by decide) (o_pick_f (v := .bool _) rfl rfl) ?_ | refine ao1 (by decide) (o_pick_b rfl rfl rfl) ?_
                exact ao_nil (Out.mk (by first | rfl | (refine congrArg AV.bool ?_; first | (simp at *; done) | (simp_all; done))) (by repeat (first | exact SubX.refl _ _ | refine SubX.at ?_ | refine SubX.put rfl ?_ | refine SubX.put_same rfl ?_)))
              · refine ao_y1 rfl rfl (by decide) (o_move (v := .bool _) rfl) ?_
                refine ao_y1 rfl rfl (by decide) (o_not rfl) ?_
                refine ao_y1 rfl rfl (by decide) (o_move (v := .bool _) rfl) ?_
                refine ao_split rfl rfl (fun hg34 => ?_) (fun hg34 => ?_)
                · refine ao_y1 rfl rfl (by decide) (o_move (v := .int _ _) rfl) ?_
                  refine ao_y1 rfl rfl (by decide) (o_move (v := .int _ _) rfl) ?_
                  first | refine ao_y1 rfl rfl (by decide) (o_add rfl rfl (wrap64_ok (by omega) (by omega))) ?_ | refine ao_y1 rfl rfl (by decide) (o_add rfl rfl rfl) ?_
                  refine ao_y1 rfl rfl (by decide) (o_move (v := .int _ _) rfl) ?_
                  first | refine ao_y1 rfl rfl (by decide) (o_add rfl rfl (wrap64_ok (by omega) (by omega))) ?_ | refine ao_y1 rfl rfl (by decide) (o_add rfl rfl rfl) ?_
                  refine ao_y1 rfl rfl (by decide) (o_ne rfl rfl) ?_
                  first | refine ao_y1 rfl rfl (by decide) (o_pick_t (v := .bool _) rfl rfl) ?_ | refine ao_y1 rfl rfl (by decide) (o_pick_f (v := .bool _) rfl rfl) ?_ | refine ao_y1 rfl rfl (by decide) (o_pick_b rfl rfl rfl) ?_
                  first | refine ao1 (by decide) (o_pick_t (v := .bool _) rfl rfl) ?_ | refine ao1 (by decide) (o_pick_f (v := .bool _) rfl rfl) ?_ | refine ao1 (by decide) (o_pick_b rfl rfl rfl) ?_
                  exact ao_nil (Out.mk (by first | rfl | (refine congrArg AV.bool ?_; first | (simp at *; done) | (simp_all; done))) (by repeat (first | exact SubX.refl _ _ | refine SubX.at ?_ | refine SubX.put rfl ?_ | refine SubX.put_same rfl ?_)))
                · refine ao_nT rfl rfl (by decide) ?_
                  refine ao_nT rfl rfl (by decide) ?_
                  refine ao_nT rfl rfl (by decide) ?_
                  refine ao_nT rfl rfl (by decide) ?_
                  refine ao_nT rfl rfl (by decide) ?_
                  refine ao_nT rfl rfl (by decide) ?_
                  first | refine ao_y1 rfl rfl (by decide) (o_pick_t (v := .bool _) rfl rfl) ?_ | refine ao_y1 rfl rfl (by decide) (o_pick_f (v := .bool _) rfl rfl) ?_ | refine ao_y1 rfl rfl (by decide) (o_pick_b rfl rfl rfl) ?_
                  first | refine ao1 (by decide) (o_pick_t (v := .bool _) rfl rfl) ?_ | refine ao1 (by decide) (o_pick_f (v := .bool _) rfl rfl) ?_ | refine ao1 (by decide) (o_pick_b rfl rfl rfl) ?_
                  exact ao_nil (Out.mk (by first | rfl | (refine congrArg AV.bool ?_; first | (simp at *; done) | (simp_all; done))) (by repeat (first | exact SubX.refl _ _ | refine SubX.at ?_ | refine SubX.put rfl ?_ | refine SubX.put_same rfl ?_)))
        · refine ao_nT rfl rfl (by decide) ?_
          refine ao_nT rfl rfl (by decide) ?_
          refine ao_nT rfl rfl (by decide) ?_
          refine ao_nT rfl rfl (by decide) ?_
          refine ao_nT rfl rfl (by decide) ?_
          refine ao_nU rfl rfl (by decide) ?_
          refine ao_nU rfl rfl (by decide) ?_
          refine ao_nU rfl rfl (by decide) ?_
          refine ao_nU rfl rfl (by decide) ?_
          refine ao_nU rfl rfl (by decide) ?_
          refine ao_nU rfl rfl (by decide) ?_
          refine ao_nU rfl rfl (by decide) ?_
          refine ao_nT rfl rfl (by decide) ?_
          refine ao_nT rfl rfl (by decide) ?_
          refine ao_nU rfl rfl (by decide) ?_
          refine ao_nU rfl rfl (by decide) ?_
          refine ao_nU rfl rfl (by decide) ?_
          refine ao_nU rfl rfl (by decide) ?_
          refine ao_nU rfl rfl (by decide) ?_
          refine ao_nU rfl rfl (by decide) ?_
          refine ao_nU rfl rfl (by decide) ?_
          refine ao_nT rfl rfl (by decide) ?_
          first | refine ao_y1 rfl rfl (by decide) (o_pick_t (v := .bool _) rfl rfl) ?_ | refine ao_y1 rfl rfl (by decide) (o_pick_f (v := .bool _) rfl rfl) ?_ | refine ao_y1 rfl rfl (by decide) (o_pick_b rfl rfl rfl) ?_
          first | refine ao1 (by decide) (o_pick_t (v := .bool _) rfl rfl) ?_ | refine ao1 (by decide) (o_pick_f (v := .bool _) rfl rfl) ?_ | refine ao1 (by decide) (o_pick_b rfl rfl rfl) ?_
          refine ao1 (by decide) (o_move (v := .bool _) rfl) ?_
          refine ao_y1 rfl rfl (by decide) (o_move (v := .bool _) rfl) ?_
          refine ao_y1 rfl rfl (by decide) (o_not rfl) ?_
          refine ao_y1 rfl rfl (by decide) (o_move (v := .bool _) rfl) ?_
          refine ao_split rfl rfl (fun hg34 => ?_) (fun hg34 => ?_)
          · refine ao_y1 rfl rfl (by decide) (o_move (v := .int _ _) rfl) ?_
            refine ao_y1 rfl rfl (by decide) (o_move (v := .int _ _) rfl) ?_
            first | refine ao_y1 rfl rfl (by decide) (o_add rfl rfl (wrap64_ok (by omega) (by omega))) ?_ | refine ao_y1 rfl rfl (by decide) (o_add rfl rfl rfl) ?_
            refine ao_y1 rfl rfl (by decide) (o_move (v := .int _ _) rfl) ?_
            first | refine ao_y1 rfl rfl (by decide) (o_add rfl rfl (wrap64_ok (by omega) (by omega))) ?_ | refine ao_y1 rfl rfl (by decide) (o_add rfl rfl rfl) ?_
            refine ao_y1 rfl rfl (by decide) (o_ne rfl rfl) ?_
            first | refine ao_y1 rfl rfl (by decide) (o_pick_t (v := .bool _) rfl rfl) ?_ | refine ao_y1 rfl rfl (by decide) (o_pick_f (v := .bool _) rfl rfl) ?_ | refine ao_y1 rfl rfl (by decide) (o_pick_b rfl rfl rfl) ?_
            first | refine ao1 (by decide) (o_pick_t (v := .bool _) rfl rfl) ?_ | refine ao1 (by decide) (o_pick_f (v := .bool _) rfl rfl) ?_ | refine ao1 (by decide) (o_pick_b rfl rfl rfl) ?_
            exact ao_nil (Out.mk (by first | rfl | (refine congrArg AV.bool ?_; first | (simp at *; done) | (simp_all; done))) (by repeat (first | exact SubX.refl _ _ | refine SubX.at ?_ | refine SubX.put rfl ?_ | refine SubX.put_same rfl ?_)))
          · refine ao_nT rfl rfl (by decide) ?_
            refine ao_nT rfl rfl (by decide) ?_
            refine ao_nT rfl rfl (by decide) ?_
            refine ao_nT rfl rfl (by decide) ?_
            refine ao_nT rfl rfl (by decide) ?_
            refine ao_nT rfl rfl (by decide) ?_
            first | refine ao_y1 rfl rfl (by decide) (o_pick_t (v := .bool _) rfl rfl) ?_ | refine ao_y1 rfl rfl (by decide) (o_pick_f (v := .bool _) rfl rfl) ?_ | refine ao_y1 rfl rfl (by decide) (o_pick_b rfl rfl rfl) ?_
            first | refine ao1 (by decide) (o_pick_t (v := .bool _) rfl rfl) ?_ | refine ao1 (by decide) (o_pick_f (v := .bool _) rfl rfl) ?_ | refine ao1 (by decide) (o_pick_b rfl rfl rfl) ?_
            exact ao_nil (Out.mk (by first | rfl | (refine congrArg AV.bool ?_; first | (simp at *; done) | (simp_all; done))) (by repeat (first | exact SubX.refl _ _ | refine SubX.at ?_ | refine SubX.put rfl ?_ | refine SubX.put_same rfl ?_)))
    repeat (first | refine join_ret ?_ | refine join_brk ?_ | refine then_nrm ?_ | refine blk_nrm ?_ | refine then_brk ?_ | refine blk_hit ?_ | refine blk_miss rfl ?_ | refine then_ret ?_ | refine blk_ret ?_ | refine aw_seq ?_ | refine aw_block ?_ | refine aw_skip ?_ | refine aw_exit ?_ | refine aw_scope ?_ | refine aw_ret ?_)
    refine aw_cond rfl (fun hc => ?_) (fun hc => ?_)
    · simp at hc
    rcases sPart_cases a n with ⟨h1, h2⟩ | ⟨h1, h2, h3⟩ | ⟨h1, h2, h3⟩
    · have hn : n < 0 := by simpa [hs] using h1
      rw [h2] at c7
      repeat (first | refine join_ret ?_ | refine join_brk ?_ | refine then_nrm ?_ | refine blk_nrm ?_ | refine then_brk ?_ | refine blk_hit ?_ | refine blk_miss rfl ?_ | refine then_ret ?_ | refine blk_ret ?_ | refine aw_seq ?_ | refine aw_block ?_ | refine aw_skip ?_ | refine aw_exit ?_ | refine aw_scope ?_ | refine aw_ret ?_)
      refine aw_region ?_
      first | refine ao1 (by decide) (w_loadR rfl (lk rfl rfl) rfl rfl rfl) ?_ | refine ao1 (by decide) (w_loadR rfl (lk rfl rfl) rfl (zadd hr) rfl) ?_ | refine ao1 (by decide) (w_loadR rfl (lk rfl rfl) rfl (zadd hr1) rfl) ?_ | refine ao1 (by decide) (w_loadR rfl (lk rfl rfl) rfl (zadd hr2) rfl) ?_ | refine ao1 (by decide) (w_loadRp rfl hr rfl) ?_ | refine ao1 (by decide) (w_loadRp rfl hr1 rfl) ?_ | refine ao1 (by decide) (w_loadRp rfl hr2 rfl) ?_ | refine ao1 (by decide) (w_loadN (cs := [_, _, _, _, _, _, _]) rfl (lk rfl rfl) rfl rfl rfl rfl) ?_ | refine ao1 (by decide) (o_loadNp (cs := [_, _, _, _, _, _, _]) rfl hr rfl rfl) ?_ | refine ao1 (by decide) (o_loadNp (cs := [_, _, _, _, _, _, _]) rfl hr1 rfl rfl) ?_ | refine ao1 (by decide) (o_loadNp (cs := [_, _, _, _, _, _, _]) rfl hr2 rfl rfl) ?_ | refine ao1 (by decide) (w_loadR rfl (lkF hF) rfl rfl rfl) ?_ | refine ao1 (by decide) (w_loadN (cs := [_, _, _, _, _, _, _]) rfl (lkF hF) rfl rfl rfl rfl) ?_
      refine ao1 (by decide) (o_move (v := .int _ _) rfl) ?_
      refine ao2 (by rintro _ ⟨⟩; decide) (V2.call (c7 _) rfl) ?_
      refine ao1 (by decide) (o_move (v := .tup _) rfl) ?_
      refine ao1 (by decide) (o_extract (v := .agg _) rfl rfl) ?_
      refine ao1 (by decide) (o_extract (v := .int _ _) rfl rfl) ?_
      refine ao2 (by rintro _ ⟨⟩; decide) (o_allocL (sz := 7) rfl (by decide) rfl) ?_
      first | refine ao2 (by rintro _ ⟨⟩) (w_storeW (sz := 7) rfl rfl rfl rfl rfl rfl rfl rfl (Nat.le_of_ble_eq_true rfl)) ?_ | refine ao2 (by rintro _ ⟨⟩) (w_storeFP (sz := 7) (v := .agg _) (r' := [_, _, _, _, _, _, _]) rfl hF rfl rfl rfl rfl rfl (Nat.le_of_ble_eq_true rfl) rfl) ?_ | refine ao2 (by rintro _ ⟨⟩) (w_storeFP (sz := 7) (v := .agg _) (r' := [_, _, _, _, _, _, _]) rfl hF1 rfl rfl rfl rfl rfl (Nat.le_of_ble_eq_true rfl) rfl) ?_
      refine ao1 (by decide) (o_assign (v := .int _ _) rfl) ?_
      refine ao_nil ?_
      try dsimp only [List.set_cons_zero, List.set_cons_succ, List.cons_append, List.nil_append, List.take_succ_cons, List.take_zero, List.drop_succ_cons, List.drop_zero, AV.cells, List.length_nil, List.length_cons, Av.put, Nat.reduceAdd, AV.up, AV.up1, List.map_cons, List.map_nil]
      repeat (first | refine join_ret ?_ | refine join_brk ?_ | refine then_nrm ?_ | refine blk_nrm ?_ | refine then_brk ?_ | refine blk_hit ?_ | refine blk_miss rfl ?_ | refine then_ret ?_ | refine blk_ret ?_ | refine aw_seq ?_ | refine aw_block ?_ | refine aw_skip ?_ | refine aw_exit ?_ | refine aw_scope ?_ | refine aw_ret ?_)
      refine aw_region ?_
      first | refine ao1 (by decide) (w_loadR rfl (lk rfl rfl) rfl rfl rfl) ?_ | refine ao1 (by decide) (w_loadR rfl (lk rfl rfl) rfl (zadd hr) rfl) ?_ | refine ao1 (by decide) (w_loadR rfl (lk rfl rfl) rfl (zadd hr1) rfl) ?_ | refine ao1 (by decide) (w_loadR rfl (lk rfl rfl) rfl (zadd hr2) rfl) ?_ | refine ao1 (by decide) (w_loadRp rfl hr rfl) ?_ | refine ao1 (by decide) (w_loadRp rfl hr1 rfl) ?_ | refine ao1 (by decide) (w_loadRp rfl hr2 rfl) ?_ | refine ao1 (by decide) (w_loadN (cs := [_, _, _, _, _, _, _]) rfl (lk rfl rfl) rfl rfl rfl rfl) ?_ | refine ao1 (by decide) (o_loadNp (cs := [_, _, _, _, _, _, _]) rfl hr rfl rfl) ?_ | refine ao1 (by decide) (o_loadNp (cs := [_, _, _, _, _, _, _]) rfl hr1 rfl rfl) ?_ | refine ao1 (by decide) (o_loadNp (cs := [_, _, _, _, _, _, _]) rfl hr2 rfl rfl) ?_ | refine ao1 (by decide) (w_loadR rfl (lkF hF) rfl rfl rfl) ?_ | refine ao1 (by decide) (w_loadN (cs := [_, _, _, _, _, _, _]) rfl (lkF hF) rfl rfl rfl rfl) ?_
      refine ao2 (by rintro _ ⟨⟩; decide) (o_allocL (sz := 7) rfl (by decide) rfl) ?_
      first | refine ao2 (by rintro _ ⟨⟩) (w_storeW (sz := 7) rfl rfl rfl rfl rfl rfl rfl rfl (Nat.le_of_ble_eq_true rfl)) ?_ | refine ao2 (by rintro _ ⟨⟩) (w_storeFP (sz := 7) (v := .agg _) (r' := [_, _, _, _, _, _, _]) rfl hF rfl rfl rfl rfl rfl (Nat.le_of_ble_eq_true rfl) rfl) ?_ | refine ao2 (by rintro _ ⟨⟩) (w_storeFP (sz := 7) (v := .agg _) (r' := [_, _, _, _, _, _, _]) rfl hF1 rfl rfl rfl rfl rfl (Nat.le_of_ble_eq_true rfl) rfl) ?_
      refine ao1 (by decide) (o_assign (v := .int _ _) rfl) ?_
      refine ao_nil ?_
      try dsimp only [List.set_cons_zero, List.set_cons_succ, List.cons_append, List.nil_append, List.take_succ_cons, List.take_zero, List.drop_succ_cons, List.drop_zero, AV.cells, List.length_nil, List.length_cons, Av.put, Nat.reduceAdd, AV.up, AV.up1, List.map_cons, List.map_nil]
      repeat (first | refine join_ret ?_ | refine join_brk ?_ | refine then_nrm ?_ | refine blk_nrm ?_ | refine then_brk ?_ | refine blk_hit ?_ | refine blk_miss rfl ?_ | refine then_ret ?_ | refine blk_ret ?_ | refine aw_seq ?_ | refine aw_block ?_ | refine aw_skip ?_ | refine aw_exit ?_ | refine aw_scope ?_ | refine aw_ret ?_)
      refine aw_out 82 (.bool true) ?_ ?_
      · refine ao1 (by decide) (o_move (v := .bool _) rfl) ?_
        refine ao1 (by decide) (o_not rfl) ?_
        refine ao1 (by decide) (o_move (v := .bool _) rfl) ?_
        refine ao_split rfl rfl (fun hg2 => ?_) (fun hg2 => ?_)
        · refine ao_nF rfl rfl (by decide) ?_
          refine ao_nF rfl rfl (by decide) ?_
          first | refine ao1 (by decide) (o_pick_t (v := .bool _) rfl rfl) ?_ | refine ao1 (by decide) (o_pick_f (v := .bool _) rfl rfl) ?_ | refine ao1 (by decide) (o_pick_b rfl rfl rfl) ?_
          exact ao_nil (Out.mk (by first | rfl | (refine congrArg AV.bool ?_; first | (simp at *; done) | (simp_all; done))) (by repeat (first | exact SubX.refl _ _ | refine SubX.at ?_ | refine SubX.put rfl ?_ | refine SubX.put_same rfl ?_)))
        · refine ao_y1 rfl rfl (by decide) (o_move (v := .int _ _) rfl) ?_
          refine ao_y1 rfl rfl (by decide) (o_lt rfl rfl) ?_
          first | refine ao1 (by decide) (o_pick_t (v := .bool _) rfl rfl) ?_ | refine ao1 (by decide) (o_pick_f (v := .bool _) rfl rfl) ?_ | refine ao1 (by decide) (o_pick_b rfl rfl rfl) ?_
          exact ao_nil (Out.mk (by first | rfl | (refine congrArg AV.bool ?_; first | (simp at *; done) | (simp_all; done))) (by repeat (first | exact SubX.refl _ _ | refine SubX.at ?_ | refine SubX.put rfl ?_ | refine SubX.put_same rfl ?_)))
      repeat (first | refine join_ret ?_ | refine join_brk ?_ | refine then_nrm ?_ | refine blk_nrm ?_ | refine then_brk ?_ | refine blk_hit ?_ | refine blk_miss rfl ?_ | refine then_ret ?_ | refine blk_ret ?_ | refine aw_seq ?_ | refine aw_block ?_ | refine aw_skip ?_ | refine aw_exit ?_ | refine aw_scope ?_ | refine aw_ret ?_)
      refine aw_cond rfl (fun hc => ?_) (fun hc => ?_)
      · repeat (first | refine join_ret ?_ | refine join_brk ?_ | refine then_nrm ?_ | refine blk_nrm ?_ | refine then_brk ?_ | refine blk_hit ?_ | refine blk_miss rfl ?_ | refine then_ret ?_ | refine blk_ret ?_ | refine aw_seq ?_ | refine aw_block ?_ | refine aw_skip ?_ | refine aw_exit ?_ | refine aw_scope ?_ | refine aw_ret ?_)
        refine aw_region ?_
        refine ao1 (by decide) (V1.up (o_build (cs := [.int _ _, .int _ _, .int _ _, .str _, .bool _, .int _ _, .int _ _]) rfl)) ?_
        first | refine ao2 (by rintro _ ⟨⟩) (w_storeW (sz := 7) rfl rfl rfl rfl rfl rfl rfl rfl (Nat.le_of_ble_eq_true rfl)) ?_ | refine ao2 (by rintro _ ⟨⟩) (w_storeFP (sz := 7) (v := .agg _) (r' := [_, _, _, _, _, _, _]) rfl hF rfl rfl rfl rfl rfl (Nat.le_of_ble_eq_true rfl) rfl) ?_ | refine ao2 (by rintro _ ⟨⟩) (w_storeFP (sz := 7) (v := .agg _) (r' := [_, _, _, _, _, _, _]) rfl hF1 rfl rfl rfl rfl rfl (Nat.le_of_ble_eq_true rfl) rfl) ?_
        refine ao1 (by decide) (o_assign (v := .int _ _) rfl) ?_
        refine ao_nil ?_
        try dsimp only [List.set_cons_zero, List.set_cons_succ, List.cons_append, List.nil_append, List.take_succ_cons, List.take_zero, List.drop_succ_cons, List.drop_zero, AV.cells, List.length_nil, List.length_cons, Av.put, Nat.reduceAdd, AV.up, AV.up1, List.map_cons, List.map_nil]
        repeat (first | refine join_ret ?_ | refine join_brk ?_ | refine then_nrm ?_ | refine blk_nrm ?_ | refine then_brk ?_ | refine blk_hit ?_ | refine blk_miss rfl ?_ | refine then_ret ?_ | refine blk_ret ?_ | refine aw_seq ?_ | refine aw_block ?_ | refine aw_skip ?_ | refine aw_exit ?_ | refine aw_scope ?_ | refine aw_ret ?_)
        refine aw_of_out 8 (.bool true) ?_ ?_
        · refine aw_drawP mixed none 999 ?_
          try dsimp only [List.take_succ_cons, List.take_zero, List.take_nil, List.set_cons_zero, List.set_cons_succ, List.cons_append, List.nil_append]
          first | refine aqp 0 rfl (by decide +kernel) (by decide) (fun G => w_loadR rfl (lk rfl rfl) rfl rfl rfl) ?_ | refine aqp 0 rfl (by decide +kernel) (by decide) (fun G => w_loadR rfl (lk rfl rfl) rfl (zadd hr) rfl) ?_ | refine aqp 0 rfl (by decide +kernel) (by decide) (fun G => w_loadR rfl (lk rfl rfl) rfl (zadd hr1) rfl) ?_ | refine aqp 0 rfl (by decide +kernel) (by decide) (fun G => w_loadR rfl (lk rfl rfl) rfl (zadd hr2) rfl) ?_ | refine aqp 0 rfl (by decide +kernel) (by decide) (fun G => w_loadRp rfl hr rfl) ?_ | refine aqp 0 rfl (by decide +kernel) (by decide) (fun G => w_loadRp rfl hr1 rfl) ?_ | refine aqp 0 rfl (by decide +kernel) (by decide) (fun G => w_loadRp rfl hr2 rfl) ?_ | refine aqp 0 rfl (by decide +kernel) (by decide) (fun G => w_loadN (cs := [_, _, _, _, _, _, _]) rfl (lk rfl rfl) rfl rfl rfl rfl) ?_ | refine aqp 0 rfl (by decide +kernel) (by decide) (fun G => o_loadNp (cs := [_, _, _, _, _, _, _]) rfl hr rfl rfl) ?_ | refine aqp 0 rfl (by decide +kernel) (by decide) (fun G => o_loadNp (cs := [_, _, _, _, _, _, _]) rfl hr1 rfl rfl) ?_ | refine aqp 0 rfl (by decide +kernel) (by decide) (fun G => o_loadNp (cs := [_, _, _, _, _, _, _]) rfl hr2 rfl rfl) ?_ | refine aqp 0 rfl (by decide +kernel) (by decide) (fun G => w_loadR rfl (lkF hF) rfl rfl rfl) ?_ | refine aqp 0 rfl (by decide +kernel) (by decide) (fun G => w_loadN (cs := [_, _, _, _, _, _, _]) rfl (lkF hF) rfl rfl rfl rfl) ?_
          refine aq0 1 rfl (by decide +kernel) (by decide) (fun _ => o_move (v := .int _ _) rfl) ?_
          refine aq02 2 rfl (by decide +kernel) (by decide) (fun _ => V2.call (spec_Ends _ _ _) rfl) ?_
          first | refine aqp 3 rfl (by decide +kernel) (by decide) (fun G => w_loadR rfl (lk rfl rfl) rfl rfl rfl) ?_ | refine aqp 3 rfl (by decide +kernel) (by decide) (fun G => w_loadR rfl (lk rfl rfl) rfl (zadd hr) rfl) ?_ | refine aqp 3 rfl (by decide +kernel) (by decide) (fun G => w_loadR rfl (lk rfl rfl) rfl (zadd hr1) rfl) ?_ | refine aqp 3 rfl (by decide +kernel) (by decide) (fun G => w_loadR rfl (lk rfl rfl) rfl (zadd hr2) rfl) ?_ | refine aqp 3 rfl (by decide +kernel) (by decide) (fun G => w_loadRp rfl hr rfl) ?_ | refine aqp 3 rfl (by decide +kernel) (by decide) (fun G => w_loadRp rfl hr1 rfl) ?_ | refine aqp 3 rfl (by decide +kernel) (by decide) (fun G => w_loadRp rfl hr2 rfl) ?_ | refine aqp 3 rfl (by decide +kernel) (by decide) (fun G => w_loadN (cs := [_, _, _, _, _, _, _]) rfl (lk rfl rfl) rfl rfl rfl rfl) ?_ | refine aqp 3 rfl (by decide +kernel) (by decide) (fun G => o_loadNp (cs := [_, _, _, _, _, _, _]) rfl hr rfl rfl) ?_ | refine aqp 3 rfl (by decide +kernel) (by decide) (fun G => o_loadNp (cs := [_, _, _, _, _, _, _]) rfl hr1 rfl rfl) ?_ | refine aqp 3 rfl (by decide +kernel) (by decide) (fun G => o_loadNp (cs := [_, _, _, _, _, _, _]) rfl hr2 rfl rfl) ?_ | refine aqp 3 rfl (by decide +kernel) (by decide) (fun G => w_loadR rfl (lkF hF) rfl rfl rfl) ?_ | refine aqp 3 rfl (by decide +kernel) (by decide) (fun G => w_loadN (cs := [_, _, _, _, _, _, _]) rfl (lkF hF) rfl rfl rfl rfl) ?_
          refine aq0 4 rfl (by decide +kernel) (by decide) (fun _ => o_move (v := .int _ _) rfl) ?_
          refine aq02 5 rfl (by decide +kernel) (by decide) (fun _ => V2.call (ref07_Ends _ _ _ (by assumption)) rfl) ?_
          refine aq0 6 rfl (by decide +kernel) (by decide) (fun _ => o_eq rfl rfl) ?_
          refine aq0 7 rfl (by decide +kernel) (by decide) (fun _ => o_move (v := .bool _) rfl) ?_
          refine aq_split (g := 101) rfl (fun hg7 => ?_) (fun hg7 => ?_)
          · first | refine aqyp (g := 101) 8 rfl (by decide +kernel) (by decide) rfl rfl (fun G => w_loadR rfl (lk rfl rfl) rfl rfl rfl) ?_ | refine aqyp (g := 101) 8 rfl (by decide +kernel) (by decide) rfl rfl (fun G => w_loadR rfl (lk rfl rfl) rfl (zadd hr) rfl) ?_ | refine aqyp (g := 101) 8 rfl (by decide +kernel) (by decide) rfl rfl (fun G => w_loadR rfl (lk rfl rfl) rfl (zadd hr1) rfl) ?_ | refine aqyp (g := 101) 8 rfl (by decide +kernel) (by decide) rfl rfl (fun G => w_loadR rfl (lk rfl rfl) rfl (zadd hr2) rfl) ?_ | refine aqyp (g := 101) 8 rfl (by decide +kernel) (by decide) rfl rfl (fun G => w_loadRp rfl hr rfl) ?_ | refine aqyp (g := 101) 8 rfl (by decide +kernel) (by decide) rfl rfl (fun G => w_loadRp rfl hr1 rfl) ?_ | refine aqyp (g := 101) 8 rfl (by decide +kernel) (by decide) rfl rfl (fun G => w_loadRp rfl hr2 rfl) ?_ | refine aqyp (g := 101) 8 rfl (by decide +kernel) (by decide) rfl rfl (fun G => w_loadN (cs := [_, _, _, _, _, _, _]) rfl (lk rfl rfl) rfl rfl rfl rfl) ?_ | refine aqyp (g := 101) 8 rfl (by decide +kernel) (by decide) rfl rfl (fun G => o_loadNp (cs := [_, _, _, _, _, _, _]) rfl hr rfl rfl) ?_ | refine aqyp (g := 101) 8 rfl (by decide +kernel) (by decide) rfl rfl (fun G => o_loadNp (cs := [_, _, _, _, _, _, _]) rfl hr1 rfl rfl) ?_ | refine aqyp (g := 101) 8 rfl (by decide +kernel) (by decide) rfl rfl (fun G => o_loadNp (cs := [_, _, _, _, _, _, _]) rfl hr2 rfl rfl) ?_ | refine aqyp (g := 101) 8 rfl (by decide +kernel) (by decide) rfl rfl (fun G => w_loadR rfl (lkF hF) rfl rfl rfl) ?_ | refine aqyp (g := 101) 8 rfl (by decide +kernel) (by decide) rfl rfl (fun G => w_loadN (cs := [_, _, _, _, _, _, _]) rfl (lkF hF) rfl rfl rfl rfl) ?_
            first | refine aqyp (g := 101) 9 rfl (by decide +kernel) (by decide) rfl rfl (fun G => w_loadR rfl (lk rfl rfl) rfl rfl rfl) ?_ | refine aqyp (g := 101) 9 rfl (by decide +kernel) (by decide) rfl rfl (fun G => w_loadR rfl (lk rfl rfl) rfl (zadd hr) rfl) ?_ | refine aqyp (g := 101) 9 rfl (by decide +kernel) (by decide) rfl rfl (fun G => w_loadR rfl (lk rfl rfl) rfl (zadd hr1) rfl) ?_ | refine aqyp (g := 101) 9 rfl (by decide +kernel) (by decide) rfl rfl (fun G => w_loadR rfl (lk rfl rfl) rfl (zadd hr2) rfl) ?_ | refine aqyp (g := 101) 9 rfl (by decide +kernel) (by decide) rfl rfl (fun G => w_loadRp rfl hr rfl) ?_ | refine aqyp (g := 101) 9 rfl (by decide +kernel) (by decide) rfl rfl (fun G => w_loadRp rfl hr1 rfl) ?_ | refine aqyp (g := 101) 9 rfl (by decide +kernel) (by decide) rfl rfl (fun G => w_loadRp rfl hr2 rfl) ?_ | refine aqyp (g := 101) 9 rfl (by decide +kernel) (by decide) rfl rfl (fun G => w_loadN (cs := [_, _, _, _, _, _, _]) rfl (lk rfl rfl) rfl rfl rfl rfl) ?_ | refine aqyp (g := 101) 9 rfl (by decide +kernel) (by decide) rfl rfl (fun G => o_loadNp (cs := [_, _, _, _, _, _, _]) rfl hr rfl rfl) ?_ | refine aqyp (g := 101) 9 rfl (by decide +kernel) (by decide) rfl rfl (fun G => o_loadNp (cs := [_, _, _, _, _, _, _]) rfl hr1 rfl rfl) ?_ | refine aqyp (g := 101) 9 rfl (by decide +kernel) (by decide) rfl rfl (fun G => o_loadNp (cs := [_, _, _, _, _, _, _]) rfl hr2 rfl rfl) ?_ | refine aqyp (g := 101) 9 rfl (by decide +kernel) (by decide) rfl rfl (fun G => w_loadR rfl (lkF hF) rfl rfl rfl) ?_ | refine aqyp (g := 101) 9 rfl (by decide +kernel) (by decide) rfl rfl (fun G => w_loadN (cs := [_, _, _, _, _, _, _]) rfl (lkF hF) rfl rfl rfl rfl) ?_
            refine aqy02 (g := 101) 10 rfl (by decide +kernel) (by decide) rfl rfl (fun _ => V2.call (spec_Ahead _ _ _) rfl) ?_
            first | refine aqyp (g := 101) 11 rfl (by decide +kernel) (by decide) rfl rfl (fun G => w_loadR rfl (lk rfl rfl) rfl rfl rfl) ?_ | refine aqyp (g := 101) 11 rfl (by decide +kernel) (by decide) rfl rfl (fun G => w_loadR rfl (lk rfl rfl) rfl (zadd hr) rfl) ?_ | refine aqyp (g := 101) 11 rfl (by decide +kernel) (by decide) rfl rfl (fun G => w_loadR rfl (lk rfl rfl) rfl (zadd hr1) rfl) ?_ | refine aqyp (g := 101) 11 rfl (by decide +kernel) (by decide) rfl rfl (fun G => w_loadR rfl (lk rfl rfl) rfl (zadd hr2) rfl) ?_ | refine aqyp (g := 101) 11 rfl (by decide +kernel) (by decide) rfl rfl (fun G => w_loadRp rfl hr rfl) ?_ | refine aqyp (g := 101) 11 rfl (by decide +kernel) (by decide) rfl rfl (fun G => w_loadRp rfl hr1 rfl) ?_ | refine aqyp (g := 101) 11 rfl (by decide +kernel) (by decide) rfl rfl (fun G => w_loadRp rfl hr2 rfl) ?_ | refine aqyp (g := 101) 11 rfl (by decide +kernel) (by decide) rfl rfl (fun G => w_loadN (cs := [_, _, _, _, _, _, _]) rfl (lk rfl rfl) rfl rfl rfl rfl) ?_ | refine aqyp (g := 101) 11 rfl (by decide +kernel) (by decide) rfl rfl (fun G => o_loadNp (cs := [_, _, _, _, _, _, _]) rfl hr rfl rfl) ?_ | refine aqyp (g := 101) 11 rfl (by decide +kernel) (by decide) rfl rfl (fun G => o_loadNp (cs := [_, _, _, _, _, _, _]) rfl hr1 rfl rfl) ?_ | refine aqyp (g := 101) 11 rfl (by decide +kernel) (by decide) rfl rfl (fun G => o_loadNp (cs := [_, _, _, _, _, _, _]) rfl hr2 rfl rfl) ?_ | refine aqyp (g := 101) 11 rfl (by decide +kernel) (by decide) rfl rfl (fun G => w_loadR rfl (lkF hF) rfl rfl rfl) ?_ | refine aqyp (g := 101) 11 rfl (by decide +kernel) (by decide) rfl rfl (fun G => w_loadN (cs := [_, _, _, _, _, _, _]) rfl (lkF hF) rfl rfl rfl rfl) ?_
            first | refine aqyp (g := 101) 12 rfl (by decide +kernel) (by decide) rfl rfl (fun G => w_loadR rfl (lk rfl rfl) rfl rfl rfl) ?_ | refine aqyp (g := 101) 12 rfl (by decide +kernel) (by decide) rfl rfl (fun G => w_loadR rfl (lk rfl rfl) rfl (zadd hr) rfl) ?_ | refine aqyp (g := 101) 12 rfl (by decide +kernel) (by decide) rfl rfl (fun G => w_loadR rfl (lk rfl rfl) rfl (zadd hr1) rfl) ?_ | refine aqyp (g := 101) 12 rfl (by decide +kernel) (by decide) rfl rfl (fun G => w_loadR rfl (lk rfl rfl) rfl (zadd hr2) rfl) ?_ | refine aqyp (g := 101) 12 rfl (by decide +kernel) (by decide) rfl rfl (fun G => w_loadRp rfl hr rfl) ?_ | refine aqyp (g := 101) 12 rfl (by decide +kernel) (by decide) rfl rfl (fun G => w_loadRp rfl hr1 rfl) ?_ | refine aqyp (g := 101) 12 rfl (by decide +kernel) (by decide) rfl rfl (fun G => w_loadRp rfl hr2 rfl) ?_ | refine aqyp (g := 101) 12 rfl (by decide +kernel) (by decide) rfl rfl (fun G => w_loadN (cs := [_, _, _, _, _, _, _]) rfl (lk rfl rfl) rfl rfl rfl rfl) ?_ | refine aqyp (g := 101) 12 rfl (by decide +kernel) (by decide) rfl rfl (fun G => o_loadNp (cs := [_, _, _, _, _, _, _]) rfl hr rfl rfl) ?_ | refine aqyp (g := 101) 12 rfl (by decide +kernel) (by decide) rfl rfl (fun G => o_loadNp (cs := [_, _, _, _, _, _, _]) rfl hr1 rfl rfl) ?_ | refine aqyp (g := 101) 12 rfl (by decide +kernel) (by decide) rfl rfl (fun G => o_loadNp (cs := [_, _, _, _, _, _, _]) rfl hr2 rfl rfl) ?_ | refine aqyp (g := 101) 12 rfl (by decide +kernel) (by decide) rfl rfl (fun G => w_loadR rfl (lkF hF) rfl rfl rfl) ?_ | refine aqyp (g := 101) 12 rfl (by decide +kernel) (by decide) rfl rfl (fun G => w_loadN (cs := [_, _, _, _, _, _, _]) rfl (lkF hF) rfl rfl rfl rfl) ?_
            refine aqy02 (g := 101) 13 rfl (by decide +kernel) (by decide) rfl rfl (fun _ => V2.call (ref07_Ahead _ _ _ (by assumption) (by assumption)) rfl) ?_
            refine aqy0 (g := 101) 14 rfl (by decide +kernel) (by decide) rfl rfl (fun _ => o_beq rfl rfl) ?_
            first | refine aq0 15 rfl (by decide +kernel) (by decide) (fun _ => o_pick_t (v := .bool _) rfl rfl) ?_ | refine aq0 15 rfl (by decide +kernel) (by decide) (fun _ => o_pick_f (v := .bool _) rfl rfl) ?_ | refine aq0 15 rfl (by decide +kernel) (by decide) (fun _ => o_pick_b rfl rfl rfl) ?_
            refine aq0 16 rfl (by decide +kernel) (by decide) (fun _ => o_move (v := .bool _) rfl) ?_
            refine aq_split (g := 110) rfl (fun hg16 => ?_) (fun hg16 => ?_)
            · first | refine aqyp (g := 110) 17 rfl (by decide +kernel) (by decide) rfl rfl (fun G => w_loadR rfl (lk rfl rfl) rfl rfl rfl) ?_ | refine aqyp (g := 110) 17 rfl (by decide +kernel) (by decide) rfl rfl (fun G => w_loadR rfl (lk rfl rfl) rfl (zadd hr) rfl) ?_ | refine aqyp (g := 110) 17 rfl (by decide +kernel) (by decide) rfl rfl (fun G => w_loadR rfl (lk rfl rfl) rfl (zadd hr1) rfl) ?_ | refine aqyp (g := 110) 17 rfl (by decide +kernel) (by decide) rfl rfl (fun G => w_loadR rfl (lk rfl rfl) rfl (zadd hr2) rfl) ?_ | refine aqyp (g := 110) 17 rfl (by decide +kernel) (by decide) rfl rfl (fun G => w_loadRp rfl hr rfl) ?_ | refine aqyp (g := 110) 17 rfl (by decide +kernel) (by decide) rfl rfl (fun G => w_loadRp rfl hr1 rfl) ?_ | refine aqyp (g := 110) 17 rfl (by decide +kernel) (by decide) rfl rfl (fun G => w_loadRp rfl hr2 rfl) ?_ | refine aqyp (g := 110) 17 rfl (by decide +kernel) (by decide) rfl rfl (fun G => w_loadN (cs := [_, _, _, _, _, _, _]) rfl (lk rfl rfl) rfl rfl rfl rfl) ?_ | refine aqyp (g := 110) 17 rfl (by decide +kernel) (by decide) rfl rfl (fun G => o_loadNp (cs := [_, _, _, _, _, _, _]) rfl hr rfl rfl) ?_ | refine aqyp (g := 110) 17 rfl (by decide +kernel) (by decide) rfl rfl (fun G => o_loadNp (cs := [_, _, _, _, _, _, _]) rfl hr1 rfl rfl) ?_ | refine aqyp (g := 110) 17 rfl (by decide +kernel) (by decide) rfl rfl (fun G => o_loadNp (cs := [_, _, _, _, _, _, _]) rfl hr2 rfl rfl) ?_ | refine aqyp (g := 110) 17 rfl (by decide +kernel) (by decide) rfl rfl (fun G => w_loadR rfl (lkF hF) rfl rfl rfl) ?_ | refine aqyp (g := 110) 17 rfl (by decide +kernel) (by decide) rfl rfl (fun G => w_loadN (cs := [_, _, _, _, _, _, _]) rfl (lkF hF) rfl rfl rfl rfl) ?_
              first | refine aqyp (g := 110) 18 rfl (by decide +kernel) (by decide) rfl rfl (fun G => w_loadR rfl (lk rfl rfl) rfl rfl rfl) ?_ | refine aqyp (g := 110) 18 rfl (by decide +kernel) (by decide) rfl rfl (fun G => w_loadR rfl (lk rfl rfl) rfl (zadd hr) rfl) ?_ | refine aqyp (g := 110) 18 rfl (by decide +kernel) (by decide) rfl rfl (fun G => w_loadR rfl (lk rfl rfl) rfl (zadd hr1) rfl) ?_ | refine aqyp (g := 110) 18 rfl (by decide +kernel) (by decide) rfl rfl (fun G => w_loadR rfl (lk rfl rfl) rfl (zadd hr2) rfl) ?_ | refine aqyp (g := 110) 18 rfl (by decide +kernel) (by decide) rfl rfl (fun G => w_loadRp rfl hr rfl) ?_ | refine aqyp (g := 110) 18 rfl (by decide +kernel) (by decide) rfl rfl (fun G => w_loadRp rfl hr1 rfl) ?_ | refine aqyp (g := 110) 18 rfl (by decide +kernel) (by decide) rfl rfl (fun G => w_loadRp rfl hr2 rfl) ?_ | refine aqyp (g := 110) 18 rfl (by decide +kernel) (by decide) rfl rfl (fun G => w_loadN (cs := [_, _, _, _, _, _, _]) rfl (lk rfl rfl) rfl rfl rfl rfl) ?_ | refine aqyp (g := 110) 18 rfl (by decide +kernel) (by decide) rfl rfl (fun G => o_loadNp (cs := [_, _, _, _, _, _, _]) rfl hr rfl rfl) ?_ | refine aqyp (g := 110) 18 rfl (by decide +kernel) (by decide) rfl rfl (fun G => o_loadNp (cs := [_, _, _, _, _, _, _]) rfl hr1 rfl rfl) ?_ | refine aqyp (g := 110) 18 rfl (by decide +kernel) (by decide) rfl rfl (fun G => o_loadNp (cs := [_, _, _, _, _, _, _]) rfl hr2 rfl rfl) ?_ | refine aqyp (g := 110) 18 rfl (by decide +kernel) (by decide) rfl rfl (fun G => w_loadR rfl (lkF hF) rfl rfl rfl) ?_ | refine aqyp (g := 110) 18 rfl (by decide +kernel) (by decide) rfl rfl (fun G => w_loadN (cs := [_, _, _, _, _, _, _]) rfl (lkF hF) rfl rfl rfl rfl) ?_
              refine aqy0 (g := 110) 19 rfl (by decide +kernel) (by decide) rfl rfl (fun _ => o_eqAgg (us := uSpec spec0) (vs := uSpec spec0) rfl rfl rfl rfl (by kernel_rfl) (eqSpec_run spec0 spec0)) ?_
              first | refine aq0 20 rfl (by decide +kernel) (by decide) (fun _ => o_pick_t (v := .bool _) rfl rfl) ?_ | refine aq0 20 rfl (by decide +kernel) (by decide) (fun _ => o_pick_f (v := .bool _) rfl rfl) ?_ | refine aq0 20 rfl (by decide +kernel) (by decide) (fun _ => o_pick_b rfl rfl rfl) ?_
              refine aq0 21 rfl (by decide +kernel) (by decide) (fun _ => o_move (v := .bool _) rfl) ?_
              refine aq_split (g := 115) rfl (fun hg21 => ?_) (fun hg21 => ?_)
              · refine aqy0 (g := 115) 22 rfl (by decide +kernel) (by decide) rfl rfl (fun _ => o_move (v := .int _ _) rfl) ?_
                refine aqy0 (g := 115) 23 rfl (by decide +kernel) (by decide) rfl rfl (fun _ => o_move (v := .int _ _) rfl) ?_
                refine aqy0 (g := 115) 24 rfl (by decide +kernel) (by decide) rfl rfl (fun _ => o_eq rfl rfl) ?_
                first | refine aq0 25 rfl (by decide +kernel) (by decide) (fun _ => o_pick_t (v := .bool _) rfl rfl) ?_ | refine aq0 25 rfl (by decide +kernel) (by decide) (fun _ => o_pick_f (v := .bool _) rfl rfl) ?_ | refine aq0 25 rfl (by decide +kernel) (by decide) (fun _ => o_pick_b rfl rfl rfl) ?_
                refine aq0 26 rfl (by decide +kernel) (by decide) (fun _ => o_assign (v := .bool _) rfl) ?_
                exact aa_done (by decide +kernel) (by first | exact fun _ => trivial | exact fun _ => ⟨_, rfl⟩ | exact fun _ => ⟨_, rfl, rfl⟩ | exact yet_done (by decide +kernel)) (Out.mk (by first | rfl | (refine congrArg AV.bool ?_; first | (simp at *; done) | (simp_all; done))) (by repeat (first | exact SubX.refl _ _ | refine SubX.at ?_ | refine SubX.put rfl ?_ | refine SubX.put_same rfl ?_)))
              · refine aqn0 (g := 115) 22 rfl (by decide +kernel) (by decide) rfl rfl rfl ?_
                refine aqn0 (g := 115) 23 rfl (by decide +kernel) (by decide) rfl rfl rfl ?_
                refine aqn0 (g := 115) 24 rfl (by decide +kernel) (by decide) rfl rfl rfl ?_
                first | refine aq0 25 rfl (by decide +kernel) (by decide) (fun _ => o_pick_t (v := .bool _) rfl rfl) ?_ | refine aq0 25 rfl (by decide +kernel) (by decide) (fun _ => o_pick_f (v := .bool _) rfl rfl) ?_ | refine aq0 25 rfl (by decide +kernel) (by decide) (fun _ => o_pick_b rfl rfl rfl) ?_
                refine aq0 26 rfl (by decide +kernel) (by decide) (fun _ => o_assign (v := .bool _) rfl) ?_
                exact aa_done (by decide +kernel) (by first | exact fun _ => trivial | exact fun _ => ⟨_, rfl⟩ | exact fun _ => ⟨_, rfl, rfl⟩ | exact yet_done (by decide +kernel)) (Out.mk (by first | rfl | (refine congrArg AV.bool ?_; first | (simp at *; done) | (simp_all; done))) (by repeat (first | exact SubX.refl _ _ | refine SubX.at ?_ | refine SubX.put rfl ?_ | refine SubX.put_same rfl ?_)))
            · refine aqn0 (g := 110) 17 rfl (by decide +kernel) (by decide) rfl rfl rfl ?_
              refine aqn0 (g := 110) 18 rfl (by decide +kernel) (by decide) rfl rfl rfl ?_
              refine aqn0 (g := 110) 19 rfl (by decide +kernel) (by decide) rfl rfl rfl ?_
              first | refine aq0 20 rfl (by decide +kernel) (by decide) (fun _ => o_pick_t (v := .bool _) rfl rfl) ?_ | refine aq0 20 rfl (by decide +kernel) (by decide) (fun _ => o_pick_f (v := .bool _) rfl rfl) ?_ | refine aq0 20 rfl (by decide +kernel) (by decide) (fun _ => o_pick_b rfl rfl rfl) ?_
              refine aq0 21 rfl (by decide +kernel) (by decide) (fun _ => o_move (v := .bool _) rfl) ?_
              refine aqn0 (g := 115) 22 rfl (by decide +kernel) (by decide) rfl rfl rfl ?_
              refine aqn0 (g := 115) 23 rfl (by decide +kernel) (by decide) rfl rfl rfl ?_
              refine aqn0 (g := 115) 24 rfl (by decide +kernel) (by decide) rfl rfl rfl ?_
              first | refine aq0 25 rfl (by decide +kernel) (by decide) (fun _ => o_pick_t (v := .bool _) rfl rfl) ?_ | refine aq0 25 rfl (by decide +kernel) (by decide) (fun _ => o_pick_f (v := .bool _) rfl rfl) ?_ | refine aq0 25 rfl (by decide +kernel) (by decide) (fun _ => o_pick_b rfl rfl rfl) ?_
              refine aq0 26 rfl (by decide +kernel) (by decide) (fun _ => o_assign (v := .bool _) rfl) ?_
              exact aa_done (by decide +kernel) (by first | exact fun _ => trivial | exact fun _ => ⟨_, rfl⟩ | exact fun _ => ⟨_, rfl, rfl⟩ | exact yet_done (by decide +kernel)) (Out.mk (by first | rfl | (refine congrArg AV.bool ?_; first | (simp at *; done) | (simp_all; done))) (by repeat (first | exact SubX.refl _ _ | refine SubX.at ?_ | refine SubX.put rfl ?_ | refine SubX.put_same rfl ?_)))
          · refine aqn0 (g := 101) 8 rfl (by decide +kernel) (by decide) rfl rfl rfl ?_
            refine aqn0 (g := 101) 9 rfl (by decide +kernel) (by decide) rfl rfl rfl ?_
            refine aqn0 (g := 101) 10 rfl (by decide +kernel) (by decide) rfl rfl rfl ?_
            refine aqn0 (g := 101) 11 rfl (by decide +kernel) (by decide) rfl rfl rfl ?_
            refine aqn0 (g := 101) 12 rfl (by decide +kernel) (by decide) rfl rfl rfl ?_
            refine aqn0 (g := 101) 13 rfl (by decide +kernel) (by decide) rfl rfl rfl ?_
            refine aqn0 (g := 101) 14 rfl (by decide +kernel) (by decide) rfl rfl rfl ?_
            first | refine aq0 15 rfl (by decide +kernel) (by decide) (fun _ => o_pick_t (v := .bool _) rfl rfl) ?_ | refine aq0 15 rfl (by decide +kernel) (by decide) (fun _ => o_pick_f (v := .bool _) rfl rfl) ?_ | refine aq0 15 rfl (by decide +kernel) (by decide) (fun _ => o_pick_b rfl rfl rfl) ?_
            refine aq0 16 rfl (by decide +kernel) (by decide) (fun _ => o_move (v := .bool _) rfl) ?_
            refine aqn0 (g := 110) 17 rfl (by decide +kernel) (by decide) rfl rfl rfl ?_
            refine aqn0 (g := 110) 18 rfl (by decide +kernel) (by decide) rfl rfl rfl ?_
            refine aqn0 (g := 110) 19 rfl (by decide +kernel) (by decide) rfl rfl rfl ?_
            first | refine aq0 20 rfl (by decide +kernel) (by decide) (fun _ => o_pick_t (v := .bool _) rfl rfl) ?_ | refine aq0 20 rfl (by decide +kernel) (by decide) (fun _ => o_pick_f (v := .bool _) rfl rfl) ?_ | refine aq0 20 rfl (by decide +kernel) (by decide) (fun _ => o_pick_b rfl rfl rfl) ?_
            refine aq0 21 rfl (by decide +kernel) (by decide) (fun _ => o_move (v := .bool _) rfl) ?_
            refine aqn0 (g := 115) 22 rfl (by decide +kernel) (by decide) rfl rfl rfl ?_
            refine aqn0 (g := 115) 23 rfl (by decide +kernel) (by decide) rfl rfl rfl ?_
            refine aqn0 (g := 115) 24 rfl (by decide +kernel) (by decide) rfl rfl rfl ?_
            first | refine aq0 25 rfl (by decide +kernel) (by decide) (fun _ => o_pick_t (v := .bool _) rfl rfl) ?_ | refine aq0 25 rfl (by decide +kernel) (by decide) (fun _ => o_pick_f (v := .bool _) rfl rfl) ?_ | refine aq0 25 rfl (by decide +kernel) (by decide) (fun _ => o_pick_b rfl rfl rfl) ?_
            refine aq0 26 rfl (by decide +kernel) (by decide) (fun _ => o_assign (v := .bool _) rfl) ?_
            exact aa_done (by decide +kernel) (by first | exact fun _ => trivial | exact fun _ => ⟨_, rfl⟩ | exact fun _ => ⟨_, rfl, rfl⟩ | exact yet_done (by decide +kernel)) (Out.mk (by first | rfl | (refine congrArg AV.bool ?_; first | (simp at *; done) | (simp_all; done))) (by repeat (first | exact SubX.refl _ _ | refine SubX.at ?_ | refine SubX.put rfl ?_ | refine SubX.put_same rfl ?_)))
        repeat (first | refine join_ret ?_ | refine join_brk ?_ | refine then_nrm ?_ | refine blk_nrm ?_ | refine then_brk ?_ | refine blk_hit ?_ | refine blk_miss rfl ?_ | refine then_ret ?_ | refine blk_ret ?_ | refine aw_seq ?_ | refine aw_block ?_ | refine aw_skip ?_ | refine aw_exit ?_ | refine aw_scope ?_ | refine aw_ret ?_)
        exact e_done hB (r_tmp rfl .nil) rfl rfl
      · simp at hc
    · have hn : 0 ≤ n := by simpa [hs] using h1
      rw [h3] at c7
      repeat (first | refine join_ret ?_ | refine join_brk ?_ | refine then_nrm ?_ | refine blk_nrm ?_ | refine then_brk ?_ | refine blk_hit ?_ | refine blk_miss rfl ?_ | refine then_ret ?_ | refine blk_ret ?_ | refine aw_seq ?_ | refine aw_block ?_ | refine aw_skip ?_ | refine aw_exit ?_ | refine aw_scope ?_ | refine aw_ret ?_)
      refine aw_region ?_
      first | refine ao1 (by decide) (w_loadR rfl (lk rfl rfl) rfl rfl rfl) ?_ | refine ao1 (by decide) (w_loadR rfl (lk rfl rfl) rfl (zadd hr) rfl) ?_ | refine ao1 (by decide) (w_loadR rfl (lk rfl rfl) rfl (zadd hr1) rfl) ?_ | refine ao1 (by decide) (w_loadR rfl (lk rfl rfl) rfl (zadd hr2) rfl) ?_ | refine ao1 (by decide) (w_loadRp rfl hr rfl) ?_ | refine ao1 (by decide) (w_loadRp rfl hr1 rfl) ?_ | refine ao1 (by decide) (w_loadRp rfl hr2 rfl) ?_ | refine ao1 (by decide) (w_loadN (cs := [_, _, _, _, _, _, _]) rfl (lk rfl rfl) rfl rfl rfl rfl) ?_ | refine ao1 (by decide) (o_loadNp (cs := [_, _, _, _, _, _, _]) rfl hr rfl rfl) ?_ | refine ao1 (by decide) (o_loadNp (cs := [_, _, _, _, _, _, _]) rfl hr1 rfl rfl) ?_ | refine ao1 (by decide) (o_loadNp (cs := [_, _, _, _, _, _, _]) rfl hr2 rfl rfl) ?_ | refine ao1 (by decide) (w_loadR rfl (lkF hF) rfl rfl rfl) ?_ | refine ao1 (by decide) (w_loadN (cs := [_, _, _, _, _, _, _]) rfl (lkF hF) rfl rfl rfl rfl) ?_
      refine ao1 (by decide) (o_move (v := .int _ _) rfl) ?_
      refine ao2 (by rintro _ ⟨⟩; decide) (V2.call (c7 _) rfl) ?_
      refine ao1 (by decide) (o_move (v := .tup _) rfl) ?_
      refine ao1 (by decide) (o_extract (v := .agg _) rfl rfl) ?_
      refine ao1 (by decide) (o_extract (v := .int _ _) rfl rfl) ?_
      refine ao2 (by rintro _ ⟨⟩; decide) (o_allocL (sz := 7) rfl (by decide) rfl) ?_
      first | refine ao2 (by rintro _ ⟨⟩) (w_storeW (sz := 7) rfl rfl rfl rfl rfl rfl rfl rfl (Nat.le_of_ble_eq_true rfl)) ?_ | refine ao2 (by rintro _ ⟨⟩) (w_storeFP (sz := 7) (v := .agg _) (r' := [_, _, _, _, _, _, _]) rfl hF rfl rfl rfl rfl rfl (Nat.le_of_ble_eq_true rfl) rfl) ?_ | refine ao2 (by rintro _ ⟨⟩) (w_storeFP (sz := 7) (v := .agg _) (r' := [_, _, _, _, _, _, _]) rfl hF1 rfl rfl rfl rfl rfl (Nat.le_of_ble_eq_true rfl) rfl) ?_
      refine ao1 (by decide) (o_assign (v := .int _ _) rfl) ?_
      refine ao_nil ?_
      try dsimp only [List.set_cons_zero, List.set_cons_succ, List.cons_append, List.nil_append, List.take_succ_cons, List.take_zero, List.drop_succ_cons, List.drop_zero, AV.cells, List.length_nil, List.length_cons, Av.put, Nat.reduceAdd, AV.up, AV.up1, List.map_cons, List.map_nil]
      repeat (first | refine join_ret ?_ | refine join_brk ?_ | refine then_nrm ?_ | refine blk_nrm ?_ | refine then_brk ?_ | refine blk_hit ?_ | refine blk_miss rfl ?_ | refine then_ret ?_ | refine blk_ret ?_ | refine aw_seq ?_ | refine aw_block ?_ | refine aw_skip ?_ | refine aw_exit ?_ | refine aw_scope ?_ | refine aw_ret ?_)
      refine aw_region ?_
      first | refine ao1 (by decide) (w_loadR rfl (lk rfl rfl) rfl rfl rfl) ?_ | refine ao1 (by decide) (w_loadR rfl (lk rfl rfl) rfl (zadd hr) rfl) ?_ | refine ao1 (by decide) (w_loadR rfl (lk rfl rfl) rfl (zadd hr1) rfl) ?_ | refine ao1 (by decide) (w_loadR rfl (lk rfl rfl) rfl (zadd hr2) rfl) ?_ | refine ao1 (by decide) (w_loadRp rfl hr rfl) ?_ | refine ao1 (by decide) (w_loadRp rfl hr1 rfl) ?_ | refine ao1 (by decide) (w_loadRp rfl hr2 rfl) ?_ | refine ao1 (by decide) (w_loadN (cs := [_, _, _, _, _, _, _]) rfl (lk rfl rfl) rfl rfl rfl rfl) ?_ | refine ao1 (by decide) (o_loadNp (cs := [_, _, _, _, _, _, _]) rfl hr rfl rfl) ?_ | refine ao1 (by decide) (o_loadNp (cs := [_, _, _, _, _, _, _]) rfl hr1 rfl rfl) ?_ | refine ao1 (by decide) (o_loadNp (cs := [_, _, _, _, _, _, _]) rfl hr2 rfl rfl) ?_ | refine ao1 (by decide) (w_loadR rfl (lkF hF) rfl rfl rfl) ?_ | refine ao1 (by decide) (w_loadN (cs := [_, _, _, _, _, _, _]) rfl (lkF hF) rfl rfl rfl rfl) ?_
      refine ao2 (by rintro _ ⟨⟩; decide) (o_allocL (sz := 7) rfl (by decide) rfl) ?_
      first | refine ao2 (by rintro _ ⟨⟩) (w_storeW (sz := 7) rfl rfl rfl rfl rfl rfl rfl rfl (Nat.le_of_ble_eq_true rfl)) ?_ | refine ao2 (by rintro _ ⟨⟩) (w_storeFP (sz := 7) (v := .agg _) (r' := [_, _, _, _, _, _, _]) rfl hF rfl rfl rfl rfl rfl (Nat.le_of_ble_eq_true rfl) rfl) ?_ | refine ao2 (by rintro _ ⟨⟩) (w_storeFP (sz := 7) (v := .agg _) (r' := [_, _, _, _, _, _, _]) rfl hF1 rfl rfl rfl rfl rfl (Nat.le_of_ble_eq_true rfl) rfl) ?_
      refine ao1 (by decide) (o_assign (v := .int _ _) rfl) ?_
      refine ao_nil ?_
      try dsimp only [List.set_cons_zero, List.set_cons_succ, List.cons_append, List.nil_append, List.take_succ_cons, List.take_zero, List.drop_succ_cons, List.drop_zero, AV.cells, List.length_nil, List.length_cons, Av.put, Nat.reduceAdd, AV.up, AV.up1, List.map_cons, List.map_nil]
      repeat (first | refine join_ret ?_ | refine join_brk ?_ | refine then_nrm ?_ | refine blk_nrm ?_ | refine then_brk ?_ | refine blk_hit ?_ | refine blk_miss rfl ?_ | refine then_ret ?_ | refine blk_ret ?_ | refine aw_seq ?_ | refine aw_block ?_ | refine aw_skip ?_ | refine aw_exit ?_ | refine aw_scope ?_ | refine aw_ret ?_)
      refine aw_out 82 (.bool false) ?_ ?_
      · refine ao1 (by decide) (o_move (v := .bool _) rfl) ?_
        refine ao1 (by decide) (o_not rfl) ?_
        refine ao1 (by decide) (o_move (v := .bool _) rfl) ?_
        refine ao_split rfl rfl (fun hg2 => ?_) (fun hg2 => ?_)
        · refine ao_nF rfl rfl (by decide) ?_
          refine ao_nF rfl rfl (by decide) ?_
          first | refine ao1 (by decide) (o_pick_t (v := .bool _) rfl rfl) ?_ | refine ao1 (by decide) (o_pick_f (v := .bool _) rfl rfl) ?_ | refine ao1 (by decide) (o_pick_b rfl rfl rfl) ?_
          exact ao_nil (Out.mk (by first | rfl | (refine congrArg AV.bool ?_; first | (simp at *; done) | (simp_all; done) | (simp at *; omega))) (by repeat (first | exact SubX.refl _ _ | refine SubX.at ?_ | refine SubX.put rfl ?_ | refine SubX.put_same rfl ?_)))
        · refine ao_y1 rfl rfl (by decide) (o_move (v := .int _ _) rfl) ?_
          refine ao_y1 rfl rfl (by decide) (o_lt rfl rfl) ?_
          first | refine ao1 (by decide) (o_pick_t (v := .bool _) rfl rfl) ?_ | refine ao1 (by decide) (o_pick_f (v := .bool _) rfl rfl) ?_ | refine ao1 (by decide) (o_pick_b rfl rfl rfl) ?_
          exact ao_nil (Out.mk (by first | rfl | (refine congrArg AV.bool ?_; first | (simp at *; done) | (simp_all; done) | (simp at *; omega))) (by repeat (first | exact SubX.refl _ _ | refine SubX.at ?_ | refine SubX.put rfl ?_ | refine SubX.put_same rfl ?_)))
      repeat (first | refine join_ret ?_ | refine join_brk ?_ | refine then_nrm ?_ | refine blk_nrm ?_ | refine then_brk ?_ | refine blk_hit ?_ | refine blk_miss rfl ?_ | refine then_ret ?_ | refine blk_ret ?_ | refine aw_seq ?_ | refine aw_block ?_ | refine aw_skip ?_ | refine aw_exit ?_ | refine aw_scope ?_ | refine aw_ret ?_)
      refine aw_cond rfl (fun hc => ?_) (fun hc => ?_)
      · simp at hc
      repeat (first | refine join_ret ?_ | refine join_brk ?_ | refine then_nrm ?_ | refine blk_nrm ?_ | refine then_brk ?_ | refine blk_hit ?_ | refine blk_miss rfl ?_ | refine then_ret ?_ | refine blk_ret ?_ | refine aw_seq ?_ | refine aw_block ?_ | refine aw_skip ?_ | refine aw_exit ?_ | refine aw_scope ?_ | refine aw_ret ?_)
      refine aw_region ?_
      refine ao1 (by decide) (o_move (v := .int _ _) rfl) ?_
      first | refine ao1 (by decide) (w_fieldAddr rfl (lk rfl rfl) rfl (by decide)) ?_ | refine ao1 (by decide) (w_fieldAddrp rfl (by decide)) ?_ | refine ao1 (by decide) (w_fieldAddr rfl (lkF hF) rfl (by decide)) ?_
      first | refine ao1 (by decide) (w_load1 (v := .int _ _) rfl (lk rfl rfl) rfl rfl rfl) ?_ | refine ao1 (by decide) (w_load1 (v := .int _ _) rfl (lk rfl rfl) rfl (zadd hr) rfl) ?_ | refine ao1 (by decide) (w_load1 (v := .int _ _) rfl (lk rfl rfl) rfl (zadd hr1) rfl) ?_ | refine ao1 (by decide) (w_load1 (v := .int _ _) rfl (lk rfl rfl) rfl (zadd hr2) rfl) ?_ | refine ao1 (by decide) (o_load1p (v := .int _ _) rfl hr rfl) ?_ | refine ao1 (by decide) (o_load1p (v := .int _ _) rfl hr1 rfl) ?_ | refine ao1 (by decide) (o_load1p (v := .int _ _) rfl hr2 rfl) ?_ | refine ao1 (by decide) (w_load1 (v := .int _ _) rfl (lkF hF) rfl rfl rfl) ?_
      refine ao1 (by decide) (o_ge rfl rfl) ?_
      refine ao_nil ?_
      try dsimp only [List.set_cons_zero, List.set_cons_succ, List.cons_append, List.nil_append, List.take_succ_cons, List.take_zero, List.drop_succ_cons, List.drop_zero, AV.cells, List.length_nil, List.length_cons, Av.put, Nat.reduceAdd, AV.up, AV.up1, List.map_cons, List.map_nil]
      repeat (first | refine join_ret ?_ | refine join_brk ?_ | refine then_nrm ?_ | refine blk_nrm ?_ | refine then_brk ?_ | refine blk_hit ?_ | refine blk_miss rfl ?_ | refine then_ret ?_ | refine blk_ret ?_ | refine aw_seq ?_ | refine aw_block ?_ | refine aw_skip ?_ | refine aw_exit ?_ | refine aw_scope ?_ | refine aw_ret ?_)
      refine aw_cond rfl (fun hc => ?_) (fun hc => ?_)
      · repeat (first | refine join_ret ?_ | refine join_brk ?_ | refine then_nrm ?_ | refine blk_nrm ?_ | refine then_brk ?_ | refine blk_hit ?_ | refine blk_miss rfl ?_ | refine then_ret ?_ | refine blk_ret ?_ | refine aw_seq ?_ | refine aw_block ?_ | refine aw_skip ?_ | refine aw_exit ?_ | refine aw_scope ?_ | refine aw_ret ?_)
        refine aw_region ?_
        refine ao1 (by decide) (V1.up (o_build (cs := [.int _ _, .int _ _, .int _ _, .str _, .bool _, .int _ _, .int _ _]) rfl)) ?_
        first | refine ao2 (by rintro _ ⟨⟩) (w_storeW (sz := 7) rfl rfl rfl rfl rfl rfl rfl rfl (Nat.le_of_ble_eq_true rfl)) ?_ | refine ao2 (by rintro _ ⟨⟩) (w_storeFP (sz := 7) (v := .agg _) (r' := [_, _, _, _, _, _, _]) rfl hF rfl rfl rfl rfl rfl (Nat.le_of_ble_eq_true rfl) rfl) ?_ | refine ao2 (by rintro _ ⟨⟩) (w_storeFP (sz := 7) (v := .agg _) (r' := [_, _, _, _, _, _, _]) rfl hF1 rfl rfl rfl rfl rfl (Nat.le_of_ble_eq_true rfl) rfl) ?_
        refine ao1 (by decide) (o_assign (v := .int _ _) rfl) ?_
        refine ao_nil ?_
        try dsimp only [List.set_cons_zero, List.set_cons_succ, List.cons_append, List.nil_append, List.take_succ_cons, List.take_zero, List.drop_succ_cons, List.drop_zero, AV.cells, List.length_nil, List.length_cons, Av.put, Nat.reduceAdd, AV.up, AV.up1, List.map_cons, List.map_nil]
        repeat (first | refine join_ret ?_ | refine join_brk ?_ | refine then_nrm ?_ | refine blk_nrm ?_ | refine then_brk ?_ | refine blk_hit ?_ | refine blk_miss rfl ?_ | refine then_ret ?_ | refine blk_ret ?_ | refine aw_seq ?_ | refine aw_block ?_ | refine aw_skip ?_ | refine aw_exit ?_ | refine aw_scope ?_ | refine aw_ret ?_)
        refine aw_of_out 8 (.bool true) ?_ ?_
        · refine aw_drawP mixed none 999 ?_
          try dsimp only [List.take_succ_cons, List.take_zero, List.take_nil, List.set_cons_zero, List.set_cons_succ, List.cons_append, List.nil_append]
          first | refine aqp 0 rfl (by decide +kernel) (by decide) (fun G => w_loadR rfl (lk rfl rfl) rfl rfl rfl) ?_ | refine aqp 0 rfl (by decide +kernel) (by decide) (fun G => w_loadR rfl (lk rfl rfl) rfl (zadd hr) rfl) ?_ | refine aqp 0 rfl (by decide +kernel) (by decide) (fun G => w_loadR rfl (lk rfl rfl) rfl (zadd hr1) rfl) ?_ | refine aqp 0 rfl (by decide +kernel) (by decide) (fun G => w_loadR rfl (lk rfl rfl) rfl (zadd hr2) rfl) ?_ | refine aqp 0 rfl (by decide +kernel) (by decide) (fun G => w_loadRp rfl hr rfl) ?_ | refine aqp 0 rfl (by decide +kernel) (by decide) (fun G => w_loadRp rfl hr1 rfl) ?_ | refine aqp 0 rfl (by decide +kernel) (by decide) (fun G => w_loadRp rfl hr2 rfl) ?_ | refine aqp 0 rfl (by decide +kernel) (by decide) (fun G => w_loadN (cs := [_, _, _, _, _, _, _]) rfl (lk rfl rfl) rfl rfl rfl rfl) ?_ | refine aqp 0 rfl (by decide +kernel) (by decide) (fun G => o_loadNp (cs := [_, _, _, _, _, _, _]) rfl hr rfl rfl) ?_ | refine aqp 0 rfl (by decide +kernel) (by decide) (fun G => o_loadNp (cs := [_, _, _, _, _, _, _]) rfl hr1 rfl rfl) ?_ | refine aqp 0 rfl (by decide +kernel) (by decide) (fun G => o_loadNp (cs := [_, _, _, _, _, _, _]) rfl hr2 rfl rfl) ?_ | refine aqp 0 rfl (by decide +kernel) (by decide) (fun G => w_loadR rfl (lkF hF) rfl rfl rfl) ?_ | refine aqp 0 rfl (by decide +kernel) (by decide) (fun G => w_loadN (cs := [_, _, _, _, _, _, _]) rfl (lkF hF) rfl rfl rfl rfl) ?_
          refine aq0 1 rfl (by decide +kernel) (by decide) (fun _ => o_move (v := .int _ _) rfl) ?_
          refine aq02 2 rfl (by decide +kernel) (by decide) (fun _ => V2.call (spec_Ends _ _ _) rfl) ?_
          first | refine aqp 3 rfl (by decide +kernel) (by decide) (fun G => w_loadR rfl (lk rfl rfl) rfl rfl rfl) ?_ | refine aqp 3 rfl (by decide +kernel) (by decide) (fun G => w_loadR rfl (lk rfl rfl) rfl (zadd hr) rfl) ?_ | refine aqp 3 rfl (by decide +kernel) (by decide) (fun G => w_loadR rfl (lk rfl rfl) rfl (zadd hr1) rfl) ?_ | refine aqp 3 rfl (by decide +kernel) (by decide) (fun G => w_loadR rfl (lk rfl rfl) rfl (zadd hr2) rfl) ?_ | refine aqp 3 rfl (by decide +kernel) (by decide) (fun G => w_loadRp rfl hr rfl) ?_ | refine aqp 3 rfl (by decide +kernel) (by decide) (fun G => w_loadRp rfl hr1 rfl) ?_ | refine aqp 3 rfl (by decide +kernel) (by decide) (fun G => w_loadRp rfl hr2 rfl) ?_ | refine aqp 3 rfl (by decide +kernel) (by decide) (fun G => w_loadN (cs := [_, _, _, _, _, _, _]) rfl (lk rfl rfl) rfl rfl rfl rfl) ?_ | refine aqp 3 rfl (by decide +kernel) (by decide) (fun G => o_loadNp (cs := [_, _, _, _, _, _, _]) rfl hr rfl rfl) ?_ | refine aqp 3 rfl (by decide +kernel) (by decide) (fun G => o_loadNp (cs := [_, _, _, _, _, _, _]) rfl hr1 rfl rfl) ?_ | refine aqp 3 rfl (by decide +kernel) (by decide) (fun G => o_loadNp (cs := [_, _, _, _, _, _, _]) rfl hr2 rfl rfl) ?_ | refine aqp 3 rfl (by decide +kernel) (by decide) (fun G => w_loadR rfl (lkF hF) rfl rfl rfl) ?_ | refine aqp 3 rfl (by decide +kernel) (by decide) (fun G => w_loadN (cs := [_, _, _, _, _, _, _]) rfl (lkF hF) rfl rfl rfl rfl) ?_
          refine aq0 4 rfl (by decide +kernel) (by decide) (fun _ => o_move (v := .int _ _) rfl) ?_
          refine aq02 5 rfl (by decide +kernel) (by decide) (fun _ => V2.call (ref07_Ends _ _ _ (by assumption)) rfl) ?_
          refine aq0 6 rfl (by decide +kernel) (by decide) (fun _ => o_eq rfl rfl) ?_
          refine aq0 7 rfl (by decide +kernel) (by decide) (fun _ => o_move (v := .bool _) rfl) ?_
          refine aq_split (g := 101) rfl (fun hg7 => ?_) (fun hg7 => ?_)
          · first | refine aqyp (g := 101) 8 rfl (by decide +kernel) (by decide) rfl rfl (fun G => w_loadR rfl (lk rfl rfl) rfl rfl rfl) ?_ | refine aqyp (g := 101) 8 rfl (by decide +kernel) (by decide) rfl rfl (fun G => w_loadR rfl (lk rfl rfl) rfl (zadd hr) rfl) ?_ | refine aqyp (g := 101) 8 rfl (by decide +kernel) (by decide) rfl rfl (fun G => w_loadR rfl (lk rfl rfl) rfl (zadd hr1) rfl) ?_ | refine aqyp (g := 101) 8 rfl (by decide +kernel) (by decide) rfl rfl (fun G => w_loadR rfl (lk rfl rfl) rfl (zadd hr2) rfl) ?_ | refine aqyp (g := 101) 8 rfl (by decide +kernel) (by decide) rfl rfl (fun G => w_loadRp rfl hr rfl) ?_ | refine aqyp (g := 101) 8 rfl (by decide +kernel) (by decide) rfl rfl (fun G => w_loadRp rfl hr1 rfl) ?_ | refine aqyp (g := 101) 8 rfl (by decide +kernel) (by decide) rfl rfl (fun G => w_loadRp rfl hr2 rfl) ?_ | refine aqyp (g := 101) 8 rfl (by decide +kernel) (by decide) rfl rfl (fun G => w_loadN (cs := [_, _, _, _, _, _, _]) rfl (lk rfl rfl) rfl rfl rfl rfl) ?_ | refine aqyp (g := 101) 8 rfl (by decide +kernel) (by decide) rfl rfl (fun G => o_loadNp (cs := [_, _, _, _, _, _, _]) rfl hr rfl rfl) ?_ | refine aqyp (g := 101) 8 rfl (by decide +kernel) (by decide) rfl rfl (fun G => o_loadNp (cs := [_, _, _, _, _, _, _]) rfl hr1 rfl rfl) ?_ | refine aqyp (g := 101) 8 rfl (by decide +kernel) (by decide) rfl rfl (fun G => o_loadNp (cs := [_, _, _, _, _, _, _]) rfl hr2 rfl rfl) ?_ | refine aqyp (g := 101) 8 rfl (by decide +kernel) (by decide) rfl rfl (fun G => w_loadR rfl (lkF hF) rfl rfl rfl) ?_ | refine aqyp (g := 101) 8 rfl (by decide +kernel) (by decide) rfl rfl (fun G => w_loadN (cs := [_, _, _, _, _, _, _]) rfl (lkF hF) rfl rfl rfl rfl) ?_
            first | refine aqyp (g := 101) 9 rfl (by decide +kernel) (by decide) rfl rfl (fun G => w_loadR rfl (lk rfl rfl) rfl rfl rfl) ?_ | refine aqyp (g := 101) 9 rfl (by decide +kernel) (by decide) rfl rfl (fun G => w_loadR rfl (lk rfl rfl) rfl (zadd hr) rfl) ?_ | refine aqyp (g := 101) 9 rfl (by decide +kernel) (by decide) rfl rfl (fun G => w_loadR rfl (lk rfl rfl) rfl (zadd hr1) rfl) ?_ | refine aqyp (g := 101) 9 rfl (by decide +kernel) (by decide) rfl rfl (fun G => w_loadR rfl (lk rfl rfl) rfl (zadd hr2) rfl) ?_ | refine aqyp (g := 101) 9 rfl (by decide +kernel) (by decide) rfl rfl (fun G => w_loadRp rfl hr rfl) ?_ | refine aqyp (g := 101) 9 rfl (by decide +kernel) (by decide) rfl rfl (fun G => w_loadRp rfl hr1 rfl) ?_ | refine aqyp (g := 101) 9 rfl (by decide +kernel) (by decide) rfl rfl (fun G => w_loadRp rfl hr2 rfl) ?_ | refine aqyp (g := 101) 9 rfl (by decide +kernel) (by decide) rfl rfl (fun G => w_loadN (cs := [_, _, _, _, _, _, _]) rfl (lk rfl rfl) rfl rfl rfl rfl) ?_ | refine aqyp (g := 101) 9 rfl (by decide +kernel) (by decide) rfl rfl (fun G => o_loadNp (cs := [_, _, _, _, _, _, _]) rfl hr rfl rfl) ?_ | refine aqyp (g := 101) 9 rfl (by decide +kernel) (by decide) rfl rfl (fun G => o_loadNp (cs := [_, _, _, _, _, _, _]) rfl hr1 rfl rfl) ?_ | refine aqyp (g := 101) 9 rfl (by decide +kernel) (by decide) rfl rfl (fun G => o_loadNp (cs := [_, _, _, _, _, _, _]) rfl hr2 rfl rfl) ?_ | refine aqyp (g := 101) 9 rfl (by decide +kernel) (by decide) rfl rfl (fun G => w_loadR rfl (lkF hF) rfl rfl rfl) ?_ | refine aqyp (g := 101) 9 rfl (by decide +kernel) (by decide) rfl rfl (fun G => w_loadN (cs := [_, _, _, _, _, _, _]) rfl (lkF hF) rfl rfl rfl rfl) ?_
            refine aqy02 (g := 101) 10 rfl (by decide +kernel) (by decide) rfl rfl (fun _ => V2.call (spec_Ahead _ _ _) rfl) ?_
            first | refine aqyp (g := 101) 11 rfl (by decide +kernel) (by decide) rfl rfl (fun G => w_loadR rfl (lk rfl rfl) rfl rfl rfl) ?_ | refine aqyp (g := 101) 11 rfl (by decide +kernel) (by decide) rfl rfl (fun G => w_loadR rfl (lk rfl rfl) rfl (zadd hr) rfl) ?_ | refine aqyp (g := 101) 11 rfl (by decide +kernel) (by decide) rfl rfl (fun G => w_loadR rfl (lk rfl rfl) rfl (zadd hr1) rfl) ?_ | refine aqyp (g := 101) 11 rfl (by decide +kernel) (by decide) rfl rfl (fun G => w_loadR rfl (lk rfl rfl) rfl (zadd hr2) rfl) ?_ | refine aqyp (g := 101) 11 rfl (by decide +kernel) (by decide) rfl rfl (fun G => w_loadRp rfl hr rfl) ?_ | refine aqyp (g := 101) 11 rfl (by decide +kernel) (by decide) rfl rfl (fun G => w_loadRp rfl hr1 rfl) ?_ | refine aqyp (g := 101) 11 rfl (by decide +kernel) (by decide) rfl rfl (fun G => w_loadRp rfl hr2 rfl) ?_ | refine aqyp (g := 101) 11 rfl (by decide +kernel) (by decide) rfl rfl (fun G => w_loadN (cs := [_, _, _, _, _, _, _]) rfl (lk rfl rfl) rfl rfl rfl rfl) ?_ | refine aqyp (g := 101) 11 rfl (by decide +kernel) (by decide) rfl rfl (fun G => o_loadNp (cs := [_, _, _, _, _, _, _]) rfl hr rfl rfl) ?_ | refine aqyp (g := 101) 11 rfl (by decide +kernel) (by decide) rfl rfl (fun G => o_loadNp (cs := [_, _, _, _, _, _, _]) rfl hr1 rfl rfl) ?_ | refine aqyp (g := 101) 11 rfl (by decide +kernel) (by decide) rfl rfl (fun G => o_loadNp (cs := [_, _, _, _, _, _, _]) rfl hr2 rfl rfl) ?_ | refine aqyp (g := 101) 11 rfl (by decide +kernel) (by decide) rfl rfl (fun G => w_loadR rfl (lkF hF) rfl rfl rfl) ?_ | refine aqyp (g := 101) 11 rfl (by decide +kernel) (by decide) rfl rfl (fun G => w_loadN (cs := [_, _, _, _, _, _, _]) rfl (lkF hF) rfl rfl rfl rfl) ?_
            first | refine aqyp (g := 101) 12 rfl (by decide +kernel) (by decide) rfl rfl (fun G => w_loadR rfl (lk rfl rfl) rfl rfl rfl) ?_ | refine aqyp (g := 101) 12 rfl (by decide +kernel) (by decide) rfl rfl (fun G => w_loadR rfl (lk rfl rfl) rfl (zadd hr) rfl) ?_ | refine aqyp (g := 101) 12 rfl (by decide +kernel) (by decide) rfl rfl (fun G => w_loadR rfl (lk rfl rfl) rfl (zadd hr1) rfl) ?_ | refine aqyp (g := 101) 12 rfl (by decide +kernel) (by decide) rfl rfl (fun G => w_loadR rfl (lk rfl rfl) rfl (zadd hr2) rfl) ?_ | refine aqyp (g := 101) 12 rfl (by decide +kernel) (by decide) rfl rfl (fun G => w_loadRp rfl hr rfl) ?_ | refine aqyp (g := 101) 12 rfl (by decide +kernel) (by decide) rfl rfl (fun G => w_loadRp rfl hr1 rfl) ?_ | refine aqyp (g := 101) 12 rfl (by decide +kernel) (by decide) rfl rfl (fun G => w_loadRp rfl hr2 rfl) ?_ | refine aqyp (g := 101) 12 rfl (by decide +kernel) (by decide) rfl rfl (fun G => w_loadN (cs := [_, _, _, _, _, _, _]) rfl (lk rfl rfl) rfl rfl rfl rfl) ?_ | refine aqyp (g := 101) 12 rfl (by decide +kernel) (by decide) rfl rfl (fun G => o_loadNp (cs := [_, _, _, _, _, _, _]) rfl hr rfl rfl) ?_ | refine aqyp (g := 101) 12 rfl (by decide +kernel) (by decide) rfl rfl (fun G => o_loadNp (cs := [_, _, _, _, _, _, _]) rfl hr1 rfl rfl) ?_ | refine aqyp (g := 101) 12 rfl (by decide +kernel) (by decide) rfl rfl (fun G => o_loadNp (cs := [_, _, _, _, _, _, _]) rfl hr2 rfl rfl) ?_ | refine aqyp (g := 101) 12 rfl (by decide +kernel) (by decide) rfl rfl (fun G => w_loadR rfl (lkF hF) rfl rfl rfl) ?_ | refine aqyp (g := 101) 12 rfl (by decide +kernel) (by decide) rfl rfl (fun G => w_loadN (cs := [_, _, _, _, _, _, _]) rfl (lkF hF) rfl rfl rfl rfl) ?_
            refine aqy02 (g := 101) 13 rfl (by decide +kernel) (by decide) rfl rfl (fun _ => V2.call (ref07_Ahead _ _ _ (by assumption) (by assumption)) rfl) ?_
            refine aqy0 (g := 101) 14 rfl (by decide +kernel) (by decide) rfl rfl (fun _ => o_beq rfl rfl) ?_
            first | refine aq0 15 rfl (by decide +kernel) (by decide) (fun _ => o_pick_t (v := .bool _) rfl rfl) ?_ | refine aq0 15 rfl (by decide +kernel) (by decide) (fun _ => o_pick_f (v := .bool _) rfl rfl) ?_ | refine aq0 15 rfl (by decide +kernel) (by decide) (fun _ => o_pick_b rfl rfl rfl) ?_
            refine aq0 16 rfl (by decide +kernel) (by decide) (fun _ => o_move (v := .bool _) rfl) ?_
            refine aq_split (g := 110) rfl (fun hg16 => ?_) (fun hg16 => ?_)
            · first | refine aqyp (g := 110) 17 rfl (by decide +kernel) (by decide) rfl rfl (fun G => w_loadR rfl (lk rfl rfl) rfl rfl rfl) ?_ | refine aqyp (g := 110) 17 rfl (by decide +kernel) (by decide) rfl rfl (fun G => w_loadR rfl (lk rfl rfl) rfl (zadd hr) rfl) ?_ | refine aqyp (g := 110) 17 rfl (by decide +kernel) (by decide) rfl rfl (fun G => w_loadR rfl (lk rfl rfl) rfl (zadd hr1) rfl) ?_ | refine aqyp (g := 110) 17 rfl (by decide +kernel) (by decide) rfl rfl (fun G => w_loadR rfl (lk rfl rfl) rfl (zadd hr2) rfl) ?_ | refine aqyp (g := 110) 17 rfl (by decide +kernel) (by decide) rfl rfl (fun G => w_loadRp rfl hr rfl) ?_ | refine aqyp (g := 110) 17 rfl (by decide +kernel) (by decide) rfl rfl (fun G => w_loadRp rfl hr1 rfl) ?_ | refine aqyp (g := 110) 17 rfl (by decide +kernel) (by decide) rfl rfl (fun G => w_loadRp rfl hr2 rfl) ?_ | refine aqyp (g := 110) 17 rfl (by decide +kernel) (by decide) rfl rfl (fun G => w_loadN (cs := [_, _, _, _, _, _, _]) rfl (lk rfl rfl) rfl rfl rfl rfl) ?_ | refine aqyp (g := 110) 17 rfl (by decide +kernel) (by decide) rfl rfl (fun G => o_loadNp (cs := [_, _, _, _, _, _, _]) rfl hr rfl rfl) ?_ | refine aqyp (g := 110) 17 rfl (by decide +kernel) (by decide) rfl rfl (fun G => o_loadNp (cs := [_, _, _, _, _, _, _]) rfl hr1 rfl rfl) ?_ | refine aqyp (g := 110) 17 rfl (by decide +kernel) (by decide) rfl rfl (fun G => o_loadNp (cs := [_, _, _, _, _, _, _]) rfl hr2 rfl rfl) ?_ | refine aqyp (g := 110) 17 rfl (by decide +kernel) (by decide) rfl rfl (fun G => w_loadR rfl (lkF hF) rfl rfl rfl) ?_ | refine aqyp (g := 110) 17 rfl (by decide +kernel) (by decide) rfl rfl (fun G => w_loadN (cs := [_, _, _, _, _, _, _]) rfl (lkF hF) rfl rfl rfl rfl) ?_
              first | refine aqyp (g := 110) 18 rfl (by decide +kernel) (by decide) rfl rfl (fun G => w_loadR rfl (lk rfl rfl) rfl rfl rfl) ?_ | refine aqyp (g := 110) 18 rfl (by decide +kernel) (by decide) rfl rfl (fun G => w_loadR rfl (lk rfl rfl) rfl (zadd hr) rfl) ?_ | refine aqyp (g := 110) 18 rfl (by decide +kernel) (by decide) rfl rfl (fun G => w_loadR rfl (lk rfl rfl) rfl (zadd hr1) rfl) ?_ | refine aqyp (g := 110) 18 rfl (by decide +kernel) (by decide) rfl rfl (fun G => w_loadR rfl (lk rfl rfl) rfl (zadd hr2) rfl) ?_ | refine aqyp (g := 110) 18 rfl (by decide +kernel) (by decide) rfl rfl (fun G => w_loadRp rfl hr rfl) ?_ | refine aqyp (g := 110) 18 rfl (by decide +kernel) (by decide) rfl rfl (fun G => w_loadRp rfl hr1 rfl) ?_ | refine aqyp (g := 110) 18 rfl (by decide +kernel) (by decide) rfl rfl (fun G => w_loadRp rfl hr2 rfl) ?_ | refine aqyp (g := 110) 18 rfl (by decide +kernel) (by decide) rfl rfl (fun G => w_loadN (cs := [_, _, _, _, _, _, _]) rfl (lk rfl rfl) rfl rfl rfl rfl) ?_ | refine aqyp (g := 110) 18 rfl (by decide +kernel) (by decide) rfl rfl (fun G => o_loadNp (cs := [_, _, _, _, _, _, _]) rfl hr rfl rfl) ?_ | refine aqyp (g := 110) 18 rfl (by decide +kernel) (by decide) rfl rfl (fun G => o_loadNp (cs := [_, _, _, _, _, _, _]) rfl hr1 rfl rfl) ?_ | refine aqyp (g := 110) 18 rfl (by decide +kernel) (by decide) rfl rfl (fun G => o_loadNp (cs := [_, _, _, _, _, _, _]) rfl hr2 rfl rfl) ?_ | refine aqyp (g := 110) 18 rfl (by decide +kernel) (by decide) rfl rfl (fun G => w_loadR rfl (lkF hF) rfl rfl rfl) ?_ | refine aqyp (g := 110) 18 rfl (by decide +kernel) (by decide) rfl rfl (fun G => w_loadN (cs := [_, _, _, _, _, _, _]) rfl (lkF hF) rfl rfl rfl rfl) ?_
              refine aqy0 (g := 110) 19 rfl (by decide +kernel) (by decide) rfl rfl (fun _ => o_eqAgg (us := uSpec spec0) (vs := uSpec spec0) rfl rfl rfl rfl (by kernel_rfl) (eqSpec_run spec0 spec0)) ?_
              first | refine aq0 20 rfl (by decide +kernel) (by decide) (fun _ => o_pick_t (v := .bool _) rfl rfl) ?_ | refine aq0 20 rfl (by decide +kernel) (by decide) (fun _ => o_pick_f (v := .bool _) rfl rfl) ?_ | refine aq0 20 rfl (by decide +kernel) (by decide) (fun _ => o_pick_b rfl rfl rfl) ?_
              refine aq0 21 rfl (by decide +kernel) (by decide) (fun _ => o_move (v := .bool _) rfl) ?_
              refine aq_split (g := 115) rfl (fun hg21 => ?_) (fun hg21 => ?_)
              · refine aqy0 (g := 115) 22 rfl (by decide +kernel) (by decide) rfl rfl (fun _ => o_move (v := .int _ _) rfl) ?_
                refine aqy0 (g := 115) 23 rfl (by decide +kernel) (by decide) rfl rfl (fun _ => o_move (v := .int _ _) rfl) ?_
                refine aqy0 (g := 115) 24 rfl (by decide +kernel) (by decide) rfl rfl (fun _ => o_eq rfl rfl) ?_
                first | refine aq0 25 rfl (by decide +kernel) (by decide) (fun _ => o_pick_t (v := .bool _) rfl rfl) ?_ | refine aq0 25 rfl (by decide +kernel) (by decide) (fun _ => o_pick_f (v := .bool _) rfl rfl) ?_ | refine aq0 25 rfl (by decide +kernel) (by decide) (fun _ => o_pick_b rfl rfl rfl) ?_
                refine aq0 26 rfl (by decide +kernel) (by decide) (fun _ => o_assign (v := .bool _) rfl) ?_
                exact aa_done (by decide +kernel) (by first | exact fun _ => trivial | exact fun _ => ⟨_, rfl⟩ | exact fun _ => ⟨_, rfl, rfl⟩ | exact yet_done (by decide +kernel)) (Out.mk (by first | rfl | (refine congrArg AV.bool ?_; first | (simp at *; done) | (simp_all; done))) (by repeat (first | exact SubX.refl _ _ | refine SubX.at ?_ | refine SubX.put rfl ?_ | refine SubX.put_same rfl ?_)))
              · refine aqn0 (g := 115) 22 rfl (by decide +kernel) (by decide) rfl rfl rfl ?_
                refine aqn0 (g := 115) 23 rfl (by decide +kernel) (by decide) rfl rfl rfl ?_
                refine aqn0 (g := 115) 24 rfl (by decide +kernel) (by decide) rfl rfl rfl ?_
                first | refine aq0 25 rfl (by decide +kernel) (by decide) (fun _ => o_pick_t (v := .bool _) rfl rfl) ?_ | refine aq0 25 rfl (by decide +kernel) (by decide) (fun _ => o_pick_f (v := .bool _) rfl rfl) ?_ | refine aq0 25 rfl (by decide +kernel) (by decide) (fun _ => o_pick_b rfl rfl rfl) ?_
                refine aq0 26 rfl (by decide +kernel) (by decide) (fun _ => o_assign (v := .bool _) rfl) ?_
                exact aa_done (by decide +kernel) (by first | exact fun _ => trivial | exact fun _ => ⟨_, rfl⟩ | exact fun _ => ⟨_, rfl, rfl⟩ | exact yet_done (by decide +kernel)) (Out.mk (by first | rfl | (refine congrArg AV.bool ?_; first | (simp at *; done) | (simp_all; done))) (by repeat (first | exact SubX.refl _ _ | refine SubX.at ?_ | refine SubX.put rfl ?_ | refine SubX.put_same rfl ?_)))
            · refine aqn0 (g := 110) 17 rfl (by decide +kernel) (by decide) rfl rfl rfl ?_
              refine aqn0 (g := 110) 18 rfl (by decide +kernel) (by decide) rfl rfl rfl ?_
              refine aqn0 (g := 110) 19 rfl (by decide +kernel) (by decide) rfl rfl rfl ?_
              first | refine aq0 20 rfl (by decide +kernel) (by decide) (fun _ => o_pick_t (v := .bool _) rfl rfl) ?_ | refine aq0 20 rfl (by decide +kernel) (by decide) (fun _ => o_pick_f (v := .bool _) rfl rfl) ?_ | refine aq0 20 rfl (by decide +kernel) (by decide) (fun _ => o_pick_b rfl rfl rfl) ?_
              refine aq0 21 rfl (by decide +kernel) (by decide) (fun _ => o_move (v := .bool _) rfl) ?_
              refine aqn0 (g := 115) 22 rfl (by decide +kernel) (by decide) rfl rfl rfl ?_
              refine aqn0 (g := 115) 23 rfl (by decide +kernel) (by decide) rfl rfl rfl ?_
              refine aqn0 (g := 115) 24 rfl (by decide +kernel) (by decide) rfl rfl rfl ?_
              first | refine aq0 25 rfl (by decide +kernel) (by decide) (fun _ => o_pick_t (v := .bool _) rfl rfl) ?_ | refine aq0 25 rfl (by decide +kernel) (by decide) (fun _ => o_pick_f (v := .bool _) rfl rfl) ?_ | refine aq0 25 rfl (by decide +kernel) (by decide) (fun _ => o_pick_b rfl rfl rfl) ?_
              refine aq0 26 rfl (by decide +kernel) (by decide) (fun _ => o_assign (v := .bool _) rfl) ?_
              exact aa_done (by decide +kernel) (by first | exact fun _ => trivial | exact fun _ => ⟨_, rfl⟩ | exact fun _ => ⟨_, rfl, rfl⟩ | exact yet_done (by decide +kernel)) (Out.mk (by first | rfl | (refine congrArg AV.bool ?_; first | (simp at *; done) | (simp_all; done))) (by repeat (first | exact SubX.refl _ _ | refine SubX.at ?_ | refine SubX.put rfl ?_ | refine SubX.put_same rfl ?_)))
          · refine aqn0 (g := 101) 8 rfl (by decide +kernel) (by decide) rfl rfl rfl ?_
            refine aqn0 (g := 101) 9 rfl (by decide +kernel) (by decide) rfl rfl rfl ?_
            refine aqn0 (g := 101) 10 rfl (by decide +kernel) (by decide) rfl rfl rfl ?_
            refine aqn0 (g := 101) 11 rfl (by decide +kernel) (by decide) rfl rfl rfl ?_
            refine aqn0 (g := 101) 12 rfl (by decide +kernel) (by decide) rfl rfl rfl ?_
            refine aqn0 (g := 101) 13 rfl (by decide +kernel) (by decide) rfl rfl rfl ?_
            refine aqn0 (g := 101) 14 rfl (by decide +kernel) (by decide) rfl rfl rfl ?_
            first | refine aq0 15 rfl (by decide +kernel) (by decide) (fun _ => o_pick_t (v := .bool _) rfl rfl) ?_ | refine aq0 15 rfl (by decide +kernel) (by decide) (fun _ => o_pick_f (v := .bool _) rfl rfl) ?_ | refine aq0 15 rfl (by decide +kernel) (by decide) (fun _ => o_pick_b rfl rfl rfl) ?_
            refine aq0 16 rfl (by decide +kernel) (by decide) (fun _ => o_move (v := .bool _) rfl) ?_
            refine aqn0 (g := 110) 17 rfl (by decide +kernel) (by decide) rfl rfl rfl ?_
            refine aqn0 (g := 110) 18 rfl (by decide +kernel) (by decide) rfl rfl rfl ?_
            refine aqn0 (g := 110) 19 rfl (by decide +kernel) (by decide) rfl rfl rfl ?_
            first | refine aq0 20 rfl (by decide +kernel) (by decide) (fun _ => o_pick_t (v := .bool _) rfl rfl) ?_ | refine aq0 20 rfl (by decide +kernel) (by decide) (fun _ => o_pick_f (v := .bool _) rfl rfl) ?_ | refine aq0 20 rfl (by decide +kernel) (by decide) (fun _ => o_pick_b rfl rfl rfl) ?_
            refine aq0 21 rfl (by decide +kernel) (by decide) (fun _ => o_move (v := .bool _) rfl) ?_
            refine aqn0 (g := 115) 22 rfl (by decide +kernel) (by decide) rfl rfl rfl ?_
            refine aqn0 (g := 115) 23 rfl (by decide +kernel) (by decide) rfl rfl rfl ?_
            refine aqn0 (g := 115) 24 rfl (by decide +kernel) (by decide) rfl rfl rfl ?_
            first | refine aq0 25 rfl (by decide +kernel) (by decide) (fun _ => o_pick_t (v := .bool _) rfl rfl) ?_ | refine aq0 25 rfl (by decide +kernel) (by decide) (fun _ => o_pick_f (v := .bool _) rfl rfl) ?_ | refine aq0 25 rfl (by decide +kernel) (by decide) (fun _ => o_pick_b rfl rfl rfl) ?_
            refine aq0 26 rfl (by decide +kernel) (by decide) (fun _ => o_assign (v := .bool _) rfl) ?_
            exact aa_done (by decide +kernel) (by first | exact fun _ => trivial | exact fun _ => ⟨_, rfl⟩ | exact fun _ => ⟨_, rfl, rfl⟩ | exact yet_done (by decide +kernel)) (Out.mk (by first | rfl | (refine congrArg AV.bool ?_; first | (simp at *; done) | (simp_all; done))) (by repeat (first | exact SubX.refl _ _ | refine SubX.at ?_ | refine SubX.put rfl ?_ | refine SubX.put_same rfl ?_)))
        repeat (first | refine join_ret ?_ | refine join_brk ?_ | refine then_nrm ?_ | refine blk_nrm ?_ | refine then_brk ?_ | refine blk_hit ?_ | refine blk_miss rfl ?_ | refine then_ret ?_ | refine blk_ret ?_ | refine aw_seq ?_ | refine aw_block ?_ | refine aw_skip ?_ | refine aw_exit ?_ | refine aw_scope ?_ | refine aw_ret ?_)
        exact e_done hB (r_tmp rfl .nil) rfl rfl
      · simp at hc; omega
    · have hn : 0 ≤ n := by simpa [hs] using h1
      rw [h3] at c7
      repeat (first | refine join_ret ?_ | refine join_brk ?_ | refine then_nrm ?_ | refine blk_nrm ?_ | refine then_brk ?_ | refine blk_hit ?_ | refine blk_miss rfl ?_ | refine then_ret ?_ | refine blk_ret ?_ | refine aw_seq ?_ | refine aw_block ?_ | refine aw_skip ?_ | refine aw_exit ?_ | refine aw_scope ?_ | refine aw_ret ?_)
      refine aw_region ?_
      first | refine ao1 (by decide) (w_loadR rfl (lk rfl rfl) rfl rfl rfl) ?_ | refine ao1 (by decide) (w_loadR rfl (lk rfl rfl) rfl (zadd hr) rfl) ?_ | refine ao1 (by decide) (w_loadR rfl (lk rfl rfl) rfl (zadd hr1) rfl) ?_ | refine ao1 (by decide) (w_loadR rfl (lk rfl rfl) rfl (zadd hr2) rfl) ?_ | refine ao1 (by decide) (w_loadRp rfl hr rfl) ?_ | refine ao1 (by decide) (w_loadRp rfl hr1 rfl) ?_ | refine ao1 (by decide) (w_loadRp rfl hr2 rfl) ?_ | refine ao1 (by decide) (w_loadN (cs := [_, _, _, _, _, _, _]) rfl (lk rfl rfl) rfl rfl rfl rfl) ?_ | refine ao1 (by decide) (o_loadNp (cs := [_, _, _, _, _, _, _]) rfl hr rfl rfl) ?_ | refine ao1 (by decide) (o_loadNp (cs := [_, _, _, _, _, _, _]) rfl hr1 rfl rfl) ?_ | refine ao1 (by decide) (o_loadNp (cs := [_, _, _, _, _, _, _]) rfl hr2 rfl rfl) ?_ | refine ao1 (by decide) (w_loadR rfl (lkF hF) rfl rfl rfl) ?_ | refine ao1 (by decide) (w_loadN (cs := [_, _, _, _, _, _, _]) rfl (lkF hF) rfl rfl rfl rfl) ?_
      refine ao1 (by decide) (o_move (v := .int _ _) rfl) ?_
      refine ao2 (by rintro _ ⟨⟩; decide) (V2.call (c7 _) rfl) ?_
      refine ao1 (by decide) (o_move (v := .tup _) rfl) ?_
      refine ao1 (by decide) (o_extract (v := .agg _) rfl rfl) ?_
      refine ao1 (by decide) (o_extract (v := .int _ _) rfl rfl) ?_
      refine ao2 (by rintro _ ⟨⟩; decide) (o_allocL (sz := 7) rfl (by decide) rfl) ?_
      first | refine ao2 (by rintro _ ⟨⟩) (w_storeW (sz := 7) rfl rfl rfl rfl rfl rfl rfl rfl (Nat.le_of_ble_eq_true rfl)) ?_ | refine ao2 (by rintro _ ⟨⟩) (w_storeFP (sz := 7) (v := .agg _) (r' := [_, _, _, _, _, _, _]) rfl hF rfl rfl rfl rfl rfl (Nat.le_of_ble_eq_true rfl) rfl) ?_ | refine ao2 (by rintro _ ⟨⟩) (w_storeFP (sz := 7) (v := .agg _) (r' := [_, _, _, _, _, _, _]) rfl hF1 rfl rfl rfl rfl rfl (Nat.le_of_ble_eq_true rfl) rfl) ?_
      refine ao1 (by decide) (o_assign (v := .int _ _) rfl) ?_
      refine ao_nil ?_
      try dsimp only [List.set_cons_zero, List.set_cons_succ, List.cons_append, List.nil_append, List.take_succ_cons, List.take_zero, List.drop_succ_cons, List.drop_zero, AV.cells, List.length_nil, List.length_cons, Av.put, Nat.reduceAdd, AV.up, AV.up1, List.map_cons, List.map_nil]
      repeat (first | refine join_ret ?_ | refine join_brk ?_ | refine then_nrm ?_ | refine blk_nrm ?_ | refine then_brk ?_ | refine blk_hit ?_ | refine blk_miss rfl ?_ | refine then_ret ?_ | refine blk_ret ?_ | refine aw_seq ?_ | refine aw_block ?_ | refine aw_skip ?_ | refine aw_exit ?_ | refine aw_scope ?_ | refine aw_ret ?_)
      refine aw_region ?_
      first | refine ao1 (by decide) (w_loadR rfl (lk rfl rfl) rfl rfl rfl) ?_ | refine ao1 (by decide) (w_loadR rfl (lk rfl rfl) rfl (zadd hr) rfl) ?_ | refine ao1 (by decide) (w_loadR rfl (lk rfl rfl) rfl (zadd hr1) rfl) ?_ | refine ao1 (by decide) (w_loadR rfl (lk rfl rfl) rfl (zadd hr2) rfl) ?_ | refine ao1 (by decide) (w_loadRp rfl hr rfl) ?_ | refine ao1 (by decide) (w_loadRp rfl hr1 rfl) ?_ | refine ao1 (by decide) (w_loadRp rfl hr2 rfl) ?_ | refine ao1 (by decide) (w_loadN (cs := [_, _, _, _, _, _, _]) rfl (lk rfl rfl) rfl rfl rfl rfl) ?_ | refine ao1 (by decide) (o_loadNp (cs := [_, _, _, _, _, _, _]) rfl hr rfl rfl) ?_ | refine ao1 (by decide) (o_loadNp (cs := [_, _, _, _, _, _, _]) rfl hr1 rfl rfl) ?_ | refine ao1 (by decide) (o_loadNp (cs := [_, _, _, _, _, _, _]) rfl hr2 rfl rfl) ?_ | refine ao1 (by decide) (w_loadR rfl (lkF hF) rfl rfl rfl) ?_ | refine ao1 (by decide) (w_loadN (cs := [_, _, _, _, _, _, _]) rfl (lkF hF) rfl rfl rfl rfl) ?_
      refine ao2 (by rintro _ ⟨⟩; decide) (o_allocL (sz := 7) rfl (by decide) rfl) ?_
      first | refine ao2 (by rintro _ ⟨⟩) (w_storeW (sz := 7) rfl rfl rfl rfl rfl rfl rfl rfl (Nat.le_of_ble_eq_true rfl)) ?_ | refine ao2 (by rintro _ ⟨⟩) (w_storeFP (sz := 7) (v := .agg _) (r' := [_, _, _, _, _, _, _]) rfl hF rfl rfl rfl rfl rfl (Nat.le_of_ble_eq_true rfl) rfl) ?_ | refine ao2 (by rintro _ ⟨⟩) (w_storeFP (sz := 7) (v := .agg _) (r' := [_, _, _, _, _, _, _]) rfl hF1 rfl rfl rfl rfl rfl (Nat.le_of_ble_eq_true rfl) rfl) ?_
      refine ao1 (by decide) (o_assign (v := .int _ _) rfl) ?_
      refine ao_nil ?_
      try dsimp only [List.set_cons_zero, List.set_cons_succ, List.cons_append, List.nil_append, List.take_succ_cons, List.take_zero, List.drop_succ_cons, List.drop_zero, AV.cells, List.length_nil, List.length_cons, Av.put, Nat.reduceAdd, AV.up, AV.up1, List.map_cons, List.map_nil]
      repeat (first | refine join_ret ?_ | refine join_brk ?_ | refine then_nrm ?_ | refine blk_nrm ?_ | refine then_brk ?_ | refine blk_hit ?_ | refine blk_miss rfl ?_ | refine then_ret ?_ | refine blk_ret ?_ | refine aw_seq ?_ | refine aw_block ?_ | refine aw_skip ?_ | refine aw_exit ?_ | refine aw_scope ?_ | refine aw_ret ?_)
      refine aw_out 82 (.bool false) ?_ ?_
      · refine ao1 (by decide) (o_move (v := .bool _) rfl) ?_
        refine ao1 (by decide) (o_not rfl) ?_
        refine ao1 (by decide) (o_move (v := .bool _) rfl) ?_
        refine ao_split rfl rfl (fun hg2 => ?_) (fun hg2 => ?_)
        · refine ao_nF rfl rfl (by decide) ?_
          refine ao_nF rfl rfl (by decide) ?_
          first | refine ao1 (by decide) (o_pick_t (v := .bool _) rfl rfl) ?_ | refine ao1 (by decide) (o_pick_f (v := .bool _) rfl rfl) ?_ | refine ao1 (by decide) (o_pick_b rfl rfl rfl) ?_
          exact ao_nil (Out.mk (by first | rfl | (refine congrArg AV.bool ?_; first | (simp at *; done) | (simp_all; done) | (simp at *; omega))) (by repeat (first | exact SubX.refl _ _ | refine SubX.at ?_ | refine SubX.put rfl ?_ | refine SubX.put_same rfl ?_)))
        · refine ao_y1 rfl rfl (by decide) (o_move (v := .int _ _) rfl) ?_
          refine ao_y1 rfl rfl (by decide) (o_lt rfl rfl) ?_
          first | refine ao1 (by decide) (o_pick_t (v := .bool _) rfl rfl) ?_ | refine ao1 (by decide) (o_pick_f (v := .bool _) rfl rfl) ?_ | refine ao1 (by decide) (o_pick_b rfl rfl rfl) ?_
          exact ao_nil (Out.mk (by first | rfl | (refine congrArg AV.bool ?_; first | (simp at *; done) | (simp_all; done) | (simp at *; omega))) (by repeat (first | exact SubX.refl _ _ | refine SubX.at ?_ | refine SubX.put rfl ?_ | refine SubX.put_same rfl ?_)))
      repeat (first | refine join_ret ?_ | refine join_brk ?_ | refine then_nrm ?_ | refine blk_nrm ?_ | refine then_brk ?_ | refine blk_hit ?_ | refine blk_miss rfl ?_ | refine then_ret ?_ | refine blk_ret ?_ | refine aw_seq ?_ | refine aw_block ?_ | refine aw_skip ?_ | refine aw_exit ?_ | refine aw_scope ?_ | refine aw_ret ?_)
      refine aw_cond rfl (fun hc => ?_) (fun hc => ?_)
      · simp at hc
      repeat (first | refine join_ret ?_ | refine join_brk ?_ | refine then_nrm ?_ | refine blk_nrm ?_ | refine then_brk ?_ | refine blk_hit ?_ | refine blk_miss rfl ?_ | refine then_ret ?_ | refine blk_ret ?_ | refine aw_seq ?_ | refine aw_block ?_ | refine aw_skip ?_ | refine aw_exit ?_ | refine aw_scope ?_ | refine aw_ret ?_)
      refine aw_region ?_
      refine ao1 (by decide) (o_move (v := .int _ _) rfl) ?_
      first | refine ao1 (by decide) (w_fieldAddr rfl (lk rfl rfl) rfl (by decide)) ?_ | refine ao1 (by decide) (w_fieldAddrp rfl (by decide)) ?_ | refine ao1 (by decide) (w_fieldAddr rfl (lkF hF) rfl (by decide)) ?_
      first | refine ao1 (by decide) (w_load1 (v := .int _ _) rfl (lk rfl rfl) rfl rfl rfl) ?_ | refine ao1 (by decide) (w_load1 (v := .int _ _) rfl (lk rfl rfl) rfl (zadd hr) rfl) ?_ | refine ao1 (by decide) (w_load1 (v := .int _ _) rfl (lk rfl rfl) rfl (zadd hr1) rfl) ?_ | refine ao1 (by decide) (w_load1 (v := .int _ _) rfl (lk rfl rfl) rfl (zadd hr2) rfl) ?_ | refine ao1 (by decide) (o_load1p (v := .int _ _) rfl hr rfl) ?_ | refine ao1 (by decide) (o_load1p (v := .int _ _) rfl hr1 rfl) ?_ | refine ao1 (by decide) (o_load1p (v := .int _ _) rfl hr2 rfl) ?_ | refine ao1 (by decide) (w_load1 (v := .int _ _) rfl (lkF hF) rfl rfl rfl) ?_
      refine ao1 (by decide) (o_ge rfl rfl) ?_
      refine ao_nil ?_
      try dsimp only [List.set_cons_zero, List.set_cons_succ, List.cons_append, List.nil_append, List.take_succ_cons, List.take_zero, List.drop_succ_cons, List.drop_zero, AV.cells, List.length_nil, List.length_cons, Av.put, Nat.reduceAdd, AV.up, AV.up1, List.map_cons, List.map_nil]
      repeat (first | refine join_ret ?_ | refine join_brk ?_ | refine then_nrm ?_ | refine blk_nrm ?_ | refine then_brk ?_ | refine blk_hit ?_ | refine blk_miss rfl ?_ | refine then_ret ?_ | refine blk_ret ?_ | refine aw_seq ?_ | refine aw_block ?_ | refine aw_skip ?_ | refine aw_exit ?_ | refine aw_scope ?_ | refine aw_ret ?_)
      refine aw_cond rfl (fun hc => ?_) (fun hc => ?_)
      · simp at hc; omega
      · repeat (first | refine join_ret ?_ | refine join_brk ?_ | refine then_nrm ?_ | refine blk_nrm ?_ | refine then_brk ?_ | refine blk_hit ?_ | refine blk_miss rfl ?_ | refine then_ret ?_ | refine blk_ret ?_ | refine aw_seq ?_ | refine aw_block ?_ | refine aw_skip ?_ | refine aw_exit ?_ | refine aw_scope ?_ | refine aw_ret ?_)
        refine aw_region ?_
        first | refine ao1 (by decide) (w_fieldAddr rfl (lk rfl rfl) rfl (by decide)) ?_ | refine ao1 (by decide) (w_fieldAddrp rfl (by decide)) ?_ | refine ao1 (by decide) (w_fieldAddr rfl (lkF hF) rfl (by decide)) ?_
        first | refine ao1 (by decide) (w_load1 (v := .int _ _) rfl (lk rfl rfl) rfl rfl rfl) ?_ | refine ao1 (by decide) (w_load1 (v := .int _ _) rfl (lk rfl rfl) rfl (zadd hr) rfl) ?_ | refine ao1 (by decide) (w_load1 (v := .int _ _) rfl (lk rfl rfl) rfl (zadd hr1) rfl) ?_ | refine ao1 (by decide) (w_load1 (v := .int _ _) rfl (lk rfl rfl) rfl (zadd hr2) rfl) ?_ | refine ao1 (by decide) (o_load1p (v := .int _ _) rfl hr rfl) ?_ | refine ao1 (by decide) (o_load1p (v := .int _ _) rfl hr1 rfl) ?_ | refine ao1 (by decide) (o_load1p (v := .int _ _) rfl hr2 rfl) ?_ | refine ao1 (by decide) (w_load1 (v := .int _ _) rfl (lkF hF) rfl rfl rfl) ?_
        refine ao1 (by decide) (o_move (v := .int _ _) rfl) ?_
        first | refine ao1 (by decide) (o_sub rfl rfl (wrap64_ok (by omega) (by omega))) ?_ | refine ao1 (by decide) (o_sub rfl rfl rfl) ?_
        first | refine ao1 (by decide) (w_fieldAddr rfl (lk rfl rfl) rfl (by decide)) ?_ | refine ao1 (by decide) (w_fieldAddrp rfl (by decide)) ?_ | refine ao1 (by decide) (w_fieldAddr rfl (lkF hF) rfl (by decide)) ?_
        first | refine ao2 (by rintro _ ⟨⟩) (w_storeP (sz := 1) (v := .int _ _) (r' := [_, _, _, _, _, _, _]) rfl rfl rfl rfl rfl rfl rfl rfl (Nat.le_of_ble_eq_true rfl) rfl) ?_ | refine ao2 (by rintro _ ⟨⟩) (w_storeFP (sz := 1) (v := .int _ _) (r' := [_, _, _, _, _, _, _]) rfl hF rfl rfl rfl rfl rfl (Nat.le_of_ble_eq_true rfl) rfl) ?_ | refine ao2 (by rintro _ ⟨⟩) (w_storeFP (sz := 1) (v := .int _ _) (r' := [_, _, _, _, _, _, _]) rfl hF1 rfl rfl rfl rfl rfl (Nat.le_of_ble_eq_true rfl) rfl) ?_
        refine ao_nil ?_
        try dsimp only [List.set_cons_zero, List.set_cons_succ, List.cons_append, List.nil_append, List.take_succ_cons, List.take_zero, List.drop_succ_cons, List.drop_zero, AV.cells, List.length_nil, List.length_cons, Av.put, Nat.reduceAdd, AV.up, AV.up1, List.map_cons, List.map_nil]
        repeat (first | refine join_ret ?_ | refine join_brk ?_ | refine then_nrm ?_ | refine blk_nrm ?_ | refine then_brk ?_ | refine blk_hit ?_ | refine blk_miss rfl ?_ | refine then_ret ?_ | refine blk_ret ?_ | refine aw_seq ?_ | refine aw_block ?_ | refine aw_skip ?_ | refine aw_exit ?_ | refine aw_scope ?_ | refine aw_ret ?_)
        refine aw_of_out 8 (.bool true) ?_ ?_
        · refine aw_drawP mixed none 999 ?_
          try dsimp only [List.take_succ_cons, List.take_zero, List.take_nil, List.set_cons_zero, List.set_cons_succ, List.cons_append, List.nil_append]
          first | refine aqp 0 rfl (by decide +kernel) (by decide) (fun G => w_loadR rfl (lk rfl rfl) rfl rfl rfl) ?_ | refine aqp 0 rfl (by decide +kernel) (by decide) (fun G => w_loadR rfl (lk rfl rfl) rfl (zadd hr) rfl) ?_ | refine aqp 0 rfl (by decide +kernel) (by decide) (fun G => w_loadR rfl (lk rfl rfl) rfl (zadd hr1) rfl) ?_ | refine aqp 0 rfl (by decide +kernel) (by decide) (fun G => w_loadR rfl (lk rfl rfl) rfl (zadd hr2) rfl) ?_ | refine aqp 0 rfl (by decide +kernel) (by decide) (fun G => w_loadRp rfl hr rfl) ?_ | refine aqp 0 rfl (by decide +kernel) (by decide) (fun G => w_loadRp rfl hr1 rfl) ?_ | refine aqp 0 rfl (by decide +kernel) (by decide) (fun G => w_loadRp rfl hr2 rfl) ?_ | refine aqp 0 rfl (by decide +kernel) (by decide) (fun G => w_loadN (cs := [_, _, _, _, _, _, _]) rfl (lk rfl rfl) rfl rfl rfl rfl) ?_ | refine aqp 0 rfl (by decide +kernel) (by decide) (fun G => o_loadNp (cs := [_, _, _, _, _, _, _]) rfl hr rfl rfl) ?_ | refine aqp 0 rfl (by decide +kernel) (by decide) (fun G => o_loadNp (cs := [_, _, _, _, _, _, _]) rfl hr1 rfl rfl) ?_ | refine aqp 0 rfl (by decide +kernel) (by decide) (fun G => o_loadNp (cs := [_, _, _, _, _, _, _]) rfl hr2 rfl rfl) ?_ | refine aqp 0 rfl (by decide +kernel) (by decide) (fun G => w_loadR rfl (lkF hF) rfl rfl rfl) ?_ | refine aqp 0 rfl (by decide +kernel) (by decide) (fun G => w_loadN (cs := [_, _, _, _, _, _, _]) rfl (lkF hF) rfl rfl rfl rfl) ?_
          refine aq0 1 rfl (by decide +kernel) (by decide) (fun _ => o_move (v := .int _ _) rfl) ?_
          refine aq02 2 rfl (by decide +kernel) (by decide) (fun _ => V2.call (spec_Ends _ _ _) rfl) ?_
          first | refine aqp 3 rfl (by decide +kernel) (by decide) (fun G => w_loadR rfl (lk rfl rfl) rfl rfl rfl) ?_ | refine aqp 3 rfl (by decide +kernel) (by decide) (fun G => w_loadR rfl (lk rfl rfl) rfl (zadd hr) rfl) ?_ | refine aqp 3 rfl (by decide +kernel) (by decide) (fun G => w_loadR rfl (lk rfl rfl) rfl (zadd hr1) rfl) ?_ | refine aqp 3 rfl (by decide +kernel) (by decide) (fun G => w_loadR rfl (lk rfl rfl) rfl (zadd hr2) rfl) ?_ | refine aqp 3 rfl (by decide +kernel) (by decide) (fun G => w_loadRp rfl hr rfl) ?_ | refine aqp 3 rfl (by decide +kernel) (by decide) (fun G => w_loadRp rfl hr1 rfl) ?_ | refine aqp 3 rfl (by decide +kernel) (by decide) (fun G => w_loadRp rfl hr2 rfl) ?_ | refine aqp 3 rfl (by decide +kernel) (by decide) (fun G => w_loadN (cs := [_, _, _, _, _, _, _]) rfl (lk rfl rfl) rfl rfl rfl rfl) ?_ | refine aqp 3 rfl (by decide +kernel) (by decide) (fun G => o_loadNp (cs := [_, _, _, _, _, _, _]) rfl hr rfl rfl) ?_ | refine aqp 3 rfl (by decide +kernel) (by decide) (fun G => o_loadNp (cs := [_, _, _, _, _, _, _]) rfl hr1 rfl rfl) ?_ | refine aqp 3 rfl (by decide +kernel) (by decide) (fun G => o_loadNp (cs := [_, _, _, _, _, _, _]) rfl hr2 rfl rfl) ?_ | refine aqp 3 rfl (by decide +kernel) (by decide) (fun G => w_loadR rfl (lkF hF) rfl rfl rfl) ?_ | refine aqp 3 rfl (by decide +kernel) (by decide) (fun G => w_loadN (cs := [_, _, _, _, _, _, _]) rfl (lkF hF) rfl rfl rfl rfl) ?_
          refine aq0 4 rfl (by decide +kernel) (by decide) (fun _ => o_move (v := .int _ _) rfl) ?_
          refine aq02 5 rfl (by decide +kernel) (by decide) (fun _ => V2.call (ref07_Ends _ _ _ (by assumption)) rfl) ?_
          refine aq0 6 rfl (by decide +kernel) (by decide) (fun _ => o_eq rfl rfl) ?_
          refine aq0 7 rfl (by decide +kernel) (by decide) (fun _ => o_move (v := .bool _) rfl) ?_
          refine aq_split (g := 101) rfl (fun hg7 => ?_) (fun hg7 => ?_)
          · first | refine aqyp (g := 101) 8 rfl (by decide +kernel) (by decide) rfl rfl (fun G => w_loadR rfl (lk rfl rfl) rfl rfl rfl) ?_ | refine aqyp (g := 101) 8 rfl (by decide +kernel) (by decide) rfl rfl (fun G => w_loadR rfl (lk rfl rfl) rfl (zadd hr) rfl) ?_ | refine aqyp (g := 101) 8 rfl (by decide +kernel) (by decide) rfl rfl (fun G => w_loadR rfl (lk rfl rfl) rfl (zadd hr1) rfl) ?_ | refine aqyp (g := 101) 8 rfl (by decide +kernel) (by decide) rfl rfl (fun G => w_loadR rfl (lk rfl rfl) rfl (zadd hr2) rfl) ?_ | refine aqyp (g := 101) 8 rfl (by decide +kernel) (by decide) rfl rfl (fun G => w_loadRp rfl hr rfl) ?_ | refine aqyp (g := 101) 8 rfl (by decide +kernel) (by decide) rfl rfl (fun G => w_loadRp rfl hr1 rfl) ?_ | refine aqyp (g := 101) 8 rfl (by decide +kernel) (by decide) rfl rfl (fun G => w_loadRp rfl hr2 rfl) ?_ | refine aqyp (g := 101) 8 rfl (by decide +kernel) (by decide) rfl rfl (fun G => w_loadN (cs := [_, _, _, _, _, _, _]) rfl (lk rfl rfl) rfl rfl rfl rfl) ?_ | refine aqyp (g := 101) 8 rfl (by decide +kernel) (by decide) rfl rfl (fun G => o_loadNp (cs := [_, _, _, _, _, _, _]) rfl hr rfl rfl) ?_ | refine aqyp (g := 101) 8 rfl (by decide +kernel) (by decide) rfl rfl (fun G => o_loadNp (cs := [_, _, _, _, _, _, _]) rfl hr1 rfl rfl) ?_ | refine aqyp (g := 101) 8 rfl (by decide +kernel) (by decide) rfl rfl (fun G => o_loadNp (cs := [_, _, _, _, _, _, _]) rfl hr2 rfl rfl) ?_ | refine aqyp (g := 101) 8 rfl (by decide +kernel) (by decide) rfl rfl (fun G => w_loadR rfl (lkF hF) rfl rfl rfl) ?_ | refine aqyp (g := 101) 8 rfl (by decide +kernel) (by decide) rfl rfl (fun G => w_loadN (cs := [_, _, _, _, _, _, _]) rfl (lkF hF) rfl rfl rfl rfl) ?_
            first | refine aqyp (g := 101) 9 rfl (by decide +kernel) (by decide) rfl rfl (fun G => w_loadR rfl (lk rfl rfl) rfl rfl rfl) ?_ | refine aqyp (g := 101) 9 rfl (by decide +kernel) (by decide) rfl rfl (fun G => w_loadR rfl (lk rfl rfl) rfl (zadd hr) rfl) ?_ | refine aqyp (g := 101) 9 rfl (by decide +kernel) (by decide) rfl rfl (fun G => w_loadR rfl (lk rfl rfl) rfl (zadd hr1) rfl) ?_ | refine aqyp (g := 101) 9 rfl (by decide +kernel) (by decide) rfl rfl (fun G => w_loadR rfl (lk rfl rfl) rfl (zadd hr2) rfl) ?_ | refine aqyp (g := 101) 9 rfl (by decide +kernel) (by decide) rfl rfl (fun G => w_loadRp rfl hr rfl) ?_ | refine aqyp (g := 101) 9 rfl (by decide +kernel) (by decide) rfl rfl (fun G => w_loadRp rfl hr1 rfl) ?_ | refine aqyp (g := 101) 9 rfl (by decide +kernel) (by decide) rfl rfl (fun G => w_loadRp rfl hr2 rfl) ?_ | refine aqyp (g := 101) 9 rfl (by decide +kernel) (by decide) rfl rfl (fun G => w_loadN (cs := [_, _, _, _, _, _, _]) rfl (lk rfl rfl) rfl rfl rfl rfl) ?_ | refine aqyp (g := 101) 9 rfl (by decide +kernel) (by decide) rfl rfl (fun G => o_loadNp (cs := [_, _, _, _, _, _, _]) rfl hr rfl rfl) ?_ | refine aqyp (g := 101) 9 rfl (by decide +kernel) (by decide) rfl rfl (fun G => o_loadNp (cs := [_, _, _, _, _, _, _]) rfl hr1 rfl rfl) ?_ | refine aqyp (g := 101) 9 rfl (by decide +kernel) (by decide) rfl rfl (fun G => o_loadNp (cs := [_, _, _, _, _, _, _]) rfl hr2 rfl rfl) ?_ | refine aqyp (g := 101) 9 rfl (by decide +kernel) (by decide) rfl rfl (fun G => w_loadR rfl (lkF hF) rfl rfl rfl) ?_ | refine aqyp (g := 101) 9 rfl (by decide +kernel) (by decide) rfl rfl (fun G => w_loadN (cs := [_, _, _, _, _, _, _]) rfl (lkF hF) rfl rfl rfl rfl) ?_
            refine aqy02 (g := 101) 10 rfl (by decide +kernel) (by decide) rfl rfl (fun _ => V2.call (spec_Ahead _ _ _) rfl) ?_
            first | refine aqyp (g := 101) 11 rfl (by decide +kernel) (by decide) rfl rfl (fun G => w_loadR rfl (lk rfl rfl) rfl rfl rfl) ?_ | refine aqyp (g := 101) 11 rfl (by decide +kernel) (by decide) rfl rfl (fun G => w_loadR rfl (lk rfl rfl) rfl (zadd hr) rfl) ?_ | refine aqyp (g := 101) 11 rfl (by decide +kernel) (by decide) rfl rfl (fun G => w_loadR rfl (lk rfl rfl) rfl (zadd hr1) rfl) ?_ | refine aqyp (g := 101) 11 rfl (by decide +kernel) (by decide) rfl rfl (fun G => w_loadR rfl (lk rfl rfl) rfl (zadd hr2) rfl) ?_ | refine aqyp (g := 101) 11 rfl (by decide +kernel) (by decide) rfl rfl (fun G => w_loadRp rfl hr rfl) ?_ | refine aqyp (g := 101) 11 rfl (by decide +kernel) (by decide) rfl rfl (fun G => w_loadRp rfl hr1 rfl) ?_ | refine aqyp (g := 101) 11 rfl (by decide +kernel) (by decide) rfl rfl (fun G => w_loadRp rfl hr2 rfl) ?_ | refine aqyp (g := 101) 11 rfl (by decide +kernel) (by decide) rfl rfl (fun G => w_loadN (cs := [_, _, _, _, _, _, _]) rfl (lk rfl rfl) rfl rfl rfl rfl) ?_ | refine aqyp (g := 101) 11 rfl (by decide +kernel) (by decide) rfl rfl (fun G => o_loadNp (cs := [_, _, _, _, _, _, _]) rfl hr rfl rfl) ?_ | refine aqyp (g := 101) 11 rfl (by decide +kernel) (by decide) rfl rfl (fun G => o_loadNp (cs := [_, _, _, _, _, _, _]) rfl hr1 rfl rfl) ?_ | refine aqyp (g := 101) 11 rfl (by decide +kernel) (by decide) rfl rfl (fun G => o_loadNp (cs := [_, _, _, _, _, _, _]) rfl hr2 rfl rfl) ?_ | refine aqyp (g := 101) 11 rfl (by decide +kernel) (by decide) rfl rfl (fun G => w_loadR rfl (lkF hF) rfl rfl rfl) ?_ | refine aqyp (g := 101) 11 rfl (by decide +kernel) (by decide) rfl rfl (fun G => w_loadN (cs := [_, _, _, _, _, _, _]) rfl (lkF hF) rfl rfl rfl rfl) ?_
            first | refine aqyp (g := 101) 12 rfl (by decide +kernel) (by decide) rfl rfl (fun G => w_loadR rfl (lk rfl rfl) rfl rfl rfl) ?_ | refine aqyp (g := 101) 12 rfl (by decide +kernel) (by decide) rfl rfl (fun G => w_loadR rfl (lk rfl rfl) rfl (zadd hr) rfl) ?_ | refine aqyp (g := 101) 12 rfl (by decide +kernel) (by decide) rfl rfl (fun G => w_loadR rfl (lk rfl rfl) rfl (zadd hr1) rfl) ?_ | refine aqyp (g := 101) 12 rfl (by decide +kernel) (by decide) rfl rfl (fun G => w_loadR rfl (lk rfl rfl) rfl (zadd hr2) rfl) ?_ | refine aqyp (g := 101) 12 rfl (by decide +kernel) (by decide) rfl rfl (fun G => w_loadRp rfl hr rfl) ?_ | refine aqyp (g := 101) 12 rfl (by decide +kernel) (by decide) rfl rfl (fun G => w_loadRp rfl hr1 rfl) ?_ | refine aqyp (g := 101) 12 rfl (by decide +kernel) (by decide) rfl rfl (fun G => w_loadRp rfl hr2 rfl) ?_ | refine aqyp (g := 101) 12 rfl (by decide +kernel) (by decide) rfl rfl (fun G => w_loadN (cs := [_, _, _, _, _, _, _]) rfl (lk rfl rfl) rfl rfl rfl rfl) ?_ | refine aqyp (g := 101) 12 rfl (by decide +kernel) (by decide) rfl rfl (fun G => o_loadNp (cs := [_, _, _, _, _, _, _]) rfl hr rfl rfl) ?_ | refine aqyp (g := 101) 12 rfl (by decide +kernel) (by decide) rfl rfl (fun G => o_loadNp (cs := [_, _, _, _, _, _, _]) rfl hr1 rfl rfl) ?_ | refine aqyp (g := 101) 12 rfl (by decide +kernel) (by decide) rfl rfl (fun G => o_loadNp (cs := [_, _, _, _, _, _, _]) rfl hr2 rfl rfl) ?_ | refine aqyp (g := 101) 12 rfl (by decide +kernel) (by decide) rfl rfl (fun G => w_loadR rfl (lkF hF) rfl rfl rfl) ?_ | refine aqyp (g := 101) 12 rfl (by decide +kernel) (by decide) rfl rfl (fun G => w_loadN (cs := [_, _, _, _, _, _, _]) rfl (lkF hF) rfl rfl rfl rfl) ?_
            refine aqy02 (g := 101) 13 rfl (by decide +kernel) (by decide) rfl rfl (fun _ => V2.call (ref07_Ahead _ _ _ (by assumption) (by assumption)) rfl) ?_
            refine aqy0 (g := 101) 14 rfl (by decide +kernel) (by decide) rfl rfl (fun _ => o_beq rfl rfl) ?_
            first | refine aq0 15 rfl (by decide +kernel) (by decide) (fun _ => o_pick_t (v := .bool _) rfl rfl) ?_ | refine aq0 15 rfl (by decide +kernel) (by decide) (fun _ => o_pick_f (v := .bool _) rfl rfl) ?_ | refine aq0 15 rfl (by decide +kernel) (by decide) (fun _ => o_pick_b rfl rfl rfl) ?_
            refine aq0 16 rfl (by decide +kernel) (by decide) (fun _ => o_move (v := .bool _) rfl) ?_
            refine aq_split (g := 110) rfl (fun hg16 => ?_) (fun hg16 => ?_)
            · first | refine aqyp (g := 110) 17 rfl (by decide +kernel) (by decide) rfl rfl (fun G => w_loadR rfl (lk rfl rfl) rfl rfl rfl) ?_ | refine aqyp (g := 110) 17 rfl (by decide +kernel) (by decide) rfl rfl (fun G => w_loadR rfl (lk rfl rfl) rfl (zadd hr) rfl) ?_ | refine aqyp (g := 110) 17 rfl (by decide +kernel) (by decide) rfl rfl (fun G => w_loadR rfl (lk rfl rfl) rfl (zadd hr1) rfl) ?_ | refine aqyp (g := 110) 17 rfl (by decide +kernel) (by decide) rfl rfl (fun G => w_loadR rfl (lk rfl rfl) rfl (zadd hr2) rfl) ?_ | refine aqyp (g := 110) 17 rfl (by decide +kernel) (by decide) rfl rfl (fun G => w_loadRp rfl hr rfl) ?_ | refine aqyp (g := 110) 17 rfl (by decide +kernel) (by decide) rfl rfl (fun G => w_loadRp rfl hr1 rfl) ?_ | refine aqyp (g := 110) 17 rfl (by decide +kernel) (by decide) rfl rfl (fun G => w_loadRp rfl hr2 rfl) ?_ | refine aqyp (g := 110) 17 rfl (by decide +kernel) (by decide) rfl rfl (fun G => w_loadN (cs := [_, _, _, _, _, _, _]) rfl (lk rfl rfl) rfl rfl rfl rfl) ?_ | refine aqyp (g := 110) 17 rfl (by decide +kernel) (by decide) rfl rfl (fun G => o_loadNp (cs := [_, _, _, _, _, _, _]) rfl hr rfl rfl) ?_ | refine aqyp (g := 110) 17 rfl (by decide +kernel) (by decide) rfl rfl (fun G => o_loadNp (cs := [_, _, _, _, _, _, _]) rfl hr1 rfl rfl) ?_ | refine aqyp (g := 110) 17 rfl (by decide +kernel) (by decide) rfl rfl (fun G => o_loadNp (cs := [_, _, _, _, _, _, _]) rfl hr2 rfl rfl) ?_ | refine aqyp (g := 110) 17 rfl (by decide +kernel) (by decide) rfl rfl (fun G => w_loadR rfl (lkF hF) rfl rfl rfl) ?_ | refine aqyp (g := 110) 17 rfl (by decide +kernel) (by decide) rfl rfl (fun G => w_loadN (cs := [_, _, _, _, _, _, _]) rfl (lkF hF) rfl rfl rfl rfl) ?_
              first | refine aqyp (g := 110) 18 rfl (by decide +kernel) (by decide) rfl rfl (fun G => w_loadR rfl (lk rfl rfl) rfl rfl rfl) ?_ | refine aqyp (g := 110) 18 rfl (by decide +kernel) (by decide) rfl rfl (fun G => w_loadR rfl (lk rfl rfl) rfl (zadd hr) rfl) ?_ | refine aqyp (g := 110) 18 rfl (by decide +kernel) (by decide) rfl rfl (fun G => w_loadR rfl (lk rfl rfl) rfl (zadd hr1) rfl) ?_ | refine aqyp (g := 110) 18 rfl (by decide +kernel) (by decide) rfl rfl (fun G => w_loadR rfl (lk rfl rfl) rfl (zadd hr2) rfl) ?_ | refine aqyp (g := 110) 18 rfl (by decide +kernel) (by decide) rfl rfl (fun G => w_loadRp rfl hr rfl) ?_ | refine aqyp (g := 110) 18 rfl (by decide +kernel) (by decide) rfl rfl (fun G => w_loadRp rfl hr1 rfl) ?_ | refine aqyp (g := 110) 18 rfl (by decide +kernel) (by decide) rfl rfl (fun G => w_loadRp rfl hr2 rfl) ?_ | refine aqyp (g := 110) 18 rfl (by decide +kernel) (by decide) rfl rfl (fun G => w_loadN (cs := [_, _, _, _, _, _, _]) rfl (lk rfl rfl) rfl rfl rfl rfl) ?_ | refine aqyp (g := 110) 18 rfl (by decide +kernel) (by decide) rfl rfl (fun G => o_loadNp (cs := [_, _, _, _, _, _, _]) rfl hr rfl rfl) ?_ | refine aqyp (g := 110) 18 rfl (by decide +kernel) (by decide) rfl rfl (fun G => o_loadNp (cs := [_, _, _, _, _, _, _]) rfl hr1 rfl rfl) ?_ | refine aqyp (g := 110) 18 rfl (by decide +kernel) (by decide) rfl rfl (fun G => o_loadNp (cs := [_, _, _, _, _, _, _]) rfl hr2 rfl rfl) ?_ | refine aqyp (g := 110) 18 rfl (by decide +kernel) (by decide) rfl rfl (fun G => w_loadR rfl (lkF hF) rfl rfl rfl) ?_ | refine aqyp (g := 110) 18 rfl (by decide +kernel) (by decide) rfl rfl (fun G => w_loadN (cs := [_, _, _, _, _, _, _]) rfl (lkF hF) rfl rfl rfl rfl) ?_
              refine aqy0 (g := 110) 19 rfl (by decide +kernel) (by decide) rfl rfl (fun _ => o_eqAgg (us := uSpec ⟨a.nodes - n, a.cores, a.gpus, a.tag, a.whole, a.long, a.prio⟩) (vs := uSpec ⟨a.nodes - n, a.cores, a.gpus, a.tag, a.whole, a.long, a.prio⟩) rfl rfl rfl rfl (by kernel_rfl) (eqSpec_run _ _)) ?_
              first | refine aq0 20 rfl (by decide +kernel) (by decide) (fun _ => o_pick_t (v := .bool _) rfl rfl) ?_ | refine aq0 20 rfl (by decide +kernel) (by decide) (fun _ => o_pick_f (v := .bool _) rfl rfl) ?_ | refine aq0 20 rfl (by decide +kernel) (by decide) (fun _ => o_pick_b rfl rfl rfl) ?_
              refine aq0 21 rfl (by decide +kernel) (by decide) (fun _ => o_move (v := .bool _) rfl) ?_
              refine aq_split (g := 115) rfl (fun hg21 => ?_) (fun hg21 => ?_)
              · refine aqy0 (g := 115) 22 rfl (by decide +kernel) (by decide) rfl rfl (fun _ => o_move (v := .int _ _) rfl) ?_
                refine aqy0 (g := 115) 23 rfl (by decide +kernel) (by decide) rfl rfl (fun _ => o_move (v := .int _ _) rfl) ?_
                refine aqy0 (g := 115) 24 rfl (by decide +kernel) (by decide) rfl rfl (fun _ => o_eq rfl rfl) ?_
                first | refine aq0 25 rfl (by decide +kernel) (by decide) (fun _ => o_pick_t (v := .bool _) rfl rfl) ?_ | refine aq0 25 rfl (by decide +kernel) (by decide) (fun _ => o_pick_f (v := .bool _) rfl rfl) ?_ | refine aq0 25 rfl (by decide +kernel) (by decide) (fun _ => o_pick_b rfl rfl rfl) ?_
                refine aq0 26 rfl (by decide +kernel) (by decide) (fun _ => o_assign (v := .bool _) rfl) ?_
                exact aa_done (by decide +kernel) (by first | exact fun _ => trivial | exact fun _ => ⟨_, rfl⟩ | exact fun _ => ⟨_, rfl, rfl⟩ | exact yet_done (by decide +kernel)) (Out.mk (by first | rfl | (refine congrArg AV.bool ?_; first | (simp at *; done) | (simp_all; done))) (by repeat (first | exact SubX.refl _ _ | refine SubX.at ?_ | refine SubX.put rfl ?_ | refine SubX.put_same rfl ?_)))
              · refine aqn0 (g := 115) 22 rfl (by decide +kernel) (by decide) rfl rfl rfl ?_
                refine aqn0 (g := 115) 23 rfl (by decide +kernel) (by decide) rfl rfl rfl ?_
                refine aqn0 (g := 115) 24 rfl (by decide +kernel) (by decide) rfl rfl rfl ?_
                first | refine aq0 25 rfl (by decide +kernel) (by decide) (fun _ => o_pick_t (v := .bool _) rfl rfl) ?_ | refine aq0 25 rfl (by decide +kernel) (by decide) (fun _ => o_pick_f (v := .bool _) rfl rfl) ?_ | refine aq0 25 rfl (by decide +kernel) (by decide) (fun _ => o_pick_b rfl rfl rfl) ?_
                refine aq0 26 rfl (by decide +kernel) (by decide) (fun _ => o_assign (v := .bool _) rfl) ?_
                exact aa_done (by decide +kernel) (by first | exact fun _ => trivial | exact fun _ => ⟨_, rfl⟩ | exact fun _ => ⟨_, rfl, rfl⟩ | exact yet_done (by decide +kernel)) (Out.mk (by first | rfl | (refine congrArg AV.bool ?_; first | (simp at *; done) | (simp_all; done))) (by repeat (first | exact SubX.refl _ _ | refine SubX.at ?_ | refine SubX.put rfl ?_ | refine SubX.put_same rfl ?_)))
            · refine aqn0 (g := 110) 17 rfl (by decide +kernel) (by decide) rfl rfl rfl ?_
              refine aqn0 (g := 110) 18 rfl (by decide +kernel) (by decide) rfl rfl rfl ?_
              refine aqn0 (g := 110) 19 rfl (by decide +kernel) (by decide) rfl rfl rfl ?_
              first | refine aq0 20 rfl (by decide +kernel) (by decide) (fun _ => o_pick_t (v := .bool _) rfl rfl) ?_ | refine aq0 20 rfl (by decide +kernel) (by decide) (fun _ => o_pick_f (v := .bool _) rfl rfl) ?_ | refine aq0 20 rfl (by decide +kernel) (by decide) (fun _ => o_pick_b rfl rfl rfl) ?_
              refine aq0 21 rfl (by decide +kernel) (by decide) (fun _ => o_move (v := .bool _) rfl) ?_
              refine aqn0 (g := 115) 22 rfl (by decide +kernel) (by decide) rfl rfl rfl ?_
              refine aqn0 (g := 115) 23 rfl (by decide +kernel) (by decide) rfl rfl rfl ?_
              refine aqn0 (g := 115) 24 rfl (by decide +kernel) (by decide) rfl rfl rfl ?_
              first | refine aq0 25 rfl (by decide +kernel) (by decide) (fun _ => o_pick_t (v := .bool _) rfl rfl) ?_ | refine aq0 25 rfl (by decide +kernel) (by decide) (fun _ => o_pick_f (v := .bool _) rfl rfl) ?_ | refine aq0 25 rfl (by decide +kernel) (by decide) (fun _ => o_pick_b rfl rfl rfl) ?_
              refine aq0 26 rfl (by decide +kernel) (by decide) (fun _ => o_assign (v := .bool _) rfl) ?_
              exact aa_done (by decide +kernel) (by first | exact fun _ => trivial | exact fun _ => ⟨_, rfl⟩ | exact fun _ => ⟨_, rfl, rfl⟩ | exact yet_done (by decide +kernel)) (Out.mk (by first | rfl | (refine congrArg AV.bool ?_; first | (simp at *; done) | (simp_all; done))) (by repeat (first | exact SubX.refl _ _ | refine SubX.at ?_ | refine SubX.put rfl ?_ | refine SubX.put_same rfl ?_)))
          · refine aqn0 (g := 101) 8 rfl (by decide +kernel) (by decide) rfl rfl rfl ?_
            refine aqn0 (g := 101) 9 rfl (by decide +kernel) (by decide) rfl rfl rfl ?_
            refine aqn0 (g := 101) 10 rfl (by decide +kernel) (by decide) rfl rfl rfl ?_
            refine aqn0 (g := 101) 11 rfl (by decide +kernel) (by decide) rfl rfl rfl ?_
            refine aqn0 (g := 101) 12 rfl (by decide +kernel) (by decide) rfl rfl rfl ?_
            refine aqn0 (g := 101) 13 rfl (by decide +kernel) (by decide) rfl rfl rfl ?_
            refine aqn0 (g := 101) 14 rfl (by decide +kernel) (by decide) rfl rfl rfl ?_
            first | refine aq0 15 rfl (by decide +kernel) (by decide) (fun _ => o_pick_t (v := .bool _) rfl rfl) ?_ | refine aq0 15 rfl (by decide +kernel) (by decide) (fun _ => o_pick_f (v := .bool _) rfl rfl) ?_ | refine aq0 15 rfl (by decide +kernel) (by decide) (fun _ => o_pick_b rfl rfl rfl) ?_
            refine aq0 16 rfl (by decide +kernel) (by decide) (fun _ => o_move (v := .bool _) rfl) ?_
            refine aqn0 (g := 110) 17 rfl (by decide +kernel) (by decide) rfl rfl rfl ?_
            refine aqn0 (g := 110) 18 rfl (by decide +kernel) (by decide) rfl rfl rfl ?_
            refine aqn0 (g := 110) 19 rfl (by decide +kernel) (by decide) rfl rfl rfl ?_
            first | refine aq0 20 rfl (by decide +kernel) (by decide) (fun _ => o_pick_t (v := .bool _) rfl rfl) ?_ | refine aq0 20 rfl (by decide +kernel) (by decide) (fun _ => o_pick_f (v := .bool _) rfl rfl) ?_ | refine aq0 20 rfl (by decide +kernel) (by decide) (fun _ => o_pick_b rfl rfl rfl) ?_
            refine aq0 21 rfl (by decide +kernel) (by decide) (fun _ => o_move (v := .bool _) rfl) ?_
            refine aqn0 (g := 115) 22 rfl (by decide +kernel) (by decide) rfl rfl rfl ?_
            refine aqn0 (g := 115) 23 rfl (by decide +kernel) (by decide) rfl rfl rfl ?_
            refine aqn0 (g := 115) 24 rfl (by decide +kernel) (by decide) rfl rfl rfl ?_
            first | refine aq0 25 rfl (by decide +kernel) (by decide) (fun _ => o_pick_t (v := .bool _) rfl rfl) ?_ | refine aq0 25 rfl (by decide +kernel) (by decide) (fun _ => o_pick_f (v := .bool _) rfl rfl) ?_ | refine aq0 25 rfl (by decide +kernel) (by decide) (fun _ => o_pick_b rfl rfl rfl) ?_
            refine aq0 26 rfl (by decide +kernel) (by decide) (fun _ => o_assign (v := .bool _) rfl) ?_
            exact aa_done (by decide +kernel) (by first | exact fun _ => trivial | exact fun _ => ⟨_, rfl⟩ | exact fun _ => ⟨_, rfl, rfl⟩ | exact yet_done (by decide +kernel)) (Out.mk (by first | rfl | (refine congrArg AV.bool ?_; first | (simp at *; done) | (simp_all; done))) (by repeat (first | exact SubX.refl _ _ | refine SubX.at ?_ | refine SubX.put rfl ?_ | refine SubX.put_same rfl ?_)))
        repeat (first | refine join_ret ?_ | refine join_brk ?_ | refine then_nrm ?_ | refine blk_nrm ?_ | refine then_brk ?_ | refine blk_hit ?_ | refine blk_miss rfl ?_ | refine then_ret ?_ | refine blk_ret ?_ | refine aw_seq ?_ | refine aw_block ?_ | refine aw_skip ?_ | refine aw_exit ?_ | refine aw_scope ?_ | refine aw_ret ?_)
        exact e_done hB (r_tmp rfl .nil) rfl rfl

theorem sahead_iff {a b : Spec} (ha : sright a = true) (hb : sright b = true) : sahead a b = true ↔ (b.prio < a.prio ∨ (a.prio = b.prio ∧ (ssize a < ssize b ∨ (ssize a = ssize b ∧ a.long < b.long)))) := by
  rw [sahead, ha, hb, Bool.true_and, Bool.true_and, sorder_lt]
  repeat' split
  all_goals simp only [decide_eq_true_eq]
  all_goals omega
theorem sahead_not {a b : Spec} (h : sright a = false ∨ sright b = false) : sahead a b = false := by rcases h with h | h <;> simp [sahead, h]
set_option maxHeartbeats 0 in
theorem law07_SpecNormal (a b c : Spec) (H : Heap) : AC Try.prog 4 [.agg (eSpec a), .agg (eSpec b), .agg (eSpec c)] H (Ret (.bool true) H) := by
  refine AC.body (N := 95) [.tmp 6] Try.func4 rfl rfl rfl (Nat.le_of_ble_eq_true rfl) fun B hB => ?_
  repeat (first | refine join_ret ?_ | refine join_brk ?_ | refine then_nrm ?_ | refine blk_nrm ?_ | refine then_brk ?_ | refine blk_hit ?_ | refine blk_miss rfl ?_ | refine then_ret ?_ | refine blk_ret ?_ | refine aw_seq ?_ | refine aw_block ?_ | refine aw_skip ?_ | refine aw_exit ?_ | refine aw_scope ?_ | refine aw_ret ?_)
  refine aw_region ?_
  refine ao2 (by rintro _ ⟨⟩; decide) (o_boxL (sz := 7) (v := .agg _) rfl rfl rfl rfl (by decide) rfl) ?_
  refine ao2 (by rintro _ ⟨⟩; decide) (o_boxL (sz := 7) (v := .agg _) rfl rfl rfl rfl (by decide) rfl) ?_
  refine ao2 (by rintro _ ⟨⟩; decide) (o_boxL (sz := 7) (v := .agg _) rfl rfl rfl rfl (by decide) rfl) ?_
  refine ao1 (by decide) (o_assign (v := .bool _) rfl) ?_
  refine ao_nil ?_
  try dsimp only [List.set_cons_zero, List.set_cons_succ, List.cons_append, List.nil_append, List.take_succ_cons, List.take_zero, List.drop_succ_cons, List.drop_zero, AV.cells, List.length_nil, List.length_cons, Av.put, Nat.reduceAdd, AV.up, AV.up1, List.map_cons, List.map_nil]
  repeat (first | refine join_ret ?_ | refine join_brk ?_ | refine then_nrm ?_ | refine blk_nrm ?_ | refine then_brk ?_ | refine blk_hit ?_ | refine blk_miss rfl ?_ | refine then_ret ?_ | refine blk_ret ?_ | refine aw_seq ?_ | refine aw_block ?_ | refine aw_skip ?_ | refine aw_exit ?_ | refine aw_scope ?_ | refine aw_ret ?_)
  refine aw_region ?_
  refine ao_ret (law07_awake _) rfl (by decide) ?_
  refine ao1 (by decide) (o_not rfl) ?_
  refine ao_nil ?_
  try dsimp only [List.set_cons_zero, List.set_cons_succ, List.cons_append, List.nil_append, List.take_succ_cons, List.take_zero, List.drop_succ_cons, List.drop_zero, AV.cells, List.length_nil, List.length_cons, Av.put, Nat.reduceAdd, AV.up, AV.up1, List.map_cons, List.map_nil]
  repeat (first | refine join_ret ?_ | refine join_brk ?_ | refine then_nrm ?_ | refine blk_nrm ?_ | refine then_brk ?_ | refine blk_hit ?_ | refine blk_miss rfl ?_ | refine then_ret ?_ | refine blk_ret ?_ | refine aw_seq ?_ | refine aw_block ?_ | refine aw_skip ?_ | refine aw_exit ?_ | refine aw_scope ?_ | refine aw_ret ?_)
  refine aw_cond rfl (fun hc => ?_) (fun hc => ?_)
  · simp at hc
  repeat (first | refine join_ret ?_ | refine join_brk ?_ | refine then_nrm ?_ | refine blk_nrm ?_ | refine then_brk ?_ | refine blk_hit ?_ | refine blk_miss rfl ?_ | refine then_ret ?_ | refine blk_ret ?_ | refine aw_seq ?_ | refine aw_block ?_ | refine aw_skip ?_ | refine aw_exit ?_ | refine aw_scope ?_ | refine aw_ret ?_)
  refine aw_out 26 (.bool (!sright a || !sright b || !sright c)) ?_ ?_
  · first | refine ao1 (by decide) (w_loadR rfl (lk rfl rfl) rfl rfl rfl) ?_ | refine ao1 (by decide) (w_loadR rfl (lk rfl rfl) rfl (zadd hr) rfl) ?_ | refine ao1 (by decide) (w_loadR rfl (lk rfl rfl) rfl (zadd hr1) rfl) ?_ | refine ao1 (by decide) (w_loadR rfl (lk rfl rfl) rfl (zadd hr2) rfl) ?_ | refine ao1 (by decide) (w_loadRp rfl hr rfl) ?_ | refine ao1 (by decide) (w_loadRp rfl hr1 rfl) ?_ | refine ao1 (by decide) (w_loadRp rfl hr2 rfl) ?_ | refine ao1 (by decide) (w_loadN (cs := [_, _, _, _, _, _, _]) rfl (lk rfl rfl) rfl rfl rfl rfl) ?_ | refine ao1 (by decide) (o_loadNp (cs := [_, _, _, _, _, _, _]) rfl hr rfl rfl) ?_ | refine ao1 (by decide) (o_loadNp (cs := [_, _, _, _, _, _, _]) rfl hr1 rfl rfl) ?_ | refine ao1 (by decide) (o_loadNp (cs := [_, _, _, _, _, _, _]) rfl hr2 rfl rfl) ?_ | refine ao1 (by decide) (w_loadR rfl (lkF hF) rfl rfl rfl) ?_ | refine ao1 (by decide) (w_loadN (cs := [_, _, _, _, _, _, _]) rfl (lkF hF) rfl rfl rfl rfl) ?_
    refine ao_ret (spec_Right _ _) rfl (by decide) ?_
    refine ao1 (by decide) (o_not rfl) ?_
    refine ao1 (by decide) (o_move (v := .bool _) rfl) ?_
    refine ao_split rfl rfl (fun hg3 => ?_) (fun hg3 => ?_)
    · refine ao_nF rfl rfl (by decide) ?_
      refine ao_nF rfl rfl (by decide) ?_
      refine ao_nF rfl rfl (by decide) ?_
      first | refine ao1 (by decide) (o_pick_t (v := .bool _) rfl rfl) ?_ | refine ao1 (by decide) (o_pick_f (v := .bool _) rfl rfl) ?_ | refine ao1 (by decide) (o_pick_b rfl rfl rfl) ?_
      refine ao1 (by decide) (o_move (v := .bool _) rfl) ?_
      refine ao_nF rfl rfl (by decide) ?_
      refine ao_nF rfl rfl (by decide) ?_
      refine ao_nF rfl rfl (by decide) ?_
      first | refine ao1 (by decide) (o_pick_t (v := .bool _) rfl rfl) ?_ | refine ao1 (by decide) (o_pick_f (v := .bool _) rfl rfl) ?_ | refine ao1 (by decide) (o_pick_b rfl rfl rfl) ?_
      exact ao_nil (Out.mk (by first | rfl | (refine congrArg AV.bool ?_; first | (refine Bool.eq_iff_iff.mpr ?_; simp only [Bool.and_eq_true, Bool.or_eq_true, Bool.not_eq_true', decide_eq_true_eq, decide_eq_false_iff_not, beq_iff_eq, bne_iff_ne, beq_eq_false_iff_ne, Bool.false_eq_true, Bool.true_eq_false, Bool.and_eq_false_iff, Bool.or_eq_false_iff, List.length_map, false_iff, true_iff, iff_true, iff_false] at *; omega) | (simp_all; done) | (simp_all; omega) | (simp_all; intros; omega) | (simp only [List.length_map] at *; simp_all; done) | (simp only [List.length_map] at *; simp_all; intros; omega) | grind)) (by repeat (first | exact SubX.refl _ _ | refine SubX.at ?_ | refine SubX.put rfl ?_ | refine SubX.put_same rfl ?_)))
    · first | refine ao_y1 rfl rfl (by decide) (w_loadR rfl (lk rfl rfl) rfl rfl rfl) ?_ | refine ao_y1 rfl rfl (by decide) (w_loadR rfl (lk rfl rfl) rfl (zadd hr) rfl) ?_ | refine ao_y1 rfl rfl (by decide) (w_loadR rfl (lk rfl rfl) rfl (zadd hr1) rfl) ?_ | refine ao_y1 rfl rfl (by decide) (w_loadR rfl (lk rfl rfl) rfl (zadd hr2) rfl) ?_ | refine ao_y1 rfl rfl (by decide) (w_loadRp rfl hr rfl) ?_ | refine ao_y1 rfl rfl (by decide) (w_loadRp rfl hr1 rfl) ?_ | refine ao_y1 rfl rfl (by decide) (w_loadRp rfl hr2 rfl) ?_ | refine ao_y1 rfl rfl (by decide) (w_loadN (cs := [_, _, _, _, _, _, _]) rfl (lk rfl rfl) rfl rfl rfl rfl) ?_ | refine ao_y1 rfl rfl (by decide) (o_loadNp (cs := [_, _, _, _, _, _, _]) rfl hr rfl rfl) ?_ | refine ao_y1 rfl rfl (by decide) (o_loadNp (cs := [_, _, _, _, _, _, _]) rfl hr1 rfl rfl) ?_ | refine ao_y1 rfl rfl (by decide) (o_loadNp (cs := [_, _, _, _, _, _, _]) rfl hr2 rfl rfl) ?_ | refine ao_y1 rfl rfl (by decide) (w_loadR rfl (lkF hF) rfl rfl rfl) ?_ | refine ao_y1 rfl rfl (by decide) (w_loadN (cs := [_, _, _, _, _, _, _]) rfl (lkF hF) rfl rfl rfl rfl) ?_
      refine ao_y rfl rfl (by decide) (V2.call (spec_Right _ _) rfl) ?_
      refine ao_y1 rfl rfl (by decide) (o_not rfl) ?_
      first | refine ao1 (by decide) (o_pick_t (v := .bool _) rfl rfl) ?_ | refine ao1 (by decide) (o_pick_f (v := .bool _) rfl rfl) ?_ | refine ao1 (by decide) (o_pick_b rfl rfl rfl) ?_
      refine ao1 (by decide) (o_move (v := .bool _) rfl) ?_
      refine ao_split rfl rfl (fun hg8 => ?_) (fun hg8 => ?_)
      · refine ao_nF rfl rfl (by decide) ?_
        refine ao_nF rfl rfl (by decide) ?_
        refine ao_nF rfl rfl (by decide) ?_
        first | refine ao1 (by decide) (o_pick_t (v := .bool _) rfl rfl) ?_ | refine ao1 (by decide) (o_pick_f (v := .bool _) rfl rfl) ?_ | refine ao1 (by decide) (o_pick_b rfl rfl rfl) ?_
        exact ao_nil (Out.mk (by first | rfl | (refine congrArg AV.bool ?_; first | (refine Bool.eq_iff_iff.mpr ?_; simp only [Bool.and_eq_true, Bool.or_eq_true, Bool.not_eq_true', decide_eq_true_eq, decide_eq_false_iff_not, beq_iff_eq, bne_iff_ne, beq_eq_false_iff_ne, Bool.false_eq_true, Bool.true_eq_false, Bool.and_eq_false_iff, Bool.or_eq_false_iff, List.length_map, false_iff, true_iff, iff_true, iff_false] at *; omega) | (simp_all; done) | (simp_all; omega) | (simp_all; intros; omega) | (simp only [List.length_map] at *; simp_all; done) | (simp only [List.length_map] at *; simp_all; intros; omega) | grind)) (by repeat (first | exact SubX.refl _ _ | refine SubX.at ?_ | refine SubX.put rfl ?_ | refine SubX.put_same rfl ?_)))
      · first | refine ao_y1 rfl rfl (by decide) (w_loadR rfl (lk rfl rfl) rfl rfl rfl) ?_ | refine ao_y1 rfl rfl (by decide) (w_loadR rfl (lk rfl rfl) rfl (zadd hr) rfl) ?_ | refine ao_y1 rfl rfl (by decide) (w_loadR rfl (lk rfl rfl) rfl (zadd hr1) rfl) ?_ | refine ao_y1 rfl rfl (by decide) (w_loadR rfl (lk rfl rfl) rfl (zadd hr2) rfl) ?_ | refine ao_y1 rfl rfl (by decide) (w_loadRp rfl hr rfl) ?_ | refine ao_y1 rfl rfl (by decide) (w_loadRp rfl hr1 rfl) ?_ | refine ao_y1 rfl rfl (by decide) (w_loadRp rfl hr2 rfl) ?_ | refine ao_y1 rfl rfl (by decide) (w_loadN (cs := [_, _, _, _, _, _, _]) rfl (lk rfl rfl) rfl rfl rfl rfl) ?_ | refine ao_y1 rfl rfl (by decide) (o_loadNp (cs := [_, _, _, _, _, _, _]) rfl hr rfl rfl) ?_ | refine ao_y1 rfl rfl (by decide) (o_loadNp (cs := [_, _, _, _, _, _, _]) rfl hr1 rfl rfl) ?_ | refine ao_y1 rfl rfl (by decide) (o_loadNp (cs := [_, _, _, _, _, _, _]) rfl hr2 rfl rfl) ?_ | refine ao_y1 rfl rfl (by decide) (w_loadR rfl (lkF hF) rfl rfl rfl) ?_ | refine ao_y1 rfl rfl (by decide) (w_loadN (cs := [_, _, _, _, _, _, _]) rfl (lkF hF) rfl rfl rfl rfl) ?_
        refine ao_y rfl rfl (by decide) (V2.call (spec_Right _ _) rfl) ?_
        refine ao_y1 rfl rfl (by decide) (o_not rfl) ?_
        first | refine ao1 (by decide) (o_pick_t (v := .bool _) rfl rfl) ?_ | refine ao1 (by decide) (o_pick_f (v := .bool _) rfl rfl) ?_ | refine ao1 (by decide) (o_pick_b rfl rfl rfl) ?_
        exact ao_nil (Out.mk (by first | rfl | (refine congrArg AV.bool ?_; first | (refine Bool.eq_iff_iff.mpr ?_; simp only [Bool.and_eq_true, Bool.or_eq_true, Bool.not_eq_true', decide_eq_true_eq, decide_eq_false_iff_not, beq_iff_eq, bne_iff_ne, beq_eq_false_iff_ne, Bool.false_eq_true, Bool.true_eq_false, Bool.and_eq_false_iff, Bool.or_eq_false_iff, List.length_map, false_iff, true_iff, iff_true, iff_false] at *; omega) | (simp_all; done) | (simp_all; omega) | (simp_all; intros; omega) | (simp only [List.length_map] at *; simp_all; done) | (simp only [List.length_map] at *; simp_all; intros; omega) | grind)) (by repeat (first | exact SubX.refl _ _ | refine SubX.at ?_ | refine SubX.put rfl ?_ | refine SubX.put_same rfl ?_)))
  repeat (first | refine join_ret ?_ | refine join_brk ?_ | refine then_nrm ?_ | refine blk_nrm ?_ | refine then_brk ?_ | refine blk_hit ?_ | refine blk_miss rfl ?_ | refine then_ret ?_ | refine blk_ret ?_ | refine aw_seq ?_ | refine aw_block ?_ | refine aw_skip ?_ | refine aw_exit ?_ | refine aw_scope ?_ | refine aw_ret ?_)
  refine aw_cond rfl (fun hc => ?_) (fun hc => ?_)
  · have hn : sahead a b = false ∨ sahead b c = false := by
      simp at hc
      rcases hc with (h | h) | h
      · exact .inl (sahead_not (.inl h))
      · exact .inl (sahead_not (.inr h))
      · exact .inr (sahead_not (.inr h))
    repeat (first | refine join_ret ?_ | refine join_brk ?_ | refine then_nrm ?_ | refine blk_nrm ?_ | refine then_brk ?_ | refine blk_hit ?_ | refine blk_miss rfl ?_ | refine then_ret ?_ | refine blk_ret ?_ | refine aw_seq ?_ | refine aw_block ?_ | refine aw_skip ?_ | refine aw_exit ?_ | refine aw_scope ?_ | refine aw_ret ?_)
    refine aw_out 6 (.bool true) ?_ ?_
    · first | refine ao1 (by decide) (w_loadR rfl (lk rfl rfl) rfl rfl rfl) ?_ | refine ao1 (by decide) (w_loadR rfl (lk rfl rfl) rfl (zadd hr) rfl) ?_ | refine ao1 (by decide) (w_loadR rfl (lk rfl rfl) rfl (zadd hr1) rfl) ?_ | refine ao1 (by decide) (w_loadR rfl (lk rfl rfl) rfl (zadd hr2) rfl) ?_ | refine ao1 (by decide) (w_loadRp rfl hr rfl) ?_ | refine ao1 (by decide) (w_loadRp rfl hr1 rfl) ?_ | refine ao1 (by decide) (w_loadRp rfl hr2 rfl) ?_ | refine ao1 (by decide) (w_loadN (cs := [_, _, _, _, _, _, _]) rfl (lk rfl rfl) rfl rfl rfl rfl) ?_ | refine ao1 (by decide) (o_loadNp (cs := [_, _, _, _, _, _, _]) rfl hr rfl rfl) ?_ | refine ao1 (by decide) (o_loadNp (cs := [_, _, _, _, _, _, _]) rfl hr1 rfl rfl) ?_ | refine ao1 (by decide) (o_loadNp (cs := [_, _, _, _, _, _, _]) rfl hr2 rfl rfl) ?_ | refine ao1 (by decide) (w_loadR rfl (lkF hF) rfl rfl rfl) ?_ | refine ao1 (by decide) (w_loadN (cs := [_, _, _, _, _, _, _]) rfl (lkF hF) rfl rfl rfl rfl) ?_
      first | refine ao1 (by decide) (w_loadR rfl (lk rfl rfl) rfl rfl rfl) ?_ | refine ao1 (by decide) (w_loadR rfl (lk rfl rfl) rfl (zadd hr) rfl) ?_ | refine ao1 (by decide) (w_loadR rfl (lk rfl rfl) rfl (zadd hr1) rfl) ?_ | refine ao1 (by decide) (w_loadR rfl (lk rfl rfl) rfl (zadd hr2) rfl) ?_ | refine ao1 (by decide) (w_loadRp rfl hr rfl) ?_ | refine ao1 (by decide) (w_loadRp rfl hr1 rfl) ?_ | refine ao1 (by decide) (w_loadRp rfl hr2 rfl) ?_ | refine ao1 (by decide) (w_loadN (cs := [_, _, _, _, _, _, _]) rfl (lk rfl rfl) rfl rfl rfl rfl) ?_ | refine ao1 (by decide) (o_loadNp (cs := [_, _, _, _, _, _, _]) rfl hr rfl rfl) ?_ | refine ao1 (by decide) (o_loadNp (cs := [_, _, _, _, _, _, _]) rfl hr1 rfl rfl) ?_ | refine ao1 (by decide) (o_loadNp (cs := [_, _, _, _, _, _, _]) rfl hr2 rfl rfl) ?_ | refine ao1 (by decide) (w_loadR rfl (lkF hF) rfl rfl rfl) ?_ | refine ao1 (by decide) (w_loadN (cs := [_, _, _, _, _, _, _]) rfl (lkF hF) rfl rfl rfl rfl) ?_
      refine ao_ret (spec_Ahead _ _ _) rfl (by decide) ?_
      refine ao1 (by decide) (o_move (v := .bool _) rfl) ?_
      refine ao_split rfl rfl (fun hg3 => ?_) (fun hg3 => ?_)
      · first | refine ao_y1 rfl rfl (by decide) (w_loadR rfl (lk rfl rfl) rfl rfl rfl) ?_ | refine ao_y1 rfl rfl (by decide) (w_loadR rfl (lk rfl rfl) rfl (zadd hr) rfl) ?_ | refine ao_y1 rfl rfl (by decide) (w_loadR rfl (lk rfl rfl) rfl (zadd hr1) rfl) ?_ | refine ao_y1 rfl rfl (by decide) (w_loadR rfl (lk rfl rfl) rfl (zadd hr2) rfl) ?_ | refine ao_y1 rfl rfl (by decide) (w_loadRp rfl hr rfl) ?_ | refine ao_y1 rfl rfl (by decide) (w_loadRp rfl hr1 rfl) ?_ | refine ao_y1 rfl rfl (by decide) (w_loadRp rfl hr2 rfl) ?_ | refine ao_y1 rfl rfl (by decide) (w_loadN (cs := [_, _, _, _, _, _, _]) rfl (lk rfl rfl) rfl rfl rfl rfl) ?_ | refine ao_y1 rfl rfl (by decide) (o_loadNp (cs := [_, _, _, _, _, _, _]) rfl hr rfl rfl) ?_ | refine ao_y1 rfl rfl (by decide) (o_loadNp (cs := [_, _, _, _, _, _, _]) rfl hr1 rfl rfl) ?_ | refine ao_y1 rfl rfl (by decide) (o_loadNp (cs := [_, _, _, _, _, _, _]) rfl hr2 rfl rfl) ?_ | refine ao_y1 rfl rfl (by decide) (w_loadR rfl (lkF hF) rfl rfl rfl) ?_ | refine ao_y1 rfl rfl (by decide) (w_loadN (cs := [_, _, _, _, _, _, _]) rfl (lkF hF) rfl rfl rfl rfl) ?_
        first | refine ao_y1 rfl rfl (by decide) (w_loadR rfl (lk rfl rfl) rfl rfl rfl) ?_ | refine ao_y1 rfl rfl (by decide) (w_loadR rfl (lk rfl rfl) rfl (zadd hr) rfl) ?_ | refine ao_y1 rfl rfl (by decide) (w_loadR rfl (lk rfl rfl) rfl (zadd hr1) rfl) ?_ | refine ao_y1 rfl rfl (by decide) (w_loadR rfl (lk rfl rfl) rfl (zadd hr2) rfl) ?_ | refine ao_y1 rfl rfl (by decide) (w_loadRp rfl hr rfl) ?_ | refine ao_y1 rfl rfl (by decide) (w_loadRp rfl hr1 rfl) ?_ | refine ao_y1 rfl rfl (by decide) (w_loadRp rfl hr2 rfl) ?_ | refine ao_y1 rfl rfl (by decide) (w_loadN (cs := [_, _, _, _, _, _, _]) rfl (lk rfl rfl) rfl rfl rfl rfl) ?_ | refine ao_y1 rfl rfl (by decide) (o_loadNp (cs := [_, _, _, _, _, _, _]) rfl hr rfl rfl) ?_ | refine ao_y1 rfl rfl (by decide) (o_loadNp (cs := [_, _, _, _, _, _, _]) rfl hr1 rfl rfl) ?_ | refine ao_y1 rfl rfl (by decide) (o_loadNp (cs := [_, _, _, _, _, _, _]) rfl hr2 rfl rfl) ?_ | refine ao_y1 rfl rfl (by decide) (w_loadR rfl (lkF hF) rfl rfl rfl) ?_ | refine ao_y1 rfl rfl (by decide) (w_loadN (cs := [_, _, _, _, _, _, _]) rfl (lkF hF) rfl rfl rfl rfl) ?_
        refine ao_y rfl rfl (by decide) (V2.call (spec_Ahead _ _ _) rfl) ?_
        first | refine ao1 (by decide) (o_pick_t (v := .bool _) rfl rfl) ?_ | refine ao1 (by decide) (o_pick_f (v := .bool _) rfl rfl) ?_ | refine ao1 (by decide) (o_pick_b rfl rfl rfl) ?_
        refine ao1 (by decide) (o_move (v := .bool _) rfl) ?_
        refine ao_split rfl rfl (fun hg8 => ?_) (fun hg8 => ?_)
        · first | refine ao_y1 rfl rfl (by decide) (w_loadR rfl (lk rfl rfl) rfl rfl rfl) ?_ | refine ao_y1 rfl rfl (by decide) (w_loadR rfl (lk rfl rfl) rfl (zadd hr) rfl) ?_ | refine ao_y1 rfl rfl (by decide) (w_loadR rfl (lk rfl rfl) rfl (zadd hr1) rfl) ?_ | refine ao_y1 rfl rfl (by decide) (w_loadR rfl (lk rfl rfl) rfl (zadd hr2) rfl) ?_ | refine ao_y1 rfl rfl (by decide) (w_loadRp rfl hr rfl) ?_ | refine ao_y1 rfl rfl (by decide) (w_loadRp rfl hr1 rfl) ?_ | refine ao_y1 rfl rfl (by decide) (w_loadRp rfl hr2 rfl) ?_ | refine ao_y1 rfl rfl (by decide) (w_loadN (cs := [_, _, _, _, _, _, _]) rfl (lk rfl rfl) rfl rfl rfl rfl) ?_ | refine ao_y1 rfl rfl (by decide) (o_loadNp (cs := [_, _, _, _, _, _, _]) rfl hr rfl rfl) ?_ | refine ao_y1 rfl rfl (by decide) (o_loadNp (cs := [_, _, _, _, _, _, _]) rfl hr1 rfl rfl) ?_ | refine ao_y1 rfl rfl (by decide) (o_loadNp (cs := [_, _, _, _, _, _, _]) rfl hr2 rfl rfl) ?_ | refine ao_y1 rfl rfl (by decide) (w_loadR rfl (lkF hF) rfl rfl rfl) ?_ | refine ao_y1 rfl rfl (by decide) (w_loadN (cs := [_, _, _, _, _, _, _]) rfl (lkF hF) rfl rfl rfl rfl) ?_
          first | refine ao_y1 rfl rfl (by decide) (w_loadR rfl (lk rfl rfl) rfl rfl rfl) ?_ | refine ao_y1 rfl rfl (by decide) (w_loadR rfl (lk rfl rfl) rfl (zadd hr) rfl) ?_ | refine ao_y1 rfl rfl (by decide) (w_loadR rfl (lk rfl rfl) rfl (zadd hr1) rfl) ?_ | refine ao_y1 rfl rfl (by decide) (w_loadR rfl (lk rfl rfl) rfl (zadd hr2) rfl) ?_ | refine ao_y1 rfl rfl (by decide) (w_loadRp rfl hr rfl) ?_ | refine ao_y1 rfl rfl (by decide) (w_loadRp rfl hr1 rfl) ?_ | refine ao_y1 rfl rfl (by decide) (w_loadRp rfl hr2 rfl) ?_ | refine ao_y1 rfl rfl (by decide) (w_loadN (cs := [_, _, _, _, _, _, _]) rfl (lk rfl rfl) rfl rfl rfl rfl) ?_ | refine ao_y1 rfl rfl (by decide) (o_loadNp (cs := [_, _, _, _, _, _, _]) rfl hr rfl rfl) ?_ | refine ao_y1 rfl rfl (by decide) (o_loadNp (cs := [_, _, _, _, _, _, _]) rfl hr1 rfl rfl) ?_ | refine ao_y1 rfl rfl (by decide) (o_loadNp (cs := [_, _, _, _, _, _, _]) rfl hr2 rfl rfl) ?_ | refine ao_y1 rfl rfl (by decide) (w_loadR rfl (lkF hF) rfl rfl rfl) ?_ | refine ao_y1 rfl rfl (by decide) (w_loadN (cs := [_, _, _, _, _, _, _]) rfl (lkF hF) rfl rfl rfl rfl) ?_
          refine ao_y rfl rfl (by decide) (V2.call (spec_Ahead _ _ _) rfl) ?_
          first | refine ao1 (by decide) (o_pick_t (v := .bool _) rfl rfl) ?_ | refine ao1 (by decide) (o_pick_f (v := .bool _) rfl rfl) ?_ | refine ao1 (by decide) (o_pick_b rfl rfl rfl) ?_
          refine ao1 (by decide) (o_not rfl) ?_
          refine ao1 (by decide) (o_assign (v := .bool _) rfl) ?_
          exact ao_nil (Out.mk (by first | rfl | (refine congrArg AV.bool ?_; first | (simp_all; done) | (rcases hn with hn | hn <;> simp_all))) (by repeat (first | exact SubX.refl _ _ | refine SubX.at ?_ | refine SubX.put rfl ?_ | refine SubX.put_same rfl ?_)))
        · refine ao_nT rfl rfl (by decide) ?_
          refine ao_nT rfl rfl (by decide) ?_
          refine ao_nT rfl rfl (by decide) ?_
          first | refine ao1 (by decide) (o_pick_t (v := .bool _) rfl rfl) ?_ | refine ao1 (by decide) (o_pick_f (v := .bool _) rfl rfl) ?_ | refine ao1 (by decide) (o_pick_b rfl rfl rfl) ?_
          refine ao1 (by decide) (o_not rfl) ?_
          refine ao1 (by decide) (o_assign (v := .bool _) rfl) ?_
          exact ao_nil (Out.mk (by first | rfl | (refine congrArg AV.bool ?_; first | (simp_all; done) | (rcases hn with hn | hn <;> simp_all))) (by repeat (first | exact SubX.refl _ _ | refine SubX.at ?_ | refine SubX.put rfl ?_ | refine SubX.put_same rfl ?_)))
      · refine ao_nT rfl rfl (by decide) ?_
        refine ao_nT rfl rfl (by decide) ?_
        refine ao_nT rfl rfl (by decide) ?_
        first | refine ao1 (by decide) (o_pick_t (v := .bool _) rfl rfl) ?_ | refine ao1 (by decide) (o_pick_f (v := .bool _) rfl rfl) ?_ | refine ao1 (by decide) (o_pick_b rfl rfl rfl) ?_
        refine ao1 (by decide) (o_move (v := .bool _) rfl) ?_
        refine ao_nT rfl rfl (by decide) ?_
        refine ao_nT rfl rfl (by decide) ?_
        refine ao_nT rfl rfl (by decide) ?_
        first | refine ao1 (by decide) (o_pick_t (v := .bool _) rfl rfl) ?_ | refine ao1 (by decide) (o_pick_f (v := .bool _) rfl rfl) ?_ | refine ao1 (by decide) (o_pick_b rfl rfl rfl) ?_
        refine ao1 (by decide) (o_not rfl) ?_
        refine ao1 (by decide) (o_assign (v := .bool _) rfl) ?_
        exact ao_nil (Out.mk (by first | rfl | (refine congrArg AV.bool ?_; first | (simp_all; done) | (rcases hn with hn | hn <;> simp_all))) (by repeat (first | exact SubX.refl _ _ | refine SubX.at ?_ | refine SubX.put rfl ?_ | refine SubX.put_same rfl ?_)))
    repeat (first | refine join_ret ?_ | refine join_brk ?_ | refine then_nrm ?_ | refine blk_nrm ?_ | refine then_brk ?_ | refine blk_hit ?_ | refine blk_miss rfl ?_ | refine then_ret ?_ | refine blk_ret ?_ | refine aw_seq ?_ | refine aw_block ?_ | refine aw_skip ?_ | refine aw_exit ?_ | refine aw_scope ?_ | refine aw_ret ?_)
    exact e_done hB (r_tmp rfl .nil) rfl rfl
  have hr : (sright a = true ∧ sright b = true) ∧ sright c = true := by simpa using hc
  have iaa := sahead_iff hr.1.1 hr.1.1
  have iab := sahead_iff hr.1.1 hr.1.2
  have iba := sahead_iff hr.1.2 hr.1.1
  have ibc := sahead_iff hr.1.2 hr.2
  have icb := sahead_iff hr.2 hr.1.2
  have iac := sahead_iff hr.1.1 hr.2
  have ica := sahead_iff hr.2 hr.1.1
  have f0 : sahead a a = false := by
    cases h : sahead a a with
    | false => rfl
    | true => have := iaa.1 h; omega
  have f1 : sahead a b = true → sahead b a = false := by
    intro h1
    cases h : sahead b a with
    | false => rfl
    | true => have := iab.1 h1; have := iba.1 h; omega
  have f2 : sahead a b = true → sahead b c = true → sahead a c = true := by
    intro h1 h2
    have := iab.1 h1; have := ibc.1 h2
    exact iac.2 (by omega)
  have f3 : sahead a b = false → sahead b a = false → sahead b c = false → sahead c b = false → sahead a c = false ∧ sahead c a = false := by
    intro h1 h2 h3 h4
    have k1 := mt iab.2 (by simp [h1])
    have k2 := mt iba.2 (by simp [h2])
    have k3 := mt ibc.2 (by simp [h3])
    have k4 := mt icb.2 (by simp [h4])
    constructor
    · cases h : sahead a c with
      | false => rfl
      | true => have := iac.1 h; omega
    · cases h : sahead c a with
      | false => rfl
      | true => have := ica.1 h; omega
  clear iaa iab iba ibc icb iac ica
  repeat (first | refine join_ret ?_ | refine join_brk ?_ | refine then_nrm ?_ | refine blk_nrm ?_ | refine then_brk ?_ | refine blk_hit ?_ | refine blk_miss rfl ?_ | refine then_ret ?_ | refine blk_ret ?_ | refine aw_seq ?_ | refine aw_block ?_ | refine aw_skip ?_ | refine aw_exit ?_ | refine aw_scope ?_ | refine aw_ret ?_)
  refine aw_drawP mixed none 3 ?_
  try dsimp only [List.take_succ_cons, List.take_zero, List.take_nil, List.set_cons_zero, List.set_cons_succ, List.cons_append, List.nil_append]
  first | refine aqp 0 rfl (by decide +kernel) (by decide) (fun G => w_loadR rfl (lk rfl rfl) rfl rfl rfl) ?_ | refine aqp 0 rfl (by decide +kernel) (by decide) (fun G => w_loadR rfl (lk rfl rfl) rfl (zadd hr) rfl) ?_ | refine aqp 0 rfl (by decide +kernel) (by decide) (fun G => w_loadR rfl (lk rfl rfl) rfl (zadd hr1) rfl) ?_ | refine aqp 0 rfl (by decide +kernel) (by decide) (fun G => w_loadR rfl (lk rfl rfl) rfl (zadd hr2) rfl) ?_ | refine aqp 0 rfl (by decide +kernel) (by decide) (fun G => w_loadRp rfl hr rfl) ?_ | refine aqp 0 rfl (by decide +kernel) (by decide) (fun G => w_loadRp rfl hr1 rfl) ?_ | refine aqp 0 rfl (by decide +kernel) (by decide) (fun G => w_loadRp rfl hr2 rfl) ?_ | refine aqp 0 rfl (by decide +kernel) (by decide) (fun G => w_loadN (cs := [_, _, _, _, _, _, _]) rfl (lk rfl rfl) rfl rfl rfl rfl) ?_ | refine aqp 0 rfl (by decide +kernel) (by decide) (fun G => o_loadNp (cs := [_, _, _, _, _, _, _]) rfl hr rfl rfl) ?_ | refine aqp 0 rfl (by decide +kernel) (by decide) (fun G => o_loadNp (cs := [_, _, _, _, _, _, _]) rfl hr1 rfl rfl) ?_ | refine aqp 0 rfl (by decide +kernel) (by decide) (fun G => o_loadNp (cs := [_, _, _, _, _, _, _]) rfl hr2 rfl rfl) ?_ | refine aqp 0 rfl (by decide +kernel) (by decide) (fun G => w_loadR rfl (lkF hF) rfl rfl rfl) ?_ | refine aqp 0 rfl (by decide +kernel) (by decide) (fun G => w_loadN (cs := [_, _, _, _, _, _, _]) rfl (lkF hF) rfl rfl rfl rfl) ?_
  first | refine aqp 1 rfl (by decide +kernel) (by decide) (fun G => w_loadR rfl (lk rfl rfl) rfl rfl rfl) ?_ | refine aqp 1 rfl (by decide +kernel) (by decide) (fun G => w_loadR rfl (lk rfl rfl) rfl (zadd hr) rfl) ?_ | refine aqp 1 rfl (by decide +kernel) (by decide) (fun G => w_loadR rfl (lk rfl rfl) rfl (zadd hr1) rfl) ?_ | refine aqp 1 rfl (by decide +kernel) (by decide) (fun G => w_loadR rfl (lk rfl rfl) rfl (zadd hr2) rfl) ?_ | refine aqp 1 rfl (by decide +kernel) (by decide) (fun G => w_loadRp rfl hr rfl) ?_ | refine aqp 1 rfl (by decide +kernel) (by decide) (fun G => w_loadRp rfl hr1 rfl) ?_ | refine aqp 1 rfl (by decide +kernel) (by decide) (fun G => w_loadRp rfl hr2 rfl) ?_ | refine aqp 1 rfl (by decide +kernel) (by decide) (fun G => w_loadN (cs := [_, _, _, _, _, _, _]) rfl (lk rfl rfl) rfl rfl rfl rfl) ?_ | refine aqp 1 rfl (by decide +kernel) (by decide) (fun G => o_loadNp (cs := [_, _, _, _, _, _, _]) rfl hr rfl rfl) ?_ | refine aqp 1 rfl (by decide +kernel) (by decide) (fun G => o_loadNp (cs := [_, _, _, _, _, _, _]) rfl hr1 rfl rfl) ?_ | refine aqp 1 rfl (by decide +kernel) (by decide) (fun G => o_loadNp (cs := [_, _, _, _, _, _, _]) rfl hr2 rfl rfl) ?_ | refine aqp 1 rfl (by decide +kernel) (by decide) (fun G => w_loadR rfl (lkF hF) rfl rfl rfl) ?_ | refine aqp 1 rfl (by decide +kernel) (by decide) (fun G => w_loadN (cs := [_, _, _, _, _, _, _]) rfl (lkF hF) rfl rfl rfl rfl) ?_
  refine aq02 2 rfl (by decide +kernel) (by decide) (fun _ => V2.call (spec_Ahead _ _ _) rfl) ?_
  first | refine aqp 3 rfl (by decide +kernel) (by decide) (fun G => w_loadR rfl (lk rfl rfl) rfl rfl rfl) ?_ | refine aqp 3 rfl (by decide +kernel) (by decide) (fun G => w_loadR rfl (lk rfl rfl) rfl (zadd hr) rfl) ?_ | refine aqp 3 rfl (by decide +kernel) (by decide) (fun G => w_loadR rfl (lk rfl rfl) rfl (zadd hr1) rfl) ?_ | refine aqp 3 rfl (by decide +kernel) (by decide) (fun G => w_loadR rfl (lk rfl rfl) rfl (zadd hr2) rfl) ?_ | refine aqp 3 rfl (by decide +kernel) (by decide) (fun G => w_loadRp rfl hr rfl) ?_ | refine aqp 3 rfl (by decide +kernel) (by decide) (fun G => w_loadRp rfl hr1 rfl) ?_ | refine aqp 3 rfl (by decide +kernel) (by decide) (fun G => w_loadRp rfl hr2 rfl) ?_ | refine aqp 3 rfl (by decide +kernel) (by decide) (fun G => w_loadN (cs := [_, _, _, _, _, _, _]) rfl (lk rfl rfl) rfl rfl rfl rfl) ?_ | refine aqp 3 rfl (by decide +kernel) (by decide) (fun G => o_loadNp (cs := [_, _, _, _, _, _, _]) rfl hr rfl rfl) ?_ | refine aqp 3 rfl (by decide +kernel) (by decide) (fun G => o_loadNp (cs := [_, _, _, _, _, _, _]) rfl hr1 rfl rfl) ?_ | refine aqp 3 rfl (by decide +kernel) (by decide) (fun G => o_loadNp (cs := [_, _, _, _, _, _, _]) rfl hr2 rfl rfl) ?_ | refine aqp 3 rfl (by decide +kernel) (by decide) (fun G => w_loadR rfl (lkF hF) rfl rfl rfl) ?_ | refine aqp 3 rfl (by decide +kernel) (by decide) (fun G => w_loadN (cs := [_, _, _, _, _, _, _]) rfl (lkF hF) rfl rfl rfl rfl) ?_
  first | refine aqp 4 rfl (by decide +kernel) (by decide) (fun G => w_loadR rfl (lk rfl rfl) rfl rfl rfl) ?_ | refine aqp 4 rfl (by decide +kernel) (by decide) (fun G => w_loadR rfl (lk rfl rfl) rfl (zadd hr) rfl) ?_ | refine aqp 4 rfl (by decide +kernel) (by decide) (fun G => w_loadR rfl (lk rfl rfl) rfl (zadd hr1) rfl) ?_ | refine aqp 4 rfl (by decide +kernel) (by decide) (fun G => w_loadR rfl (lk rfl rfl) rfl (zadd hr2) rfl) ?_ | refine aqp 4 rfl (by decide +kernel) (by decide) (fun G => w_loadRp rfl hr rfl) ?_ | refine aqp 4 rfl (by decide +kernel) (by decide) (fun G => w_loadRp rfl hr1 rfl) ?_ | refine aqp 4 rfl (by decide +kernel) (by decide) (fun G => w_loadRp rfl hr2 rfl) ?_ | refine aqp 4 rfl (by decide +kernel) (by decide) (fun G => w_loadN (cs := [_, _, _, _, _, _, _]) rfl (lk rfl rfl) rfl rfl rfl rfl) ?_ | refine aqp 4 rfl (by decide +kernel) (by decide) (fun G => o_loadNp (cs := [_, _, _, _, _, _, _]) rfl hr rfl rfl) ?_ | refine aqp 4 rfl (by decide +kernel) (by decide) (fun G => o_loadNp (cs := [_, _, _, _, _, _, _]) rfl hr1 rfl rfl) ?_ | refine aqp 4 rfl (by decide +kernel) (by decide) (fun G => o_loadNp (cs := [_, _, _, _, _, _, _]) rfl hr2 rfl rfl) ?_ | refine aqp 4 rfl (by decide +kernel) (by decide) (fun G => w_loadR rfl (lkF hF) rfl rfl rfl) ?_ | refine aqp 4 rfl (by decide +kernel) (by decide) (fun G => w_loadN (cs := [_, _, _, _, _, _, _]) rfl (lkF hF) rfl rfl rfl rfl) ?_
  refine aq02 5 rfl (by decide +kernel) (by decide) (fun _ => V2.call (spec_Ahead _ _ _) rfl) ?_
  first | refine aqp 6 rfl (by decide +kernel) (by decide) (fun G => w_loadR rfl (lk rfl rfl) rfl rfl rfl) ?_ | refine aqp 6 rfl (by decide +kernel) (by decide) (fun G => w_loadR rfl (lk rfl rfl) rfl (zadd hr) rfl) ?_ | refine aqp 6 rfl (by decide +kernel) (by decide) (fun G => w_loadR rfl (lk rfl rfl) rfl (zadd hr1) rfl) ?_ | refine aqp 6 rfl (by decide +kernel) (by decide) (fun G => w_loadR rfl (lk rfl rfl) rfl (zadd hr2) rfl) ?_ | refine aqp 6 rfl (by decide +kernel) (by decide) (fun G => w_loadRp rfl hr rfl) ?_ | refine aqp 6 rfl (by decide +kernel) (by decide) (fun G => w_loadRp rfl hr1 rfl) ?_ | refine aqp 6 rfl (by decide +kernel) (by decide) (fun G => w_loadRp rfl hr2 rfl) ?_ | refine aqp 6 rfl (by decide +kernel) (by decide) (fun G => w_loadN (cs := [_, _, _, _, _, _, _]) rfl (lk rfl rfl) rfl rfl rfl rfl) ?_ | refine aqp 6 rfl (by decide +kernel) (by decide) (fun G => o_loadNp (cs := [_, _, _, _, _, _, _]) rfl hr rfl rfl) ?_ | refine aqp 6 rfl (by decide +kernel) (by decide) (fun G => o_loadNp (cs := [_, _, _, _, _, _, _]) rfl hr1 rfl rfl) ?_ | refine aqp 6 rfl (by decide +kernel) (by decide) (fun G => o_loadNp (cs := [_, _, _, _, _, _, _]) rfl hr2 rfl rfl) ?_ | refine aqp 6 rfl (by decide +kernel) (by decide) (fun G => w_loadR rfl (lkF hF) rfl rfl rfl) ?_ | refine aqp 6 rfl (by decide +kernel) (by decide) (fun G => w_loadN (cs := [_, _, _, _, _, _, _]) rfl (lkF hF) rfl rfl rfl rfl) ?_
  first | refine aqp 7 rfl (by decide +kernel) (by decide) (fun G => w_loadR rfl (lk rfl rfl) rfl rfl rfl) ?_ | refine aqp 7 rfl (by decide +kernel) (by decide) (fun G => w_loadR rfl (lk rfl rfl) rfl (zadd hr) rfl) ?_ | refine aqp 7 rfl (by decide +kernel) (by decide) (fun G => w_loadR rfl (lk rfl rfl) rfl (zadd hr1) rfl) ?_ | refine aqp 7 rfl (by decide +kernel) (by decide) (fun G => w_loadR rfl (lk rfl rfl) rfl (zadd hr2) rfl) ?_ | refine aqp 7 rfl (by decide +kernel) (by decide) (fun G => w_loadRp rfl hr rfl) ?_ | refine aqp 7 rfl (by decide +kernel) (by decide) (fun G => w_loadRp rfl hr1 rfl) ?_ | refine aqp 7 rfl (by decide +kernel) (by decide) (fun G => w_loadRp rfl hr2 rfl) ?_ | refine aqp 7 rfl (by decide +kernel) (by decide) (fun G => w_loadN (cs := [_, _, _, _, _, _, _]) rfl (lk rfl rfl) rfl rfl rfl rfl) ?_ | refine aqp 7 rfl (by decide +kernel) (by decide) (fun G => o_loadNp (cs := [_, _, _, _, _, _, _]) rfl hr rfl rfl) ?_ | refine aqp 7 rfl (by decide +kernel) (by decide) (fun G => o_loadNp (cs := [_, _, _, _, _, _, _]) rfl hr1 rfl rfl) ?_ | refine aqp 7 rfl (by decide +kernel) (by decide) (fun G => o_loadNp (cs := [_, _, _, _, _, _, _]) rfl hr2 rfl rfl) ?_ | refine aqp 7 rfl (by decide +kernel) (by decide) (fun G => w_loadR rfl (lkF hF) rfl rfl rfl) ?_ | refine aqp 7 rfl (by decide +kernel) (by decide) (fun G => w_loadN (cs := [_, _, _, _, _, _, _]) rfl (lkF hF) rfl rfl rfl rfl) ?_
  refine aq02 8 rfl (by decide +kernel) (by decide) (fun _ => V2.call (spec_Ahead _ _ _) rfl) ?_
  first | refine aqp 9 rfl (by decide +kernel) (by decide) (fun G => w_loadR rfl (lk rfl rfl) rfl rfl rfl) ?_ | refine aqp 9 rfl (by decide +kernel) (by decide) (fun G => w_loadR rfl (lk rfl rfl) rfl (zadd hr) rfl) ?_ | refine aqp 9 rfl (by decide +kernel) (by decide) (fun G => w_loadR rfl (lk rfl rfl) rfl (zadd hr1) rfl) ?_ | refine aqp 9 rfl (by decide +kernel) (by decide) (fun G => w_loadR rfl (lk rfl rfl) rfl (zadd hr2) rfl) ?_ | refine aqp 9 rfl (by decide +kernel) (by decide) (fun G => w_loadRp rfl hr rfl) ?_ | refine aqp 9 rfl (by decide +kernel) (by decide) (fun G => w_loadRp rfl hr1 rfl) ?_ | refine aqp 9 rfl (by decide +kernel) (by decide) (fun G => w_loadRp rfl hr2 rfl) ?_ | refine aqp 9 rfl (by decide +kernel) (by decide) (fun G => w_loadN (cs := [_, _, _, _, _, _, _]) rfl (lk rfl rfl) rfl rfl rfl rfl) ?_ | refine aqp 9 rfl (by decide +kernel) (by decide) (fun G => o_loadNp (cs := [_, _, _, _, _, _, _]) rfl hr rfl rfl) ?_ | refine aqp 9 rfl (by decide +kernel) (by decide) (fun G => o_loadNp (cs := [_, _, _, _, _, _, _]) rfl hr1 rfl rfl) ?_ | refine aqp 9 rfl (by decide +kernel) (by decide) (fun G => o_loadNp (cs := [_, _, _, _, _, _, _]) rfl hr2 rfl rfl) ?_ | refine aqp 9 rfl (by decide +kernel) (by decide) (fun G => w_loadR rfl (lkF hF) rfl rfl rfl) ?_ | refine aqp 9 rfl (by decide +kernel) (by decide) (fun G => w_loadN (cs := [_, _, _, _, _, _, _]) rfl (lkF hF) rfl rfl rfl rfl) ?_
  first | refine aqp 10 rfl (by decide +kernel) (by decide) (fun G => w_loadR rfl (lk rfl rfl) rfl rfl rfl) ?_ | refine aqp 10 rfl (by decide +kernel) (by decide) (fun G => w_loadR rfl (lk rfl rfl) rfl (zadd hr) rfl) ?_ | refine aqp 10 rfl (by decide +kernel) (by decide) (fun G => w_loadR rfl (lk rfl rfl) rfl (zadd hr1) rfl) ?_ | refine aqp 10 rfl (by decide +kernel) (by decide) (fun G => w_loadR rfl (lk rfl rfl) rfl (zadd hr2) rfl) ?_ | refine aqp 10 rfl (by decide +kernel) (by decide) (fun G => w_loadRp rfl hr rfl) ?_ | refine aqp 10 rfl (by decide +kernel) (by decide) (fun G => w_loadRp rfl hr1 rfl) ?_ | refine aqp 10 rfl (by decide +kernel) (by decide) (fun G => w_loadRp rfl hr2 rfl) ?_ | refine aqp 10 rfl (by decide +kernel) (by decide) (fun G => w_loadN (cs := [_, _, _, _, _, _, _]) rfl (lk rfl rfl) rfl rfl rfl rfl) ?_ | refine aqp 10 rfl (by decide +kernel) (by decide) (fun G => o_loadNp (cs := [_, _, _, _, _, _, _]) rfl hr rfl rfl) ?_ | refine aqp 10 rfl (by decide +kernel) (by decide) (fun G => o_loadNp (cs := [_, _, _, _, _, _, _]) rfl hr1 rfl rfl) ?_ | refine aqp 10 rfl (by decide +kernel) (by decide) (fun G => o_loadNp (cs := [_, _, _, _, _, _, _]) rfl hr2 rfl rfl) ?_ | refine aqp 10 rfl (by decide +kernel) (by decide) (fun G => w_loadR rfl (lkF hF) rfl rfl rfl) ?_ | refine aqp 10 rfl (by decide +kernel) (by decide) (fun G => w_loadN (cs := [_, _, _, _, _, _, _]) rfl (lkF hF) rfl rfl rfl rfl) ?_
  refine aq02 11 rfl (by decide +kernel) (by decide) (fun _ => V2.call (spec_Ahead _ _ _) rfl) ?_
  first | refine aqp 12 rfl (by decide +kernel) (by decide) (fun G => w_loadR rfl (lk rfl rfl) rfl rfl rfl) ?_ | refine aqp 12 rfl (by decide +kernel) (by decide) (fun G => w_loadR rfl (lk rfl rfl) rfl (zadd hr) rfl) ?_ | refine aqp 12 rfl (by decide +kernel) (by decide) (fun G => w_loadR rfl (lk rfl rfl) rfl (zadd hr1) rfl) ?_ | refine aqp 12 rfl (by decide +kernel) (by decide) (fun G => w_loadR rfl (lk rfl rfl) rfl (zadd hr2) rfl) ?_ | refine aqp 12 rfl (by decide +kernel) (by decide) (fun G => w_loadRp rfl hr rfl) ?_ | refine aqp 12 rfl (by decide +kernel) (by decide) (fun G => w_loadRp rfl hr1 rfl) ?_ | refine aqp 12 rfl (by decide +kernel) (by decide) (fun G => w_loadRp rfl hr2 rfl) ?_ | refine aqp 12 rfl (by decide +kernel) (by decide) (fun G => w_loadN (cs := [_, _, _, _, _, _, _]) rfl (lk rfl rfl) rfl rfl rfl rfl) ?_ | refine aqp 12 rfl (by decide +kernel) (by decide) (fun G => o_loadNp (cs := [_, _, _, _, _, _, _]) rfl hr rfl rfl) ?_ | refine aqp 12 rfl (by decide +kernel) (by decide) (fun G => o_loadNp (cs := [_, _, _, _, _, _, _]) rfl hr1 rfl rfl) ?_ | refine aqp 12 rfl (by decide +kernel) (by decide) (fun G => o_loadNp (cs := [_, _, _, _, _, _, _]) rfl hr2 rfl rfl) ?_ | refine aqp 12 rfl (by decide +kernel) (by decide) (fun G => w_loadR rfl (lkF hF) rfl rfl rfl) ?_ | refine aqp 12 rfl (by decide +kernel) (by decide) (fun G => w_loadN (cs := [_, _, _, _, _, _, _]) rfl (lkF hF) rfl rfl rfl rfl) ?_
  first | refine aqp 13 rfl (by decide +kernel) (by decide) (fun G => w_loadR rfl (lk rfl rfl) rfl rfl rfl) ?_ | refine aqp 13 rfl (by decide +kernel) (by decide) (fun G => w_loadR rfl (lk rfl rfl) rfl (zadd hr) rfl) ?_ | refine aqp 13 rfl (by decide +kernel) (by decide) (fun G => w_loadR rfl (lk rfl rfl) rfl (zadd hr1) rfl) ?_ | refine aqp 13 rfl (by decide +kernel) (by decide) (fun G => w_loadR rfl (lk rfl rfl) rfl (zadd hr2) rfl) ?_ | refine aqp 13 rfl (by decide +kernel) (by decide) (fun G => w_loadRp rfl hr rfl) ?_ | refine aqp 13 rfl (by decide +kernel) (by decide) (fun G => w_loadRp rfl hr1 rfl) ?_ | refine aqp 13 rfl (by decide +kernel) (by decide) (fun G => w_loadRp rfl hr2 rfl) ?_ | refine aqp 13 rfl (by decide +kernel) (by decide) (fun G => w_loadN (cs := [_, _, _, _, _, _, _]) rfl (lk rfl rfl) rfl rfl rfl rfl) ?_ | refine aqp 13 rfl (by decide +kernel) (by decide) (fun G => o_loadNp (cs := [_, _, _, _, _, _, _]) rfl hr rfl rfl) ?_ | refine aqp 13 rfl (by decide +kernel) (by decide) (fun G => o_loadNp (cs := [_, _, _, _, _, _, _]) rfl hr1 rfl rfl) ?_ | refine aqp 13 rfl (by decide +kernel) (by decide) (fun G => o_loadNp (cs := [_, _, _, _, _, _, _]) rfl hr2 rfl rfl) ?_ | refine aqp 13 rfl (by decide +kernel) (by decide) (fun G => w_loadR rfl (lkF hF) rfl rfl rfl) ?_ | refine aqp 13 rfl (by decide +kernel) (by decide) (fun G => w_loadN (cs := [_, _, _, _, _, _, _]) rfl (lkF hF) rfl rfl rfl rfl) ?_
  refine aq02 14 rfl (by decide +kernel) (by decide) (fun _ => V2.call (spec_Ahead _ _ _) rfl) ?_
  refine aq0 15 rfl (by decide +kernel) (by decide) (fun _ => o_assign (v := .bool _) rfl) ?_
  refine aq0 16 rfl (by decide +kernel) (by decide) (fun _ => o_assign (v := .bool _) rfl) ?_
  refine aq0 17 rfl (by decide +kernel) (by decide) (fun _ => o_assign (v := .bool _) rfl) ?_
  refine aq0 18 rfl (by decide +kernel) (by decide) (fun _ => o_assign (v := .bool _) rfl) ?_
  refine aq0 19 rfl (by decide +kernel) (by decide) (fun _ => o_assign (v := .bool _) rfl) ?_
  refine aa_done (by decide +kernel) (by first | exact fun _ => trivial | exact fun _ => ⟨_, rfl⟩ | exact fun _ => ⟨_, rfl, rfl⟩ | exact yet_done (by decide +kernel)) ?_
  try dsimp only [List.set_cons_zero, List.set_cons_succ, List.cons_append, List.nil_append, List.take_succ_cons, List.take_zero, List.drop_succ_cons, List.drop_zero, AV.cells, List.length_nil, List.length_cons, Av.put, Nat.reduceAdd, AV.up, AV.up1, List.map_cons, List.map_nil]
  generalize sahead a b = ab at *
  generalize sahead b a = ba at *
  generalize sahead b c = bc at *
  generalize sahead c b = cb at *
  generalize sahead a c = ac at *
  repeat (first | refine join_ret ?_ | refine join_brk ?_ | refine then_nrm ?_ | refine blk_nrm ?_ | refine then_brk ?_ | refine blk_hit ?_ | refine blk_miss rfl ?_ | refine then_ret ?_ | refine blk_ret ?_ | refine aw_seq ?_ | refine aw_block ?_ | refine aw_skip ?_ | refine aw_exit ?_ | refine aw_scope ?_ | refine aw_ret ?_)
  refine aw_out 74 (.bool false) ?_ ?_
  · first | refine ao1 (by decide) (w_loadR rfl (lk rfl rfl) rfl rfl rfl) ?_ | refine ao1 (by decide) (w_loadR rfl (lk rfl rfl) rfl (zadd hr) rfl) ?_ | refine ao1 (by decide) (w_loadR rfl (lk rfl rfl) rfl (zadd hr1) rfl) ?_ | refine ao1 (by decide) (w_loadR rfl (lk rfl rfl) rfl (zadd hr2) rfl) ?_ | refine ao1 (by decide) (w_loadRp rfl hr rfl) ?_ | refine ao1 (by decide) (w_loadRp rfl hr1 rfl) ?_ | refine ao1 (by decide) (w_loadRp rfl hr2 rfl) ?_ | refine ao1 (by decide) (w_loadN (cs := [_, _, _, _, _, _, _]) rfl (lk rfl rfl) rfl rfl rfl rfl) ?_ | refine ao1 (by decide) (o_loadNp (cs := [_, _, _, _, _, _, _]) rfl hr rfl rfl) ?_ | refine ao1 (by decide) (o_loadNp (cs := [_, _, _, _, _, _, _]) rfl hr1 rfl rfl) ?_ | refine ao1 (by decide) (o_loadNp (cs := [_, _, _, _, _, _, _]) rfl hr2 rfl rfl) ?_ | refine ao1 (by decide) (w_loadR rfl (lkF hF) rfl rfl rfl) ?_ | refine ao1 (by decide) (w_loadN (cs := [_, _, _, _, _, _, _]) rfl (lkF hF) rfl rfl rfl rfl) ?_
    first | refine ao1 (by decide) (w_loadR rfl (lk rfl rfl) rfl rfl rfl) ?_ | refine ao1 (by decide) (w_loadR rfl (lk rfl rfl) rfl (zadd hr) rfl) ?_ | refine ao1 (by decide) (w_loadR rfl (lk rfl rfl) rfl (zadd hr1) rfl) ?_ | refine ao1 (by decide) (w_loadR rfl (lk rfl rfl) rfl (zadd hr2) rfl) ?_ | refine ao1 (by decide) (w_loadRp rfl hr rfl) ?_ | refine ao1 (by decide) (w_loadRp rfl hr1 rfl) ?_ | refine ao1 (by decide) (w_loadRp rfl hr2 rfl) ?_ | refine ao1 (by decide) (w_loadN (cs := [_, _, _, _, _, _, _]) rfl (lk rfl rfl) rfl rfl rfl rfl) ?_ | refine ao1 (by decide) (o_loadNp (cs := [_, _, _, _, _, _, _]) rfl hr rfl rfl) ?_ | refine ao1 (by decide) (o_loadNp (cs := [_, _, _, _, _, _, _]) rfl hr1 rfl rfl) ?_ | refine ao1 (by decide) (o_loadNp (cs := [_, _, _, _, _, _, _]) rfl hr2 rfl rfl) ?_ | refine ao1 (by decide) (w_loadR rfl (lkF hF) rfl rfl rfl) ?_ | refine ao1 (by decide) (w_loadN (cs := [_, _, _, _, _, _, _]) rfl (lkF hF) rfl rfl rfl rfl) ?_
    refine ao_ret (spec_Ahead _ _ _) rfl (by decide) ?_
    refine ao1 (by decide) (o_move (v := .bool _) rfl) ?_
    refine ao_split rfl rfl (fun hg3 => ?_) (fun hg3 => ?_)
    · refine ao_nF rfl rfl (by decide) ?_
      refine ao_nF rfl rfl (by decide) ?_
      refine ao_nU rfl rfl (by decide) ?_
      refine ao_nF rfl rfl (by decide) ?_
      first | refine ao1 (by decide) (o_pick_t (v := .bool _) rfl rfl) ?_ | refine ao1 (by decide) (o_pick_f (v := .bool _) rfl rfl) ?_ | refine ao1 (by decide) (o_pick_b rfl rfl rfl) ?_
      refine ao1 (by decide) (o_move (v := .bool _) rfl) ?_
      refine ao_nF rfl rfl (by decide) ?_
      refine ao_nF rfl rfl (by decide) ?_
      refine ao_nU rfl rfl (by decide) ?_
      refine ao_nF rfl rfl (by decide) ?_
      refine ao_nF rfl rfl (by decide) ?_
      refine ao_nU rfl rfl (by decide) ?_
      refine ao_nU rfl rfl (by decide) ?_
      refine ao_nF rfl rfl (by decide) ?_
      first | refine ao1 (by decide) (o_pick_t (v := .bool _) rfl rfl) ?_ | refine ao1 (by decide) (o_pick_f (v := .bool _) rfl rfl) ?_ | refine ao1 (by decide) (o_pick_b rfl rfl rfl) ?_
      exact ao_nil (Out.mk (by first | rfl | (refine congrArg AV.bool ?_; first | (simp_all; done) | (cases ab <;> cases ba <;> cases bc <;> cases ac <;> simp_all))) (by repeat (first | exact SubX.refl _ _ | refine SubX.at ?_ | refine SubX.put rfl ?_ | refine SubX.put_same rfl ?_)))
    · refine ao_y1 rfl rfl (by decide) (o_move (v := .bool _) rfl) ?_
      refine ao_y1 rfl rfl (by decide) (o_move (v := .bool _) rfl) ?_
      refine ao_split rfl rfl (fun hg5 => ?_) (fun hg5 => ?_)
      · refine ao_y1 rfl rfl (by decide) (o_move (v := .bool _) rfl) ?_
        first | refine ao_y1 rfl rfl (by decide) (o_pick_t (v := .bool _) rfl rfl) ?_ | refine ao_y1 rfl rfl (by decide) (o_pick_f (v := .bool _) rfl rfl) ?_ | refine ao_y1 rfl rfl (by decide) (o_pick_b rfl rfl rfl) ?_
        first | refine ao1 (by decide) (o_pick_t (v := .bool _) rfl rfl) ?_ | refine ao1 (by decide) (o_pick_f (v := .bool _) rfl rfl) ?_ | refine ao1 (by decide) (o_pick_b rfl rfl rfl) ?_
        refine ao1 (by decide) (o_move (v := .bool _) rfl) ?_
        refine ao_split rfl rfl (fun hg9 => ?_) (fun hg9 => ?_)
        · refine ao_nF rfl rfl (by decide) ?_
          refine ao_nF rfl rfl (by decide) ?_
          refine ao_nU rfl rfl (by decide) ?_
          refine ao_nF rfl rfl (by decide) ?_
          refine ao_nF rfl rfl (by decide) ?_
          refine ao_nU rfl rfl (by decide) ?_
          refine ao_nU rfl rfl (by decide) ?_
          refine ao_nF rfl rfl (by decide) ?_
          first | refine ao1 (by decide) (o_pick_t (v := .bool _) rfl rfl) ?_ | refine ao1 (by decide) (o_pick_f (v := .bool _) rfl rfl) ?_ | refine ao1 (by decide) (o_pick_b rfl rfl rfl) ?_
          exact ao_nil (Out.mk (by first | rfl | (refine congrArg AV.bool ?_; first | (simp_all; done) | (cases ab <;> cases ba <;> cases bc <;> cases ac <;> simp_all))) (by repeat (first | exact SubX.refl _ _ | refine SubX.at ?_ | refine SubX.put rfl ?_ | refine SubX.put_same rfl ?_)))
        · refine ao_y1 rfl rfl (by decide) (o_move (v := .bool _) rfl) ?_
          refine ao_y1 rfl rfl (by decide) (o_move (v := .bool _) rfl) ?_
          refine ao_split rfl rfl (fun hg11 => ?_) (fun hg11 => ?_)
          · refine ao_y1 rfl rfl (by decide) (o_move (v := .bool _) rfl) ?_
            first | refine ao_y1 rfl rfl (by decide) (o_pick_t (v := .bool _) rfl rfl) ?_ | refine ao_y1 rfl rfl (by decide) (o_pick_f (v := .bool _) rfl rfl) ?_ | refine ao_y1 rfl rfl (by decide) (o_pick_b rfl rfl rfl) ?_
            refine ao_y1 rfl rfl (by decide) (o_move (v := .bool _) rfl) ?_
            refine ao_split rfl rfl (fun hg14 => ?_) (fun hg14 => ?_)
            · refine ao_y1 rfl rfl (by decide) (o_move (v := .bool _) rfl) ?_
              refine ao_y1 rfl rfl (by decide) (o_not rfl) ?_
              first | refine ao_y1 rfl rfl (by decide) (o_pick_t (v := .bool _) rfl rfl) ?_ | refine ao_y1 rfl rfl (by decide) (o_pick_f (v := .bool _) rfl rfl) ?_ | refine ao_y1 rfl rfl (by decide) (o_pick_b rfl rfl rfl) ?_
              first | refine ao1 (by decide) (o_pick_t (v := .bool _) rfl rfl) ?_ | refine ao1 (by decide) (o_pick_f (v := .bool _) rfl rfl) ?_ | refine ao1 (by decide) (o_pick_b rfl rfl rfl) ?_
              exact ao_nil (Out.mk (by first | rfl | (refine congrArg AV.bool ?_; first | (simp_all; done) | (cases ab <;> cases ba <;> cases bc <;> cases ac <;> simp_all))) (by repeat (first | exact SubX.refl _ _ | refine SubX.at ?_ | refine SubX.put rfl ?_ | refine SubX.put_same rfl ?_)))
            · refine ao_nT rfl rfl (by decide) ?_
              refine ao_nT rfl rfl (by decide) ?_
              first | refine ao_y1 rfl rfl (by decide) (o_pick_t (v := .bool _) rfl rfl) ?_ | refine ao_y1 rfl rfl (by decide) (o_pick_f (v := .bool _) rfl rfl) ?_ | refine ao_y1 rfl rfl (by decide) (o_pick_b rfl rfl rfl) ?_
              first | refine ao1 (by decide) (o_pick_t (v := .bool _) rfl rfl) ?_ | refine ao1 (by decide) (o_pick_f (v := .bool _) rfl rfl) ?_ | refine ao1 (by decide) (o_pick_b rfl rfl rfl) ?_
              exact ao_nil (Out.mk (by first | rfl | (refine congrArg AV.bool ?_; first | (simp_all; done) | (cases ab <;> cases ba <;> cases bc <;> cases ac <;> simp_all))) (by repeat (first | exact SubX.refl _ _ | refine SubX.at ?_ | refine SubX.put rfl ?_ | refine SubX.put_same rfl ?_)))
          · refine ao_nT rfl rfl (by decide) ?_
            first | refine ao_y1 rfl rfl (by decide) (o_pick_t (v := .bool _) rfl rfl) ?_ | refine ao_y1 rfl rfl (by decide) (o_pick_f (v := .bool _) rfl rfl) ?_ | refine ao_y1 rfl rfl (by decide) (o_pick_b rfl rfl rfl) ?_
            refine ao_y1 rfl rfl (by decide) (o_move (v := .bool _) rfl) ?_
            refine ao_nT rfl rfl (by decide) ?_
            refine ao_nT rfl rfl (by decide) ?_
            first | refine ao_y1 rfl rfl (by decide) (o_pick_t (v := .bool _) rfl rfl) ?_ | refine ao_y1 rfl rfl (by decide) (o_pick_f (v := .bool _) rfl rfl) ?_ | refine ao_y1 rfl rfl (by decide) (o_pick_b rfl rfl rfl) ?_
            first | refine ao1 (by decide) (o_pick_t (v := .bool _) rfl rfl) ?_ | refine ao1 (by decide) (o_pick_f (v := .bool _) rfl rfl) ?_ | refine ao1 (by decide) (o_pick_b rfl rfl rfl) ?_
            exact ao_nil (Out.mk (by first | rfl | (refine congrArg AV.bool ?_; first | (simp_all; done) | (cases ab <;> cases ba <;> cases bc <;> cases ac <;> simp_all))) (by repeat (first | exact SubX.refl _ _ | refine SubX.at ?_ | refine SubX.put rfl ?_ | refine SubX.put_same rfl ?_)))
      · refine ao_nT rfl rfl (by decide) ?_
        first | refine ao_y1 rfl rfl (by decide) (o_pick_t (v := .bool _) rfl rfl) ?_ | refine ao_y1 rfl rfl (by decide) (o_pick_f (v := .bool _) rfl rfl) ?_ | refine ao_y1 rfl rfl (by decide) (o_pick_b rfl rfl rfl) ?_
        first | refine ao1 (by decide) (o_pick_t (v := .bool _) rfl rfl) ?_ | refine ao1 (by decide) (o_pick_f (v := .bool _) rfl rfl) ?_ | refine ao1 (by decide) (o_pick_b rfl rfl rfl) ?_
        refine ao1 (by decide) (o_move (v := .bool _) rfl) ?_
        refine ao_y1 rfl rfl (by decide) (o_move (v := .bool _) rfl) ?_
        refine ao_y1 rfl rfl (by decide) (o_move (v := .bool _) rfl) ?_
        refine ao_split rfl rfl (fun hg11 => ?_) (fun hg11 => ?_)
        · refine ao_y1 rfl rfl (by decide) (o_move (v := .bool _) rfl) ?_
          first | refine ao_y1 rfl rfl (by decide) (o_pick_t (v := .bool _) rfl rfl) ?_ | refine ao_y1 rfl rfl (by decide) (o_pick_f (v := .bool _) rfl rfl) ?_ | refine ao_y1 rfl rfl (by decide) (o_pick_b rfl rfl rfl) ?_
          refine ao_y1 rfl rfl (by decide) (o_move (v := .bool _) rfl) ?_
          refine ao_split rfl rfl (fun hg14 => ?_) (fun hg14 => ?_)
          · refine ao_y1 rfl rfl (by decide) (o_move (v := .bool _) rfl) ?_
            refine ao_y1 rfl rfl (by decide) (o_not rfl) ?_
            first | refine ao_y1 rfl rfl (by decide) (o_pick_t (v := .bool _) rfl rfl) ?_ | refine ao_y1 rfl rfl (by decide) (o_pick_f (v := .bool _) rfl rfl) ?_ | refine ao_y1 rfl rfl (by decide) (o_pick_b rfl rfl rfl) ?_
            first | refine ao1 (by decide) (o_pick_t (v := .bool _) rfl rfl) ?_ | refine ao1 (by decide) (o_pick_f (v := .bool _) rfl rfl) ?_ | refine ao1 (by decide) (o_pick_b rfl rfl rfl) ?_
            exact ao_nil (Out.mk (by first | rfl | (refine congrArg AV.bool ?_; first | (simp_all; done) | (cases ab <;> cases ba <;> cases bc <;> cases ac <;> simp_all))) (by repeat (first | exact SubX.refl _ _ | refine SubX.at ?_ | refine SubX.put rfl ?_ | refine SubX.put_same rfl ?_)))
          · refine ao_nT rfl rfl (by decide) ?_
            refine ao_nT rfl rfl (by decide) ?_
            first | refine ao_y1 rfl rfl (by decide) (o_pick_t (v := .bool _) rfl rfl) ?_ | refine ao_y1 rfl rfl (by decide) (o_pick_f (v := .bool _) rfl rfl) ?_ | refine ao_y1 rfl rfl (by decide) (o_pick_b rfl rfl rfl) ?_
            first | refine ao1 (by decide) (o_pick_t (v := .bool _) rfl rfl) ?_ | refine ao1 (by decide) (o_pick_f (v := .bool _) rfl rfl) ?_ | refine ao1 (by decide) (o_pick_b rfl rfl rfl) ?_
            exact ao_nil (Out.mk (by first | rfl | (refine congrArg AV.bool ?_; first | (simp_all; done) | (cases ab <;> cases ba <;> cases bc <;> cases ac <;> simp_all))) (by repeat (first | exact SubX.refl _ _ | refine SubX.at ?_ | refine SubX.put rfl ?_ | refine SubX.put_same rfl ?_)))
        · refine ao_nT rfl rfl (by decide) ?_
          first | refine ao_y1 rfl rfl (by decide) (o_pick_t (v := .bool _) rfl rfl) ?_ | refine ao_y1 rfl rfl (by decide) (o_pick_f (v := .bool _) rfl rfl) ?_ | refine ao_y1 rfl rfl (by decide) (o_pick_b rfl rfl rfl) ?_
          refine ao_y1 rfl rfl (by decide) (o_move (v := .bool _) rfl) ?_
          refine ao_nT rfl rfl (by decide) ?_
          refine ao_nT rfl rfl (by decide) ?_
          first | refine ao_y1 rfl rfl (by decide) (o_pick_t (v := .bool _) rfl rfl) ?_ | refine ao_y1 rfl rfl (by decide) (o_pick_f (v := .bool _) rfl rfl) ?_ | refine ao_y1 rfl rfl (by decide) (o_pick_b rfl rfl rfl) ?_
          first | refine ao1 (by decide) (o_pick_t (v := .bool _) rfl rfl) ?_ | refine ao1 (by decide) (o_pick_f (v := .bool _) rfl rfl) ?_ | refine ao1 (by decide) (o_pick_b rfl rfl rfl) ?_
          exact ao_nil (Out.mk (by first | rfl | (refine congrArg AV.bool ?_; first | (simp_all; done) | (cases ab <;> cases ba <;> cases bc <;> cases ac <;> simp_all))) (by repeat (first | exact SubX.refl _ _ | refine SubX.at ?_ | refine SubX.put rfl ?_ | refine SubX.put_same rfl ?_)))
  repeat (first | refine join_ret ?_ | refine join_brk ?_ | refine then_nrm ?_ | refine blk_nrm ?_ | refine then_brk ?_ | refine blk_hit ?_ | refine blk_miss rfl ?_ | refine then_ret ?_ | refine blk_ret ?_ | refine aw_seq ?_ | refine aw_block ?_ | refine aw_skip ?_ | refine aw_exit ?_ | refine aw_scope ?_ | refine aw_ret ?_)
  refine aw_cond rfl (fun hc => ?_) (fun hc => ?_)
  · simp at hc
  repeat (first | refine join_ret ?_ | refine join_brk ?_ | refine then_nrm ?_ | refine blk_nrm ?_ | refine then_brk ?_ | refine blk_hit ?_ | refine blk_miss rfl ?_ | refine then_ret ?_ | refine blk_ret ?_ | refine aw_seq ?_ | refine aw_block ?_ | refine aw_skip ?_ | refine aw_exit ?_ | refine aw_scope ?_ | refine aw_ret ?_)
  refine aw_out 6 (.bool true) ?_ ?_
  · refine ao1 (by decide) (o_move (v := .bool _) rfl) ?_
    refine ao1 (by decide) (o_move (v := .bool _) rfl) ?_
    refine ao_split rfl rfl (fun hg1 => ?_) (fun hg1 => ?_)
    · refine ao_nF rfl rfl (by decide) ?_
      first | refine ao1 (by decide) (o_pick_t (v := .bool _) rfl rfl) ?_ | refine ao1 (by decide) (o_pick_f (v := .bool _) rfl rfl) ?_ | refine ao1 (by decide) (o_pick_b rfl rfl rfl) ?_
      refine ao1 (by decide) (o_move (v := .bool _) rfl) ?_
      refine ao_nF rfl rfl (by decide) ?_
      first | refine ao1 (by decide) (o_pick_t (v := .bool _) rfl rfl) ?_ | refine ao1 (by decide) (o_pick_f (v := .bool _) rfl rfl) ?_ | refine ao1 (by decide) (o_pick_b rfl rfl rfl) ?_
      refine ao1 (by decide) (o_move (v := .bool _) rfl) ?_
      refine ao_nF rfl rfl (by decide) ?_
      first | refine ao1 (by decide) (o_pick_t (v := .bool _) rfl rfl) ?_ | refine ao1 (by decide) (o_pick_f (v := .bool _) rfl rfl) ?_ | refine ao1 (by decide) (o_pick_b rfl rfl rfl) ?_
      refine ao1 (by decide) (o_move (v := .bool _) rfl) ?_
      refine ao_nF rfl rfl (by decide) ?_
      refine ao_nF rfl rfl (by decide) ?_
      refine ao_nF rfl rfl (by decide) ?_
      refine ao_nU rfl rfl (by decide) ?_
      refine ao_nU rfl rfl (by decide) ?_
      refine ao_nU rfl rfl (by decide) ?_
      refine ao_nU rfl rfl (by decide) ?_
      refine ao_nF rfl rfl (by decide) ?_
      first | refine ao1 (by decide) (o_pick_t (v := .bool _) rfl rfl) ?_ | refine ao1 (by decide) (o_pick_f (v := .bool _) rfl rfl) ?_ | refine ao1 (by decide) (o_pick_b rfl rfl rfl) ?_
      refine ao1 (by decide) (o_assign (v := .bool _) rfl) ?_
      exact ao_nil (Out.mk (by first | rfl | (refine congrArg AV.bool ?_; first | (simp_all; done) | (cases ab <;> cases ba <;> cases bc <;> cases cb <;> simp_all))) (by repeat (first | exact SubX.refl _ _ | refine SubX.at ?_ | refine SubX.put rfl ?_ | refine SubX.put_same rfl ?_)))
    · refine ao_y1 rfl rfl (by decide) (o_move (v := .bool _) rfl) ?_
      first | refine ao1 (by decide) (o_pick_t (v := .bool _) rfl rfl) ?_ | refine ao1 (by decide) (o_pick_f (v := .bool _) rfl rfl) ?_ | refine ao1 (by decide) (o_pick_b rfl rfl rfl) ?_
      refine ao1 (by decide) (o_move (v := .bool _) rfl) ?_
      refine ao_split rfl rfl (fun hg4 => ?_) (fun hg4 => ?_)
      · refine ao_nF rfl rfl (by decide) ?_
        first | refine ao1 (by decide) (o_pick_t (v := .bool _) rfl rfl) ?_ | refine ao1 (by decide) (o_pick_f (v := .bool _) rfl rfl) ?_ | refine ao1 (by decide) (o_pick_b rfl rfl rfl) ?_
        refine ao1 (by decide) (o_move (v := .bool _) rfl) ?_
        refine ao_nF rfl rfl (by decide) ?_
        first | refine ao1 (by decide) (o_pick_t (v := .bool _) rfl rfl) ?_ | refine ao1 (by decide) (o_pick_f (v := .bool _) rfl rfl) ?_ | refine ao1 (by decide) (o_pick_b rfl rfl rfl) ?_
        refine ao1 (by decide) (o_move (v := .bool _) rfl) ?_
        refine ao_nF rfl rfl (by decide) ?_
        refine ao_nF rfl rfl (by decide) ?_
        refine ao_nF rfl rfl (by decide) ?_
        refine ao_nU rfl rfl (by decide) ?_
        refine ao_nU rfl rfl (by decide) ?_
        refine ao_nU rfl rfl (by decide) ?_
        refine ao_nU rfl rfl (by decide) ?_
        refine ao_nF rfl rfl (by decide) ?_
        first | refine ao1 (by decide) (o_pick_t (v := .bool _) rfl rfl) ?_ | refine ao1 (by decide) (o_pick_f (v := .bool _) rfl rfl) ?_ | refine ao1 (by decide) (o_pick_b rfl rfl rfl) ?_
        refine ao1 (by decide) (o_assign (v := .bool _) rfl) ?_
        exact ao_nil (Out.mk (by first | rfl | (refine congrArg AV.bool ?_; first | (simp_all; done) | (cases ab <;> cases ba <;> cases bc <;> cases cb <;> simp_all))) (by repeat (first | exact SubX.refl _ _ | refine SubX.at ?_ | refine SubX.put rfl ?_ | refine SubX.put_same rfl ?_)))
      · refine ao_y1 rfl rfl (by decide) (o_move (v := .bool _) rfl) ?_
        first | refine ao1 (by decide) (o_pick_t (v := .bool _) rfl rfl) ?_ | refine ao1 (by decide) (o_pick_f (v := .bool _) rfl rfl) ?_ | refine ao1 (by decide) (o_pick_b rfl rfl rfl) ?_
        refine ao1 (by decide) (o_move (v := .bool _) rfl) ?_
        refine ao_split rfl rfl (fun hg7 => ?_) (fun hg7 => ?_)
        · refine ao_nF rfl rfl (by decide) ?_
          first | refine ao1 (by decide) (o_pick_t (v := .bool _) rfl rfl) ?_ | refine ao1 (by decide) (o_pick_f (v := .bool _) rfl rfl) ?_ | refine ao1 (by decide) (o_pick_b rfl rfl rfl) ?_
          refine ao1 (by decide) (o_move (v := .bool _) rfl) ?_
          refine ao_nF rfl rfl (by decide) ?_
          refine ao_nF rfl rfl (by decide) ?_
          refine ao_nF rfl rfl (by decide) ?_
          refine ao_nU rfl rfl (by decide) ?_
          refine ao_nU rfl rfl (by decide) ?_
          refine ao_nU rfl rfl (by decide) ?_
          refine ao_nU rfl rfl (by decide) ?_
          refine ao_nF rfl rfl (by decide) ?_
          first | refine ao1 (by decide) (o_pick_t (v := .bool _) rfl rfl) ?_ | refine ao1 (by decide) (o_pick_f (v := .bool _) rfl rfl) ?_ | refine ao1 (by decide) (o_pick_b rfl rfl rfl) ?_
          refine ao1 (by decide) (o_assign (v := .bool _) rfl) ?_
          exact ao_nil (Out.mk (by first | rfl | (refine congrArg AV.bool ?_; first | (simp_all; done) | (cases ab <;> cases ba <;> cases bc <;> cases cb <;> simp_all))) (by repeat (first | exact SubX.refl _ _ | refine SubX.at ?_ | refine SubX.put rfl ?_ | refine SubX.put_same rfl ?_)))
        · refine ao_y1 rfl rfl (by decide) (o_move (v := .bool _) rfl) ?_
          first | refine ao1 (by decide) (o_pick_t (v := .bool _) rfl rfl) ?_ | refine ao1 (by decide) (o_pick_f (v := .bool _) rfl rfl) ?_ | refine ao1 (by decide) (o_pick_b rfl rfl rfl) ?_
          refine ao1 (by decide) (o_move (v := .bool _) rfl) ?_
          refine ao_split rfl rfl (fun hg10 => ?_) (fun hg10 => ?_)
          · refine ao_nF rfl rfl (by decide) ?_
            refine ao_nF rfl rfl (by decide) ?_
            refine ao_nF rfl rfl (by decide) ?_
            refine ao_nU rfl rfl (by decide) ?_
            refine ao_nU rfl rfl (by decide) ?_
            refine ao_nU rfl rfl (by decide) ?_
            refine ao_nU rfl rfl (by decide) ?_
            refine ao_nF rfl rfl (by decide) ?_
            first | refine ao1 (by decide) (o_pick_t (v := .bool _) rfl rfl) ?_ | refine ao1 (by decide) (o_pick_f (v := .bool _) rfl rfl) ?_ | refine ao1 (by decide) (o_pick_b rfl rfl rfl) ?_
            refine ao1 (by decide) (o_assign (v := .bool _) rfl) ?_
            exact ao_nil (Out.mk (by first | rfl | (refine congrArg AV.bool ?_; first | (simp_all; done) | (cases ab <;> cases ba <;> cases bc <;> cases cb <;> simp_all))) (by repeat (first | exact SubX.refl _ _ | refine SubX.at ?_ | refine SubX.put rfl ?_ | refine SubX.put_same rfl ?_)))
          · refine ao_y1 rfl rfl (by decide) (o_move (v := .bool _) rfl) ?_
            refine ao_y1 rfl rfl (by decide) (o_not rfl) ?_
            refine ao_y1 rfl rfl (by decide) (o_move (v := .bool _) rfl) ?_
            refine ao_split rfl rfl (fun hg13 => ?_) (fun hg13 => ?_)
            · first | refine ao_y1 rfl rfl (by decide) (w_loadR rfl (lk rfl rfl) rfl rfl rfl) ?_ | refine ao_y1 rfl rfl (by decide) (w_loadR rfl (lk rfl rfl) rfl (zadd hr) rfl) ?_ | refine ao_y1 rfl rfl (by decide) (w_loadR rfl (lk rfl rfl) rfl (zadd hr1) rfl) ?_ | refine ao_y1 rfl rfl (by decide) (w_loadR rfl (lk rfl rfl) rfl (zadd hr2) rfl) ?_ | refine ao_y1 rfl rfl (by decide) (w_loadRp rfl hr rfl) ?_ | refine ao_y1 rfl rfl (by decide) (w_loadRp rfl hr1 rfl) ?_ | refine ao_y1 rfl rfl (by decide) (w_loadRp rfl hr2 rfl) ?_ | refine ao_y1 rfl rfl (by decide) (w_loadN (cs := [_, _, _, _, _, _, _]) rfl (lk rfl rfl) rfl rfl rfl rfl) ?_ | refine ao_y1 rfl rfl (by decide) (o_loadNp (cs := [_, _, _, _, _, _, _]) rfl hr rfl rfl) ?_ | refine ao_y1 rfl rfl (by decide) (o_loadNp (cs := [_, _, _, _, _, _, _]) rfl hr1 rfl rfl) ?_ | refine ao_y1 rfl rfl (by decide) (o_loadNp (cs := [_, _, _, _, _, _, _]) rfl hr2 rfl rfl) ?_ | refine ao_y1 rfl rfl (by decide) (w_loadR rfl (lkF hF) rfl rfl rfl) ?_ | refine ao_y1 rfl rfl (by decide) (w_loadN (cs := [_, _, _, _, _, _, _]) rfl (lkF hF) rfl rfl rfl rfl) ?_
              first | refine ao_y1 rfl rfl (by decide) (w_loadR rfl (lk rfl rfl) rfl rfl rfl) ?_ | refine ao_y1 rfl rfl (by decide) (w_loadR rfl (lk rfl rfl) rfl (zadd hr) rfl) ?_ | refine ao_y1 rfl rfl (by decide) (w_loadR rfl (lk rfl rfl) rfl (zadd hr1) rfl) ?_ | refine ao_y1 rfl rfl (by decide) (w_loadR rfl (lk rfl rfl) rfl (zadd hr2) rfl) ?_ | refine ao_y1 rfl rfl (by decide) (w_loadRp rfl hr rfl) ?_ | refine ao_y1 rfl rfl (by decide) (w_loadRp rfl hr1 rfl) ?_ | refine ao_y1 rfl rfl (by decide) (w_loadRp rfl hr2 rfl) ?_ | refine ao_y1 rfl rfl (by decide) (w_loadN (cs := [_, _, _, _, _, _, _]) rfl (lk rfl rfl) rfl rfl rfl rfl) ?_ | refine ao_y1 rfl rfl (by decide) (o_loadNp (cs := [_, _, _, _, _, _, _]) rfl hr rfl rfl) ?_ | refine ao_y1 rfl rfl (by decide) (o_loadNp (cs := [_, _, _, _, _, _, _]) rfl hr1 rfl rfl) ?_ | refine ao_y1 rfl rfl (by decide) (o_loadNp (cs := [_, _, _, _, _, _, _]) rfl hr2 rfl rfl) ?_ | refine ao_y1 rfl rfl (by decide) (w_loadR rfl (lkF hF) rfl rfl rfl) ?_ | refine ao_y1 rfl rfl (by decide) (w_loadN (cs := [_, _, _, _, _, _, _]) rfl (lkF hF) rfl rfl rfl rfl) ?_
              refine ao_y rfl rfl (by decide) (V2.call (spec_Ahead _ _ _) rfl) ?_
              refine ao_y1 rfl rfl (by decide) (o_not rfl) ?_
              first | refine ao_y1 rfl rfl (by decide) (o_pick_t (v := .bool _) rfl rfl) ?_ | refine ao_y1 rfl rfl (by decide) (o_pick_f (v := .bool _) rfl rfl) ?_ | refine ao_y1 rfl rfl (by decide) (o_pick_b rfl rfl rfl) ?_
              first | refine ao1 (by decide) (o_pick_t (v := .bool _) rfl rfl) ?_ | refine ao1 (by decide) (o_pick_f (v := .bool _) rfl rfl) ?_ | refine ao1 (by decide) (o_pick_b rfl rfl rfl) ?_
              refine ao1 (by decide) (o_assign (v := .bool _) rfl) ?_
              exact ao_nil (Out.mk (by first | rfl | (refine congrArg AV.bool ?_; first | (simp_all; done) | (cases ab <;> cases ba <;> cases bc <;> cases cb <;> simp_all))) (by repeat (first | exact SubX.refl _ _ | refine SubX.at ?_ | refine SubX.put rfl ?_ | refine SubX.put_same rfl ?_)))
            · refine ao_nT rfl rfl (by decide) ?_
              refine ao_nT rfl rfl (by decide) ?_
              refine ao_nT rfl rfl (by decide) ?_
              refine ao_nT rfl rfl (by decide) ?_
              first | refine ao_y1 rfl rfl (by decide) (o_pick_t (v := .bool _) rfl rfl) ?_ | refine ao_y1 rfl rfl (by decide) (o_pick_f (v := .bool _) rfl rfl) ?_ | refine ao_y1 rfl rfl (by decide) (o_pick_b rfl rfl rfl) ?_
              first | refine ao1 (by decide) (o_pick_t (v := .bool _) rfl rfl) ?_ | refine ao1 (by decide) (o_pick_f (v := .bool _) rfl rfl) ?_ | refine ao1 (by decide) (o_pick_b rfl rfl rfl) ?_
              refine ao1 (by decide) (o_assign (v := .bool _) rfl) ?_
              exact ao_nil (Out.mk (by first | rfl | (refine congrArg AV.bool ?_; first | (simp_all; done) | (cases ab <;> cases ba <;> cases bc <;> cases cb <;> simp_all))) (by repeat (first | exact SubX.refl _ _ | refine SubX.at ?_ | refine SubX.put rfl ?_ | refine SubX.put_same rfl ?_)))
  repeat (first | refine join_ret ?_ | refine join_brk ?_ | refine then_nrm ?_ | refine blk_nrm ?_ | refine then_brk ?_ | refine blk_hit ?_ | refine blk_miss rfl ?_ | refine then_ret ?_ | refine blk_ret ?_ | refine aw_seq ?_ | refine aw_block ?_ | refine aw_skip ?_ | refine aw_exit ?_ | refine aw_scope ?_ | refine aw_ret ?_)
  exact e_done hB (r_tmp rfl .nil) rfl rfl
end Go.Av
