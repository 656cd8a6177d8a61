/- A part of the proof: walks through the program over abstract values. -/
import Derived.Test.YtmalnbmneloogaaT4
namespace Go.Av
open Go.Proofs
set_option maxRecDepth 10000
set_option linter.unusedSimpArgs false
set_option linter.unusedVariables false

theorem ref17_Fine (x : Packet) (H : Heap) : AC Try.prog 34 [.agg (ePacket x)] H (Ret (.bool (fine x)) H) := by
  refine AC.body (N := 38) [.tmp 2] Try.func34 rfl rfl rfl (Nat.le_of_ble_eq_true rfl) fun B hB => ?_
  repeat (first | refine then_nrm ?_ | refine blk_nrm ?_ | refine then_brk ?_ | refine blk_hit ?_ | refine blk_miss rfl ?_ | refine then_ret ?_ | refine blk_ret ?_ | refine aw_seq ?_ | refine aw_block ?_ | refine aw_skip ?_ | refine aw_exit ?_ | refine aw_ret ?_)
  refine aw_region ?_
  refine ao2 (by rintro _ ⟨⟩; decide) (o_boxL (sz := 4) (v := .agg _) rfl rfl rfl rfl (by decide) rfl) ?_
  refine ao1 (by decide) (o_assign (v := .bool _) rfl) ?_
  refine ao_nil ?_
  try dsimp only [List.set_cons_zero, List.set_cons_succ, List.cons_append, List.nil_append, List.take_succ_cons, List.take_zero, List.drop_succ_cons, List.drop_zero, AV.cells, List.length_nil, List.length_cons, Av.put, Nat.reduceAdd, AV.up, AV.up1, List.map_cons, List.map_nil]
  repeat (first | refine then_nrm ?_ | refine blk_nrm ?_ | refine then_brk ?_ | refine blk_hit ?_ | refine blk_miss rfl ?_ | refine then_ret ?_ | refine blk_ret ?_ | refine aw_seq ?_ | refine aw_block ?_ | refine aw_skip ?_ | refine aw_exit ?_ | refine aw_ret ?_)
  refine aw_region ?_
  first | refine ao1 (by decide) (w_fieldAddr rfl (lk rfl rfl) rfl (by decide)) ?_ | refine ao1 (by decide) (w_fieldAddrp rfl (by decide)) ?_ | refine ao1 (by decide) (w_fieldAddr rfl (lkF hF) rfl (by decide)) ?_
  first | refine ao1 (by decide) (w_load1 (v := .int _ _) rfl (lk rfl rfl) rfl rfl rfl) ?_ | refine ao1 (by decide) (w_load1 (v := .int _ _) rfl (lk rfl rfl) rfl (zadd hr) rfl) ?_ | refine ao1 (by decide) (w_load1 (v := .int _ _) rfl (lk rfl rfl) rfl (zadd hr1) rfl) ?_ | refine ao1 (by decide) (w_load1 (v := .int _ _) rfl (lk rfl rfl) rfl (zadd hr2) rfl) ?_ | refine ao1 (by decide) (o_load1p (v := .int _ _) rfl hr rfl) ?_ | refine ao1 (by decide) (o_load1p (v := .int _ _) rfl hr1 rfl) ?_ | refine ao1 (by decide) (o_load1p (v := .int _ _) rfl hr2 rfl) ?_ | refine ao1 (by decide) (w_load1 (v := .int _ _) rfl (lkF hF) rfl rfl rfl) ?_
  first | refine ao1 (by decide) (w_fieldAddr rfl (lk rfl rfl) rfl (by decide)) ?_ | refine ao1 (by decide) (w_fieldAddrp rfl (by decide)) ?_ | refine ao1 (by decide) (w_fieldAddr rfl (lkF hF) rfl (by decide)) ?_
  first | refine ao1 (by decide) (w_load1 (v := .int _ _) rfl (lk rfl rfl) rfl rfl rfl) ?_ | refine ao1 (by decide) (w_load1 (v := .int _ _) rfl (lk rfl rfl) rfl (zadd hr) rfl) ?_ | refine ao1 (by decide) (w_load1 (v := .int _ _) rfl (lk rfl rfl) rfl (zadd hr1) rfl) ?_ | refine ao1 (by decide) (w_load1 (v := .int _ _) rfl (lk rfl rfl) rfl (zadd hr2) rfl) ?_ | refine ao1 (by decide) (o_load1p (v := .int _ _) rfl hr rfl) ?_ | refine ao1 (by decide) (o_load1p (v := .int _ _) rfl hr1 rfl) ?_ | refine ao1 (by decide) (o_load1p (v := .int _ _) rfl hr2 rfl) ?_ | refine ao1 (by decide) (w_load1 (v := .int _ _) rfl (lkF hF) rfl rfl rfl) ?_
  first | refine ao1 (by decide) (w_fieldAddr rfl (lk rfl rfl) rfl (by decide)) ?_ | refine ao1 (by decide) (w_fieldAddrp rfl (by decide)) ?_ | refine ao1 (by decide) (w_fieldAddr rfl (lkF hF) rfl (by decide)) ?_
  first | refine ao1 (by decide) (w_load1 (v := .int _ _) rfl (lk rfl rfl) rfl rfl rfl) ?_ | refine ao1 (by decide) (w_load1 (v := .int _ _) rfl (lk rfl rfl) rfl (zadd hr) rfl) ?_ | refine ao1 (by decide) (w_load1 (v := .int _ _) rfl (lk rfl rfl) rfl (zadd hr1) rfl) ?_ | refine ao1 (by decide) (w_load1 (v := .int _ _) rfl (lk rfl rfl) rfl (zadd hr2) rfl) ?_ | refine ao1 (by decide) (o_load1p (v := .int _ _) rfl hr rfl) ?_ | refine ao1 (by decide) (o_load1p (v := .int _ _) rfl hr1 rfl) ?_ | refine ao1 (by decide) (o_load1p (v := .int _ _) rfl hr2 rfl) ?_ | refine ao1 (by decide) (w_load1 (v := .int _ _) rfl (lkF hF) rfl rfl rfl) ?_
  refine ao1 (by decide) (V1.up (o_buildArr (cs := [.int _ _, .int _ _, .int _ _]) rfl)) ?_
  refine ao1 (by decide) (o_move (v := .int _ _) rfl) ?_
  refine ao_nil ?_
  try dsimp only [List.set_cons_zero, List.set_cons_succ, List.cons_append, List.nil_append, List.take_succ_cons, List.take_zero, List.drop_succ_cons, List.drop_zero, AV.cells, List.length_nil, List.length_cons, Av.put, Nat.reduceAdd, AV.up, AV.up1, List.map_cons, List.map_nil]
  repeat (first | refine then_nrm ?_ | refine blk_nrm ?_ | refine then_brk ?_ | refine blk_hit ?_ | refine blk_miss rfl ?_ | refine then_ret ?_ | refine blk_ret ?_ | refine aw_seq ?_ | refine aw_block ?_ | refine aw_skip ?_ | refine aw_exit ?_)
  refine aw_loop (G := Nat) (fun k => k ≤ 3 ∧ ∀ n ∈ [x.epoch, x.seq, x.ack].take k, 0 ≤ n ∧ n ≤ 1073741824) (fun k => [(1, .pt (Lid H.length 0) 0 0 0), (11, .agg ([x.epoch, x.seq, x.ack].map fun n => .int .i64 n)), (12, .int .i64 (k : Int))]) (fun _ => H ++ [⟨0, 4, [ePacket x]⟩]) (fun k => 3 - k) 0 ⟨Nat.zero_le _, by simp⟩ (by repeat (first | exact Sub.nil | refine Sub.cons (by first | rfl | (simp [get]; done)) ?_)) (Fit.refl _ _) ?_
  rintro k ⟨hk, hno⟩
  repeat (first | refine then_nrm ?_ | refine blk_nrm ?_ | refine then_brk ?_ | refine blk_hit ?_ | refine blk_miss rfl ?_ | refine then_ret ?_ | refine blk_ret ?_ | refine aw_seq ?_ | refine aw_block ?_ | refine aw_skip ?_ | refine aw_exit ?_ | refine aw_ret ?_)
  refine aw_region ?_
  refine ao1 (by decide) (o_lt rfl rfl) ?_
  refine ao_nil ?_
  try dsimp only [List.set_cons_zero, List.set_cons_succ, List.cons_append, List.nil_append, List.take_succ_cons, List.take_zero, List.drop_succ_cons, List.drop_zero, AV.cells, List.length_nil, List.length_cons, Av.put, Nat.reduceAdd, AV.up, AV.up1, List.map_cons, List.map_nil]
  repeat (first | refine then_nrm ?_ | refine blk_nrm ?_ | refine then_brk ?_ | refine blk_hit ?_ | refine blk_miss rfl ?_ | refine then_ret ?_ | refine blk_ret ?_ | refine aw_seq ?_ | refine aw_block ?_ | refine aw_skip ?_ | refine aw_exit ?_ | refine aw_ret ?_)
  refine aw_cond rfl (fun hc => ?_) (fun hc => ?_)
  · have hlt : k < [x.epoch, x.seq, x.ack].length := by simp at hc; show k < 3; omega
    obtain ⟨n, hx, hxl⟩ := get_in hlt
    have hr : ([x.epoch, x.seq, x.ack].map fun n => AV.int .i64 n)[(k : Int).toNat * 1]? = some (.int .i64 n) := by rw [Int.toNat_natCast, Nat.mul_one, List.getElem?_map, hx]; rfl
    have hlt' : k < 3 := hlt
    repeat (first | refine then_nrm ?_ | refine blk_nrm ?_ | refine then_brk ?_ | refine blk_hit ?_ | refine blk_miss rfl ?_ | refine then_ret ?_ | refine blk_ret ?_ | refine aw_seq ?_ | refine aw_block ?_ | refine aw_skip ?_ | refine aw_exit ?_ | refine aw_ret ?_)
    refine aw_region ?_
    refine ao1 (by decide) (o_index1 (v := .int _ _) rfl rfl (by omega) (by omega) hr) ?_
    refine ao1 (by decide) (o_assign (v := .int _ _) rfl) ?_
    refine ao_nil ?_
    try dsimp only [List.set_cons_zero, List.set_cons_succ, List.cons_append, List.nil_append, List.take_succ_cons, List.take_zero, List.drop_succ_cons, List.drop_zero, AV.cells, List.length_nil, List.length_cons, Av.put, Nat.reduceAdd, AV.up, AV.up1, List.map_cons, List.map_nil]
    repeat (first | refine then_nrm ?_ | refine blk_nrm ?_ | refine then_brk ?_ | refine blk_hit ?_ | refine blk_miss rfl ?_ | refine then_ret ?_ | refine blk_ret ?_ | refine aw_seq ?_ | refine aw_block ?_ | refine aw_skip ?_ | refine aw_exit ?_ | refine aw_ret ?_)
    refine aw_out 20 (.bool (decide (n < 0) || decide (1073741824 < n))) ?_ ?_
    · refine ao1 (by decide) (o_move (v := .int _ _) rfl) ?_
      refine ao1 (by decide) (o_lt rfl rfl) ?_
      refine ao1 (by decide) (o_move (v := .bool _) rfl) ?_
      refine ao_split rfl rfl (fun hg2 => ?_) (fun hg2 => ?_)
      · refine ao_nF rfl rfl (by decide) ?_
        refine ao_nF rfl rfl (by decide) ?_
        first | refine ao1 (by decide) (o_pick_t (v := .bool _) rfl rfl) ?_ | refine ao1 (by decide) (o_pick_f (v := .bool _) rfl rfl) ?_ | refine ao1 (by decide) (o_pick_b rfl rfl rfl) ?_
        exact ao_nil (Out.mk (by first | rfl | (refine congrArg AV.bool ?_; first | (refine Bool.eq_iff_iff.mpr ?_; simp only [Bool.and_eq_true, Bool.or_eq_true, Bool.not_eq_true', decide_eq_true_eq, decide_eq_false_iff_not, beq_iff_eq, bne_iff_ne, beq_eq_false_iff_ne, Bool.false_eq_true, Bool.true_eq_false, Bool.and_eq_false_iff, Bool.or_eq_false_iff, List.length_map, false_iff, true_iff, iff_true, iff_false] at *; omega) | (simp_all; done) | (simp_all; omega) | (simp_all; intros; omega) | (simp only [List.length_map] at *; simp_all; done) | (simp only [List.length_map] at *; simp_all; intros; omega))) (by repeat (first | exact SubX.refl _ _ | refine SubX.at ?_ | refine SubX.put rfl ?_ | refine SubX.put_same rfl ?_)))
      · refine ao_y1 rfl rfl (by decide) (o_move (v := .int _ _) rfl) ?_
        refine ao_y1 rfl rfl (by decide) (o_gt rfl rfl) ?_
        first | refine ao1 (by decide) (o_pick_t (v := .bool _) rfl rfl) ?_ | refine ao1 (by decide) (o_pick_f (v := .bool _) rfl rfl) ?_ | refine ao1 (by decide) (o_pick_b rfl rfl rfl) ?_
        exact ao_nil (Out.mk (by first | rfl | (refine congrArg AV.bool ?_; first | (refine Bool.eq_iff_iff.mpr ?_; simp only [Bool.and_eq_true, Bool.or_eq_true, Bool.not_eq_true', decide_eq_true_eq, decide_eq_false_iff_not, beq_iff_eq, bne_iff_ne, beq_eq_false_iff_ne, Bool.false_eq_true, Bool.true_eq_false, Bool.and_eq_false_iff, Bool.or_eq_false_iff, List.length_map, false_iff, true_iff, iff_true, iff_false] at *; omega) | (simp_all; done) | (simp_all; omega) | (simp_all; intros; omega) | (simp only [List.length_map] at *; simp_all; done) | (simp only [List.length_map] at *; simp_all; intros; omega))) (by repeat (first | exact SubX.refl _ _ | refine SubX.at ?_ | refine SubX.put rfl ?_ | refine SubX.put_same rfl ?_)))
    repeat (first | refine then_nrm ?_ | refine blk_nrm ?_ | refine then_brk ?_ | refine blk_hit ?_ | refine blk_miss rfl ?_ | refine then_ret ?_ | refine blk_ret ?_ | refine aw_seq ?_ | refine aw_block ?_ | refine aw_skip ?_ | refine aw_exit ?_ | refine aw_ret ?_)
    refine aw_cond rfl (fun hc => ?_) (fun hc => ?_)
    · repeat (first | refine then_nrm ?_ | refine blk_nrm ?_ | refine then_brk ?_ | refine blk_hit ?_ | refine blk_miss rfl ?_ | refine then_ret ?_ | refine blk_ret ?_ | refine aw_seq ?_ | refine aw_block ?_ | refine aw_skip ?_ | refine aw_exit ?_ | refine aw_ret ?_)
      refine aw_region ?_
      refine ao1 (by decide) (o_assign (v := .bool _) rfl) ?_
      refine ao_nil ?_
      try dsimp only [List.set_cons_zero, List.set_cons_succ, List.cons_append, List.nil_append, List.take_succ_cons, List.take_zero, List.drop_succ_cons, List.drop_zero, AV.cells, List.length_nil, List.length_cons, Av.put, Nat.reduceAdd, AV.up, AV.up1, List.map_cons, List.map_nil]
      repeat (first | refine then_nrm ?_ | refine blk_nrm ?_ | refine then_brk ?_ | refine blk_hit ?_ | refine blk_miss rfl ?_ | refine then_ret ?_ | refine blk_ret ?_ | refine aw_seq ?_ | refine aw_block ?_ | refine aw_skip ?_ | refine aw_exit ?_ | refine aw_ret ?_)
      rw [show fine x = false by simp at hc hxl; rcases hxl with rfl | rfl | rfl <;> simp [fine] <;> omega]
      exact e_done hB (r_tmp rfl .nil) rfl rfl
    · repeat (first | refine then_nrm ?_ | refine blk_nrm ?_ | refine then_brk ?_ | refine blk_hit ?_ | refine blk_miss rfl ?_ | refine then_ret ?_ | refine blk_ret ?_ | refine aw_seq ?_ | refine aw_block ?_ | refine aw_skip ?_ | refine aw_exit ?_ | refine aw_ret ?_)
      refine aw_region ?_
      first | refine ao1 (by decide) (o_add rfl rfl (wrap64_ok (by omega) (by omega))) ?_ | refine ao1 (by decide) (o_add rfl rfl rfl) ?_
      refine ao1 (by decide) (o_move (v := .int _ _) rfl) ?_
      refine ao_nil ?_
      try dsimp only [List.set_cons_zero, List.set_cons_succ, List.cons_append, List.nil_append, List.take_succ_cons, List.take_zero, List.drop_succ_cons, List.drop_zero, AV.cells, List.length_nil, List.length_cons, Av.put, Nat.reduceAdd, AV.up, AV.up1, List.map_cons, List.map_nil]
      repeat (first | refine then_nrm ?_ | refine blk_nrm ?_ | refine then_brk ?_ | refine blk_hit ?_ | refine blk_miss rfl ?_ | refine then_ret ?_ | refine blk_ret ?_ | refine aw_seq ?_ | refine aw_block ?_ | refine aw_skip ?_ | refine aw_exit ?_ | refine aw_ret ?_)
      refine ⟨k + 1, by omega, ⟨by omega, ?_⟩, (by repeat (first | exact Sub.nil | refine Sub.cons (by first | rfl | (simp [get]; done)) ?_)), Fit.loc hB rfl (by repeat (first | exact EBel.nil | refine EBel.cons (by first | rfl | (simp [AV.bel, AV.bels, Lid]; done) | (simp [AV.bel, AV.bels, Lid]; omega)) ?_)) (by simp [AV.bel, AV.bels])⟩
      rw [take_snoc_get hx]
      intro y hy
      rcases List.mem_append.1 hy with h | h
      · exact hno y h
      · simp only [List.mem_singleton] at h
        subst h
        simpa using hc
  · have : k = 3 := by simp at hc; omega
    subst this
    simp at hno
    obtain ⟨⟨h1, h2⟩, ⟨h3, h4⟩, h5, h6⟩ := hno
    repeat (first | refine then_nrm ?_ | refine blk_nrm ?_ | refine then_brk ?_ | refine blk_hit ?_ | refine blk_miss rfl ?_ | refine then_ret ?_ | refine blk_ret ?_ | refine aw_seq ?_ | refine aw_block ?_ | refine aw_skip ?_ | refine aw_exit ?_ | refine aw_ret ?_)
    refine aw_out 2 (.bool (decide ((x.body.length : Int) ≤ 4096) && !(x.seq == 0 && decide (0 < (x.body.length : Int))))) ?_ ?_
    · first | refine ao1 (by decide) (w_fieldAddr rfl (lk rfl rfl) rfl (by decide)) ?_ | refine ao1 (by decide) (w_fieldAddrp rfl (by decide)) ?_ | refine ao1 (by decide) (w_fieldAddr rfl (lkF hF) rfl (by decide)) ?_
      first | refine ao1 (by decide) (w_load1 (v := .sl _ _ _ _ _) rfl (lk rfl rfl) rfl rfl rfl) ?_ | refine ao1 (by decide) (w_load1 (v := .pl _) rfl (lk rfl rfl) rfl rfl rfl) ?_ | refine ao1 (by decide) (w_load1 (v := .nsl) rfl (lk rfl rfl) rfl rfl rfl) ?_ | refine ao1 (by decide) (w_load1 (v := .sl _ _ _ _ _) rfl (lk rfl rfl) rfl (zadd hr) rfl) ?_ | refine ao1 (by decide) (w_load1 (v := .sl _ _ _ _ _) rfl (lk rfl rfl) rfl (zadd hr1) rfl) ?_ | refine ao1 (by decide) (w_load1 (v := .sl _ _ _ _ _) rfl (lk rfl rfl) rfl (zadd hr2) rfl) ?_ | refine ao1 (by decide) (w_load1 (v := .pl _) rfl (lk rfl rfl) rfl (zadd hr) rfl) ?_ | refine ao1 (by decide) (w_load1 (v := .pl _) rfl (lk rfl rfl) rfl (zadd hr1) rfl) ?_ | refine ao1 (by decide) (w_load1 (v := .pl _) rfl (lk rfl rfl) rfl (zadd hr2) rfl) ?_ | refine ao1 (by decide) (w_load1 (v := .nsl) rfl (lk rfl rfl) rfl (zadd hr) rfl) ?_ | refine ao1 (by decide) (w_load1 (v := .nsl) rfl (lk rfl rfl) rfl (zadd hr1) rfl) ?_ | refine ao1 (by decide) (w_load1 (v := .nsl) rfl (lk rfl rfl) rfl (zadd hr2) rfl) ?_ | refine ao1 (by decide) (o_load1p (v := .sl _ _ _ _ _) rfl hr rfl) ?_ | refine ao1 (by decide) (o_load1p (v := .sl _ _ _ _ _) rfl hr1 rfl) ?_ | refine ao1 (by decide) (o_load1p (v := .sl _ _ _ _ _) rfl hr2 rfl) ?_ | refine ao1 (by decide) (o_load1p (v := .pl _) rfl hr rfl) ?_ | refine ao1 (by decide) (o_load1p (v := .pl _) rfl hr1 rfl) ?_ | refine ao1 (by decide) (o_load1p (v := .pl _) rfl hr2 rfl) ?_ | refine ao1 (by decide) (o_load1p (v := .nsl) rfl hr rfl) ?_ | refine ao1 (by decide) (o_load1p (v := .nsl) rfl hr1 rfl) ?_ | refine ao1 (by decide) (o_load1p (v := .nsl) rfl hr2 rfl) ?_ | refine ao1 (by decide) (w_load1 (v := .sl _ _ _ _ _) rfl (lkF hF) rfl rfl rfl) ?_ | refine ao1 (by decide) (w_load1 (v := .pl _) rfl (lkF hF) rfl rfl rfl) ?_ | refine ao1 (by decide) (w_load1 (v := .nsl) rfl (lkF hF) rfl rfl rfl) ?_
      first | refine ao1 (by decide) (o_lenp rfl) ?_ | refine ao1 (by decide) (w_lens rfl (lk rfl rfl) rfl) ?_ | refine ao1 (by decide) (o_lenn rfl) ?_ | refine ao1 (by decide) (o_lenStr rfl) ?_ | refine ao1 (by decide) (w_lens rfl (lkF hF) rfl) ?_
      refine ao1 (by decide) (o_le rfl rfl) ?_
      refine ao1 (by decide) (o_move (v := .bool _) rfl) ?_
      refine ao_split rfl rfl (fun hg4 => ?_) (fun hg4 => ?_)
      · first | refine ao_y1 rfl rfl (by decide) (w_fieldAddr rfl (lk rfl rfl) rfl (by decide)) ?_ | refine ao_y1 rfl rfl (by decide) (w_fieldAddrp rfl (by decide)) ?_ | refine ao_y1 rfl rfl (by decide) (w_fieldAddr rfl (lkF hF) rfl (by decide)) ?_
        first | refine ao_y1 rfl rfl (by decide) (w_load1 (v := .int _ _) rfl (lk rfl rfl) rfl rfl rfl) ?_ | refine ao_y1 rfl rfl (by decide) (w_load1 (v := .int _ _) rfl (lk rfl rfl) rfl (zadd hr) rfl) ?_ | refine ao_y1 rfl rfl (by decide) (w_load1 (v := .int _ _) rfl (lk rfl rfl) rfl (zadd hr1) rfl) ?_ | refine ao_y1 rfl rfl (by decide) (w_load1 (v := .int _ _) rfl (lk rfl rfl) rfl (zadd hr2) rfl) ?_ | refine ao_y1 rfl rfl (by decide) (o_load1p (v := .int _ _) rfl hr rfl) ?_ | refine ao_y1 rfl rfl (by decide) (o_load1p (v := .int _ _) rfl hr1 rfl) ?_ | refine ao_y1 rfl rfl (by decide) (o_load1p (v := .int _ _) rfl hr2 rfl) ?_ | refine ao_y1 rfl rfl (by decide) (w_load1 (v := .int _ _) rfl (lkF hF) rfl rfl rfl) ?_
        refine ao_y1 rfl rfl (by decide) (o_eq rfl rfl) ?_
        refine ao_y1 rfl rfl (by decide) (o_move (v := .bool _) rfl) ?_
        refine ao_split rfl rfl (fun hg8 => ?_) (fun hg8 => ?_)
        · first | refine ao_y1 rfl rfl (by decide) (w_fieldAddr rfl (lk rfl rfl) rfl (by decide)) ?_ | refine ao_y1 rfl rfl (by decide) (w_fieldAddrp rfl (by decide)) ?_ | refine ao_y1 rfl rfl (by decide) (w_fieldAddr rfl (lkF hF) rfl (by decide)) ?_
          first | refine ao_y1 rfl rfl (by decide) (w_load1 (v := .sl _ _ _ _ _) rfl (lk rfl rfl) rfl rfl rfl) ?_ | refine ao_y1 rfl rfl (by decide) (w_load1 (v := .pl _) rfl (lk rfl rfl) rfl rfl rfl) ?_ | refine ao_y1 rfl rfl (by decide) (w_load1 (v := .nsl) rfl (lk rfl rfl) rfl rfl rfl) ?_ | refine ao_y1 rfl rfl (by decide) (w_load1 (v := .sl _ _ _ _ _) rfl (lk rfl rfl) rfl (zadd hr) rfl) ?_ | refine ao_y1 rfl rfl (by decide) (w_load1 (v := .sl _ _ _ _ _) rfl (lk rfl rfl) rfl (zadd hr1) rfl) ?_ | refine ao_y1 rfl rfl (by decide) (w_load1 (v := .sl _ _ _ _ _) rfl (lk rfl rfl) rfl (zadd hr2) rfl) ?_ | refine ao_y1 rfl rfl (by decide) (w_load1 (v := .pl _) rfl (lk rfl rfl) rfl (zadd hr) rfl) ?_ | refine ao_y1 rfl rfl (by decide) (w_load1 (v := .pl _) rfl (lk rfl rfl) rfl (zadd hr1) rfl) ?_ | refine ao_y1 rfl rfl (by decide) (w_load1 (v := .pl _) rfl (lk rfl rfl) rfl (zadd hr2) rfl) ?_ | refine ao_y1 rfl rfl (by decide) (w_load1 (v := .nsl) rfl (lk rfl rfl) rfl (zadd hr) rfl) ?_ | refine ao_y1 rfl rfl (by decide) (w_load1 (v := .nsl) rfl (lk rfl rfl) rfl (zadd hr1) rfl) ?_ | refine ao_y1 rfl rfl (by decide) (w_load1 (v := .nsl) rfl (lk rfl rfl) rfl (zadd hr2) rfl) ?_ | refine ao_y1 rfl rfl (by decide) (o_load1p (v := .sl _ _ _ _ _) rfl hr rfl) ?_ | refine ao_y1 rfl rfl (by decide) (o_load1p (v := .sl _ _ _ _ _) rfl hr1 rfl) ?_ | refine ao_y1 rfl rfl (by decide) (o_load1p (v := .sl _ _ _ _ _) rfl hr2 rfl) ?_ | refine ao_y1 rfl rfl (by decide) (o_load1p (v := .pl _) rfl hr rfl) ?_ | refine ao_y1 rfl rfl (by decide) (o_load1p (v := .pl _) rfl hr1 rfl) ?_ | refine ao_y1 rfl rfl (by decide) (o_load1p (v := .pl _) rfl hr2 rfl) ?_ | refine ao_y1 rfl rfl (by decide) (o_load1p (v := .nsl) rfl hr rfl) ?_ | refine ao_y1 rfl rfl (by decide) (o_load1p (v := .nsl) rfl hr1 rfl) ?_ | refine ao_y1 rfl rfl (by decide) (o_load1p (v := .nsl) rfl hr2 rfl) ?_ | refine ao_y1 rfl rfl (by decide) (w_load1 (v := .sl _ _ _ _ _) rfl (lkF hF) rfl rfl rfl) ?_ | refine ao_y1 rfl rfl (by decide) (w_load1 (v := .pl _) rfl (lkF hF) rfl rfl rfl) ?_ | refine ao_y1 rfl rfl (by decide) (w_load1 (v := .nsl) rfl (lkF hF) rfl rfl rfl) ?_
          first | refine ao_y1 rfl rfl (by decide) (o_lenp rfl) ?_ | refine ao_y1 rfl rfl (by decide) (w_lens rfl (lk rfl rfl) rfl) ?_ | refine ao_y1 rfl rfl (by decide) (o_lenn rfl) ?_ | refine ao_y1 rfl rfl (by decide) (o_lenStr rfl) ?_ | refine ao_y1 rfl rfl (by decide) (w_lens rfl (lkF hF) rfl) ?_
          refine ao_y1 rfl rfl (by decide) (o_gt rfl rfl) ?_
          first | refine ao_y1 rfl rfl (by decide) (o_pick_t (v := .bool _) rfl rfl) ?_ | refine ao_y1 rfl rfl (by decide) (o_pick_f (v := .bool _) rfl rfl) ?_ | refine ao_y1 rfl rfl (by decide) (o_pick_b rfl rfl rfl) ?_
          refine ao_y1 rfl rfl (by decide) (o_not rfl) ?_
          first | refine ao1 (by decide) (o_pick_t (v := .bool _) rfl rfl) ?_ | refine ao1 (by decide) (o_pick_f (v := .bool _) rfl rfl) ?_ | refine ao1 (by decide) (o_pick_b rfl rfl rfl) ?_
          refine ao1 (by decide) (o_assign (v := .bool _) rfl) ?_
          exact ao_nil (Out.mk (by first | rfl | (refine congrArg AV.bool ?_; first | (refine Bool.eq_iff_iff.mpr ?_; simp only [Bool.and_eq_true, Bool.or_eq_true, Bool.not_eq_true', decide_eq_true_eq, decide_eq_false_iff_not, beq_iff_eq, bne_iff_ne, beq_eq_false_iff_ne, Bool.false_eq_true, Bool.true_eq_false, Bool.and_eq_false_iff, Bool.or_eq_false_iff, List.length_map, false_iff, true_iff, iff_true, iff_false] at *; omega) | (simp_all; done) | (simp_all; omega) | (simp_all; intros; omega) | (simp only [List.length_map] at *; simp_all; done) | (simp only [List.length_map] at *; simp_all; intros; omega))) (by repeat (first | exact SubX.refl _ _ | refine SubX.at ?_ | refine SubX.put rfl ?_ | refine SubX.put_same rfl ?_)))
        · refine ao_nT rfl rfl (by decide) ?_
          refine ao_nT rfl rfl (by decide) ?_
          refine ao_nT rfl rfl (by decide) ?_
          refine ao_nT rfl rfl (by decide) ?_
          first | refine ao_y1 rfl rfl (by decide) (o_pick_t (v := .bool _) rfl rfl) ?_ | refine ao_y1 rfl rfl (by decide) (o_pick_f (v := .bool _) rfl rfl) ?_ | refine ao_y1 rfl rfl (by decide) (o_pick_b rfl rfl rfl) ?_
          refine ao_y1 rfl rfl (by decide) (o_not rfl) ?_
          first | refine ao1 (by decide) (o_pick_t (v := .bool _) rfl rfl) ?_ | refine ao1 (by decide) (o_pick_f (v := .bool _) rfl rfl) ?_ | refine ao1 (by decide) (o_pick_b rfl rfl rfl) ?_
          refine ao1 (by decide) (o_assign (v := .bool _) rfl) ?_
          exact ao_nil (Out.mk (by first | rfl | (refine congrArg AV.bool ?_; first | (refine Bool.eq_iff_iff.mpr ?_; simp only [Bool.and_eq_true, Bool.or_eq_true, Bool.not_eq_true', decide_eq_true_eq, decide_eq_false_iff_not, beq_iff_eq, bne_iff_ne, beq_eq_false_iff_ne, Bool.false_eq_true, Bool.true_eq_false, Bool.and_eq_false_iff, Bool.or_eq_false_iff, List.length_map, false_iff, true_iff, iff_true, iff_false] at *; omega) | (simp_all; done) | (simp_all; omega) | (simp_all; intros; omega) | (simp only [List.length_map] at *; simp_all; done) | (simp only [List.length_map] at *; simp_all; intros; omega))) (by repeat (first | exact SubX.refl _ _ | refine SubX.at ?_ | refine SubX.put rfl ?_ | refine SubX.put_same rfl ?_)))
      · refine ao_nT rfl rfl (by decide) ?_
        refine ao_nT rfl rfl (by decide) ?_
        refine ao_nT rfl rfl (by decide) ?_
        refine ao_nT rfl rfl (by decide) ?_
        refine ao_nU rfl rfl (by decide) ?_
        refine ao_nU rfl rfl (by decide) ?_
        refine ao_nU rfl rfl (by decide) ?_
        refine ao_nU rfl rfl (by decide) ?_
        refine ao_nT rfl rfl (by decide) ?_
        refine ao_nT rfl rfl (by decide) ?_
        first | refine ao1 (by decide) (o_pick_t (v := .bool _) rfl rfl) ?_ | refine ao1 (by decide) (o_pick_f (v := .bool _) rfl rfl) ?_ | refine ao1 (by decide) (o_pick_b rfl rfl rfl) ?_
        refine ao1 (by decide) (o_assign (v := .bool _) rfl) ?_
        exact ao_nil (Out.mk (by first | rfl | (refine congrArg AV.bool ?_; first | (refine Bool.eq_iff_iff.mpr ?_; simp only [Bool.and_eq_true, Bool.or_eq_true, Bool.not_eq_true', decide_eq_true_eq, decide_eq_false_iff_not, beq_iff_eq, bne_iff_ne, beq_eq_false_iff_ne, Bool.false_eq_true, Bool.true_eq_false, Bool.and_eq_false_iff, Bool.or_eq_false_iff, List.length_map, false_iff, true_iff, iff_true, iff_false] at *; omega) | (simp_all; done) | (simp_all; omega) | (simp_all; intros; omega) | (simp only [List.length_map] at *; simp_all; done) | (simp only [List.length_map] at *; simp_all; intros; omega))) (by repeat (first | exact SubX.refl _ _ | refine SubX.at ?_ | refine SubX.put rfl ?_ | refine SubX.put_same rfl ?_)))
    repeat (first | refine then_nrm ?_ | refine blk_nrm ?_ | refine then_brk ?_ | refine blk_hit ?_ | refine blk_miss rfl ?_ | refine then_ret ?_ | refine blk_ret ?_ | refine aw_seq ?_ | refine aw_block ?_ | refine aw_skip ?_ | refine aw_exit ?_ | refine aw_ret ?_)
    have h7 : (0 < x.seq) ↔ ¬ x.seq = 0 := by omega
    have hf : fine x = (decide ((x.body.length : Int) ≤ 4096) && !(x.seq == 0 && decide (0 < (x.body.length : Int)))) := by
      rw [Bool.eq_iff_iff]
      simp [fine, h1, h2, h3, h4, h5, h6, h7]
    rw [hf]
    exact e_done hB (r_tmp rfl .nil) rfl rfl
end Go.Av
