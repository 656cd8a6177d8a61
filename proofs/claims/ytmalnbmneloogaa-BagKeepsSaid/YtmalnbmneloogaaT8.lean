/- A part of the proof: walks through the program over abstract values. -/
import Derived.Test.YtmalnbmneloogaaT7
namespace Go.Av
open Go.Proofs
set_option maxRecDepth 10000
set_option linter.unusedSimpArgs false
set_option linter.unusedVariables false


theorem fine_body {x : Packet} (h : fine x = true) : x.body.length ≤ 4096 := by simp [fine] at h; omega
theorem bright_append {l : List Way} {w : Way} (h : bright l = true) (hl : l.length < 256) (hw : may w = true) : bright (l ++ [w]) = true := by
  simp [bright] at h ⊢
  exact ⟨by omega, h.2, hw⟩
/-- What is put is taken from the end as it was. -/
theorem put_take {l : List Way} {to : Int} {x : Packet} (h : (bPut l to x).2 = 0) : bTake (bPut l to x).1 (((bPut l to x).1.length : Int) - 1) = (l, ⟨to, x⟩, 0) := by
  unfold bPut at h ⊢
  split at h
  · cases h
  · rename_i h1
    split at h
    · cases h
    · rename_i h2
      simp at h1
      rw [if_neg (by simp [h1]), if_neg h2]
      have hb := bright_append h1.1 (by have := bright_len h1.1; omega) h1.2
      have e : (((l ++ [Way.mk to x]).length : Int) - 1) = (l.length : Int) := by simp
      simp only [e]
      rcases bthere_cases (l ++ [Way.mk to x]) l.length with k | k | k
      · rw [hb] at k; cases k.1
      · have := k.2.1; simp at this; omega
      · simp [bTake, k.2.2.2, List.eraseIdx_append_of_length_le]
theorem twice_put {l : List Way} {i : Int} (h : (bTwice l i).2 = 0) : (bTake l i).2.2 = 0 ∧ bTwice l i = bPut l (bTake l i).2.1.to (bTake l i).2.1.p := by
  unfold bTwice at h ⊢
  split at h
  · rename_i h1; exact absurd h h1
  · rename_i h1
    rw [if_neg h1]
    simp at h1
    simp [bTake, h1]

set_option maxHeartbeats 0 in
theorem law18_BagEnds (l : List Way) (to i : Int) (x : Packet) (H : Heap) : AC Try.prog 5 [.pl (l.map eWay), .int .i64 to, .int .i64 i, .agg (ePacket x)] H (Ret (.bool true) H) := by
  refine AC.body (N := 109) [.tmp 8] Try.func5 rfl rfl rfl (Nat.le_of_ble_eq_true rfl) fun B hB => ?_
  repeat (first | refine join_ret ?_ | refine join_brk ?_ | refine then_nrm ?_ | refine blk_nrm ?_ | refine then_brk ?_ | refine blk_hit ?_ | refine blk_miss rfl ?_ | refine then_ret ?_ | refine blk_ret ?_ | refine aw_seq ?_ | refine aw_block ?_ | refine aw_skip ?_ | refine aw_exit ?_ | refine aw_ret ?_)
  refine aw_region ?_
  refine ao2 (by rintro _ ⟨⟩; decide) (o_boxL (sz := 4) (v := .agg _) rfl rfl rfl rfl (by decide) rfl) ?_
  refine ao1 (by decide) (o_assign (v := .bool _) rfl) ?_
  refine ao_nil ?_
  try dsimp only [List.set_cons_zero, List.set_cons_succ, List.cons_append, List.nil_append, List.take_succ_cons, List.take_zero, List.drop_succ_cons, List.drop_zero, AV.cells, List.length_nil, List.length_cons, Av.put, Nat.reduceAdd, AV.up, AV.up1, List.map_cons, List.map_nil]
  repeat (first | refine join_ret ?_ | refine join_brk ?_ | refine then_nrm ?_ | refine blk_nrm ?_ | refine then_brk ?_ | refine blk_hit ?_ | refine blk_miss rfl ?_ | refine then_ret ?_ | refine blk_ret ?_ | refine aw_seq ?_ | refine aw_block ?_ | refine aw_skip ?_ | refine aw_exit ?_ | refine aw_ret ?_)
  refine aw_region ?_
  refine ao_ret (law18_awake _) rfl (by decide) ?_
  refine ao1 (by decide) (o_not rfl) ?_
  refine ao_nil ?_
  try dsimp only [List.set_cons_zero, List.set_cons_succ, List.cons_append, List.nil_append, List.take_succ_cons, List.take_zero, List.drop_succ_cons, List.drop_zero, AV.cells, List.length_nil, List.length_cons, Av.put, Nat.reduceAdd, AV.up, AV.up1, List.map_cons, List.map_nil]
  repeat (first | refine join_ret ?_ | refine join_brk ?_ | refine then_nrm ?_ | refine blk_nrm ?_ | refine then_brk ?_ | refine blk_hit ?_ | refine blk_miss rfl ?_ | refine then_ret ?_ | refine blk_ret ?_ | refine aw_seq ?_ | refine aw_block ?_ | refine aw_skip ?_ | refine aw_exit ?_ | refine aw_ret ?_)
  refine aw_cond rfl (fun hc => ?_) (fun hc => ?_)
  · simp at hc
  repeat (first | refine join_ret ?_ | refine join_brk ?_ | refine then_nrm ?_ | refine blk_nrm ?_ | refine then_brk ?_ | refine blk_hit ?_ | refine blk_miss rfl ?_ | refine then_ret ?_ | refine blk_ret ?_ | refine aw_seq ?_ | refine aw_block ?_ | refine aw_skip ?_ | refine aw_exit ?_ | refine aw_ret ?_)
  refine aw_out 32 (.bool (!bshort l || decide (5000 < (x.body.length : Int)))) ?_ ?_
  · first | refine ao1 (by decide) (o_move (v := .sl _ _ _ _ _) rfl) ?_ | refine ao1 (by decide) (o_move (v := .pl _) rfl) ?_ | refine ao1 (by decide) (o_move (v := .nsl) rfl) ?_
    refine ao_ret (ref18_Short _ _) rfl (by decide) ?_
    refine ao1 (by decide) (o_not rfl) ?_
    refine ao1 (by decide) (o_move (v := .bool _) rfl) ?_
    refine ao_split rfl rfl (fun hg3 => ?_) (fun hg3 => ?_)
    · refine ao_nF rfl rfl (by decide) ?_
      refine ao_nF rfl rfl (by decide) ?_
      refine ao_nF rfl rfl (by decide) ?_
      refine ao_nF rfl rfl (by decide) ?_
      first | refine ao1 (by decide) (o_pick_t (v := .bool _) rfl rfl) ?_ | refine ao1 (by decide) (o_pick_f (v := .bool _) rfl rfl) ?_ | refine ao1 (by decide) (o_pick_b rfl rfl rfl) ?_
      exact ao_nil (Out.mk (by first | rfl | (refine congrArg AV.bool ?_; first | (refine Bool.eq_iff_iff.mpr ?_; simp only [Bool.and_eq_true, Bool.or_eq_true, Bool.not_eq_true', decide_eq_true_eq, decide_eq_false_iff_not, beq_iff_eq, bne_iff_ne, beq_eq_false_iff_ne, Bool.false_eq_true, Bool.true_eq_false, Bool.and_eq_false_iff, Bool.or_eq_false_iff, List.length_map, false_iff, true_iff, iff_true, iff_false] at *; omega) | (simp_all; done) | (simp_all; omega) | (simp_all; intros; omega) | (simp only [List.length_map] at *; simp_all; done) | (simp only [List.length_map] at *; simp_all; intros; omega) | grind)) (by repeat (first | exact SubX.refl _ _ | refine SubX.at ?_ | refine SubX.put rfl ?_ | refine SubX.put_same rfl ?_)))
    · first | refine ao_y1 rfl rfl (by decide) (w_fieldAddr rfl (lk rfl rfl) rfl (by decide)) ?_ | refine ao_y1 rfl rfl (by decide) (w_fieldAddrp rfl (by decide)) ?_ | refine ao_y1 rfl rfl (by decide) (w_fieldAddr rfl (lkF hF) rfl (by decide)) ?_
      first | refine ao_y1 rfl rfl (by decide) (w_load1 (v := .sl _ _ _ _ _) rfl (lk rfl rfl) rfl rfl rfl) ?_ | refine ao_y1 rfl rfl (by decide) (w_load1 (v := .pl _) rfl (lk rfl rfl) rfl rfl rfl) ?_ | refine ao_y1 rfl rfl (by decide) (w_load1 (v := .nsl) rfl (lk rfl rfl) rfl rfl rfl) ?_ | refine ao_y1 rfl rfl (by decide) (w_load1 (v := .sl _ _ _ _ _) rfl (lk rfl rfl) rfl (zadd hr) rfl) ?_ | refine ao_y1 rfl rfl (by decide) (w_load1 (v := .sl _ _ _ _ _) rfl (lk rfl rfl) rfl (zadd hr1) rfl) ?_ | refine ao_y1 rfl rfl (by decide) (w_load1 (v := .sl _ _ _ _ _) rfl (lk rfl rfl) rfl (zadd hr2) rfl) ?_ | refine ao_y1 rfl rfl (by decide) (w_load1 (v := .pl _) rfl (lk rfl rfl) rfl (zadd hr) rfl) ?_ | refine ao_y1 rfl rfl (by decide) (w_load1 (v := .pl _) rfl (lk rfl rfl) rfl (zadd hr1) rfl) ?_ | refine ao_y1 rfl rfl (by decide) (w_load1 (v := .pl _) rfl (lk rfl rfl) rfl (zadd hr2) rfl) ?_ | refine ao_y1 rfl rfl (by decide) (w_load1 (v := .nsl) rfl (lk rfl rfl) rfl (zadd hr) rfl) ?_ | refine ao_y1 rfl rfl (by decide) (w_load1 (v := .nsl) rfl (lk rfl rfl) rfl (zadd hr1) rfl) ?_ | refine ao_y1 rfl rfl (by decide) (w_load1 (v := .nsl) rfl (lk rfl rfl) rfl (zadd hr2) rfl) ?_ | refine ao_y1 rfl rfl (by decide) (o_load1p (v := .sl _ _ _ _ _) rfl hr rfl) ?_ | refine ao_y1 rfl rfl (by decide) (o_load1p (v := .sl _ _ _ _ _) rfl hr1 rfl) ?_ | refine ao_y1 rfl rfl (by decide) (o_load1p (v := .sl _ _ _ _ _) rfl hr2 rfl) ?_ | refine ao_y1 rfl rfl (by decide) (o_load1p (v := .pl _) rfl hr rfl) ?_ | refine ao_y1 rfl rfl (by decide) (o_load1p (v := .pl _) rfl hr1 rfl) ?_ | refine ao_y1 rfl rfl (by decide) (o_load1p (v := .pl _) rfl hr2 rfl) ?_ | refine ao_y1 rfl rfl (by decide) (o_load1p (v := .nsl) rfl hr rfl) ?_ | refine ao_y1 rfl rfl (by decide) (o_load1p (v := .nsl) rfl hr1 rfl) ?_ | refine ao_y1 rfl rfl (by decide) (o_load1p (v := .nsl) rfl hr2 rfl) ?_ | refine ao_y1 rfl rfl (by decide) (w_load1 (v := .sl _ _ _ _ _) rfl (lkF hF) rfl rfl rfl) ?_ | refine ao_y1 rfl rfl (by decide) (w_load1 (v := .pl _) rfl (lkF hF) rfl rfl rfl) ?_ | refine ao_y1 rfl rfl (by decide) (w_load1 (v := .nsl) rfl (lkF hF) rfl rfl rfl) ?_
      first | refine ao_y1 rfl rfl (by decide) (o_lenp rfl) ?_ | refine ao_y1 rfl rfl (by decide) (w_lens rfl (lk rfl rfl) rfl) ?_ | refine ao_y1 rfl rfl (by decide) (o_lenn rfl) ?_ | refine ao_y1 rfl rfl (by decide) (o_lenStr rfl) ?_ | refine ao_y1 rfl rfl (by decide) (w_lens rfl (lkF hF) rfl) ?_
      refine ao_y1 rfl rfl (by decide) (o_gt rfl rfl) ?_
      first | refine ao1 (by decide) (o_pick_t (v := .bool _) rfl rfl) ?_ | refine ao1 (by decide) (o_pick_f (v := .bool _) rfl rfl) ?_ | refine ao1 (by decide) (o_pick_b rfl rfl rfl) ?_
      exact ao_nil (Out.mk (by first | rfl | (refine congrArg AV.bool ?_; first | (refine Bool.eq_iff_iff.mpr ?_; simp only [Bool.and_eq_true, Bool.or_eq_true, Bool.not_eq_true', decide_eq_true_eq, decide_eq_false_iff_not, beq_iff_eq, bne_iff_ne, beq_eq_false_iff_ne, Bool.false_eq_true, Bool.true_eq_false, Bool.and_eq_false_iff, Bool.or_eq_false_iff, List.length_map, false_iff, true_iff, iff_true, iff_false] at *; omega) | (simp_all; done) | (simp_all; omega) | (simp_all; intros; omega) | (simp only [List.length_map] at *; simp_all; done) | (simp only [List.length_map] at *; simp_all; intros; omega) | grind)) (by repeat (first | exact SubX.refl _ _ | refine SubX.at ?_ | refine SubX.put rfl ?_ | refine SubX.put_same rfl ?_)))
  repeat (first | refine join_ret ?_ | refine join_brk ?_ | refine then_nrm ?_ | refine blk_nrm ?_ | refine then_brk ?_ | refine blk_hit ?_ | refine blk_miss rfl ?_ | refine then_ret ?_ | refine blk_ret ?_ | refine aw_seq ?_ | refine aw_block ?_ | refine aw_skip ?_ | refine aw_exit ?_ | refine aw_ret ?_)
  refine aw_cond rfl (fun hc => ?_) (fun hc => ?_)
  · repeat (first | refine join_ret ?_ | refine join_brk ?_ | refine then_nrm ?_ | refine blk_nrm ?_ | refine then_brk ?_ | refine blk_hit ?_ | refine blk_miss rfl ?_ | refine then_ret ?_ | refine blk_ret ?_ | refine aw_seq ?_ | refine aw_block ?_ | refine aw_skip ?_ | refine aw_exit ?_ | refine aw_ret ?_)
    refine aw_region ?_
    refine ao1 (by decide) (o_assign (v := .bool _) rfl) ?_
    refine ao_nil ?_
    try dsimp only [List.set_cons_zero, List.set_cons_succ, List.cons_append, List.nil_append, List.take_succ_cons, List.take_zero, List.drop_succ_cons, List.drop_zero, AV.cells, List.length_nil, List.length_cons, Av.put, Nat.reduceAdd, AV.up, AV.up1, List.map_cons, List.map_nil]
    repeat (first | refine join_ret ?_ | refine join_brk ?_ | refine then_nrm ?_ | refine blk_nrm ?_ | refine then_brk ?_ | refine blk_hit ?_ | refine blk_miss rfl ?_ | refine then_ret ?_ | refine blk_ret ?_ | refine aw_seq ?_ | refine aw_block ?_ | refine aw_skip ?_ | refine aw_exit ?_ | refine aw_ret ?_)
    exact e_done hB (r_tmp rfl .nil) rfl rfl
  simp at hc
  obtain ⟨hs, hxb⟩ := hc
  obtain ⟨hl3, hw2⟩ := bshort_facts hs
  have hl : l.length ≤ 1000000 := by omega
  have hw : ∀ w ∈ l, w.p.body.length ≤ 140737488355328 := fun w h => Nat.le_trans (hw2 w h) (by decide)
  have hx : x.body.length ≤ 140737488355328 := by omega
  have l1 : (bPut l to x).1.length ≤ 1000000 := Nat.le_trans (bPut_len l to x) (by omega)
  have m1 : ∀ w ∈ (bPut l to x).1, w.p.body.length ≤ 140737488355328 := by
    intro w h
    unfold bPut at h
    split at h
    · exact hw w h
    · split at h
      · exact hw w h
      · rcases List.mem_append.1 h with h | h
        · exact hw w h
        · simp at h; subst h; exact hx
  have hT : ∀ w, w = (bTake l i).2.1 → w.p.body.length ≤ 140737488355328 := by
    rintro w rfl
    unfold bTake
    split
    · exact Nat.zero_le _
    · rename_i h
      rcases bthere_cases l i with k | k | k
      · simp [k.2] at h
      · simp [k.2.2] at h
      · obtain ⟨y, hy, hyl⟩ := get_in (l := l) (k := i.toNat) (by omega)
        simp [hy]
        exact hw y hyl
  have l3 : (bTwice l i).1.length ≤ 1000000 := Nat.le_trans (bTwice_len l i) (by omega)
  have m3 : (bTwice l i).2 = 0 → ∀ w ∈ (bTwice l i).1, w.p.body.length ≤ 140737488355328 := by
    intro h0 w h
    rw [(twice_put h0).2] at h
    unfold bPut at h
    split at h
    · exact hw w h
    · split at h
      · exact hw w h
      · rcases List.mem_append.1 h with h | h
        · exact hw w h
        · simp at h; subst h; exact hT _ rfl
  repeat (first | refine join_ret ?_ | refine join_brk ?_ | refine then_nrm ?_ | refine blk_nrm ?_ | refine then_brk ?_ | refine blk_hit ?_ | refine blk_miss rfl ?_ | refine then_ret ?_ | refine blk_ret ?_ | refine aw_seq ?_ | refine aw_block ?_ | refine aw_skip ?_ | refine aw_exit ?_ | refine aw_ret ?_)
  refine aw_region ?_
  first | refine ao1 (by decide) (o_move (v := .sl _ _ _ _ _) rfl) ?_ | refine ao1 (by decide) (o_move (v := .pl _) rfl) ?_ | refine ao1 (by decide) (o_move (v := .nsl) rfl) ?_
  refine ao1 (by decide) (o_move (v := .int _ _) rfl) ?_
  first | refine ao1 (by decide) (w_loadR rfl (lk rfl rfl) rfl rfl rfl) ?_ | refine ao1 (by decide) (w_loadR rfl (lk rfl rfl) rfl (zadd hr) rfl) ?_ | refine ao1 (by decide) (w_loadR rfl (lk rfl rfl) rfl (zadd hr1) rfl) ?_ | refine ao1 (by decide) (w_loadR rfl (lk rfl rfl) rfl (zadd hr2) rfl) ?_ | refine ao1 (by decide) (w_loadRp rfl hr rfl) ?_ | refine ao1 (by decide) (w_loadRp rfl hr1 rfl) ?_ | refine ao1 (by decide) (w_loadRp rfl hr2 rfl) ?_ | refine ao1 (by decide) (w_loadN (cs := [_, _, _, _]) rfl (lk rfl rfl) rfl rfl rfl rfl) ?_ | refine ao1 (by decide) (o_loadNp (cs := [_, _, _, _]) rfl hr rfl rfl) ?_ | refine ao1 (by decide) (o_loadNp (cs := [_, _, _, _]) rfl hr1 rfl rfl) ?_ | refine ao1 (by decide) (o_loadNp (cs := [_, _, _, _]) rfl hr2 rfl rfl) ?_ | refine ao1 (by decide) (w_loadR rfl (lkF hF) rfl rfl rfl) ?_ | refine ao1 (by decide) (w_loadN (cs := [_, _, _, _]) rfl (lkF hF) rfl rfl rfl rfl) ?_
  refine ao2 (by rintro _ ⟨⟩; decide) (V2.call (bag_Put l to x _ hl hw hx) rfl) ?_
  refine ao1 (by decide) (o_move (v := .tup _) rfl) ?_
  first | refine ao1 (by decide) (o_extract (v := .sl _ _ _ _ _) rfl rfl) ?_ | refine ao1 (by decide) (o_extract (v := .pl _) rfl rfl) ?_ | refine ao1 (by decide) (o_extract (v := .nsl) rfl rfl) ?_
  refine ao1 (by decide) (o_extract (v := .int _ _) rfl rfl) ?_
  first | refine ao1 (by decide) (o_assign (v := .sl _ _ _ _ _) rfl) ?_ | refine ao1 (by decide) (o_assign (v := .pl _) rfl) ?_ | refine ao1 (by decide) (o_assign (v := .nsl) rfl) ?_
  refine ao1 (by decide) (o_assign (v := .int _ _) rfl) ?_
  refine ao_nil ?_
  try dsimp only [List.set_cons_zero, List.set_cons_succ, List.cons_append, List.nil_append, List.take_succ_cons, List.take_zero, List.drop_succ_cons, List.drop_zero, AV.cells, List.length_nil, List.length_cons, Av.put, Nat.reduceAdd, AV.up, AV.up1, List.map_cons, List.map_nil]
  have hF0 : ∀ o ∈ [AObj.mk 0 4 [ePacket x]], ∀ r ∈ o.rows, AV.bels (H.length + [AObj.mk 0 4 [ePacket x]].length) r = true := by
    intro o ho r hr
    simp only [List.mem_singleton] at ho
    subst ho
    simp only [List.mem_singleton] at hr
    subst hr
    rfl
  repeat (first | refine join_ret ?_ | refine join_brk ?_ | refine then_nrm ?_ | refine blk_nrm ?_ | refine then_brk ?_ | refine blk_hit ?_ | refine blk_miss rfl ?_ | refine then_ret ?_ | refine blk_ret ?_ | refine aw_seq ?_ | refine aw_block ?_ | refine aw_skip ?_ | refine aw_exit ?_ | refine aw_ret ?_)
  refine aw_region ?_
  refine ao1 (by decide) (o_move (v := .int _ _) rfl) ?_
  refine ao1 (by decide) (o_eq rfl rfl) ?_
  refine ao_nil ?_
  try dsimp only [List.set_cons_zero, List.set_cons_succ, List.cons_append, List.nil_append, List.take_succ_cons, List.take_zero, List.drop_succ_cons, List.drop_zero, AV.cells, List.length_nil, List.length_cons, Av.put, Nat.reduceAdd, AV.up, AV.up1, List.map_cons, List.map_nil]
  repeat (first | refine join_ret ?_ | refine join_brk ?_ | refine then_nrm ?_ | refine blk_nrm ?_ | refine then_brk ?_ | refine blk_hit ?_ | refine blk_miss rfl ?_ | refine then_ret ?_ | refine blk_ret ?_ | refine aw_seq ?_ | refine aw_block ?_ | refine aw_skip ?_ | refine aw_exit ?_ | refine aw_ret ?_)
  refine aw_joinQ ([(0, .pl (l.map eWay)), (2, .int .i64 i)]) (H ++ [⟨0, 4, [ePacket x]⟩]) ?_ ?_
  · repeat (first | refine join_ret ?_ | refine join_brk ?_ | refine then_nrm ?_ | refine blk_nrm ?_ | refine then_brk ?_ | refine blk_hit ?_ | refine blk_miss rfl ?_ | refine then_ret ?_ | refine blk_ret ?_ | refine aw_seq ?_ | refine aw_block ?_ | refine aw_skip ?_ | refine aw_exit ?_ | refine aw_ret ?_)
    refine aw_cond rfl (fun hc => ?_) (fun hc => ?_)
    · have h0 : (bPut l to x).2 = 0 := by simpa using hc
      have hpt := put_take h0
      have hn : 0 < (bPut l to x).1.length := by
        have := congrArg (·.2.2) hpt
        simp only at this
        rcases Nat.eq_zero_or_pos (bPut l to x).1.length with e | e
        · have hnil := List.eq_nil_of_length_eq_zero e
          rw [hnil] at this
          exact absurd this (by decide)
        · exact e
      have c1 := bag_Take (bPut l to x).1 (((bPut l to x).1.length : Int) - 1)
      rw [hpt] at c1
      repeat (first | refine join_ret ?_ | refine join_brk ?_ | refine then_nrm ?_ | refine blk_nrm ?_ | refine then_brk ?_ | refine blk_hit ?_ | refine blk_miss rfl ?_ | refine then_ret ?_ | refine blk_ret ?_ | refine aw_seq ?_ | refine aw_block ?_ | refine aw_skip ?_ | refine aw_exit ?_ | refine aw_ret ?_)
      refine aw_region ?_
      first | refine ao1 (by decide) (o_move (v := .sl _ _ _ _ _) rfl) ?_ | refine ao1 (by decide) (o_move (v := .pl _) rfl) ?_ | refine ao1 (by decide) (o_move (v := .nsl) rfl) ?_
      first | refine ao1 (by decide) (o_move (v := .sl _ _ _ _ _) rfl) ?_ | refine ao1 (by decide) (o_move (v := .pl _) rfl) ?_ | refine ao1 (by decide) (o_move (v := .nsl) rfl) ?_
      refine ao1 (by decide) (o_lenp rfl) ?_
      refine ao1 (by decide) (o_sub (r := ((bPut l to x).1.length : Int) - 1) rfl rfl (by rw [List.length_map]; exact wrap64_ok (by omega) (by omega))) ?_
      refine ao2 (by rintro _ ⟨⟩; decide) (V2.call (c1 _ l1 m1) rfl) ?_
      refine ao1 (by decide) (o_move (v := .tup _) rfl) ?_
      first | refine ao1 (by decide) (o_extract (v := .sl _ _ _ _ _) rfl rfl) ?_ | refine ao1 (by decide) (o_extract (v := .pl _) rfl rfl) ?_ | refine ao1 (by decide) (o_extract (v := .nsl) rfl rfl) ?_
      refine ao1 (by decide) (o_extract (v := .agg _) rfl rfl) ?_
      refine ao1 (by decide) (o_extract (v := .int _ _) rfl rfl) ?_
      refine ao2 (by rintro _ ⟨⟩; decide) (o_allocL (sz := 5) rfl (by decide) rfl) ?_
      first | refine ao1 (by decide) (o_assign (v := .sl _ _ _ _ _) rfl) ?_ | refine ao1 (by decide) (o_assign (v := .pl _) rfl) ?_ | refine ao1 (by decide) (o_assign (v := .nsl) rfl) ?_
      first | refine ao2 (by rintro _ ⟨⟩) (w_storeP (sz := 5) (v := .agg _) (r' := _) rfl rfl rfl rfl rfl rfl rfl rfl (Nat.le_of_ble_eq_true rfl) rfl) ?_ | refine ao2 (by rintro _ ⟨⟩) (w_storeFP (sz := 5) (v := .agg _) (r' := [_, _, _, _, _]) rfl hF rfl rfl rfl rfl rfl (Nat.le_of_ble_eq_true rfl) rfl) ?_ | refine ao2 (by rintro _ ⟨⟩) (w_storeFP (sz := 5) (v := .agg _) (r' := [_, _, _, _, _]) rfl hF1 rfl rfl rfl rfl rfl (Nat.le_of_ble_eq_true rfl) rfl) ?_
      refine ao1 (by decide) (o_assign (v := .int _ _) rfl) ?_
      refine ao_nil ?_
      try dsimp only [List.set_cons_zero, List.set_cons_succ, List.cons_append, List.nil_append, List.take_succ_cons, List.take_zero, List.drop_succ_cons, List.drop_zero, AV.cells, List.length_nil, List.length_cons, Av.put, Nat.reduceAdd, AV.up, AV.up1, List.map_cons, List.map_nil]
      repeat (first | refine join_ret ?_ | refine join_brk ?_ | refine then_nrm ?_ | refine blk_nrm ?_ | refine then_brk ?_ | refine blk_hit ?_ | refine blk_miss rfl ?_ | refine then_ret ?_ | refine blk_ret ?_ | refine aw_seq ?_ | refine aw_block ?_ | refine aw_skip ?_ | refine aw_exit ?_ | refine aw_ret ?_)
      refine aw_out 66 (.bool false) ?_ ?_
      · refine ao1 (by decide) (o_move (v := .int _ _) rfl) ?_
        refine ao1 (by decide) (o_ne rfl rfl) ?_
        refine ao1 (by decide) (o_move (v := .bool _) rfl) ?_
        refine ao_split rfl rfl (fun hg2 => ?_) (fun hg2 => ?_)
        · refine ao_nF rfl rfl (by decide) ?_
          refine ao_nF rfl rfl (by decide) ?_
          refine ao_nF rfl rfl (by decide) ?_
          refine ao_nF rfl rfl (by decide) ?_
          first | refine ao1 (by decide) (o_pick_t (v := .bool _) rfl rfl) ?_ | refine ao1 (by decide) (o_pick_f (v := .bool _) rfl rfl) ?_ | refine ao1 (by decide) (o_pick_b rfl rfl rfl) ?_
          refine ao1 (by decide) (o_move (v := .bool _) rfl) ?_
          refine ao_nF rfl rfl (by decide) ?_
          refine ao_nF rfl rfl (by decide) ?_
          refine ao_nF rfl rfl (by decide) ?_
          refine ao_nF rfl rfl (by decide) ?_
          refine ao_nF rfl rfl (by decide) ?_
          refine ao_nF rfl rfl (by decide) ?_
          first | refine ao1 (by decide) (o_pick_t (v := .bool _) rfl rfl) ?_ | refine ao1 (by decide) (o_pick_f (v := .bool _) rfl rfl) ?_ | refine ao1 (by decide) (o_pick_b rfl rfl rfl) ?_
          exact ao_nil (Out.mk (by first | rfl | (refine congrArg AV.bool ?_; simp_all)) (by repeat (first | exact SubX.refl _ _ | refine SubX.at ?_ | refine SubX.put rfl ?_ | refine SubX.put_same rfl ?_)))
        · first | refine ao_y1 rfl rfl (by decide) (o_move (v := .sl _ _ _ _ _) rfl) ?_ | refine ao_y1 rfl rfl (by decide) (o_move (v := .pl _) rfl) ?_ | refine ao_y1 rfl rfl (by decide) (o_move (v := .nsl) rfl) ?_
          first | refine ao_y1 rfl rfl (by decide) (o_move (v := .sl _ _ _ _ _) rfl) ?_ | refine ao_y1 rfl rfl (by decide) (o_move (v := .pl _) rfl) ?_ | refine ao_y1 rfl rfl (by decide) (o_move (v := .nsl) rfl) ?_
          refine ao_y rfl rfl (by decide) (V2.call (ref18_Same l l _ hl) rfl) ?_
          refine ao_y1 rfl rfl (by decide) (o_not rfl) ?_
          first | refine ao1 (by decide) (o_pick_t (v := .bool _) rfl rfl) ?_ | refine ao1 (by decide) (o_pick_f (v := .bool _) rfl rfl) ?_ | refine ao1 (by decide) (o_pick_b rfl rfl rfl) ?_
          refine ao1 (by decide) (o_move (v := .bool _) rfl) ?_
          refine ao_split rfl rfl (fun hg8 => ?_) (fun hg8 => ?_)
          · refine ao_nF rfl rfl (by decide) ?_
            refine ao_nF rfl rfl (by decide) ?_
            refine ao_nF rfl rfl (by decide) ?_
            refine ao_nF rfl rfl (by decide) ?_
            refine ao_nF rfl rfl (by decide) ?_
            refine ao_nF rfl rfl (by decide) ?_
            first | refine ao1 (by decide) (o_pick_t (v := .bool _) rfl rfl) ?_ | refine ao1 (by decide) (o_pick_f (v := .bool _) rfl rfl) ?_ | refine ao1 (by decide) (o_pick_b rfl rfl rfl) ?_
            exact ao_nil (Out.mk (by first | rfl | (refine congrArg AV.bool ?_; simp_all)) (by repeat (first | exact SubX.refl _ _ | refine SubX.at ?_ | refine SubX.put rfl ?_ | refine SubX.put_same rfl ?_)))
          · first | refine ao_y1 rfl rfl (by decide) (w_loadR rfl (lk rfl rfl) rfl rfl rfl) ?_ | refine ao_y1 rfl rfl (by decide) (w_loadR rfl (lk rfl rfl) rfl (zadd hr) rfl) ?_ | refine ao_y1 rfl rfl (by decide) (w_loadR rfl (lk rfl rfl) rfl (zadd hr1) rfl) ?_ | refine ao_y1 rfl rfl (by decide) (w_loadR rfl (lk rfl rfl) rfl (zadd hr2) rfl) ?_ | refine ao_y1 rfl rfl (by decide) (w_loadRp rfl hr rfl) ?_ | refine ao_y1 rfl rfl (by decide) (w_loadRp rfl hr1 rfl) ?_ | refine ao_y1 rfl rfl (by decide) (w_loadRp rfl hr2 rfl) ?_ | refine ao_y1 rfl rfl (by decide) (w_loadN (cs := [_, _, _, _, _]) rfl (lk rfl rfl) rfl rfl rfl rfl) ?_ | refine ao_y1 rfl rfl (by decide) (o_loadNp (cs := [_, _, _, _, _]) rfl hr rfl rfl) ?_ | refine ao_y1 rfl rfl (by decide) (o_loadNp (cs := [_, _, _, _, _]) rfl hr1 rfl rfl) ?_ | refine ao_y1 rfl rfl (by decide) (o_loadNp (cs := [_, _, _, _, _]) rfl hr2 rfl rfl) ?_ | refine ao_y1 rfl rfl (by decide) (w_loadR rfl (lkF hF) rfl rfl rfl) ?_ | refine ao_y1 rfl rfl (by decide) (w_loadN (cs := [_, _, _, _, _]) rfl (lkF hF) rfl rfl rfl rfl) ?_
            refine ao_y1 rfl rfl (by decide) (o_move (v := .int _ _) rfl) ?_
            first | refine ao_y1 rfl rfl (by decide) (w_loadR rfl (lk rfl rfl) rfl rfl rfl) ?_ | refine ao_y1 rfl rfl (by decide) (w_loadR rfl (lk rfl rfl) rfl (zadd hr) rfl) ?_ | refine ao_y1 rfl rfl (by decide) (w_loadR rfl (lk rfl rfl) rfl (zadd hr1) rfl) ?_ | refine ao_y1 rfl rfl (by decide) (w_loadR rfl (lk rfl rfl) rfl (zadd hr2) rfl) ?_ | refine ao_y1 rfl rfl (by decide) (w_loadRp rfl hr rfl) ?_ | refine ao_y1 rfl rfl (by decide) (w_loadRp rfl hr1 rfl) ?_ | refine ao_y1 rfl rfl (by decide) (w_loadRp rfl hr2 rfl) ?_ | refine ao_y1 rfl rfl (by decide) (w_loadN (cs := [_, _, _, _]) rfl (lk rfl rfl) rfl rfl rfl rfl) ?_ | refine ao_y1 rfl rfl (by decide) (o_loadNp (cs := [_, _, _, _]) rfl hr rfl rfl) ?_ | refine ao_y1 rfl rfl (by decide) (o_loadNp (cs := [_, _, _, _]) rfl hr1 rfl rfl) ?_ | refine ao_y1 rfl rfl (by decide) (o_loadNp (cs := [_, _, _, _]) rfl hr2 rfl rfl) ?_ | refine ao_y1 rfl rfl (by decide) (w_loadR rfl (lkF hF) rfl rfl rfl) ?_ | refine ao_y1 rfl rfl (by decide) (w_loadN (cs := [_, _, _, _]) rfl (lkF hF) rfl rfl rfl rfl) ?_
            refine ao_y1 rfl rfl (by decide) (V1.up (o_build (cs := [.int _ _, .int _ _, .int _ _, .int _ _, _]) rfl)) ?_
            refine ao_y rfl rfl (by decide) (V2.call (ref18_One ⟨to, x⟩ ⟨to, x⟩ _) rfl) ?_
            refine ao_y1 rfl rfl (by decide) (o_not rfl) ?_
            first | refine ao1 (by decide) (o_pick_t (v := .bool _) rfl rfl) ?_ | refine ao1 (by decide) (o_pick_f (v := .bool _) rfl rfl) ?_ | refine ao1 (by decide) (o_pick_b rfl rfl rfl) ?_
            exact ao_nil (Out.mk (by first | rfl | (refine congrArg AV.bool ?_; simp_all)) (by repeat (first | exact SubX.refl _ _ | refine SubX.at ?_ | refine SubX.put rfl ?_ | refine SubX.put_same rfl ?_)))
      repeat (first | refine join_ret ?_ | refine join_brk ?_ | refine then_nrm ?_ | refine blk_nrm ?_ | refine then_brk ?_ | refine blk_hit ?_ | refine blk_miss rfl ?_ | refine then_ret ?_ | refine blk_ret ?_ | refine aw_seq ?_ | refine aw_block ?_ | refine aw_skip ?_ | refine aw_exit ?_ | refine aw_ret ?_)
      refine aw_cond rfl (fun hc => ?_) (fun hc => ?_)
      · simp at hc
      · repeat (first | refine join_ret ?_ | refine join_brk ?_ | refine then_nrm ?_ | refine blk_nrm ?_ | refine then_brk ?_ | refine blk_hit ?_ | refine blk_miss rfl ?_ | refine then_ret ?_ | refine blk_ret ?_ | refine aw_seq ?_ | refine aw_block ?_ | refine aw_skip ?_ | refine aw_exit ?_ | refine aw_ret ?_)
        exact join_nrm (by repeat (first | exact Sub.nil | refine Sub.cons (by first | rfl | (simp [get]; done)) ?_)) (Fit.loc hB rfl (by repeat (first | exact EBel.nil | refine EBel.cons (by first | rfl | (simp [AV.bel, AV.bels, Lid]; done) | (simp [AV.bel, AV.bels, Lid]; omega)) ?_)) hF0)
    · repeat (first | refine join_ret ?_ | refine join_brk ?_ | refine then_nrm ?_ | refine blk_nrm ?_ | refine then_brk ?_ | refine blk_hit ?_ | refine blk_miss rfl ?_ | refine then_ret ?_ | refine blk_ret ?_ | refine aw_seq ?_ | refine aw_block ?_ | refine aw_skip ?_ | refine aw_exit ?_ | refine aw_ret ?_)
      exact join_nrm (by repeat (first | exact Sub.nil | refine Sub.cons (by first | rfl | (simp [get]; done)) ?_)) (Fit.loc hB rfl (by repeat (first | exact EBel.nil | refine EBel.cons (by first | rfl | (simp [AV.bel, AV.bels, Lid]; done) | (simp [AV.bel, AV.bels, Lid]; omega)) ?_)) hF0)
  repeat (first | refine join_ret ?_ | refine join_brk ?_ | refine then_nrm ?_ | refine blk_nrm ?_ | refine then_brk ?_ | refine blk_hit ?_ | refine blk_miss rfl ?_ | refine then_ret ?_ | refine blk_ret ?_ | refine aw_seq ?_ | refine aw_block ?_ | refine aw_skip ?_ | refine aw_exit ?_ | refine aw_ret ?_)
  refine aw_region ?_
  first | refine ao1 (by decide) (o_move (v := .sl _ _ _ _ _) rfl) ?_ | refine ao1 (by decide) (o_move (v := .pl _) rfl) ?_ | refine ao1 (by decide) (o_move (v := .nsl) rfl) ?_
  refine ao1 (by decide) (o_move (v := .int _ _) rfl) ?_
  refine ao2 (by rintro _ ⟨⟩; decide) (V2.call (bag_Twice l i _ hl hw) rfl) ?_
  refine ao1 (by decide) (o_move (v := .tup _) rfl) ?_
  first | refine ao1 (by decide) (o_extract (v := .sl _ _ _ _ _) rfl rfl) ?_ | refine ao1 (by decide) (o_extract (v := .pl _) rfl rfl) ?_ | refine ao1 (by decide) (o_extract (v := .nsl) rfl rfl) ?_
  refine ao1 (by decide) (o_extract (v := .int _ _) rfl rfl) ?_
  first | refine ao1 (by decide) (o_assign (v := .sl _ _ _ _ _) rfl) ?_ | refine ao1 (by decide) (o_assign (v := .pl _) rfl) ?_ | refine ao1 (by decide) (o_assign (v := .nsl) rfl) ?_
  refine ao1 (by decide) (o_assign (v := .int _ _) rfl) ?_
  refine ao_nil ?_
  try dsimp only [List.set_cons_zero, List.set_cons_succ, List.cons_append, List.nil_append, List.take_succ_cons, List.take_zero, List.drop_succ_cons, List.drop_zero, AV.cells, List.length_nil, List.length_cons, Av.put, Nat.reduceAdd, AV.up, AV.up1, List.map_cons, List.map_nil]
  repeat (first | refine join_ret ?_ | refine join_brk ?_ | refine then_nrm ?_ | refine blk_nrm ?_ | refine then_brk ?_ | refine blk_hit ?_ | refine blk_miss rfl ?_ | refine then_ret ?_ | refine blk_ret ?_ | refine aw_seq ?_ | refine aw_block ?_ | refine aw_skip ?_ | refine aw_exit ?_ | refine aw_ret ?_)
  refine aw_region ?_
  refine ao1 (by decide) (o_move (v := .int _ _) rfl) ?_
  refine ao1 (by decide) (o_eq rfl rfl) ?_
  refine ao_nil ?_
  try dsimp only [List.set_cons_zero, List.set_cons_succ, List.cons_append, List.nil_append, List.take_succ_cons, List.take_zero, List.drop_succ_cons, List.drop_zero, AV.cells, List.length_nil, List.length_cons, Av.put, Nat.reduceAdd, AV.up, AV.up1, List.map_cons, List.map_nil]
  repeat (first | refine join_ret ?_ | refine join_brk ?_ | refine then_nrm ?_ | refine blk_nrm ?_ | refine then_brk ?_ | refine blk_hit ?_ | refine blk_miss rfl ?_ | refine then_ret ?_ | refine blk_ret ?_ | refine aw_seq ?_ | refine aw_block ?_ | refine aw_skip ?_ | refine aw_exit ?_ | refine aw_ret ?_)
  refine aw_joinQ ([]) (H ++ [⟨0, 4, [ePacket x]⟩]) ?_ ?_
  · repeat (first | refine join_ret ?_ | refine join_brk ?_ | refine then_nrm ?_ | refine blk_nrm ?_ | refine then_brk ?_ | refine blk_hit ?_ | refine blk_miss rfl ?_ | refine then_ret ?_ | refine blk_ret ?_ | refine aw_seq ?_ | refine aw_block ?_ | refine aw_skip ?_ | refine aw_exit ?_ | refine aw_ret ?_)
    refine aw_cond rfl (fun hc => ?_) (fun hc => ?_)
    · have h0 : (bTwice l i).2 = 0 := by simpa using hc
      obtain ⟨ht, htw⟩ := twice_put h0
      have hpt := put_take (l := l) (to := (bTake l i).2.1.to) (x := (bTake l i).2.1.p) (by rw [← htw]; exact h0)
      rw [← htw] at hpt
      have hn : 0 < (bTwice l i).1.length := by
        have := congrArg (·.2.2) hpt
        simp only at this
        rcases Nat.eq_zero_or_pos (bTwice l i).1.length with e | e
        · have hnil := List.eq_nil_of_length_eq_zero e
          rw [hnil] at this
          exact absurd this (by decide)
        · exact e
      have c1 := bag_Take (bTwice l i).1 (((bTwice l i).1.length : Int) - 1)
      rw [hpt] at c1
      repeat (first | refine join_ret ?_ | refine join_brk ?_ | refine then_nrm ?_ | refine blk_nrm ?_ | refine then_brk ?_ | refine blk_hit ?_ | refine blk_miss rfl ?_ | refine then_ret ?_ | refine blk_ret ?_ | refine aw_seq ?_ | refine aw_block ?_ | refine aw_skip ?_ | refine aw_exit ?_ | refine aw_ret ?_)
      refine aw_region ?_
      first | refine ao1 (by decide) (o_move (v := .sl _ _ _ _ _) rfl) ?_ | refine ao1 (by decide) (o_move (v := .pl _) rfl) ?_ | refine ao1 (by decide) (o_move (v := .nsl) rfl) ?_
      first | refine ao1 (by decide) (o_move (v := .sl _ _ _ _ _) rfl) ?_ | refine ao1 (by decide) (o_move (v := .pl _) rfl) ?_ | refine ao1 (by decide) (o_move (v := .nsl) rfl) ?_
      refine ao1 (by decide) (o_lenp rfl) ?_
      refine ao1 (by decide) (o_sub (r := ((bTwice l i).1.length : Int) - 1) rfl rfl (by rw [List.length_map]; exact wrap64_ok (by omega) (by omega))) ?_
      refine ao2 (by rintro _ ⟨⟩; decide) (V2.call (c1 _ l3 (m3 h0)) rfl) ?_
      refine ao1 (by decide) (o_move (v := .tup _) rfl) ?_
      first | refine ao1 (by decide) (o_extract (v := .sl _ _ _ _ _) rfl rfl) ?_ | refine ao1 (by decide) (o_extract (v := .pl _) rfl rfl) ?_ | refine ao1 (by decide) (o_extract (v := .nsl) rfl rfl) ?_
      refine ao1 (by decide) (o_extract (v := .agg _) rfl rfl) ?_
      refine ao1 (by decide) (o_extract (v := .int _ _) rfl rfl) ?_
      refine ao2 (by rintro _ ⟨⟩; decide) (o_allocL (sz := 5) rfl (by decide) rfl) ?_
      first | refine ao1 (by decide) (o_assign (v := .sl _ _ _ _ _) rfl) ?_ | refine ao1 (by decide) (o_assign (v := .pl _) rfl) ?_ | refine ao1 (by decide) (o_assign (v := .nsl) rfl) ?_
      first | refine ao2 (by rintro _ ⟨⟩) (w_storeP (sz := 5) (v := .agg _) (r' := _) rfl rfl rfl rfl rfl rfl rfl rfl (Nat.le_of_ble_eq_true rfl) rfl) ?_ | refine ao2 (by rintro _ ⟨⟩) (w_storeFP (sz := 5) (v := .agg _) (r' := [_, _, _, _, _]) rfl hF rfl rfl rfl rfl rfl (Nat.le_of_ble_eq_true rfl) rfl) ?_ | refine ao2 (by rintro _ ⟨⟩) (w_storeFP (sz := 5) (v := .agg _) (r' := [_, _, _, _, _]) rfl hF1 rfl rfl rfl rfl rfl (Nat.le_of_ble_eq_true rfl) rfl) ?_
      refine ao1 (by decide) (o_assign (v := .int _ _) rfl) ?_
      refine ao_nil ?_
      try dsimp only [List.set_cons_zero, List.set_cons_succ, List.cons_append, List.nil_append, List.take_succ_cons, List.take_zero, List.drop_succ_cons, List.drop_zero, AV.cells, List.length_nil, List.length_cons, Av.put, Nat.reduceAdd, AV.up, AV.up1, List.map_cons, List.map_nil]
      repeat (first | refine join_ret ?_ | refine join_brk ?_ | refine then_nrm ?_ | refine blk_nrm ?_ | refine then_brk ?_ | refine blk_hit ?_ | refine blk_miss rfl ?_ | refine then_ret ?_ | refine blk_ret ?_ | refine aw_seq ?_ | refine aw_block ?_ | refine aw_skip ?_ | refine aw_exit ?_ | refine aw_ret ?_)
      refine aw_region ?_
      first | refine ao1 (by decide) (o_move (v := .sl _ _ _ _ _) rfl) ?_ | refine ao1 (by decide) (o_move (v := .pl _) rfl) ?_ | refine ao1 (by decide) (o_move (v := .nsl) rfl) ?_
      refine ao1 (by decide) (o_move (v := .int _ _) rfl) ?_
      refine ao2 (by rintro _ ⟨⟩; decide) (V2.call (bag_Take l i _ hl hw) rfl) ?_
      refine ao1 (by decide) (o_move (v := .tup _) rfl) ?_
      first | refine ao1 (by decide) (o_extract (v := .sl _ _ _ _ _) rfl rfl) ?_ | refine ao1 (by decide) (o_extract (v := .pl _) rfl rfl) ?_ | refine ao1 (by decide) (o_extract (v := .nsl) rfl rfl) ?_
      refine ao1 (by decide) (o_extract (v := .agg _) rfl rfl) ?_
      refine ao1 (by decide) (o_extract (v := .int _ _) rfl rfl) ?_
      refine ao2 (by rintro _ ⟨⟩; decide) (o_allocL (sz := 5) rfl (by decide) rfl) ?_
      first | refine ao1 (by decide) (o_assign (v := .sl _ _ _ _ _) rfl) ?_ | refine ao1 (by decide) (o_assign (v := .pl _) rfl) ?_ | refine ao1 (by decide) (o_assign (v := .nsl) rfl) ?_
      first | refine ao2 (by rintro _ ⟨⟩) (w_storeP (sz := 5) (v := .agg _) (r' := _) rfl rfl rfl rfl rfl rfl rfl rfl (Nat.le_of_ble_eq_true rfl) rfl) ?_ | refine ao2 (by rintro _ ⟨⟩) (w_storeFP (sz := 5) (v := .agg _) (r' := [_, _, _, _, _]) rfl hF rfl rfl rfl rfl rfl (Nat.le_of_ble_eq_true rfl) rfl) ?_ | refine ao2 (by rintro _ ⟨⟩) (w_storeFP (sz := 5) (v := .agg _) (r' := [_, _, _, _, _]) rfl hF1 rfl rfl rfl rfl rfl (Nat.le_of_ble_eq_true rfl) rfl) ?_
      refine ao1 (by decide) (o_assign (v := .int _ _) rfl) ?_
      refine ao_nil ?_
      try dsimp only [List.set_cons_zero, List.set_cons_succ, List.cons_append, List.nil_append, List.take_succ_cons, List.take_zero, List.drop_succ_cons, List.drop_zero, AV.cells, List.length_nil, List.length_cons, Av.put, Nat.reduceAdd, AV.up, AV.up1, List.map_cons, List.map_nil]
      repeat (first | refine join_ret ?_ | refine join_brk ?_ | refine then_nrm ?_ | refine blk_nrm ?_ | refine then_brk ?_ | refine blk_hit ?_ | refine blk_miss rfl ?_ | refine then_ret ?_ | refine blk_ret ?_ | refine aw_seq ?_ | refine aw_block ?_ | refine aw_skip ?_ | refine aw_exit ?_ | refine aw_ret ?_)
      refine aw_out 108 (.bool false) ?_ ?_
      · refine ao1 (by decide) (o_move (v := .int _ _) rfl) ?_
        refine ao1 (by decide) (o_ne rfl rfl) ?_
        refine ao1 (by decide) (o_move (v := .bool _) rfl) ?_
        refine ao_split rfl rfl (fun hg2 => ?_) (fun hg2 => ?_)
        · refine ao_nF rfl rfl (by decide) ?_
          refine ao_nF rfl rfl (by decide) ?_
          first | refine ao1 (by decide) (o_pick_t (v := .bool _) rfl rfl) ?_ | refine ao1 (by decide) (o_pick_f (v := .bool _) rfl rfl) ?_ | refine ao1 (by decide) (o_pick_b rfl rfl rfl) ?_
          refine ao1 (by decide) (o_move (v := .bool _) rfl) ?_
          refine ao_nF rfl rfl (by decide) ?_
          refine ao_nF rfl rfl (by decide) ?_
          refine ao_nF rfl rfl (by decide) ?_
          refine ao_nF rfl rfl (by decide) ?_
          first | refine ao1 (by decide) (o_pick_t (v := .bool _) rfl rfl) ?_ | refine ao1 (by decide) (o_pick_f (v := .bool _) rfl rfl) ?_ | refine ao1 (by decide) (o_pick_b rfl rfl rfl) ?_
          refine ao1 (by decide) (o_move (v := .bool _) rfl) ?_
          refine ao_nF rfl rfl (by decide) ?_
          refine ao_nF rfl rfl (by decide) ?_
          refine ao_nF rfl rfl (by decide) ?_
          refine ao_nF rfl rfl (by decide) ?_
          first | refine ao1 (by decide) (o_pick_t (v := .bool _) rfl rfl) ?_ | refine ao1 (by decide) (o_pick_f (v := .bool _) rfl rfl) ?_ | refine ao1 (by decide) (o_pick_b rfl rfl rfl) ?_
          exact ao_nil (Out.mk (by first | rfl | (refine congrArg AV.bool ?_; simp_all)) (by repeat (first | exact SubX.refl _ _ | refine SubX.at ?_ | refine SubX.put rfl ?_ | refine SubX.put_same rfl ?_)))
        · refine ao_y1 rfl rfl (by decide) (o_move (v := .int _ _) rfl) ?_
          refine ao_y1 rfl rfl (by decide) (o_ne rfl rfl) ?_
          first | refine ao1 (by decide) (o_pick_t (v := .bool _) rfl rfl) ?_ | refine ao1 (by decide) (o_pick_f (v := .bool _) rfl rfl) ?_ | refine ao1 (by decide) (o_pick_b rfl rfl rfl) ?_
          refine ao1 (by decide) (o_move (v := .bool _) rfl) ?_
          refine ao_split rfl rfl (fun hg6 => ?_) (fun hg6 => ?_)
          · refine ao_nF rfl rfl (by decide) ?_
            refine ao_nF rfl rfl (by decide) ?_
            refine ao_nF rfl rfl (by decide) ?_
            refine ao_nF rfl rfl (by decide) ?_
            first | refine ao1 (by decide) (o_pick_t (v := .bool _) rfl rfl) ?_ | refine ao1 (by decide) (o_pick_f (v := .bool _) rfl rfl) ?_ | refine ao1 (by decide) (o_pick_b rfl rfl rfl) ?_
            refine ao1 (by decide) (o_move (v := .bool _) rfl) ?_
            refine ao_nF rfl rfl (by decide) ?_
            refine ao_nF rfl rfl (by decide) ?_
            refine ao_nF rfl rfl (by decide) ?_
            refine ao_nF rfl rfl (by decide) ?_
            first | refine ao1 (by decide) (o_pick_t (v := .bool _) rfl rfl) ?_ | refine ao1 (by decide) (o_pick_f (v := .bool _) rfl rfl) ?_ | refine ao1 (by decide) (o_pick_b rfl rfl rfl) ?_
            exact ao_nil (Out.mk (by first | rfl | (refine congrArg AV.bool ?_; simp_all)) (by repeat (first | exact SubX.refl _ _ | refine SubX.at ?_ | refine SubX.put rfl ?_ | refine SubX.put_same rfl ?_)))
          · first | refine ao_y1 rfl rfl (by decide) (o_move (v := .sl _ _ _ _ _) rfl) ?_ | refine ao_y1 rfl rfl (by decide) (o_move (v := .pl _) rfl) ?_ | refine ao_y1 rfl rfl (by decide) (o_move (v := .nsl) rfl) ?_
            first | refine ao_y1 rfl rfl (by decide) (o_move (v := .sl _ _ _ _ _) rfl) ?_ | refine ao_y1 rfl rfl (by decide) (o_move (v := .pl _) rfl) ?_ | refine ao_y1 rfl rfl (by decide) (o_move (v := .nsl) rfl) ?_
            refine ao_y rfl rfl (by decide) (V2.call (ref18_Same l l _ hl) rfl) ?_
            refine ao_y1 rfl rfl (by decide) (o_not rfl) ?_
            first | refine ao1 (by decide) (o_pick_t (v := .bool _) rfl rfl) ?_ | refine ao1 (by decide) (o_pick_f (v := .bool _) rfl rfl) ?_ | refine ao1 (by decide) (o_pick_b rfl rfl rfl) ?_
            refine ao1 (by decide) (o_move (v := .bool _) rfl) ?_
            refine ao_split rfl rfl (fun hg12 => ?_) (fun hg12 => ?_)
            · refine ao_nF rfl rfl (by decide) ?_
              refine ao_nF rfl rfl (by decide) ?_
              refine ao_nF rfl rfl (by decide) ?_
              refine ao_nF rfl rfl (by decide) ?_
              first | refine ao1 (by decide) (o_pick_t (v := .bool _) rfl rfl) ?_ | refine ao1 (by decide) (o_pick_f (v := .bool _) rfl rfl) ?_ | refine ao1 (by decide) (o_pick_b rfl rfl rfl) ?_
              exact ao_nil (Out.mk (by first | rfl | (refine congrArg AV.bool ?_; simp_all)) (by repeat (first | exact SubX.refl _ _ | refine SubX.at ?_ | refine SubX.put rfl ?_ | refine SubX.put_same rfl ?_)))
            · first | refine ao_y1 rfl rfl (by decide) (w_loadR rfl (lk rfl rfl) rfl rfl rfl) ?_ | refine ao_y1 rfl rfl (by decide) (w_loadR rfl (lk rfl rfl) rfl (zadd hr) rfl) ?_ | refine ao_y1 rfl rfl (by decide) (w_loadR rfl (lk rfl rfl) rfl (zadd hr1) rfl) ?_ | refine ao_y1 rfl rfl (by decide) (w_loadR rfl (lk rfl rfl) rfl (zadd hr2) rfl) ?_ | refine ao_y1 rfl rfl (by decide) (w_loadRp rfl hr rfl) ?_ | refine ao_y1 rfl rfl (by decide) (w_loadRp rfl hr1 rfl) ?_ | refine ao_y1 rfl rfl (by decide) (w_loadRp rfl hr2 rfl) ?_ | refine ao_y1 rfl rfl (by decide) (w_loadN (cs := [_, _, _, _, _]) rfl (lk rfl rfl) rfl rfl rfl rfl) ?_ | refine ao_y1 rfl rfl (by decide) (o_loadNp (cs := [_, _, _, _, _]) rfl hr rfl rfl) ?_ | refine ao_y1 rfl rfl (by decide) (o_loadNp (cs := [_, _, _, _, _]) rfl hr1 rfl rfl) ?_ | refine ao_y1 rfl rfl (by decide) (o_loadNp (cs := [_, _, _, _, _]) rfl hr2 rfl rfl) ?_ | refine ao_y1 rfl rfl (by decide) (w_loadR rfl (lkF hF) rfl rfl rfl) ?_ | refine ao_y1 rfl rfl (by decide) (w_loadN (cs := [_, _, _, _, _]) rfl (lkF hF) rfl rfl rfl rfl) ?_
              first | refine ao_y1 rfl rfl (by decide) (w_loadR rfl (lk rfl rfl) rfl rfl rfl) ?_ | refine ao_y1 rfl rfl (by decide) (w_loadR rfl (lk rfl rfl) rfl (zadd hr) rfl) ?_ | refine ao_y1 rfl rfl (by decide) (w_loadR rfl (lk rfl rfl) rfl (zadd hr1) rfl) ?_ | refine ao_y1 rfl rfl (by decide) (w_loadR rfl (lk rfl rfl) rfl (zadd hr2) rfl) ?_ | refine ao_y1 rfl rfl (by decide) (w_loadRp rfl hr rfl) ?_ | refine ao_y1 rfl rfl (by decide) (w_loadRp rfl hr1 rfl) ?_ | refine ao_y1 rfl rfl (by decide) (w_loadRp rfl hr2 rfl) ?_ | refine ao_y1 rfl rfl (by decide) (w_loadN (cs := [_, _, _, _, _]) rfl (lk rfl rfl) rfl rfl rfl rfl) ?_ | refine ao_y1 rfl rfl (by decide) (o_loadNp (cs := [_, _, _, _, _]) rfl hr rfl rfl) ?_ | refine ao_y1 rfl rfl (by decide) (o_loadNp (cs := [_, _, _, _, _]) rfl hr1 rfl rfl) ?_ | refine ao_y1 rfl rfl (by decide) (o_loadNp (cs := [_, _, _, _, _]) rfl hr2 rfl rfl) ?_ | refine ao_y1 rfl rfl (by decide) (w_loadR rfl (lkF hF) rfl rfl rfl) ?_ | refine ao_y1 rfl rfl (by decide) (w_loadN (cs := [_, _, _, _, _]) rfl (lkF hF) rfl rfl rfl rfl) ?_
              refine ao_y rfl rfl (by decide) (V2.call (ref18_One (bTake l i).2.1 (bTake l i).2.1 _) rfl) ?_
              refine ao_y1 rfl rfl (by decide) (o_not rfl) ?_
              first | refine ao1 (by decide) (o_pick_t (v := .bool _) rfl rfl) ?_ | refine ao1 (by decide) (o_pick_f (v := .bool _) rfl rfl) ?_ | refine ao1 (by decide) (o_pick_b rfl rfl rfl) ?_
              exact ao_nil (Out.mk (by first | rfl | (refine congrArg AV.bool ?_; simp_all)) (by repeat (first | exact SubX.refl _ _ | refine SubX.at ?_ | refine SubX.put rfl ?_ | refine SubX.put_same rfl ?_)))
      repeat (first | refine join_ret ?_ | refine join_brk ?_ | refine then_nrm ?_ | refine blk_nrm ?_ | refine then_brk ?_ | refine blk_hit ?_ | refine blk_miss rfl ?_ | refine then_ret ?_ | refine blk_ret ?_ | refine aw_seq ?_ | refine aw_block ?_ | refine aw_skip ?_ | refine aw_exit ?_ | refine aw_ret ?_)
      refine aw_cond rfl (fun hc => ?_) (fun hc => ?_)
      · simp at hc
      · repeat (first | refine join_ret ?_ | refine join_brk ?_ | refine then_nrm ?_ | refine blk_nrm ?_ | refine then_brk ?_ | refine blk_hit ?_ | refine blk_miss rfl ?_ | refine then_ret ?_ | refine blk_ret ?_ | refine aw_seq ?_ | refine aw_block ?_ | refine aw_skip ?_ | refine aw_exit ?_ | refine aw_ret ?_)
        exact join_nrm Sub.nil (Fit.loc hB rfl (by repeat (first | exact EBel.nil | refine EBel.cons (by first | rfl | (simp [AV.bel, AV.bels, Lid]; done) | (simp [AV.bel, AV.bels, Lid]; omega)) ?_)) hF0)
    · repeat (first | refine join_ret ?_ | refine join_brk ?_ | refine then_nrm ?_ | refine blk_nrm ?_ | refine then_brk ?_ | refine blk_hit ?_ | refine blk_miss rfl ?_ | refine then_ret ?_ | refine blk_ret ?_ | refine aw_seq ?_ | refine aw_block ?_ | refine aw_skip ?_ | refine aw_exit ?_ | refine aw_ret ?_)
      exact join_nrm Sub.nil (Fit.loc hB rfl (by repeat (first | exact EBel.nil | refine EBel.cons (by first | rfl | (simp [AV.bel, AV.bels, Lid]; done) | (simp [AV.bel, AV.bels, Lid]; omega)) ?_)) hF0)
  repeat (first | refine join_ret ?_ | refine join_brk ?_ | refine then_nrm ?_ | refine blk_nrm ?_ | refine then_brk ?_ | refine blk_hit ?_ | refine blk_miss rfl ?_ | refine then_ret ?_ | refine blk_ret ?_ | refine aw_seq ?_ | refine aw_block ?_ | refine aw_skip ?_ | refine aw_exit ?_ | refine aw_ret ?_)
  refine aw_region ?_
  refine ao1 (by decide) (o_assign (v := .bool _) rfl) ?_
  refine ao_nil ?_
  try dsimp only [List.set_cons_zero, List.set_cons_succ, List.cons_append, List.nil_append, List.take_succ_cons, List.take_zero, List.drop_succ_cons, List.drop_zero, AV.cells, List.length_nil, List.length_cons, Av.put, Nat.reduceAdd, AV.up, AV.up1, List.map_cons, List.map_nil]
  repeat (first | refine join_ret ?_ | refine join_brk ?_ | refine then_nrm ?_ | refine blk_nrm ?_ | refine then_brk ?_ | refine blk_hit ?_ | refine blk_miss rfl ?_ | refine then_ret ?_ | refine blk_ret ?_ | refine aw_seq ?_ | refine aw_block ?_ | refine aw_skip ?_ | refine aw_exit ?_ | refine aw_ret ?_)
  exact e_done hB (r_tmp rfl .nil) rfl rfl
end Go.Av
