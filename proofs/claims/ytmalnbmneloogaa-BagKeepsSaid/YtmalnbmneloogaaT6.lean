/- A part of the proof: walks through the program over abstract values. -/
import Derived.Test.YtmalnbmneloogaaT5
namespace Go.Av
open Go.Proofs
set_option maxRecDepth 10000
set_option linter.unusedSimpArgs false
set_option linter.unusedVariables false

theorem take_map_len {α β : Type} (e : α → β) (l : List α) : (l.map e).take l.length = l.map e := List.take_of_length_le (by simp)
theorem one_len {cs : List AV} {n : Nat} (h : cs.length = n) : ∀ r ∈ [cs], r.length = n := by simpa using h
theorem ref18_Same (a b : List Way) (H : Heap) (ha : a.length ≤ 1000000) : AC Try.prog 16 [.pl (a.map eWay), .pl (b.map eWay)] H (Ret (.bool (decide (a = b))) H) := by
  refine AC.body (N := 27) [.tmp 4] Try.func16 rfl rfl rfl (Nat.le_of_ble_eq_true rfl) fun B hB => ?_
  repeat (first | refine then_nrm ?_ | refine blk_nrm ?_ | refine then_brk ?_ | refine blk_hit ?_ | refine blk_miss rfl ?_ | refine then_ret ?_ | refine blk_ret ?_ | refine aw_seq ?_ | refine aw_block ?_ | refine aw_skip ?_ | refine aw_exit ?_ | refine aw_ret ?_)
  refine aw_region ?_
  refine ao1 (by decide) (o_assign (v := .bool _) rfl) ?_
  refine ao_nil ?_
  try dsimp only [List.set_cons_zero, List.set_cons_succ, List.cons_append, List.nil_append, List.take_succ_cons, List.take_zero, List.drop_succ_cons, List.drop_zero, AV.cells, List.length_nil, List.length_cons, Av.put, Nat.reduceAdd, AV.up, AV.up1, List.map_cons, List.map_nil]
  repeat (first | refine then_nrm ?_ | refine blk_nrm ?_ | refine then_brk ?_ | refine blk_hit ?_ | refine blk_miss rfl ?_ | refine then_ret ?_ | refine blk_ret ?_ | refine aw_seq ?_ | refine aw_block ?_ | refine aw_skip ?_ | refine aw_exit ?_ | refine aw_ret ?_)
  refine aw_region ?_
  first | refine ao1 (by decide) (o_move (v := .sl _ _ _ _ _) rfl) ?_ | refine ao1 (by decide) (o_move (v := .pl _) rfl) ?_ | refine ao1 (by decide) (o_move (v := .nsl) rfl) ?_
  first | refine ao1 (by decide) (o_lenp rfl) ?_ | refine ao1 (by decide) (w_lens rfl (lk rfl rfl) rfl) ?_ | refine ao1 (by decide) (o_lenn rfl) ?_ | refine ao1 (by decide) (o_lenStr rfl) ?_ | refine ao1 (by decide) (w_lens rfl (lkF hF) rfl) ?_
  first | refine ao1 (by decide) (o_move (v := .sl _ _ _ _ _) rfl) ?_ | refine ao1 (by decide) (o_move (v := .pl _) rfl) ?_ | refine ao1 (by decide) (o_move (v := .nsl) rfl) ?_
  first | refine ao1 (by decide) (o_lenp rfl) ?_ | refine ao1 (by decide) (w_lens rfl (lk rfl rfl) rfl) ?_ | refine ao1 (by decide) (o_lenn rfl) ?_ | refine ao1 (by decide) (o_lenStr rfl) ?_ | refine ao1 (by decide) (w_lens rfl (lkF hF) rfl) ?_
  refine ao1 (by decide) (o_ne rfl rfl) ?_
  refine ao_nil ?_
  try dsimp only [List.set_cons_zero, List.set_cons_succ, List.cons_append, List.nil_append, List.take_succ_cons, List.take_zero, List.drop_succ_cons, List.drop_zero, AV.cells, List.length_nil, List.length_cons, Av.put, Nat.reduceAdd, AV.up, AV.up1, List.map_cons, List.map_nil]
  repeat (first | refine then_nrm ?_ | refine blk_nrm ?_ | refine then_brk ?_ | refine blk_hit ?_ | refine blk_miss rfl ?_ | refine then_ret ?_ | refine blk_ret ?_ | refine aw_seq ?_ | refine aw_block ?_ | refine aw_skip ?_ | refine aw_exit ?_ | refine aw_ret ?_)
  refine aw_cond rfl (fun hc => ?_) (fun hc => ?_)
  · repeat (first | refine then_nrm ?_ | refine blk_nrm ?_ | refine then_brk ?_ | refine blk_hit ?_ | refine blk_miss rfl ?_ | refine then_ret ?_ | refine blk_ret ?_ | refine aw_seq ?_ | refine aw_block ?_ | refine aw_skip ?_ | refine aw_exit ?_ | refine aw_ret ?_)
    refine aw_region ?_
    refine ao1 (by decide) (o_assign (v := .bool _) rfl) ?_
    refine ao_nil ?_
    try dsimp only [List.set_cons_zero, List.set_cons_succ, List.cons_append, List.nil_append, List.take_succ_cons, List.take_zero, List.drop_succ_cons, List.drop_zero, AV.cells, List.length_nil, List.length_cons, Av.put, Nat.reduceAdd, AV.up, AV.up1, List.map_cons, List.map_nil]
    repeat (first | refine then_nrm ?_ | refine blk_nrm ?_ | refine then_brk ?_ | refine blk_hit ?_ | refine blk_miss rfl ?_ | refine then_ret ?_ | refine blk_ret ?_ | refine aw_seq ?_ | refine aw_block ?_ | refine aw_skip ?_ | refine aw_exit ?_ | refine aw_ret ?_)
    rw [show decide (a = b) = false by simp at hc; simp; rintro rfl; exact hc rfl]
    exact e_done hB (r_tmp rfl .nil) rfl rfl
  have hn : a.length = b.length := by simp at hc; omega
  repeat (first | refine then_nrm ?_ | refine blk_nrm ?_ | refine then_brk ?_ | refine blk_hit ?_ | refine blk_miss rfl ?_ | refine then_ret ?_ | refine blk_ret ?_ | refine aw_seq ?_ | refine aw_block ?_ | refine aw_skip ?_ | refine aw_exit ?_ | refine aw_ret ?_)
  refine aw_region ?_
  refine ao1 (by decide) (o_assign (v := .int _ _) rfl) ?_
  refine ao_nil ?_
  try dsimp only [List.set_cons_zero, List.set_cons_succ, List.cons_append, List.nil_append, List.take_succ_cons, List.take_zero, List.drop_succ_cons, List.drop_zero, AV.cells, List.length_nil, List.length_cons, Av.put, Nat.reduceAdd, AV.up, AV.up1, List.map_cons, List.map_nil]
  repeat (first | refine then_nrm ?_ | refine blk_nrm ?_ | refine then_brk ?_ | refine blk_hit ?_ | refine blk_miss rfl ?_ | refine then_ret ?_ | refine blk_ret ?_ | refine aw_seq ?_ | refine aw_block ?_ | refine aw_skip ?_ | refine aw_exit ?_)
  refine aw_loop (G := Nat) (fun k => k ≤ a.length ∧ a.take k = b.take k) (fun k => [(0, .pl (a.map eWay)), (1, .pl (b.map eWay)), (5, .int .i64 (k : Int))]) (fun _ => H ++ []) (fun k => a.length - k) 0 ⟨Nat.zero_le _, by simp⟩ (by repeat (first | exact Sub.nil | refine Sub.cons (by first | rfl | (simp [get]; done)) ?_)) (Fit.refl _ _) ?_
  rintro k ⟨hk, hno⟩
  repeat (first | refine then_nrm ?_ | refine blk_nrm ?_ | refine then_brk ?_ | refine blk_hit ?_ | refine blk_miss rfl ?_ | refine then_ret ?_ | refine blk_ret ?_ | refine aw_seq ?_ | refine aw_block ?_ | refine aw_skip ?_ | refine aw_exit ?_ | refine aw_ret ?_)
  refine aw_region ?_
  refine ao1 (by decide) (o_move (v := .int _ _) rfl) ?_
  first | refine ao1 (by decide) (o_move (v := .sl _ _ _ _ _) rfl) ?_ | refine ao1 (by decide) (o_move (v := .pl _) rfl) ?_ | refine ao1 (by decide) (o_move (v := .nsl) rfl) ?_
  first | refine ao1 (by decide) (o_lenp rfl) ?_ | refine ao1 (by decide) (w_lens rfl (lk rfl rfl) rfl) ?_ | refine ao1 (by decide) (o_lenn rfl) ?_ | refine ao1 (by decide) (o_lenStr rfl) ?_ | refine ao1 (by decide) (w_lens rfl (lkF hF) rfl) ?_
  refine ao1 (by decide) (o_lt rfl rfl) ?_
  refine ao_nil ?_
  try dsimp only [List.set_cons_zero, List.set_cons_succ, List.cons_append, List.nil_append, List.take_succ_cons, List.take_zero, List.drop_succ_cons, List.drop_zero, AV.cells, List.length_nil, List.length_cons, Av.put, Nat.reduceAdd, AV.up, AV.up1, List.map_cons, List.map_nil]
  repeat (first | refine then_nrm ?_ | refine blk_nrm ?_ | refine then_brk ?_ | refine blk_hit ?_ | refine blk_miss rfl ?_ | refine then_ret ?_ | refine blk_ret ?_ | refine aw_seq ?_ | refine aw_block ?_ | refine aw_skip ?_ | refine aw_exit ?_ | refine aw_ret ?_)
  refine aw_cond rfl (fun hc => ?_) (fun hc => ?_)
  · have hlt : k < a.length := by simpa using hc
    obtain ⟨x, hx, hxl⟩ := get_in hlt
    obtain ⟨y, hy, hyl⟩ := get_in (l := b) (show k < b.length by omega)
    have hr := map_get eWay hx
    have hr1 := map_get eWay hy
    repeat (first | refine then_nrm ?_ | refine blk_nrm ?_ | refine then_brk ?_ | refine blk_hit ?_ | refine blk_miss rfl ?_ | refine then_ret ?_ | refine blk_ret ?_ | refine aw_seq ?_ | refine aw_block ?_ | refine aw_skip ?_ | refine aw_exit ?_ | refine aw_ret ?_)
    refine aw_drawP mixed none 999 ?_
    try dsimp only [List.take_succ_cons, List.take_zero, List.take_nil, List.set_cons_zero, List.set_cons_succ, List.cons_append, List.nil_append]
    first | refine aq0 0 rfl (by decide +kernel) (by decide) (fun _ => o_move (v := .sl _ _ _ _ _) rfl) ?_ | refine aq0 0 rfl (by decide +kernel) (by decide) (fun _ => o_move (v := .pl _) rfl) ?_ | refine aq0 0 rfl (by decide +kernel) (by decide) (fun _ => o_move (v := .nsl) rfl) ?_
    refine aq0 1 rfl (by decide +kernel) (by decide) (fun _ => o_move (v := .int _ _) rfl) ?_
    first | refine aqp 2 rfl (by decide +kernel) (by decide) (fun G => w_indexAddrpN rfl rfl hr rfl) ?_ | refine aqp 2 rfl (by decide +kernel) (by decide) (fun G => w_indexAddrpN rfl rfl hr1 rfl) ?_ | refine aqp 2 rfl (by decide +kernel) (by decide) (fun G => w_indexAddrpN rfl rfl hr2 rfl) ?_ | refine aqp 2 rfl (by decide +kernel) (by decide) (fun G => w_indexAddrN rfl (lk rfl rfl) rfl rfl rfl (by omega)) ?_ | refine aqp 2 rfl (by decide +kernel) (by decide) (fun G => w_indexAddrp rfl rfl (by omega) hr rfl) ?_ | refine aqp 2 rfl (by decide +kernel) (by decide) (fun G => w_indexAddrp rfl rfl (by omega) hr1 rfl) ?_ | refine aqp 2 rfl (by decide +kernel) (by decide) (fun G => w_indexAddrp rfl rfl (by omega) hr2 rfl) ?_ | refine aqp 2 rfl (by decide +kernel) (by decide) (fun G => w_indexAddr rfl (lk rfl rfl) rfl rfl rfl (by omega) (by omega)) ?_
    first | refine aqp 3 rfl (by decide +kernel) (by decide) (fun G => w_loadR rfl (lk rfl rfl) rfl rfl rfl) ?_ | refine aqp 3 rfl (by decide +kernel) (by decide) (fun G => w_loadR rfl (lk rfl rfl) rfl (zadd hr) rfl) ?_ | refine aqp 3 rfl (by decide +kernel) (by decide) (fun G => w_loadR rfl (lk rfl rfl) rfl (zadd hr1) rfl) ?_ | refine aqp 3 rfl (by decide +kernel) (by decide) (fun G => w_loadR rfl (lk rfl rfl) rfl (zadd hr2) rfl) ?_ | refine aqp 3 rfl (by decide +kernel) (by decide) (fun G => w_loadRp rfl hr rfl) ?_ | refine aqp 3 rfl (by decide +kernel) (by decide) (fun G => w_loadRp rfl hr1 rfl) ?_ | refine aqp 3 rfl (by decide +kernel) (by decide) (fun G => w_loadRp rfl hr2 rfl) ?_ | refine aqp 3 rfl (by decide +kernel) (by decide) (fun G => w_loadN (cs := [_, _, _, _, _]) rfl (lk rfl rfl) rfl rfl rfl rfl) ?_ | refine aqp 3 rfl (by decide +kernel) (by decide) (fun G => o_loadNp (cs := [_, _, _, _, _]) rfl hr rfl rfl) ?_ | refine aqp 3 rfl (by decide +kernel) (by decide) (fun G => o_loadNp (cs := [_, _, _, _, _]) rfl hr1 rfl rfl) ?_ | refine aqp 3 rfl (by decide +kernel) (by decide) (fun G => o_loadNp (cs := [_, _, _, _, _]) rfl hr2 rfl rfl) ?_ | refine aqp 3 rfl (by decide +kernel) (by decide) (fun G => w_loadR rfl (lkF hF) rfl rfl rfl) ?_ | refine aqp 3 rfl (by decide +kernel) (by decide) (fun G => w_loadN (cs := [_, _, _, _, _]) rfl (lkF hF) rfl rfl rfl rfl) ?_
    first | refine aq0 4 rfl (by decide +kernel) (by decide) (fun _ => o_move (v := .sl _ _ _ _ _) rfl) ?_ | refine aq0 4 rfl (by decide +kernel) (by decide) (fun _ => o_move (v := .pl _) rfl) ?_ | refine aq0 4 rfl (by decide +kernel) (by decide) (fun _ => o_move (v := .nsl) rfl) ?_
    refine aq0 5 rfl (by decide +kernel) (by decide) (fun _ => o_move (v := .int _ _) rfl) ?_
    first | refine aqp 6 rfl (by decide +kernel) (by decide) (fun G => w_indexAddrpN rfl rfl hr rfl) ?_ | refine aqp 6 rfl (by decide +kernel) (by decide) (fun G => w_indexAddrpN rfl rfl hr1 rfl) ?_ | refine aqp 6 rfl (by decide +kernel) (by decide) (fun G => w_indexAddrpN rfl rfl hr2 rfl) ?_ | refine aqp 6 rfl (by decide +kernel) (by decide) (fun G => w_indexAddrN rfl (lk rfl rfl) rfl rfl rfl (by omega)) ?_ | refine aqp 6 rfl (by decide +kernel) (by decide) (fun G => w_indexAddrp rfl rfl (by omega) hr rfl) ?_ | refine aqp 6 rfl (by decide +kernel) (by decide) (fun G => w_indexAddrp rfl rfl (by omega) hr1 rfl) ?_ | refine aqp 6 rfl (by decide +kernel) (by decide) (fun G => w_indexAddrp rfl rfl (by omega) hr2 rfl) ?_ | refine aqp 6 rfl (by decide +kernel) (by decide) (fun G => w_indexAddr rfl (lk rfl rfl) rfl rfl rfl (by omega) (by omega)) ?_
    first | refine aqp 7 rfl (by decide +kernel) (by decide) (fun G => w_loadR rfl (lk rfl rfl) rfl rfl rfl) ?_ | refine aqp 7 rfl (by decide +kernel) (by decide) (fun G => w_loadR rfl (lk rfl rfl) rfl (zadd hr) rfl) ?_ | refine aqp 7 rfl (by decide +kernel) (by decide) (fun G => w_loadR rfl (lk rfl rfl) rfl (zadd hr1) rfl) ?_ | refine aqp 7 rfl (by decide +kernel) (by decide) (fun G => w_loadR rfl (lk rfl rfl) rfl (zadd hr2) rfl) ?_ | refine aqp 7 rfl (by decide +kernel) (by decide) (fun G => w_loadRp rfl hr rfl) ?_ | refine aqp 7 rfl (by decide +kernel) (by decide) (fun G => w_loadRp rfl hr1 rfl) ?_ | refine aqp 7 rfl (by decide +kernel) (by decide) (fun G => w_loadRp rfl hr2 rfl) ?_ | refine aqp 7 rfl (by decide +kernel) (by decide) (fun G => w_loadN (cs := [_, _, _, _, _]) rfl (lk rfl rfl) rfl rfl rfl rfl) ?_ | refine aqp 7 rfl (by decide +kernel) (by decide) (fun G => o_loadNp (cs := [_, _, _, _, _]) rfl hr rfl rfl) ?_ | refine aqp 7 rfl (by decide +kernel) (by decide) (fun G => o_loadNp (cs := [_, _, _, _, _]) rfl hr1 rfl rfl) ?_ | refine aqp 7 rfl (by decide +kernel) (by decide) (fun G => o_loadNp (cs := [_, _, _, _, _]) rfl hr2 rfl rfl) ?_ | refine aqp 7 rfl (by decide +kernel) (by decide) (fun G => w_loadR rfl (lkF hF) rfl rfl rfl) ?_ | refine aqp 7 rfl (by decide +kernel) (by decide) (fun G => w_loadN (cs := [_, _, _, _, _]) rfl (lkF hF) rfl rfl rfl rfl) ?_
    refine aq02 8 rfl (by decide +kernel) (by decide) (fun _ => V2.call (ref18_One x y _) rfl) ?_
    refine aq0 9 rfl (by decide +kernel) (by decide) (fun _ => o_not rfl) ?_
    refine aa_done (by decide +kernel) (by first | exact fun _ => trivial | exact fun _ => ⟨_, rfl⟩ | exact fun _ => ⟨_, rfl, rfl⟩ | exact yet_done (by decide +kernel)) ?_
    try dsimp only [List.set_cons_zero, List.set_cons_succ, List.cons_append, List.nil_append, List.take_succ_cons, List.take_zero, List.drop_succ_cons, List.drop_zero, AV.cells, List.length_nil, List.length_cons, Av.put, Nat.reduceAdd, AV.up, AV.up1, List.map_cons, List.map_nil]
    repeat (first | refine then_nrm ?_ | refine blk_nrm ?_ | refine then_brk ?_ | refine blk_hit ?_ | refine blk_miss rfl ?_ | refine then_ret ?_ | refine blk_ret ?_ | refine aw_seq ?_ | refine aw_block ?_ | refine aw_skip ?_ | refine aw_exit ?_ | refine aw_ret ?_)
    refine aw_cond rfl (fun hc => ?_) (fun hc => ?_)
    · repeat (first | refine then_nrm ?_ | refine blk_nrm ?_ | refine then_brk ?_ | refine blk_hit ?_ | refine blk_miss rfl ?_ | refine then_ret ?_ | refine blk_ret ?_ | refine aw_seq ?_ | refine aw_block ?_ | refine aw_skip ?_ | refine aw_exit ?_ | refine aw_ret ?_)
      refine aw_region ?_
      refine ao1 (by decide) (o_assign (v := .bool _) rfl) ?_
      refine ao_nil ?_
      try dsimp only [List.set_cons_zero, List.set_cons_succ, List.cons_append, List.nil_append, List.take_succ_cons, List.take_zero, List.drop_succ_cons, List.drop_zero, AV.cells, List.length_nil, List.length_cons, Av.put, Nat.reduceAdd, AV.up, AV.up1, List.map_cons, List.map_nil]
      repeat (first | refine then_nrm ?_ | refine blk_nrm ?_ | refine then_brk ?_ | refine blk_hit ?_ | refine blk_miss rfl ?_ | refine then_ret ?_ | refine blk_ret ?_ | refine aw_seq ?_ | refine aw_block ?_ | refine aw_skip ?_ | refine aw_exit ?_ | refine aw_ret ?_)
      rw [show decide (a = b) = false by simp at hc; simpa using ne_at hx hy hc]
      exact e_done hB (r_tmp rfl .nil) rfl rfl
    · have : x = y := by simpa using hc
      subst this
      repeat (first | refine then_nrm ?_ | refine blk_nrm ?_ | refine then_brk ?_ | refine blk_hit ?_ | refine blk_miss rfl ?_ | refine then_ret ?_ | refine blk_ret ?_ | refine aw_seq ?_ | refine aw_block ?_ | refine aw_skip ?_ | refine aw_exit ?_ | refine aw_ret ?_)
      refine aw_region ?_
      refine ao1 (by decide) (o_move (v := .int _ _) rfl) ?_
      first | refine ao1 (by decide) (o_add rfl rfl (wrap64_ok (by omega) (by omega))) ?_ | refine ao1 (by decide) (o_add rfl rfl rfl) ?_
      refine ao1 (by decide) (o_assign (v := .int _ _) rfl) ?_
      refine ao_nil ?_
      try dsimp only [List.set_cons_zero, List.set_cons_succ, List.cons_append, List.nil_append, List.take_succ_cons, List.take_zero, List.drop_succ_cons, List.drop_zero, AV.cells, List.length_nil, List.length_cons, Av.put, Nat.reduceAdd, AV.up, AV.up1, List.map_cons, List.map_nil]
      repeat (first | refine then_nrm ?_ | refine blk_nrm ?_ | refine then_brk ?_ | refine blk_hit ?_ | refine blk_miss rfl ?_ | refine then_ret ?_ | refine blk_ret ?_ | refine aw_seq ?_ | refine aw_block ?_ | refine aw_skip ?_ | refine aw_exit ?_ | refine aw_ret ?_)
      exact ⟨k + 1, by omega, ⟨by omega, eq_step hx hy hno⟩, (by repeat (first | exact Sub.nil | refine Sub.cons (by first | rfl | (simp [get]; done)) ?_)), .refl _ _⟩
  · have : k = a.length := by simp at hc; omega
    subst this
    rw [show decide (a = b) = true by simpa using eq_done hn hno]
    repeat (first | refine then_nrm ?_ | refine blk_nrm ?_ | refine then_brk ?_ | refine blk_hit ?_ | refine blk_miss rfl ?_ | refine then_ret ?_ | refine blk_ret ?_ | refine aw_seq ?_ | refine aw_block ?_ | refine aw_skip ?_ | refine aw_exit ?_ | refine aw_ret ?_)
    refine aw_region ?_
    refine ao1 (by decide) (o_assign (v := .bool _) rfl) ?_
    refine ao_nil ?_
    try dsimp only [List.set_cons_zero, List.set_cons_succ, List.cons_append, List.nil_append, List.take_succ_cons, List.take_zero, List.drop_succ_cons, List.drop_zero, AV.cells, List.length_nil, List.length_cons, Av.put, Nat.reduceAdd, AV.up, AV.up1, List.map_cons, List.map_nil]
    repeat (first | refine then_nrm ?_ | refine blk_nrm ?_ | refine then_brk ?_ | refine blk_hit ?_ | refine blk_miss rfl ?_ | refine then_ret ?_ | refine blk_ret ?_ | refine aw_seq ?_ | refine aw_block ?_ | refine aw_skip ?_ | refine aw_exit ?_ | refine aw_ret ?_)
    exact e_done hB (r_tmp rfl .nil) rfl rfl

abbrev eInt (i : Int) : List AV := [.int .i64 i]
theorem ref01_Same (a b : List Int) (H : Heap) (ha : a.length ≤ 1000000000) : AC Try.prog 22 [.pl (a.map eInt), .pl (b.map eInt)] H (Ret (.bool (decide (a = b))) H) := by
  refine AC.body (N := 26) [.tmp 4] Try.func22 rfl rfl rfl (Nat.le_of_ble_eq_true rfl) fun B hB => ?_
  repeat (first | refine then_nrm ?_ | refine blk_nrm ?_ | refine then_brk ?_ | refine blk_hit ?_ | refine blk_miss rfl ?_ | refine then_ret ?_ | refine blk_ret ?_ | refine aw_seq ?_ | refine aw_block ?_ | refine aw_skip ?_ | refine aw_exit ?_ | refine aw_ret ?_)
  refine aw_region ?_
  refine ao1 (by decide) (o_assign (v := .bool _) rfl) ?_
  refine ao_nil ?_
  try dsimp only [List.set_cons_zero, List.set_cons_succ, List.cons_append, List.nil_append, List.take_succ_cons, List.take_zero, List.drop_succ_cons, List.drop_zero, AV.cells, List.length_nil, List.length_cons, Av.put, Nat.reduceAdd, AV.up, AV.up1, List.map_cons, List.map_nil]
  repeat (first | refine then_nrm ?_ | refine blk_nrm ?_ | refine then_brk ?_ | refine blk_hit ?_ | refine blk_miss rfl ?_ | refine then_ret ?_ | refine blk_ret ?_ | refine aw_seq ?_ | refine aw_block ?_ | refine aw_skip ?_ | refine aw_exit ?_ | refine aw_ret ?_)
  refine aw_region ?_
  first | refine ao1 (by decide) (o_move (v := .sl _ _ _ _ _) rfl) ?_ | refine ao1 (by decide) (o_move (v := .pl _) rfl) ?_ | refine ao1 (by decide) (o_move (v := .nsl) rfl) ?_
  first | refine ao1 (by decide) (o_lenp rfl) ?_ | refine ao1 (by decide) (w_lens rfl (lk rfl rfl) rfl) ?_ | refine ao1 (by decide) (o_lenn rfl) ?_ | refine ao1 (by decide) (o_lenStr rfl) ?_ | refine ao1 (by decide) (w_lens rfl (lkF hF) rfl) ?_
  first | refine ao1 (by decide) (o_move (v := .sl _ _ _ _ _) rfl) ?_ | refine ao1 (by decide) (o_move (v := .pl _) rfl) ?_ | refine ao1 (by decide) (o_move (v := .nsl) rfl) ?_
  first | refine ao1 (by decide) (o_lenp rfl) ?_ | refine ao1 (by decide) (w_lens rfl (lk rfl rfl) rfl) ?_ | refine ao1 (by decide) (o_lenn rfl) ?_ | refine ao1 (by decide) (o_lenStr rfl) ?_ | refine ao1 (by decide) (w_lens rfl (lkF hF) rfl) ?_
  refine ao1 (by decide) (o_ne rfl rfl) ?_
  refine ao_nil ?_
  try dsimp only [List.set_cons_zero, List.set_cons_succ, List.cons_append, List.nil_append, List.take_succ_cons, List.take_zero, List.drop_succ_cons, List.drop_zero, AV.cells, List.length_nil, List.length_cons, Av.put, Nat.reduceAdd, AV.up, AV.up1, List.map_cons, List.map_nil]
  repeat (first | refine then_nrm ?_ | refine blk_nrm ?_ | refine then_brk ?_ | refine blk_hit ?_ | refine blk_miss rfl ?_ | refine then_ret ?_ | refine blk_ret ?_ | refine aw_seq ?_ | refine aw_block ?_ | refine aw_skip ?_ | refine aw_exit ?_ | refine aw_ret ?_)
  refine aw_cond rfl (fun hc => ?_) (fun hc => ?_)
  · repeat (first | refine then_nrm ?_ | refine blk_nrm ?_ | refine then_brk ?_ | refine blk_hit ?_ | refine blk_miss rfl ?_ | refine then_ret ?_ | refine blk_ret ?_ | refine aw_seq ?_ | refine aw_block ?_ | refine aw_skip ?_ | refine aw_exit ?_ | refine aw_ret ?_)
    refine aw_region ?_
    refine ao1 (by decide) (o_assign (v := .bool _) rfl) ?_
    refine ao_nil ?_
    try dsimp only [List.set_cons_zero, List.set_cons_succ, List.cons_append, List.nil_append, List.take_succ_cons, List.take_zero, List.drop_succ_cons, List.drop_zero, AV.cells, List.length_nil, List.length_cons, Av.put, Nat.reduceAdd, AV.up, AV.up1, List.map_cons, List.map_nil]
    repeat (first | refine then_nrm ?_ | refine blk_nrm ?_ | refine then_brk ?_ | refine blk_hit ?_ | refine blk_miss rfl ?_ | refine then_ret ?_ | refine blk_ret ?_ | refine aw_seq ?_ | refine aw_block ?_ | refine aw_skip ?_ | refine aw_exit ?_ | refine aw_ret ?_)
    rw [show decide (a = b) = false by simp at hc; simp; rintro rfl; exact hc rfl]
    exact e_done hB (r_tmp rfl .nil) rfl rfl
  have hn : a.length = b.length := by simp at hc; omega
  repeat (first | refine then_nrm ?_ | refine blk_nrm ?_ | refine then_brk ?_ | refine blk_hit ?_ | refine blk_miss rfl ?_ | refine then_ret ?_ | refine blk_ret ?_ | refine aw_seq ?_ | refine aw_block ?_ | refine aw_skip ?_ | refine aw_exit ?_ | refine aw_ret ?_)
  refine aw_region ?_
  refine ao1 (by decide) (o_assign (v := .int _ _) rfl) ?_
  refine ao_nil ?_
  try dsimp only [List.set_cons_zero, List.set_cons_succ, List.cons_append, List.nil_append, List.take_succ_cons, List.take_zero, List.drop_succ_cons, List.drop_zero, AV.cells, List.length_nil, List.length_cons, Av.put, Nat.reduceAdd, AV.up, AV.up1, List.map_cons, List.map_nil]
  repeat (first | refine then_nrm ?_ | refine blk_nrm ?_ | refine then_brk ?_ | refine blk_hit ?_ | refine blk_miss rfl ?_ | refine then_ret ?_ | refine blk_ret ?_ | refine aw_seq ?_ | refine aw_block ?_ | refine aw_skip ?_ | refine aw_exit ?_)
  refine aw_loop (G := Nat) (fun k => k ≤ a.length ∧ a.take k = b.take k) (fun k => [(0, .pl (a.map eInt)), (1, .pl (b.map eInt)), (5, .int .i64 (k : Int))]) (fun _ => H ++ []) (fun k => a.length - k) 0 ⟨Nat.zero_le _, by simp⟩ (by repeat (first | exact Sub.nil | refine Sub.cons (by first | rfl | (simp [get]; done)) ?_)) (Fit.refl _ _) ?_
  rintro k ⟨hk, hno⟩
  repeat (first | refine then_nrm ?_ | refine blk_nrm ?_ | refine then_brk ?_ | refine blk_hit ?_ | refine blk_miss rfl ?_ | refine then_ret ?_ | refine blk_ret ?_ | refine aw_seq ?_ | refine aw_block ?_ | refine aw_skip ?_ | refine aw_exit ?_ | refine aw_ret ?_)
  refine aw_region ?_
  refine ao1 (by decide) (o_move (v := .int _ _) rfl) ?_
  first | refine ao1 (by decide) (o_move (v := .sl _ _ _ _ _) rfl) ?_ | refine ao1 (by decide) (o_move (v := .pl _) rfl) ?_ | refine ao1 (by decide) (o_move (v := .nsl) rfl) ?_
  first | refine ao1 (by decide) (o_lenp rfl) ?_ | refine ao1 (by decide) (w_lens rfl (lk rfl rfl) rfl) ?_ | refine ao1 (by decide) (o_lenn rfl) ?_ | refine ao1 (by decide) (o_lenStr rfl) ?_ | refine ao1 (by decide) (w_lens rfl (lkF hF) rfl) ?_
  refine ao1 (by decide) (o_lt rfl rfl) ?_
  refine ao_nil ?_
  try dsimp only [List.set_cons_zero, List.set_cons_succ, List.cons_append, List.nil_append, List.take_succ_cons, List.take_zero, List.drop_succ_cons, List.drop_zero, AV.cells, List.length_nil, List.length_cons, Av.put, Nat.reduceAdd, AV.up, AV.up1, List.map_cons, List.map_nil]
  repeat (first | refine then_nrm ?_ | refine blk_nrm ?_ | refine then_brk ?_ | refine blk_hit ?_ | refine blk_miss rfl ?_ | refine then_ret ?_ | refine blk_ret ?_ | refine aw_seq ?_ | refine aw_block ?_ | refine aw_skip ?_ | refine aw_exit ?_ | refine aw_ret ?_)
  refine aw_cond rfl (fun hc => ?_) (fun hc => ?_)
  · have hlt : k < a.length := by simpa using hc
    obtain ⟨x, hx, hxl⟩ := get_in hlt
    obtain ⟨y, hy, hyl⟩ := get_in (l := b) (show k < b.length by omega)
    have hr := map_get eInt hx
    have hr1 := map_get eInt hy
    repeat (first | refine then_nrm ?_ | refine blk_nrm ?_ | refine then_brk ?_ | refine blk_hit ?_ | refine blk_miss rfl ?_ | refine then_ret ?_ | refine blk_ret ?_ | refine aw_seq ?_ | refine aw_block ?_ | refine aw_skip ?_ | refine aw_exit ?_ | refine aw_ret ?_)
    refine aw_drawP mixed none 999 ?_
    try dsimp only [List.take_succ_cons, List.take_zero, List.take_nil, List.set_cons_zero, List.set_cons_succ, List.cons_append, List.nil_append]
    first | refine aq0 0 rfl (by decide +kernel) (by decide) (fun _ => o_move (v := .sl _ _ _ _ _) rfl) ?_ | refine aq0 0 rfl (by decide +kernel) (by decide) (fun _ => o_move (v := .pl _) rfl) ?_ | refine aq0 0 rfl (by decide +kernel) (by decide) (fun _ => o_move (v := .nsl) rfl) ?_
    refine aq0 1 rfl (by decide +kernel) (by decide) (fun _ => o_move (v := .int _ _) rfl) ?_
    first | refine aqp 2 rfl (by decide +kernel) (by decide) (fun G => w_indexAddrpN rfl rfl hr rfl) ?_ | refine aqp 2 rfl (by decide +kernel) (by decide) (fun G => w_indexAddrpN rfl rfl hr1 rfl) ?_ | refine aqp 2 rfl (by decide +kernel) (by decide) (fun G => w_indexAddrpN rfl rfl hr2 rfl) ?_ | refine aqp 2 rfl (by decide +kernel) (by decide) (fun G => w_indexAddrN rfl (lk rfl rfl) rfl rfl rfl (by omega)) ?_ | refine aqp 2 rfl (by decide +kernel) (by decide) (fun G => w_indexAddrp rfl rfl (by omega) hr rfl) ?_ | refine aqp 2 rfl (by decide +kernel) (by decide) (fun G => w_indexAddrp rfl rfl (by omega) hr1 rfl) ?_ | refine aqp 2 rfl (by decide +kernel) (by decide) (fun G => w_indexAddrp rfl rfl (by omega) hr2 rfl) ?_ | refine aqp 2 rfl (by decide +kernel) (by decide) (fun G => w_indexAddr rfl (lk rfl rfl) rfl rfl rfl (by omega) (by omega)) ?_
    first | refine aqp 3 rfl (by decide +kernel) (by decide) (fun G => w_load1 (v := .int _ _) rfl (lk rfl rfl) rfl rfl rfl) ?_ | refine aqp 3 rfl (by decide +kernel) (by decide) (fun G => w_load1 (v := .int _ _) rfl (lk rfl rfl) rfl (zadd hr) rfl) ?_ | refine aqp 3 rfl (by decide +kernel) (by decide) (fun G => w_load1 (v := .int _ _) rfl (lk rfl rfl) rfl (zadd hr1) rfl) ?_ | refine aqp 3 rfl (by decide +kernel) (by decide) (fun G => w_load1 (v := .int _ _) rfl (lk rfl rfl) rfl (zadd hr2) rfl) ?_ | refine aqp 3 rfl (by decide +kernel) (by decide) (fun G => o_load1p (v := .int _ _) rfl hr rfl) ?_ | refine aqp 3 rfl (by decide +kernel) (by decide) (fun G => o_load1p (v := .int _ _) rfl hr1 rfl) ?_ | refine aqp 3 rfl (by decide +kernel) (by decide) (fun G => o_load1p (v := .int _ _) rfl hr2 rfl) ?_ | refine aqp 3 rfl (by decide +kernel) (by decide) (fun G => w_load1 (v := .int _ _) rfl (lkF hF) rfl rfl rfl) ?_
    first | refine aq0 4 rfl (by decide +kernel) (by decide) (fun _ => o_move (v := .sl _ _ _ _ _) rfl) ?_ | refine aq0 4 rfl (by decide +kernel) (by decide) (fun _ => o_move (v := .pl _) rfl) ?_ | refine aq0 4 rfl (by decide +kernel) (by decide) (fun _ => o_move (v := .nsl) rfl) ?_
    refine aq0 5 rfl (by decide +kernel) (by decide) (fun _ => o_move (v := .int _ _) rfl) ?_
    first | refine aqp 6 rfl (by decide +kernel) (by decide) (fun G => w_indexAddrpN rfl rfl hr rfl) ?_ | refine aqp 6 rfl (by decide +kernel) (by decide) (fun G => w_indexAddrpN rfl rfl hr1 rfl) ?_ | refine aqp 6 rfl (by decide +kernel) (by decide) (fun G => w_indexAddrpN rfl rfl hr2 rfl) ?_ | refine aqp 6 rfl (by decide +kernel) (by decide) (fun G => w_indexAddrN rfl (lk rfl rfl) rfl rfl rfl (by omega)) ?_ | refine aqp 6 rfl (by decide +kernel) (by decide) (fun G => w_indexAddrp rfl rfl (by omega) hr rfl) ?_ | refine aqp 6 rfl (by decide +kernel) (by decide) (fun G => w_indexAddrp rfl rfl (by omega) hr1 rfl) ?_ | refine aqp 6 rfl (by decide +kernel) (by decide) (fun G => w_indexAddrp rfl rfl (by omega) hr2 rfl) ?_ | refine aqp 6 rfl (by decide +kernel) (by decide) (fun G => w_indexAddr rfl (lk rfl rfl) rfl rfl rfl (by omega) (by omega)) ?_
    first | refine aqp 7 rfl (by decide +kernel) (by decide) (fun G => w_load1 (v := .int _ _) rfl (lk rfl rfl) rfl rfl rfl) ?_ | refine aqp 7 rfl (by decide +kernel) (by decide) (fun G => w_load1 (v := .int _ _) rfl (lk rfl rfl) rfl (zadd hr) rfl) ?_ | refine aqp 7 rfl (by decide +kernel) (by decide) (fun G => w_load1 (v := .int _ _) rfl (lk rfl rfl) rfl (zadd hr1) rfl) ?_ | refine aqp 7 rfl (by decide +kernel) (by decide) (fun G => w_load1 (v := .int _ _) rfl (lk rfl rfl) rfl (zadd hr2) rfl) ?_ | refine aqp 7 rfl (by decide +kernel) (by decide) (fun G => o_load1p (v := .int _ _) rfl hr rfl) ?_ | refine aqp 7 rfl (by decide +kernel) (by decide) (fun G => o_load1p (v := .int _ _) rfl hr1 rfl) ?_ | refine aqp 7 rfl (by decide +kernel) (by decide) (fun G => o_load1p (v := .int _ _) rfl hr2 rfl) ?_ | refine aqp 7 rfl (by decide +kernel) (by decide) (fun G => w_load1 (v := .int _ _) rfl (lkF hF) rfl rfl rfl) ?_
    refine aq0 8 rfl (by decide +kernel) (by decide) (fun _ => o_ne rfl rfl) ?_
    refine aa_done (by decide +kernel) (by first | exact fun _ => trivial | exact fun _ => ⟨_, rfl⟩ | exact fun _ => ⟨_, rfl, rfl⟩ | exact yet_done (by decide +kernel)) ?_
    try dsimp only [List.set_cons_zero, List.set_cons_succ, List.cons_append, List.nil_append, List.take_succ_cons, List.take_zero, List.drop_succ_cons, List.drop_zero, AV.cells, List.length_nil, List.length_cons, Av.put, Nat.reduceAdd, AV.up, AV.up1, List.map_cons, List.map_nil]
    repeat (first | refine then_nrm ?_ | refine blk_nrm ?_ | refine then_brk ?_ | refine blk_hit ?_ | refine blk_miss rfl ?_ | refine then_ret ?_ | refine blk_ret ?_ | refine aw_seq ?_ | refine aw_block ?_ | refine aw_skip ?_ | refine aw_exit ?_ | refine aw_ret ?_)
    refine aw_cond rfl (fun hc => ?_) (fun hc => ?_)
    · repeat (first | refine then_nrm ?_ | refine blk_nrm ?_ | refine then_brk ?_ | refine blk_hit ?_ | refine blk_miss rfl ?_ | refine then_ret ?_ | refine blk_ret ?_ | refine aw_seq ?_ | refine aw_block ?_ | refine aw_skip ?_ | refine aw_exit ?_ | refine aw_ret ?_)
      refine aw_region ?_
      refine ao1 (by decide) (o_assign (v := .bool _) rfl) ?_
      refine ao_nil ?_
      try dsimp only [List.set_cons_zero, List.set_cons_succ, List.cons_append, List.nil_append, List.take_succ_cons, List.take_zero, List.drop_succ_cons, List.drop_zero, AV.cells, List.length_nil, List.length_cons, Av.put, Nat.reduceAdd, AV.up, AV.up1, List.map_cons, List.map_nil]
      repeat (first | refine then_nrm ?_ | refine blk_nrm ?_ | refine then_brk ?_ | refine blk_hit ?_ | refine blk_miss rfl ?_ | refine then_ret ?_ | refine blk_ret ?_ | refine aw_seq ?_ | refine aw_block ?_ | refine aw_skip ?_ | refine aw_exit ?_ | refine aw_ret ?_)
      rw [show decide (a = b) = false by simp at hc; simpa using ne_at hx hy hc]
      exact e_done hB (r_tmp rfl .nil) rfl rfl
    · have : x = y := by simpa using hc
      subst this
      repeat (first | refine then_nrm ?_ | refine blk_nrm ?_ | refine then_brk ?_ | refine blk_hit ?_ | refine blk_miss rfl ?_ | refine then_ret ?_ | refine blk_ret ?_ | refine aw_seq ?_ | refine aw_block ?_ | refine aw_skip ?_ | refine aw_exit ?_ | refine aw_ret ?_)
      refine aw_region ?_
      refine ao1 (by decide) (o_move (v := .int _ _) rfl) ?_
      first | refine ao1 (by decide) (o_add rfl rfl (wrap64_ok (by omega) (by omega))) ?_ | refine ao1 (by decide) (o_add rfl rfl rfl) ?_
      refine ao1 (by decide) (o_assign (v := .int _ _) rfl) ?_
      refine ao_nil ?_
      try dsimp only [List.set_cons_zero, List.set_cons_succ, List.cons_append, List.nil_append, List.take_succ_cons, List.take_zero, List.drop_succ_cons, List.drop_zero, AV.cells, List.length_nil, List.length_cons, Av.put, Nat.reduceAdd, AV.up, AV.up1, List.map_cons, List.map_nil]
      repeat (first | refine then_nrm ?_ | refine blk_nrm ?_ | refine then_brk ?_ | refine blk_hit ?_ | refine blk_miss rfl ?_ | refine then_ret ?_ | refine blk_ret ?_ | refine aw_seq ?_ | refine aw_block ?_ | refine aw_skip ?_ | refine aw_exit ?_ | refine aw_ret ?_)
      exact ⟨k + 1, by omega, ⟨by omega, eq_step hx hy hno⟩, (by repeat (first | exact Sub.nil | refine Sub.cons (by first | rfl | (simp [get]; done)) ?_)), .refl _ _⟩
  · have : k = a.length := by simp at hc; omega
    subst this
    rw [show decide (a = b) = true by simpa using eq_done hn hno]
    repeat (first | refine then_nrm ?_ | refine blk_nrm ?_ | refine then_brk ?_ | refine blk_hit ?_ | refine blk_miss rfl ?_ | refine then_ret ?_ | refine blk_ret ?_ | refine aw_seq ?_ | refine aw_block ?_ | refine aw_skip ?_ | refine aw_exit ?_ | refine aw_ret ?_)
    refine aw_region ?_
    refine ao1 (by decide) (o_assign (v := .bool _) rfl) ?_
    refine ao_nil ?_
    try dsimp only [List.set_cons_zero, List.set_cons_succ, List.cons_append, List.nil_append, List.take_succ_cons, List.take_zero, List.drop_succ_cons, List.drop_zero, AV.cells, List.length_nil, List.length_cons, Av.put, Nat.reduceAdd, AV.up, AV.up1, List.map_cons, List.map_nil]
    repeat (first | refine then_nrm ?_ | refine blk_nrm ?_ | refine then_brk ?_ | refine blk_hit ?_ | refine blk_miss rfl ?_ | refine then_ret ?_ | refine blk_ret ?_ | refine aw_seq ?_ | refine aw_block ?_ | refine aw_skip ?_ | refine aw_exit ?_ | refine aw_ret ?_)
    exact e_done hB (r_tmp rfl .nil) rfl rfl

theorem ref18_Put (l : List Way) (to : Int) (x : Packet) (H : Heap) (hl : l.length ≤ 1000000) :
    AC Try.prog 13 [.pl (l.map eWay), .int .i64 to, .agg (ePacket x)] H (Ret (.tup [.pl ((bPut l to x).1.map eWay), .int .i64 (bPut l to x).2]) H) := by
  refine AC.body (N := 37) [.tmp 6, .tmp 7] Try.func13 rfl rfl rfl (Nat.le_of_ble_eq_true rfl) fun B hB => ?_
  repeat (first | refine then_nrm ?_ | refine blk_nrm ?_ | refine then_brk ?_ | refine blk_hit ?_ | refine blk_miss rfl ?_ | refine then_ret ?_ | refine blk_ret ?_ | refine aw_seq ?_ | refine aw_block ?_ | refine aw_skip ?_ | refine aw_exit ?_ | refine aw_ret ?_)
  refine aw_region ?_
  refine ao2 (by rintro _ ⟨⟩; decide) (o_boxL (sz := 4) (v := .agg _) rfl rfl rfl rfl (by decide) rfl) ?_
  first | refine ao1 (by decide) (o_assign (v := .sl _ _ _ _ _) rfl) ?_ | refine ao1 (by decide) (o_assign (v := .pl _) rfl) ?_ | refine ao1 (by decide) (o_assign (v := .nsl) rfl) ?_
  refine ao1 (by decide) (o_assign (v := .int _ _) rfl) ?_
  refine ao_nil ?_
  try dsimp only [List.set_cons_zero, List.set_cons_succ, List.cons_append, List.nil_append, List.take_succ_cons, List.take_zero, List.drop_succ_cons, List.drop_zero, AV.cells, List.length_nil, List.length_cons, Av.put, Nat.reduceAdd, AV.up, AV.up1, List.map_cons, List.map_nil]
  repeat (first | refine then_nrm ?_ | refine blk_nrm ?_ | refine then_brk ?_ | refine blk_hit ?_ | refine blk_miss rfl ?_ | refine then_ret ?_ | refine blk_ret ?_ | refine aw_seq ?_ | refine aw_block ?_ | refine aw_skip ?_ | refine aw_exit ?_ | refine aw_ret ?_)
  refine aw_out 23 (.bool (!bright l || !may ⟨to, x⟩)) ?_ ?_
  · first | refine ao1 (by decide) (o_move (v := .sl _ _ _ _ _) rfl) ?_ | refine ao1 (by decide) (o_move (v := .pl _) rfl) ?_ | refine ao1 (by decide) (o_move (v := .nsl) rfl) ?_
    refine ao_ret (ref18_Right _ _ (by assumption)) rfl (by decide) ?_
    refine ao1 (by decide) (o_not rfl) ?_
    refine ao1 (by decide) (o_move (v := .bool _) rfl) ?_
    refine ao_split rfl rfl (fun hg3 => ?_) (fun hg3 => ?_)
    · refine ao_nF rfl rfl (by decide) ?_
      refine ao_nF rfl rfl (by decide) ?_
      first | refine ao1 (by decide) (o_pick_t (v := .bool _) rfl rfl) ?_ | refine ao1 (by decide) (o_pick_f (v := .bool _) rfl rfl) ?_ | refine ao1 (by decide) (o_pick_b rfl rfl rfl) ?_
      refine ao1 (by decide) (o_move (v := .bool _) rfl) ?_
      refine ao_nF rfl rfl (by decide) ?_
      refine ao_nF rfl rfl (by decide) ?_
      first | refine ao1 (by decide) (o_pick_t (v := .bool _) rfl rfl) ?_ | refine ao1 (by decide) (o_pick_f (v := .bool _) rfl rfl) ?_ | refine ao1 (by decide) (o_pick_b rfl rfl rfl) ?_
      refine ao1 (by decide) (o_move (v := .bool _) rfl) ?_
      refine ao_nF rfl rfl (by decide) ?_
      refine ao_nF rfl rfl (by decide) ?_
      refine ao_nF rfl rfl (by decide) ?_
      first | refine ao1 (by decide) (o_pick_t (v := .bool _) rfl rfl) ?_ | refine ao1 (by decide) (o_pick_f (v := .bool _) rfl rfl) ?_ | refine ao1 (by decide) (o_pick_b rfl rfl rfl) ?_
      exact ao_nil (Out.mk (by first | rfl | (refine congrArg AV.bool ?_; simp only [may] at *; grind)) (by repeat (first | exact SubX.refl _ _ | refine SubX.at ?_ | refine SubX.put rfl ?_ | refine SubX.put_same rfl ?_)))
    · refine ao_y1 rfl rfl (by decide) (o_move (v := .int _ _) rfl) ?_
      refine ao_y1 rfl rfl (by decide) (o_lt rfl rfl) ?_
      first | refine ao1 (by decide) (o_pick_t (v := .bool _) rfl rfl) ?_ | refine ao1 (by decide) (o_pick_f (v := .bool _) rfl rfl) ?_ | refine ao1 (by decide) (o_pick_b rfl rfl rfl) ?_
      refine ao1 (by decide) (o_move (v := .bool _) rfl) ?_
      refine ao_split rfl rfl (fun hg7 => ?_) (fun hg7 => ?_)
      · refine ao_nF rfl rfl (by decide) ?_
        refine ao_nF rfl rfl (by decide) ?_
        first | refine ao1 (by decide) (o_pick_t (v := .bool _) rfl rfl) ?_ | refine ao1 (by decide) (o_pick_f (v := .bool _) rfl rfl) ?_ | refine ao1 (by decide) (o_pick_b rfl rfl rfl) ?_
        refine ao1 (by decide) (o_move (v := .bool _) rfl) ?_
        refine ao_nF rfl rfl (by decide) ?_
        refine ao_nF rfl rfl (by decide) ?_
        refine ao_nF rfl rfl (by decide) ?_
        first | refine ao1 (by decide) (o_pick_t (v := .bool _) rfl rfl) ?_ | refine ao1 (by decide) (o_pick_f (v := .bool _) rfl rfl) ?_ | refine ao1 (by decide) (o_pick_b rfl rfl rfl) ?_
        exact ao_nil (Out.mk (by first | rfl | (refine congrArg AV.bool ?_; simp only [may] at *; grind)) (by repeat (first | exact SubX.refl _ _ | refine SubX.at ?_ | refine SubX.put rfl ?_ | refine SubX.put_same rfl ?_)))
      · refine ao_y1 rfl rfl (by decide) (o_move (v := .int _ _) rfl) ?_
        refine ao_y1 rfl rfl (by decide) (o_gt rfl rfl) ?_
        first | refine ao1 (by decide) (o_pick_t (v := .bool _) rfl rfl) ?_ | refine ao1 (by decide) (o_pick_f (v := .bool _) rfl rfl) ?_ | refine ao1 (by decide) (o_pick_b rfl rfl rfl) ?_
        refine ao1 (by decide) (o_move (v := .bool _) rfl) ?_
        refine ao_split rfl rfl (fun hg11 => ?_) (fun hg11 => ?_)
        · refine ao_nF rfl rfl (by decide) ?_
          refine ao_nF rfl rfl (by decide) ?_
          refine ao_nF rfl rfl (by decide) ?_
          first | refine ao1 (by decide) (o_pick_t (v := .bool _) rfl rfl) ?_ | refine ao1 (by decide) (o_pick_f (v := .bool _) rfl rfl) ?_ | refine ao1 (by decide) (o_pick_b rfl rfl rfl) ?_
          exact ao_nil (Out.mk (by first | rfl | (refine congrArg AV.bool ?_; simp only [may] at *; grind)) (by repeat (first | exact SubX.refl _ _ | refine SubX.at ?_ | refine SubX.put rfl ?_ | refine SubX.put_same rfl ?_)))
        · first | refine ao_y1 rfl rfl (by decide) (w_loadR rfl (lk rfl rfl) rfl rfl rfl) ?_ | refine ao_y1 rfl rfl (by decide) (w_loadR rfl (lk rfl rfl) rfl (zadd hr) rfl) ?_ | refine ao_y1 rfl rfl (by decide) (w_loadR rfl (lk rfl rfl) rfl (zadd hr1) rfl) ?_ | refine ao_y1 rfl rfl (by decide) (w_loadR rfl (lk rfl rfl) rfl (zadd hr2) rfl) ?_ | refine ao_y1 rfl rfl (by decide) (w_loadRp rfl hr rfl) ?_ | refine ao_y1 rfl rfl (by decide) (w_loadRp rfl hr1 rfl) ?_ | refine ao_y1 rfl rfl (by decide) (w_loadRp rfl hr2 rfl) ?_ | refine ao_y1 rfl rfl (by decide) (w_loadN (cs := [_, _, _, _]) rfl (lk rfl rfl) rfl rfl rfl rfl) ?_ | refine ao_y1 rfl rfl (by decide) (o_loadNp (cs := [_, _, _, _]) rfl hr rfl rfl) ?_ | refine ao_y1 rfl rfl (by decide) (o_loadNp (cs := [_, _, _, _]) rfl hr1 rfl rfl) ?_ | refine ao_y1 rfl rfl (by decide) (o_loadNp (cs := [_, _, _, _]) rfl hr2 rfl rfl) ?_ | refine ao_y1 rfl rfl (by decide) (w_loadR rfl (lkF hF) rfl rfl rfl) ?_ | refine ao_y1 rfl rfl (by decide) (w_loadN (cs := [_, _, _, _]) rfl (lkF hF) rfl rfl rfl rfl) ?_
          refine ao_y rfl rfl (by decide) (V2.call (ref17_Fine x _) rfl) ?_
          refine ao_y1 rfl rfl (by decide) (o_not rfl) ?_
          first | refine ao1 (by decide) (o_pick_t (v := .bool _) rfl rfl) ?_ | refine ao1 (by decide) (o_pick_f (v := .bool _) rfl rfl) ?_ | refine ao1 (by decide) (o_pick_b rfl rfl rfl) ?_
          exact ao_nil (Out.mk (by first | rfl | (refine congrArg AV.bool ?_; simp only [may] at *; grind)) (by repeat (first | exact SubX.refl _ _ | refine SubX.at ?_ | refine SubX.put rfl ?_ | refine SubX.put_same rfl ?_)))
  repeat (first | refine then_nrm ?_ | refine blk_nrm ?_ | refine then_brk ?_ | refine blk_hit ?_ | refine blk_miss rfl ?_ | refine then_ret ?_ | refine blk_ret ?_ | refine aw_seq ?_ | refine aw_block ?_ | refine aw_skip ?_ | refine aw_exit ?_ | refine aw_ret ?_)
  refine aw_cond rfl (fun hc => ?_) (fun hc => ?_)
  · repeat (first | refine then_nrm ?_ | refine blk_nrm ?_ | refine then_brk ?_ | refine blk_hit ?_ | refine blk_miss rfl ?_ | refine then_ret ?_ | refine blk_ret ?_ | refine aw_seq ?_ | refine aw_block ?_ | refine aw_skip ?_ | refine aw_exit ?_ | refine aw_ret ?_)
    refine aw_region ?_
    first | refine ao1 (by decide) (o_move (v := .sl _ _ _ _ _) rfl) ?_ | refine ao1 (by decide) (o_move (v := .pl _) rfl) ?_ | refine ao1 (by decide) (o_move (v := .nsl) rfl) ?_
    first | refine ao1 (by decide) (o_assign (v := .sl _ _ _ _ _) rfl) ?_ | refine ao1 (by decide) (o_assign (v := .pl _) rfl) ?_ | refine ao1 (by decide) (o_assign (v := .nsl) rfl) ?_
    refine ao1 (by decide) (o_assign (v := .int _ _) rfl) ?_
    refine ao_nil ?_
    try dsimp only [List.set_cons_zero, List.set_cons_succ, List.cons_append, List.nil_append, List.take_succ_cons, List.take_zero, List.drop_succ_cons, List.drop_zero, AV.cells, List.length_nil, List.length_cons, Av.put, Nat.reduceAdd, AV.up, AV.up1, List.map_cons, List.map_nil]
    repeat (first | refine then_nrm ?_ | refine blk_nrm ?_ | refine then_brk ?_ | refine blk_hit ?_ | refine blk_miss rfl ?_ | refine then_ret ?_ | refine blk_ret ?_ | refine aw_seq ?_ | refine aw_block ?_ | refine aw_skip ?_ | refine aw_exit ?_ | refine aw_ret ?_)
    rw [show bPut l to x = (l, 1) by simp [bPut, hc]]
    exact e_done hB (r_tmp rfl (r_tmp rfl .nil)) rfl rfl
  have hc0 := hc
  have hbr : bright l = true := by simp at hc; exact hc.1
  have h256 : l.length ≤ 256 := by simp [bright] at hbr; omega
  repeat (first | refine then_nrm ?_ | refine blk_nrm ?_ | refine then_brk ?_ | refine blk_hit ?_ | refine blk_miss rfl ?_ | refine then_ret ?_ | refine blk_ret ?_ | refine aw_seq ?_ | refine aw_block ?_ | refine aw_skip ?_ | refine aw_exit ?_ | refine aw_ret ?_)
  refine aw_region ?_
  first | refine ao1 (by decide) (o_move (v := .sl _ _ _ _ _) rfl) ?_ | refine ao1 (by decide) (o_move (v := .pl _) rfl) ?_ | refine ao1 (by decide) (o_move (v := .nsl) rfl) ?_
  first | refine ao1 (by decide) (o_lenp rfl) ?_ | refine ao1 (by decide) (w_lens rfl (lk rfl rfl) rfl) ?_ | refine ao1 (by decide) (o_lenn rfl) ?_ | refine ao1 (by decide) (o_lenStr rfl) ?_ | refine ao1 (by decide) (w_lens rfl (lkF hF) rfl) ?_
  refine ao1 (by decide) (o_ge rfl rfl) ?_
  refine ao_nil ?_
  try dsimp only [List.set_cons_zero, List.set_cons_succ, List.cons_append, List.nil_append, List.take_succ_cons, List.take_zero, List.drop_succ_cons, List.drop_zero, AV.cells, List.length_nil, List.length_cons, Av.put, Nat.reduceAdd, AV.up, AV.up1, List.map_cons, List.map_nil]
  repeat (first | refine then_nrm ?_ | refine blk_nrm ?_ | refine then_brk ?_ | refine blk_hit ?_ | refine blk_miss rfl ?_ | refine then_ret ?_ | refine blk_ret ?_ | refine aw_seq ?_ | refine aw_block ?_ | refine aw_skip ?_ | refine aw_exit ?_ | refine aw_ret ?_)
  refine aw_cond rfl (fun hc => ?_) (fun hc => ?_)
  · repeat (first | refine then_nrm ?_ | refine blk_nrm ?_ | refine then_brk ?_ | refine blk_hit ?_ | refine blk_miss rfl ?_ | refine then_ret ?_ | refine blk_ret ?_ | refine aw_seq ?_ | refine aw_block ?_ | refine aw_skip ?_ | refine aw_exit ?_ | refine aw_ret ?_)
    refine aw_region ?_
    first | refine ao1 (by decide) (o_move (v := .sl _ _ _ _ _) rfl) ?_ | refine ao1 (by decide) (o_move (v := .pl _) rfl) ?_ | refine ao1 (by decide) (o_move (v := .nsl) rfl) ?_
    first | refine ao1 (by decide) (o_assign (v := .sl _ _ _ _ _) rfl) ?_ | refine ao1 (by decide) (o_assign (v := .pl _) rfl) ?_ | refine ao1 (by decide) (o_assign (v := .nsl) rfl) ?_
    refine ao1 (by decide) (o_assign (v := .int _ _) rfl) ?_
    refine ao_nil ?_
    try dsimp only [List.set_cons_zero, List.set_cons_succ, List.cons_append, List.nil_append, List.take_succ_cons, List.take_zero, List.drop_succ_cons, List.drop_zero, AV.cells, List.length_nil, List.length_cons, Av.put, Nat.reduceAdd, AV.up, AV.up1, List.map_cons, List.map_nil]
    repeat (first | refine then_nrm ?_ | refine blk_nrm ?_ | refine then_brk ?_ | refine blk_hit ?_ | refine blk_miss rfl ?_ | refine then_ret ?_ | refine blk_ret ?_ | refine aw_seq ?_ | refine aw_block ?_ | refine aw_skip ?_ | refine aw_exit ?_ | refine aw_ret ?_)
    rw [show bPut l to x = (l, 5) by simp at hc; simp [bPut, hc0]; omega]
    exact e_done hB (r_tmp rfl (r_tmp rfl .nil)) rfl rfl
  repeat (first | refine then_nrm ?_ | refine blk_nrm ?_ | refine then_brk ?_ | refine blk_hit ?_ | refine blk_miss rfl ?_ | refine then_ret ?_ | refine blk_ret ?_ | refine aw_seq ?_ | refine aw_block ?_ | refine aw_skip ?_ | refine aw_exit ?_ | refine aw_ret ?_)
  refine aw_drawP mixed none 999 ?_
  try dsimp only [List.take_succ_cons, List.take_zero, List.take_nil, List.set_cons_zero, List.set_cons_succ, List.cons_append, List.nil_append]
  refine aq02 0 rfl (by decide +kernel) (by decide) (fun _ => o_buildSlice0) ?_
  first | refine aq0 1 rfl (by decide +kernel) (by decide) (fun _ => o_move (v := .sl _ _ _ _ _) rfl) ?_ | refine aq0 1 rfl (by decide +kernel) (by decide) (fun _ => o_move (v := .pl _) rfl) ?_ | refine aq0 1 rfl (by decide +kernel) (by decide) (fun _ => o_move (v := .nsl) rfl) ?_
  refine aq0 3 rfl (by decide +kernel) (by decide) (fun _ => o_move (v := .int _ _) rfl) ?_
  first | refine aqp 4 rfl (by decide +kernel) (by decide) (fun G => w_loadR rfl (lk rfl rfl) rfl rfl rfl) ?_ | refine aqp 4 rfl (by decide +kernel) (by decide) (fun G => w_loadR rfl (lk rfl rfl) rfl (zadd hr) rfl) ?_ | refine aqp 4 rfl (by decide +kernel) (by decide) (fun G => w_loadR rfl (lk rfl rfl) rfl (zadd hr1) rfl) ?_ | refine aqp 4 rfl (by decide +kernel) (by decide) (fun G => w_loadR rfl (lk rfl rfl) rfl (zadd hr2) rfl) ?_ | refine aqp 4 rfl (by decide +kernel) (by decide) (fun G => w_loadRp rfl hr rfl) ?_ | refine aqp 4 rfl (by decide +kernel) (by decide) (fun G => w_loadRp rfl hr1 rfl) ?_ | refine aqp 4 rfl (by decide +kernel) (by decide) (fun G => w_loadRp rfl hr2 rfl) ?_ | refine aqp 4 rfl (by decide +kernel) (by decide) (fun G => w_loadN (cs := [_, _, _, _]) rfl (lk rfl rfl) rfl rfl rfl rfl) ?_ | refine aqp 4 rfl (by decide +kernel) (by decide) (fun G => o_loadNp (cs := [_, _, _, _]) rfl hr rfl rfl) ?_ | refine aqp 4 rfl (by decide +kernel) (by decide) (fun G => o_loadNp (cs := [_, _, _, _]) rfl hr1 rfl rfl) ?_ | refine aqp 4 rfl (by decide +kernel) (by decide) (fun G => o_loadNp (cs := [_, _, _, _]) rfl hr2 rfl rfl) ?_ | refine aqp 4 rfl (by decide +kernel) (by decide) (fun G => w_loadR rfl (lkF hF) rfl rfl rfl) ?_ | refine aqp 4 rfl (by decide +kernel) (by decide) (fun G => w_loadN (cs := [_, _, _, _]) rfl (lkF hF) rfl rfl rfl rfl) ?_
  refine aq0 5 rfl (by decide +kernel) (by decide) (fun _ => V1.up (o_build (cs := [.int _ _, .int _ _, .int _ _, .int _ _, _]) rfl)) ?_
  refine aq02 6 rfl (by decide +kernel) (by decide) (fun _ => g_lit1 (sz := 5) (v := .agg _) rfl (by decide) (by decide) rfl rfl rfl rfl rfl) ?_
  refine aqs 2 rfl (by decide +kernel) (by first | exact fun _ => trivial | exact fun _ => ⟨_, rfl⟩ | exact fun _ => ⟨_, rfl, rfl⟩ | exact yet_done (by decide +kernel)) (by rintro _ ⟨⟩; decide) (g_append_nsl rfl (Src.pl rfl (ways_len l)) rfl (by decide) (by simp; omega) (by simp; omega) rfl) ?_
  refine aqs 7 rfl (by decide +kernel) (by first | exact fun _ => trivial | exact fun _ => ⟨_, rfl⟩ | exact fun _ => ⟨_, rfl, rfl⟩ | exact yet_done (by decide +kernel)) (by rintro _ ⟨⟩; decide) (w_append rfl rfl rfl rfl rfl (Src.pl rfl (one_len rfl)) rfl (by simp) (by simp) (by simp; omega) (by simp; omega)) ?_
  first | refine aq0 8 rfl (by decide +kernel) (by decide) (fun _ => o_assign (v := .sl _ _ _ _ _) rfl) ?_ | refine aq0 8 rfl (by decide +kernel) (by decide) (fun _ => o_assign (v := .pl _) rfl) ?_ | refine aq0 8 rfl (by decide +kernel) (by decide) (fun _ => o_assign (v := .nsl) rfl) ?_
  refine aq0 9 rfl (by decide +kernel) (by decide) (fun _ => o_assign (v := .int _ _) rfl) ?_
  refine aa_done (by decide +kernel) (by first | exact fun _ => trivial | exact fun _ => ⟨_, rfl⟩ | exact fun _ => ⟨_, rfl, rfl⟩ | exact yet_done (by decide +kernel)) ?_
  try dsimp only [List.set_cons_zero, List.set_cons_succ, List.cons_append, List.nil_append, List.take_succ_cons, List.take_zero, List.drop_succ_cons, List.drop_zero, AV.cells, List.length_nil, List.length_cons, Av.put, Nat.reduceAdd, AV.up, AV.up1, List.map_cons, List.map_nil]
  repeat (first | refine then_nrm ?_ | refine blk_nrm ?_ | refine then_brk ?_ | refine blk_hit ?_ | refine blk_miss rfl ?_ | refine then_ret ?_ | refine blk_ret ?_ | refine aw_seq ?_ | refine aw_block ?_ | refine aw_skip ?_ | refine aw_exit ?_)
  refine aw_freezeL (ys := (l ++ [Way.mk to x]).map eWay) 6 rfl rfl rfl rfl (by simp only [List.map_append, List.map_cons, List.map_nil, List.drop_zero]; rw [List.take_of_length_le (by simp), List.take_of_length_le (by simp)]; rfl) (by simp) (ways_bel 0 _) ?_
  refine aw_ret ?_
  rw [show bPut l to x = (l ++ [⟨to, x⟩], 0) by simp at hc; simp [bPut, hc0]; omega]
  exact e_done hB (r_tmp rfl (r_tmp rfl .nil)) rfl rfl

theorem bthere_cases (l : List Way) (i : Int) : (bright l = false ∧ bthere l i = 1) ∨ (bright l = true ∧ (i < 0 ∨ (l.length : Int) ≤ i) ∧ bthere l i = 6) ∨ (bright l = true ∧ 0 ≤ i ∧ i < l.length ∧ bthere l i = 0) := by
  cases hb : bright l with
  | false => exact .inl ⟨rfl, by simp [bthere, hb]⟩
  | true =>
    by_cases h : i < 0 ∨ (l.length : Int) ≤ i
    · exact .inr (.inl ⟨rfl, h, by rw [bthere, hb, if_neg (by simp), if_pos h]⟩)
    · exact .inr (.inr ⟨rfl, by omega, by omega, by rw [bthere, hb, if_neg (by simp), if_neg h]⟩)
theorem bright_len {l : List Way} (h : bright l = true) : l.length ≤ 256 := by simp [bright] at h; omega

theorem ref18_Take (l : List Way) (i : Int) (H : Heap) (hl : l.length ≤ 1000000) :
    AC Try.prog 18 [.pl (l.map eWay), .int .i64 i] H (Ret (.tup [.pl ((bTake l i).1.map eWay), .agg (eWay (bTake l i).2.1), .int .i64 (bTake l i).2.2]) H) := by
  refine AC.body (N := 36) [.tmp 4, .cell 5 35, .tmp 6] Try.func18 rfl rfl rfl (Nat.le_of_ble_eq_true rfl) fun B hB => ?_
  repeat (first | refine then_nrm ?_ | refine blk_nrm ?_ | refine then_brk ?_ | refine blk_hit ?_ | refine blk_miss rfl ?_ | refine then_ret ?_ | refine blk_ret ?_ | refine aw_seq ?_ | refine aw_block ?_ | refine aw_skip ?_ | refine aw_exit ?_ | refine aw_ret ?_)
  refine aw_region ?_
  first | refine ao1 (by decide) (o_assign (v := .sl _ _ _ _ _) rfl) ?_ | refine ao1 (by decide) (o_assign (v := .pl _) rfl) ?_ | refine ao1 (by decide) (o_assign (v := .nsl) rfl) ?_
  refine ao2 (by rintro _ ⟨⟩; decide) (o_allocL (sz := 5) rfl (by decide) rfl) ?_
  refine ao1 (by decide) (o_assign (v := .int _ _) rfl) ?_
  refine ao_nil ?_
  try dsimp only [List.set_cons_zero, List.set_cons_succ, List.cons_append, List.nil_append, List.take_succ_cons, List.take_zero, List.drop_succ_cons, List.drop_zero, AV.cells, List.length_nil, List.length_cons, Av.put, Nat.reduceAdd, AV.up, AV.up1, List.map_cons, List.map_nil]
  repeat (first | refine then_nrm ?_ | refine blk_nrm ?_ | refine then_brk ?_ | refine blk_hit ?_ | refine blk_miss rfl ?_ | refine then_ret ?_ | refine blk_ret ?_ | refine aw_seq ?_ | refine aw_block ?_ | refine aw_skip ?_ | refine aw_exit ?_ | refine aw_ret ?_)
  refine aw_region ?_
  first | refine ao1 (by decide) (o_move (v := .sl _ _ _ _ _) rfl) ?_ | refine ao1 (by decide) (o_move (v := .pl _) rfl) ?_ | refine ao1 (by decide) (o_move (v := .nsl) rfl) ?_
  refine ao_ret (ref18_Right _ _ (by assumption)) rfl (by decide) ?_
  refine ao1 (by decide) (o_not rfl) ?_
  refine ao_nil ?_
  try dsimp only [List.set_cons_zero, List.set_cons_succ, List.cons_append, List.nil_append, List.take_succ_cons, List.take_zero, List.drop_succ_cons, List.drop_zero, AV.cells, List.length_nil, List.length_cons, Av.put, Nat.reduceAdd, AV.up, AV.up1, List.map_cons, List.map_nil]
  repeat (first | refine then_nrm ?_ | refine blk_nrm ?_ | refine then_brk ?_ | refine blk_hit ?_ | refine blk_miss rfl ?_ | refine then_ret ?_ | refine blk_ret ?_ | refine aw_seq ?_ | refine aw_block ?_ | refine aw_skip ?_ | refine aw_exit ?_ | refine aw_ret ?_)
  refine aw_cond rfl (fun hc => ?_) (fun hc => ?_)
  · repeat (first | refine then_nrm ?_ | refine blk_nrm ?_ | refine then_brk ?_ | refine blk_hit ?_ | refine blk_miss rfl ?_ | refine then_ret ?_ | refine blk_ret ?_ | refine aw_seq ?_ | refine aw_block ?_ | refine aw_skip ?_ | refine aw_exit ?_ | refine aw_ret ?_)
    refine aw_region ?_
    first | refine ao1 (by decide) (o_move (v := .sl _ _ _ _ _) rfl) ?_ | refine ao1 (by decide) (o_move (v := .pl _) rfl) ?_ | refine ao1 (by decide) (o_move (v := .nsl) rfl) ?_
    refine ao1 (by decide) (V1.up (o_build (cs := [.int _ _, .int _ _, .int _ _, .int _ _, _]) rfl)) ?_
    first | refine ao1 (by decide) (o_assign (v := .sl _ _ _ _ _) rfl) ?_ | refine ao1 (by decide) (o_assign (v := .pl _) rfl) ?_ | refine ao1 (by decide) (o_assign (v := .nsl) rfl) ?_
    first | refine ao2 (by rintro _ ⟨⟩) (w_storeP (sz := 5) (v := .agg _) (r' := _) rfl rfl rfl rfl rfl rfl rfl rfl (Nat.le_of_ble_eq_true rfl) rfl) ?_ | refine ao2 (by rintro _ ⟨⟩) (w_storeFP (sz := 5) (v := .agg _) (r' := [_, _, _, _, _]) rfl hF rfl rfl rfl rfl rfl (Nat.le_of_ble_eq_true rfl) rfl) ?_ | refine ao2 (by rintro _ ⟨⟩) (w_storeFP (sz := 5) (v := .agg _) (r' := [_, _, _, _, _]) rfl hF1 rfl rfl rfl rfl rfl (Nat.le_of_ble_eq_true rfl) rfl) ?_
    refine ao1 (by decide) (o_assign (v := .int _ _) rfl) ?_
    refine ao_nil ?_
    try dsimp only [List.set_cons_zero, List.set_cons_succ, List.cons_append, List.nil_append, List.take_succ_cons, List.take_zero, List.drop_succ_cons, List.drop_zero, AV.cells, List.length_nil, List.length_cons, Av.put, Nat.reduceAdd, AV.up, AV.up1, List.map_cons, List.map_nil]
    repeat (first | refine then_nrm ?_ | refine blk_nrm ?_ | refine then_brk ?_ | refine blk_hit ?_ | refine blk_miss rfl ?_ | refine then_ret ?_ | refine blk_ret ?_ | refine aw_seq ?_ | refine aw_block ?_ | refine aw_skip ?_ | refine aw_exit ?_ | refine aw_ret ?_)
    rw [show bTake l i = (l, way0, 1) by simp at hc; simp [bTake, bthere, hc]]
    exact e_done hB (r_tmp rfl (r_cellR rfl (lk rfl rfl) rfl rfl rfl (r_tmp rfl .nil))) rfl rfl
  have hbr : bright l = true := by simpa using hc
  have h256 := bright_len hbr
  repeat (first | refine then_nrm ?_ | refine blk_nrm ?_ | refine then_brk ?_ | refine blk_hit ?_ | refine blk_miss rfl ?_ | refine then_ret ?_ | refine blk_ret ?_ | refine aw_seq ?_ | refine aw_block ?_ | refine aw_skip ?_ | refine aw_exit ?_ | refine aw_ret ?_)
  refine aw_out 19 (.bool (decide (i < 0) || decide ((l.length : Int) ≤ i))) ?_ ?_
  · refine ao1 (by decide) (o_move (v := .int _ _) rfl) ?_
    refine ao1 (by decide) (o_lt rfl rfl) ?_
    refine ao1 (by decide) (o_move (v := .bool _) rfl) ?_
    refine ao_split rfl rfl (fun hg2 => ?_) (fun hg2 => ?_)
    · refine ao_nF rfl rfl (by decide) ?_
      refine ao_nF rfl rfl (by decide) ?_
      refine ao_nF rfl rfl (by decide) ?_
      refine ao_nF rfl rfl (by decide) ?_
      first | refine ao1 (by decide) (o_pick_t (v := .bool _) rfl rfl) ?_ | refine ao1 (by decide) (o_pick_f (v := .bool _) rfl rfl) ?_ | refine ao1 (by decide) (o_pick_b rfl rfl rfl) ?_
      exact ao_nil (Out.mk (by first | rfl | (refine congrArg AV.bool ?_; first | (refine Bool.eq_iff_iff.mpr ?_; simp only [Bool.and_eq_true, Bool.or_eq_true, Bool.not_eq_true', decide_eq_true_eq, decide_eq_false_iff_not, beq_iff_eq, bne_iff_ne, beq_eq_false_iff_ne, Bool.false_eq_true, Bool.true_eq_false, Bool.and_eq_false_iff, Bool.or_eq_false_iff, List.length_map, false_iff, true_iff, iff_true, iff_false] at *; omega) | (simp_all; done) | (simp_all; omega) | (simp_all; intros; omega) | (simp only [List.length_map] at *; simp_all; done) | (simp only [List.length_map] at *; simp_all; intros; omega) | grind)) (by repeat (first | exact SubX.refl _ _ | refine SubX.at ?_ | refine SubX.put rfl ?_ | refine SubX.put_same rfl ?_)))
    · refine ao_y1 rfl rfl (by decide) (o_move (v := .int _ _) rfl) ?_
      first | refine ao_y1 rfl rfl (by decide) (o_move (v := .sl _ _ _ _ _) rfl) ?_ | refine ao_y1 rfl rfl (by decide) (o_move (v := .pl _) rfl) ?_ | refine ao_y1 rfl rfl (by decide) (o_move (v := .nsl) rfl) ?_
      first | refine ao_y1 rfl rfl (by decide) (o_lenp rfl) ?_ | refine ao_y1 rfl rfl (by decide) (w_lens rfl (lk rfl rfl) rfl) ?_ | refine ao_y1 rfl rfl (by decide) (o_lenn rfl) ?_ | refine ao_y1 rfl rfl (by decide) (o_lenStr rfl) ?_ | refine ao_y1 rfl rfl (by decide) (w_lens rfl (lkF hF) rfl) ?_
      refine ao_y1 rfl rfl (by decide) (o_ge rfl rfl) ?_
      first | refine ao1 (by decide) (o_pick_t (v := .bool _) rfl rfl) ?_ | refine ao1 (by decide) (o_pick_f (v := .bool _) rfl rfl) ?_ | refine ao1 (by decide) (o_pick_b rfl rfl rfl) ?_
      exact ao_nil (Out.mk (by first | rfl | (refine congrArg AV.bool ?_; first | (refine Bool.eq_iff_iff.mpr ?_; simp only [Bool.and_eq_true, Bool.or_eq_true, Bool.not_eq_true', decide_eq_true_eq, decide_eq_false_iff_not, beq_iff_eq, bne_iff_ne, beq_eq_false_iff_ne, Bool.false_eq_true, Bool.true_eq_false, Bool.and_eq_false_iff, Bool.or_eq_false_iff, List.length_map, false_iff, true_iff, iff_true, iff_false] at *; omega) | (simp_all; done) | (simp_all; omega) | (simp_all; intros; omega) | (simp only [List.length_map] at *; simp_all; done) | (simp only [List.length_map] at *; simp_all; intros; omega) | grind)) (by repeat (first | exact SubX.refl _ _ | refine SubX.at ?_ | refine SubX.put rfl ?_ | refine SubX.put_same rfl ?_)))
  repeat (first | refine then_nrm ?_ | refine blk_nrm ?_ | refine then_brk ?_ | refine blk_hit ?_ | refine blk_miss rfl ?_ | refine then_ret ?_ | refine blk_ret ?_ | refine aw_seq ?_ | refine aw_block ?_ | refine aw_skip ?_ | refine aw_exit ?_ | refine aw_ret ?_)
  refine aw_cond rfl (fun hc => ?_) (fun hc => ?_)
  · repeat (first | refine then_nrm ?_ | refine blk_nrm ?_ | refine then_brk ?_ | refine blk_hit ?_ | refine blk_miss rfl ?_ | refine then_ret ?_ | refine blk_ret ?_ | refine aw_seq ?_ | refine aw_block ?_ | refine aw_skip ?_ | refine aw_exit ?_ | refine aw_ret ?_)
    refine aw_region ?_
    first | refine ao1 (by decide) (o_move (v := .sl _ _ _ _ _) rfl) ?_ | refine ao1 (by decide) (o_move (v := .pl _) rfl) ?_ | refine ao1 (by decide) (o_move (v := .nsl) rfl) ?_
    refine ao1 (by decide) (V1.up (o_build (cs := [.int _ _, .int _ _, .int _ _, .int _ _, _]) rfl)) ?_
    first | refine ao1 (by decide) (o_assign (v := .sl _ _ _ _ _) rfl) ?_ | refine ao1 (by decide) (o_assign (v := .pl _) rfl) ?_ | refine ao1 (by decide) (o_assign (v := .nsl) rfl) ?_
    first | refine ao2 (by rintro _ ⟨⟩) (w_storeP (sz := 5) (v := .agg _) (r' := _) rfl rfl rfl rfl rfl rfl rfl rfl (Nat.le_of_ble_eq_true rfl) rfl) ?_ | refine ao2 (by rintro _ ⟨⟩) (w_storeFP (sz := 5) (v := .agg _) (r' := [_, _, _, _, _]) rfl hF rfl rfl rfl rfl rfl (Nat.le_of_ble_eq_true rfl) rfl) ?_ | refine ao2 (by rintro _ ⟨⟩) (w_storeFP (sz := 5) (v := .agg _) (r' := [_, _, _, _, _]) rfl hF1 rfl rfl rfl rfl rfl (Nat.le_of_ble_eq_true rfl) rfl) ?_
    refine ao1 (by decide) (o_assign (v := .int _ _) rfl) ?_
    refine ao_nil ?_
    try dsimp only [List.set_cons_zero, List.set_cons_succ, List.cons_append, List.nil_append, List.take_succ_cons, List.take_zero, List.drop_succ_cons, List.drop_zero, AV.cells, List.length_nil, List.length_cons, Av.put, Nat.reduceAdd, AV.up, AV.up1, List.map_cons, List.map_nil]
    repeat (first | refine then_nrm ?_ | refine blk_nrm ?_ | refine then_brk ?_ | refine blk_hit ?_ | refine blk_miss rfl ?_ | refine then_ret ?_ | refine blk_ret ?_ | refine aw_seq ?_ | refine aw_block ?_ | refine aw_skip ?_ | refine aw_exit ?_ | refine aw_ret ?_)
    rw [show bTake l i = (l, way0, 6) by simp at hc; simp [bTake, bthere, hbr, hc]]
    exact e_done hB (r_tmp rfl (r_cellR rfl (lk rfl rfl) rfl rfl rfl (r_tmp rfl .nil))) rfl rfl
  simp at hc
  obtain ⟨k, rfl⟩ : ∃ k : Nat, i = k := ⟨i.toNat, by omega⟩
  have hk : k < l.length := by omega
  obtain ⟨x, hx, hxl⟩ := get_in hk
  have hr := map_get eWay hx
  repeat (first | refine then_nrm ?_ | refine blk_nrm ?_ | refine then_brk ?_ | refine blk_hit ?_ | refine blk_miss rfl ?_ | refine then_ret ?_ | refine blk_ret ?_ | refine aw_seq ?_ | refine aw_block ?_ | refine aw_skip ?_ | refine aw_exit ?_ | refine aw_ret ?_)
  refine aw_drawP mixed (some 15) 999 ?_
  try dsimp only [List.take_succ_cons, List.take_zero, List.take_nil, List.set_cons_zero, List.set_cons_succ, List.cons_append, List.nil_append]
  refine aq02 0 rfl (by decide +kernel) (by decide) (fun _ => o_buildSlice0) ?_
  first | refine aq0 1 rfl (by decide +kernel) (by decide) (fun _ => o_move (v := .sl _ _ _ _ _) rfl) ?_ | refine aq0 1 rfl (by decide +kernel) (by decide) (fun _ => o_move (v := .pl _) rfl) ?_ | refine aq0 1 rfl (by decide +kernel) (by decide) (fun _ => o_move (v := .nsl) rfl) ?_
  refine aq0 2 rfl (by decide +kernel) (by decide) (fun _ => o_move (v := .int _ _) rfl) ?_
  refine aq0 3 rfl (by decide +kernel) (by decide) (fun _ => o_slicep rfl .none (.some rfl rfl) (by omega) (by simp; omega) (ways_len l)) ?_
  first | refine aq0 5 rfl (by decide +kernel) (by decide) (fun _ => o_move (v := .sl _ _ _ _ _) rfl) ?_ | refine aq0 5 rfl (by decide +kernel) (by decide) (fun _ => o_move (v := .pl _) rfl) ?_ | refine aq0 5 rfl (by decide +kernel) (by decide) (fun _ => o_move (v := .nsl) rfl) ?_
  refine aq0 6 rfl (by decide +kernel) (by decide) (fun _ => o_move (v := .int _ _) rfl) ?_
  first | refine aq0 7 rfl (by decide +kernel) (by decide) (fun _ => o_add rfl rfl (wrap64_ok (by omega) (by omega))) ?_ | refine aq0 7 rfl (by decide +kernel) (by decide) (fun _ => o_add rfl rfl rfl) ?_
  refine aq0 8 rfl (by decide +kernel) (by decide) (fun _ => o_slicep (l := k + 1) rfl (.some rfl rfl) .none (by simp; omega) (by simp) (ways_len l)) ?_
  first | refine aq0 10 rfl (by decide +kernel) (by decide) (fun _ => o_move (v := .sl _ _ _ _ _) rfl) ?_ | refine aq0 10 rfl (by decide +kernel) (by decide) (fun _ => o_move (v := .pl _) rfl) ?_ | refine aq0 10 rfl (by decide +kernel) (by decide) (fun _ => o_move (v := .nsl) rfl) ?_
  refine aq0 11 rfl (by decide +kernel) (by decide) (fun _ => o_move (v := .int _ _) rfl) ?_
  first | refine aqp 12 rfl (by decide +kernel) (by decide) (fun G => w_indexAddrpN rfl rfl hr rfl) ?_ | refine aqp 12 rfl (by decide +kernel) (by decide) (fun G => w_indexAddrpN rfl rfl hr1 rfl) ?_ | refine aqp 12 rfl (by decide +kernel) (by decide) (fun G => w_indexAddrpN rfl rfl hr2 rfl) ?_ | refine aqp 12 rfl (by decide +kernel) (by decide) (fun G => w_indexAddrN rfl (lk rfl rfl) rfl rfl rfl (by omega)) ?_ | refine aqp 12 rfl (by decide +kernel) (by decide) (fun G => w_indexAddrp rfl rfl (by omega) hr rfl) ?_ | refine aqp 12 rfl (by decide +kernel) (by decide) (fun G => w_indexAddrp rfl rfl (by omega) hr1 rfl) ?_ | refine aqp 12 rfl (by decide +kernel) (by decide) (fun G => w_indexAddrp rfl rfl (by omega) hr2 rfl) ?_ | refine aqp 12 rfl (by decide +kernel) (by decide) (fun G => w_indexAddr rfl (lk rfl rfl) rfl rfl rfl (by omega) (by omega)) ?_
  first | refine aqp 13 rfl (by decide +kernel) (by decide) (fun G => w_loadR rfl (lk rfl rfl) rfl rfl rfl) ?_ | refine aqp 13 rfl (by decide +kernel) (by decide) (fun G => w_loadR rfl (lk rfl rfl) rfl (zadd hr) rfl) ?_ | refine aqp 13 rfl (by decide +kernel) (by decide) (fun G => w_loadR rfl (lk rfl rfl) rfl (zadd hr1) rfl) ?_ | refine aqp 13 rfl (by decide +kernel) (by decide) (fun G => w_loadR rfl (lk rfl rfl) rfl (zadd hr2) rfl) ?_ | refine aqp 13 rfl (by decide +kernel) (by decide) (fun G => w_loadRp rfl hr rfl) ?_ | refine aqp 13 rfl (by decide +kernel) (by decide) (fun G => w_loadRp rfl hr1 rfl) ?_ | refine aqp 13 rfl (by decide +kernel) (by decide) (fun G => w_loadRp rfl hr2 rfl) ?_ | refine aqp 13 rfl (by decide +kernel) (by decide) (fun G => w_loadN (cs := [_, _, _, _, _]) rfl (lk rfl rfl) rfl rfl rfl rfl) ?_ | refine aqp 13 rfl (by decide +kernel) (by decide) (fun G => o_loadNp (cs := [_, _, _, _, _]) rfl hr rfl rfl) ?_ | refine aqp 13 rfl (by decide +kernel) (by decide) (fun G => o_loadNp (cs := [_, _, _, _, _]) rfl hr1 rfl rfl) ?_ | refine aqp 13 rfl (by decide +kernel) (by decide) (fun G => o_loadNp (cs := [_, _, _, _, _]) rfl hr2 rfl rfl) ?_ | refine aqp 13 rfl (by decide +kernel) (by decide) (fun G => w_loadR rfl (lkF hF) rfl rfl rfl) ?_ | refine aqp 13 rfl (by decide +kernel) (by decide) (fun G => w_loadN (cs := [_, _, _, _, _]) rfl (lkF hF) rfl rfl rfl rfl) ?_
  refine aqs 4 rfl (by decide +kernel) (by first | exact fun _ => trivial | exact fun _ => ⟨_, rfl⟩ | exact fun _ => ⟨_, rfl, rfl⟩ | exact yet_done (by decide +kernel)) (by rintro _ ⟨⟩; decide) (g_append_nsl rfl (Src.pl rfl (fun r hr => ways_len l r (List.mem_of_mem_drop (List.mem_of_mem_take hr)))) rfl (by decide) (by simp; omega) (by simp; omega) rfl) ?_
  refine aqs 9 rfl (by decide +kernel) (by first | exact fun _ => trivial | exact fun _ => ⟨_, rfl⟩ | exact fun _ => ⟨_, rfl, rfl⟩ | exact yet_done (by decide +kernel)) (by rintro _ ⟨⟩; decide) (g_append rfl rfl rfl rfl rfl (Src.pl rfl (fun r hr => ways_len l r (List.mem_of_mem_drop (List.mem_of_mem_take hr)))) rfl (by simp) (by simp; omega) (by simp; omega)) ?_
  first | refine aq0 14 rfl (by decide +kernel) (by decide) (fun _ => o_assign (v := .sl _ _ _ _ _) rfl) ?_ | refine aq0 14 rfl (by decide +kernel) (by decide) (fun _ => o_assign (v := .pl _) rfl) ?_ | refine aq0 14 rfl (by decide +kernel) (by decide) (fun _ => o_assign (v := .nsl) rfl) ?_
  first | refine aqs 15 rfl (by decide +kernel) (by first | exact fun _ => trivial | exact fun _ => ⟨_, rfl⟩ | exact fun _ => ⟨_, rfl, rfl⟩ | exact yet_done (by decide +kernel)) (by rintro _ ⟨⟩) (w_storeP (sz := 5) (v := .agg _) (r' := _) rfl rfl rfl rfl rfl rfl rfl rfl (Nat.le_of_ble_eq_true rfl) rfl) ?_ | refine aqs 15 rfl (by decide +kernel) (by first | exact fun _ => trivial | exact fun _ => ⟨_, rfl⟩ | exact fun _ => ⟨_, rfl, rfl⟩ | exact yet_done (by decide +kernel)) (by rintro _ ⟨⟩) (w_storeFP (sz := 5) (v := .agg _) (r' := [_, _, _, _, _]) rfl hF rfl rfl rfl rfl rfl (Nat.le_of_ble_eq_true rfl) rfl) ?_ | refine aqs 15 rfl (by decide +kernel) (by first | exact fun _ => trivial | exact fun _ => ⟨_, rfl⟩ | exact fun _ => ⟨_, rfl, rfl⟩ | exact yet_done (by decide +kernel)) (by rintro _ ⟨⟩) (w_storeFP (sz := 5) (v := .agg _) (r' := [_, _, _, _, _]) rfl hF1 rfl rfl rfl rfl rfl (Nat.le_of_ble_eq_true rfl) rfl) ?_
  refine aq0 16 rfl (by decide +kernel) (by decide) (fun _ => o_assign (v := .int _ _) rfl) ?_
  refine aa_done (by decide +kernel) (by first | exact fun _ => trivial | exact fun _ => ⟨_, rfl⟩ | exact fun _ => ⟨_, rfl, rfl⟩ | exact yet_done (by decide +kernel)) ?_
  try dsimp only [List.set_cons_zero, List.set_cons_succ, List.cons_append, List.nil_append, List.take_succ_cons, List.take_zero, List.drop_succ_cons, List.drop_zero, AV.cells, List.length_nil, List.length_cons, Av.put, Nat.reduceAdd, AV.up, AV.up1, List.map_cons, List.map_nil]
  repeat (first | refine then_nrm ?_ | refine blk_nrm ?_ | refine then_brk ?_ | refine blk_hit ?_ | refine blk_miss rfl ?_ | refine then_ret ?_ | refine blk_ret ?_ | refine aw_seq ?_ | refine aw_block ?_ | refine aw_skip ?_ | refine aw_exit ?_)
  refine aw_freezeL (ys := (l.eraseIdx k).map eWay) 4 rfl rfl rfl rfl ?_ (by simp [List.length_eraseIdx, hk]; omega) (ways_bel 0 _) ?_
  · simp [List.eraseIdx_eq_take_drop_succ]
    have e : min k l.length = k := by omega
    rw [e, List.take_take, Nat.min_self, List.take_of_length_le (i := l.length - (k + 1)) (by simp), List.take_of_length_le (by simp; omega)]
  refine aw_ret ?_
  rw [show bTake l k = (l.eraseIdx k, x, 0) by rcases bthere_cases l k with h | h | h <;> simp [bTake, h, hx] <;> grind]
  exact e_done hB (r_tmp rfl (r_cellR rfl (lk rfl rfl) rfl rfl rfl (r_tmp rfl .nil))) rfl rfl

theorem ref18_Twice (l : List Way) (i : Int) (H : Heap) (hl : l.length ≤ 1000000) :
    AC Try.prog 21 [.pl (l.map eWay), .int .i64 i] H (Ret (.tup [.pl ((bTwice l i).1.map eWay), .int .i64 (bTwice l i).2]) H) := by
  have h2 : (bTake l i).2.2 = bthere l i := by unfold bTake; split <;> simp_all
  refine AC.body (N := 28) [.tmp 4, .tmp 5] Try.func21 rfl rfl rfl (Nat.le_of_ble_eq_true rfl) fun B hB => ?_
  repeat (first | refine then_nrm ?_ | refine blk_nrm ?_ | refine then_brk ?_ | refine blk_hit ?_ | refine blk_miss rfl ?_ | refine then_ret ?_ | refine blk_ret ?_ | refine aw_seq ?_ | refine aw_block ?_ | refine aw_skip ?_ | refine aw_exit ?_ | refine aw_ret ?_)
  refine aw_region ?_
  first | refine ao1 (by decide) (o_assign (v := .sl _ _ _ _ _) rfl) ?_ | refine ao1 (by decide) (o_assign (v := .pl _) rfl) ?_ | refine ao1 (by decide) (o_assign (v := .nsl) rfl) ?_
  refine ao1 (by decide) (o_assign (v := .int _ _) rfl) ?_
  refine ao_nil ?_
  try dsimp only [List.set_cons_zero, List.set_cons_succ, List.cons_append, List.nil_append, List.take_succ_cons, List.take_zero, List.drop_succ_cons, List.drop_zero, AV.cells, List.length_nil, List.length_cons, Av.put, Nat.reduceAdd, AV.up, AV.up1, List.map_cons, List.map_nil]
  repeat (first | refine then_nrm ?_ | refine blk_nrm ?_ | refine then_brk ?_ | refine blk_hit ?_ | refine blk_miss rfl ?_ | refine then_ret ?_ | refine blk_ret ?_ | refine aw_seq ?_ | refine aw_block ?_ | refine aw_skip ?_ | refine aw_exit ?_ | refine aw_ret ?_)
  refine aw_region ?_
  first | refine ao1 (by decide) (o_move (v := .sl _ _ _ _ _) rfl) ?_ | refine ao1 (by decide) (o_move (v := .pl _) rfl) ?_ | refine ao1 (by decide) (o_move (v := .nsl) rfl) ?_
  refine ao1 (by decide) (o_move (v := .int _ _) rfl) ?_
  refine ao_ret (ref18_Take _ _ _ (by assumption)) rfl (by decide) ?_
  refine ao1 (by decide) (o_move (v := .tup _) rfl) ?_
  first | refine ao1 (by decide) (o_extract (v := .sl _ _ _ _ _) rfl rfl) ?_ | refine ao1 (by decide) (o_extract (v := .pl _) rfl rfl) ?_ | refine ao1 (by decide) (o_extract (v := .nsl) rfl rfl) ?_
  refine ao1 (by decide) (o_extract (v := .agg _) rfl rfl) ?_
  refine ao1 (by decide) (o_extract (v := .int _ _) rfl rfl) ?_
  refine ao2 (by rintro _ ⟨⟩; decide) (o_allocL (sz := 5) rfl (by decide) rfl) ?_
  first | refine ao1 (by decide) (o_assign (v := .sl _ _ _ _ _) rfl) ?_ | refine ao1 (by decide) (o_assign (v := .pl _) rfl) ?_ | refine ao1 (by decide) (o_assign (v := .nsl) rfl) ?_
  first | refine ao2 (by rintro _ ⟨⟩) (w_storeP (sz := 5) (v := .agg _) (r' := _) rfl rfl rfl rfl rfl rfl rfl rfl (Nat.le_of_ble_eq_true rfl) rfl) ?_ | refine ao2 (by rintro _ ⟨⟩) (w_storeFP (sz := 5) (v := .agg _) (r' := [_, _, _, _, _]) rfl hF rfl rfl rfl rfl rfl (Nat.le_of_ble_eq_true rfl) rfl) ?_ | refine ao2 (by rintro _ ⟨⟩) (w_storeFP (sz := 5) (v := .agg _) (r' := [_, _, _, _, _]) rfl hF1 rfl rfl rfl rfl rfl (Nat.le_of_ble_eq_true rfl) rfl) ?_
  refine ao1 (by decide) (o_assign (v := .int _ _) rfl) ?_
  refine ao_nil ?_
  try dsimp only [List.set_cons_zero, List.set_cons_succ, List.cons_append, List.nil_append, List.take_succ_cons, List.take_zero, List.drop_succ_cons, List.drop_zero, AV.cells, List.length_nil, List.length_cons, Av.put, Nat.reduceAdd, AV.up, AV.up1, List.map_cons, List.map_nil]
  repeat (first | refine then_nrm ?_ | refine blk_nrm ?_ | refine then_brk ?_ | refine blk_hit ?_ | refine blk_miss rfl ?_ | refine then_ret ?_ | refine blk_ret ?_ | refine aw_seq ?_ | refine aw_block ?_ | refine aw_skip ?_ | refine aw_exit ?_ | refine aw_ret ?_)
  refine aw_region ?_
  refine ao1 (by decide) (o_move (v := .int _ _) rfl) ?_
  refine ao1 (by decide) (o_ne rfl rfl) ?_
  refine ao_nil ?_
  try dsimp only [List.set_cons_zero, List.set_cons_succ, List.cons_append, List.nil_append, List.take_succ_cons, List.take_zero, List.drop_succ_cons, List.drop_zero, AV.cells, List.length_nil, List.length_cons, Av.put, Nat.reduceAdd, AV.up, AV.up1, List.map_cons, List.map_nil]
  repeat (first | refine then_nrm ?_ | refine blk_nrm ?_ | refine then_brk ?_ | refine blk_hit ?_ | refine blk_miss rfl ?_ | refine then_ret ?_ | refine blk_ret ?_ | refine aw_seq ?_ | refine aw_block ?_ | refine aw_skip ?_ | refine aw_exit ?_ | refine aw_ret ?_)
  refine aw_cond rfl (fun hc => ?_) (fun hc => ?_)
  · repeat (first | refine then_nrm ?_ | refine blk_nrm ?_ | refine then_brk ?_ | refine blk_hit ?_ | refine blk_miss rfl ?_ | refine then_ret ?_ | refine blk_ret ?_ | refine aw_seq ?_ | refine aw_block ?_ | refine aw_skip ?_ | refine aw_exit ?_ | refine aw_ret ?_)
    refine aw_region ?_
    first | refine ao1 (by decide) (o_move (v := .sl _ _ _ _ _) rfl) ?_ | refine ao1 (by decide) (o_move (v := .pl _) rfl) ?_ | refine ao1 (by decide) (o_move (v := .nsl) rfl) ?_
    refine ao1 (by decide) (o_move (v := .int _ _) rfl) ?_
    first | refine ao1 (by decide) (o_assign (v := .sl _ _ _ _ _) rfl) ?_ | refine ao1 (by decide) (o_assign (v := .pl _) rfl) ?_ | refine ao1 (by decide) (o_assign (v := .nsl) rfl) ?_
    refine ao1 (by decide) (o_assign (v := .int _ _) rfl) ?_
    refine ao_nil ?_
    try dsimp only [List.set_cons_zero, List.set_cons_succ, List.cons_append, List.nil_append, List.take_succ_cons, List.take_zero, List.drop_succ_cons, List.drop_zero, AV.cells, List.length_nil, List.length_cons, Av.put, Nat.reduceAdd, AV.up, AV.up1, List.map_cons, List.map_nil]
    repeat (first | refine then_nrm ?_ | refine blk_nrm ?_ | refine then_brk ?_ | refine blk_hit ?_ | refine blk_miss rfl ?_ | refine then_ret ?_ | refine blk_ret ?_ | refine aw_seq ?_ | refine aw_block ?_ | refine aw_skip ?_ | refine aw_exit ?_ | refine aw_ret ?_)
    rw [show bTwice l i = (l, bthere l i) by rw [bTwice, if_pos (by simpa [h2] using hc)], h2]
    exact e_done hB (r_tmp rfl (r_tmp rfl .nil)) rfl rfl
  have h0 : bthere l i = 0 := by simpa [h2] using hc
  have h1 : (bTake l i).2.1 = l.getD i.toNat way0 := by rw [bTake, if_neg (by simpa using h0)]
  repeat (first | refine then_nrm ?_ | refine blk_nrm ?_ | refine then_brk ?_ | refine blk_hit ?_ | refine blk_miss rfl ?_ | refine then_ret ?_ | refine blk_ret ?_ | refine aw_seq ?_ | refine aw_block ?_ | refine aw_skip ?_ | refine aw_exit ?_ | refine aw_ret ?_)
  refine aw_region ?_
  first | refine ao1 (by decide) (o_move (v := .sl _ _ _ _ _) rfl) ?_ | refine ao1 (by decide) (o_move (v := .pl _) rfl) ?_ | refine ao1 (by decide) (o_move (v := .nsl) rfl) ?_
  first | refine ao1 (by decide) (w_fieldAddr rfl (lk rfl rfl) rfl (by decide)) ?_ | refine ao1 (by decide) (w_fieldAddrp rfl (by decide)) ?_ | refine ao1 (by decide) (w_fieldAddr rfl (lkF hF) rfl (by decide)) ?_
  first | refine ao1 (by decide) (w_load1 (v := .int _ _) rfl (lk rfl rfl) rfl rfl rfl) ?_ | refine ao1 (by decide) (w_load1 (v := .int _ _) rfl (lk rfl rfl) rfl (zadd hr) rfl) ?_ | refine ao1 (by decide) (w_load1 (v := .int _ _) rfl (lk rfl rfl) rfl (zadd hr1) rfl) ?_ | refine ao1 (by decide) (w_load1 (v := .int _ _) rfl (lk rfl rfl) rfl (zadd hr2) rfl) ?_ | refine ao1 (by decide) (o_load1p (v := .int _ _) rfl hr rfl) ?_ | refine ao1 (by decide) (o_load1p (v := .int _ _) rfl hr1 rfl) ?_ | refine ao1 (by decide) (o_load1p (v := .int _ _) rfl hr2 rfl) ?_ | refine ao1 (by decide) (w_load1 (v := .int _ _) rfl (lkF hF) rfl rfl rfl) ?_
  first | refine ao1 (by decide) (w_fieldAddr rfl (lk rfl rfl) rfl (by decide)) ?_ | refine ao1 (by decide) (w_fieldAddrp rfl (by decide)) ?_ | refine ao1 (by decide) (w_fieldAddr rfl (lkF hF) rfl (by decide)) ?_
  first | refine ao1 (by decide) (w_loadR rfl (lk rfl rfl) rfl rfl rfl) ?_ | refine ao1 (by decide) (w_loadR rfl (lk rfl rfl) rfl (zadd hr) rfl) ?_ | refine ao1 (by decide) (w_loadR rfl (lk rfl rfl) rfl (zadd hr1) rfl) ?_ | refine ao1 (by decide) (w_loadR rfl (lk rfl rfl) rfl (zadd hr2) rfl) ?_ | refine ao1 (by decide) (w_loadRp rfl hr rfl) ?_ | refine ao1 (by decide) (w_loadRp rfl hr1 rfl) ?_ | refine ao1 (by decide) (w_loadRp rfl hr2 rfl) ?_ | refine ao1 (by decide) (w_loadN (cs := [_, _, _, _]) rfl (lk rfl rfl) rfl rfl rfl rfl) ?_ | refine ao1 (by decide) (o_loadNp (cs := [_, _, _, _]) rfl hr rfl rfl) ?_ | refine ao1 (by decide) (o_loadNp (cs := [_, _, _, _]) rfl hr1 rfl rfl) ?_ | refine ao1 (by decide) (o_loadNp (cs := [_, _, _, _]) rfl hr2 rfl rfl) ?_ | refine ao1 (by decide) (w_loadR rfl (lkF hF) rfl rfl rfl) ?_ | refine ao1 (by decide) (w_loadN (cs := [_, _, _, _]) rfl (lkF hF) rfl rfl rfl rfl) ?_
  refine ao2 (by rintro _ ⟨⟩; decide) (V2.call (ref18_Put l (bTake l i).2.1.to (bTake l i).2.1.p _ hl) rfl) ?_
  first | refine ao1 (by decide) (o_extract (v := .sl _ _ _ _ _) rfl rfl) ?_ | refine ao1 (by decide) (o_extract (v := .pl _) rfl rfl) ?_ | refine ao1 (by decide) (o_extract (v := .nsl) rfl rfl) ?_
  refine ao1 (by decide) (o_extract (v := .int _ _) rfl rfl) ?_
  first | refine ao1 (by decide) (o_assign (v := .sl _ _ _ _ _) rfl) ?_ | refine ao1 (by decide) (o_assign (v := .pl _) rfl) ?_ | refine ao1 (by decide) (o_assign (v := .nsl) rfl) ?_
  refine ao1 (by decide) (o_assign (v := .int _ _) rfl) ?_
  refine ao_nil ?_
  try dsimp only [List.set_cons_zero, List.set_cons_succ, List.cons_append, List.nil_append, List.take_succ_cons, List.take_zero, List.drop_succ_cons, List.drop_zero, AV.cells, List.length_nil, List.length_cons, Av.put, Nat.reduceAdd, AV.up, AV.up1, List.map_cons, List.map_nil]
  repeat (first | refine then_nrm ?_ | refine blk_nrm ?_ | refine then_brk ?_ | refine blk_hit ?_ | refine blk_miss rfl ?_ | refine then_ret ?_ | refine blk_ret ?_ | refine aw_seq ?_ | refine aw_block ?_ | refine aw_skip ?_ | refine aw_exit ?_ | refine aw_ret ?_)
  rw [show bTwice l i = bPut l (bTake l i).2.1.to (bTake l i).2.1.p by rw [bTwice, if_neg (by simpa using h0), h1]]
  exact e_done hB (r_tmp rfl (r_tmp rfl .nil)) rfl rfl

/-- Whom it finds. -/
def findTo (l : List Way) (to : Int) (b : Bool) : List Int := (l.zipIdx.filter fun p => p.1.to == to && b).map fun p => (p.2 : Int)
theorem findTo_step {l : List Way} {k : Nat} {x : Way} (hx : l[k]? = some x) (to : Int) (b : Bool) : findTo (l.take (k + 1)) to b = findTo (l.take k) to b ++ if x.to == to && b then [(k : Int)] else [] := by
  have hlt : k < l.length := (List.getElem?_eq_some_iff.1 hx).1
  rw [take_snoc_get hx, findTo, List.zipIdx_append, List.filter_append, List.map_append, findTo]
  congr 1
  rw [List.length_take, Nat.min_eq_left (Nat.le_of_lt hlt)]
  simp only [List.zipIdx_cons, List.zipIdx_nil, List.filter_cons, List.filter_nil, Nat.zero_add]
  split <;> simp
theorem findTo_le (l : List Way) (to : Int) (b : Bool) : (findTo l to b).length ≤ l.length := by
  unfold findTo
  rw [List.length_map]
  exact Nat.le_trans (List.length_filter_le _ _) (by simp)
def bFind (l : List Way) (to : Int) : List Int := findTo l to (bright l)
theorem bag_Find (l : List Way) (to : Int) (H : Heap) (hl : l.length ≤ 1000000) : AC Try.prog 23 [.pl (l.map eWay), .int .i64 to] H (Ret (.pl ((bFind l to).map eInt)) H) := by
  refine AC.body (N := 29) [.tmp 4] Try.func23 rfl rfl rfl (Nat.le_of_ble_eq_true rfl) fun B hB => ?_
  repeat (first | refine then_nrm ?_ | refine blk_nrm ?_ | refine then_brk ?_ | refine blk_hit ?_ | refine blk_miss rfl ?_ | refine then_ret ?_ | refine blk_ret ?_ | refine aw_seq ?_ | refine aw_block ?_ | refine aw_skip ?_ | refine aw_exit ?_ | refine aw_ret ?_)
  refine aw_region ?_
  first | refine ao1 (by decide) (o_assign (v := .sl _ _ _ _ _) rfl) ?_ | refine ao1 (by decide) (o_assign (v := .pl _) rfl) ?_ | refine ao1 (by decide) (o_assign (v := .nsl) rfl) ?_
  refine ao_nil ?_
  try dsimp only [List.set_cons_zero, List.set_cons_succ, List.cons_append, List.nil_append, List.take_succ_cons, List.take_zero, List.drop_succ_cons, List.drop_zero, AV.cells, List.length_nil, List.length_cons, Av.put, Nat.reduceAdd, AV.up, AV.up1, List.map_cons, List.map_nil]
  repeat (first | refine then_nrm ?_ | refine blk_nrm ?_ | refine then_brk ?_ | refine blk_hit ?_ | refine blk_miss rfl ?_ | refine then_ret ?_ | refine blk_ret ?_ | refine aw_seq ?_ | refine aw_block ?_ | refine aw_skip ?_ | refine aw_exit ?_ | refine aw_ret ?_)
  refine aw_region ?_
  first | refine ao1 (by decide) (o_assign (v := .sl _ _ _ _ _) rfl) ?_ | refine ao1 (by decide) (o_assign (v := .pl _) rfl) ?_ | refine ao1 (by decide) (o_assign (v := .nsl) rfl) ?_
  refine ao_nil ?_
  try dsimp only [List.set_cons_zero, List.set_cons_succ, List.cons_append, List.nil_append, List.take_succ_cons, List.take_zero, List.drop_succ_cons, List.drop_zero, AV.cells, List.length_nil, List.length_cons, Av.put, Nat.reduceAdd, AV.up, AV.up1, List.map_cons, List.map_nil]
  repeat (first | refine then_nrm ?_ | refine blk_nrm ?_ | refine then_brk ?_ | refine blk_hit ?_ | refine blk_miss rfl ?_ | refine then_ret ?_ | refine blk_ret ?_ | refine aw_seq ?_ | refine aw_block ?_ | refine aw_skip ?_ | refine aw_exit ?_)
  refine aw_ghostL (k := 0) 5 1 rfl (by decide) rfl ?_
  repeat (first | refine then_nrm ?_ | refine blk_nrm ?_ | refine then_brk ?_ | refine blk_hit ?_ | refine blk_miss rfl ?_ | refine then_ret ?_ | refine blk_ret ?_ | refine aw_seq ?_ | refine aw_block ?_ | refine aw_skip ?_ | refine aw_exit ?_ | refine aw_ret ?_)
  refine aw_region ?_
  first | refine ao1 (by decide) (o_move (v := .sl _ _ _ _ _) rfl) ?_ | refine ao1 (by decide) (o_move (v := .pl _) rfl) ?_ | refine ao1 (by decide) (o_move (v := .nsl) rfl) ?_
  first | refine ao1 (by decide) (o_lenp rfl) ?_ | refine ao1 (by decide) (w_lens rfl (lk rfl rfl) rfl) ?_ | refine ao1 (by decide) (o_lenn rfl) ?_ | refine ao1 (by decide) (o_lenStr rfl) ?_ | refine ao1 (by decide) (w_lens rfl (lkF hF) rfl) ?_
  refine ao1 (by decide) (o_move (v := .int _ _) rfl) ?_
  refine ao_nil ?_
  try dsimp only [List.set_cons_zero, List.set_cons_succ, List.cons_append, List.nil_append, List.take_succ_cons, List.take_zero, List.drop_succ_cons, List.drop_zero, AV.cells, List.length_nil, List.length_cons, Av.put, Nat.reduceAdd, AV.up, AV.up1, List.map_cons, List.map_nil]
  repeat (first | refine then_nrm ?_ | refine blk_nrm ?_ | refine then_brk ?_ | refine blk_hit ?_ | refine blk_miss rfl ?_ | refine then_ret ?_ | refine blk_ret ?_ | refine aw_seq ?_ | refine aw_block ?_ | refine aw_skip ?_ | refine aw_exit ?_)
  refine aw_loop (G := Nat) (fun k => k ≤ l.length) (fun k => [(0, .pl (l.map eWay)), (1, .int .i64 to), (8, .pl (l.map eWay)), (9, .int .i64 (l.length : Int)), (10, .int .i64 (k : Int)), (5, .sl (Lid H.length 0) (findTo (l.take k) to (bright l)).length 0 (findTo (l.take k) to (bright l)).length (findTo (l.take k) to (bright l)).length)]) (fun k => H ++ [⟨(findTo (l.take k) to (bright l)).length, 1, (findTo (l.take k) to (bright l)).map eInt⟩]) (fun k => l.length - k) 0 (Nat.zero_le _) (by repeat (first | exact Sub.nil | refine Sub.cons (by first | rfl | (simp [get]; done)) ?_)) (Fit.refl _ _) ?_
  intro k hk
  repeat (first | refine then_nrm ?_ | refine blk_nrm ?_ | refine then_brk ?_ | refine blk_hit ?_ | refine blk_miss rfl ?_ | refine then_ret ?_ | refine blk_ret ?_ | refine aw_seq ?_ | refine aw_block ?_ | refine aw_skip ?_ | refine aw_exit ?_ | refine aw_ret ?_)
  refine aw_region ?_
  refine ao1 (by decide) (o_lt rfl rfl) ?_
  refine ao_nil ?_
  try dsimp only [List.set_cons_zero, List.set_cons_succ, List.cons_append, List.nil_append, List.take_succ_cons, List.take_zero, List.drop_succ_cons, List.drop_zero, AV.cells, List.length_nil, List.length_cons, Av.put, Nat.reduceAdd, AV.up, AV.up1, List.map_cons, List.map_nil]
  repeat (first | refine then_nrm ?_ | refine blk_nrm ?_ | refine then_brk ?_ | refine blk_hit ?_ | refine blk_miss rfl ?_ | refine then_ret ?_ | refine blk_ret ?_ | refine aw_seq ?_ | refine aw_block ?_ | refine aw_skip ?_ | refine aw_exit ?_ | refine aw_ret ?_)
  refine aw_cond rfl (fun hc => ?_) (fun hc => ?_)
  · have hlt : k < l.length := by simpa using hc
    obtain ⟨x, hx, hxl⟩ := get_in hlt
    have hr := map_get eWay hx
    have hstep := findTo_step hx to (bright l)
    have hle : (findTo (l.take k) to (bright l)).length ≤ 1000000 := Nat.le_trans (findTo_le _ _ _) (by simp; omega)
    have hbel : ∀ o ∈ [AObj.mk (findTo (l.take (k + 1)) to (bright l)).length 1 ((findTo (l.take (k + 1)) to (bright l)).map eInt)], ∀ r ∈ o.rows, AV.bels (H.length + [AObj.mk (findTo (l.take (k + 1)) to (bright l)).length 1 ((findTo (l.take (k + 1)) to (bright l)).map eInt)].length) r = true := by
      intro o ho r hr
      simp only [List.mem_singleton] at ho
      subst ho
      exact ints_bel _ _ r hr
    repeat (first | refine then_nrm ?_ | refine blk_nrm ?_ | refine then_brk ?_ | refine blk_hit ?_ | refine blk_miss rfl ?_ | refine then_ret ?_ | refine blk_ret ?_ | refine aw_seq ?_ | refine aw_block ?_ | refine aw_skip ?_ | refine aw_exit ?_ | refine aw_ret ?_)
    refine aw_region ?_
    refine ao1 (by decide) (o_move (v := .int _ _) rfl) ?_
    first | refine ao1 (by decide) (w_indexAddrpN rfl rfl hr rfl) ?_ | refine ao1 (by decide) (w_indexAddrpN rfl rfl hr1 rfl) ?_ | refine ao1 (by decide) (w_indexAddrpN rfl rfl hr2 rfl) ?_ | refine ao1 (by decide) (w_indexAddrN rfl (lk rfl rfl) rfl rfl rfl (by omega)) ?_ | refine ao1 (by decide) (w_indexAddrp rfl rfl (by omega) hr rfl) ?_ | refine ao1 (by decide) (w_indexAddrp rfl rfl (by omega) hr1 rfl) ?_ | refine ao1 (by decide) (w_indexAddrp rfl rfl (by omega) hr2 rfl) ?_ | refine ao1 (by decide) (w_indexAddr rfl (lk rfl rfl) rfl rfl rfl (by omega) (by omega)) ?_
    first | refine ao1 (by decide) (w_loadR rfl (lk rfl rfl) rfl rfl rfl) ?_ | refine ao1 (by decide) (w_loadR rfl (lk rfl rfl) rfl (zadd hr) rfl) ?_ | refine ao1 (by decide) (w_loadR rfl (lk rfl rfl) rfl (zadd hr1) rfl) ?_ | refine ao1 (by decide) (w_loadR rfl (lk rfl rfl) rfl (zadd hr2) rfl) ?_ | refine ao1 (by decide) (w_loadRp rfl hr rfl) ?_ | refine ao1 (by decide) (w_loadRp rfl hr1 rfl) ?_ | refine ao1 (by decide) (w_loadRp rfl hr2 rfl) ?_ | refine ao1 (by decide) (w_loadN (cs := [_, _, _, _, _]) rfl (lk rfl rfl) rfl rfl rfl rfl) ?_ | refine ao1 (by decide) (o_loadNp (cs := [_, _, _, _, _]) rfl hr rfl rfl) ?_ | refine ao1 (by decide) (o_loadNp (cs := [_, _, _, _, _]) rfl hr1 rfl rfl) ?_ | refine ao1 (by decide) (o_loadNp (cs := [_, _, _, _, _]) rfl hr2 rfl rfl) ?_ | refine ao1 (by decide) (w_loadR rfl (lkF hF) rfl rfl rfl) ?_ | refine ao1 (by decide) (w_loadN (cs := [_, _, _, _, _]) rfl (lkF hF) rfl rfl rfl rfl) ?_
    refine ao2 (by rintro _ ⟨⟩; decide) (o_allocL (sz := 5) rfl (by decide) rfl) ?_
    refine ao1 (by decide) (o_assign (v := .int _ _) rfl) ?_
    first | refine ao2 (by rintro _ ⟨⟩) (w_storeP (sz := 5) (v := .agg _) (r' := _) rfl rfl rfl rfl rfl rfl rfl rfl (Nat.le_of_ble_eq_true rfl) rfl) ?_ | refine ao2 (by rintro _ ⟨⟩) (w_storeFP (sz := 5) (v := .agg _) (r' := [_, _, _, _, _]) rfl hF rfl rfl rfl rfl rfl (Nat.le_of_ble_eq_true rfl) rfl) ?_ | refine ao2 (by rintro _ ⟨⟩) (w_storeFP (sz := 5) (v := .agg _) (r' := [_, _, _, _, _]) rfl hF1 rfl rfl rfl rfl rfl (Nat.le_of_ble_eq_true rfl) rfl) ?_
    refine ao_nil ?_
    try dsimp only [List.set_cons_zero, List.set_cons_succ, List.cons_append, List.nil_append, List.take_succ_cons, List.take_zero, List.drop_succ_cons, List.drop_zero, AV.cells, List.length_nil, List.length_cons, Av.put, Nat.reduceAdd, AV.up, AV.up1, List.map_cons, List.map_nil]
    repeat (first | refine then_nrm ?_ | refine blk_nrm ?_ | refine then_brk ?_ | refine blk_hit ?_ | refine blk_miss rfl ?_ | refine then_ret ?_ | refine blk_ret ?_ | refine aw_seq ?_ | refine aw_block ?_ | refine aw_skip ?_ | refine aw_exit ?_ | refine aw_ret ?_)
    refine aw_out 22 (.bool (x.to == to && bright l)) ?_ ?_
    · first | refine ao1 (by decide) (w_fieldAddr rfl (lk rfl rfl) rfl (by decide)) ?_ | refine ao1 (by decide) (w_fieldAddrp rfl (by decide)) ?_ | refine ao1 (by decide) (w_fieldAddr rfl (lkF hF) rfl (by decide)) ?_
      first | refine ao1 (by decide) (w_load1 (v := .int _ _) rfl (lk rfl rfl) rfl rfl rfl) ?_ | refine ao1 (by decide) (w_load1 (v := .int _ _) rfl (lk rfl rfl) rfl (zadd hr) rfl) ?_ | refine ao1 (by decide) (w_load1 (v := .int _ _) rfl (lk rfl rfl) rfl (zadd hr1) rfl) ?_ | refine ao1 (by decide) (w_load1 (v := .int _ _) rfl (lk rfl rfl) rfl (zadd hr2) rfl) ?_ | refine ao1 (by decide) (o_load1p (v := .int _ _) rfl hr rfl) ?_ | refine ao1 (by decide) (o_load1p (v := .int _ _) rfl hr1 rfl) ?_ | refine ao1 (by decide) (o_load1p (v := .int _ _) rfl hr2 rfl) ?_ | refine ao1 (by decide) (w_load1 (v := .int _ _) rfl (lkF hF) rfl rfl rfl) ?_
      refine ao1 (by decide) (o_move (v := .int _ _) rfl) ?_
      refine ao1 (by decide) (o_eq rfl rfl) ?_
      refine ao1 (by decide) (o_move (v := .bool _) rfl) ?_
      refine ao_split rfl rfl (fun hg4 => ?_) (fun hg4 => ?_)
      · first | refine ao_y1 rfl rfl (by decide) (o_move (v := .sl _ _ _ _ _) rfl) ?_ | refine ao_y1 rfl rfl (by decide) (o_move (v := .pl _) rfl) ?_ | refine ao_y1 rfl rfl (by decide) (o_move (v := .nsl) rfl) ?_
        refine ao_y rfl rfl (by decide) (V2.call (bag_Right _ _ (by assumption)) rfl) ?_
        first | refine ao1 (by decide) (o_pick_t (v := .bool _) rfl rfl) ?_ | refine ao1 (by decide) (o_pick_f (v := .bool _) rfl rfl) ?_ | refine ao1 (by decide) (o_pick_b rfl rfl rfl) ?_
        exact ao_nil (Out.mk (by first | rfl | (refine congrArg AV.bool ?_; first | (refine Bool.eq_iff_iff.mpr ?_; simp only [Bool.and_eq_true, Bool.or_eq_true, Bool.not_eq_true', decide_eq_true_eq, decide_eq_false_iff_not, beq_iff_eq, bne_iff_ne, beq_eq_false_iff_ne, Bool.false_eq_true, Bool.true_eq_false, Bool.and_eq_false_iff, Bool.or_eq_false_iff, List.length_map, false_iff, true_iff, iff_true, iff_false] at *; omega) | (simp_all; done) | (simp_all; omega) | (simp_all; intros; omega) | (simp only [List.length_map] at *; simp_all; done) | (simp only [List.length_map] at *; simp_all; intros; omega) | grind)) (by repeat (first | exact SubX.refl _ _ | refine SubX.at ?_ | refine SubX.put rfl ?_ | refine SubX.put_same rfl ?_)))
      · refine ao_nT rfl rfl (by decide) ?_
        refine ao_nT rfl rfl (by decide) ?_
        first | refine ao1 (by decide) (o_pick_t (v := .bool _) rfl rfl) ?_ | refine ao1 (by decide) (o_pick_f (v := .bool _) rfl rfl) ?_ | refine ao1 (by decide) (o_pick_b rfl rfl rfl) ?_
        exact ao_nil (Out.mk (by first | rfl | (refine congrArg AV.bool ?_; first | (refine Bool.eq_iff_iff.mpr ?_; simp only [Bool.and_eq_true, Bool.or_eq_true, Bool.not_eq_true', decide_eq_true_eq, decide_eq_false_iff_not, beq_iff_eq, bne_iff_ne, beq_eq_false_iff_ne, Bool.false_eq_true, Bool.true_eq_false, Bool.and_eq_false_iff, Bool.or_eq_false_iff, List.length_map, false_iff, true_iff, iff_true, iff_false] at *; omega) | (simp_all; done) | (simp_all; omega) | (simp_all; intros; omega) | (simp only [List.length_map] at *; simp_all; done) | (simp only [List.length_map] at *; simp_all; intros; omega) | grind)) (by repeat (first | exact SubX.refl _ _ | refine SubX.at ?_ | refine SubX.put rfl ?_ | refine SubX.put_same rfl ?_)))
    repeat (first | refine then_nrm ?_ | refine blk_nrm ?_ | refine then_brk ?_ | refine blk_hit ?_ | refine blk_miss rfl ?_ | refine then_ret ?_ | refine blk_ret ?_ | refine aw_seq ?_ | refine aw_block ?_ | refine aw_skip ?_ | refine aw_exit ?_ | refine aw_ret ?_)
    refine aw_cond rfl (fun hc => ?_) (fun hc => ?_)
    · rw [hc, if_pos rfl] at hstep
      repeat (first | refine then_nrm ?_ | refine blk_nrm ?_ | refine then_brk ?_ | refine blk_hit ?_ | refine blk_miss rfl ?_ | refine then_ret ?_ | refine blk_ret ?_ | refine aw_seq ?_ | refine aw_block ?_ | refine aw_skip ?_ | refine aw_exit ?_ | refine aw_ret ?_)
      refine aw_region ?_
      first | refine ao1 (by decide) (o_move (v := .sl _ _ _ _ _) rfl) ?_ | refine ao1 (by decide) (o_move (v := .pl _) rfl) ?_ | refine ao1 (by decide) (o_move (v := .nsl) rfl) ?_
      refine ao1 (by decide) (o_move (v := .int _ _) rfl) ?_
      refine ao2 (by rintro _ ⟨⟩; decide) (o_buildSlice1L (sz := 1) (v := .int _ _) rfl (by decide) (by decide) rfl rfl rfl rfl rfl) ?_
      first | refine ao2 (by rintro _ ⟨⟩; decide) (w_append rfl rfl rfl rfl rfl (w_src1 rfl rfl rfl rfl rfl rfl) rfl (by first | (simp; done) | (simp; omega)) (by simp; done) (by first | (simp; done) | (simp; omega)) (by first | (simp; done) | (simp; omega))) ?_ | refine ao2 (by rintro _ ⟨⟩; decide) (o_append_nslL rfl (by decide) rfl (w_src1 rfl rfl rfl rfl rfl rfl) (by simp; done) (by simp; done) (by simp; done) rfl) ?_
      first | refine ao1 (by decide) (o_assign (v := .sl _ _ _ _ _) rfl) ?_ | refine ao1 (by decide) (o_assign (v := .pl _) rfl) ?_ | refine ao1 (by decide) (o_assign (v := .nsl) rfl) ?_
      refine ao_nil ?_
      try dsimp only [List.set_cons_zero, List.set_cons_succ, List.cons_append, List.nil_append, List.take_succ_cons, List.take_zero, List.drop_succ_cons, List.drop_zero, AV.cells, List.length_nil, List.length_cons, Av.put, Nat.reduceAdd, AV.up, AV.up1, List.map_cons, List.map_nil]
      repeat (first | refine then_nrm ?_ | refine blk_nrm ?_ | refine then_brk ?_ | refine blk_hit ?_ | refine blk_miss rfl ?_ | refine then_ret ?_ | refine blk_ret ?_ | refine aw_seq ?_ | refine aw_block ?_ | refine aw_skip ?_ | refine aw_exit ?_ | refine aw_ret ?_)
      refine aw_region ?_
      first | refine ao1 (by decide) (o_add rfl rfl (wrap64_ok (by omega) (by omega))) ?_ | refine ao1 (by decide) (o_add rfl rfl rfl) ?_
      refine ao1 (by decide) (o_move (v := .int _ _) rfl) ?_
      refine ao_nil ?_
      try dsimp only [List.set_cons_zero, List.set_cons_succ, List.cons_append, List.nil_append, List.take_succ_cons, List.take_zero, List.drop_succ_cons, List.drop_zero, AV.cells, List.length_nil, List.length_cons, Av.put, Nat.reduceAdd, AV.up, AV.up1, List.map_cons, List.map_nil]
      repeat (first | refine then_nrm ?_ | refine blk_nrm ?_ | refine then_brk ?_ | refine blk_hit ?_ | refine blk_miss rfl ?_ | refine then_ret ?_ | refine blk_ret ?_ | refine aw_seq ?_ | refine aw_block ?_ | refine aw_skip ?_ | refine aw_exit ?_ | refine aw_ret ?_)
      refine ⟨k + 1, by omega, by omega, ?_, Fit.loc hB (by rw [hstep, take_map_len, List.map_append, List.length_append]; rfl) (by repeat (first | exact EBel.nil | refine EBel.cons (by first | rfl | (simp [AV.bel, AV.bels, Lid]; done) | (simp [AV.bel, AV.bels, Lid]; omega)) ?_)) hbel⟩
      rw [hstep]
      simp only [List.length_append, List.length_cons, List.length_nil, Nat.zero_add]
      exact (by repeat (first | exact Sub.nil | refine Sub.cons (by first | rfl | (simp [get]; done)) ?_))
    · rw [hc, if_neg (by simp), List.append_nil] at hstep
      repeat (first | refine then_nrm ?_ | refine blk_nrm ?_ | refine then_brk ?_ | refine blk_hit ?_ | refine blk_miss rfl ?_ | refine then_ret ?_ | refine blk_ret ?_ | refine aw_seq ?_ | refine aw_block ?_ | refine aw_skip ?_ | refine aw_exit ?_ | refine aw_ret ?_)
      refine aw_region ?_
      first | refine ao1 (by decide) (o_add rfl rfl (wrap64_ok (by omega) (by omega))) ?_ | refine ao1 (by decide) (o_add rfl rfl rfl) ?_
      refine ao1 (by decide) (o_move (v := .int _ _) rfl) ?_
      refine ao_nil ?_
      try dsimp only [List.set_cons_zero, List.set_cons_succ, List.cons_append, List.nil_append, List.take_succ_cons, List.take_zero, List.drop_succ_cons, List.drop_zero, AV.cells, List.length_nil, List.length_cons, Av.put, Nat.reduceAdd, AV.up, AV.up1, List.map_cons, List.map_nil]
      repeat (first | refine then_nrm ?_ | refine blk_nrm ?_ | refine then_brk ?_ | refine blk_hit ?_ | refine blk_miss rfl ?_ | refine then_ret ?_ | refine blk_ret ?_ | refine aw_seq ?_ | refine aw_block ?_ | refine aw_skip ?_ | refine aw_exit ?_ | refine aw_ret ?_)
      refine ⟨k + 1, by omega, by omega, ?_, Fit.loc hB (by rw [hstep]; rfl) (by repeat (first | exact EBel.nil | refine EBel.cons (by first | rfl | (simp [AV.bel, AV.bels, Lid]; done) | (simp [AV.bel, AV.bels, Lid]; omega)) ?_)) hbel⟩
      rw [hstep]
      exact (by repeat (first | exact Sub.nil | refine Sub.cons (by first | rfl | (simp [get]; done)) ?_))
  · have : k = l.length := by simp at hc; omega
    subst this
    rw [List.take_length]
    repeat (first | refine then_nrm ?_ | refine blk_nrm ?_ | refine then_brk ?_ | refine blk_hit ?_ | refine blk_miss rfl ?_ | refine then_ret ?_ | refine blk_ret ?_ | refine aw_seq ?_ | refine aw_block ?_ | refine aw_skip ?_ | refine aw_exit ?_ | refine aw_ret ?_)
    refine aw_region ?_
    first | refine ao1 (by decide) (o_move (v := .sl _ _ _ _ _) rfl) ?_ | refine ao1 (by decide) (o_move (v := .pl _) rfl) ?_ | refine ao1 (by decide) (o_move (v := .nsl) rfl) ?_
    first | refine ao1 (by decide) (o_assign (v := .sl _ _ _ _ _) rfl) ?_ | refine ao1 (by decide) (o_assign (v := .pl _) rfl) ?_ | refine ao1 (by decide) (o_assign (v := .nsl) rfl) ?_
    refine ao_nil ?_
    try dsimp only [List.set_cons_zero, List.set_cons_succ, List.cons_append, List.nil_append, List.take_succ_cons, List.take_zero, List.drop_succ_cons, List.drop_zero, AV.cells, List.length_nil, List.length_cons, Av.put, Nat.reduceAdd, AV.up, AV.up1, List.map_cons, List.map_nil]
    repeat (first | refine then_nrm ?_ | refine blk_nrm ?_ | refine then_brk ?_ | refine blk_hit ?_ | refine blk_miss rfl ?_ | refine then_ret ?_ | refine blk_ret ?_ | refine aw_seq ?_ | refine aw_block ?_ | refine aw_skip ?_ | refine aw_exit ?_)
    refine aw_freezeL (ys := (bFind l to).map eInt) 4 rfl rfl rfl rfl (by simp only [bFind, List.drop_zero]; exact List.take_of_length_le (by simp)) (by simp [bFind]) (ints_bel 0 _) ?_
    exact aw_ret (e_done hB (r_tmp rfl .nil) rfl rfl)
end Go.Av
