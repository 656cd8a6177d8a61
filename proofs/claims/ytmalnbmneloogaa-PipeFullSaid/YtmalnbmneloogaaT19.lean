/- A part of the proof: walks through the program over abstract values. -/
import Derived.Test.YtmalnbmneloogaaT18
namespace Go.Av
open Go.Proofs
set_option maxRecDepth 10000
set_option linter.unusedSimpArgs false
set_option linter.unusedVariables false


/-- An end that has said the same word again and again: `s` were acknowledged, `k` wait. -/
def pp (e : Int) (b : List UInt8) (s k : Nat) (w : Int) : Pipe := ⟨e, (List.range k).map fun j => ⟨e, ((s + 1 + j : Nat) : Int), 0, b⟩, ((s + k + 1 : Nat) : Int), w⟩
theorem pp_len (e : Int) (b : List UInt8) (s k : Nat) (w : Int) : (pp e b s k w).out.length = k := by simp [pp]
theorem pp_get {e : Int} {b : List UInt8} {s k j : Nat} {w : Int} {x : Packet} (h : (pp e b s k w).out[j]? = some x) : j < k ∧ x = ⟨e, ((s + 1 + j : Nat) : Int), 0, b⟩ := by
  simp only [pp, List.getElem?_map] at h
  by_cases hj : j < k
  · rw [List.getElem?_range hj] at h
    exact ⟨hj, (Option.some.inj h).symm⟩
  · rw [List.getElem?_eq_none (by simp; omega)] at h
    cases h
theorem pp_right {e : Int} {b : List UInt8} {s k : Nat} {w : Int} (he : 0 ≤ e ∧ e ≤ 65535) (hb : b.length ≤ 4096) (hs : s ≤ 100) (hk : k ≤ 16) (hw : 1 ≤ w ∧ w ≤ 1000) : pright (pp e b s k w) = true := by
  rw [pright_iff]
  refine ⟨?_, fun j x hx => ?_⟩
  · simp only [phead, pp_len, Bool.and_eq_true, decide_eq_true_eq]
    simp only [pp]
    omega
  · obtain ⟨h1, rfl⟩ := pp_get hx
    simp only [pok, pp_len, Bool.and_eq_true, beq_iff_eq, decide_eq_true_eq]
    simp only [pp]
    refine ⟨⟨⟨?_, ?_⟩, ?_⟩, ?_⟩ <;> first | trivial | omega
theorem pp_say {e : Int} {b : List UInt8} {s k : Nat} {w : Int} (he : 0 ≤ e ∧ e ≤ 65535) (hb : b.length ≤ 4096) (hs : s ≤ 100) (hk : k ≤ 16) (hw : 1 ≤ w ∧ w ≤ 1000) : pSay (pp e b s k w) b = if k < 16 then (pp e b s (k + 1) w, 0) else (pp e b s k w, 5) := by
  rw [pSay, if_neg (by simp [pp_right he hb hs hk hw]), if_neg (by omega), pp_len]
  by_cases h : k < 16
  · rw [if_neg (by omega), if_neg (by simp only [pp]; omega), if_pos h]
    simp only [pp, List.range_succ, List.map_append, List.map_cons, List.map_nil]
    simp
    omega
  · rw [if_pos (by omega), if_neg h]
theorem pp_new {e : Int} (b : List UInt8) (he : 0 ≤ e ∧ e ≤ 65535) : pNew e = (pp e b 0 0 1, 0) := by rw [pNew, if_pos (by omega)]; rfl
theorem pp_left (e : Int) (b : List UInt8) (m : Nat) (x : Packet) (hx : x.ack = m) : pleft (pp e b 0 16 1) x = (pp e b (min m 16) (16 - min m 16) 1).out := by
  have h16 : (16 : Nat) = min m 16 + (16 - min m 16) := by omega
  simp only [pleft, pp, hx]
  conv => lhs; rw [h16, List.range_add]
  rw [List.map_append, List.filter_append]
  rw [show ((List.range (min m 16)).map fun j => (⟨e, ((0 + 1 + j : Nat) : Int), 0, b⟩ : Packet)).filter (fun y => decide ((m : Int) < y.seq)) = [] by
    rw [List.filter_eq_nil_iff]
    intro y hy
    simp only [List.mem_map, List.mem_range] at hy
    obtain ⟨j, hj, rfl⟩ := hy
    simp only [decide_eq_true_eq]
    omega]
  rw [List.nil_append, List.map_map]
  by_cases hm : m ≤ 16
  · rw [List.filter_eq_self.2]
    · refine List.map_congr_left fun j _ => ?_
      simp
      omega
    · intro y hy
      simp only [List.mem_map, List.mem_range] at hy
      obtain ⟨j, hj, rfl⟩ := hy
      simp only [Function.comp, decide_eq_true_eq]
      omega
  · rw [show 16 - min m 16 = 0 by omega]; rfl
theorem pp_come {e : Int} {b : List UInt8} {m : Nat} (he : 0 ≤ e ∧ e ≤ 65535) (hb : b.length ≤ 4096) (hm : m ≤ 100) : pCome (pp e b 0 16 1) ⟨e, 0, (m : Int), []⟩ = ⟨pp e b (min m 16) (16 - min m 16) 1, [], false⟩ := by
  rw [pCome, if_neg (by
    rw [pp_right he hb (by omega) (by omega) (by omega)]
    simp [fine, pp]
    omega), if_neg (by simp [pp]), pp_left e b m _ rfl]
  simp only [pp]
  congr 3
  omega
theorem pp_goes {e : Int} {b : List UInt8} {s k : Nat} {w : Int} (he : 0 ≤ e ∧ e ≤ 65535) (hb : b.length ≤ 4096) (hs : s ≤ 100) (hk : k ≤ 16) (hk0 : 0 < k) (hw : 1 ≤ w ∧ w ≤ 1000) : pGoes (pp e b s k w) = (pp e b s k w).out.map (ackd (pp e b s k w)) := by
  rw [pGoes, if_neg (by simp [pp_right he hb hs hk hw]), if_neg (by intro h; have := congrArg List.length h; rw [pp_len] at this; simp at this; omega)]
/-- What the other end hears of the first word. -/
theorem pp_first {a b : Int} {word : List UInt8} {w : Int} (ha : 0 ≤ a ∧ a ≤ 65535) (hb : 0 ≤ b ∧ b ≤ 65535) (hw : word.length ≤ 4096) (h1 : 1 ≤ w ∧ w ≤ 2) :
    pCome (pp b [] 0 0 w) ⟨a, 1, 0, word⟩ = if a = b ∧ w = 1 then ⟨pp b [] 0 0 2, word, true⟩ else ⟨pp b [] 0 0 w, [], false⟩ := by
  have hr := pp_right (b := []) (s := 0) (k := 0) (w := w) hb (by simp) (by omega) (by omega) (by omega)
  have hf : fine ⟨a, 1, 0, word⟩ = true := by simp [fine]; omega
  rw [pCome, hr, hf]
  by_cases e : a = b
  · subst e
    rw [if_neg (by simp [pp])]
    by_cases h : w = 1
    · subst h; rw [if_pos (by simp [pp]), if_pos ⟨rfl, rfl⟩]; rfl
    · rw [if_neg (by simp [pp]; omega), if_neg (fun k => h k.2)]; rfl
  · rw [if_pos (by simp [pp, e]), if_neg (fun k => e k.1)]

set_option maxHeartbeats 0 in
theorem law17_PipeEpochs (a b t : Int) (word : List UInt8) (ha : 0 ≤ a ∧ a ≤ 65535) (hb : 0 ≤ b ∧ b ≤ 65535) (ht : 0 ≤ t ∧ t ≤ 255) (H : Heap) : AC Try.prog 8 [.int .u16 a, .int .u16 b, .pl (word.map brow), .int .u8 t] H (Ret (.bool true) H) := by
  refine AC.body (N := 88) [.tmp 8] Try.func8 rfl rfl rfl (Nat.le_of_ble_eq_true rfl) fun B hB => ?_
  repeat (first | refine join_ret ?_ | refine join_brk ?_ | refine then_nrm ?_ | refine blk_nrm ?_ | refine then_brk ?_ | refine blk_hit ?_ | refine blk_miss rfl ?_ | refine then_ret ?_ | refine blk_ret ?_ | refine aw_seq ?_ | refine aw_block ?_ | refine aw_skip ?_ | refine aw_exit ?_ | refine aw_ret ?_)
  refine aw_region ?_
  refine ao1 (by decide) (o_assign (v := .bool _) rfl) ?_
  refine ao_nil ?_
  try dsimp only [List.set_cons_zero, List.set_cons_succ, List.cons_append, List.nil_append, List.take_succ_cons, List.take_zero, List.drop_succ_cons, List.drop_zero, AV.cells, List.length_nil, List.length_cons, Av.put, Nat.reduceAdd, AV.up, AV.up1, List.map_cons, List.map_nil]
  repeat (first | refine join_ret ?_ | refine join_brk ?_ | refine then_nrm ?_ | refine blk_nrm ?_ | refine then_brk ?_ | refine blk_hit ?_ | refine blk_miss rfl ?_ | refine then_ret ?_ | refine blk_ret ?_ | refine aw_seq ?_ | refine aw_block ?_ | refine aw_skip ?_ | refine aw_exit ?_ | refine aw_ret ?_)
  refine aw_region ?_
  refine ao_ret (law17_awake _) rfl (by decide) ?_
  refine ao1 (by decide) (o_not rfl) ?_
  refine ao_nil ?_
  try dsimp only [List.set_cons_zero, List.set_cons_succ, List.cons_append, List.nil_append, List.take_succ_cons, List.take_zero, List.drop_succ_cons, List.drop_zero, AV.cells, List.length_nil, List.length_cons, Av.put, Nat.reduceAdd, AV.up, AV.up1, List.map_cons, List.map_nil]
  repeat (first | refine join_ret ?_ | refine join_brk ?_ | refine then_nrm ?_ | refine blk_nrm ?_ | refine then_brk ?_ | refine blk_hit ?_ | refine blk_miss rfl ?_ | refine then_ret ?_ | refine blk_ret ?_ | refine aw_seq ?_ | refine aw_block ?_ | refine aw_skip ?_ | refine aw_exit ?_ | refine aw_ret ?_)
  refine aw_cond rfl (fun hc => ?_) (fun hc => ?_)
  · simp at hc
  repeat (first | refine join_ret ?_ | refine join_brk ?_ | refine then_nrm ?_ | refine blk_nrm ?_ | refine then_brk ?_ | refine blk_hit ?_ | refine blk_miss rfl ?_ | refine then_ret ?_ | refine blk_ret ?_ | refine aw_seq ?_ | refine aw_block ?_ | refine aw_skip ?_ | refine aw_exit ?_ | refine aw_ret ?_)
  refine aw_region ?_
  first | refine ao1 (by decide) (o_move (v := .sl _ _ _ _ _) rfl) ?_ | refine ao1 (by decide) (o_move (v := .pl _) rfl) ?_ | refine ao1 (by decide) (o_move (v := .nsl) rfl) ?_
  first | refine ao1 (by decide) (o_lenp rfl) ?_ | refine ao1 (by decide) (w_lens rfl (lk rfl rfl) rfl) ?_ | refine ao1 (by decide) (o_lenn rfl) ?_ | refine ao1 (by decide) (o_lenStr rfl) ?_ | refine ao1 (by decide) (w_lens rfl (lkF hF) rfl) ?_
  refine ao1 (by decide) (o_gt rfl rfl) ?_
  refine ao_nil ?_
  try dsimp only [List.set_cons_zero, List.set_cons_succ, List.cons_append, List.nil_append, List.take_succ_cons, List.take_zero, List.drop_succ_cons, List.drop_zero, AV.cells, List.length_nil, List.length_cons, Av.put, Nat.reduceAdd, AV.up, AV.up1, List.map_cons, List.map_nil]
  repeat (first | refine join_ret ?_ | refine join_brk ?_ | refine then_nrm ?_ | refine blk_nrm ?_ | refine then_brk ?_ | refine blk_hit ?_ | refine blk_miss rfl ?_ | refine then_ret ?_ | refine blk_ret ?_ | refine aw_seq ?_ | refine aw_block ?_ | refine aw_skip ?_ | refine aw_exit ?_ | refine aw_ret ?_)
  refine aw_cond rfl (fun hc => ?_) (fun hc => ?_)
  · repeat (first | refine join_ret ?_ | refine join_brk ?_ | refine then_nrm ?_ | refine blk_nrm ?_ | refine then_brk ?_ | refine blk_hit ?_ | refine blk_miss rfl ?_ | refine then_ret ?_ | refine blk_ret ?_ | refine aw_seq ?_ | refine aw_block ?_ | refine aw_skip ?_ | refine aw_exit ?_ | refine aw_ret ?_)
    refine aw_region ?_
    refine ao1 (by decide) (o_assign (v := .bool _) rfl) ?_
    refine ao_nil ?_
    try dsimp only [List.set_cons_zero, List.set_cons_succ, List.cons_append, List.nil_append, List.take_succ_cons, List.take_zero, List.drop_succ_cons, List.drop_zero, AV.cells, List.length_nil, List.length_cons, Av.put, Nat.reduceAdd, AV.up, AV.up1, List.map_cons, List.map_nil]
    repeat (first | refine join_ret ?_ | refine join_brk ?_ | refine then_nrm ?_ | refine blk_nrm ?_ | refine then_brk ?_ | refine blk_hit ?_ | refine blk_miss rfl ?_ | refine then_ret ?_ | refine blk_ret ?_ | refine aw_seq ?_ | refine aw_block ?_ | refine aw_skip ?_ | refine aw_exit ?_ | refine aw_ret ?_)
    exact e_done hB (r_tmp rfl .nil) rfl rfl
  have hwl : word.length ≤ 4096 := by simp at hc; omega
  have c1 := fun H => pipe_New a H
  have c2 := fun H => pipe_New b H
  rw [pp_new word ha] at c1
  rw [pp_new [] hb] at c2
  have c3 := fun H => pipe_Say (pp a word 0 0 1) word H (by rw [pp_len]; omega) (by intro x hx; simp [pp] at hx) (by omega)
  rw [pp_say ha hwl (by omega) (by omega) (by omega), if_pos (by omega)] at c3
  have c4 := fun H => pipe_Goes (pp a word 0 (0 + 1) 1) H (by rw [pp_len]; omega) (by intro x hx; simp [pp] at hx; subst hx; simp; omega)
  rw [pp_goes ha hwl (by omega) (by omega) (by omega) (by omega), show (pp a word 0 (0 + 1) 1).out.map (ackd (pp a word 0 (0 + 1) 1)) = [⟨a, 1, 0, word⟩] from rfl] at c4
  repeat (first | refine join_ret ?_ | refine join_brk ?_ | refine then_nrm ?_ | refine blk_nrm ?_ | refine then_brk ?_ | refine blk_hit ?_ | refine blk_miss rfl ?_ | refine then_ret ?_ | refine blk_ret ?_ | refine aw_seq ?_ | refine aw_block ?_ | refine aw_skip ?_ | refine aw_exit ?_ | refine aw_ret ?_)
  refine aw_region ?_
  refine ao1 (by decide) (o_move (v := .int _ _) rfl) ?_
  first | refine ao1 (by decide) (o_conv_int rfl (wrap64_ok (by omega) (by omega))) ?_ | refine ao1 (by decide) (o_conv_int rfl rfl) ?_
  refine ao2 (by rintro _ ⟨⟩; decide) (V2.call (c1 _) rfl) ?_
  refine ao1 (by decide) (o_move (v := .tup _) rfl) ?_
  refine ao1 (by decide) (o_extract (v := .agg _) rfl rfl) ?_
  refine ao1 (by decide) (o_extract (v := .int _ _) rfl rfl) ?_
  refine ao2 (by rintro _ ⟨⟩; decide) (o_allocL (sz := 4) rfl (by decide) rfl) ?_
  first | refine ao2 (by rintro _ ⟨⟩) (w_storeW (sz := 4) rfl rfl rfl rfl rfl rfl rfl rfl (Nat.le_of_ble_eq_true rfl)) ?_ | refine ao2 (by rintro _ ⟨⟩) (w_storeFP (sz := 4) (v := .agg _) (r' := [_, _, _, _]) rfl hF rfl rfl rfl rfl rfl (Nat.le_of_ble_eq_true rfl) rfl) ?_ | refine ao2 (by rintro _ ⟨⟩) (w_storeFP (sz := 4) (v := .agg _) (r' := [_, _, _, _]) rfl hF1 rfl rfl rfl rfl rfl (Nat.le_of_ble_eq_true rfl) rfl) ?_
  refine ao1 (by decide) (o_assign (v := .int _ _) rfl) ?_
  refine ao_nil ?_
  try dsimp only [List.set_cons_zero, List.set_cons_succ, List.cons_append, List.nil_append, List.take_succ_cons, List.take_zero, List.drop_succ_cons, List.drop_zero, AV.cells, List.length_nil, List.length_cons, Av.put, Nat.reduceAdd, AV.up, AV.up1, List.map_cons, List.map_nil]
  repeat (first | refine join_ret ?_ | refine join_brk ?_ | refine then_nrm ?_ | refine blk_nrm ?_ | refine then_brk ?_ | refine blk_hit ?_ | refine blk_miss rfl ?_ | refine then_ret ?_ | refine blk_ret ?_ | refine aw_seq ?_ | refine aw_block ?_ | refine aw_skip ?_ | refine aw_exit ?_ | refine aw_ret ?_)
  refine aw_region ?_
  refine ao1 (by decide) (o_move (v := .int _ _) rfl) ?_
  first | refine ao1 (by decide) (o_conv_int rfl (wrap64_ok (by omega) (by omega))) ?_ | refine ao1 (by decide) (o_conv_int rfl rfl) ?_
  refine ao2 (by rintro _ ⟨⟩; decide) (V2.call (c2 _) rfl) ?_
  refine ao1 (by decide) (o_move (v := .tup _) rfl) ?_
  refine ao1 (by decide) (o_extract (v := .agg _) rfl rfl) ?_
  refine ao1 (by decide) (o_extract (v := .int _ _) rfl rfl) ?_
  refine ao2 (by rintro _ ⟨⟩; decide) (o_allocL (sz := 4) rfl (by decide) rfl) ?_
  first | refine ao2 (by rintro _ ⟨⟩) (w_storeW (sz := 4) rfl rfl rfl rfl rfl rfl rfl rfl (Nat.le_of_ble_eq_true rfl)) ?_ | refine ao2 (by rintro _ ⟨⟩) (w_storeFP (sz := 4) (v := .agg _) (r' := [_, _, _, _]) rfl hF rfl rfl rfl rfl rfl (Nat.le_of_ble_eq_true rfl) rfl) ?_ | refine ao2 (by rintro _ ⟨⟩) (w_storeFP (sz := 4) (v := .agg _) (r' := [_, _, _, _]) rfl hF1 rfl rfl rfl rfl rfl (Nat.le_of_ble_eq_true rfl) rfl) ?_
  refine ao1 (by decide) (o_assign (v := .int _ _) rfl) ?_
  refine ao_nil ?_
  try dsimp only [List.set_cons_zero, List.set_cons_succ, List.cons_append, List.nil_append, List.take_succ_cons, List.take_zero, List.drop_succ_cons, List.drop_zero, AV.cells, List.length_nil, List.length_cons, Av.put, Nat.reduceAdd, AV.up, AV.up1, List.map_cons, List.map_nil]
  repeat (first | refine join_ret ?_ | refine join_brk ?_ | refine then_nrm ?_ | refine blk_nrm ?_ | refine then_brk ?_ | refine blk_hit ?_ | refine blk_miss rfl ?_ | refine then_ret ?_ | refine blk_ret ?_ | refine aw_seq ?_ | refine aw_block ?_ | refine aw_skip ?_ | refine aw_exit ?_ | refine aw_ret ?_)
  refine aw_region ?_
  first | refine ao1 (by decide) (w_loadR rfl (lk rfl rfl) rfl rfl rfl) ?_ | refine ao1 (by decide) (w_loadR rfl (lk rfl rfl) rfl (zadd hr) rfl) ?_ | refine ao1 (by decide) (w_loadR rfl (lk rfl rfl) rfl (zadd hr1) rfl) ?_ | refine ao1 (by decide) (w_loadR rfl (lk rfl rfl) rfl (zadd hr2) rfl) ?_ | refine ao1 (by decide) (w_loadRp rfl hr rfl) ?_ | refine ao1 (by decide) (w_loadRp rfl hr1 rfl) ?_ | refine ao1 (by decide) (w_loadRp rfl hr2 rfl) ?_ | refine ao1 (by decide) (w_loadN (cs := [_, _, _, _]) rfl (lk rfl rfl) rfl rfl rfl rfl) ?_ | refine ao1 (by decide) (o_loadNp (cs := [_, _, _, _]) rfl hr rfl rfl) ?_ | refine ao1 (by decide) (o_loadNp (cs := [_, _, _, _]) rfl hr1 rfl rfl) ?_ | refine ao1 (by decide) (o_loadNp (cs := [_, _, _, _]) rfl hr2 rfl rfl) ?_ | refine ao1 (by decide) (w_loadR rfl (lkF hF) rfl rfl rfl) ?_ | refine ao1 (by decide) (w_loadN (cs := [_, _, _, _]) rfl (lkF hF) rfl rfl rfl rfl) ?_
  first | refine ao1 (by decide) (o_move (v := .sl _ _ _ _ _) rfl) ?_ | refine ao1 (by decide) (o_move (v := .pl _) rfl) ?_ | refine ao1 (by decide) (o_move (v := .nsl) rfl) ?_
  refine ao2 (by rintro _ ⟨⟩; decide) (V2.call (c3 _) rfl) ?_
  refine ao1 (by decide) (o_move (v := .tup _) rfl) ?_
  refine ao1 (by decide) (o_extract (v := .agg _) rfl rfl) ?_
  refine ao1 (by decide) (o_extract (v := .int _ _) rfl rfl) ?_
  first | refine ao2 (by rintro _ ⟨⟩) (w_storeW (sz := 4) rfl rfl rfl rfl rfl rfl rfl rfl (Nat.le_of_ble_eq_true rfl)) ?_ | refine ao2 (by rintro _ ⟨⟩) (w_storeFP (sz := 4) (v := .agg _) (r' := [_, _, _, _]) rfl hF rfl rfl rfl rfl rfl (Nat.le_of_ble_eq_true rfl) rfl) ?_ | refine ao2 (by rintro _ ⟨⟩) (w_storeFP (sz := 4) (v := .agg _) (r' := [_, _, _, _]) rfl hF1 rfl rfl rfl rfl rfl (Nat.le_of_ble_eq_true rfl) rfl) ?_
  refine ao1 (by decide) (o_assign (v := .int _ _) rfl) ?_
  refine ao_nil ?_
  try dsimp only [List.set_cons_zero, List.set_cons_succ, List.cons_append, List.nil_append, List.take_succ_cons, List.take_zero, List.drop_succ_cons, List.drop_zero, AV.cells, List.length_nil, List.length_cons, Av.put, Nat.reduceAdd, AV.up, AV.up1, List.map_cons, List.map_nil]
  repeat (first | refine join_ret ?_ | refine join_brk ?_ | refine then_nrm ?_ | refine blk_nrm ?_ | refine then_brk ?_ | refine blk_hit ?_ | refine blk_miss rfl ?_ | refine then_ret ?_ | refine blk_ret ?_ | refine aw_seq ?_ | refine aw_block ?_ | refine aw_skip ?_ | refine aw_exit ?_ | refine aw_ret ?_)
  refine aw_region ?_
  first | refine ao1 (by decide) (w_loadR rfl (lk rfl rfl) rfl rfl rfl) ?_ | refine ao1 (by decide) (w_loadR rfl (lk rfl rfl) rfl (zadd hr) rfl) ?_ | refine ao1 (by decide) (w_loadR rfl (lk rfl rfl) rfl (zadd hr1) rfl) ?_ | refine ao1 (by decide) (w_loadR rfl (lk rfl rfl) rfl (zadd hr2) rfl) ?_ | refine ao1 (by decide) (w_loadRp rfl hr rfl) ?_ | refine ao1 (by decide) (w_loadRp rfl hr1 rfl) ?_ | refine ao1 (by decide) (w_loadRp rfl hr2 rfl) ?_ | refine ao1 (by decide) (w_loadN (cs := [_, _, _, _]) rfl (lk rfl rfl) rfl rfl rfl rfl) ?_ | refine ao1 (by decide) (o_loadNp (cs := [_, _, _, _]) rfl hr rfl rfl) ?_ | refine ao1 (by decide) (o_loadNp (cs := [_, _, _, _]) rfl hr1 rfl rfl) ?_ | refine ao1 (by decide) (o_loadNp (cs := [_, _, _, _]) rfl hr2 rfl rfl) ?_ | refine ao1 (by decide) (w_loadR rfl (lkF hF) rfl rfl rfl) ?_ | refine ao1 (by decide) (w_loadN (cs := [_, _, _, _]) rfl (lkF hF) rfl rfl rfl rfl) ?_
  refine ao2 (by rintro _ ⟨⟩; decide) (V2.call (c4 _) rfl) ?_
  first | refine ao1 (by decide) (o_assign (v := .sl _ _ _ _ _) rfl) ?_ | refine ao1 (by decide) (o_assign (v := .pl _) rfl) ?_ | refine ao1 (by decide) (o_assign (v := .nsl) rfl) ?_
  refine ao_nil ?_
  try dsimp only [List.set_cons_zero, List.set_cons_succ, List.cons_append, List.nil_append, List.take_succ_cons, List.take_zero, List.drop_succ_cons, List.drop_zero, AV.cells, List.length_nil, List.length_cons, Av.put, Nat.reduceAdd, AV.up, AV.up1, List.map_cons, List.map_nil]
  repeat (first | refine join_ret ?_ | refine join_brk ?_ | refine then_nrm ?_ | refine blk_nrm ?_ | refine then_brk ?_ | refine blk_hit ?_ | refine blk_miss rfl ?_ | refine then_ret ?_ | refine blk_ret ?_ | refine aw_seq ?_ | refine aw_block ?_ | refine aw_skip ?_ | refine aw_exit ?_ | refine aw_ret ?_)
  refine aw_out 51 (.bool false) ?_ ?_
  · refine ao1 (by decide) (o_move (v := .int _ _) rfl) ?_
    refine ao1 (by decide) (o_ne rfl rfl) ?_
    refine ao1 (by decide) (o_move (v := .bool _) rfl) ?_
    refine ao_split rfl rfl (fun hg2 => ?_) (fun hg2 => ?_)
    · refine ao_nF rfl rfl (by decide) ?_
      refine ao_nF rfl rfl (by decide) ?_
      refine ao_nF rfl rfl (by decide) ?_
      first | refine ao1 (by decide) (o_pick_t (v := .bool _) rfl rfl) ?_ | refine ao1 (by decide) (o_pick_f (v := .bool _) rfl rfl) ?_ | refine ao1 (by decide) (o_pick_b rfl rfl rfl) ?_
      exact ao_nil (Out.mk (by first | rfl | (refine congrArg AV.bool ?_; first | (simp at *; done) | (simp_all; done))) (by repeat (first | exact SubX.refl _ _ | refine SubX.at ?_ | refine SubX.put rfl ?_ | refine SubX.put_same rfl ?_)))
    · first | refine ao_y1 rfl rfl (by decide) (o_move (v := .sl _ _ _ _ _) rfl) ?_ | refine ao_y1 rfl rfl (by decide) (o_move (v := .pl _) rfl) ?_ | refine ao_y1 rfl rfl (by decide) (o_move (v := .nsl) rfl) ?_
      first | refine ao_y1 rfl rfl (by decide) (o_lenp rfl) ?_ | refine ao_y1 rfl rfl (by decide) (w_lens rfl (lk rfl rfl) rfl) ?_ | refine ao_y1 rfl rfl (by decide) (o_lenn rfl) ?_ | refine ao_y1 rfl rfl (by decide) (o_lenStr rfl) ?_ | refine ao_y1 rfl rfl (by decide) (w_lens rfl (lkF hF) rfl) ?_
      refine ao_y1 rfl rfl (by decide) (o_ne rfl rfl) ?_
      first | refine ao1 (by decide) (o_pick_t (v := .bool _) rfl rfl) ?_ | refine ao1 (by decide) (o_pick_f (v := .bool _) rfl rfl) ?_ | refine ao1 (by decide) (o_pick_b rfl rfl rfl) ?_
      exact ao_nil (Out.mk (by first | rfl | (refine congrArg AV.bool ?_; first | (simp at *; done) | (simp_all; done))) (by repeat (first | exact SubX.refl _ _ | refine SubX.at ?_ | refine SubX.put rfl ?_ | refine SubX.put_same rfl ?_)))
  repeat (first | refine join_ret ?_ | refine join_brk ?_ | refine then_nrm ?_ | refine blk_nrm ?_ | refine then_brk ?_ | refine blk_hit ?_ | refine blk_miss rfl ?_ | refine then_ret ?_ | refine blk_ret ?_ | refine aw_seq ?_ | refine aw_block ?_ | refine aw_skip ?_ | refine aw_exit ?_ | refine aw_ret ?_)
  refine aw_cond rfl (fun hc => ?_) (fun hc => ?_)
  · simp at hc
  obtain ⟨m, hm, hm8⟩ : ∃ m : Nat, t.tmod 9 = (m : Int) ∧ m ≤ 8 := ⟨(t.tmod 9).toNat, by rw [Int.tmod_eq_emod_of_nonneg ht.1]; omega, by rw [Int.tmod_eq_emod_of_nonneg ht.1]; omega⟩
  repeat (first | refine join_ret ?_ | refine join_brk ?_ | refine then_nrm ?_ | refine blk_nrm ?_ | refine then_brk ?_ | refine blk_hit ?_ | refine blk_miss rfl ?_ | refine then_ret ?_ | refine blk_ret ?_ | refine aw_seq ?_ | refine aw_block ?_ | refine aw_skip ?_ | refine aw_exit ?_ | refine aw_ret ?_)
  refine aw_region ?_
  refine ao1 (by decide) (o_assign (v := .int _ _) rfl) ?_
  refine ao_nil ?_
  try dsimp only [List.set_cons_zero, List.set_cons_succ, List.cons_append, List.nil_append, List.take_succ_cons, List.take_zero, List.drop_succ_cons, List.drop_zero, AV.cells, List.length_nil, List.length_cons, Av.put, Nat.reduceAdd, AV.up, AV.up1, List.map_cons, List.map_nil]
  repeat (first | refine join_ret ?_ | refine join_brk ?_ | refine then_nrm ?_ | refine blk_nrm ?_ | refine then_brk ?_ | refine blk_hit ?_ | refine blk_miss rfl ?_ | refine then_ret ?_ | refine blk_ret ?_ | refine aw_seq ?_ | refine aw_block ?_ | refine aw_skip ?_ | refine aw_exit ?_ | refine aw_ret ?_)
  refine aw_region ?_
  refine ao1 (by decide) (o_assign (v := .int _ _) rfl) ?_
  refine ao_nil ?_
  try dsimp only [List.set_cons_zero, List.set_cons_succ, List.cons_append, List.nil_append, List.take_succ_cons, List.take_zero, List.drop_succ_cons, List.drop_zero, AV.cells, List.length_nil, List.length_cons, Av.put, Nat.reduceAdd, AV.up, AV.up1, List.map_cons, List.map_nil]
  repeat (first | refine join_ret ?_ | refine join_brk ?_ | refine then_nrm ?_ | refine blk_nrm ?_ | refine then_brk ?_ | refine blk_hit ?_ | refine blk_miss rfl ?_ | refine then_ret ?_ | refine blk_ret ?_ | refine aw_seq ?_ | refine aw_block ?_ | refine aw_skip ?_ | refine aw_exit ?_)
  have hr := map_get ePacket (show ([⟨a, 1, 0, word⟩] : List Packet)[0]? = some ⟨a, 1, 0, word⟩ from rfl)
  refine aw_loop (G := Nat) (fun k => k ≤ m + 1) (fun k => [(0, .int .u16 a), (1, .int .u16 b), (2, .pl (word.map brow)), (3, .int .u8 t), (11, .pt (Lid H.length 1) 0 0 0), (14, .pl ([(⟨a, 1, 0, word⟩ : Packet)].map ePacket)), (15, .int .i64 (if 0 < k ∧ a = b then 1 else 0)), (16, .int .i64 (k : Int))]) (fun k => H ++ [⟨0, 4, [ePipe (pp a word 0 (0 + 1) 1)]⟩, ⟨0, 4, [ePipe (pp b [] 0 0 (if 0 < k ∧ a = b then 2 else 1))]⟩]) (fun k => m + 1 - k) 0 (Nat.zero_le _) (by repeat (first | exact Sub.nil | refine Sub.cons (by first | rfl | (simp [get]; done)) ?_)) (Fit.refl _ _) ?_
  intro k hk
  repeat (first | refine join_ret ?_ | refine join_brk ?_ | refine then_nrm ?_ | refine blk_nrm ?_ | refine then_brk ?_ | refine blk_hit ?_ | refine blk_miss rfl ?_ | refine then_ret ?_ | refine blk_ret ?_ | refine aw_seq ?_ | refine aw_block ?_ | refine aw_skip ?_ | refine aw_exit ?_ | refine aw_ret ?_)
  refine aw_region ?_
  refine ao1 (by decide) (o_move (v := .int _ _) rfl) ?_
  refine ao1 (by decide) (o_move (v := .int _ _) rfl) ?_
  refine ao1 (by decide) (o_rem rfl rfl (by omega) hm) ?_
  first | refine ao1 (by decide) (o_conv_int rfl (wrap64_ok (by omega) (by omega))) ?_ | refine ao1 (by decide) (o_conv_int rfl rfl) ?_
  refine ao1 (by decide) (o_le rfl rfl) ?_
  refine ao_nil ?_
  try dsimp only [List.set_cons_zero, List.set_cons_succ, List.cons_append, List.nil_append, List.take_succ_cons, List.take_zero, List.drop_succ_cons, List.drop_zero, AV.cells, List.length_nil, List.length_cons, Av.put, Nat.reduceAdd, AV.up, AV.up1, List.map_cons, List.map_nil]
  repeat (first | refine join_ret ?_ | refine join_brk ?_ | refine then_nrm ?_ | refine blk_nrm ?_ | refine then_brk ?_ | refine blk_hit ?_ | refine blk_miss rfl ?_ | refine then_ret ?_ | refine blk_ret ?_ | refine aw_seq ?_ | refine aw_block ?_ | refine aw_skip ?_ | refine aw_exit ?_ | refine aw_ret ?_)
  refine aw_cond rfl (fun hc => ?_) (fun hc => ?_)
  · have hkm : k ≤ m := by simp at hc; omega
    have c5 := fun H => pipe_Come (pp b [] 0 0 (if 0 < k ∧ a = b then 2 else 1)) ⟨a, 1, 0, word⟩ H (by rw [pp_len]; omega) (by intro x hx; simp [pp] at hx) (by simp; omega)
    rw [pp_first ha hb hwl (by split <;> omega)] at c5
    by_cases h : a = b ∧ k = 0
    · obtain ⟨h1, rfl⟩ := h
      rw [if_neg (show ¬(0 < 0 ∧ a = b) by omega)] at c5 ⊢
      rw [if_pos ⟨h1, rfl⟩] at c5
      repeat (first | refine join_ret ?_ | refine join_brk ?_ | refine then_nrm ?_ | refine blk_nrm ?_ | refine then_brk ?_ | refine blk_hit ?_ | refine blk_miss rfl ?_ | refine then_ret ?_ | refine blk_ret ?_ | refine aw_seq ?_ | refine aw_block ?_ | refine aw_skip ?_ | refine aw_exit ?_ | refine aw_ret ?_)
      refine aw_drawP mixed none 2 ?_
      try dsimp only [List.take_succ_cons, List.take_zero, List.take_nil, List.set_cons_zero, List.set_cons_succ, List.cons_append, List.nil_append]
      first | refine aqp 0 rfl (by decide +kernel) (by decide) (fun G => w_loadR rfl (lk rfl rfl) rfl rfl rfl) ?_ | refine aqp 0 rfl (by decide +kernel) (by decide) (fun G => w_loadR rfl (lk rfl rfl) rfl (zadd hr) rfl) ?_ | refine aqp 0 rfl (by decide +kernel) (by decide) (fun G => w_loadR rfl (lk rfl rfl) rfl (zadd hr1) rfl) ?_ | refine aqp 0 rfl (by decide +kernel) (by decide) (fun G => w_loadR rfl (lk rfl rfl) rfl (zadd hr2) rfl) ?_ | refine aqp 0 rfl (by decide +kernel) (by decide) (fun G => w_loadRp rfl hr rfl) ?_ | refine aqp 0 rfl (by decide +kernel) (by decide) (fun G => w_loadRp rfl hr1 rfl) ?_ | refine aqp 0 rfl (by decide +kernel) (by decide) (fun G => w_loadRp rfl hr2 rfl) ?_ | refine aqp 0 rfl (by decide +kernel) (by decide) (fun G => w_loadN (cs := [_, _, _, _]) rfl (lk rfl rfl) rfl rfl rfl rfl) ?_ | refine aqp 0 rfl (by decide +kernel) (by decide) (fun G => o_loadNp (cs := [_, _, _, _]) rfl hr rfl rfl) ?_ | refine aqp 0 rfl (by decide +kernel) (by decide) (fun G => o_loadNp (cs := [_, _, _, _]) rfl hr1 rfl rfl) ?_ | refine aqp 0 rfl (by decide +kernel) (by decide) (fun G => o_loadNp (cs := [_, _, _, _]) rfl hr2 rfl rfl) ?_ | refine aqp 0 rfl (by decide +kernel) (by decide) (fun G => w_loadR rfl (lkF hF) rfl rfl rfl) ?_ | refine aqp 0 rfl (by decide +kernel) (by decide) (fun G => w_loadN (cs := [_, _, _, _]) rfl (lkF hF) rfl rfl rfl rfl) ?_
      first | refine aq0 1 rfl (by decide +kernel) (by decide) (fun _ => o_move (v := .sl _ _ _ _ _) rfl) ?_ | refine aq0 1 rfl (by decide +kernel) (by decide) (fun _ => o_move (v := .pl _) rfl) ?_ | refine aq0 1 rfl (by decide +kernel) (by decide) (fun _ => o_move (v := .nsl) rfl) ?_
      first | refine aqp 2 rfl (by decide +kernel) (by decide) (fun G => w_indexAddrpN rfl rfl hr rfl) ?_ | refine aqp 2 rfl (by decide +kernel) (by decide) (fun G => w_indexAddrpN rfl rfl hr1 rfl) ?_ | refine aqp 2 rfl (by decide +kernel) (by decide) (fun G => w_indexAddrpN rfl rfl hr2 rfl) ?_ | refine aqp 2 rfl (by decide +kernel) (by decide) (fun G => w_indexAddrN rfl (lk rfl rfl) rfl rfl rfl (by omega)) ?_ | refine aqp 2 rfl (by decide +kernel) (by decide) (fun G => w_indexAddrp rfl rfl (by omega) hr rfl) ?_ | refine aqp 2 rfl (by decide +kernel) (by decide) (fun G => w_indexAddrp rfl rfl (by omega) hr1 rfl) ?_ | refine aqp 2 rfl (by decide +kernel) (by decide) (fun G => w_indexAddrp rfl rfl (by omega) hr2 rfl) ?_ | refine aqp 2 rfl (by decide +kernel) (by decide) (fun G => w_indexAddr rfl (lk rfl rfl) rfl rfl rfl (by omega) (by omega)) ?_
      first | refine aqp 3 rfl (by decide +kernel) (by decide) (fun G => w_loadR rfl (lk rfl rfl) rfl rfl rfl) ?_ | refine aqp 3 rfl (by decide +kernel) (by decide) (fun G => w_loadR rfl (lk rfl rfl) rfl (zadd hr) rfl) ?_ | refine aqp 3 rfl (by decide +kernel) (by decide) (fun G => w_loadR rfl (lk rfl rfl) rfl (zadd hr1) rfl) ?_ | refine aqp 3 rfl (by decide +kernel) (by decide) (fun G => w_loadR rfl (lk rfl rfl) rfl (zadd hr2) rfl) ?_ | refine aqp 3 rfl (by decide +kernel) (by decide) (fun G => w_loadRp rfl hr rfl) ?_ | refine aqp 3 rfl (by decide +kernel) (by decide) (fun G => w_loadRp rfl hr1 rfl) ?_ | refine aqp 3 rfl (by decide +kernel) (by decide) (fun G => w_loadRp rfl hr2 rfl) ?_ | refine aqp 3 rfl (by decide +kernel) (by decide) (fun G => w_loadN (cs := [_, _, _, _]) rfl (lk rfl rfl) rfl rfl rfl rfl) ?_ | refine aqp 3 rfl (by decide +kernel) (by decide) (fun G => o_loadNp (cs := [_, _, _, _]) rfl hr rfl rfl) ?_ | refine aqp 3 rfl (by decide +kernel) (by decide) (fun G => o_loadNp (cs := [_, _, _, _]) rfl hr1 rfl rfl) ?_ | refine aqp 3 rfl (by decide +kernel) (by decide) (fun G => o_loadNp (cs := [_, _, _, _]) rfl hr2 rfl rfl) ?_ | refine aqp 3 rfl (by decide +kernel) (by decide) (fun G => w_loadR rfl (lkF hF) rfl rfl rfl) ?_ | refine aqp 3 rfl (by decide +kernel) (by decide) (fun G => w_loadN (cs := [_, _, _, _]) rfl (lkF hF) rfl rfl rfl rfl) ?_
      refine aq02 4 rfl (by decide +kernel) (by decide) (fun _ => V2.call (c5 _) rfl) ?_
      refine aq0 5 rfl (by decide +kernel) (by decide) (fun _ => o_move (v := .tup _) rfl) ?_
      refine aq0 6 rfl (by decide +kernel) (by decide) (fun _ => o_extract (v := .agg _) rfl rfl) ?_
      first | refine aq0 7 rfl (by decide +kernel) (by decide) (fun _ => o_extract (v := .sl _ _ _ _ _) rfl rfl) ?_ | refine aq0 7 rfl (by decide +kernel) (by decide) (fun _ => o_extract (v := .pl _) rfl rfl) ?_ | refine aq0 7 rfl (by decide +kernel) (by decide) (fun _ => o_extract (v := .nsl) rfl rfl) ?_
      refine aq0 8 rfl (by decide +kernel) (by decide) (fun _ => o_extract (v := .bool _) rfl rfl) ?_
      refine aqs 9 rfl (by decide +kernel) (by first | exact fun _ => trivial | exact fun _ => ⟨_, rfl⟩ | exact fun _ => ⟨_, rfl, rfl⟩ | exact yet_done (by decide +kernel)) (by rintro _ ⟨⟩; decide) (o_allocL (sz := 4) rfl (by decide) rfl) ?_
      first | refine aqs 10 rfl (by decide +kernel) (by first | exact fun _ => trivial | exact fun _ => ⟨_, rfl⟩ | exact fun _ => ⟨_, rfl, rfl⟩ | exact yet_done (by decide +kernel)) (by rintro _ ⟨⟩) (w_storeW (sz := 4) rfl rfl rfl rfl rfl rfl rfl rfl (Nat.le_of_ble_eq_true rfl)) ?_ | refine aqs 10 rfl (by decide +kernel) (by first | exact fun _ => trivial | exact fun _ => ⟨_, rfl⟩ | exact fun _ => ⟨_, rfl, rfl⟩ | exact yet_done (by decide +kernel)) (by rintro _ ⟨⟩) (w_storeFP (sz := 4) (v := .agg _) (r' := [_, _, _, _]) rfl hF rfl rfl rfl rfl rfl (Nat.le_of_ble_eq_true rfl) rfl) ?_ | refine aqs 10 rfl (by decide +kernel) (by first | exact fun _ => trivial | exact fun _ => ⟨_, rfl⟩ | exact fun _ => ⟨_, rfl, rfl⟩ | exact yet_done (by decide +kernel)) (by rintro _ ⟨⟩) (w_storeFP (sz := 4) (v := .agg _) (r' := [_, _, _, _]) rfl hF1 rfl rfl rfl rfl rfl (Nat.le_of_ble_eq_true rfl) rfl) ?_
      first | refine aq0 11 rfl (by decide +kernel) (by decide) (fun _ => o_assign (v := .sl _ _ _ _ _) rfl) ?_ | refine aq0 11 rfl (by decide +kernel) (by decide) (fun _ => o_assign (v := .pl _) rfl) ?_ | refine aq0 11 rfl (by decide +kernel) (by decide) (fun _ => o_assign (v := .nsl) rfl) ?_
      refine aq0 12 rfl (by decide +kernel) (by decide) (fun _ => o_assign (v := .bool _) rfl) ?_
      refine aa_done (by decide +kernel) (by first | exact fun _ => trivial | exact fun _ => ⟨_, rfl⟩ | exact fun _ => ⟨_, rfl, rfl⟩ | exact yet_done (by decide +kernel)) ?_
      try dsimp only [List.set_cons_zero, List.set_cons_succ, List.cons_append, List.nil_append, List.take_succ_cons, List.take_zero, List.drop_succ_cons, List.drop_zero, AV.cells, List.length_nil, List.length_cons, Av.put, Nat.reduceAdd, AV.up, AV.up1, List.map_cons, List.map_nil]
      repeat (first | refine join_ret ?_ | refine join_brk ?_ | refine then_nrm ?_ | refine blk_nrm ?_ | refine then_brk ?_ | refine blk_hit ?_ | refine blk_miss rfl ?_ | refine then_ret ?_ | refine blk_ret ?_ | refine aw_seq ?_ | refine aw_block ?_ | refine aw_skip ?_ | refine aw_exit ?_ | refine aw_ret ?_)
      refine aw_region ?_
      refine ao1 (by decide) (o_move (v := .bool _) rfl) ?_
      refine ao_nil ?_
      try dsimp only [List.set_cons_zero, List.set_cons_succ, List.cons_append, List.nil_append, List.take_succ_cons, List.take_zero, List.drop_succ_cons, List.drop_zero, AV.cells, List.length_nil, List.length_cons, Av.put, Nat.reduceAdd, AV.up, AV.up1, List.map_cons, List.map_nil]
      repeat (first | refine join_ret ?_ | refine join_brk ?_ | refine then_nrm ?_ | refine blk_nrm ?_ | refine then_brk ?_ | refine blk_hit ?_ | refine blk_miss rfl ?_ | refine then_ret ?_ | refine blk_ret ?_ | refine aw_seq ?_ | refine aw_block ?_ | refine aw_skip ?_ | refine aw_exit ?_ | refine aw_ret ?_)
      refine aw_cond rfl (fun hc => ?_) (fun hc => ?_)
      · repeat (first | refine join_ret ?_ | refine join_brk ?_ | refine then_nrm ?_ | refine blk_nrm ?_ | refine then_brk ?_ | refine blk_hit ?_ | refine blk_miss rfl ?_ | refine then_ret ?_ | refine blk_ret ?_ | refine aw_seq ?_ | refine aw_block ?_ | refine aw_skip ?_ | refine aw_exit ?_ | refine aw_ret ?_)
        refine aw_region ?_
        refine ao1 (by decide) (o_move (v := .int _ _) rfl) ?_
        first | refine ao1 (by decide) (o_add rfl rfl (wrap64_ok (by omega) (by omega))) ?_ | refine ao1 (by decide) (o_add rfl rfl rfl) ?_
        refine ao1 (by decide) (o_assign (v := .int _ _) rfl) ?_
        refine ao_nil ?_
        try dsimp only [List.set_cons_zero, List.set_cons_succ, List.cons_append, List.nil_append, List.take_succ_cons, List.take_zero, List.drop_succ_cons, List.drop_zero, AV.cells, List.length_nil, List.length_cons, Av.put, Nat.reduceAdd, AV.up, AV.up1, List.map_cons, List.map_nil]
        repeat (first | refine join_ret ?_ | refine join_brk ?_ | refine then_nrm ?_ | refine blk_nrm ?_ | refine then_brk ?_ | refine blk_hit ?_ | refine blk_miss rfl ?_ | refine then_ret ?_ | refine blk_ret ?_ | refine aw_seq ?_ | refine aw_block ?_ | refine aw_skip ?_ | refine aw_exit ?_ | refine aw_ret ?_)
        refine aw_region ?_
        first | refine ao1 (by decide) (o_move (v := .sl _ _ _ _ _) rfl) ?_ | refine ao1 (by decide) (o_move (v := .pl _) rfl) ?_ | refine ao1 (by decide) (o_move (v := .nsl) rfl) ?_
        first | refine ao1 (by decide) (o_bytesStr rfl) ?_ | refine ao1 (by decide) (o_bytesStr_nsl rfl) ?_
        first | refine ao1 (by decide) (o_move (v := .sl _ _ _ _ _) rfl) ?_ | refine ao1 (by decide) (o_move (v := .pl _) rfl) ?_ | refine ao1 (by decide) (o_move (v := .nsl) rfl) ?_
        first | refine ao1 (by decide) (o_bytesStr rfl) ?_ | refine ao1 (by decide) (o_bytesStr_nsl rfl) ?_
        refine ao1 (by decide) (o_sned rfl rfl) ?_
        refine ao_nil ?_
        try dsimp only [List.set_cons_zero, List.set_cons_succ, List.cons_append, List.nil_append, List.take_succ_cons, List.take_zero, List.drop_succ_cons, List.drop_zero, AV.cells, List.length_nil, List.length_cons, Av.put, Nat.reduceAdd, AV.up, AV.up1, List.map_cons, List.map_nil]
        repeat (first | refine join_ret ?_ | refine join_brk ?_ | refine then_nrm ?_ | refine blk_nrm ?_ | refine then_brk ?_ | refine blk_hit ?_ | refine blk_miss rfl ?_ | refine then_ret ?_ | refine blk_ret ?_ | refine aw_seq ?_ | refine aw_block ?_ | refine aw_skip ?_ | refine aw_exit ?_ | refine aw_ret ?_)
        refine aw_cond rfl (fun hc => ?_) (fun hc => ?_)
        · simp at hc
        repeat (first | refine join_ret ?_ | refine join_brk ?_ | refine then_nrm ?_ | refine blk_nrm ?_ | refine then_brk ?_ | refine blk_hit ?_ | refine blk_miss rfl ?_ | refine then_ret ?_ | refine blk_ret ?_ | refine aw_seq ?_ | refine aw_block ?_ | refine aw_skip ?_ | refine aw_exit ?_ | refine aw_ret ?_)
        refine aw_region ?_
        first | refine ao1 (by decide) (w_loadR rfl (lk rfl rfl) rfl rfl rfl) ?_ | refine ao1 (by decide) (w_loadR rfl (lk rfl rfl) rfl (zadd hr) rfl) ?_ | refine ao1 (by decide) (w_loadR rfl (lk rfl rfl) rfl (zadd hr1) rfl) ?_ | refine ao1 (by decide) (w_loadR rfl (lk rfl rfl) rfl (zadd hr2) rfl) ?_ | refine ao1 (by decide) (w_loadRp rfl hr rfl) ?_ | refine ao1 (by decide) (w_loadRp rfl hr1 rfl) ?_ | refine ao1 (by decide) (w_loadRp rfl hr2 rfl) ?_ | refine ao1 (by decide) (w_loadN (cs := [_, _, _, _]) rfl (lk rfl rfl) rfl rfl rfl rfl) ?_ | refine ao1 (by decide) (o_loadNp (cs := [_, _, _, _]) rfl hr rfl rfl) ?_ | refine ao1 (by decide) (o_loadNp (cs := [_, _, _, _]) rfl hr1 rfl rfl) ?_ | refine ao1 (by decide) (o_loadNp (cs := [_, _, _, _]) rfl hr2 rfl rfl) ?_ | refine ao1 (by decide) (w_loadR rfl (lkF hF) rfl rfl rfl) ?_ | refine ao1 (by decide) (w_loadN (cs := [_, _, _, _]) rfl (lkF hF) rfl rfl rfl rfl) ?_
        first | refine ao2 (by rintro _ ⟨⟩) (w_storeW (sz := 4) rfl rfl rfl rfl rfl rfl rfl rfl (Nat.le_of_ble_eq_true rfl)) ?_ | refine ao2 (by rintro _ ⟨⟩) (w_storeFP (sz := 4) (v := .agg _) (r' := [_, _, _, _]) rfl hF rfl rfl rfl rfl rfl (Nat.le_of_ble_eq_true rfl) rfl) ?_ | refine ao2 (by rintro _ ⟨⟩) (w_storeFP (sz := 4) (v := .agg _) (r' := [_, _, _, _]) rfl hF1 rfl rfl rfl rfl rfl (Nat.le_of_ble_eq_true rfl) rfl) ?_
        refine ao_nil ?_
        try dsimp only [List.set_cons_zero, List.set_cons_succ, List.cons_append, List.nil_append, List.take_succ_cons, List.take_zero, List.drop_succ_cons, List.drop_zero, AV.cells, List.length_nil, List.length_cons, Av.put, Nat.reduceAdd, AV.up, AV.up1, List.map_cons, List.map_nil]
        repeat (first | refine join_ret ?_ | refine join_brk ?_ | refine then_nrm ?_ | refine blk_nrm ?_ | refine then_brk ?_ | refine blk_hit ?_ | refine blk_miss rfl ?_ | refine then_ret ?_ | refine blk_ret ?_ | refine aw_seq ?_ | refine aw_block ?_ | refine aw_skip ?_ | refine aw_exit ?_ | refine aw_ret ?_)
        refine aw_region ?_
        refine ao1 (by decide) (o_move (v := .int _ _) rfl) ?_
        first | refine ao1 (by decide) (o_add rfl rfl (wrap64_ok (by omega) (by omega))) ?_ | refine ao1 (by decide) (o_add rfl rfl rfl) ?_
        refine ao1 (by decide) (o_assign (v := .int _ _) rfl) ?_
        refine ao_nil ?_
        try dsimp only [List.set_cons_zero, List.set_cons_succ, List.cons_append, List.nil_append, List.take_succ_cons, List.take_zero, List.drop_succ_cons, List.drop_zero, AV.cells, List.length_nil, List.length_cons, Av.put, Nat.reduceAdd, AV.up, AV.up1, List.map_cons, List.map_nil]
        repeat (first | refine join_ret ?_ | refine join_brk ?_ | refine then_nrm ?_ | refine blk_nrm ?_ | refine then_brk ?_ | refine blk_hit ?_ | refine blk_miss rfl ?_ | refine then_ret ?_ | refine blk_ret ?_ | refine aw_seq ?_ | refine aw_block ?_ | refine aw_skip ?_ | refine aw_exit ?_ | refine aw_ret ?_)
        have ht1 : (0 < 1 ∧ a = b) = True := by simp [h1]
        refine ⟨1, by omega, by omega, ?_, ?_⟩
        · simp only [ht1, if_true]; exact (by repeat (first | exact Sub.nil | refine Sub.cons (by first | rfl | (simp [get]; done)) ?_))
        · simp only [ht1, if_true]
          refine Fit.loc hB rfl (by repeat (first | exact EBel.nil | refine EBel.cons (by first | rfl | (simp [AV.bel, AV.bels, Lid]; done) | (simp [AV.bel, AV.bels, Lid]; omega)) ?_)) ?_
          intro o ho r hr
          simp only [List.mem_cons, List.not_mem_nil, or_false] at ho
          rcases ho with rfl | rfl <;> (simp only [List.mem_singleton] at hr; subst hr; rfl)
      · simp at hc
    · rw [if_neg (show ¬(a = b ∧ (if 0 < k ∧ a = b then (2 : Int) else 1) = 1) by rintro ⟨h1, h2⟩; rw [if_pos (by omega)] at h2; omega)] at c5
      have c6 := fun H => ref17_Same (pp b [] 0 0 (if 0 < k ∧ a = b then 2 else 1)) (pp b [] 0 0 (if 0 < k ∧ a = b then 2 else 1)) H (by rw [pp_len]; omega)
      rw [show decide (pp b [] 0 0 (if 0 < k ∧ a = b then 2 else 1) = pp b [] 0 0 (if 0 < k ∧ a = b then 2 else 1)) = true from decide_eq_true rfl] at c6
      have hn : (0 < k + 1 ∧ a = b) = (0 < k ∧ a = b) := by rw [eq_iff_iff]; omega
      repeat (first | refine join_ret ?_ | refine join_brk ?_ | refine then_nrm ?_ | refine blk_nrm ?_ | refine then_brk ?_ | refine blk_hit ?_ | refine blk_miss rfl ?_ | refine then_ret ?_ | refine blk_ret ?_ | refine aw_seq ?_ | refine aw_block ?_ | refine aw_skip ?_ | refine aw_exit ?_ | refine aw_ret ?_)
      refine aw_drawP mixed none 2 ?_
      try dsimp only [List.take_succ_cons, List.take_zero, List.take_nil, List.set_cons_zero, List.set_cons_succ, List.cons_append, List.nil_append]
      first | refine aqp 0 rfl (by decide +kernel) (by decide) (fun G => w_loadR rfl (lk rfl rfl) rfl rfl rfl) ?_ | refine aqp 0 rfl (by decide +kernel) (by decide) (fun G => w_loadR rfl (lk rfl rfl) rfl (zadd hr) rfl) ?_ | refine aqp 0 rfl (by decide +kernel) (by decide) (fun G => w_loadR rfl (lk rfl rfl) rfl (zadd hr1) rfl) ?_ | refine aqp 0 rfl (by decide +kernel) (by decide) (fun G => w_loadR rfl (lk rfl rfl) rfl (zadd hr2) rfl) ?_ | refine aqp 0 rfl (by decide +kernel) (by decide) (fun G => w_loadRp rfl hr rfl) ?_ | refine aqp 0 rfl (by decide +kernel) (by decide) (fun G => w_loadRp rfl hr1 rfl) ?_ | refine aqp 0 rfl (by decide +kernel) (by decide) (fun G => w_loadRp rfl hr2 rfl) ?_ | refine aqp 0 rfl (by decide +kernel) (by decide) (fun G => w_loadN (cs := [_, _, _, _]) rfl (lk rfl rfl) rfl rfl rfl rfl) ?_ | refine aqp 0 rfl (by decide +kernel) (by decide) (fun G => o_loadNp (cs := [_, _, _, _]) rfl hr rfl rfl) ?_ | refine aqp 0 rfl (by decide +kernel) (by decide) (fun G => o_loadNp (cs := [_, _, _, _]) rfl hr1 rfl rfl) ?_ | refine aqp 0 rfl (by decide +kernel) (by decide) (fun G => o_loadNp (cs := [_, _, _, _]) rfl hr2 rfl rfl) ?_ | refine aqp 0 rfl (by decide +kernel) (by decide) (fun G => w_loadR rfl (lkF hF) rfl rfl rfl) ?_ | refine aqp 0 rfl (by decide +kernel) (by decide) (fun G => w_loadN (cs := [_, _, _, _]) rfl (lkF hF) rfl rfl rfl rfl) ?_
      first | refine aq0 1 rfl (by decide +kernel) (by decide) (fun _ => o_move (v := .sl _ _ _ _ _) rfl) ?_ | refine aq0 1 rfl (by decide +kernel) (by decide) (fun _ => o_move (v := .pl _) rfl) ?_ | refine aq0 1 rfl (by decide +kernel) (by decide) (fun _ => o_move (v := .nsl) rfl) ?_
      first | refine aqp 2 rfl (by decide +kernel) (by decide) (fun G => w_indexAddrpN rfl rfl hr rfl) ?_ | refine aqp 2 rfl (by decide +kernel) (by decide) (fun G => w_indexAddrpN rfl rfl hr1 rfl) ?_ | refine aqp 2 rfl (by decide +kernel) (by decide) (fun G => w_indexAddrpN rfl rfl hr2 rfl) ?_ | refine aqp 2 rfl (by decide +kernel) (by decide) (fun G => w_indexAddrN rfl (lk rfl rfl) rfl rfl rfl (by omega)) ?_ | refine aqp 2 rfl (by decide +kernel) (by decide) (fun G => w_indexAddrp rfl rfl (by omega) hr rfl) ?_ | refine aqp 2 rfl (by decide +kernel) (by decide) (fun G => w_indexAddrp rfl rfl (by omega) hr1 rfl) ?_ | refine aqp 2 rfl (by decide +kernel) (by decide) (fun G => w_indexAddrp rfl rfl (by omega) hr2 rfl) ?_ | refine aqp 2 rfl (by decide +kernel) (by decide) (fun G => w_indexAddr rfl (lk rfl rfl) rfl rfl rfl (by omega) (by omega)) ?_
      first | refine aqp 3 rfl (by decide +kernel) (by decide) (fun G => w_loadR rfl (lk rfl rfl) rfl rfl rfl) ?_ | refine aqp 3 rfl (by decide +kernel) (by decide) (fun G => w_loadR rfl (lk rfl rfl) rfl (zadd hr) rfl) ?_ | refine aqp 3 rfl (by decide +kernel) (by decide) (fun G => w_loadR rfl (lk rfl rfl) rfl (zadd hr1) rfl) ?_ | refine aqp 3 rfl (by decide +kernel) (by decide) (fun G => w_loadR rfl (lk rfl rfl) rfl (zadd hr2) rfl) ?_ | refine aqp 3 rfl (by decide +kernel) (by decide) (fun G => w_loadRp rfl hr rfl) ?_ | refine aqp 3 rfl (by decide +kernel) (by decide) (fun G => w_loadRp rfl hr1 rfl) ?_ | refine aqp 3 rfl (by decide +kernel) (by decide) (fun G => w_loadRp rfl hr2 rfl) ?_ | refine aqp 3 rfl (by decide +kernel) (by decide) (fun G => w_loadN (cs := [_, _, _, _]) rfl (lk rfl rfl) rfl rfl rfl rfl) ?_ | refine aqp 3 rfl (by decide +kernel) (by decide) (fun G => o_loadNp (cs := [_, _, _, _]) rfl hr rfl rfl) ?_ | refine aqp 3 rfl (by decide +kernel) (by decide) (fun G => o_loadNp (cs := [_, _, _, _]) rfl hr1 rfl rfl) ?_ | refine aqp 3 rfl (by decide +kernel) (by decide) (fun G => o_loadNp (cs := [_, _, _, _]) rfl hr2 rfl rfl) ?_ | refine aqp 3 rfl (by decide +kernel) (by decide) (fun G => w_loadR rfl (lkF hF) rfl rfl rfl) ?_ | refine aqp 3 rfl (by decide +kernel) (by decide) (fun G => w_loadN (cs := [_, _, _, _]) rfl (lkF hF) rfl rfl rfl rfl) ?_
      refine aq02 4 rfl (by decide +kernel) (by decide) (fun _ => V2.call (c5 _) rfl) ?_
      refine aq0 5 rfl (by decide +kernel) (by decide) (fun _ => o_move (v := .tup _) rfl) ?_
      refine aq0 6 rfl (by decide +kernel) (by decide) (fun _ => o_extract (v := .agg _) rfl rfl) ?_
      first | refine aq0 7 rfl (by decide +kernel) (by decide) (fun _ => o_extract (v := .sl _ _ _ _ _) rfl rfl) ?_ | refine aq0 7 rfl (by decide +kernel) (by decide) (fun _ => o_extract (v := .pl _) rfl rfl) ?_ | refine aq0 7 rfl (by decide +kernel) (by decide) (fun _ => o_extract (v := .nsl) rfl rfl) ?_
      refine aq0 8 rfl (by decide +kernel) (by decide) (fun _ => o_extract (v := .bool _) rfl rfl) ?_
      refine aqs 9 rfl (by decide +kernel) (by first | exact fun _ => trivial | exact fun _ => ⟨_, rfl⟩ | exact fun _ => ⟨_, rfl, rfl⟩ | exact yet_done (by decide +kernel)) (by rintro _ ⟨⟩; decide) (o_allocL (sz := 4) rfl (by decide) rfl) ?_
      first | refine aqs 10 rfl (by decide +kernel) (by first | exact fun _ => trivial | exact fun _ => ⟨_, rfl⟩ | exact fun _ => ⟨_, rfl, rfl⟩ | exact yet_done (by decide +kernel)) (by rintro _ ⟨⟩) (w_storeW (sz := 4) rfl rfl rfl rfl rfl rfl rfl rfl (Nat.le_of_ble_eq_true rfl)) ?_ | refine aqs 10 rfl (by decide +kernel) (by first | exact fun _ => trivial | exact fun _ => ⟨_, rfl⟩ | exact fun _ => ⟨_, rfl, rfl⟩ | exact yet_done (by decide +kernel)) (by rintro _ ⟨⟩) (w_storeFP (sz := 4) (v := .agg _) (r' := [_, _, _, _]) rfl hF rfl rfl rfl rfl rfl (Nat.le_of_ble_eq_true rfl) rfl) ?_ | refine aqs 10 rfl (by decide +kernel) (by first | exact fun _ => trivial | exact fun _ => ⟨_, rfl⟩ | exact fun _ => ⟨_, rfl, rfl⟩ | exact yet_done (by decide +kernel)) (by rintro _ ⟨⟩) (w_storeFP (sz := 4) (v := .agg _) (r' := [_, _, _, _]) rfl hF1 rfl rfl rfl rfl rfl (Nat.le_of_ble_eq_true rfl) rfl) ?_
      first | refine aq0 11 rfl (by decide +kernel) (by decide) (fun _ => o_assign (v := .sl _ _ _ _ _) rfl) ?_ | refine aq0 11 rfl (by decide +kernel) (by decide) (fun _ => o_assign (v := .pl _) rfl) ?_ | refine aq0 11 rfl (by decide +kernel) (by decide) (fun _ => o_assign (v := .nsl) rfl) ?_
      refine aq0 12 rfl (by decide +kernel) (by decide) (fun _ => o_assign (v := .bool _) rfl) ?_
      refine aa_done (by decide +kernel) (by first | exact fun _ => trivial | exact fun _ => ⟨_, rfl⟩ | exact fun _ => ⟨_, rfl, rfl⟩ | exact yet_done (by decide +kernel)) ?_
      try dsimp only [List.set_cons_zero, List.set_cons_succ, List.cons_append, List.nil_append, List.take_succ_cons, List.take_zero, List.drop_succ_cons, List.drop_zero, AV.cells, List.length_nil, List.length_cons, Av.put, Nat.reduceAdd, AV.up, AV.up1, List.map_cons, List.map_nil]
      repeat (first | refine join_ret ?_ | refine join_brk ?_ | refine then_nrm ?_ | refine blk_nrm ?_ | refine then_brk ?_ | refine blk_hit ?_ | refine blk_miss rfl ?_ | refine then_ret ?_ | refine blk_ret ?_ | refine aw_seq ?_ | refine aw_block ?_ | refine aw_skip ?_ | refine aw_exit ?_ | refine aw_ret ?_)
      refine aw_region ?_
      refine ao1 (by decide) (o_move (v := .bool _) rfl) ?_
      refine ao_nil ?_
      try dsimp only [List.set_cons_zero, List.set_cons_succ, List.cons_append, List.nil_append, List.take_succ_cons, List.take_zero, List.drop_succ_cons, List.drop_zero, AV.cells, List.length_nil, List.length_cons, Av.put, Nat.reduceAdd, AV.up, AV.up1, List.map_cons, List.map_nil]
      repeat (first | refine join_ret ?_ | refine join_brk ?_ | refine then_nrm ?_ | refine blk_nrm ?_ | refine then_brk ?_ | refine blk_hit ?_ | refine blk_miss rfl ?_ | refine then_ret ?_ | refine blk_ret ?_ | refine aw_seq ?_ | refine aw_block ?_ | refine aw_skip ?_ | refine aw_exit ?_ | refine aw_ret ?_)
      refine aw_cond rfl (fun hc => ?_) (fun hc => ?_)
      · simp at hc
      · repeat (first | refine join_ret ?_ | refine join_brk ?_ | refine then_nrm ?_ | refine blk_nrm ?_ | refine then_brk ?_ | refine blk_hit ?_ | refine blk_miss rfl ?_ | refine then_ret ?_ | refine blk_ret ?_ | refine aw_seq ?_ | refine aw_block ?_ | refine aw_skip ?_ | refine aw_exit ?_ | refine aw_ret ?_)
        refine aw_region ?_
        first | refine ao1 (by decide) (w_loadR rfl (lk rfl rfl) rfl rfl rfl) ?_ | refine ao1 (by decide) (w_loadR rfl (lk rfl rfl) rfl (zadd hr) rfl) ?_ | refine ao1 (by decide) (w_loadR rfl (lk rfl rfl) rfl (zadd hr1) rfl) ?_ | refine ao1 (by decide) (w_loadR rfl (lk rfl rfl) rfl (zadd hr2) rfl) ?_ | refine ao1 (by decide) (w_loadRp rfl hr rfl) ?_ | refine ao1 (by decide) (w_loadRp rfl hr1 rfl) ?_ | refine ao1 (by decide) (w_loadRp rfl hr2 rfl) ?_ | refine ao1 (by decide) (w_loadN (cs := [_, _, _, _]) rfl (lk rfl rfl) rfl rfl rfl rfl) ?_ | refine ao1 (by decide) (o_loadNp (cs := [_, _, _, _]) rfl hr rfl rfl) ?_ | refine ao1 (by decide) (o_loadNp (cs := [_, _, _, _]) rfl hr1 rfl rfl) ?_ | refine ao1 (by decide) (o_loadNp (cs := [_, _, _, _]) rfl hr2 rfl rfl) ?_ | refine ao1 (by decide) (w_loadR rfl (lkF hF) rfl rfl rfl) ?_ | refine ao1 (by decide) (w_loadN (cs := [_, _, _, _]) rfl (lkF hF) rfl rfl rfl rfl) ?_
        first | refine ao1 (by decide) (w_loadR rfl (lk rfl rfl) rfl rfl rfl) ?_ | refine ao1 (by decide) (w_loadR rfl (lk rfl rfl) rfl (zadd hr) rfl) ?_ | refine ao1 (by decide) (w_loadR rfl (lk rfl rfl) rfl (zadd hr1) rfl) ?_ | refine ao1 (by decide) (w_loadR rfl (lk rfl rfl) rfl (zadd hr2) rfl) ?_ | refine ao1 (by decide) (w_loadRp rfl hr rfl) ?_ | refine ao1 (by decide) (w_loadRp rfl hr1 rfl) ?_ | refine ao1 (by decide) (w_loadRp rfl hr2 rfl) ?_ | refine ao1 (by decide) (w_loadN (cs := [_, _, _, _]) rfl (lk rfl rfl) rfl rfl rfl rfl) ?_ | refine ao1 (by decide) (o_loadNp (cs := [_, _, _, _]) rfl hr rfl rfl) ?_ | refine ao1 (by decide) (o_loadNp (cs := [_, _, _, _]) rfl hr1 rfl rfl) ?_ | refine ao1 (by decide) (o_loadNp (cs := [_, _, _, _]) rfl hr2 rfl rfl) ?_ | refine ao1 (by decide) (w_loadR rfl (lkF hF) rfl rfl rfl) ?_ | refine ao1 (by decide) (w_loadN (cs := [_, _, _, _]) rfl (lkF hF) rfl rfl rfl rfl) ?_
        refine ao2 (by rintro _ ⟨⟩; decide) (V2.call (c6 _) rfl) ?_
        refine ao1 (by decide) (o_not rfl) ?_
        refine ao_nil ?_
        try dsimp only [List.set_cons_zero, List.set_cons_succ, List.cons_append, List.nil_append, List.take_succ_cons, List.take_zero, List.drop_succ_cons, List.drop_zero, AV.cells, List.length_nil, List.length_cons, Av.put, Nat.reduceAdd, AV.up, AV.up1, List.map_cons, List.map_nil]
        repeat (first | refine join_ret ?_ | refine join_brk ?_ | refine then_nrm ?_ | refine blk_nrm ?_ | refine then_brk ?_ | refine blk_hit ?_ | refine blk_miss rfl ?_ | refine then_ret ?_ | refine blk_ret ?_ | refine aw_seq ?_ | refine aw_block ?_ | refine aw_skip ?_ | refine aw_exit ?_ | refine aw_ret ?_)
        refine aw_cond rfl (fun hc => ?_) (fun hc => ?_)
        · simp at hc
        repeat (first | refine join_ret ?_ | refine join_brk ?_ | refine then_nrm ?_ | refine blk_nrm ?_ | refine then_brk ?_ | refine blk_hit ?_ | refine blk_miss rfl ?_ | refine then_ret ?_ | refine blk_ret ?_ | refine aw_seq ?_ | refine aw_block ?_ | refine aw_skip ?_ | refine aw_exit ?_ | refine aw_ret ?_)
        refine aw_region ?_
        first | refine ao1 (by decide) (w_loadR rfl (lk rfl rfl) rfl rfl rfl) ?_ | refine ao1 (by decide) (w_loadR rfl (lk rfl rfl) rfl (zadd hr) rfl) ?_ | refine ao1 (by decide) (w_loadR rfl (lk rfl rfl) rfl (zadd hr1) rfl) ?_ | refine ao1 (by decide) (w_loadR rfl (lk rfl rfl) rfl (zadd hr2) rfl) ?_ | refine ao1 (by decide) (w_loadRp rfl hr rfl) ?_ | refine ao1 (by decide) (w_loadRp rfl hr1 rfl) ?_ | refine ao1 (by decide) (w_loadRp rfl hr2 rfl) ?_ | refine ao1 (by decide) (w_loadN (cs := [_, _, _, _]) rfl (lk rfl rfl) rfl rfl rfl rfl) ?_ | refine ao1 (by decide) (o_loadNp (cs := [_, _, _, _]) rfl hr rfl rfl) ?_ | refine ao1 (by decide) (o_loadNp (cs := [_, _, _, _]) rfl hr1 rfl rfl) ?_ | refine ao1 (by decide) (o_loadNp (cs := [_, _, _, _]) rfl hr2 rfl rfl) ?_ | refine ao1 (by decide) (w_loadR rfl (lkF hF) rfl rfl rfl) ?_ | refine ao1 (by decide) (w_loadN (cs := [_, _, _, _]) rfl (lkF hF) rfl rfl rfl rfl) ?_
        first | refine ao2 (by rintro _ ⟨⟩) (w_storeW (sz := 4) rfl rfl rfl rfl rfl rfl rfl rfl (Nat.le_of_ble_eq_true rfl)) ?_ | refine ao2 (by rintro _ ⟨⟩) (w_storeFP (sz := 4) (v := .agg _) (r' := [_, _, _, _]) rfl hF rfl rfl rfl rfl rfl (Nat.le_of_ble_eq_true rfl) rfl) ?_ | refine ao2 (by rintro _ ⟨⟩) (w_storeFP (sz := 4) (v := .agg _) (r' := [_, _, _, _]) rfl hF1 rfl rfl rfl rfl rfl (Nat.le_of_ble_eq_true rfl) rfl) ?_
        refine ao_nil ?_
        try dsimp only [List.set_cons_zero, List.set_cons_succ, List.cons_append, List.nil_append, List.take_succ_cons, List.take_zero, List.drop_succ_cons, List.drop_zero, AV.cells, List.length_nil, List.length_cons, Av.put, Nat.reduceAdd, AV.up, AV.up1, List.map_cons, List.map_nil]
        repeat (first | refine join_ret ?_ | refine join_brk ?_ | refine then_nrm ?_ | refine blk_nrm ?_ | refine then_brk ?_ | refine blk_hit ?_ | refine blk_miss rfl ?_ | refine then_ret ?_ | refine blk_ret ?_ | refine aw_seq ?_ | refine aw_block ?_ | refine aw_skip ?_ | refine aw_exit ?_ | refine aw_ret ?_)
        refine aw_region ?_
        refine ao1 (by decide) (o_move (v := .int _ _) rfl) ?_
        first | refine ao1 (by decide) (o_add rfl rfl (wrap64_ok (by omega) (by omega))) ?_ | refine ao1 (by decide) (o_add rfl rfl rfl) ?_
        refine ao1 (by decide) (o_assign (v := .int _ _) rfl) ?_
        refine ao_nil ?_
        try dsimp only [List.set_cons_zero, List.set_cons_succ, List.cons_append, List.nil_append, List.take_succ_cons, List.take_zero, List.drop_succ_cons, List.drop_zero, AV.cells, List.length_nil, List.length_cons, Av.put, Nat.reduceAdd, AV.up, AV.up1, List.map_cons, List.map_nil]
        repeat (first | refine join_ret ?_ | refine join_brk ?_ | refine then_nrm ?_ | refine blk_nrm ?_ | refine then_brk ?_ | refine blk_hit ?_ | refine blk_miss rfl ?_ | refine then_ret ?_ | refine blk_ret ?_ | refine aw_seq ?_ | refine aw_block ?_ | refine aw_skip ?_ | refine aw_exit ?_ | refine aw_ret ?_)
        refine ⟨k + 1, by omega, by omega, ?_, ?_⟩
        · simp only [hn]; exact (by repeat (first | exact Sub.nil | refine Sub.cons (by first | rfl | (simp [get]; done)) ?_))
        · simp only [hn]
          refine Fit.loc hB rfl (by repeat (first | exact EBel.nil | refine EBel.cons (by first | rfl | (simp [AV.bel, AV.bels, Lid]; done) | (simp [AV.bel, AV.bels, Lid]; omega)) ?_)) ?_
          intro o ho r hr
          simp only [List.mem_cons, List.not_mem_nil, or_false] at ho
          rcases ho with rfl | rfl <;> (simp only [List.mem_singleton] at hr; subst hr; rfl)
  · have : k = m + 1 := by simp at hc; omega
    subst this
    repeat (first | refine join_ret ?_ | refine join_brk ?_ | refine then_nrm ?_ | refine blk_nrm ?_ | refine then_brk ?_ | refine blk_hit ?_ | refine blk_miss rfl ?_ | refine then_ret ?_ | refine blk_ret ?_ | refine aw_seq ?_ | refine aw_block ?_ | refine aw_skip ?_ | refine aw_exit ?_ | refine aw_ret ?_)
    refine aw_region ?_
    refine ao1 (by decide) (o_move (v := .int _ _) rfl) ?_
    refine ao1 (by decide) (o_move (v := .int _ _) rfl) ?_
    refine ao1 (by decide) (o_ne rfl rfl) ?_
    refine ao_nil ?_
    try dsimp only [List.set_cons_zero, List.set_cons_succ, List.cons_append, List.nil_append, List.take_succ_cons, List.take_zero, List.drop_succ_cons, List.drop_zero, AV.cells, List.length_nil, List.length_cons, Av.put, Nat.reduceAdd, AV.up, AV.up1, List.map_cons, List.map_nil]
    repeat (first | refine join_ret ?_ | refine join_brk ?_ | refine then_nrm ?_ | refine blk_nrm ?_ | refine then_brk ?_ | refine blk_hit ?_ | refine blk_miss rfl ?_ | refine then_ret ?_ | refine blk_ret ?_ | refine aw_seq ?_ | refine aw_block ?_ | refine aw_skip ?_ | refine aw_exit ?_ | refine aw_ret ?_)
    refine aw_cond rfl (fun hc => ?_) (fun hc => ?_)
    · have hab : a ≠ b := by simpa using hc
      rw [if_neg (fun k => hab k.2)]
      repeat (first | refine join_ret ?_ | refine join_brk ?_ | refine then_nrm ?_ | refine blk_nrm ?_ | refine then_brk ?_ | refine blk_hit ?_ | refine blk_miss rfl ?_ | refine then_ret ?_ | refine blk_ret ?_ | refine aw_seq ?_ | refine aw_block ?_ | refine aw_skip ?_ | refine aw_exit ?_ | refine aw_ret ?_)
      refine aw_region ?_
      refine ao1 (by decide) (o_move (v := .int _ _) rfl) ?_
      refine ao1 (by decide) (o_eq rfl rfl) ?_
      refine ao1 (by decide) (o_assign (v := .bool _) rfl) ?_
      refine ao_nil ?_
      try dsimp only [List.set_cons_zero, List.set_cons_succ, List.cons_append, List.nil_append, List.take_succ_cons, List.take_zero, List.drop_succ_cons, List.drop_zero, AV.cells, List.length_nil, List.length_cons, Av.put, Nat.reduceAdd, AV.up, AV.up1, List.map_cons, List.map_nil]
      repeat (first | refine join_ret ?_ | refine join_brk ?_ | refine then_nrm ?_ | refine blk_nrm ?_ | refine then_brk ?_ | refine blk_hit ?_ | refine blk_miss rfl ?_ | refine then_ret ?_ | refine blk_ret ?_ | refine aw_seq ?_ | refine aw_block ?_ | refine aw_skip ?_ | refine aw_exit ?_ | refine aw_ret ?_)
      exact e_done hB (r_tmp rfl .nil) rfl rfl
    · have hab : a = b := by simpa using hc
      rw [if_pos ⟨by omega, hab⟩]
      repeat (first | refine join_ret ?_ | refine join_brk ?_ | refine then_nrm ?_ | refine blk_nrm ?_ | refine then_brk ?_ | refine blk_hit ?_ | refine blk_miss rfl ?_ | refine then_ret ?_ | refine blk_ret ?_ | refine aw_seq ?_ | refine aw_block ?_ | refine aw_skip ?_ | refine aw_exit ?_ | refine aw_ret ?_)
      refine aw_region ?_
      refine ao1 (by decide) (o_move (v := .int _ _) rfl) ?_
      refine ao1 (by decide) (o_eq rfl rfl) ?_
      refine ao1 (by decide) (o_assign (v := .bool _) rfl) ?_
      refine ao_nil ?_
      try dsimp only [List.set_cons_zero, List.set_cons_succ, List.cons_append, List.nil_append, List.take_succ_cons, List.take_zero, List.drop_succ_cons, List.drop_zero, AV.cells, List.length_nil, List.length_cons, Av.put, Nat.reduceAdd, AV.up, AV.up1, List.map_cons, List.map_nil]
      repeat (first | refine join_ret ?_ | refine join_brk ?_ | refine then_nrm ?_ | refine blk_nrm ?_ | refine then_brk ?_ | refine blk_hit ?_ | refine blk_miss rfl ?_ | refine then_ret ?_ | refine blk_ret ?_ | refine aw_seq ?_ | refine aw_block ?_ | refine aw_skip ?_ | refine aw_exit ?_ | refine aw_ret ?_)
      exact e_done hB (r_tmp rfl .nil) rfl rfl
end Go.Av
