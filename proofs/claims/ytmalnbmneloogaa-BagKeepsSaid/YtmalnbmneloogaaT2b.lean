/- A part of the proof: walks through the program over abstract values. -/
import Derived.Test.YtmalnbmneloogaaT2
namespace Go.Av
open Go.Proofs
set_option maxRecDepth 10000
set_option linter.unusedSimpArgs false
set_option linter.unusedVariables false


/-- What IndexFunc finds. -/
def ixf {α : Type} (p : α → Bool) (l : List α) : Int := match l.findIdx? p with
  | some n => n
  | none => -1
theorem ixf_some {α : Type} {p : α → Bool} {l : List α} {k : Nat} {x : α} (hx : l[k]? = some x) (hp : p x = true) (hno : ∀ y ∈ l.take k, p y = false) : ixf p l = k := by
  have : l.findIdx? p = some k := by
    rw [List.findIdx?_eq_some_iff_getElem]
    obtain ⟨h1, h2⟩ := List.getElem?_eq_some_iff.1 hx
    refine ⟨h1, by rw [h2]; exact hp, fun j hj => ?_⟩
    have hj' : j < l.length := Nat.lt_trans hj h1
    have := hno l[j] (List.mem_iff_getElem?.2 ⟨j, by rw [List.getElem?_take, if_pos hj]; exact List.getElem?_eq_getElem hj'⟩)
    simp [this]
  simp [ixf, this]
theorem ixf_none {α : Type} {p : α → Bool} {l : List α} (hno : ∀ y ∈ l, p y = false) : ixf p l = -1 := by
  have : l.findIdx? p = none := by rw [List.findIdx?_eq_none_iff]; simpa using hno
  simp [ixf, this]
theorem ixf_nonneg {α : Type} (p : α → Bool) (l : List α) : decide (0 ≤ ixf p l) = l.any p := by
  rw [Bool.eq_iff_iff]
  unfold ixf
  cases h : l.findIdx? p with
  | none =>
    rw [List.findIdx?_eq_none_iff] at h
    simp
    simpa using h
  | some n =>
    rw [List.findIdx?_eq_some_iff_getElem] at h
    obtain ⟨h1, h2, _⟩ := h
    simp
    exact ⟨_, List.getElem_mem h1, h2⟩
theorem take_snoc_get {α : Type} {l : List α} {k : Nat} {x : α} (hx : l[k]? = some x) : l.take (k + 1) = l.take k ++ [x] := by
  obtain ⟨h1, h2⟩ := List.getElem?_eq_some_iff.1 hx
  rw [List.take_add_one, hx]; rfl

theorem slices_IndexFunc_bag (l : List Way) (H : Heap) (hl : l.length ≤ 1000000) : AC Try.prog 53 [.pl (l.map eWay), .fn (.func 45) [] []] H (Ret (.int .i64 (ixf (fun x => !may x) l)) H) := by
  refine AC.body (N := 19) [.tmp 4] Try.func53 rfl rfl rfl (Nat.le_of_ble_eq_true rfl) fun B hB => ?_
  repeat (first | refine then_nrm ?_ | refine blk_nrm ?_ | refine then_brk ?_ | refine blk_hit ?_ | refine blk_miss rfl ?_ | refine then_ret ?_ | refine blk_ret ?_ | refine aw_seq ?_ | refine aw_block ?_ | refine aw_skip ?_ | refine aw_exit ?_ | refine aw_ret ?_)
  refine aw_region ?_
  refine ao1 (by decide) (o_assign (v := .int _ _) rfl) ?_
  refine ao_nil ?_
  try dsimp only [List.set_cons_zero, List.set_cons_succ, List.cons_append, List.nil_append, List.take_succ_cons, List.take_zero, List.drop_succ_cons, List.drop_zero, AV.cells, List.length_nil, List.length_cons, Av.put, Nat.reduceAdd, AV.up, AV.up1, List.map_cons, List.map_nil]
  repeat (first | refine then_nrm ?_ | refine blk_nrm ?_ | refine then_brk ?_ | refine blk_hit ?_ | refine blk_miss rfl ?_ | refine then_ret ?_ | refine blk_ret ?_ | refine aw_seq ?_ | refine aw_block ?_ | refine aw_skip ?_ | refine aw_exit ?_ | refine aw_ret ?_)
  refine aw_region ?_
  first | refine ao1 (by decide) (o_move (v := .sl _ _ _ _ _) rfl) ?_ | refine ao1 (by decide) (o_move (v := .pl _) rfl) ?_ | refine ao1 (by decide) (o_move (v := .nsl) rfl) ?_
  first | refine ao1 (by decide) (o_lenp rfl) ?_ | refine ao1 (by decide) (w_lens rfl (lk rfl rfl) rfl) ?_ | refine ao1 (by decide) (o_lenn rfl) ?_ | refine ao1 (by decide) (o_lenStr rfl) ?_ | refine ao1 (by decide) (w_lens rfl (lkF hF) rfl) ?_
  refine ao1 (by decide) (o_move (v := .int _ _) rfl) ?_
  refine ao_nil ?_
  try dsimp only [List.set_cons_zero, List.set_cons_succ, List.cons_append, List.nil_append, List.take_succ_cons, List.take_zero, List.drop_succ_cons, List.drop_zero, AV.cells, List.length_nil, List.length_cons, Av.put, Nat.reduceAdd, AV.up, AV.up1, List.map_cons, List.map_nil]
  repeat (first | refine then_nrm ?_ | refine blk_nrm ?_ | refine then_brk ?_ | refine blk_hit ?_ | refine blk_miss rfl ?_ | refine then_ret ?_ | refine blk_ret ?_ | refine aw_seq ?_ | refine aw_block ?_ | refine aw_skip ?_ | refine aw_exit ?_)
  refine aw_loop (G := Nat) (fun k => k ≤ l.length ∧ ∀ y ∈ l.take k, (!may y) = false) (fun k => [(0, .pl (l.map eWay)), (1, .fn (.func 45) [] []), (7, .int .i64 (l.length : Int)), (8, .int .i64 (k : Int))]) (fun _ => H ++ []) (fun k => l.length - k) 0 ⟨Nat.zero_le _, by simp⟩ (by repeat (first | exact Sub.nil | refine Sub.cons (by first | rfl | (simp [get]; done)) ?_)) (Fit.refl _ _) ?_
  rintro k ⟨hk, hno⟩
  repeat (first | refine then_nrm ?_ | refine blk_nrm ?_ | refine then_brk ?_ | refine blk_hit ?_ | refine blk_miss rfl ?_ | refine then_ret ?_ | refine blk_ret ?_ | refine aw_seq ?_ | refine aw_block ?_ | refine aw_skip ?_ | refine aw_exit ?_ | refine aw_ret ?_)
  refine aw_region ?_
  refine ao1 (by decide) (o_lt rfl rfl) ?_
  refine ao_nil ?_
  try dsimp only [List.set_cons_zero, List.set_cons_succ, List.cons_append, List.nil_append, List.take_succ_cons, List.take_zero, List.drop_succ_cons, List.drop_zero, AV.cells, List.length_nil, List.length_cons, Av.put, Nat.reduceAdd, AV.up, AV.up1, List.map_cons, List.map_nil]
  repeat (first | refine then_nrm ?_ | refine blk_nrm ?_ | refine then_brk ?_ | refine blk_hit ?_ | refine blk_miss rfl ?_ | refine then_ret ?_ | refine blk_ret ?_ | refine aw_seq ?_ | refine aw_block ?_ | refine aw_skip ?_ | refine aw_exit ?_ | refine aw_ret ?_)
  refine aw_cond rfl (fun hc => ?_) (fun hc => ?_)
  · have hlt : k < l.length := by simpa using hc
    obtain ⟨x, hx, hxl⟩ := get_in hlt
    have hr := map_get eWay hx
    repeat (first | refine then_nrm ?_ | refine blk_nrm ?_ | refine then_brk ?_ | refine blk_hit ?_ | refine blk_miss rfl ?_ | refine then_ret ?_ | refine blk_ret ?_ | refine aw_seq ?_ | refine aw_block ?_ | refine aw_skip ?_ | refine aw_exit ?_ | refine aw_ret ?_)
    refine aw_region ?_
    refine ao1 (by decide) (o_move (v := .int _ _) rfl) ?_
    refine ao1 (by decide) (o_assign (v := .int _ _) rfl) ?_
    refine ao_nil ?_
    try dsimp only [List.set_cons_zero, List.set_cons_succ, List.cons_append, List.nil_append, List.take_succ_cons, List.take_zero, List.drop_succ_cons, List.drop_zero, AV.cells, List.length_nil, List.length_cons, Av.put, Nat.reduceAdd, AV.up, AV.up1, List.map_cons, List.map_nil]
    repeat (first | refine then_nrm ?_ | refine blk_nrm ?_ | refine then_brk ?_ | refine blk_hit ?_ | refine blk_miss rfl ?_ | refine then_ret ?_ | refine blk_ret ?_ | refine aw_seq ?_ | refine aw_block ?_ | refine aw_skip ?_ | refine aw_exit ?_ | refine aw_ret ?_)
    refine aw_region ?_
    first | refine ao1 (by decide) (o_move (v := .fn _ _ _) rfl) ?_ | refine ao1 (by decide) (o_move (v := .nfn) rfl) ?_
    first | refine ao1 (by decide) (o_move (v := .sl _ _ _ _ _) rfl) ?_ | refine ao1 (by decide) (o_move (v := .pl _) rfl) ?_ | refine ao1 (by decide) (o_move (v := .nsl) rfl) ?_
    refine ao1 (by decide) (o_move (v := .int _ _) rfl) ?_
    first | refine ao1 (by decide) (w_indexAddrpN rfl rfl hr rfl) ?_ | refine ao1 (by decide) (w_indexAddrpN rfl rfl hr1 rfl) ?_ | refine ao1 (by decide) (w_indexAddrpN rfl rfl hr2 rfl) ?_ | refine ao1 (by decide) (w_indexAddrN rfl (lk rfl rfl) rfl rfl rfl (by omega)) ?_ | refine ao1 (by decide) (w_indexAddrp rfl rfl (by omega) hr rfl) ?_ | refine ao1 (by decide) (w_indexAddrp rfl rfl (by omega) hr1 rfl) ?_ | refine ao1 (by decide) (w_indexAddrp rfl rfl (by omega) hr2 rfl) ?_ | refine ao1 (by decide) (w_indexAddr rfl (lk rfl rfl) rfl rfl rfl (by omega) (by omega)) ?_
    first | refine ao1 (by decide) (w_loadR rfl (lk rfl rfl) rfl rfl rfl) ?_ | refine ao1 (by decide) (w_loadR rfl (lk rfl rfl) rfl (zadd hr) rfl) ?_ | refine ao1 (by decide) (w_loadR rfl (lk rfl rfl) rfl (zadd hr1) rfl) ?_ | refine ao1 (by decide) (w_loadR rfl (lk rfl rfl) rfl (zadd hr2) rfl) ?_ | refine ao1 (by decide) (w_loadRp rfl hr rfl) ?_ | refine ao1 (by decide) (w_loadRp rfl hr1 rfl) ?_ | refine ao1 (by decide) (w_loadRp rfl hr2 rfl) ?_ | refine ao1 (by decide) (w_loadN (cs := [_, _, _, _, _]) rfl (lk rfl rfl) rfl rfl rfl rfl) ?_ | refine ao1 (by decide) (o_loadNp (cs := [_, _, _, _, _]) rfl hr rfl rfl) ?_ | refine ao1 (by decide) (o_loadNp (cs := [_, _, _, _, _]) rfl hr1 rfl rfl) ?_ | refine ao1 (by decide) (o_loadNp (cs := [_, _, _, _, _]) rfl hr2 rfl rfl) ?_ | refine ao1 (by decide) (w_loadR rfl (lkF hF) rfl rfl rfl) ?_ | refine ao1 (by decide) (w_loadN (cs := [_, _, _, _, _]) rfl (lkF hF) rfl rfl rfl rfl) ?_
    refine ao_retv (bag_Right_1 x _) rfl rfl (by decide) ?_
    refine ao_nil ?_
    try dsimp only [List.set_cons_zero, List.set_cons_succ, List.cons_append, List.nil_append, List.take_succ_cons, List.take_zero, List.drop_succ_cons, List.drop_zero, AV.cells, List.length_nil, List.length_cons, Av.put, Nat.reduceAdd, AV.up, AV.up1, List.map_cons, List.map_nil]
    repeat (first | refine then_nrm ?_ | refine blk_nrm ?_ | refine then_brk ?_ | refine blk_hit ?_ | refine blk_miss rfl ?_ | refine then_ret ?_ | refine blk_ret ?_ | refine aw_seq ?_ | refine aw_block ?_ | refine aw_skip ?_ | refine aw_exit ?_ | refine aw_ret ?_)
    refine aw_cond rfl (fun hc => ?_) (fun hc => ?_)
    · repeat (first | refine then_nrm ?_ | refine blk_nrm ?_ | refine then_brk ?_ | refine blk_hit ?_ | refine blk_miss rfl ?_ | refine then_ret ?_ | refine blk_ret ?_ | refine aw_seq ?_ | refine aw_block ?_ | refine aw_skip ?_ | refine aw_exit ?_ | refine aw_ret ?_)
      refine aw_region ?_
      refine ao1 (by decide) (o_move (v := .int _ _) rfl) ?_
      refine ao1 (by decide) (o_assign (v := .int _ _) rfl) ?_
      refine ao_nil ?_
      try dsimp only [List.set_cons_zero, List.set_cons_succ, List.cons_append, List.nil_append, List.take_succ_cons, List.take_zero, List.drop_succ_cons, List.drop_zero, AV.cells, List.length_nil, List.length_cons, Av.put, Nat.reduceAdd, AV.up, AV.up1, List.map_cons, List.map_nil]
      repeat (first | refine then_nrm ?_ | refine blk_nrm ?_ | refine then_brk ?_ | refine blk_hit ?_ | refine blk_miss rfl ?_ | refine then_ret ?_ | refine blk_ret ?_ | refine aw_seq ?_ | refine aw_block ?_ | refine aw_skip ?_ | refine aw_exit ?_ | refine aw_ret ?_)
      rw [ixf_some hx hc hno]
      exact e_done hB (r_tmp rfl .nil) rfl rfl
    · repeat (first | refine then_nrm ?_ | refine blk_nrm ?_ | refine then_brk ?_ | refine blk_hit ?_ | refine blk_miss rfl ?_ | refine then_ret ?_ | refine blk_ret ?_ | refine aw_seq ?_ | refine aw_block ?_ | refine aw_skip ?_ | refine aw_exit ?_ | refine aw_ret ?_)
      refine aw_region ?_
      first | refine ao1 (by decide) (o_add rfl rfl (wrap64_ok (by omega) (by omega))) ?_ | refine ao1 (by decide) (o_add rfl rfl rfl) ?_
      refine ao1 (by decide) (o_move (v := .int _ _) rfl) ?_
      refine ao_nil ?_
      try dsimp only [List.set_cons_zero, List.set_cons_succ, List.cons_append, List.nil_append, List.take_succ_cons, List.take_zero, List.drop_succ_cons, List.drop_zero, AV.cells, List.length_nil, List.length_cons, Av.put, Nat.reduceAdd, AV.up, AV.up1, List.map_cons, List.map_nil]
      repeat (first | refine then_nrm ?_ | refine blk_nrm ?_ | refine then_brk ?_ | refine blk_hit ?_ | refine blk_miss rfl ?_ | refine then_ret ?_ | refine blk_ret ?_ | refine aw_seq ?_ | refine aw_block ?_ | refine aw_skip ?_ | refine aw_exit ?_ | refine aw_ret ?_)
      refine ⟨k + 1, by omega, ⟨by omega, ?_⟩, (by repeat (first | exact Sub.nil | refine Sub.cons (by first | rfl | (simp [get]; done)) ?_)), .refl _ _⟩
      rw [take_snoc_get hx]
      intro y hy
      rcases List.mem_append.1 hy with h | h
      · exact hno y h
      · simp only [List.mem_singleton] at h
        subst h
        exact hc
  · have : k = l.length := by simp at hc; omega
    subst this
    rw [List.take_length] at hno
    rw [ixf_none hno]
    repeat (first | refine then_nrm ?_ | refine blk_nrm ?_ | refine then_brk ?_ | refine blk_hit ?_ | refine blk_miss rfl ?_ | refine then_ret ?_ | refine blk_ret ?_ | refine aw_seq ?_ | refine aw_block ?_ | refine aw_skip ?_ | refine aw_exit ?_ | refine aw_ret ?_)
    refine aw_region ?_
    refine ao1 (by decide) (o_assign (v := .int _ _) rfl) ?_
    refine ao_nil ?_
    try dsimp only [List.set_cons_zero, List.set_cons_succ, List.cons_append, List.nil_append, List.take_succ_cons, List.take_zero, List.drop_succ_cons, List.drop_zero, AV.cells, List.length_nil, List.length_cons, Av.put, Nat.reduceAdd, AV.up, AV.up1, List.map_cons, List.map_nil]
    repeat (first | refine then_nrm ?_ | refine blk_nrm ?_ | refine then_brk ?_ | refine blk_hit ?_ | refine blk_miss rfl ?_ | refine then_ret ?_ | refine blk_ret ?_ | refine aw_seq ?_ | refine aw_block ?_ | refine aw_skip ?_ | refine aw_exit ?_ | refine aw_ret ?_)
    exact e_done hB (r_tmp rfl .nil) rfl rfl

theorem slices_ContainsFunc_bag (l : List Way) (H : Heap) (hl : l.length ≤ 1000000) : AC Try.prog 44 [.pl (l.map eWay), .fn (.func 45) [] []] H (Ret (.bool (l.any fun x => !may x)) H) := by
  refine AC.body (N := 9) [.tmp 4] Try.func44 rfl rfl rfl (Nat.le_of_ble_eq_true rfl) fun B hB => ?_
  repeat (first | refine then_nrm ?_ | refine blk_nrm ?_ | refine then_brk ?_ | refine blk_hit ?_ | refine blk_miss rfl ?_ | refine then_ret ?_ | refine blk_ret ?_ | refine aw_seq ?_ | refine aw_block ?_ | refine aw_skip ?_ | refine aw_exit ?_ | refine aw_ret ?_)
  refine aw_region ?_
  refine ao1 (by decide) (o_assign (v := .bool _) rfl) ?_
  refine ao_nil ?_
  try dsimp only [List.set_cons_zero, List.set_cons_succ, List.cons_append, List.nil_append, List.take_succ_cons, List.take_zero, List.drop_succ_cons, List.drop_zero, AV.cells, List.length_nil, List.length_cons, Av.put, Nat.reduceAdd, AV.up, AV.up1, List.map_cons, List.map_nil]
  repeat (first | refine then_nrm ?_ | refine blk_nrm ?_ | refine then_brk ?_ | refine blk_hit ?_ | refine blk_miss rfl ?_ | refine then_ret ?_ | refine blk_ret ?_ | refine aw_seq ?_ | refine aw_block ?_ | refine aw_skip ?_ | refine aw_exit ?_ | refine aw_ret ?_)
  refine aw_region ?_
  first | refine ao1 (by decide) (o_move (v := .sl _ _ _ _ _) rfl) ?_ | refine ao1 (by decide) (o_move (v := .pl _) rfl) ?_ | refine ao1 (by decide) (o_move (v := .nsl) rfl) ?_
  first | refine ao1 (by decide) (o_move (v := .fn _ _ _) rfl) ?_ | refine ao1 (by decide) (o_move (v := .nfn) rfl) ?_
  refine ao_ret (slices_IndexFunc_bag _ _ (by assumption)) rfl (by decide) ?_
  refine ao1 (by decide) (o_ge rfl rfl) ?_
  refine ao1 (by decide) (o_assign (v := .bool _) rfl) ?_
  refine ao_nil ?_
  try dsimp only [List.set_cons_zero, List.set_cons_succ, List.cons_append, List.nil_append, List.take_succ_cons, List.take_zero, List.drop_succ_cons, List.drop_zero, AV.cells, List.length_nil, List.length_cons, Av.put, Nat.reduceAdd, AV.up, AV.up1, List.map_cons, List.map_nil]
  repeat (first | refine then_nrm ?_ | refine blk_nrm ?_ | refine then_brk ?_ | refine blk_hit ?_ | refine blk_miss rfl ?_ | refine then_ret ?_ | refine blk_ret ?_ | refine aw_seq ?_ | refine aw_block ?_ | refine aw_skip ?_ | refine aw_exit ?_ | refine aw_ret ?_)
  rw [← ixf_nonneg]
  exact e_done hB (r_tmp rfl .nil) rfl rfl

/-- Right bag? -/
def bright (l : List Way) : Bool := decide ((l.length : Int) ≤ 256) && l.all may
theorem bag_Right (l : List Way) (H : Heap) (hl : l.length ≤ 1000000) : AC Try.prog 14 [.pl (l.map eWay)] H (Ret (.bool (bright l)) H) := by
  have hb : bright l = (decide ((l.length : Int) ≤ 256) && !(l.any fun x => !may x)) := by simp [bright, List.all_eq_not_any_not]
  rw [hb]
  refine AC.body (N := 11) [.tmp 2] Try.func14 rfl rfl rfl (Nat.le_of_ble_eq_true rfl) fun B hB => ?_
  repeat (first | refine then_nrm ?_ | refine blk_nrm ?_ | refine then_brk ?_ | refine blk_hit ?_ | refine blk_miss rfl ?_ | refine then_ret ?_ | refine blk_ret ?_ | refine aw_seq ?_ | refine aw_block ?_ | refine aw_skip ?_ | refine aw_exit ?_ | refine aw_ret ?_)
  refine aw_region ?_
  refine ao1 (by decide) (o_assign (v := .bool _) rfl) ?_
  refine ao_nil ?_
  try dsimp only [List.set_cons_zero, List.set_cons_succ, List.cons_append, List.nil_append, List.take_succ_cons, List.take_zero, List.drop_succ_cons, List.drop_zero, AV.cells, List.length_nil, List.length_cons, Av.put, Nat.reduceAdd, AV.up, AV.up1, List.map_cons, List.map_nil]
  repeat (first | refine then_nrm ?_ | refine blk_nrm ?_ | refine then_brk ?_ | refine blk_hit ?_ | refine blk_miss rfl ?_ | refine then_ret ?_ | refine blk_ret ?_ | refine aw_seq ?_ | refine aw_block ?_ | refine aw_skip ?_ | refine aw_exit ?_ | refine aw_ret ?_)
  refine aw_out 2 (.bool (decide ((l.length : Int) ≤ 256) && !(l.any fun x => !may x))) ?_ ?_
  · first | refine ao1 (by decide) (o_move (v := .sl _ _ _ _ _) rfl) ?_ | refine ao1 (by decide) (o_move (v := .pl _) rfl) ?_ | refine ao1 (by decide) (o_move (v := .nsl) rfl) ?_
    first | refine ao1 (by decide) (o_lenp rfl) ?_ | refine ao1 (by decide) (w_lens rfl (lk rfl rfl) rfl) ?_ | refine ao1 (by decide) (o_lenn rfl) ?_ | refine ao1 (by decide) (o_lenStr rfl) ?_ | refine ao1 (by decide) (w_lens rfl (lkF hF) rfl) ?_
    refine ao1 (by decide) (o_le rfl rfl) ?_
    refine ao1 (by decide) (o_move (v := .bool _) rfl) ?_
    refine ao_split rfl rfl (fun hg3 => ?_) (fun hg3 => ?_)
    · first | refine ao_y1 rfl rfl (by decide) (o_move (v := .sl _ _ _ _ _) rfl) ?_ | refine ao_y1 rfl rfl (by decide) (o_move (v := .pl _) rfl) ?_ | refine ao_y1 rfl rfl (by decide) (o_move (v := .nsl) rfl) ?_
      refine ao_y rfl rfl (by decide) (V2.call (slices_ContainsFunc_bag _ _ (by assumption)) rfl) ?_
      refine ao_y1 rfl rfl (by decide) (o_not rfl) ?_
      first | refine ao1 (by decide) (o_pick_t (v := .bool _) rfl rfl) ?_ | refine ao1 (by decide) (o_pick_f (v := .bool _) rfl rfl) ?_ | refine ao1 (by decide) (o_pick_b rfl rfl rfl) ?_
      refine ao1 (by decide) (o_assign (v := .bool _) rfl) ?_
      exact ao_nil (Out.mk (by first | rfl | (refine congrArg AV.bool ?_; first | (refine Bool.eq_iff_iff.mpr ?_; simp only [Bool.and_eq_true, Bool.or_eq_true, Bool.not_eq_true', decide_eq_true_eq, decide_eq_false_iff_not, beq_iff_eq, bne_iff_ne, beq_eq_false_iff_ne, Bool.false_eq_true, Bool.true_eq_false, Bool.and_eq_false_iff, Bool.or_eq_false_iff, List.length_map, false_iff, true_iff, iff_true, iff_false] at *; omega) | (simp_all; done) | (simp_all; omega) | (simp_all; intros; omega) | (simp only [List.length_map] at *; simp_all; done) | (simp only [List.length_map] at *; simp_all; intros; omega))) (by repeat (first | exact SubX.refl _ _ | refine SubX.at ?_ | refine SubX.put rfl ?_ | refine SubX.put_same rfl ?_)))
    · refine ao_nT rfl rfl (by decide) ?_
      refine ao_nT rfl rfl (by decide) ?_
      refine ao_nT rfl rfl (by decide) ?_
      first | refine ao1 (by decide) (o_pick_t (v := .bool _) rfl rfl) ?_ | refine ao1 (by decide) (o_pick_f (v := .bool _) rfl rfl) ?_ | refine ao1 (by decide) (o_pick_b rfl rfl rfl) ?_
      refine ao1 (by decide) (o_assign (v := .bool _) rfl) ?_
      exact ao_nil (Out.mk (by first | rfl | (refine congrArg AV.bool ?_; first | (refine Bool.eq_iff_iff.mpr ?_; simp only [Bool.and_eq_true, Bool.or_eq_true, Bool.not_eq_true', decide_eq_true_eq, decide_eq_false_iff_not, beq_iff_eq, bne_iff_ne, beq_eq_false_iff_ne, Bool.false_eq_true, Bool.true_eq_false, Bool.and_eq_false_iff, Bool.or_eq_false_iff, List.length_map, false_iff, true_iff, iff_true, iff_false] at *; omega) | (simp_all; done) | (simp_all; omega) | (simp_all; intros; omega) | (simp only [List.length_map] at *; simp_all; done) | (simp only [List.length_map] at *; simp_all; intros; omega))) (by repeat (first | exact SubX.refl _ _ | refine SubX.at ?_ | refine SubX.put rfl ?_ | refine SubX.put_same rfl ?_)))
  repeat (first | refine then_nrm ?_ | refine blk_nrm ?_ | refine then_brk ?_ | refine blk_hit ?_ | refine blk_miss rfl ?_ | refine then_ret ?_ | refine blk_ret ?_ | refine aw_seq ?_ | refine aw_block ?_ | refine aw_skip ?_ | refine aw_exit ?_ | refine aw_ret ?_)
  exact e_done hB (r_tmp rfl .nil) rfl rfl
def bthere (l : List Way) (at_ : Int) : Int := if bright l = false then 1 else if at_ < 0 ∨ (l.length : Int) ≤ at_ then 6 else 0
theorem bag_there (l : List Way) (i : Int) (H : Heap) (hl : l.length ≤ 1000000) : AC Try.prog 46 [.pl (l.map eWay), .int .i64 i] H (Ret (.int .i64 (bthere l i)) H) := by
  refine AC.body (N := 18) [.tmp 4] Try.func46 rfl rfl rfl (Nat.le_of_ble_eq_true rfl) fun B hB => ?_
  repeat (first | refine then_nrm ?_ | refine blk_nrm ?_ | refine then_brk ?_ | refine blk_hit ?_ | refine blk_miss rfl ?_ | refine then_ret ?_ | refine blk_ret ?_ | refine aw_seq ?_ | refine aw_block ?_ | refine aw_skip ?_ | refine aw_exit ?_ | refine aw_ret ?_)
  refine aw_region ?_
  refine ao1 (by decide) (o_assign (v := .int _ _) rfl) ?_
  refine ao_nil ?_
  try dsimp only [List.set_cons_zero, List.set_cons_succ, List.cons_append, List.nil_append, List.take_succ_cons, List.take_zero, List.drop_succ_cons, List.drop_zero, AV.cells, List.length_nil, List.length_cons, Av.put, Nat.reduceAdd, AV.up, AV.up1, List.map_cons, List.map_nil]
  repeat (first | refine then_nrm ?_ | refine blk_nrm ?_ | refine then_brk ?_ | refine blk_hit ?_ | refine blk_miss rfl ?_ | refine then_ret ?_ | refine blk_ret ?_ | refine aw_seq ?_ | refine aw_block ?_ | refine aw_skip ?_ | refine aw_exit ?_ | refine aw_ret ?_)
  refine aw_region ?_
  first | refine ao1 (by decide) (o_move (v := .sl _ _ _ _ _) rfl) ?_ | refine ao1 (by decide) (o_move (v := .pl _) rfl) ?_ | refine ao1 (by decide) (o_move (v := .nsl) rfl) ?_
  refine ao_ret (bag_Right _ _ (by assumption)) rfl (by decide) ?_
  refine ao1 (by decide) (o_not rfl) ?_
  refine ao1 (by decide) (o_assign (v := .bool _) rfl) ?_
  refine ao_nil ?_
  try dsimp only [List.set_cons_zero, List.set_cons_succ, List.cons_append, List.nil_append, List.take_succ_cons, List.take_zero, List.drop_succ_cons, List.drop_zero, AV.cells, List.length_nil, List.length_cons, Av.put, Nat.reduceAdd, AV.up, AV.up1, List.map_cons, List.map_nil]
  repeat (first | refine then_nrm ?_ | refine blk_nrm ?_ | refine then_brk ?_ | refine blk_hit ?_ | refine blk_miss rfl ?_ | refine then_ret ?_ | refine blk_ret ?_ | refine aw_seq ?_ | refine aw_block ?_ | refine aw_skip ?_ | refine aw_exit ?_ | refine aw_ret ?_)
  refine aw_cond rfl (fun hc => ?_) (fun hc => ?_)
  · repeat (first | refine then_nrm ?_ | refine blk_nrm ?_ | refine then_brk ?_ | refine blk_hit ?_ | refine blk_miss rfl ?_ | refine then_ret ?_ | refine blk_ret ?_ | refine aw_seq ?_ | refine aw_block ?_ | refine aw_skip ?_ | refine aw_exit ?_ | refine aw_ret ?_)
    refine aw_region ?_
    refine ao1 (by decide) (o_assign (v := .int _ _) rfl) ?_
    refine ao_nil ?_
    try dsimp only [List.set_cons_zero, List.set_cons_succ, List.cons_append, List.nil_append, List.take_succ_cons, List.take_zero, List.drop_succ_cons, List.drop_zero, AV.cells, List.length_nil, List.length_cons, Av.put, Nat.reduceAdd, AV.up, AV.up1, List.map_cons, List.map_nil]
    repeat (first | refine then_nrm ?_ | refine blk_nrm ?_ | refine then_brk ?_ | refine blk_hit ?_ | refine blk_miss rfl ?_ | refine then_ret ?_ | refine blk_ret ?_ | refine aw_seq ?_ | refine aw_block ?_ | refine aw_skip ?_ | refine aw_exit ?_ | refine aw_ret ?_)
    rw [show bthere l i = 1 by simp_all [bthere]]
    exact e_done hB (r_tmp rfl .nil) rfl rfl
  · repeat (first | refine then_nrm ?_ | refine blk_nrm ?_ | refine then_brk ?_ | refine blk_hit ?_ | refine blk_miss rfl ?_ | refine then_ret ?_ | refine blk_ret ?_ | refine aw_seq ?_ | refine aw_block ?_ | refine aw_skip ?_ | refine aw_exit ?_ | refine aw_ret ?_)
    refine aw_out 9 (.bool (decide (i < 0) || decide ((l.length : Int) ≤ i))) ?_ ?_
    · refine ao1 (by decide) (o_move (v := .int _ _) rfl) ?_
      refine ao1 (by decide) (o_lt rfl rfl) ?_
      refine ao1 (by decide) (o_move (v := .bool _) rfl) ?_
      refine ao_split rfl rfl (fun hg2 => ?_) (fun hg2 => ?_)
      · refine ao_nF rfl rfl (by decide) ?_
        refine ao_nF rfl rfl (by decide) ?_
        refine ao_nF rfl rfl (by decide) ?_
        refine ao_nF rfl rfl (by decide) ?_
        first | refine ao1 (by decide) (o_pick_t (v := .bool _) rfl rfl) ?_ | refine ao1 (by decide) (o_pick_f (v := .bool _) rfl rfl) ?_ | refine ao1 (by decide) (o_pick_b rfl rfl rfl) ?_
        refine ao1 (by decide) (o_assign (v := .bool _) rfl) ?_
        exact ao_nil (Out.mk (by first | rfl | (refine congrArg AV.bool ?_; first | (refine Bool.eq_iff_iff.mpr ?_; simp only [Bool.and_eq_true, Bool.or_eq_true, Bool.not_eq_true', decide_eq_true_eq, decide_eq_false_iff_not, beq_iff_eq, bne_iff_ne, beq_eq_false_iff_ne, Bool.false_eq_true, Bool.true_eq_false, Bool.and_eq_false_iff, Bool.or_eq_false_iff, List.length_map, false_iff, true_iff, iff_true, iff_false] at *; omega) | (simp_all; done) | (simp_all; omega) | (simp_all; intros; omega) | (simp only [List.length_map] at *; simp_all; done) | (simp only [List.length_map] at *; simp_all; intros; omega))) (by repeat (first | exact SubX.refl _ _ | refine SubX.at ?_ | refine SubX.put rfl ?_ | refine SubX.put_same rfl ?_)))
      · refine ao_y1 rfl rfl (by decide) (o_move (v := .int _ _) rfl) ?_
        first | refine ao_y1 rfl rfl (by decide) (o_move (v := .sl _ _ _ _ _) rfl) ?_ | refine ao_y1 rfl rfl (by decide) (o_move (v := .pl _) rfl) ?_ | refine ao_y1 rfl rfl (by decide) (o_move (v := .nsl) rfl) ?_
        first | refine ao_y1 rfl rfl (by decide) (o_lenp rfl) ?_ | refine ao_y1 rfl rfl (by decide) (w_lens rfl (lk rfl rfl) rfl) ?_ | refine ao_y1 rfl rfl (by decide) (o_lenn rfl) ?_ | refine ao_y1 rfl rfl (by decide) (o_lenStr rfl) ?_ | refine ao_y1 rfl rfl (by decide) (w_lens rfl (lkF hF) rfl) ?_
        refine ao_y1 rfl rfl (by decide) (o_ge rfl rfl) ?_
        first | refine ao1 (by decide) (o_pick_t (v := .bool _) rfl rfl) ?_ | refine ao1 (by decide) (o_pick_f (v := .bool _) rfl rfl) ?_ | refine ao1 (by decide) (o_pick_b rfl rfl rfl) ?_
        refine ao1 (by decide) (o_assign (v := .bool _) rfl) ?_
        exact ao_nil (Out.mk (by first | rfl | (refine congrArg AV.bool ?_; first | (refine Bool.eq_iff_iff.mpr ?_; simp only [Bool.and_eq_true, Bool.or_eq_true, Bool.not_eq_true', decide_eq_true_eq, decide_eq_false_iff_not, beq_iff_eq, bne_iff_ne, beq_eq_false_iff_ne, Bool.false_eq_true, Bool.true_eq_false, Bool.and_eq_false_iff, Bool.or_eq_false_iff, List.length_map, false_iff, true_iff, iff_true, iff_false] at *; omega) | (simp_all; done) | (simp_all; omega) | (simp_all; intros; omega) | (simp only [List.length_map] at *; simp_all; done) | (simp only [List.length_map] at *; simp_all; intros; omega))) (by repeat (first | exact SubX.refl _ _ | refine SubX.at ?_ | refine SubX.put rfl ?_ | refine SubX.put_same rfl ?_)))
    repeat (first | refine then_nrm ?_ | refine blk_nrm ?_ | refine then_brk ?_ | refine blk_hit ?_ | refine blk_miss rfl ?_ | refine then_ret ?_ | refine blk_ret ?_ | refine aw_seq ?_ | refine aw_block ?_ | refine aw_skip ?_ | refine aw_exit ?_ | refine aw_ret ?_)
    refine aw_cond rfl (fun hc => ?_) (fun hc => ?_)
    · repeat (first | refine then_nrm ?_ | refine blk_nrm ?_ | refine then_brk ?_ | refine blk_hit ?_ | refine blk_miss rfl ?_ | refine then_ret ?_ | refine blk_ret ?_ | refine aw_seq ?_ | refine aw_block ?_ | refine aw_skip ?_ | refine aw_exit ?_ | refine aw_ret ?_)
      refine aw_region ?_
      refine ao1 (by decide) (o_assign (v := .int _ _) rfl) ?_
      refine ao_nil ?_
      try dsimp only [List.set_cons_zero, List.set_cons_succ, List.cons_append, List.nil_append, List.take_succ_cons, List.take_zero, List.drop_succ_cons, List.drop_zero, AV.cells, List.length_nil, List.length_cons, Av.put, Nat.reduceAdd, AV.up, AV.up1, List.map_cons, List.map_nil]
      repeat (first | refine then_nrm ?_ | refine blk_nrm ?_ | refine then_brk ?_ | refine blk_hit ?_ | refine blk_miss rfl ?_ | refine then_ret ?_ | refine blk_ret ?_ | refine aw_seq ?_ | refine aw_block ?_ | refine aw_skip ?_ | refine aw_exit ?_ | refine aw_ret ?_)
      rw [show bthere l i = 6 by simp_all [bthere]]
      exact e_done hB (r_tmp rfl .nil) rfl rfl
    · repeat (first | refine then_nrm ?_ | refine blk_nrm ?_ | refine then_brk ?_ | refine blk_hit ?_ | refine blk_miss rfl ?_ | refine then_ret ?_ | refine blk_ret ?_ | refine aw_seq ?_ | refine aw_block ?_ | refine aw_skip ?_ | refine aw_exit ?_ | refine aw_ret ?_)
      refine aw_region ?_
      refine ao1 (by decide) (o_assign (v := .int _ _) rfl) ?_
      refine ao_nil ?_
      try dsimp only [List.set_cons_zero, List.set_cons_succ, List.cons_append, List.nil_append, List.take_succ_cons, List.take_zero, List.drop_succ_cons, List.drop_zero, AV.cells, List.length_nil, List.length_cons, Av.put, Nat.reduceAdd, AV.up, AV.up1, List.map_cons, List.map_nil]
      repeat (first | refine then_nrm ?_ | refine blk_nrm ?_ | refine then_brk ?_ | refine blk_hit ?_ | refine blk_miss rfl ?_ | refine then_ret ?_ | refine blk_ret ?_ | refine aw_seq ?_ | refine aw_block ?_ | refine aw_skip ?_ | refine aw_exit ?_ | refine aw_ret ?_)
      rw [show bthere l i = 0 by simp_all [bthere]]
      exact e_done hB (r_tmp rfl .nil) rfl rfl
end Go.Av
