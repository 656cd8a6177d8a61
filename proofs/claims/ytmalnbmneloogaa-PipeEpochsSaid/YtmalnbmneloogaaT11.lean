/- A part of the proof: walks through the program over abstract values. -/
import Derived.Test.YtmalnbmneloogaaT10
namespace Go.Av
open Go.Proofs
set_option maxRecDepth 10000
set_option linter.unusedSimpArgs false
set_option linter.unusedVariables false

def phead0 (p : Pipe) : Bool := decide (0 ≤ p.epoch) && decide (p.epoch ≤ 1073741824) && decide (1 ≤ p.next) && decide (p.next ≤ 1073741824) && decide (1 ≤ p.want) && decide (p.want ≤ 1073741824) && decide ((p.out.length : Int) ≤ 16)
theorem phead_0 (p : Pipe) : phead p = (phead0 p && decide ((p.out.length : Int) < p.next)) := rfl

set_option maxHeartbeats 0 in
theorem ref17_Right (p : Pipe) (H : Heap) : AC Try.prog 32 [.agg (ePipe p)] H (Ret (.bool (pright p)) H) := by
  refine AC.body (N := 83) [.tmp 2] Try.func32 rfl rfl rfl (Nat.le_of_ble_eq_true rfl) fun B hB => ?_
  repeat (first | refine join_ret ?_ | refine join_brk ?_ | refine then_nrm ?_ | refine blk_nrm ?_ | refine then_brk ?_ | refine blk_hit ?_ | refine blk_miss rfl ?_ | refine then_ret ?_ | refine blk_ret ?_ | refine aw_seq ?_ | refine aw_block ?_ | refine aw_skip ?_ | refine aw_exit ?_ | refine aw_ret ?_)
  refine aw_region ?_
  refine ao2 (by rintro _ ⟨⟩; decide) (o_boxL (sz := 4) (v := .agg _) rfl rfl rfl rfl (by decide) rfl) ?_
  refine ao1 (by decide) (o_assign (v := .bool _) rfl) ?_
  refine ao_nil ?_
  try dsimp only [List.set_cons_zero, List.set_cons_succ, List.cons_append, List.nil_append, List.take_succ_cons, List.take_zero, List.drop_succ_cons, List.drop_zero, AV.cells, List.length_nil, List.length_cons, Av.put, Nat.reduceAdd, AV.up, AV.up1, List.map_cons, List.map_nil]
  repeat (first | refine join_ret ?_ | refine join_brk ?_ | refine then_nrm ?_ | refine blk_nrm ?_ | refine then_brk ?_ | refine blk_hit ?_ | refine blk_miss rfl ?_ | refine then_ret ?_ | refine blk_ret ?_ | refine aw_seq ?_ | refine aw_block ?_ | refine aw_skip ?_ | refine aw_exit ?_ | refine aw_ret ?_)
  refine aw_out 39 (.bool (!phead0 p)) ?_ ?_
  · first | refine ao1 (by decide) (w_fieldAddr rfl (lk rfl rfl) rfl (by decide)) ?_ | refine ao1 (by decide) (w_fieldAddrp rfl (by decide)) ?_ | refine ao1 (by decide) (w_fieldAddr rfl (lkF hF) rfl (by decide)) ?_
    first | refine ao1 (by decide) (w_load1 (v := .int _ _) rfl (lk rfl rfl) rfl rfl rfl) ?_ | refine ao1 (by decide) (w_load1 (v := .int _ _) rfl (lk rfl rfl) rfl (zadd hr) rfl) ?_ | refine ao1 (by decide) (w_load1 (v := .int _ _) rfl (lk rfl rfl) rfl (zadd hr1) rfl) ?_ | refine ao1 (by decide) (w_load1 (v := .int _ _) rfl (lk rfl rfl) rfl (zadd hr2) rfl) ?_ | refine ao1 (by decide) (o_load1p (v := .int _ _) rfl hr rfl) ?_ | refine ao1 (by decide) (o_load1p (v := .int _ _) rfl hr1 rfl) ?_ | refine ao1 (by decide) (o_load1p (v := .int _ _) rfl hr2 rfl) ?_ | refine ao1 (by decide) (w_load1 (v := .int _ _) rfl (lkF hF) rfl rfl rfl) ?_
    refine ao1 (by decide) (o_lt rfl rfl) ?_
    refine ao1 (by decide) (o_move (v := .bool _) rfl) ?_
    refine ao_split rfl rfl (fun hg3 => ?_) (fun hg3 => ?_)
    · refine ao_nF rfl rfl (by decide) ?_
      refine ao_nF rfl rfl (by decide) ?_
      refine ao_nF rfl rfl (by decide) ?_
      first | refine ao1 (by decide) (o_pick_t (v := .bool _) rfl rfl) ?_ | refine ao1 (by decide) (o_pick_f (v := .bool _) rfl rfl) ?_ | refine ao1 (by decide) (o_pick_b rfl rfl rfl) ?_
      refine ao1 (by decide) (o_move (v := .bool _) rfl) ?_
      refine ao_nF rfl rfl (by decide) ?_
      refine ao_nF rfl rfl (by decide) ?_
      refine ao_nF rfl rfl (by decide) ?_
      first | refine ao1 (by decide) (o_pick_t (v := .bool _) rfl rfl) ?_ | refine ao1 (by decide) (o_pick_f (v := .bool _) rfl rfl) ?_ | refine ao1 (by decide) (o_pick_b rfl rfl rfl) ?_
      refine ao1 (by decide) (o_move (v := .bool _) rfl) ?_
      refine ao_nF rfl rfl (by decide) ?_
      refine ao_nF rfl rfl (by decide) ?_
      refine ao_nF rfl rfl (by decide) ?_
      first | refine ao1 (by decide) (o_pick_t (v := .bool _) rfl rfl) ?_ | refine ao1 (by decide) (o_pick_f (v := .bool _) rfl rfl) ?_ | refine ao1 (by decide) (o_pick_b rfl rfl rfl) ?_
      refine ao1 (by decide) (o_move (v := .bool _) rfl) ?_
      refine ao_nF rfl rfl (by decide) ?_
      refine ao_nF rfl rfl (by decide) ?_
      refine ao_nF rfl rfl (by decide) ?_
      first | refine ao1 (by decide) (o_pick_t (v := .bool _) rfl rfl) ?_ | refine ao1 (by decide) (o_pick_f (v := .bool _) rfl rfl) ?_ | refine ao1 (by decide) (o_pick_b rfl rfl rfl) ?_
      refine ao1 (by decide) (o_move (v := .bool _) rfl) ?_
      refine ao_nF rfl rfl (by decide) ?_
      refine ao_nF rfl rfl (by decide) ?_
      refine ao_nF rfl rfl (by decide) ?_
      first | refine ao1 (by decide) (o_pick_t (v := .bool _) rfl rfl) ?_ | refine ao1 (by decide) (o_pick_f (v := .bool _) rfl rfl) ?_ | refine ao1 (by decide) (o_pick_b rfl rfl rfl) ?_
      refine ao1 (by decide) (o_move (v := .bool _) rfl) ?_
      refine ao_nF rfl rfl (by decide) ?_
      refine ao_nF rfl rfl (by decide) ?_
      refine ao_nF rfl rfl (by decide) ?_
      refine ao_nF rfl rfl (by decide) ?_
      first | refine ao1 (by decide) (o_pick_t (v := .bool _) rfl rfl) ?_ | refine ao1 (by decide) (o_pick_f (v := .bool _) rfl rfl) ?_ | refine ao1 (by decide) (o_pick_b rfl rfl rfl) ?_
      exact ao_nil (Out.mk (by first | rfl | (refine congrArg AV.bool ?_; simp only [phead0] at *; grind)) (by repeat (first | exact SubX.refl _ _ | refine SubX.at ?_ | refine SubX.put rfl ?_ | refine SubX.put_same rfl ?_)))
    · first | refine ao_y1 rfl rfl (by decide) (w_fieldAddr rfl (lk rfl rfl) rfl (by decide)) ?_ | refine ao_y1 rfl rfl (by decide) (w_fieldAddrp rfl (by decide)) ?_ | refine ao_y1 rfl rfl (by decide) (w_fieldAddr rfl (lkF hF) rfl (by decide)) ?_
      first | refine ao_y1 rfl rfl (by decide) (w_load1 (v := .int _ _) rfl (lk rfl rfl) rfl rfl rfl) ?_ | refine ao_y1 rfl rfl (by decide) (w_load1 (v := .int _ _) rfl (lk rfl rfl) rfl (zadd hr) rfl) ?_ | refine ao_y1 rfl rfl (by decide) (w_load1 (v := .int _ _) rfl (lk rfl rfl) rfl (zadd hr1) rfl) ?_ | refine ao_y1 rfl rfl (by decide) (w_load1 (v := .int _ _) rfl (lk rfl rfl) rfl (zadd hr2) rfl) ?_ | refine ao_y1 rfl rfl (by decide) (o_load1p (v := .int _ _) rfl hr rfl) ?_ | refine ao_y1 rfl rfl (by decide) (o_load1p (v := .int _ _) rfl hr1 rfl) ?_ | refine ao_y1 rfl rfl (by decide) (o_load1p (v := .int _ _) rfl hr2 rfl) ?_ | refine ao_y1 rfl rfl (by decide) (w_load1 (v := .int _ _) rfl (lkF hF) rfl rfl rfl) ?_
      refine ao_y1 rfl rfl (by decide) (o_gt rfl rfl) ?_
      first | refine ao1 (by decide) (o_pick_t (v := .bool _) rfl rfl) ?_ | refine ao1 (by decide) (o_pick_f (v := .bool _) rfl rfl) ?_ | refine ao1 (by decide) (o_pick_b rfl rfl rfl) ?_
      refine ao1 (by decide) (o_move (v := .bool _) rfl) ?_
      refine ao_split rfl rfl (fun hg8 => ?_) (fun hg8 => ?_)
      · refine ao_nF rfl rfl (by decide) ?_
        refine ao_nF rfl rfl (by decide) ?_
        refine ao_nF rfl rfl (by decide) ?_
        first | refine ao1 (by decide) (o_pick_t (v := .bool _) rfl rfl) ?_ | refine ao1 (by decide) (o_pick_f (v := .bool _) rfl rfl) ?_ | refine ao1 (by decide) (o_pick_b rfl rfl rfl) ?_
        refine ao1 (by decide) (o_move (v := .bool _) rfl) ?_
        refine ao_nF rfl rfl (by decide) ?_
        refine ao_nF rfl rfl (by decide) ?_
        refine ao_nF rfl rfl (by decide) ?_
        first | refine ao1 (by decide) (o_pick_t (v := .bool _) rfl rfl) ?_ | refine ao1 (by decide) (o_pick_f (v := .bool _) rfl rfl) ?_ | refine ao1 (by decide) (o_pick_b rfl rfl rfl) ?_
        refine ao1 (by decide) (o_move (v := .bool _) rfl) ?_
        refine ao_nF rfl rfl (by decide) ?_
        refine ao_nF rfl rfl (by decide) ?_
        refine ao_nF rfl rfl (by decide) ?_
        first | refine ao1 (by decide) (o_pick_t (v := .bool _) rfl rfl) ?_ | refine ao1 (by decide) (o_pick_f (v := .bool _) rfl rfl) ?_ | refine ao1 (by decide) (o_pick_b rfl rfl rfl) ?_
        refine ao1 (by decide) (o_move (v := .bool _) rfl) ?_
        refine ao_nF rfl rfl (by decide) ?_
        refine ao_nF rfl rfl (by decide) ?_
        refine ao_nF rfl rfl (by decide) ?_
        first | refine ao1 (by decide) (o_pick_t (v := .bool _) rfl rfl) ?_ | refine ao1 (by decide) (o_pick_f (v := .bool _) rfl rfl) ?_ | refine ao1 (by decide) (o_pick_b rfl rfl rfl) ?_
        refine ao1 (by decide) (o_move (v := .bool _) rfl) ?_
        refine ao_nF rfl rfl (by decide) ?_
        refine ao_nF rfl rfl (by decide) ?_
        refine ao_nF rfl rfl (by decide) ?_
        refine ao_nF rfl rfl (by decide) ?_
        first | refine ao1 (by decide) (o_pick_t (v := .bool _) rfl rfl) ?_ | refine ao1 (by decide) (o_pick_f (v := .bool _) rfl rfl) ?_ | refine ao1 (by decide) (o_pick_b rfl rfl rfl) ?_
        exact ao_nil (Out.mk (by first | rfl | (refine congrArg AV.bool ?_; simp only [phead0] at *; grind)) (by repeat (first | exact SubX.refl _ _ | refine SubX.at ?_ | refine SubX.put rfl ?_ | refine SubX.put_same rfl ?_)))
      · first | refine ao_y1 rfl rfl (by decide) (w_fieldAddr rfl (lk rfl rfl) rfl (by decide)) ?_ | refine ao_y1 rfl rfl (by decide) (w_fieldAddrp rfl (by decide)) ?_ | refine ao_y1 rfl rfl (by decide) (w_fieldAddr rfl (lkF hF) rfl (by decide)) ?_
        first | refine ao_y1 rfl rfl (by decide) (w_load1 (v := .int _ _) rfl (lk rfl rfl) rfl rfl rfl) ?_ | refine ao_y1 rfl rfl (by decide) (w_load1 (v := .int _ _) rfl (lk rfl rfl) rfl (zadd hr) rfl) ?_ | refine ao_y1 rfl rfl (by decide) (w_load1 (v := .int _ _) rfl (lk rfl rfl) rfl (zadd hr1) rfl) ?_ | refine ao_y1 rfl rfl (by decide) (w_load1 (v := .int _ _) rfl (lk rfl rfl) rfl (zadd hr2) rfl) ?_ | refine ao_y1 rfl rfl (by decide) (o_load1p (v := .int _ _) rfl hr rfl) ?_ | refine ao_y1 rfl rfl (by decide) (o_load1p (v := .int _ _) rfl hr1 rfl) ?_ | refine ao_y1 rfl rfl (by decide) (o_load1p (v := .int _ _) rfl hr2 rfl) ?_ | refine ao_y1 rfl rfl (by decide) (w_load1 (v := .int _ _) rfl (lkF hF) rfl rfl rfl) ?_
        refine ao_y1 rfl rfl (by decide) (o_lt rfl rfl) ?_
        first | refine ao1 (by decide) (o_pick_t (v := .bool _) rfl rfl) ?_ | refine ao1 (by decide) (o_pick_f (v := .bool _) rfl rfl) ?_ | refine ao1 (by decide) (o_pick_b rfl rfl rfl) ?_
        refine ao1 (by decide) (o_move (v := .bool _) rfl) ?_
        refine ao_split rfl rfl (fun hg13 => ?_) (fun hg13 => ?_)
        · refine ao_nF rfl rfl (by decide) ?_
          refine ao_nF rfl rfl (by decide) ?_
          refine ao_nF rfl rfl (by decide) ?_
          first | refine ao1 (by decide) (o_pick_t (v := .bool _) rfl rfl) ?_ | refine ao1 (by decide) (o_pick_f (v := .bool _) rfl rfl) ?_ | refine ao1 (by decide) (o_pick_b rfl rfl rfl) ?_
          refine ao1 (by decide) (o_move (v := .bool _) rfl) ?_
          refine ao_nF rfl rfl (by decide) ?_
          refine ao_nF rfl rfl (by decide) ?_
          refine ao_nF rfl rfl (by decide) ?_
          first | refine ao1 (by decide) (o_pick_t (v := .bool _) rfl rfl) ?_ | refine ao1 (by decide) (o_pick_f (v := .bool _) rfl rfl) ?_ | refine ao1 (by decide) (o_pick_b rfl rfl rfl) ?_
          refine ao1 (by decide) (o_move (v := .bool _) rfl) ?_
          refine ao_nF rfl rfl (by decide) ?_
          refine ao_nF rfl rfl (by decide) ?_
          refine ao_nF rfl rfl (by decide) ?_
          first | refine ao1 (by decide) (o_pick_t (v := .bool _) rfl rfl) ?_ | refine ao1 (by decide) (o_pick_f (v := .bool _) rfl rfl) ?_ | refine ao1 (by decide) (o_pick_b rfl rfl rfl) ?_
          refine ao1 (by decide) (o_move (v := .bool _) rfl) ?_
          refine ao_nF rfl rfl (by decide) ?_
          refine ao_nF rfl rfl (by decide) ?_
          refine ao_nF rfl rfl (by decide) ?_
          refine ao_nF rfl rfl (by decide) ?_
          first | refine ao1 (by decide) (o_pick_t (v := .bool _) rfl rfl) ?_ | refine ao1 (by decide) (o_pick_f (v := .bool _) rfl rfl) ?_ | refine ao1 (by decide) (o_pick_b rfl rfl rfl) ?_
          exact ao_nil (Out.mk (by first | rfl | (refine congrArg AV.bool ?_; simp only [phead0] at *; grind)) (by repeat (first | exact SubX.refl _ _ | refine SubX.at ?_ | refine SubX.put rfl ?_ | refine SubX.put_same rfl ?_)))
        · first | refine ao_y1 rfl rfl (by decide) (w_fieldAddr rfl (lk rfl rfl) rfl (by decide)) ?_ | refine ao_y1 rfl rfl (by decide) (w_fieldAddrp rfl (by decide)) ?_ | refine ao_y1 rfl rfl (by decide) (w_fieldAddr rfl (lkF hF) rfl (by decide)) ?_
          first | refine ao_y1 rfl rfl (by decide) (w_load1 (v := .int _ _) rfl (lk rfl rfl) rfl rfl rfl) ?_ | refine ao_y1 rfl rfl (by decide) (w_load1 (v := .int _ _) rfl (lk rfl rfl) rfl (zadd hr) rfl) ?_ | refine ao_y1 rfl rfl (by decide) (w_load1 (v := .int _ _) rfl (lk rfl rfl) rfl (zadd hr1) rfl) ?_ | refine ao_y1 rfl rfl (by decide) (w_load1 (v := .int _ _) rfl (lk rfl rfl) rfl (zadd hr2) rfl) ?_ | refine ao_y1 rfl rfl (by decide) (o_load1p (v := .int _ _) rfl hr rfl) ?_ | refine ao_y1 rfl rfl (by decide) (o_load1p (v := .int _ _) rfl hr1 rfl) ?_ | refine ao_y1 rfl rfl (by decide) (o_load1p (v := .int _ _) rfl hr2 rfl) ?_ | refine ao_y1 rfl rfl (by decide) (w_load1 (v := .int _ _) rfl (lkF hF) rfl rfl rfl) ?_
          refine ao_y1 rfl rfl (by decide) (o_gt rfl rfl) ?_
          first | refine ao1 (by decide) (o_pick_t (v := .bool _) rfl rfl) ?_ | refine ao1 (by decide) (o_pick_f (v := .bool _) rfl rfl) ?_ | refine ao1 (by decide) (o_pick_b rfl rfl rfl) ?_
          refine ao1 (by decide) (o_move (v := .bool _) rfl) ?_
          refine ao_split rfl rfl (fun hg18 => ?_) (fun hg18 => ?_)
          · refine ao_nF rfl rfl (by decide) ?_
            refine ao_nF rfl rfl (by decide) ?_
            refine ao_nF rfl rfl (by decide) ?_
            first | refine ao1 (by decide) (o_pick_t (v := .bool _) rfl rfl) ?_ | refine ao1 (by decide) (o_pick_f (v := .bool _) rfl rfl) ?_ | refine ao1 (by decide) (o_pick_b rfl rfl rfl) ?_
            refine ao1 (by decide) (o_move (v := .bool _) rfl) ?_
            refine ao_nF rfl rfl (by decide) ?_
            refine ao_nF rfl rfl (by decide) ?_
            refine ao_nF rfl rfl (by decide) ?_
            first | refine ao1 (by decide) (o_pick_t (v := .bool _) rfl rfl) ?_ | refine ao1 (by decide) (o_pick_f (v := .bool _) rfl rfl) ?_ | refine ao1 (by decide) (o_pick_b rfl rfl rfl) ?_
            refine ao1 (by decide) (o_move (v := .bool _) rfl) ?_
            refine ao_nF rfl rfl (by decide) ?_
            refine ao_nF rfl rfl (by decide) ?_
            refine ao_nF rfl rfl (by decide) ?_
            refine ao_nF rfl rfl (by decide) ?_
            first | refine ao1 (by decide) (o_pick_t (v := .bool _) rfl rfl) ?_ | refine ao1 (by decide) (o_pick_f (v := .bool _) rfl rfl) ?_ | refine ao1 (by decide) (o_pick_b rfl rfl rfl) ?_
            exact ao_nil (Out.mk (by first | rfl | (refine congrArg AV.bool ?_; simp only [phead0] at *; grind)) (by repeat (first | exact SubX.refl _ _ | refine SubX.at ?_ | refine SubX.put rfl ?_ | refine SubX.put_same rfl ?_)))
          · first | refine ao_y1 rfl rfl (by decide) (w_fieldAddr rfl (lk rfl rfl) rfl (by decide)) ?_ | refine ao_y1 rfl rfl (by decide) (w_fieldAddrp rfl (by decide)) ?_ | refine ao_y1 rfl rfl (by decide) (w_fieldAddr rfl (lkF hF) rfl (by decide)) ?_
            first | refine ao_y1 rfl rfl (by decide) (w_load1 (v := .int _ _) rfl (lk rfl rfl) rfl rfl rfl) ?_ | refine ao_y1 rfl rfl (by decide) (w_load1 (v := .int _ _) rfl (lk rfl rfl) rfl (zadd hr) rfl) ?_ | refine ao_y1 rfl rfl (by decide) (w_load1 (v := .int _ _) rfl (lk rfl rfl) rfl (zadd hr1) rfl) ?_ | refine ao_y1 rfl rfl (by decide) (w_load1 (v := .int _ _) rfl (lk rfl rfl) rfl (zadd hr2) rfl) ?_ | refine ao_y1 rfl rfl (by decide) (o_load1p (v := .int _ _) rfl hr rfl) ?_ | refine ao_y1 rfl rfl (by decide) (o_load1p (v := .int _ _) rfl hr1 rfl) ?_ | refine ao_y1 rfl rfl (by decide) (o_load1p (v := .int _ _) rfl hr2 rfl) ?_ | refine ao_y1 rfl rfl (by decide) (w_load1 (v := .int _ _) rfl (lkF hF) rfl rfl rfl) ?_
            refine ao_y1 rfl rfl (by decide) (o_lt rfl rfl) ?_
            first | refine ao1 (by decide) (o_pick_t (v := .bool _) rfl rfl) ?_ | refine ao1 (by decide) (o_pick_f (v := .bool _) rfl rfl) ?_ | refine ao1 (by decide) (o_pick_b rfl rfl rfl) ?_
            refine ao1 (by decide) (o_move (v := .bool _) rfl) ?_
            refine ao_split rfl rfl (fun hg23 => ?_) (fun hg23 => ?_)
            · refine ao_nF rfl rfl (by decide) ?_
              refine ao_nF rfl rfl (by decide) ?_
              refine ao_nF rfl rfl (by decide) ?_
              first | refine ao1 (by decide) (o_pick_t (v := .bool _) rfl rfl) ?_ | refine ao1 (by decide) (o_pick_f (v := .bool _) rfl rfl) ?_ | refine ao1 (by decide) (o_pick_b rfl rfl rfl) ?_
              refine ao1 (by decide) (o_move (v := .bool _) rfl) ?_
              refine ao_nF rfl rfl (by decide) ?_
              refine ao_nF rfl rfl (by decide) ?_
              refine ao_nF rfl rfl (by decide) ?_
              refine ao_nF rfl rfl (by decide) ?_
              first | refine ao1 (by decide) (o_pick_t (v := .bool _) rfl rfl) ?_ | refine ao1 (by decide) (o_pick_f (v := .bool _) rfl rfl) ?_ | refine ao1 (by decide) (o_pick_b rfl rfl rfl) ?_
              exact ao_nil (Out.mk (by first | rfl | (refine congrArg AV.bool ?_; simp only [phead0] at *; grind)) (by repeat (first | exact SubX.refl _ _ | refine SubX.at ?_ | refine SubX.put rfl ?_ | refine SubX.put_same rfl ?_)))
            · first | refine ao_y1 rfl rfl (by decide) (w_fieldAddr rfl (lk rfl rfl) rfl (by decide)) ?_ | refine ao_y1 rfl rfl (by decide) (w_fieldAddrp rfl (by decide)) ?_ | refine ao_y1 rfl rfl (by decide) (w_fieldAddr rfl (lkF hF) rfl (by decide)) ?_
              first | refine ao_y1 rfl rfl (by decide) (w_load1 (v := .int _ _) rfl (lk rfl rfl) rfl rfl rfl) ?_ | refine ao_y1 rfl rfl (by decide) (w_load1 (v := .int _ _) rfl (lk rfl rfl) rfl (zadd hr) rfl) ?_ | refine ao_y1 rfl rfl (by decide) (w_load1 (v := .int _ _) rfl (lk rfl rfl) rfl (zadd hr1) rfl) ?_ | refine ao_y1 rfl rfl (by decide) (w_load1 (v := .int _ _) rfl (lk rfl rfl) rfl (zadd hr2) rfl) ?_ | refine ao_y1 rfl rfl (by decide) (o_load1p (v := .int _ _) rfl hr rfl) ?_ | refine ao_y1 rfl rfl (by decide) (o_load1p (v := .int _ _) rfl hr1 rfl) ?_ | refine ao_y1 rfl rfl (by decide) (o_load1p (v := .int _ _) rfl hr2 rfl) ?_ | refine ao_y1 rfl rfl (by decide) (w_load1 (v := .int _ _) rfl (lkF hF) rfl rfl rfl) ?_
              refine ao_y1 rfl rfl (by decide) (o_gt rfl rfl) ?_
              first | refine ao1 (by decide) (o_pick_t (v := .bool _) rfl rfl) ?_ | refine ao1 (by decide) (o_pick_f (v := .bool _) rfl rfl) ?_ | refine ao1 (by decide) (o_pick_b rfl rfl rfl) ?_
              refine ao1 (by decide) (o_move (v := .bool _) rfl) ?_
              refine ao_split rfl rfl (fun hg28 => ?_) (fun hg28 => ?_)
              · refine ao_nF rfl rfl (by decide) ?_
                refine ao_nF rfl rfl (by decide) ?_
                refine ao_nF rfl rfl (by decide) ?_
                refine ao_nF rfl rfl (by decide) ?_
                first | refine ao1 (by decide) (o_pick_t (v := .bool _) rfl rfl) ?_ | refine ao1 (by decide) (o_pick_f (v := .bool _) rfl rfl) ?_ | refine ao1 (by decide) (o_pick_b rfl rfl rfl) ?_
                exact ao_nil (Out.mk (by first | rfl | (refine congrArg AV.bool ?_; simp only [phead0] at *; grind)) (by repeat (first | exact SubX.refl _ _ | refine SubX.at ?_ | refine SubX.put rfl ?_ | refine SubX.put_same rfl ?_)))
              · first | refine ao_y1 rfl rfl (by decide) (w_fieldAddr rfl (lk rfl rfl) rfl (by decide)) ?_ | refine ao_y1 rfl rfl (by decide) (w_fieldAddrp rfl (by decide)) ?_ | refine ao_y1 rfl rfl (by decide) (w_fieldAddr rfl (lkF hF) rfl (by decide)) ?_
                first | refine ao_y1 rfl rfl (by decide) (w_load1 (v := .sl _ _ _ _ _) rfl (lk rfl rfl) rfl rfl rfl) ?_ | refine ao_y1 rfl rfl (by decide) (w_load1 (v := .pl _) rfl (lk rfl rfl) rfl rfl rfl) ?_ | refine ao_y1 rfl rfl (by decide) (w_load1 (v := .nsl) rfl (lk rfl rfl) rfl rfl rfl) ?_ | refine ao_y1 rfl rfl (by decide) (w_load1 (v := .sl _ _ _ _ _) rfl (lk rfl rfl) rfl (zadd hr) rfl) ?_ | refine ao_y1 rfl rfl (by decide) (w_load1 (v := .sl _ _ _ _ _) rfl (lk rfl rfl) rfl (zadd hr1) rfl) ?_ | refine ao_y1 rfl rfl (by decide) (w_load1 (v := .sl _ _ _ _ _) rfl (lk rfl rfl) rfl (zadd hr2) rfl) ?_ | refine ao_y1 rfl rfl (by decide) (w_load1 (v := .pl _) rfl (lk rfl rfl) rfl (zadd hr) rfl) ?_ | refine ao_y1 rfl rfl (by decide) (w_load1 (v := .pl _) rfl (lk rfl rfl) rfl (zadd hr1) rfl) ?_ | refine ao_y1 rfl rfl (by decide) (w_load1 (v := .pl _) rfl (lk rfl rfl) rfl (zadd hr2) rfl) ?_ | refine ao_y1 rfl rfl (by decide) (w_load1 (v := .nsl) rfl (lk rfl rfl) rfl (zadd hr) rfl) ?_ | refine ao_y1 rfl rfl (by decide) (w_load1 (v := .nsl) rfl (lk rfl rfl) rfl (zadd hr1) rfl) ?_ | refine ao_y1 rfl rfl (by decide) (w_load1 (v := .nsl) rfl (lk rfl rfl) rfl (zadd hr2) rfl) ?_ | refine ao_y1 rfl rfl (by decide) (o_load1p (v := .sl _ _ _ _ _) rfl hr rfl) ?_ | refine ao_y1 rfl rfl (by decide) (o_load1p (v := .sl _ _ _ _ _) rfl hr1 rfl) ?_ | refine ao_y1 rfl rfl (by decide) (o_load1p (v := .sl _ _ _ _ _) rfl hr2 rfl) ?_ | refine ao_y1 rfl rfl (by decide) (o_load1p (v := .pl _) rfl hr rfl) ?_ | refine ao_y1 rfl rfl (by decide) (o_load1p (v := .pl _) rfl hr1 rfl) ?_ | refine ao_y1 rfl rfl (by decide) (o_load1p (v := .pl _) rfl hr2 rfl) ?_ | refine ao_y1 rfl rfl (by decide) (o_load1p (v := .nsl) rfl hr rfl) ?_ | refine ao_y1 rfl rfl (by decide) (o_load1p (v := .nsl) rfl hr1 rfl) ?_ | refine ao_y1 rfl rfl (by decide) (o_load1p (v := .nsl) rfl hr2 rfl) ?_ | refine ao_y1 rfl rfl (by decide) (w_load1 (v := .sl _ _ _ _ _) rfl (lkF hF) rfl rfl rfl) ?_ | refine ao_y1 rfl rfl (by decide) (w_load1 (v := .pl _) rfl (lkF hF) rfl rfl rfl) ?_ | refine ao_y1 rfl rfl (by decide) (w_load1 (v := .nsl) rfl (lkF hF) rfl rfl rfl) ?_
                first | refine ao_y1 rfl rfl (by decide) (o_lenp rfl) ?_ | refine ao_y1 rfl rfl (by decide) (w_lens rfl (lk rfl rfl) rfl) ?_ | refine ao_y1 rfl rfl (by decide) (o_lenn rfl) ?_ | refine ao_y1 rfl rfl (by decide) (o_lenStr rfl) ?_ | refine ao_y1 rfl rfl (by decide) (w_lens rfl (lkF hF) rfl) ?_
                refine ao_y1 rfl rfl (by decide) (o_gt rfl rfl) ?_
                first | refine ao1 (by decide) (o_pick_t (v := .bool _) rfl rfl) ?_ | refine ao1 (by decide) (o_pick_f (v := .bool _) rfl rfl) ?_ | refine ao1 (by decide) (o_pick_b rfl rfl rfl) ?_
                exact ao_nil (Out.mk (by first | rfl | (refine congrArg AV.bool ?_; simp only [phead0] at *; grind)) (by repeat (first | exact SubX.refl _ _ | refine SubX.at ?_ | refine SubX.put rfl ?_ | refine SubX.put_same rfl ?_)))
  repeat (first | refine join_ret ?_ | refine join_brk ?_ | refine then_nrm ?_ | refine blk_nrm ?_ | refine then_brk ?_ | refine blk_hit ?_ | refine blk_miss rfl ?_ | refine then_ret ?_ | refine blk_ret ?_ | refine aw_seq ?_ | refine aw_block ?_ | refine aw_skip ?_ | refine aw_exit ?_ | refine aw_ret ?_)
  refine aw_cond rfl (fun hc => ?_) (fun hc => ?_)
  · repeat (first | refine join_ret ?_ | refine join_brk ?_ | refine then_nrm ?_ | refine blk_nrm ?_ | refine then_brk ?_ | refine blk_hit ?_ | refine blk_miss rfl ?_ | refine then_ret ?_ | refine blk_ret ?_ | refine aw_seq ?_ | refine aw_block ?_ | refine aw_skip ?_ | refine aw_exit ?_ | refine aw_ret ?_)
    refine aw_region ?_
    refine ao1 (by decide) (o_assign (v := .bool _) rfl) ?_
    refine ao_nil ?_
    try dsimp only [List.set_cons_zero, List.set_cons_succ, List.cons_append, List.nil_append, List.take_succ_cons, List.take_zero, List.drop_succ_cons, List.drop_zero, AV.cells, List.length_nil, List.length_cons, Av.put, Nat.reduceAdd, AV.up, AV.up1, List.map_cons, List.map_nil]
    repeat (first | refine join_ret ?_ | refine join_brk ?_ | refine then_nrm ?_ | refine blk_nrm ?_ | refine then_brk ?_ | refine blk_hit ?_ | refine blk_miss rfl ?_ | refine then_ret ?_ | refine blk_ret ?_ | refine aw_seq ?_ | refine aw_block ?_ | refine aw_skip ?_ | refine aw_exit ?_ | refine aw_ret ?_)
    rw [show pright p = false by simp at hc; simp [pright, phead_0, hc]]
    exact e_done hB (r_tmp rfl .nil) rfl rfl
  have hh : phead0 p = true := by simpa using hc
  have hh' := hh
  simp only [phead0, Bool.and_eq_true, decide_eq_true_eq] at hh'
  obtain ⟨⟨⟨⟨⟨⟨g1, g2⟩, g3⟩, g4⟩, g5⟩, g6⟩, g7⟩ := hh'
  repeat (first | refine join_ret ?_ | refine join_brk ?_ | refine then_nrm ?_ | refine blk_nrm ?_ | refine then_brk ?_ | refine blk_hit ?_ | refine blk_miss rfl ?_ | refine then_ret ?_ | refine blk_ret ?_ | refine aw_seq ?_ | refine aw_block ?_ | refine aw_skip ?_ | refine aw_exit ?_ | refine aw_ret ?_)
  refine aw_region ?_
  first | refine ao1 (by decide) (w_fieldAddr rfl (lk rfl rfl) rfl (by decide)) ?_ | refine ao1 (by decide) (w_fieldAddrp rfl (by decide)) ?_ | refine ao1 (by decide) (w_fieldAddr rfl (lkF hF) rfl (by decide)) ?_
  first | refine ao1 (by decide) (w_load1 (v := .int _ _) rfl (lk rfl rfl) rfl rfl rfl) ?_ | refine ao1 (by decide) (w_load1 (v := .int _ _) rfl (lk rfl rfl) rfl (zadd hr) rfl) ?_ | refine ao1 (by decide) (w_load1 (v := .int _ _) rfl (lk rfl rfl) rfl (zadd hr1) rfl) ?_ | refine ao1 (by decide) (w_load1 (v := .int _ _) rfl (lk rfl rfl) rfl (zadd hr2) rfl) ?_ | refine ao1 (by decide) (o_load1p (v := .int _ _) rfl hr rfl) ?_ | refine ao1 (by decide) (o_load1p (v := .int _ _) rfl hr1 rfl) ?_ | refine ao1 (by decide) (o_load1p (v := .int _ _) rfl hr2 rfl) ?_ | refine ao1 (by decide) (w_load1 (v := .int _ _) rfl (lkF hF) rfl rfl rfl) ?_
  refine ao1 (by decide) (o_assign (v := .int _ _) rfl) ?_
  refine ao_nil ?_
  try dsimp only [List.set_cons_zero, List.set_cons_succ, List.cons_append, List.nil_append, List.take_succ_cons, List.take_zero, List.drop_succ_cons, List.drop_zero, AV.cells, List.length_nil, List.length_cons, Av.put, Nat.reduceAdd, AV.up, AV.up1, List.map_cons, List.map_nil]
  repeat (first | refine join_ret ?_ | refine join_brk ?_ | refine then_nrm ?_ | refine blk_nrm ?_ | refine then_brk ?_ | refine blk_hit ?_ | refine blk_miss rfl ?_ | refine then_ret ?_ | refine blk_ret ?_ | refine aw_seq ?_ | refine aw_block ?_ | refine aw_skip ?_ | refine aw_exit ?_ | refine aw_ret ?_)
  refine aw_region ?_
  first | refine ao1 (by decide) (w_fieldAddr rfl (lk rfl rfl) rfl (by decide)) ?_ | refine ao1 (by decide) (w_fieldAddrp rfl (by decide)) ?_ | refine ao1 (by decide) (w_fieldAddr rfl (lkF hF) rfl (by decide)) ?_
  first | refine ao1 (by decide) (w_load1 (v := .sl _ _ _ _ _) rfl (lk rfl rfl) rfl rfl rfl) ?_ | refine ao1 (by decide) (w_load1 (v := .pl _) rfl (lk rfl rfl) rfl rfl rfl) ?_ | refine ao1 (by decide) (w_load1 (v := .nsl) rfl (lk rfl rfl) rfl rfl rfl) ?_ | refine ao1 (by decide) (w_load1 (v := .sl _ _ _ _ _) rfl (lk rfl rfl) rfl (zadd hr) rfl) ?_ | refine ao1 (by decide) (w_load1 (v := .sl _ _ _ _ _) rfl (lk rfl rfl) rfl (zadd hr1) rfl) ?_ | refine ao1 (by decide) (w_load1 (v := .sl _ _ _ _ _) rfl (lk rfl rfl) rfl (zadd hr2) rfl) ?_ | refine ao1 (by decide) (w_load1 (v := .pl _) rfl (lk rfl rfl) rfl (zadd hr) rfl) ?_ | refine ao1 (by decide) (w_load1 (v := .pl _) rfl (lk rfl rfl) rfl (zadd hr1) rfl) ?_ | refine ao1 (by decide) (w_load1 (v := .pl _) rfl (lk rfl rfl) rfl (zadd hr2) rfl) ?_ | refine ao1 (by decide) (w_load1 (v := .nsl) rfl (lk rfl rfl) rfl (zadd hr) rfl) ?_ | refine ao1 (by decide) (w_load1 (v := .nsl) rfl (lk rfl rfl) rfl (zadd hr1) rfl) ?_ | refine ao1 (by decide) (w_load1 (v := .nsl) rfl (lk rfl rfl) rfl (zadd hr2) rfl) ?_ | refine ao1 (by decide) (o_load1p (v := .sl _ _ _ _ _) rfl hr rfl) ?_ | refine ao1 (by decide) (o_load1p (v := .sl _ _ _ _ _) rfl hr1 rfl) ?_ | refine ao1 (by decide) (o_load1p (v := .sl _ _ _ _ _) rfl hr2 rfl) ?_ | refine ao1 (by decide) (o_load1p (v := .pl _) rfl hr rfl) ?_ | refine ao1 (by decide) (o_load1p (v := .pl _) rfl hr1 rfl) ?_ | refine ao1 (by decide) (o_load1p (v := .pl _) rfl hr2 rfl) ?_ | refine ao1 (by decide) (o_load1p (v := .nsl) rfl hr rfl) ?_ | refine ao1 (by decide) (o_load1p (v := .nsl) rfl hr1 rfl) ?_ | refine ao1 (by decide) (o_load1p (v := .nsl) rfl hr2 rfl) ?_ | refine ao1 (by decide) (w_load1 (v := .sl _ _ _ _ _) rfl (lkF hF) rfl rfl rfl) ?_ | refine ao1 (by decide) (w_load1 (v := .pl _) rfl (lkF hF) rfl rfl rfl) ?_ | refine ao1 (by decide) (w_load1 (v := .nsl) rfl (lkF hF) rfl rfl rfl) ?_
  first | refine ao1 (by decide) (o_lenp rfl) ?_ | refine ao1 (by decide) (w_lens rfl (lk rfl rfl) rfl) ?_ | refine ao1 (by decide) (o_lenn rfl) ?_ | refine ao1 (by decide) (o_lenStr rfl) ?_ | refine ao1 (by decide) (w_lens rfl (lkF hF) rfl) ?_
  refine ao1 (by decide) (o_sub (r := (p.out.length : Int) - 1) rfl rfl (by rw [List.length_map]; exact wrap64_ok (by omega) (by omega))) ?_
  refine ao1 (by decide) (o_assign (v := .int _ _) rfl) ?_
  refine ao_nil ?_
  try dsimp only [List.set_cons_zero, List.set_cons_succ, List.cons_append, List.nil_append, List.take_succ_cons, List.take_zero, List.drop_succ_cons, List.drop_zero, AV.cells, List.length_nil, List.length_cons, Av.put, Nat.reduceAdd, AV.up, AV.up1, List.map_cons, List.map_nil]
  repeat (first | refine join_ret ?_ | refine join_brk ?_ | refine then_nrm ?_ | refine blk_nrm ?_ | refine then_brk ?_ | refine blk_hit ?_ | refine blk_miss rfl ?_ | refine then_ret ?_ | refine blk_ret ?_ | refine aw_seq ?_ | refine aw_block ?_ | refine aw_skip ?_ | refine aw_exit ?_)
  refine aw_loop (G := Nat) (fun m => m ≤ p.out.length ∧ ∀ j, p.out.length - m ≤ j → ∀ x, p.out[j]? = some x → pok p j x = true ∧ 1 ≤ p.next - (p.out.length : Int) + (j : Int)) (fun m => [(1, .pt (Lid H.length 0) 0 0 0), (3, .int .i64 (p.next - (m : Int))), (4, .int .i64 ((p.out.length : Int) - 1 - (m : Int)))]) (fun m => H ++ [⟨0, 4, [ePipe p]⟩]) (fun m => p.out.length - m) 0 ⟨Nat.zero_le _, fun j hj x hx => by have := (List.getElem?_eq_some_iff.1 hx).1; omega⟩ (by rw [show p.next - ((0 : Nat) : Int) = p.next by omega, show (p.out.length : Int) - 1 - ((0 : Nat) : Int) = (p.out.length : Int) - 1 by omega]; exact (by repeat (first | exact Sub.nil | refine Sub.cons (by first | rfl | (simp [get]; done)) ?_))) (Fit.refl _ _) ?_
  rintro m ⟨hm, hno⟩
  repeat (first | refine join_ret ?_ | refine join_brk ?_ | refine then_nrm ?_ | refine blk_nrm ?_ | refine then_brk ?_ | refine blk_hit ?_ | refine blk_miss rfl ?_ | refine then_ret ?_ | refine blk_ret ?_ | refine aw_seq ?_ | refine aw_block ?_ | refine aw_skip ?_ | refine aw_exit ?_ | refine aw_ret ?_)
  refine aw_region ?_
  refine ao1 (by decide) (o_move (v := .int _ _) rfl) ?_
  refine ao1 (by decide) (o_ge rfl rfl) ?_
  refine ao_nil ?_
  try dsimp only [List.set_cons_zero, List.set_cons_succ, List.cons_append, List.nil_append, List.take_succ_cons, List.take_zero, List.drop_succ_cons, List.drop_zero, AV.cells, List.length_nil, List.length_cons, Av.put, Nat.reduceAdd, AV.up, AV.up1, List.map_cons, List.map_nil]
  repeat (first | refine join_ret ?_ | refine join_brk ?_ | refine then_nrm ?_ | refine blk_nrm ?_ | refine then_brk ?_ | refine blk_hit ?_ | refine blk_miss rfl ?_ | refine then_ret ?_ | refine blk_ret ?_ | refine aw_seq ?_ | refine aw_block ?_ | refine aw_skip ?_ | refine aw_exit ?_ | refine aw_ret ?_)
  refine aw_cond rfl (fun hc => ?_) (fun hc => ?_)
  · have hlt : m < p.out.length := by simp at hc; omega
    obtain ⟨i, hi⟩ : ∃ i : Nat, (p.out.length : Int) - 1 - (m : Int) = (i : Int) := ⟨p.out.length - 1 - m, by omega⟩
    have hil : i < p.out.length := by omega
    obtain ⟨x, hx, hxl⟩ := get_in hil
    have hr := map_get ePacket hx
    have hw : p.next - (m : Int) - 1 = p.next - (p.out.length : Int) + (i : Int) := by omega
    rw [hi]
    repeat (first | refine join_ret ?_ | refine join_brk ?_ | refine then_nrm ?_ | refine blk_nrm ?_ | refine then_brk ?_ | refine blk_hit ?_ | refine blk_miss rfl ?_ | refine then_ret ?_ | refine blk_ret ?_ | refine aw_seq ?_ | refine aw_block ?_ | refine aw_skip ?_ | refine aw_exit ?_ | refine aw_ret ?_)
    refine aw_region ?_
    refine ao1 (by decide) (o_move (v := .int _ _) rfl) ?_
    refine ao1 (by decide) (o_sub (r := p.next - (p.out.length : Int) + (i : Int)) rfl rfl (by rw [← hw]; exact wrap64_ok (by omega) (by omega))) ?_
    refine ao1 (by decide) (o_assign (v := .int _ _) rfl) ?_
    refine ao_nil ?_
    try dsimp only [List.set_cons_zero, List.set_cons_succ, List.cons_append, List.nil_append, List.take_succ_cons, List.take_zero, List.drop_succ_cons, List.drop_zero, AV.cells, List.length_nil, List.length_cons, Av.put, Nat.reduceAdd, AV.up, AV.up1, List.map_cons, List.map_nil]
    repeat (first | refine join_ret ?_ | refine join_brk ?_ | refine then_nrm ?_ | refine blk_nrm ?_ | refine then_brk ?_ | refine blk_hit ?_ | refine blk_miss rfl ?_ | refine then_ret ?_ | refine blk_ret ?_ | refine aw_seq ?_ | refine aw_block ?_ | refine aw_skip ?_ | refine aw_exit ?_ | refine aw_ret ?_)
    refine aw_region ?_
    first | refine ao1 (by decide) (w_fieldAddr rfl (lk rfl rfl) rfl (by decide)) ?_ | refine ao1 (by decide) (w_fieldAddrp rfl (by decide)) ?_ | refine ao1 (by decide) (w_fieldAddr rfl (lkF hF) rfl (by decide)) ?_
    first | refine ao1 (by decide) (w_load1 (v := .sl _ _ _ _ _) rfl (lk rfl rfl) rfl rfl rfl) ?_ | refine ao1 (by decide) (w_load1 (v := .pl _) rfl (lk rfl rfl) rfl rfl rfl) ?_ | refine ao1 (by decide) (w_load1 (v := .nsl) rfl (lk rfl rfl) rfl rfl rfl) ?_ | refine ao1 (by decide) (w_load1 (v := .sl _ _ _ _ _) rfl (lk rfl rfl) rfl (zadd hr) rfl) ?_ | refine ao1 (by decide) (w_load1 (v := .sl _ _ _ _ _) rfl (lk rfl rfl) rfl (zadd hr1) rfl) ?_ | refine ao1 (by decide) (w_load1 (v := .sl _ _ _ _ _) rfl (lk rfl rfl) rfl (zadd hr2) rfl) ?_ | refine ao1 (by decide) (w_load1 (v := .pl _) rfl (lk rfl rfl) rfl (zadd hr) rfl) ?_ | refine ao1 (by decide) (w_load1 (v := .pl _) rfl (lk rfl rfl) rfl (zadd hr1) rfl) ?_ | refine ao1 (by decide) (w_load1 (v := .pl _) rfl (lk rfl rfl) rfl (zadd hr2) rfl) ?_ | refine ao1 (by decide) (w_load1 (v := .nsl) rfl (lk rfl rfl) rfl (zadd hr) rfl) ?_ | refine ao1 (by decide) (w_load1 (v := .nsl) rfl (lk rfl rfl) rfl (zadd hr1) rfl) ?_ | refine ao1 (by decide) (w_load1 (v := .nsl) rfl (lk rfl rfl) rfl (zadd hr2) rfl) ?_ | refine ao1 (by decide) (o_load1p (v := .sl _ _ _ _ _) rfl hr rfl) ?_ | refine ao1 (by decide) (o_load1p (v := .sl _ _ _ _ _) rfl hr1 rfl) ?_ | refine ao1 (by decide) (o_load1p (v := .sl _ _ _ _ _) rfl hr2 rfl) ?_ | refine ao1 (by decide) (o_load1p (v := .pl _) rfl hr rfl) ?_ | refine ao1 (by decide) (o_load1p (v := .pl _) rfl hr1 rfl) ?_ | refine ao1 (by decide) (o_load1p (v := .pl _) rfl hr2 rfl) ?_ | refine ao1 (by decide) (o_load1p (v := .nsl) rfl hr rfl) ?_ | refine ao1 (by decide) (o_load1p (v := .nsl) rfl hr1 rfl) ?_ | refine ao1 (by decide) (o_load1p (v := .nsl) rfl hr2 rfl) ?_ | refine ao1 (by decide) (w_load1 (v := .sl _ _ _ _ _) rfl (lkF hF) rfl rfl rfl) ?_ | refine ao1 (by decide) (w_load1 (v := .pl _) rfl (lkF hF) rfl rfl rfl) ?_ | refine ao1 (by decide) (w_load1 (v := .nsl) rfl (lkF hF) rfl rfl rfl) ?_
    refine ao1 (by decide) (o_move (v := .int _ _) rfl) ?_
    first | refine ao1 (by decide) (w_indexAddrpN rfl rfl hr rfl) ?_ | refine ao1 (by decide) (w_indexAddrpN rfl rfl hr1 rfl) ?_ | refine ao1 (by decide) (w_indexAddrpN rfl rfl hr2 rfl) ?_ | refine ao1 (by decide) (w_indexAddrN rfl (lk rfl rfl) rfl rfl rfl (by omega)) ?_ | refine ao1 (by decide) (w_indexAddrp rfl rfl (by omega) hr rfl) ?_ | refine ao1 (by decide) (w_indexAddrp rfl rfl (by omega) hr1 rfl) ?_ | refine ao1 (by decide) (w_indexAddrp rfl rfl (by omega) hr2 rfl) ?_ | refine ao1 (by decide) (w_indexAddr rfl (lk rfl rfl) rfl rfl rfl (by omega) (by omega)) ?_
    first | refine ao1 (by decide) (w_loadR rfl (lk rfl rfl) rfl rfl rfl) ?_ | refine ao1 (by decide) (w_loadR rfl (lk rfl rfl) rfl (zadd hr) rfl) ?_ | refine ao1 (by decide) (w_loadR rfl (lk rfl rfl) rfl (zadd hr1) rfl) ?_ | refine ao1 (by decide) (w_loadR rfl (lk rfl rfl) rfl (zadd hr2) rfl) ?_ | refine ao1 (by decide) (w_loadRp rfl hr rfl) ?_ | refine ao1 (by decide) (w_loadRp rfl hr1 rfl) ?_ | refine ao1 (by decide) (w_loadRp rfl hr2 rfl) ?_ | refine ao1 (by decide) (w_loadN (cs := [_, _, _, _]) rfl (lk rfl rfl) rfl rfl rfl rfl) ?_ | refine ao1 (by decide) (o_loadNp (cs := [_, _, _, _]) rfl hr rfl rfl) ?_ | refine ao1 (by decide) (o_loadNp (cs := [_, _, _, _]) rfl hr1 rfl rfl) ?_ | refine ao1 (by decide) (o_loadNp (cs := [_, _, _, _]) rfl hr2 rfl rfl) ?_ | refine ao1 (by decide) (w_loadR rfl (lkF hF) rfl rfl rfl) ?_ | refine ao1 (by decide) (w_loadN (cs := [_, _, _, _]) rfl (lkF hF) rfl rfl rfl rfl) ?_
    refine ao2 (by rintro _ ⟨⟩; decide) (o_allocL (sz := 4) rfl (by decide) rfl) ?_
    first | refine ao2 (by rintro _ ⟨⟩) (w_storeP (sz := 4) (v := .agg _) (r' := _) rfl rfl rfl rfl rfl rfl rfl rfl (Nat.le_of_ble_eq_true rfl) rfl) ?_ | refine ao2 (by rintro _ ⟨⟩) (w_storeFP (sz := 4) (v := .agg _) (r' := [_, _, _, _]) rfl hF rfl rfl rfl rfl rfl (Nat.le_of_ble_eq_true rfl) rfl) ?_ | refine ao2 (by rintro _ ⟨⟩) (w_storeFP (sz := 4) (v := .agg _) (r' := [_, _, _, _]) rfl hF1 rfl rfl rfl rfl rfl (Nat.le_of_ble_eq_true rfl) rfl) ?_
    refine ao_nil ?_
    try dsimp only [List.set_cons_zero, List.set_cons_succ, List.cons_append, List.nil_append, List.take_succ_cons, List.take_zero, List.drop_succ_cons, List.drop_zero, AV.cells, List.length_nil, List.length_cons, Av.put, Nat.reduceAdd, AV.up, AV.up1, List.map_cons, List.map_nil]
    repeat (first | refine join_ret ?_ | refine join_brk ?_ | refine then_nrm ?_ | refine blk_nrm ?_ | refine then_brk ?_ | refine blk_hit ?_ | refine blk_miss rfl ?_ | refine then_ret ?_ | refine blk_ret ?_ | refine aw_seq ?_ | refine aw_block ?_ | refine aw_skip ?_ | refine aw_exit ?_ | refine aw_ret ?_)
    refine aw_out 82 (.bool (decide (p.next - (p.out.length : Int) + (i : Int) < 1) || !pok p i x)) ?_ ?_
    · refine ao1 (by decide) (o_move (v := .int _ _) rfl) ?_
      refine ao1 (by decide) (o_lt rfl rfl) ?_
      refine ao1 (by decide) (o_move (v := .bool _) rfl) ?_
      refine ao_split rfl rfl (fun hg2 => ?_) (fun hg2 => ?_)
      · refine ao_nF rfl rfl (by decide) ?_
        refine ao_nF rfl rfl (by decide) ?_
        refine ao_nF rfl rfl (by decide) ?_
        refine ao_nF rfl rfl (by decide) ?_
        first | refine ao1 (by decide) (o_pick_t (v := .bool _) rfl rfl) ?_ | refine ao1 (by decide) (o_pick_f (v := .bool _) rfl rfl) ?_ | refine ao1 (by decide) (o_pick_b rfl rfl rfl) ?_
        refine ao1 (by decide) (o_move (v := .bool _) rfl) ?_
        refine ao_nF rfl rfl (by decide) ?_
        refine ao_nF rfl rfl (by decide) ?_
        refine ao_nF rfl rfl (by decide) ?_
        refine ao_nF rfl rfl (by decide) ?_
        refine ao_nF rfl rfl (by decide) ?_
        first | refine ao1 (by decide) (o_pick_t (v := .bool _) rfl rfl) ?_ | refine ao1 (by decide) (o_pick_f (v := .bool _) rfl rfl) ?_ | refine ao1 (by decide) (o_pick_b rfl rfl rfl) ?_
        refine ao1 (by decide) (o_move (v := .bool _) rfl) ?_
        refine ao_nF rfl rfl (by decide) ?_
        refine ao_nF rfl rfl (by decide) ?_
        refine ao_nF rfl rfl (by decide) ?_
        first | refine ao1 (by decide) (o_pick_t (v := .bool _) rfl rfl) ?_ | refine ao1 (by decide) (o_pick_f (v := .bool _) rfl rfl) ?_ | refine ao1 (by decide) (o_pick_b rfl rfl rfl) ?_
        refine ao1 (by decide) (o_move (v := .bool _) rfl) ?_
        refine ao_nF rfl rfl (by decide) ?_
        refine ao_nF rfl rfl (by decide) ?_
        refine ao_nF rfl rfl (by decide) ?_
        refine ao_nF rfl rfl (by decide) ?_
        first | refine ao1 (by decide) (o_pick_t (v := .bool _) rfl rfl) ?_ | refine ao1 (by decide) (o_pick_f (v := .bool _) rfl rfl) ?_ | refine ao1 (by decide) (o_pick_b rfl rfl rfl) ?_
        exact ao_nil (Out.mk (by first | rfl | (refine congrArg AV.bool ?_; simp only [pok] at *; grind)) (by repeat (first | exact SubX.refl _ _ | refine SubX.at ?_ | refine SubX.put rfl ?_ | refine SubX.put_same rfl ?_)))
      · first | refine ao_y1 rfl rfl (by decide) (w_fieldAddr rfl (lk rfl rfl) rfl (by decide)) ?_ | refine ao_y1 rfl rfl (by decide) (w_fieldAddrp rfl (by decide)) ?_ | refine ao_y1 rfl rfl (by decide) (w_fieldAddr rfl (lkF hF) rfl (by decide)) ?_
        first | refine ao_y1 rfl rfl (by decide) (w_load1 (v := .int _ _) rfl (lk rfl rfl) rfl rfl rfl) ?_ | refine ao_y1 rfl rfl (by decide) (w_load1 (v := .int _ _) rfl (lk rfl rfl) rfl (zadd hr) rfl) ?_ | refine ao_y1 rfl rfl (by decide) (w_load1 (v := .int _ _) rfl (lk rfl rfl) rfl (zadd hr1) rfl) ?_ | refine ao_y1 rfl rfl (by decide) (w_load1 (v := .int _ _) rfl (lk rfl rfl) rfl (zadd hr2) rfl) ?_ | refine ao_y1 rfl rfl (by decide) (o_load1p (v := .int _ _) rfl hr rfl) ?_ | refine ao_y1 rfl rfl (by decide) (o_load1p (v := .int _ _) rfl hr1 rfl) ?_ | refine ao_y1 rfl rfl (by decide) (o_load1p (v := .int _ _) rfl hr2 rfl) ?_ | refine ao_y1 rfl rfl (by decide) (w_load1 (v := .int _ _) rfl (lkF hF) rfl rfl rfl) ?_
        refine ao_y1 rfl rfl (by decide) (o_move (v := .int _ _) rfl) ?_
        refine ao_y1 rfl rfl (by decide) (o_ne rfl rfl) ?_
        first | refine ao1 (by decide) (o_pick_t (v := .bool _) rfl rfl) ?_ | refine ao1 (by decide) (o_pick_f (v := .bool _) rfl rfl) ?_ | refine ao1 (by decide) (o_pick_b rfl rfl rfl) ?_
        refine ao1 (by decide) (o_move (v := .bool _) rfl) ?_
        refine ao_split rfl rfl (fun hg8 => ?_) (fun hg8 => ?_)
        · refine ao_nF rfl rfl (by decide) ?_
          refine ao_nF rfl rfl (by decide) ?_
          refine ao_nF rfl rfl (by decide) ?_
          refine ao_nF rfl rfl (by decide) ?_
          refine ao_nF rfl rfl (by decide) ?_
          first | refine ao1 (by decide) (o_pick_t (v := .bool _) rfl rfl) ?_ | refine ao1 (by decide) (o_pick_f (v := .bool _) rfl rfl) ?_ | refine ao1 (by decide) (o_pick_b rfl rfl rfl) ?_
          refine ao1 (by decide) (o_move (v := .bool _) rfl) ?_
          refine ao_nF rfl rfl (by decide) ?_
          refine ao_nF rfl rfl (by decide) ?_
          refine ao_nF rfl rfl (by decide) ?_
          first | refine ao1 (by decide) (o_pick_t (v := .bool _) rfl rfl) ?_ | refine ao1 (by decide) (o_pick_f (v := .bool _) rfl rfl) ?_ | refine ao1 (by decide) (o_pick_b rfl rfl rfl) ?_
          refine ao1 (by decide) (o_move (v := .bool _) rfl) ?_
          refine ao_nF rfl rfl (by decide) ?_
          refine ao_nF rfl rfl (by decide) ?_
          refine ao_nF rfl rfl (by decide) ?_
          refine ao_nF rfl rfl (by decide) ?_
          first | refine ao1 (by decide) (o_pick_t (v := .bool _) rfl rfl) ?_ | refine ao1 (by decide) (o_pick_f (v := .bool _) rfl rfl) ?_ | refine ao1 (by decide) (o_pick_b rfl rfl rfl) ?_
          exact ao_nil (Out.mk (by first | rfl | (refine congrArg AV.bool ?_; simp only [pok] at *; grind)) (by repeat (first | exact SubX.refl _ _ | refine SubX.at ?_ | refine SubX.put rfl ?_ | refine SubX.put_same rfl ?_)))
        · first | refine ao_y1 rfl rfl (by decide) (w_fieldAddr rfl (lk rfl rfl) rfl (by decide)) ?_ | refine ao_y1 rfl rfl (by decide) (w_fieldAddrp rfl (by decide)) ?_ | refine ao_y1 rfl rfl (by decide) (w_fieldAddr rfl (lkF hF) rfl (by decide)) ?_
          first | refine ao_y1 rfl rfl (by decide) (w_load1 (v := .int _ _) rfl (lk rfl rfl) rfl rfl rfl) ?_ | refine ao_y1 rfl rfl (by decide) (w_load1 (v := .int _ _) rfl (lk rfl rfl) rfl (zadd hr) rfl) ?_ | refine ao_y1 rfl rfl (by decide) (w_load1 (v := .int _ _) rfl (lk rfl rfl) rfl (zadd hr1) rfl) ?_ | refine ao_y1 rfl rfl (by decide) (w_load1 (v := .int _ _) rfl (lk rfl rfl) rfl (zadd hr2) rfl) ?_ | refine ao_y1 rfl rfl (by decide) (o_load1p (v := .int _ _) rfl hr rfl) ?_ | refine ao_y1 rfl rfl (by decide) (o_load1p (v := .int _ _) rfl hr1 rfl) ?_ | refine ao_y1 rfl rfl (by decide) (o_load1p (v := .int _ _) rfl hr2 rfl) ?_ | refine ao_y1 rfl rfl (by decide) (w_load1 (v := .int _ _) rfl (lkF hF) rfl rfl rfl) ?_
          first | refine ao_y1 rfl rfl (by decide) (w_fieldAddr rfl (lk rfl rfl) rfl (by decide)) ?_ | refine ao_y1 rfl rfl (by decide) (w_fieldAddrp rfl (by decide)) ?_ | refine ao_y1 rfl rfl (by decide) (w_fieldAddr rfl (lkF hF) rfl (by decide)) ?_
          first | refine ao_y1 rfl rfl (by decide) (w_load1 (v := .int _ _) rfl (lk rfl rfl) rfl rfl rfl) ?_ | refine ao_y1 rfl rfl (by decide) (w_load1 (v := .int _ _) rfl (lk rfl rfl) rfl (zadd hr) rfl) ?_ | refine ao_y1 rfl rfl (by decide) (w_load1 (v := .int _ _) rfl (lk rfl rfl) rfl (zadd hr1) rfl) ?_ | refine ao_y1 rfl rfl (by decide) (w_load1 (v := .int _ _) rfl (lk rfl rfl) rfl (zadd hr2) rfl) ?_ | refine ao_y1 rfl rfl (by decide) (o_load1p (v := .int _ _) rfl hr rfl) ?_ | refine ao_y1 rfl rfl (by decide) (o_load1p (v := .int _ _) rfl hr1 rfl) ?_ | refine ao_y1 rfl rfl (by decide) (o_load1p (v := .int _ _) rfl hr2 rfl) ?_ | refine ao_y1 rfl rfl (by decide) (w_load1 (v := .int _ _) rfl (lkF hF) rfl rfl rfl) ?_
          refine ao_y1 rfl rfl (by decide) (o_ne rfl rfl) ?_
          first | refine ao1 (by decide) (o_pick_t (v := .bool _) rfl rfl) ?_ | refine ao1 (by decide) (o_pick_f (v := .bool _) rfl rfl) ?_ | refine ao1 (by decide) (o_pick_b rfl rfl rfl) ?_
          refine ao1 (by decide) (o_move (v := .bool _) rfl) ?_
          refine ao_split rfl rfl (fun hg15 => ?_) (fun hg15 => ?_)
          · refine ao_nF rfl rfl (by decide) ?_
            refine ao_nF rfl rfl (by decide) ?_
            refine ao_nF rfl rfl (by decide) ?_
            first | refine ao1 (by decide) (o_pick_t (v := .bool _) rfl rfl) ?_ | refine ao1 (by decide) (o_pick_f (v := .bool _) rfl rfl) ?_ | refine ao1 (by decide) (o_pick_b rfl rfl rfl) ?_
            refine ao1 (by decide) (o_move (v := .bool _) rfl) ?_
            refine ao_nF rfl rfl (by decide) ?_
            refine ao_nF rfl rfl (by decide) ?_
            refine ao_nF rfl rfl (by decide) ?_
            refine ao_nF rfl rfl (by decide) ?_
            first | refine ao1 (by decide) (o_pick_t (v := .bool _) rfl rfl) ?_ | refine ao1 (by decide) (o_pick_f (v := .bool _) rfl rfl) ?_ | refine ao1 (by decide) (o_pick_b rfl rfl rfl) ?_
            exact ao_nil (Out.mk (by first | rfl | (refine congrArg AV.bool ?_; simp only [pok] at *; grind)) (by repeat (first | exact SubX.refl _ _ | refine SubX.at ?_ | refine SubX.put rfl ?_ | refine SubX.put_same rfl ?_)))
          · first | refine ao_y1 rfl rfl (by decide) (w_fieldAddr rfl (lk rfl rfl) rfl (by decide)) ?_ | refine ao_y1 rfl rfl (by decide) (w_fieldAddrp rfl (by decide)) ?_ | refine ao_y1 rfl rfl (by decide) (w_fieldAddr rfl (lkF hF) rfl (by decide)) ?_
            first | refine ao_y1 rfl rfl (by decide) (w_load1 (v := .int _ _) rfl (lk rfl rfl) rfl rfl rfl) ?_ | refine ao_y1 rfl rfl (by decide) (w_load1 (v := .int _ _) rfl (lk rfl rfl) rfl (zadd hr) rfl) ?_ | refine ao_y1 rfl rfl (by decide) (w_load1 (v := .int _ _) rfl (lk rfl rfl) rfl (zadd hr1) rfl) ?_ | refine ao_y1 rfl rfl (by decide) (w_load1 (v := .int _ _) rfl (lk rfl rfl) rfl (zadd hr2) rfl) ?_ | refine ao_y1 rfl rfl (by decide) (o_load1p (v := .int _ _) rfl hr rfl) ?_ | refine ao_y1 rfl rfl (by decide) (o_load1p (v := .int _ _) rfl hr1 rfl) ?_ | refine ao_y1 rfl rfl (by decide) (o_load1p (v := .int _ _) rfl hr2 rfl) ?_ | refine ao_y1 rfl rfl (by decide) (w_load1 (v := .int _ _) rfl (lkF hF) rfl rfl rfl) ?_
            refine ao_y1 rfl rfl (by decide) (o_ne rfl rfl) ?_
            first | refine ao1 (by decide) (o_pick_t (v := .bool _) rfl rfl) ?_ | refine ao1 (by decide) (o_pick_f (v := .bool _) rfl rfl) ?_ | refine ao1 (by decide) (o_pick_b rfl rfl rfl) ?_
            refine ao1 (by decide) (o_move (v := .bool _) rfl) ?_
            refine ao_split rfl rfl (fun hg20 => ?_) (fun hg20 => ?_)
            · refine ao_nF rfl rfl (by decide) ?_
              refine ao_nF rfl rfl (by decide) ?_
              refine ao_nF rfl rfl (by decide) ?_
              refine ao_nF rfl rfl (by decide) ?_
              first | refine ao1 (by decide) (o_pick_t (v := .bool _) rfl rfl) ?_ | refine ao1 (by decide) (o_pick_f (v := .bool _) rfl rfl) ?_ | refine ao1 (by decide) (o_pick_b rfl rfl rfl) ?_
              exact ao_nil (Out.mk (by first | rfl | (refine congrArg AV.bool ?_; simp only [pok] at *; grind)) (by repeat (first | exact SubX.refl _ _ | refine SubX.at ?_ | refine SubX.put rfl ?_ | refine SubX.put_same rfl ?_)))
            · first | refine ao_y1 rfl rfl (by decide) (w_fieldAddr rfl (lk rfl rfl) rfl (by decide)) ?_ | refine ao_y1 rfl rfl (by decide) (w_fieldAddrp rfl (by decide)) ?_ | refine ao_y1 rfl rfl (by decide) (w_fieldAddr rfl (lkF hF) rfl (by decide)) ?_
              first | refine ao_y1 rfl rfl (by decide) (w_load1 (v := .sl _ _ _ _ _) rfl (lk rfl rfl) rfl rfl rfl) ?_ | refine ao_y1 rfl rfl (by decide) (w_load1 (v := .pl _) rfl (lk rfl rfl) rfl rfl rfl) ?_ | refine ao_y1 rfl rfl (by decide) (w_load1 (v := .nsl) rfl (lk rfl rfl) rfl rfl rfl) ?_ | refine ao_y1 rfl rfl (by decide) (w_load1 (v := .sl _ _ _ _ _) rfl (lk rfl rfl) rfl (zadd hr) rfl) ?_ | refine ao_y1 rfl rfl (by decide) (w_load1 (v := .sl _ _ _ _ _) rfl (lk rfl rfl) rfl (zadd hr1) rfl) ?_ | refine ao_y1 rfl rfl (by decide) (w_load1 (v := .sl _ _ _ _ _) rfl (lk rfl rfl) rfl (zadd hr2) rfl) ?_ | refine ao_y1 rfl rfl (by decide) (w_load1 (v := .pl _) rfl (lk rfl rfl) rfl (zadd hr) rfl) ?_ | refine ao_y1 rfl rfl (by decide) (w_load1 (v := .pl _) rfl (lk rfl rfl) rfl (zadd hr1) rfl) ?_ | refine ao_y1 rfl rfl (by decide) (w_load1 (v := .pl _) rfl (lk rfl rfl) rfl (zadd hr2) rfl) ?_ | refine ao_y1 rfl rfl (by decide) (w_load1 (v := .nsl) rfl (lk rfl rfl) rfl (zadd hr) rfl) ?_ | refine ao_y1 rfl rfl (by decide) (w_load1 (v := .nsl) rfl (lk rfl rfl) rfl (zadd hr1) rfl) ?_ | refine ao_y1 rfl rfl (by decide) (w_load1 (v := .nsl) rfl (lk rfl rfl) rfl (zadd hr2) rfl) ?_ | refine ao_y1 rfl rfl (by decide) (o_load1p (v := .sl _ _ _ _ _) rfl hr rfl) ?_ | refine ao_y1 rfl rfl (by decide) (o_load1p (v := .sl _ _ _ _ _) rfl hr1 rfl) ?_ | refine ao_y1 rfl rfl (by decide) (o_load1p (v := .sl _ _ _ _ _) rfl hr2 rfl) ?_ | refine ao_y1 rfl rfl (by decide) (o_load1p (v := .pl _) rfl hr rfl) ?_ | refine ao_y1 rfl rfl (by decide) (o_load1p (v := .pl _) rfl hr1 rfl) ?_ | refine ao_y1 rfl rfl (by decide) (o_load1p (v := .pl _) rfl hr2 rfl) ?_ | refine ao_y1 rfl rfl (by decide) (o_load1p (v := .nsl) rfl hr rfl) ?_ | refine ao_y1 rfl rfl (by decide) (o_load1p (v := .nsl) rfl hr1 rfl) ?_ | refine ao_y1 rfl rfl (by decide) (o_load1p (v := .nsl) rfl hr2 rfl) ?_ | refine ao_y1 rfl rfl (by decide) (w_load1 (v := .sl _ _ _ _ _) rfl (lkF hF) rfl rfl rfl) ?_ | refine ao_y1 rfl rfl (by decide) (w_load1 (v := .pl _) rfl (lkF hF) rfl rfl rfl) ?_ | refine ao_y1 rfl rfl (by decide) (w_load1 (v := .nsl) rfl (lkF hF) rfl rfl rfl) ?_
              first | refine ao_y1 rfl rfl (by decide) (o_lenp rfl) ?_ | refine ao_y1 rfl rfl (by decide) (w_lens rfl (lk rfl rfl) rfl) ?_ | refine ao_y1 rfl rfl (by decide) (o_lenn rfl) ?_ | refine ao_y1 rfl rfl (by decide) (o_lenStr rfl) ?_ | refine ao_y1 rfl rfl (by decide) (w_lens rfl (lkF hF) rfl) ?_
              refine ao_y1 rfl rfl (by decide) (o_gt rfl rfl) ?_
              first | refine ao1 (by decide) (o_pick_t (v := .bool _) rfl rfl) ?_ | refine ao1 (by decide) (o_pick_f (v := .bool _) rfl rfl) ?_ | refine ao1 (by decide) (o_pick_b rfl rfl rfl) ?_
              exact ao_nil (Out.mk (by first | rfl | (refine congrArg AV.bool ?_; simp only [pok] at *; grind)) (by repeat (first | exact SubX.refl _ _ | refine SubX.at ?_ | refine SubX.put rfl ?_ | refine SubX.put_same rfl ?_)))
    repeat (first | refine join_ret ?_ | refine join_brk ?_ | refine then_nrm ?_ | refine blk_nrm ?_ | refine then_brk ?_ | refine blk_hit ?_ | refine blk_miss rfl ?_ | refine then_ret ?_ | refine blk_ret ?_ | refine aw_seq ?_ | refine aw_block ?_ | refine aw_skip ?_ | refine aw_exit ?_ | refine aw_ret ?_)
    refine aw_cond rfl (fun hc => ?_) (fun hc => ?_)
    · repeat (first | refine join_ret ?_ | refine join_brk ?_ | refine then_nrm ?_ | refine blk_nrm ?_ | refine then_brk ?_ | refine blk_hit ?_ | refine blk_miss rfl ?_ | refine then_ret ?_ | refine blk_ret ?_ | refine aw_seq ?_ | refine aw_block ?_ | refine aw_skip ?_ | refine aw_exit ?_ | refine aw_ret ?_)
      refine aw_region ?_
      refine ao1 (by decide) (o_assign (v := .bool _) rfl) ?_
      refine ao_nil ?_
      try dsimp only [List.set_cons_zero, List.set_cons_succ, List.cons_append, List.nil_append, List.take_succ_cons, List.take_zero, List.drop_succ_cons, List.drop_zero, AV.cells, List.length_nil, List.length_cons, Av.put, Nat.reduceAdd, AV.up, AV.up1, List.map_cons, List.map_nil]
      repeat (first | refine join_ret ?_ | refine join_brk ?_ | refine then_nrm ?_ | refine blk_nrm ?_ | refine then_brk ?_ | refine blk_hit ?_ | refine blk_miss rfl ?_ | refine then_ret ?_ | refine blk_ret ?_ | refine aw_seq ?_ | refine aw_block ?_ | refine aw_skip ?_ | refine aw_exit ?_ | refine aw_ret ?_)
      rw [show pright p = false by
        simp at hc
        rcases hc with hc | hc
        · rw [pright, phead_0, show decide ((p.out.length : Int) < p.next) = false by simp; omega, Bool.and_false, Bool.false_and]
        · exact pright_false hx hc]
      exact e_done hB (r_tmp rfl .nil) rfl rfl
    · simp at hc
      repeat (first | refine join_ret ?_ | refine join_brk ?_ | refine then_nrm ?_ | refine blk_nrm ?_ | refine then_brk ?_ | refine blk_hit ?_ | refine blk_miss rfl ?_ | refine then_ret ?_ | refine blk_ret ?_ | refine aw_seq ?_ | refine aw_block ?_ | refine aw_skip ?_ | refine aw_exit ?_ | refine aw_ret ?_)
      refine aw_region ?_
      refine ao1 (by decide) (o_move (v := .int _ _) rfl) ?_
      refine ao1 (by decide) (o_sub (r := (p.out.length : Int) - 1 - ((m + 1 : Nat) : Int)) rfl rfl (by rw [show (p.out.length : Int) - 1 - ((m + 1 : Nat) : Int) = (i : Int) - 1 by omega]; exact wrap64_ok (by omega) (by omega))) ?_
      refine ao1 (by decide) (o_assign (v := .int _ _) rfl) ?_
      refine ao_nil ?_
      try dsimp only [List.set_cons_zero, List.set_cons_succ, List.cons_append, List.nil_append, List.take_succ_cons, List.take_zero, List.drop_succ_cons, List.drop_zero, AV.cells, List.length_nil, List.length_cons, Av.put, Nat.reduceAdd, AV.up, AV.up1, List.map_cons, List.map_nil]
      repeat (first | refine join_ret ?_ | refine join_brk ?_ | refine then_nrm ?_ | refine blk_nrm ?_ | refine then_brk ?_ | refine blk_hit ?_ | refine blk_miss rfl ?_ | refine then_ret ?_ | refine blk_ret ?_ | refine aw_seq ?_ | refine aw_block ?_ | refine aw_skip ?_ | refine aw_exit ?_ | refine aw_ret ?_)
      refine ⟨m + 1, by omega, ⟨by omega, fun j hj y hy => ?_⟩, ?_, Fit.loc hB rfl (by rw [show p.next - ((m + 1 : Nat) : Int) = p.next - (p.out.length : Int) + (i : Int) by omega]; exact (by repeat (first | exact EBel.nil | refine EBel.cons (by first | rfl | (simp [AV.bel, AV.bels, Lid]; done) | (simp [AV.bel, AV.bels, Lid]; omega)) ?_))) (by simp [AV.bel, AV.bels])⟩
      · rcases Nat.lt_or_ge j (p.out.length - m) with h | h
        · have : j = i := by omega
          subst this
          rw [hx] at hy
          obtain rfl := Option.some.inj hy
          exact ⟨hc.2, hc.1⟩
        · exact hno j h y hy
      · rw [show p.next - ((m + 1 : Nat) : Int) = p.next - (p.out.length : Int) + (i : Int) by omega]
        exact (by repeat (first | exact Sub.nil | refine Sub.cons (by first | rfl | (simp [get]; done)) ?_))
  · have : m = p.out.length := by simp at hc; omega
    subst this
    rw [(pright_iff p).2 ⟨by
      rw [phead_0, hh, Bool.true_and, decide_eq_true_eq]
      rcases Nat.eq_zero_or_pos p.out.length with h | h
      · omega
      · obtain ⟨x, hx, _⟩ := get_in h
        have := (hno 0 (by omega) x hx).2
        omega, fun j x hx => (hno j (by omega) x hx).1⟩]
    repeat (first | refine join_ret ?_ | refine join_brk ?_ | refine then_nrm ?_ | refine blk_nrm ?_ | refine then_brk ?_ | refine blk_hit ?_ | refine blk_miss rfl ?_ | refine then_ret ?_ | refine blk_ret ?_ | refine aw_seq ?_ | refine aw_block ?_ | refine aw_skip ?_ | refine aw_exit ?_ | refine aw_ret ?_)
    refine aw_region ?_
    refine ao1 (by decide) (o_assign (v := .bool _) rfl) ?_
    refine ao_nil ?_
    try dsimp only [List.set_cons_zero, List.set_cons_succ, List.cons_append, List.nil_append, List.take_succ_cons, List.take_zero, List.drop_succ_cons, List.drop_zero, AV.cells, List.length_nil, List.length_cons, Av.put, Nat.reduceAdd, AV.up, AV.up1, List.map_cons, List.map_nil]
    repeat (first | refine join_ret ?_ | refine join_brk ?_ | refine then_nrm ?_ | refine blk_nrm ?_ | refine then_brk ?_ | refine blk_hit ?_ | refine blk_miss rfl ?_ | refine then_ret ?_ | refine blk_ret ?_ | refine aw_seq ?_ | refine aw_block ?_ | refine aw_skip ?_ | refine aw_exit ?_ | refine aw_ret ?_)
    exact e_done hB (r_tmp rfl .nil) rfl rfl
end Go.Av
