/- A part of the proof: walks through the program over abstract values. -/
import Derived.Test.YtmhfpopbhiloiaaU4
namespace Go.Av
open Go.Proofs
set_option maxRecDepth 10000
set_option linter.unusedSimpArgs false
set_option linter.unusedVariables false


structure Spec where
  nodes : Int
  cores : Int
  gpus : Int
  tag : ByteArray
  whole : Bool
  long : Int
  prio : Int
  deriving DecidableEq
abbrev eSpec (s : Spec) : List AV := [.int .i64 s.nodes, .int .i64 s.cores, .int .i64 s.gpus, .str s.tag, .bool s.whole, .int .i64 s.long, .int .i64 s.prio]
def spec0 : Spec := ⟨0, 0, 0, ⟨#[]⟩, false, 0, 0⟩
def smany (s : Spec) : Bool := (decide (1 ≤ s.nodes) && decide (s.nodes ≤ 64)) && (decide (0 ≤ s.cores) && decide (s.cores ≤ 64)) && (decide (0 ≤ s.gpus) && decide (s.gpus ≤ 64))
def ssome (s : Spec) : Bool := s.whole || decide (0 < s.cores) || decide (0 < s.gpus)
def sright (s : Spec) : Bool := smany s && ssome s && tagok s.tag && (decide (1 ≤ s.long) && decide (s.long ≤ 1099511627776)) && (decide (-1000 ≤ s.prio) && decide (s.prio ≤ 1000))
theorem spec_within (n a b : Int) (H : Heap) : AC Try.prog 28 [.int .i64 n, .int .i64 a, .int .i64 b] H (Ret (.bool (decide (a ≤ n) && decide (n ≤ b))) H) := by
  refine AC.body (N := 15) [.tmp 6] Try.func28 rfl rfl rfl (Nat.le_of_ble_eq_true rfl) fun B hB => ?_
  repeat (refine aw_seq ?_)
  refine aw_region ?_
  refine ao1 (by decide) (o_assign (v := .bool _) rfl) ?_
  refine ao_nil ?_
  repeat (first | refine then_nrm ?_ | refine aw_seq ?_)
  refine aw_out 6 (.bool (decide (a ≤ n) && decide (n ≤ b))) ?_ ?_
  · refine ao1 (by decide) (o_move (v := .int _ _) rfl) ?_
    refine ao1 (by decide) (o_move (v := .int _ _) rfl) ?_
    refine ao1 (by decide) (o_ge rfl rfl) ?_
    refine ao1 (by decide) (o_move (v := .bool _) rfl) ?_
    refine ao_split rfl rfl (fun hg3 => ?_) (fun hg3 => ?_)
    · refine ao_y1 rfl rfl (by decide) (o_move (v := .int _ _) rfl) ?_
      refine ao_y1 rfl rfl (by decide) (o_move (v := .int _ _) rfl) ?_
      refine ao_y1 rfl rfl (by decide) (o_le rfl rfl) ?_
      refine ao1 (by decide) (o_pick_t (v := .bool _) rfl rfl) ?_
      refine ao1 (by decide) (o_assign (v := .bool _) rfl) ?_
      exact ao_nil (Out.mk (by (refine congrArg AV.bool ?_; (refine Bool.eq_iff_iff.mpr ?_; simp only [Bool.and_eq_true, Bool.or_eq_true, Bool.not_eq_true', decide_eq_true_eq, decide_eq_false_iff_not, beq_iff_eq, bne_iff_ne, beq_eq_false_iff_ne, Bool.false_eq_true, Bool.true_eq_false, Bool.and_eq_false_iff, Bool.or_eq_false_iff, List.length_map, false_iff, true_iff, iff_true, iff_false] at *; omega))) (by repeat (first | exact SubX.refl _ _ | refine SubX.at ?_ | refine SubX.put rfl ?_)))
    · refine ao_nT rfl rfl (by decide) ?_
      refine ao_nT rfl rfl (by decide) ?_
      refine ao_nT rfl rfl (by decide) ?_
      refine ao1 (by decide) (o_pick_f (v := .bool _) rfl rfl) ?_
      refine ao1 (by decide) (o_assign (v := .bool _) rfl) ?_
      exact ao_nil (Out.mk (by (refine congrArg AV.bool ?_; (refine Bool.eq_iff_iff.mpr ?_; simp only [Bool.and_eq_true, Bool.or_eq_true, Bool.not_eq_true', decide_eq_true_eq, decide_eq_false_iff_not, beq_iff_eq, bne_iff_ne, beq_eq_false_iff_ne, Bool.false_eq_true, Bool.true_eq_false, Bool.and_eq_false_iff, Bool.or_eq_false_iff, List.length_map, false_iff, true_iff, iff_true, iff_false] at *; omega))) (by repeat (first | exact SubX.refl _ _ | refine SubX.at ?_ | refine SubX.put rfl ?_)))
  repeat (first | refine then_nrm ?_ | refine aw_ret ?_)
  exact e_done hB (r_tmp rfl .nil) rfl rfl
theorem spec_within64 (n a b : Int) (H : Heap) : AC Try.prog 30 [.int .i64 n, .int .i64 a, .int .i64 b] H (Ret (.bool (decide (a ≤ n) && decide (n ≤ b))) H) := by
  refine AC.body (N := 15) [.tmp 6] Try.func30 rfl rfl rfl (Nat.le_of_ble_eq_true rfl) fun B hB => ?_
  repeat (refine aw_seq ?_)
  refine aw_region ?_
  refine ao1 (by decide) (o_assign (v := .bool _) rfl) ?_
  refine ao_nil ?_
  repeat (first | refine then_nrm ?_ | refine aw_seq ?_)
  refine aw_out 6 (.bool (decide (a ≤ n) && decide (n ≤ b))) ?_ ?_
  · refine ao1 (by decide) (o_move (v := .int _ _) rfl) ?_
    refine ao1 (by decide) (o_move (v := .int _ _) rfl) ?_
    refine ao1 (by decide) (o_ge rfl rfl) ?_
    refine ao1 (by decide) (o_move (v := .bool _) rfl) ?_
    refine ao_split rfl rfl (fun hg3 => ?_) (fun hg3 => ?_)
    · refine ao_y1 rfl rfl (by decide) (o_move (v := .int _ _) rfl) ?_
      refine ao_y1 rfl rfl (by decide) (o_move (v := .int _ _) rfl) ?_
      refine ao_y1 rfl rfl (by decide) (o_le rfl rfl) ?_
      refine ao1 (by decide) (o_pick_t (v := .bool _) rfl rfl) ?_
      refine ao1 (by decide) (o_assign (v := .bool _) rfl) ?_
      exact ao_nil (Out.mk (by (refine congrArg AV.bool ?_; (refine Bool.eq_iff_iff.mpr ?_; simp only [Bool.and_eq_true, Bool.or_eq_true, Bool.not_eq_true', decide_eq_true_eq, decide_eq_false_iff_not, beq_iff_eq, bne_iff_ne, beq_eq_false_iff_ne, Bool.false_eq_true, Bool.true_eq_false, Bool.and_eq_false_iff, Bool.or_eq_false_iff, List.length_map, false_iff, true_iff, iff_true, iff_false] at *; omega))) (by repeat (first | exact SubX.refl _ _ | refine SubX.at ?_ | refine SubX.put rfl ?_)))
    · refine ao_nT rfl rfl (by decide) ?_
      refine ao_nT rfl rfl (by decide) ?_
      refine ao_nT rfl rfl (by decide) ?_
      refine ao1 (by decide) (o_pick_f (v := .bool _) rfl rfl) ?_
      refine ao1 (by decide) (o_assign (v := .bool _) rfl) ?_
      exact ao_nil (Out.mk (by (refine congrArg AV.bool ?_; (refine Bool.eq_iff_iff.mpr ?_; simp only [Bool.and_eq_true, Bool.or_eq_true, Bool.not_eq_true', decide_eq_true_eq, decide_eq_false_iff_not, beq_iff_eq, bne_iff_ne, beq_eq_false_iff_ne, Bool.false_eq_true, Bool.true_eq_false, Bool.and_eq_false_iff, Bool.or_eq_false_iff, List.length_map, false_iff, true_iff, iff_true, iff_false] at *; omega))) (by repeat (first | exact SubX.refl _ _ | refine SubX.at ?_ | refine SubX.put rfl ?_)))
  repeat (first | refine then_nrm ?_ | refine aw_ret ?_)
  exact e_done hB (r_tmp rfl .nil) rfl rfl
theorem spec_Right (s : Spec) (H : Heap) : AC Try.prog 13 [.agg (eSpec s)] H (Ret (.bool (sright s)) H) := by
  refine AC.body (N := 49) [.tmp 2] Try.func13 rfl rfl rfl (Nat.le_of_ble_eq_true rfl) fun B hB => ?_
  repeat (refine aw_seq ?_)
  refine aw_region ?_
  refine ao2 (by rintro _ ⟨⟩; decide) (o_boxL (sz := 7) (v := .agg _) rfl rfl rfl rfl (by decide) rfl) ?_
  refine ao1 (by decide) (o_assign (v := .bool _) rfl) ?_
  refine ao_nil ?_
  try dsimp only
  repeat (first | refine then_nrm ?_ | refine aw_seq ?_)
  refine aw_out 3 (.bool (smany s)) ?_ ?_
  · refine ao1 (by decide) (w_fieldAddr rfl (lk rfl rfl) rfl (by decide)) ?_
    refine ao1 (by decide) (w_load1 (v := .int _ _) rfl (lk rfl rfl) rfl rfl rfl) ?_
    refine ao_ret (spec_within _ _ _ _) rfl (by decide) ?_
    refine ao1 (by decide) (o_move (v := .bool _) rfl) ?_
    refine ao_split rfl rfl (fun hg3 => ?_) (fun hg3 => ?_)
    · refine ao_y1 rfl rfl (by decide) (w_fieldAddr rfl (lk rfl rfl) rfl (by decide)) ?_
      refine ao_y1 rfl rfl (by decide) (w_load1 (v := .int _ _) rfl (lk rfl rfl) rfl rfl rfl) ?_
      refine ao_y rfl rfl (by decide) (V2.call (spec_within _ _ _ _) rfl) ?_
      refine ao1 (by decide) (o_pick_t (v := .bool _) rfl rfl) ?_
      refine ao1 (by decide) (o_move (v := .bool _) rfl) ?_
      refine ao_split rfl rfl (fun hg8 => ?_) (fun hg8 => ?_)
      · refine ao_y1 rfl rfl (by decide) (w_fieldAddr rfl (lk rfl rfl) rfl (by decide)) ?_
        refine ao_y1 rfl rfl (by decide) (w_load1 (v := .int _ _) rfl (lk rfl rfl) rfl rfl rfl) ?_
        refine ao_y rfl rfl (by decide) (V2.call (spec_within _ _ _ _) rfl) ?_
        refine ao1 (by decide) (o_pick_t (v := .bool _) rfl rfl) ?_
        refine ao1 (by decide) (o_assign (v := .bool _) rfl) ?_
        exact ao_nil (Out.mk (by (refine congrArg AV.bool ?_; (simp only [smany] at *; (simp_all; done)))) (by repeat (first | exact SubX.refl _ _ | refine SubX.at ?_ | refine SubX.put rfl ?_)))
      · refine ao_nT rfl rfl (by decide) ?_
        refine ao_nT rfl rfl (by decide) ?_
        refine ao_nT rfl rfl (by decide) ?_
        refine ao1 (by decide) (o_pick_f (v := .bool _) rfl rfl) ?_
        refine ao1 (by decide) (o_assign (v := .bool _) rfl) ?_
        exact ao_nil (Out.mk (by (refine congrArg AV.bool ?_; (simp only [smany] at *; (simp_all; omega)))) (by repeat (first | exact SubX.refl _ _ | refine SubX.at ?_ | refine SubX.put rfl ?_)))
    · refine ao_nT rfl rfl (by decide) ?_
      refine ao_nT rfl rfl (by decide) ?_
      refine ao_nT rfl rfl (by decide) ?_
      refine ao1 (by decide) (o_pick_f (v := .bool _) rfl rfl) ?_
      refine ao1 (by decide) (o_move (v := .bool _) rfl) ?_
      refine ao_nT rfl rfl (by decide) ?_
      refine ao_nT rfl rfl (by decide) ?_
      refine ao_nT rfl rfl (by decide) ?_
      refine ao1 (by decide) (o_pick_f (v := .bool _) rfl rfl) ?_
      refine ao1 (by decide) (o_assign (v := .bool _) rfl) ?_
      exact ao_nil (Out.mk (by (refine congrArg AV.bool ?_; (simp only [smany] at *; (simp_all; omega)))) (by repeat (first | exact SubX.refl _ _ | refine SubX.at ?_ | refine SubX.put rfl ?_)))
  repeat (first | refine then_nrm ?_ | refine aw_seq ?_)
  refine aw_out 4 (.bool (ssome s)) ?_ ?_
  · refine ao1 (by decide) (w_fieldAddr rfl (lk rfl rfl) rfl (by decide)) ?_
    refine ao1 (by decide) (w_load1 (v := .bool _) rfl (lk rfl rfl) rfl rfl rfl) ?_
    refine ao1 (by decide) (o_move (v := .bool _) rfl) ?_
    refine ao_split rfl rfl (fun hg2 => ?_) (fun hg2 => ?_)
    · refine ao_nF rfl rfl (by decide) ?_
      refine ao_nF rfl rfl (by decide) ?_
      refine ao_nF rfl rfl (by decide) ?_
      refine ao1 (by decide) (o_pick_t (v := .bool _) rfl rfl) ?_
      refine ao1 (by decide) (o_move (v := .bool _) rfl) ?_
      refine ao_nF rfl rfl (by decide) ?_
      refine ao_nF rfl rfl (by decide) ?_
      refine ao_nF rfl rfl (by decide) ?_
      refine ao1 (by decide) (o_pick_t (v := .bool _) rfl rfl) ?_
      refine ao1 (by decide) (o_assign (v := .bool _) rfl) ?_
      exact ao_nil (Out.mk (by (refine congrArg AV.bool ?_; (simp only [ssome] at *; (simp_all; done)))) (by repeat (first | exact SubX.refl _ _ | refine SubX.at ?_ | refine SubX.put rfl ?_)))
    · refine ao_y1 rfl rfl (by decide) (w_fieldAddr rfl (lk rfl rfl) rfl (by decide)) ?_
      refine ao_y1 rfl rfl (by decide) (w_load1 (v := .int _ _) rfl (lk rfl rfl) rfl rfl rfl) ?_
      refine ao_y1 rfl rfl (by decide) (o_gt rfl rfl) ?_
      refine ao1 (by decide) (o_pick_f (v := .bool _) rfl rfl) ?_
      refine ao1 (by decide) (o_move (v := .bool _) rfl) ?_
      refine ao_split rfl rfl (fun hg7 => ?_) (fun hg7 => ?_)
      · refine ao_nF rfl rfl (by decide) ?_
        refine ao_nF rfl rfl (by decide) ?_
        refine ao_nF rfl rfl (by decide) ?_
        refine ao1 (by decide) (o_pick_t (v := .bool _) rfl rfl) ?_
        refine ao1 (by decide) (o_assign (v := .bool _) rfl) ?_
        exact ao_nil (Out.mk (by (refine congrArg AV.bool ?_; (simp only [ssome] at *; (simp_all; done)))) (by repeat (first | exact SubX.refl _ _ | refine SubX.at ?_ | refine SubX.put rfl ?_)))
      · refine ao_y1 rfl rfl (by decide) (w_fieldAddr rfl (lk rfl rfl) rfl (by decide)) ?_
        refine ao_y1 rfl rfl (by decide) (w_load1 (v := .int _ _) rfl (lk rfl rfl) rfl rfl rfl) ?_
        refine ao_y1 rfl rfl (by decide) (o_gt rfl rfl) ?_
        refine ao1 (by decide) (o_pick_f (v := .bool _) rfl rfl) ?_
        refine ao1 (by decide) (o_assign (v := .bool _) rfl) ?_
        exact ao_nil (Out.mk (by (refine congrArg AV.bool ?_; (simp only [ssome] at *; (simp_all; omega)))) (by repeat (first | exact SubX.refl _ _ | refine SubX.at ?_ | refine SubX.put rfl ?_)))
  repeat (first | refine then_nrm ?_ | refine aw_seq ?_)
  refine aw_out 2 (.bool (sright s)) ?_ ?_
  · refine ao1 (by decide) (o_move (v := .bool _) rfl) ?_
    refine ao1 (by decide) (o_move (v := .bool _) rfl) ?_
    refine ao_split rfl rfl (fun hg1 => ?_) (fun hg1 => ?_)
    · refine ao_y1 rfl rfl (by decide) (o_move (v := .bool _) rfl) ?_
      refine ao1 (by decide) (o_pick_t (v := .bool _) rfl rfl) ?_
      refine ao1 (by decide) (o_move (v := .bool _) rfl) ?_
      refine ao_split rfl rfl (fun hg4 => ?_) (fun hg4 => ?_)
      · refine ao_y1 rfl rfl (by decide) (w_fieldAddr rfl (lk rfl rfl) rfl (by decide)) ?_
        refine ao_y1 rfl rfl (by decide) (w_load1 (v := .str _) rfl (lk rfl rfl) rfl rfl rfl) ?_
        refine ao_y rfl rfl (by decide) (V2.call (graph_Tag _ _) rfl) ?_
        refine ao1 (by decide) (o_pick_t (v := .bool _) rfl rfl) ?_
        refine ao1 (by decide) (o_move (v := .bool _) rfl) ?_
        refine ao_split rfl rfl (fun hg9 => ?_) (fun hg9 => ?_)
        · refine ao_y1 rfl rfl (by decide) (w_fieldAddr rfl (lk rfl rfl) rfl (by decide)) ?_
          refine ao_y1 rfl rfl (by decide) (w_load1 (v := .int _ _) rfl (lk rfl rfl) rfl rfl rfl) ?_
          refine ao_y rfl rfl (by decide) (V2.call (spec_within64 _ _ _ _) rfl) ?_
          refine ao1 (by decide) (o_pick_t (v := .bool _) rfl rfl) ?_
          refine ao1 (by decide) (o_move (v := .bool _) rfl) ?_
          refine ao_split rfl rfl (fun hg14 => ?_) (fun hg14 => ?_)
          · refine ao_y1 rfl rfl (by decide) (w_fieldAddr rfl (lk rfl rfl) rfl (by decide)) ?_
            refine ao_y1 rfl rfl (by decide) (w_load1 (v := .int _ _) rfl (lk rfl rfl) rfl rfl rfl) ?_
            refine ao_y rfl rfl (by decide) (V2.call (spec_within _ _ _ _) rfl) ?_
            refine ao1 (by decide) (o_pick_t (v := .bool _) rfl rfl) ?_
            refine ao1 (by decide) (o_assign (v := .bool _) rfl) ?_
            exact ao_nil (Out.mk (by (refine congrArg AV.bool ?_; (simp only [sright] at *; (simp_all; done)))) (by repeat (first | exact SubX.refl _ _ | refine SubX.at ?_ | refine SubX.put rfl ?_)))
          · refine ao_nT rfl rfl (by decide) ?_
            refine ao_nT rfl rfl (by decide) ?_
            refine ao_nT rfl rfl (by decide) ?_
            refine ao1 (by decide) (o_pick_f (v := .bool _) rfl rfl) ?_
            refine ao1 (by decide) (o_assign (v := .bool _) rfl) ?_
            exact ao_nil (Out.mk (by (refine congrArg AV.bool ?_; (simp only [sright] at *; (simp_all; omega)))) (by repeat (first | exact SubX.refl _ _ | refine SubX.at ?_ | refine SubX.put rfl ?_)))
        · refine ao_nT rfl rfl (by decide) ?_
          refine ao_nT rfl rfl (by decide) ?_
          refine ao_nT rfl rfl (by decide) ?_
          refine ao1 (by decide) (o_pick_f (v := .bool _) rfl rfl) ?_
          refine ao1 (by decide) (o_move (v := .bool _) rfl) ?_
          refine ao_nT rfl rfl (by decide) ?_
          refine ao_nT rfl rfl (by decide) ?_
          refine ao_nT rfl rfl (by decide) ?_
          refine ao1 (by decide) (o_pick_f (v := .bool _) rfl rfl) ?_
          refine ao1 (by decide) (o_assign (v := .bool _) rfl) ?_
          exact ao_nil (Out.mk (by (refine congrArg AV.bool ?_; (simp only [sright] at *; (simp_all; done)))) (by repeat (first | exact SubX.refl _ _ | refine SubX.at ?_ | refine SubX.put rfl ?_)))
      · refine ao_nT rfl rfl (by decide) ?_
        refine ao_nT rfl rfl (by decide) ?_
        refine ao_nT rfl rfl (by decide) ?_
        refine ao1 (by decide) (o_pick_f (v := .bool _) rfl rfl) ?_
        refine ao1 (by decide) (o_move (v := .bool _) rfl) ?_
        refine ao_nT rfl rfl (by decide) ?_
        refine ao_nT rfl rfl (by decide) ?_
        refine ao_nT rfl rfl (by decide) ?_
        refine ao1 (by decide) (o_pick_f (v := .bool _) rfl rfl) ?_
        refine ao1 (by decide) (o_move (v := .bool _) rfl) ?_
        refine ao_nT rfl rfl (by decide) ?_
        refine ao_nT rfl rfl (by decide) ?_
        refine ao_nT rfl rfl (by decide) ?_
        refine ao1 (by decide) (o_pick_f (v := .bool _) rfl rfl) ?_
        refine ao1 (by decide) (o_assign (v := .bool _) rfl) ?_
        exact ao_nil (Out.mk (by (refine congrArg AV.bool ?_; (simp only [sright] at *; (simp_all; done)))) (by repeat (first | exact SubX.refl _ _ | refine SubX.at ?_ | refine SubX.put rfl ?_)))
    · refine ao_nT rfl rfl (by decide) ?_
      refine ao1 (by decide) (o_pick_f (v := .bool _) rfl rfl) ?_
      refine ao1 (by decide) (o_move (v := .bool _) rfl) ?_
      refine ao_nT rfl rfl (by decide) ?_
      refine ao_nT rfl rfl (by decide) ?_
      refine ao_nT rfl rfl (by decide) ?_
      refine ao1 (by decide) (o_pick_f (v := .bool _) rfl rfl) ?_
      refine ao1 (by decide) (o_move (v := .bool _) rfl) ?_
      refine ao_nT rfl rfl (by decide) ?_
      refine ao_nT rfl rfl (by decide) ?_
      refine ao_nT rfl rfl (by decide) ?_
      refine ao1 (by decide) (o_pick_f (v := .bool _) rfl rfl) ?_
      refine ao1 (by decide) (o_move (v := .bool _) rfl) ?_
      refine ao_nT rfl rfl (by decide) ?_
      refine ao_nT rfl rfl (by decide) ?_
      refine ao_nT rfl rfl (by decide) ?_
      refine ao1 (by decide) (o_pick_f (v := .bool _) rfl rfl) ?_
      refine ao1 (by decide) (o_assign (v := .bool _) rfl) ?_
      exact ao_nil (Out.mk (by (refine congrArg AV.bool ?_; (simp only [sright] at *; (simp_all; done)))) (by repeat (first | exact SubX.refl _ _ | refine SubX.at ?_ | refine SubX.put rfl ?_)))
  repeat (first | refine then_nrm ?_ | refine aw_ret ?_)
  exact e_done hB (r_tmp rfl .nil) rfl rfl
theorem ref07_Right (s : Spec) (H : Heap) (ht : s.tag.size ≤ 9223372036854775807) : AC Try.prog 11 [.agg (eSpec s)] H (Ret (.bool (sright s)) H) := by
  refine AC.body (N := 67) [.tmp 2] Try.func11 rfl rfl rfl (Nat.le_of_ble_eq_true rfl) fun B hB => ?_
  repeat (refine aw_seq ?_)
  refine aw_region ?_
  refine ao2 (by rintro _ ⟨⟩; decide) (o_boxL (sz := 7) (v := .agg _) rfl rfl rfl rfl (by decide) rfl) ?_
  refine ao1 (by decide) (o_assign (v := .bool _) rfl) ?_
  refine ao_nil ?_
  try dsimp only
  repeat (first | refine then_nrm ?_ | refine aw_seq ?_)
  refine aw_out 30 (.bool (!smany s)) ?_ ?_
  · refine ao1 (by decide) (w_fieldAddr rfl (lk rfl rfl) rfl (by decide)) ?_
    refine ao1 (by decide) (w_load1 (v := .int _ _) rfl (lk rfl rfl) rfl rfl rfl) ?_
    refine ao1 (by decide) (o_lt rfl rfl) ?_
    refine ao1 (by decide) (o_move (v := .bool _) rfl) ?_
    refine ao_split rfl rfl (fun hg3 => ?_) (fun hg3 => ?_)
    · refine ao_nF rfl rfl (by decide) ?_
      refine ao_nF rfl rfl (by decide) ?_
      refine ao_nF rfl rfl (by decide) ?_
      refine ao1 (by decide) (o_pick_t (v := .bool _) rfl rfl) ?_
      refine ao1 (by decide) (o_move (v := .bool _) rfl) ?_
      refine ao_nF rfl rfl (by decide) ?_
      refine ao_nF rfl rfl (by decide) ?_
      refine ao_nF rfl rfl (by decide) ?_
      refine ao1 (by decide) (o_pick_t (v := .bool _) rfl rfl) ?_
      refine ao1 (by decide) (o_move (v := .bool _) rfl) ?_
      refine ao_nF rfl rfl (by decide) ?_
      refine ao_nF rfl rfl (by decide) ?_
      refine ao_nF rfl rfl (by decide) ?_
      refine ao1 (by decide) (o_pick_t (v := .bool _) rfl rfl) ?_
      refine ao1 (by decide) (o_move (v := .bool _) rfl) ?_
      refine ao_nF rfl rfl (by decide) ?_
      refine ao_nF rfl rfl (by decide) ?_
      refine ao_nF rfl rfl (by decide) ?_
      refine ao1 (by decide) (o_pick_t (v := .bool _) rfl rfl) ?_
      refine ao1 (by decide) (o_move (v := .bool _) rfl) ?_
      refine ao_nF rfl rfl (by decide) ?_
      refine ao_nF rfl rfl (by decide) ?_
      refine ao_nF rfl rfl (by decide) ?_
      refine ao1 (by decide) (o_pick_t (v := .bool _) rfl rfl) ?_
      exact ao_nil (Out.mk (by (refine congrArg AV.bool ?_; (simp only [smany] at *; (simp_all; done)))) (by repeat (first | exact SubX.refl _ _ | refine SubX.at ?_ | refine SubX.put rfl ?_)))
    · refine ao_y1 rfl rfl (by decide) (w_fieldAddr rfl (lk rfl rfl) rfl (by decide)) ?_
      refine ao_y1 rfl rfl (by decide) (w_load1 (v := .int _ _) rfl (lk rfl rfl) rfl rfl rfl) ?_
      refine ao_y1 rfl rfl (by decide) (o_gt rfl rfl) ?_
      refine ao1 (by decide) (o_pick_f (v := .bool _) rfl rfl) ?_
      refine ao1 (by decide) (o_move (v := .bool _) rfl) ?_
      refine ao_split rfl rfl (fun hg8 => ?_) (fun hg8 => ?_)
      · refine ao_nF rfl rfl (by decide) ?_
        refine ao_nF rfl rfl (by decide) ?_
        refine ao_nF rfl rfl (by decide) ?_
        refine ao1 (by decide) (o_pick_t (v := .bool _) rfl rfl) ?_
        refine ao1 (by decide) (o_move (v := .bool _) rfl) ?_
        refine ao_nF rfl rfl (by decide) ?_
        refine ao_nF rfl rfl (by decide) ?_
        refine ao_nF rfl rfl (by decide) ?_
        refine ao1 (by decide) (o_pick_t (v := .bool _) rfl rfl) ?_
        refine ao1 (by decide) (o_move (v := .bool _) rfl) ?_
        refine ao_nF rfl rfl (by decide) ?_
        refine ao_nF rfl rfl (by decide) ?_
        refine ao_nF rfl rfl (by decide) ?_
        refine ao1 (by decide) (o_pick_t (v := .bool _) rfl rfl) ?_
        refine ao1 (by decide) (o_move (v := .bool _) rfl) ?_
        refine ao_nF rfl rfl (by decide) ?_
        refine ao_nF rfl rfl (by decide) ?_
        refine ao_nF rfl rfl (by decide) ?_
        refine ao1 (by decide) (o_pick_t (v := .bool _) rfl rfl) ?_
        exact ao_nil (Out.mk (by (refine congrArg AV.bool ?_; (simp only [smany] at *; (simp_all; done)))) (by repeat (first | exact SubX.refl _ _ | refine SubX.at ?_ | refine SubX.put rfl ?_)))
      · refine ao_y1 rfl rfl (by decide) (w_fieldAddr rfl (lk rfl rfl) rfl (by decide)) ?_
        refine ao_y1 rfl rfl (by decide) (w_load1 (v := .int _ _) rfl (lk rfl rfl) rfl rfl rfl) ?_
        refine ao_y1 rfl rfl (by decide) (o_lt rfl rfl) ?_
        refine ao1 (by decide) (o_pick_f (v := .bool _) rfl rfl) ?_
        refine ao1 (by decide) (o_move (v := .bool _) rfl) ?_
        refine ao_split rfl rfl (fun hg13 => ?_) (fun hg13 => ?_)
        · refine ao_nF rfl rfl (by decide) ?_
          refine ao_nF rfl rfl (by decide) ?_
          refine ao_nF rfl rfl (by decide) ?_
          refine ao1 (by decide) (o_pick_t (v := .bool _) rfl rfl) ?_
          refine ao1 (by decide) (o_move (v := .bool _) rfl) ?_
          refine ao_nF rfl rfl (by decide) ?_
          refine ao_nF rfl rfl (by decide) ?_
          refine ao_nF rfl rfl (by decide) ?_
          refine ao1 (by decide) (o_pick_t (v := .bool _) rfl rfl) ?_
          refine ao1 (by decide) (o_move (v := .bool _) rfl) ?_
          refine ao_nF rfl rfl (by decide) ?_
          refine ao_nF rfl rfl (by decide) ?_
          refine ao_nF rfl rfl (by decide) ?_
          refine ao1 (by decide) (o_pick_t (v := .bool _) rfl rfl) ?_
          exact ao_nil (Out.mk (by (refine congrArg AV.bool ?_; (simp only [smany] at *; (simp_all; done)))) (by repeat (first | exact SubX.refl _ _ | refine SubX.at ?_ | refine SubX.put rfl ?_)))
        · refine ao_y1 rfl rfl (by decide) (w_fieldAddr rfl (lk rfl rfl) rfl (by decide)) ?_
          refine ao_y1 rfl rfl (by decide) (w_load1 (v := .int _ _) rfl (lk rfl rfl) rfl rfl rfl) ?_
          refine ao_y1 rfl rfl (by decide) (o_gt rfl rfl) ?_
          refine ao1 (by decide) (o_pick_f (v := .bool _) rfl rfl) ?_
          refine ao1 (by decide) (o_move (v := .bool _) rfl) ?_
          refine ao_split rfl rfl (fun hg18 => ?_) (fun hg18 => ?_)
          · refine ao_nF rfl rfl (by decide) ?_
            refine ao_nF rfl rfl (by decide) ?_
            refine ao_nF rfl rfl (by decide) ?_
            refine ao1 (by decide) (o_pick_t (v := .bool _) rfl rfl) ?_
            refine ao1 (by decide) (o_move (v := .bool _) rfl) ?_
            refine ao_nF rfl rfl (by decide) ?_
            refine ao_nF rfl rfl (by decide) ?_
            refine ao_nF rfl rfl (by decide) ?_
            refine ao1 (by decide) (o_pick_t (v := .bool _) rfl rfl) ?_
            exact ao_nil (Out.mk (by (refine congrArg AV.bool ?_; (simp only [smany] at *; (simp_all; done)))) (by repeat (first | exact SubX.refl _ _ | refine SubX.at ?_ | refine SubX.put rfl ?_)))
          · refine ao_y1 rfl rfl (by decide) (w_fieldAddr rfl (lk rfl rfl) rfl (by decide)) ?_
            refine ao_y1 rfl rfl (by decide) (w_load1 (v := .int _ _) rfl (lk rfl rfl) rfl rfl rfl) ?_
            refine ao_y1 rfl rfl (by decide) (o_lt rfl rfl) ?_
            refine ao1 (by decide) (o_pick_f (v := .bool _) rfl rfl) ?_
            refine ao1 (by decide) (o_move (v := .bool _) rfl) ?_
            refine ao_split rfl rfl (fun hg23 => ?_) (fun hg23 => ?_)
            · refine ao_nF rfl rfl (by decide) ?_
              refine ao_nF rfl rfl (by decide) ?_
              refine ao_nF rfl rfl (by decide) ?_
              refine ao1 (by decide) (o_pick_t (v := .bool _) rfl rfl) ?_
              exact ao_nil (Out.mk (by (refine congrArg AV.bool ?_; (simp only [smany] at *; (simp_all; done)))) (by repeat (first | exact SubX.refl _ _ | refine SubX.at ?_ | refine SubX.put rfl ?_)))
            · refine ao_y1 rfl rfl (by decide) (w_fieldAddr rfl (lk rfl rfl) rfl (by decide)) ?_
              refine ao_y1 rfl rfl (by decide) (w_load1 (v := .int _ _) rfl (lk rfl rfl) rfl rfl rfl) ?_
              refine ao_y1 rfl rfl (by decide) (o_gt rfl rfl) ?_
              refine ao1 (by decide) (o_pick_f (v := .bool _) rfl rfl) ?_
              exact ao_nil (Out.mk (by (refine congrArg AV.bool ?_; (simp only [smany] at *; grind))) (by repeat (first | exact SubX.refl _ _ | refine SubX.at ?_ | refine SubX.put rfl ?_)))
  repeat (refine then_nrm ?_)
  refine aw_cond rfl (fun hc => ?_) (fun hc => ?_)
  · repeat (refine aw_seq ?_)
    refine aw_region ?_
    refine ao1 (by decide) (o_assign (v := .bool _) rfl) ?_
    refine ao_nil ?_
    repeat (first | refine then_nrm ?_ | refine then_ret ?_ | refine aw_ret ?_)
    rw [show sright s = false by simp at hc; simp [sright, hc]]
    exact e_done hB (r_tmp rfl .nil) rfl rfl
  · have hm : smany s = true := by simpa using hc
    have hm' := hm
    simp only [smany, Bool.and_eq_true, decide_eq_true_eq] at hm'
    repeat (first | refine then_nrm ?_ | refine aw_seq ?_ | refine aw_skip ?_)
    refine aw_out 43 (.bool (!ssome s)) ?_ ?_
    · refine ao1 (by decide) (w_fieldAddr rfl (lk rfl rfl) rfl (by decide)) ?_
      refine ao1 (by decide) (w_load1 (v := .int _ _) rfl (lk rfl rfl) rfl rfl rfl) ?_
      refine ao1 (by decide) (o_eq rfl rfl) ?_
      refine ao1 (by decide) (o_move (v := .bool _) rfl) ?_
      refine ao_split rfl rfl (fun hg3 => ?_) (fun hg3 => ?_)
      · refine ao_y1 rfl rfl (by decide) (w_fieldAddr rfl (lk rfl rfl) rfl (by decide)) ?_
        refine ao_y1 rfl rfl (by decide) (w_load1 (v := .int _ _) rfl (lk rfl rfl) rfl rfl rfl) ?_
        refine ao_y1 rfl rfl (by decide) (o_eq rfl rfl) ?_
        refine ao1 (by decide) (o_pick_t (v := .bool _) rfl rfl) ?_
        refine ao1 (by decide) (o_move (v := .bool _) rfl) ?_
        refine ao_split rfl rfl (fun hg8 => ?_) (fun hg8 => ?_)
        · refine ao_y1 rfl rfl (by decide) (w_fieldAddr rfl (lk rfl rfl) rfl (by decide)) ?_
          refine ao_y1 rfl rfl (by decide) (w_load1 (v := .bool _) rfl (lk rfl rfl) rfl rfl rfl) ?_
          refine ao_y1 rfl rfl (by decide) (o_not rfl) ?_
          refine ao1 (by decide) (o_pick_t (v := .bool _) rfl rfl) ?_
          exact ao_nil (Out.mk (by (refine congrArg AV.bool ?_; (simp only [ssome] at *; (simp_all; done)))) (by repeat (first | exact SubX.refl _ _ | refine SubX.at ?_ | refine SubX.put rfl ?_)))
        · refine ao_nT rfl rfl (by decide) ?_
          refine ao_nT rfl rfl (by decide) ?_
          refine ao_nT rfl rfl (by decide) ?_
          refine ao1 (by decide) (o_pick_f (v := .bool _) rfl rfl) ?_
          exact ao_nil (Out.mk (by (refine congrArg AV.bool ?_; (simp only [ssome] at *; (simp_all; omega)))) (by repeat (first | exact SubX.refl _ _ | refine SubX.at ?_ | refine SubX.put rfl ?_)))
      · refine ao_nT rfl rfl (by decide) ?_
        refine ao_nT rfl rfl (by decide) ?_
        refine ao_nT rfl rfl (by decide) ?_
        refine ao1 (by decide) (o_pick_f (v := .bool _) rfl rfl) ?_
        refine ao1 (by decide) (o_move (v := .bool _) rfl) ?_
        refine ao_nT rfl rfl (by decide) ?_
        refine ao_nT rfl rfl (by decide) ?_
        refine ao_nT rfl rfl (by decide) ?_
        refine ao1 (by decide) (o_pick_f (v := .bool _) rfl rfl) ?_
        exact ao_nil (Out.mk (by (refine congrArg AV.bool ?_; (simp only [ssome] at *; (simp_all; omega)))) (by repeat (first | exact SubX.refl _ _ | refine SubX.at ?_ | refine SubX.put rfl ?_)))
    repeat (refine then_nrm ?_)
    refine aw_cond rfl (fun hc => ?_) (fun hc => ?_)
    · repeat (refine aw_seq ?_)
      refine aw_region ?_
      refine ao1 (by decide) (o_assign (v := .bool _) rfl) ?_
      refine ao_nil ?_
      repeat (first | refine then_nrm ?_ | refine then_ret ?_ | refine aw_ret ?_)
      rw [show sright s = false by simp at hc; simp [sright, hc]]
      exact e_done hB (r_tmp rfl .nil) rfl rfl
    · have hs : ssome s = true := by simpa using hc
      repeat (first | refine then_nrm ?_ | refine aw_seq ?_ | refine aw_skip ?_)
      refine aw_out 2 (.bool (sright s)) ?_ ?_
      · refine ao1 (by decide) (w_fieldAddr rfl (lk rfl rfl) rfl (by decide)) ?_
        refine ao1 (by decide) (w_load1 (v := .str _) rfl (lk rfl rfl) rfl rfl rfl) ?_
        refine ao_ret (ref05_Tag _ _ (by assumption)) rfl (by decide) ?_
        refine ao1 (by decide) (o_move (v := .bool _) rfl) ?_
        refine ao_split rfl rfl (fun hg3 => ?_) (fun hg3 => ?_)
        · refine ao_y1 rfl rfl (by decide) (w_fieldAddr rfl (lk rfl rfl) rfl (by decide)) ?_
          refine ao_y1 rfl rfl (by decide) (w_load1 (v := .int _ _) rfl (lk rfl rfl) rfl rfl rfl) ?_
          refine ao_y1 rfl rfl (by decide) (o_ge rfl rfl) ?_
          refine ao1 (by decide) (o_pick_t (v := .bool _) rfl rfl) ?_
          refine ao1 (by decide) (o_move (v := .bool _) rfl) ?_
          refine ao_split rfl rfl (fun hg8 => ?_) (fun hg8 => ?_)
          · refine ao_y1 rfl rfl (by decide) (w_fieldAddr rfl (lk rfl rfl) rfl (by decide)) ?_
            refine ao_y1 rfl rfl (by decide) (w_load1 (v := .int _ _) rfl (lk rfl rfl) rfl rfl rfl) ?_
            refine ao_y1 rfl rfl (by decide) (o_le rfl rfl) ?_
            refine ao1 (by decide) (o_pick_t (v := .bool _) rfl rfl) ?_
            refine ao1 (by decide) (o_move (v := .bool _) rfl) ?_
            refine ao_split rfl rfl (fun hg13 => ?_) (fun hg13 => ?_)
            · refine ao_y1 rfl rfl (by decide) (w_fieldAddr rfl (lk rfl rfl) rfl (by decide)) ?_
              refine ao_y1 rfl rfl (by decide) (w_load1 (v := .int _ _) rfl (lk rfl rfl) rfl rfl rfl) ?_
              refine ao_y1 rfl rfl (by decide) (o_ge rfl rfl) ?_
              refine ao1 (by decide) (o_pick_t (v := .bool _) rfl rfl) ?_
              refine ao1 (by decide) (o_move (v := .bool _) rfl) ?_
              refine ao_split rfl rfl (fun hg18 => ?_) (fun hg18 => ?_)
              · refine ao_y1 rfl rfl (by decide) (w_fieldAddr rfl (lk rfl rfl) rfl (by decide)) ?_
                refine ao_y1 rfl rfl (by decide) (w_load1 (v := .int _ _) rfl (lk rfl rfl) rfl rfl rfl) ?_
                refine ao_y1 rfl rfl (by decide) (o_le rfl rfl) ?_
                refine ao1 (by decide) (o_pick_t (v := .bool _) rfl rfl) ?_
                refine ao1 (by decide) (o_assign (v := .bool _) rfl) ?_
                exact ao_nil (Out.mk (by (refine congrArg AV.bool ?_; (simp only [sright] at *; (simp_all; done)))) (by repeat (first | exact SubX.refl _ _ | refine SubX.at ?_ | refine SubX.put rfl ?_)))
              · refine ao_nT rfl rfl (by decide) ?_
                refine ao_nT rfl rfl (by decide) ?_
                refine ao_nT rfl rfl (by decide) ?_
                refine ao1 (by decide) (o_pick_f (v := .bool _) rfl rfl) ?_
                refine ao1 (by decide) (o_assign (v := .bool _) rfl) ?_
                exact ao_nil (Out.mk (by (refine congrArg AV.bool ?_; (simp only [sright] at *; (simp_all; omega)))) (by repeat (first | exact SubX.refl _ _ | refine SubX.at ?_ | refine SubX.put rfl ?_)))
            · refine ao_nT rfl rfl (by decide) ?_
              refine ao_nT rfl rfl (by decide) ?_
              refine ao_nT rfl rfl (by decide) ?_
              refine ao1 (by decide) (o_pick_f (v := .bool _) rfl rfl) ?_
              refine ao1 (by decide) (o_move (v := .bool _) rfl) ?_
              refine ao_nT rfl rfl (by decide) ?_
              refine ao_nT rfl rfl (by decide) ?_
              refine ao_nT rfl rfl (by decide) ?_
              refine ao1 (by decide) (o_pick_f (v := .bool _) rfl rfl) ?_
              refine ao1 (by decide) (o_assign (v := .bool _) rfl) ?_
              exact ao_nil (Out.mk (by (refine congrArg AV.bool ?_; (simp only [sright] at *; (simp_all; omega)))) (by repeat (first | exact SubX.refl _ _ | refine SubX.at ?_ | refine SubX.put rfl ?_)))
          · refine ao_nT rfl rfl (by decide) ?_
            refine ao_nT rfl rfl (by decide) ?_
            refine ao_nT rfl rfl (by decide) ?_
            refine ao1 (by decide) (o_pick_f (v := .bool _) rfl rfl) ?_
            refine ao1 (by decide) (o_move (v := .bool _) rfl) ?_
            refine ao_nT rfl rfl (by decide) ?_
            refine ao_nT rfl rfl (by decide) ?_
            refine ao_nT rfl rfl (by decide) ?_
            refine ao1 (by decide) (o_pick_f (v := .bool _) rfl rfl) ?_
            refine ao1 (by decide) (o_move (v := .bool _) rfl) ?_
            refine ao_nT rfl rfl (by decide) ?_
            refine ao_nT rfl rfl (by decide) ?_
            refine ao_nT rfl rfl (by decide) ?_
            refine ao1 (by decide) (o_pick_f (v := .bool _) rfl rfl) ?_
            refine ao1 (by decide) (o_assign (v := .bool _) rfl) ?_
            exact ao_nil (Out.mk (by (refine congrArg AV.bool ?_; (simp only [sright] at *; (simp_all; omega)))) (by repeat (first | exact SubX.refl _ _ | refine SubX.at ?_ | refine SubX.put rfl ?_)))
        · refine ao_nT rfl rfl (by decide) ?_
          refine ao_nT rfl rfl (by decide) ?_
          refine ao_nT rfl rfl (by decide) ?_
          refine ao1 (by decide) (o_pick_f (v := .bool _) rfl rfl) ?_
          refine ao1 (by decide) (o_move (v := .bool _) rfl) ?_
          refine ao_nT rfl rfl (by decide) ?_
          refine ao_nT rfl rfl (by decide) ?_
          refine ao_nT rfl rfl (by decide) ?_
          refine ao1 (by decide) (o_pick_f (v := .bool _) rfl rfl) ?_
          refine ao1 (by decide) (o_move (v := .bool _) rfl) ?_
          refine ao_nT rfl rfl (by decide) ?_
          refine ao_nT rfl rfl (by decide) ?_
          refine ao_nT rfl rfl (by decide) ?_
          refine ao1 (by decide) (o_pick_f (v := .bool _) rfl rfl) ?_
          refine ao1 (by decide) (o_move (v := .bool _) rfl) ?_
          refine ao_nT rfl rfl (by decide) ?_
          refine ao_nT rfl rfl (by decide) ?_
          refine ao_nT rfl rfl (by decide) ?_
          refine ao1 (by decide) (o_pick_f (v := .bool _) rfl rfl) ?_
          refine ao1 (by decide) (o_assign (v := .bool _) rfl) ?_
          exact ao_nil (Out.mk (by (refine congrArg AV.bool ?_; (simp only [sright] at *; (simp_all; done)))) (by repeat (first | exact SubX.refl _ _ | refine SubX.at ?_ | refine SubX.put rfl ?_)))
      repeat (first | refine then_nrm ?_ | refine aw_ret ?_)
      exact e_done hB (r_tmp rfl .nil) rfl rfl
theorem sright_facts {s : Spec} (h : sright s = true) : 1 ≤ s.nodes ∧ s.nodes ≤ 64 ∧ 0 ≤ s.cores ∧ s.cores ≤ 64 ∧ 0 ≤ s.gpus ∧ s.gpus ≤ 64 ∧ 1 ≤ s.long ∧ s.long ≤ 1099511627776 ∧ -1000 ≤ s.prio ∧ s.prio ≤ 1000 := by
  simp only [sright, smany, Bool.and_eq_true, decide_eq_true_eq] at h
  omega
theorem mul_in {a b : Int} (ha : 0 ≤ a ∧ a ≤ 64) (hb : 0 ≤ b ∧ b ≤ 128) : 0 ≤ a * b ∧ a * b ≤ 8192 := ⟨Int.mul_nonneg ha.1 hb.1, Int.le_trans (Int.mul_le_mul ha.2 hb.2 hb.1 (by decide)) (by decide)⟩
structure Asks3 where
  n : Int
  c : Int
  g : Int
def asks (s : Spec) : Asks3 := if sright s then ⟨s.nodes, s.nodes * s.cores, s.nodes * s.gpus⟩ else ⟨0, 0, 0⟩
theorem spec_Asks (s : Spec) (H : Heap) : AC Try.prog 12 [.agg (eSpec s)] H (Ret (.tup [.int .i64 (asks s).n, .int .i64 (asks s).c, .int .i64 (asks s).g]) H) := by
  refine AC.body (N := 20) [.tmp 2, .tmp 3, .tmp 4] Try.func12 rfl rfl rfl (Nat.le_of_ble_eq_true rfl) fun B hB => ?_
  repeat (refine aw_seq ?_)
  refine aw_region ?_
  refine ao2 (by rintro _ ⟨⟩; decide) (o_boxL (sz := 7) (v := .agg _) rfl rfl rfl rfl (by decide) rfl) ?_
  refine ao1 (by decide) (o_assign (v := .int _ _) rfl) ?_
  refine ao1 (by decide) (o_assign (v := .int _ _) rfl) ?_
  refine ao1 (by decide) (o_assign (v := .int _ _) rfl) ?_
  refine ao_nil ?_
  try dsimp only
  repeat (first | refine then_nrm ?_ | refine aw_seq ?_)
  refine aw_region ?_
  refine ao1 (by decide) (w_loadR rfl (lk rfl rfl) rfl rfl rfl) ?_
  refine ao_ret (spec_Right _ _) rfl (by decide) ?_
  refine ao1 (by decide) (o_not rfl) ?_
  refine ao_nil ?_
  repeat (refine then_nrm ?_)
  refine aw_cond rfl (fun hc => ?_) (fun hc => ?_)
  · repeat (refine aw_seq ?_)
    refine aw_region ?_
    refine ao1 (by decide) (o_assign (v := .int _ _) rfl) ?_
    refine ao1 (by decide) (o_assign (v := .int _ _) rfl) ?_
    refine ao1 (by decide) (o_assign (v := .int _ _) rfl) ?_
    refine ao_nil ?_
    repeat (first | refine then_nrm ?_ | refine then_ret ?_ | refine aw_ret ?_)
    rw [show asks s = ⟨0, 0, 0⟩ by simp at hc; simp [asks, hc]]
    exact e_done hB (r_tmp rfl (r_tmp rfl (r_tmp rfl .nil))) rfl rfl
  · have hs : sright s = true := by simpa using hc
    have hf := sright_facts hs
    have h1 := mul_in (a := s.nodes) (b := s.cores) (by omega) (by omega)
    have h2 := mul_in (a := s.nodes) (b := s.gpus) (by omega) (by omega)
    repeat (first | refine then_nrm ?_ | refine aw_seq ?_ | refine aw_skip ?_)
    refine aw_drawP mixed none 1 ?_
    try dsimp only
    refine aqp 0 rfl (by decide +kernel) (by decide) (fun G => w_fieldAddr rfl (lk rfl rfl) rfl (by decide)) ?_
    refine aqp 1 rfl (by decide +kernel) (by decide) (fun G => w_load1 (v := .int _ _) rfl (lk rfl rfl) rfl rfl rfl) ?_
    refine aqp 2 rfl (by decide +kernel) (by decide) (fun G => w_fieldAddr rfl (lk rfl rfl) rfl (by decide)) ?_
    refine aqp 3 rfl (by decide +kernel) (by decide) (fun G => w_load1 (v := .int _ _) rfl (lk rfl rfl) rfl rfl rfl) ?_
    refine aqp 4 rfl (by decide +kernel) (by decide) (fun G => w_fieldAddr rfl (lk rfl rfl) rfl (by decide)) ?_
    refine aqp 5 rfl (by decide +kernel) (by decide) (fun G => w_load1 (v := .int _ _) rfl (lk rfl rfl) rfl rfl rfl) ?_
    refine aq0 6 rfl (by decide +kernel) (by decide) (fun _ => o_mul rfl rfl (wrap64_ok (by omega) (by omega))) ?_
    refine aqp 7 rfl (by decide +kernel) (by decide) (fun G => w_fieldAddr rfl (lk rfl rfl) rfl (by decide)) ?_
    refine aqp 8 rfl (by decide +kernel) (by decide) (fun G => w_load1 (v := .int _ _) rfl (lk rfl rfl) rfl rfl rfl) ?_
    refine aqp 9 rfl (by decide +kernel) (by decide) (fun G => w_fieldAddr rfl (lk rfl rfl) rfl (by decide)) ?_
    refine aqp 10 rfl (by decide +kernel) (by decide) (fun G => w_load1 (v := .int _ _) rfl (lk rfl rfl) rfl rfl rfl) ?_
    refine aq0 11 rfl (by decide +kernel) (by decide) (fun _ => o_mul rfl rfl (wrap64_ok (by omega) (by omega))) ?_
    refine aq0 12 rfl (by decide +kernel) (by decide) (fun _ => o_assign (v := .int _ _) rfl) ?_
    refine aq0 13 rfl (by decide +kernel) (by decide) (fun _ => o_assign (v := .int _ _) rfl) ?_
    refine aq0 14 rfl (by decide +kernel) (by decide) (fun _ => o_assign (v := .int _ _) rfl) ?_
    refine aa_done (by decide +kernel) (by exact fun _ => ⟨_, rfl⟩) ?_
    try dsimp only
    repeat (first | refine then_nrm ?_ | refine aw_ret ?_)
    rw [show asks s = ⟨s.nodes, s.nodes * s.cores, s.nodes * s.gpus⟩ by simp [asks, hs]]
    exact e_done hB (r_tmp rfl (r_tmp rfl (r_tmp rfl .nil))) rfl rfl
def sPart (s : Spec) (n : Int) : Spec × Int := if !sright s || decide (n < 0) then (spec0, 1) else if s.nodes ≤ n then (spec0, 6) else (⟨s.nodes - n, s.cores, s.gpus, s.tag, s.whole, s.long, s.prio⟩, 0)
theorem spec_Part (s : Spec) (n : Int) (H : Heap) : AC Try.prog 14 [.agg (eSpec s), .int .i64 n] H (Ret (.tup [.agg (eSpec (sPart s n).1), .int .i64 (sPart s n).2]) H) := by
  refine AC.body (N := 27) [.cell 4 23, .tmp 5] Try.func14 rfl rfl rfl (Nat.le_of_ble_eq_true rfl) fun B hB => ?_
  repeat (refine aw_seq ?_)
  refine aw_region ?_
  refine ao2 (by rintro _ ⟨⟩; decide) (o_boxL (sz := 7) (v := .agg _) rfl rfl rfl rfl (by decide) rfl) ?_
  refine ao2 (by rintro _ ⟨⟩; decide) (o_allocL (sz := 7) rfl (by decide) rfl) ?_
  refine ao1 (by decide) (o_assign (v := .int _ _) rfl) ?_
  refine ao_nil ?_
  try dsimp only
  repeat (first | refine then_nrm ?_ | refine aw_seq ?_ | refine aw_block ?_)
  refine aw_out 6 (.bool (!sright s || decide (n < 0))) ?_ ?_
  · refine ao1 (by decide) (w_loadR rfl (lk rfl rfl) rfl rfl rfl) ?_
    refine ao_ret (spec_Right _ _) rfl (by decide) ?_
    refine ao1 (by decide) (o_not rfl) ?_
    refine ao1 (by decide) (o_move (v := .bool _) rfl) ?_
    refine ao_split rfl rfl (fun hg3 => ?_) (fun hg3 => ?_)
    · refine ao_nF rfl rfl (by decide) ?_
      refine ao_nF rfl rfl (by decide) ?_
      refine ao1 (by decide) (o_pick_t (v := .bool _) rfl rfl) ?_
      refine ao1 (by decide) (o_assign (v := .bool _) rfl) ?_
      exact ao_nil (Out.mk (by (refine congrArg AV.bool ?_; (simp_all; done))) (by repeat (first | exact SubX.refl _ _ | refine SubX.at ?_ | refine SubX.put rfl ?_)))
    · refine ao_y1 rfl rfl (by decide) (o_move (v := .int _ _) rfl) ?_
      refine ao_y1 rfl rfl (by decide) (o_lt rfl rfl) ?_
      refine ao1 (by decide) (o_pick_f (v := .bool _) rfl rfl) ?_
      refine ao1 (by decide) (o_assign (v := .bool _) rfl) ?_
      exact ao_nil (Out.mk (by (refine congrArg AV.bool ?_; (simp_all; done))) (by repeat (first | exact SubX.refl _ _ | refine SubX.at ?_ | refine SubX.put rfl ?_)))
  repeat (refine then_nrm ?_)
  refine aw_cond rfl (fun hc => ?_) (fun hc => ?_)
  · repeat (refine aw_seq ?_)
    refine aw_region ?_
    refine ao1 (by decide) (V1.up (o_build (cs := [.int _ _, .int _ _, .int _ _, .str _, .bool _, .int _ _, .int _ _]) rfl)) ?_
    refine ao2 (by rintro _ ⟨⟩) (w_storeW (sz := 7) rfl rfl rfl rfl rfl rfl rfl rfl (Nat.le_of_ble_eq_true rfl)) ?_
    refine ao1 (by decide) (o_assign (v := .int _ _) rfl) ?_
    refine ao_nil ?_
    try dsimp only
    repeat (first | refine then_nrm ?_ | refine then_ret ?_ | refine blk_ret ?_ | refine aw_ret ?_)
    rw [show sPart s n = (spec0, 1) by rw [sPart, if_pos hc]]
    exact e_done hB (r_cellR rfl (lk rfl rfl) rfl rfl rfl (r_tmp rfl .nil)) rfl rfl
  · have hc0 := hc
    repeat (refine aw_seq ?_)
    refine aw_region ?_
    refine ao1 (by decide) (o_move (v := .int _ _) rfl) ?_
    refine ao1 (by decide) (w_fieldAddr rfl (lk rfl rfl) rfl (by decide)) ?_
    refine ao1 (by decide) (w_load1 (v := .int _ _) rfl (lk rfl rfl) rfl rfl rfl) ?_
    refine ao1 (by decide) (o_ge rfl rfl) ?_
    refine ao1 (by decide) (o_assign (v := .bool _) rfl) ?_
    refine ao_nil ?_
    try dsimp only
    repeat (refine then_nrm ?_)
    refine aw_cond rfl (fun hc => ?_) (fun hc => ?_)
    · repeat (refine aw_seq ?_)
      refine aw_region ?_
      refine ao1 (by decide) (V1.up (o_build (cs := [.int _ _, .int _ _, .int _ _, .str _, .bool _, .int _ _, .int _ _]) rfl)) ?_
      refine ao2 (by rintro _ ⟨⟩) (w_storeW (sz := 7) rfl rfl rfl rfl rfl rfl rfl rfl (Nat.le_of_ble_eq_true rfl)) ?_
      refine ao1 (by decide) (o_assign (v := .int _ _) rfl) ?_
      refine ao_nil ?_
      try dsimp only
      repeat (first | refine then_nrm ?_ | refine then_ret ?_ | refine blk_ret ?_ | refine aw_ret ?_)
      rw [show sPart s n = (spec0, 6) by rw [sPart, if_neg (by rw [hc0]; simp), if_pos (by simpa using hc)]]
      exact e_done hB (r_cellR rfl (lk rfl rfl) rfl rfl rfl (r_tmp rfl .nil)) rfl rfl
    · have hs : sright s = true ∧ 0 ≤ n := by simpa using hc0
      have hf := sright_facts hs.1
      have hn : n < s.nodes := by simp at hc; omega
      repeat (first | refine then_nrm ?_ | refine blk_nrm ?_ | refine aw_seq ?_ | refine aw_skip ?_)
      refine aw_region ?_
      refine ao1 (by decide) (w_fieldAddr rfl (lk rfl rfl) rfl (by decide)) ?_
      refine ao1 (by decide) (w_load1 (v := .int _ _) rfl (lk rfl rfl) rfl rfl rfl) ?_
      refine ao1 (by decide) (o_move (v := .int _ _) rfl) ?_
      refine ao1 (by decide) (o_sub rfl rfl (wrap64_ok (by omega) (by omega))) ?_
      refine ao1 (by decide) (w_fieldAddr rfl (lk rfl rfl) rfl (by decide)) ?_
      refine ao2 (by rintro _ ⟨⟩) (w_storeP (sz := 1) (v := .int _ _) (r' := [_, _, _, _, _, _, _]) rfl rfl rfl rfl rfl rfl rfl rfl (Nat.le_of_ble_eq_true rfl) rfl) ?_
      refine ao_nil ?_
      try dsimp only
      repeat (first | refine then_nrm ?_ | refine aw_seq ?_)
      refine aw_region ?_
      refine ao1 (by decide) (w_loadR rfl (lk rfl rfl) rfl rfl rfl) ?_
      refine ao2 (by rintro _ ⟨⟩) (w_storeW (sz := 7) rfl rfl rfl rfl rfl rfl rfl rfl (Nat.le_of_ble_eq_true rfl)) ?_
      refine ao1 (by decide) (o_assign (v := .int _ _) rfl) ?_
      refine ao_nil ?_
      try dsimp only
      repeat (first | refine then_nrm ?_ | refine aw_ret ?_)
      rw [show sPart s n = (⟨s.nodes - n, s.cores, s.gpus, s.tag, s.whole, s.long, s.prio⟩, 0) by rw [sPart, if_neg (by rw [hc0]; simp), if_neg (by omega)]]
      exact e_done hB (r_cellR rfl (lk rfl rfl) rfl rfl rfl (r_tmp rfl .nil)) rfl rfl
def sEnds (s : Spec) (t : Int) : Int := plus t (if sright s then s.long else 0)
theorem spec_Ends (s : Spec) (t : Int) (H : Heap) : AC Try.prog 15 [.agg (eSpec s), .int .i64 t] H (Ret (.int .i64 (sEnds s t)) H) := by
  refine AC.body (N := 14) [.tmp 4] Try.func15 rfl rfl rfl (Nat.le_of_ble_eq_true rfl) fun B hB => ?_
  repeat (refine aw_seq ?_)
  refine aw_region ?_
  refine ao2 (by rintro _ ⟨⟩; decide) (o_boxL (sz := 7) (v := .agg _) rfl rfl rfl rfl (by decide) rfl) ?_
  refine ao1 (by decide) (o_assign (v := .int _ _) rfl) ?_
  refine ao_nil ?_
  try dsimp only
  repeat (first | refine then_nrm ?_ | refine aw_seq ?_)
  refine aw_region ?_
  refine ao1 (by decide) (w_loadR rfl (lk rfl rfl) rfl rfl rfl) ?_
  refine ao_ret (spec_Right _ _) rfl (by decide) ?_
  refine ao1 (by decide) (o_not rfl) ?_
  refine ao_nil ?_
  repeat (refine then_nrm ?_)
  refine aw_cond rfl (fun hc => ?_) (fun hc => ?_)
  · repeat (refine aw_seq ?_)
    refine aw_region ?_
    refine ao1 (by decide) (o_move (v := .int _ _) rfl) ?_
    refine ao_ret (when_Plus _ _ _) rfl (by decide) ?_
    refine ao1 (by decide) (o_assign (v := .int _ _) rfl) ?_
    refine ao_nil ?_
    repeat (first | refine then_nrm ?_ | refine then_ret ?_ | refine aw_ret ?_)
    rw [show sEnds s t = plus t 0 by simp at hc; simp [sEnds, hc]]
    exact e_done hB (r_tmp rfl .nil) rfl rfl
  · repeat (first | refine then_nrm ?_ | refine aw_seq ?_ | refine aw_skip ?_)
    refine aw_region ?_
    refine ao1 (by decide) (o_move (v := .int _ _) rfl) ?_
    refine ao1 (by decide) (w_fieldAddr rfl (lk rfl rfl) rfl (by decide)) ?_
    refine ao1 (by decide) (w_load1 (v := .int _ _) rfl (lk rfl rfl) rfl rfl rfl) ?_
    refine ao_ret (when_Plus _ _ _) rfl (by decide) ?_
    refine ao1 (by decide) (o_assign (v := .int _ _) rfl) ?_
    refine ao_nil ?_
    try dsimp only
    repeat (first | refine then_nrm ?_ | refine aw_ret ?_)
    rw [show sEnds s t = plus t s.long by simp at hc; simp [sEnds, hc]]
    exact e_done hB (r_tmp rfl .nil) rfl rfl
theorem ref07_Ends (s : Spec) (t : Int) (H : Heap) (ht : s.tag.size ≤ 9223372036854775807) : AC Try.prog 16 [.agg (eSpec s), .int .i64 t] H (Ret (.int .i64 (sEnds s t)) H) := by
  refine AC.body (N := 13) [.tmp 4] Try.func16 rfl rfl rfl (Nat.le_of_ble_eq_true rfl) fun B hB => ?_
  repeat (refine aw_seq ?_)
  refine aw_region ?_
  refine ao2 (by rintro _ ⟨⟩; decide) (o_boxL (sz := 7) (v := .agg _) rfl rfl rfl rfl (by decide) rfl) ?_
  refine ao1 (by decide) (o_assign (v := .int _ _) rfl) ?_
  refine ao_nil ?_
  try dsimp only
  repeat (first | refine then_nrm ?_ | refine aw_seq ?_)
  refine aw_region ?_
  refine ao1 (by decide) (o_assign (v := .int _ _) rfl) ?_
  refine ao_nil ?_
  repeat (first | refine then_nrm ?_ | refine aw_seq ?_)
  refine aw_region ?_
  refine ao1 (by decide) (w_loadR rfl (lk rfl rfl) rfl rfl rfl) ?_
  refine ao_ret (ref07_Right _ _ (by assumption)) rfl (by decide) ?_
  refine ao_nil ?_
  repeat (refine then_nrm ?_)
  refine aw_cond rfl (fun hc => ?_) (fun hc => ?_)
  · repeat (fail)
    refine aw_region ?_
    refine ao1 (by decide) (w_fieldAddr rfl (lk rfl rfl) rfl (by decide)) ?_
    refine ao1 (by decide) (w_load1 (v := .int _ _) rfl (lk rfl rfl) rfl rfl rfl) ?_
    refine ao1 (by decide) (o_assign (v := .int _ _) rfl) ?_
    refine ao_nil ?_
    try dsimp only
    repeat (first | refine then_nrm ?_ | refine aw_seq ?_)
    refine aw_region ?_
    refine ao1 (by decide) (o_move (v := .int _ _) rfl) ?_
    refine ao1 (by decide) (o_move (v := .int _ _) rfl) ?_
    refine ao_ret (ref02_Plus _ _ _) rfl (by decide) ?_
    refine ao1 (by decide) (o_assign (v := .int _ _) rfl) ?_
    refine ao_nil ?_
    repeat (first | refine then_nrm ?_ | refine aw_ret ?_)
    rw [show sEnds s t = plus t s.long by simp [sEnds, hc]]
    exact e_done hB (r_tmp rfl .nil) rfl rfl
  · repeat (first | refine then_nrm ?_ | refine aw_seq ?_ | refine aw_skip ?_)
    refine aw_region ?_
    refine ao1 (by decide) (o_move (v := .int _ _) rfl) ?_
    refine ao1 (by decide) (o_move (v := .int _ _) rfl) ?_
    refine ao_ret (ref02_Plus _ _ _) rfl (by decide) ?_
    refine ao1 (by decide) (o_assign (v := .int _ _) rfl) ?_
    refine ao_nil ?_
    repeat (first | refine then_nrm ?_ | refine aw_ret ?_)
    rw [show sEnds s t = plus t 0 by simp [sEnds, hc]]
    exact e_done hB (r_tmp rfl .nil) rfl rfl
def ssize (s : Spec) : Int := s.nodes * (s.cores + s.gpus)
theorem spec_order_1 (s : Spec) (hs : sright s = true) (H : Heap) : AC Try.prog 48 [.agg (eSpec s)] H (Ret (.int .i64 (ssize s)) H) := by
  have hf := sright_facts hs
  have h1 := mul_in (a := s.nodes) (b := s.cores + s.gpus) (by omega) (by omega)
  refine AC.body (N := 11) [.tmp 2] Try.func48 rfl rfl rfl (Nat.le_of_ble_eq_true rfl) fun B hB => ?_
  repeat (refine aw_seq ?_)
  refine aw_region ?_
  refine ao2 (by rintro _ ⟨⟩; decide) (o_boxL (sz := 7) (v := .agg _) rfl rfl rfl rfl (by decide) rfl) ?_
  refine ao1 (by decide) (o_assign (v := .int _ _) rfl) ?_
  refine ao_nil ?_
  try dsimp only
  repeat (first | refine then_nrm ?_ | refine aw_seq ?_)
  refine aw_region ?_
  refine ao1 (by decide) (w_fieldAddr rfl (lk rfl rfl) rfl (by decide)) ?_
  refine ao1 (by decide) (w_load1 (v := .int _ _) rfl (lk rfl rfl) rfl rfl rfl) ?_
  refine ao1 (by decide) (w_fieldAddr rfl (lk rfl rfl) rfl (by decide)) ?_
  refine ao1 (by decide) (w_load1 (v := .int _ _) rfl (lk rfl rfl) rfl rfl rfl) ?_
  refine ao1 (by decide) (w_fieldAddr rfl (lk rfl rfl) rfl (by decide)) ?_
  refine ao1 (by decide) (w_load1 (v := .int _ _) rfl (lk rfl rfl) rfl rfl rfl) ?_
  refine ao1 (by decide) (o_add rfl rfl (wrap64_ok (by omega) (by omega))) ?_
  refine ao1 (by decide) (o_mul rfl rfl (wrap64_ok (by omega) (by omega))) ?_
  refine ao1 (by decide) (o_assign (v := .int _ _) rfl) ?_
  refine ao_nil ?_
  try dsimp only
  repeat (first | refine then_nrm ?_ | refine aw_ret ?_)
  exact e_done hB (r_tmp rfl .nil) rfl rfl
def sorder (a b : Spec) : Int := orI [cmpI b.prio a.prio, cmpI (ssize a) (ssize b), cmpI a.long b.long]
set_option maxHeartbeats 0 in
theorem spec_order (a b : Spec) (ha : sright a = true) (hb : sright b = true) (H : Heap) : AC Try.prog 33 [.agg (eSpec a), .agg (eSpec b)] H (Ret (.int .i64 (sorder a b)) H) := by
  refine AC.body (N := 25) [.tmp 4] Try.func33 rfl rfl rfl (Nat.le_of_ble_eq_true rfl) fun B hB => ?_
  repeat (refine aw_seq ?_)
  refine aw_region ?_
  refine ao2 (by rintro _ ⟨⟩; decide) (o_boxL (sz := 7) (v := .agg _) rfl rfl rfl rfl (by decide) rfl) ?_
  refine ao2 (by rintro _ ⟨⟩; decide) (o_boxL (sz := 7) (v := .agg _) rfl rfl rfl rfl (by decide) rfl) ?_
  refine ao1 (by decide) (o_assign (v := .int _ _) rfl) ?_
  refine ao_nil ?_
  try dsimp only
  repeat (first | refine then_nrm ?_ | refine aw_seq ?_)
  refine aw_region ?_
  refine ao1 (by decide) (o_assign (v := .fn _ _ _) rfl) ?_
  refine ao_nil ?_
  repeat (first | refine then_nrm ?_ | refine aw_seq ?_)
  refine aw_drawP mixed none 2 ?_
  try dsimp only
  refine aqp 0 rfl (by decide +kernel) (by decide) (fun G => w_fieldAddr rfl (lk rfl rfl) rfl (by decide)) ?_
  refine aqp 1 rfl (by decide +kernel) (by decide) (fun G => w_load1 (v := .int _ _) rfl (lk rfl rfl) rfl rfl rfl) ?_
  refine aqp 2 rfl (by decide +kernel) (by decide) (fun G => w_fieldAddr rfl (lk rfl rfl) rfl (by decide)) ?_
  refine aqp 3 rfl (by decide +kernel) (by decide) (fun G => w_load1 (v := .int _ _) rfl (lk rfl rfl) rfl rfl rfl) ?_
  refine aq02 4 rfl (by decide +kernel) (by decide) (fun _ => V2.call (cmp_Compare _ _ _) rfl) ?_
  refine aq0 5 rfl (by decide +kernel) (by decide) (fun _ => o_move (v := .fn _ _ _) rfl) ?_
  refine aqp 6 rfl (by decide +kernel) (by decide) (fun G => w_loadR rfl (lk rfl rfl) rfl rfl rfl) ?_
  refine aq02 7 rfl (by decide +kernel) (by decide) (fun _ => V2.callv (spec_order_1 a ha _) rfl rfl) ?_
  refine aq0 8 rfl (by decide +kernel) (by decide) (fun _ => o_move (v := .fn _ _ _) rfl) ?_
  refine aqp 9 rfl (by decide +kernel) (by decide) (fun G => w_loadR rfl (lk rfl rfl) rfl rfl rfl) ?_
  refine aq02 10 rfl (by decide +kernel) (by decide) (fun _ => V2.callv (spec_order_1 b hb _) rfl rfl) ?_
  refine aq02 11 rfl (by decide +kernel) (by decide) (fun _ => V2.call (cmp_Compare _ _ _) rfl) ?_
  refine aqp 12 rfl (by decide +kernel) (by decide) (fun G => w_fieldAddr rfl (lk rfl rfl) rfl (by decide)) ?_
  refine aqp 13 rfl (by decide +kernel) (by decide) (fun G => w_load1 (v := .int _ _) rfl (lk rfl rfl) rfl rfl rfl) ?_
  refine aqp 14 rfl (by decide +kernel) (by decide) (fun G => w_fieldAddr rfl (lk rfl rfl) rfl (by decide)) ?_
  refine aqp 15 rfl (by decide +kernel) (by decide) (fun G => w_load1 (v := .int _ _) rfl (lk rfl rfl) rfl rfl rfl) ?_
  refine aq02 16 rfl (by decide +kernel) (by decide) (fun _ => V2.call (cmp_Compare64 _ _ _) rfl) ?_
  refine aq02 17 rfl (by decide +kernel) (by decide) (fun _ => g_litL [eI (cmpI b.prio a.prio), eI (cmpI (ssize a) (ssize b)), eI (cmpI a.long b.long)] rfl (by decide) (by decide) (by decide) rfl rfl (by simp) rfl (by simp [AV.bels, AV.bel])) ?_
  refine aq02 18 rfl (by decide +kernel) (by decide) (fun _ => V2.call (cmp_Or [cmpI b.prio a.prio, cmpI (ssize a) (ssize b), cmpI a.long b.long] (by simp) _) rfl) ?_
  refine aq0 19 rfl (by decide +kernel) (by decide) (fun _ => o_assign (v := .int _ _) rfl) ?_
  refine aa_done (by decide +kernel) (by exact fun _ => ⟨_, rfl⟩) ?_
  try dsimp only
  repeat (first | refine then_nrm ?_ | refine aw_ret ?_)
  exact e_done hB (r_tmp rfl .nil) rfl rfl
end Go.Av
