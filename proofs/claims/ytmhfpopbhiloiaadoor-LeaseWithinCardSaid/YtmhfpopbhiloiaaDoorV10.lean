/- A part of the proof: walks through the program over abstract values. -/
import Derived.Test.YtmhfpopbhiloiaaDoorV9
namespace Go.Av
open Go.Proofs
set_option maxRecDepth 10000
set_option linter.unusedSimpArgs false
set_option linter.unusedVariables false

theorem law19_short (l : Loan) (H : Heap) : AC Tryd.prog 9 [.agg (eLoan l)] H (Ret (.bool (decide (l.things.length ≤ 60) && decide (l.asked.length ≤ 60))) H) := by
  refine AC.body (N := 13) [.tmp 2] Tryd.func9 rfl rfl rfl (Nat.le_of_ble_eq_true rfl) fun B hB => ?_
  repeat (refine aw_seq ?_)
  refine aw_region ?_
  refine ao2 (by rintro _ ⟨⟩; decide) (o_boxL (sz := 3) (v := .agg _) rfl rfl rfl rfl (by decide) rfl) ?_
  refine ao1 (by decide) (o_assign (v := .bool _) rfl) ?_
  refine ao_nil ?_
  try dsimp only [List.length_nil, put, AV.cells, List.nil_append]
  repeat (first | refine then_nrm ?_ | refine aw_seq ?_)
  refine aw_out 2 (.bool (decide (l.things.length ≤ 60) && decide (l.asked.length ≤ 60))) ?_ ?_
  · refine ao1 (by decide) (w_fieldAddr rfl (lk rfl rfl) rfl (by decide)) ?_
    refine ao1 (by decide) (w_load1 (v := .pl _) rfl (lk rfl rfl) rfl rfl rfl) ?_
    refine ao1 (by decide) (o_lenp rfl) ?_
    refine ao1 (by decide) (o_le rfl rfl) ?_
    refine ao1 (by decide) (o_move (v := .bool _) rfl) ?_
    refine ao_split rfl rfl (fun hg4 => ?_) (fun hg4 => ?_)
    · refine ao_y1 rfl rfl (by decide) (w_fieldAddr rfl (lk rfl rfl) rfl (by decide)) ?_
      refine ao_y1 rfl rfl (by decide) (w_load1 (v := .pl _) rfl (lk rfl rfl) rfl rfl rfl) ?_
      refine ao_y1 rfl rfl (by decide) (o_lenp rfl) ?_
      refine ao_y1 rfl rfl (by decide) (o_le rfl rfl) ?_
      refine ao1 (by decide) (o_pick_t (v := .bool _) rfl rfl) ?_
      refine ao1 (by decide) (o_assign (v := .bool _) rfl) ?_
      exact ao_nil (Out.mk (by (refine congrArg AV.bool ?_; grind)) (by repeat (first | exact SubX.refl _ _ | refine SubX.at ?_ | refine SubX.put rfl ?_)))
    · refine ao_nT rfl rfl (by decide) ?_
      refine ao_nT rfl rfl (by decide) ?_
      refine ao_nT rfl rfl (by decide) ?_
      refine ao_nT rfl rfl (by decide) ?_
      refine ao1 (by decide) (o_pick_f (v := .bool _) rfl rfl) ?_
      refine ao1 (by decide) (o_assign (v := .bool _) rfl) ?_
      exact ao_nil (Out.mk (by (refine congrArg AV.bool ?_; grind)) (by repeat (first | exact SubX.refl _ _ | refine SubX.at ?_ | refine SubX.put rfl ?_)))
  repeat (first | refine then_nrm ?_ | refine aw_ret ?_)
  exact e_done hB (r_tmp rfl .nil) rfl rfl
theorem lend_small {l : Loan} {n : Note} {now : Int} (hl : Small l) (hn : n.things.length ≤ 1000000) : Small (lend l n now).1 ∧ (lend l n now).2.1.things.length ≤ 1000000 := by
  unfold lend Small noNote at *
  have h1 := setop_len (fun x y => x || y) l.things n.things
  have h2 := setop_len (fun x y => x || y) l.asked n.things
  repeat (first | split | (refine ⟨⟨?_, ?_⟩, ?_⟩ <;> first | (simp; done) | (simp; omega)))
theorem hear_small {l : Loan} {n : Note} {now : Int} (hl : Small l) (hn : n.things.length ≤ 1000000) : Small (hear l n now).1 ∧ (hear l n now).2.1.things.length ≤ 1000000 := by
  unfold hear Small noNote at *
  have h1 := setop_len (fun x y => x || y) l.things n.things
  have h2 := setop_len (fun x y => x && !y) l.things n.things
  repeat (first | split | (refine ⟨⟨?_, ?_⟩, ?_⟩ <;> first | (simp; done) | (simp; omega)))
theorem lback_small {l : Loan} {n : Note} (hl : Small l) : Small (lback l n).1 := by
  unfold lback Small at *
  have h1 := setop_len (fun x y => x && !y) l.things n.things
  have h2 := setop_len (fun x y => x && !y) l.asked n.things
  split
  · exact hl
  · exact ⟨Nat.le_trans h1 (by decide), Nat.le_trans h2 (by decide)⟩
theorem lover_small {l : Loan} {now guard : Int} (hl : Small l) : Small (lover l now guard) := by
  unfold lover
  split
  · simp [Small]
  · exact hl
set_option maxHeartbeats 0 in
theorem law19_awake (H : Heap) : ACT Tryd.prog KD 8 [] H (Ret (.bool true) H) := by
  have c1 := fun H => lease_Give ⟨[], [], 9⟩ ⟨by simp, by simp⟩ [2, 3] (by simp) 1 H
  rw [show lend ⟨[], [], 9⟩ ⟨1, [2, 3], 0⟩ 1 = (⟨[2, 3], [], 9⟩, ⟨1, [2, 3], 0⟩, 0) by decide +kernel] at c1
  have c2 := fun H => lease_Hear ⟨[], [], 9⟩ ⟨by simp, by simp⟩ ⟨1, [2, 3], 0⟩ (by simp) 2 H
  rw [show hear ⟨[], [], 9⟩ ⟨1, [2, 3], 0⟩ 2 = (⟨[2, 3], [], 9⟩, noNote, false) by decide +kernel] at c2
  have c3 := fun H => lease_Ask ⟨[2, 3], [], 9⟩ ⟨by simp, by simp⟩ [3] (by simp) 3 H
  rw [show lend ⟨[2, 3], [], 9⟩ ⟨2, [3], 0⟩ 3 = (⟨[2, 3], [3], 9⟩, ⟨2, [3], 0⟩, 0) by decide +kernel] at c3
  have c4 := fun H => lease_Hear ⟨[2, 3], [], 9⟩ ⟨by simp, by simp⟩ ⟨2, [3], 0⟩ (by simp) 4 H
  rw [show hear ⟨[2, 3], [], 9⟩ ⟨2, [3], 0⟩ 4 = (⟨[2], [], 9⟩, ⟨3, [3], 0⟩, true) by decide +kernel] at c4
  have c5 := fun H => lease_Back ⟨[2, 3], [3], 9⟩ ⟨by simp, by simp⟩ ⟨3, [3], 0⟩ (by simp) H
  rw [show lback ⟨[2, 3], [3], 9⟩ ⟨3, [3], 0⟩ = (⟨[2], [], 9⟩, 0) by decide +kernel] at c5
  refine ACT.body (N := 81) [.tmp 0] Tryd.func8 rfl rfl rfl (Nat.le_of_ble_eq_true rfl) fun B hB => ?_
  repeat (refine aw_seq ?_)
  refine aw_region ?_
  refine ao1 (by decide) (o_assign (v := .bool _) rfl) ?_
  refine ao_nil ?_
  repeat (first | refine then_nrm ?_ | refine aw_seq ?_)
  refine aw_region ?_
  refine ao1 (by decide) (V1.up (o_build (cs := [.nsl, .nsl, .int .i64 9]) rfl)) ?_
  refine ao2 (by rintro _ ⟨⟩; decide) (g_litL [[.int .i64 2], [.int .i64 3]] rfl (by decide) (by decide) (by decide) rfl rfl (by simp) rfl (by simp [AV.bels, AV.bel])) ?_
  refine ao2 (by rintro _ ⟨⟩; decide) (V2.callT (c1 _) rfl rfl) ?_
  refine ao1 (by decide) (o_move (v := .tup _) rfl) ?_
  refine ao1 (by decide) (o_extract (v := .agg _) rfl rfl) ?_
  refine ao1 (by decide) (o_extract (v := .agg _) rfl rfl) ?_
  refine ao1 (by decide) (o_extract (v := .int _ _) rfl rfl) ?_
  refine ao2 (by rintro _ ⟨⟩; decide) (o_allocL (sz := 3) rfl (by decide) rfl) ?_
  refine ao2 (by rintro _ ⟨⟩; decide) (o_allocL (sz := 3) rfl (by decide) rfl) ?_
  refine ao2 (by rintro _ ⟨⟩) (w_storeW (sz := 3) rfl rfl rfl rfl rfl rfl rfl rfl (Nat.le_of_ble_eq_true rfl)) ?_
  refine ao2 (by rintro _ ⟨⟩) (w_storeW (sz := 3) rfl rfl rfl rfl rfl rfl rfl rfl (Nat.le_of_ble_eq_true rfl)) ?_
  refine ao1 (by decide) (o_assign (v := .int _ _) rfl) ?_
  refine ao_nil ?_
  try dsimp only [AV.up, put, List.length_nil, List.nil_append, List.length_cons, Nat.reduceAdd, List.cons_append, List.set_cons_zero, List.set_cons_succ]
  repeat (first | refine then_nrm ?_ | refine aw_seq ?_)
  refine aw_region ?_
  refine ao1 (by decide) (V1.up (o_build (cs := [.nsl, .nsl, .int .i64 9]) rfl)) ?_
  refine ao1 (by decide) (w_loadR rfl (lk rfl rfl) rfl rfl rfl) ?_
  refine ao2 (by rintro _ ⟨⟩; decide) (V2.callT (c2 _) rfl rfl) ?_
  refine ao1 (by decide) (o_move (v := .tup _) rfl) ?_
  refine ao1 (by decide) (o_extract (v := .agg _) rfl rfl) ?_
  refine ao1 (by decide) (o_extract (v := .agg _) rfl rfl) ?_
  refine ao1 (by decide) (o_extract (v := .bool _) rfl rfl) ?_
  refine ao2 (by rintro _ ⟨⟩; decide) (o_allocL (sz := 3) rfl (by decide) rfl) ?_
  refine ao2 (by rintro _ ⟨⟩; decide) (o_allocL (sz := 3) rfl (by decide) rfl) ?_
  refine ao2 (by rintro _ ⟨⟩) (w_storeW (sz := 3) rfl rfl rfl rfl rfl rfl rfl rfl (Nat.le_of_ble_eq_true rfl)) ?_
  refine ao2 (by rintro _ ⟨⟩) (w_storeW (sz := 3) rfl rfl rfl rfl rfl rfl rfl rfl (Nat.le_of_ble_eq_true rfl)) ?_
  refine ao1 (by decide) (o_assign (v := .bool _) rfl) ?_
  refine ao_nil ?_
  try dsimp only [AV.up, put, List.length_cons, List.length_nil, Nat.reduceAdd, List.cons_append, List.nil_append, List.set_cons_zero, List.set_cons_succ]
  repeat (first | refine then_nrm ?_ | refine aw_seq ?_)
  refine aw_region ?_
  refine ao1 (by decide) (w_loadR rfl (lk rfl rfl) rfl rfl rfl) ?_
  refine ao2 (by rintro _ ⟨⟩; decide) (g_lit1 (sz := 1) (v := .int .i64 3) rfl (by decide) (by decide) rfl rfl rfl rfl rfl) ?_
  refine ao2 (by rintro _ ⟨⟩; decide) (V2.callT (c3 _) rfl rfl) ?_
  refine ao1 (by decide) (o_move (v := .tup _) rfl) ?_
  refine ao1 (by decide) (o_extract (v := .agg _) rfl rfl) ?_
  refine ao1 (by decide) (o_extract (v := .agg _) rfl rfl) ?_
  refine ao1 (by decide) (o_extract (v := .int _ _) rfl rfl) ?_
  refine ao2 (by rintro _ ⟨⟩; decide) (o_allocL (sz := 3) rfl (by decide) rfl) ?_
  refine ao2 (by rintro _ ⟨⟩) (w_storeW (sz := 3) rfl rfl rfl rfl rfl rfl rfl rfl (Nat.le_of_ble_eq_true rfl)) ?_
  refine ao2 (by rintro _ ⟨⟩) (w_storeW (sz := 3) rfl rfl rfl rfl rfl rfl rfl rfl (Nat.le_of_ble_eq_true rfl)) ?_
  refine ao1 (by decide) (o_assign (v := .int _ _) rfl) ?_
  refine ao_nil ?_
  try dsimp only [AV.cells, put, List.length_cons, List.length_nil, Nat.reduceAdd, List.cons_append, List.nil_append, List.set_cons_zero, List.set_cons_succ]
  repeat (first | refine then_nrm ?_ | refine aw_seq ?_)
  refine aw_region ?_
  refine ao1 (by decide) (w_loadR rfl (lk rfl rfl) rfl rfl rfl) ?_
  refine ao1 (by decide) (w_loadR rfl (lk rfl rfl) rfl rfl rfl) ?_
  refine ao2 (by rintro _ ⟨⟩; decide) (V2.callT (c4 _) rfl rfl) ?_
  refine ao1 (by decide) (o_move (v := .tup _) rfl) ?_
  refine ao1 (by decide) (o_extract (v := .agg _) rfl rfl) ?_
  refine ao1 (by decide) (o_extract (v := .agg _) rfl rfl) ?_
  refine ao1 (by decide) (o_extract (v := .bool _) rfl rfl) ?_
  refine ao2 (by rintro _ ⟨⟩; decide) (o_allocL (sz := 3) rfl (by decide) rfl) ?_
  refine ao2 (by rintro _ ⟨⟩) (w_storeW (sz := 3) rfl rfl rfl rfl rfl rfl rfl rfl (Nat.le_of_ble_eq_true rfl)) ?_
  refine ao2 (by rintro _ ⟨⟩) (w_storeW (sz := 3) rfl rfl rfl rfl rfl rfl rfl rfl (Nat.le_of_ble_eq_true rfl)) ?_
  refine ao1 (by decide) (o_assign (v := .bool _) rfl) ?_
  refine ao_nil ?_
  try dsimp only [put, List.length_cons, List.length_nil, Nat.reduceAdd, List.cons_append, List.nil_append, List.set_cons_zero, List.set_cons_succ]
  repeat (first | refine then_nrm ?_ | refine aw_seq ?_)
  refine aw_region ?_
  refine ao1 (by decide) (w_loadR rfl (lk rfl rfl) rfl rfl rfl) ?_
  refine ao1 (by decide) (w_loadR rfl (lk rfl rfl) rfl rfl rfl) ?_
  refine ao2 (by rintro _ ⟨⟩; decide) (V2.callT (c5 _) rfl rfl) ?_
  refine ao1 (by decide) (o_move (v := .tup _) rfl) ?_
  refine ao1 (by decide) (o_extract (v := .agg _) rfl rfl) ?_
  refine ao1 (by decide) (o_extract (v := .int _ _) rfl rfl) ?_
  refine ao2 (by rintro _ ⟨⟩) (w_storeW (sz := 3) rfl rfl rfl rfl rfl rfl rfl rfl (Nat.le_of_ble_eq_true rfl)) ?_
  refine ao1 (by decide) (o_assign (v := .int _ _) rfl) ?_
  refine ao_nil ?_
  try dsimp only [put, List.set_cons_zero]
  repeat (first | refine then_nrm ?_ | refine aw_seq ?_)
  refine aw_out 0 (.bool true) ?_ ?_
  · refine ao1 (by decide) (o_move (v := .int _ _) rfl) ?_
    refine ao1 (by decide) (o_eq rfl rfl) ?_
    refine ao1 (by decide) (o_move (v := .bool _) rfl) ?_
    refine ao_split rfl rfl (fun hg2 => ?_) (fun hg2 => ?_)
    · refine ao_y1 rfl rfl (by decide) (o_move (v := .bool _) rfl) ?_
      refine ao_y1 rfl rfl (by decide) (o_not rfl) ?_
      refine ao1 (by decide) (o_pick_t (v := .bool _) rfl rfl) ?_
      refine ao1 (by decide) (o_move (v := .bool _) rfl) ?_
      refine ao_split rfl rfl (fun hg6 => ?_) (fun hg6 => ?_)
      · refine ao_y1 rfl rfl (by decide) (o_move (v := .int _ _) rfl) ?_
        refine ao_y1 rfl rfl (by decide) (o_eq rfl rfl) ?_
        refine ao1 (by decide) (o_pick_t (v := .bool _) rfl rfl) ?_
        refine ao1 (by decide) (o_move (v := .bool _) rfl) ?_
        refine ao_split rfl rfl (fun hg10 => ?_) (fun hg10 => ?_)
        · refine ao_y1 rfl rfl (by decide) (o_move (v := .bool _) rfl) ?_
          refine ao1 (by decide) (o_pick_t (v := .bool _) rfl rfl) ?_
          refine ao1 (by decide) (o_move (v := .bool _) rfl) ?_
          refine ao_split rfl rfl (fun hg13 => ?_) (fun hg13 => ?_)
          · refine ao_y1 rfl rfl (by decide) (o_move (v := .int _ _) rfl) ?_
            refine ao_y1 rfl rfl (by decide) (o_eq rfl rfl) ?_
            refine ao1 (by decide) (o_pick_t (v := .bool _) rfl rfl) ?_
            refine ao1 (by decide) (o_move (v := .bool _) rfl) ?_
            refine ao_split rfl rfl (fun hg17 => ?_) (fun hg17 => ?_)
            · refine ao_y1 rfl rfl (by decide) (w_fieldAddr rfl (lk rfl rfl) rfl (by decide)) ?_
              refine ao_y1 rfl rfl (by decide) (w_load1 (v := .pl _) rfl (lk rfl rfl) rfl rfl rfl) ?_
              refine ao_y rfl rfl (by decide) (g_lit1 (sz := 1) (v := .int .i64 2) rfl (by decide) (by decide) rfl rfl rfl rfl rfl) ?_
              refine ao_y rfl rfl (by decide) (V2.call (ref01_Same [2] [2] (by simp) _) rfl) ?_
              refine ao1 (by decide) (o_pick_t (v := .bool _) rfl rfl) ?_
              refine ao1 (by decide) (o_move (v := .bool _) rfl) ?_
              refine ao_split rfl rfl (fun hg23 => ?_) (fun hg23 => ?_)
              · refine ao_y1 rfl rfl (by decide) (w_fieldAddr rfl (lk rfl rfl) rfl (by decide)) ?_
                refine ao_y1 rfl rfl (by decide) (w_load1 (v := .pl _) rfl (lk rfl rfl) rfl rfl rfl) ?_
                refine ao_y rfl rfl (by decide) (g_lit1 (sz := 1) (v := .int .i64 2) rfl (by decide) (by decide) rfl rfl rfl rfl rfl) ?_
                refine ao_y rfl rfl (by decide) (V2.call (ref01_Same [2] [2] (by simp) _) rfl) ?_
                refine ao1 (by decide) (o_pick_t (v := .bool _) rfl rfl) ?_
                refine ao1 (by decide) (o_move (v := .bool _) rfl) ?_
                refine ao_split rfl rfl (fun hg29 => ?_) (fun hg29 => ?_)
                · refine ao_y1 rfl rfl (by decide) (w_fieldAddr rfl (lk rfl rfl) rfl (by decide)) ?_
                  refine ao_y1 rfl rfl (by decide) (w_load1 (v := .pl _) rfl (lk rfl rfl) rfl rfl rfl) ?_
                  refine ao_y1 rfl rfl (by decide) (o_lenp rfl) ?_
                  refine ao_y1 rfl rfl (by decide) (o_eq rfl rfl) ?_
                  refine ao1 (by decide) (o_pick_t (v := .bool _) rfl rfl) ?_
                  refine ao1 (by decide) (o_assign (v := .bool _) rfl) ?_
                  exact ao_nil (Out.mk (by rfl) (by repeat (first | exact SubX.refl _ _ | refine SubX.at ?_ | refine SubX.put rfl ?_)))
                · refine ao_nT rfl rfl (by decide) ?_
                  refine ao_nT rfl rfl (by decide) ?_
                  refine ao_nT rfl rfl (by decide) ?_
                  refine ao_nT rfl rfl (by decide) ?_
                  refine ao1 (by decide) (o_pick_f (v := .bool _) rfl rfl) ?_
                  refine ao1 (by decide) (o_assign (v := .bool _) rfl) ?_
                  exact ao_nil (Out.mk (by (refine congrArg AV.bool ?_; (simp_all; done))) (by repeat (first | exact SubX.refl _ _ | refine SubX.at ?_ | refine SubX.put rfl ?_)))
              · refine ao_nT rfl rfl (by decide) ?_
                refine ao_nT rfl rfl (by decide) ?_
                refine ao_nT rfl rfl (by decide) ?_
                refine ao_nT rfl rfl (by decide) ?_
                refine ao1 (by decide) (o_pick_f (v := .bool _) rfl rfl) ?_
                refine ao1 (by decide) (o_move (v := .bool _) rfl) ?_
                refine ao_nT rfl rfl (by decide) ?_
                refine ao_nT rfl rfl (by decide) ?_
                refine ao_nT rfl rfl (by decide) ?_
                refine ao_nT rfl rfl (by decide) ?_
                refine ao1 (by decide) (o_pick_f (v := .bool _) rfl rfl) ?_
                refine ao1 (by decide) (o_assign (v := .bool _) rfl) ?_
                exact ao_nil (Out.mk (by (refine congrArg AV.bool ?_; (simp_all; done))) (by repeat (first | exact SubX.refl _ _ | refine SubX.at ?_ | refine SubX.put rfl ?_)))
            · refine ao_nT rfl rfl (by decide) ?_
              refine ao_nT rfl rfl (by decide) ?_
              refine ao_nT rfl rfl (by decide) ?_
              refine ao_nT rfl rfl (by decide) ?_
              refine ao1 (by decide) (o_pick_f (v := .bool _) rfl rfl) ?_
              refine ao1 (by decide) (o_move (v := .bool _) rfl) ?_
              refine ao_nT rfl rfl (by decide) ?_
              refine ao_nT rfl rfl (by decide) ?_
              refine ao_nT rfl rfl (by decide) ?_
              refine ao_nT rfl rfl (by decide) ?_
              refine ao1 (by decide) (o_pick_f (v := .bool _) rfl rfl) ?_
              refine ao1 (by decide) (o_move (v := .bool _) rfl) ?_
              refine ao_nT rfl rfl (by decide) ?_
              refine ao_nT rfl rfl (by decide) ?_
              refine ao_nT rfl rfl (by decide) ?_
              refine ao_nT rfl rfl (by decide) ?_
              refine ao1 (by decide) (o_pick_f (v := .bool _) rfl rfl) ?_
              refine ao1 (by decide) (o_assign (v := .bool _) rfl) ?_
              exact ao_nil (Out.mk (by (refine congrArg AV.bool ?_; (simp_all; done))) (by repeat (first | exact SubX.refl _ _ | refine SubX.at ?_ | refine SubX.put rfl ?_)))
          · refine ao_nT rfl rfl (by decide) ?_
            refine ao_nT rfl rfl (by decide) ?_
            refine ao1 (by decide) (o_pick_f (v := .bool _) rfl rfl) ?_
            refine ao1 (by decide) (o_move (v := .bool _) rfl) ?_
            refine ao_nT rfl rfl (by decide) ?_
            refine ao_nT rfl rfl (by decide) ?_
            refine ao_nT rfl rfl (by decide) ?_
            refine ao_nT rfl rfl (by decide) ?_
            refine ao1 (by decide) (o_pick_f (v := .bool _) rfl rfl) ?_
            refine ao1 (by decide) (o_move (v := .bool _) rfl) ?_
            refine ao_nT rfl rfl (by decide) ?_
            refine ao_nT rfl rfl (by decide) ?_
            refine ao_nT rfl rfl (by decide) ?_
            refine ao_nT rfl rfl (by decide) ?_
            refine ao1 (by decide) (o_pick_f (v := .bool _) rfl rfl) ?_
            refine ao1 (by decide) (o_move (v := .bool _) rfl) ?_
            refine ao_nT rfl rfl (by decide) ?_
            refine ao_nT rfl rfl (by decide) ?_
            refine ao_nT rfl rfl (by decide) ?_
            refine ao_nT rfl rfl (by decide) ?_
            refine ao1 (by decide) (o_pick_f (v := .bool _) rfl rfl) ?_
            refine ao1 (by decide) (o_assign (v := .bool _) rfl) ?_
            exact ao_nil (Out.mk (by (refine congrArg AV.bool ?_; (simp_all; done))) (by repeat (first | exact SubX.refl _ _ | refine SubX.at ?_ | refine SubX.put rfl ?_)))
        · refine ao_nT rfl rfl (by decide) ?_
          refine ao1 (by decide) (o_pick_f (v := .bool _) rfl rfl) ?_
          refine ao1 (by decide) (o_move (v := .bool _) rfl) ?_
          refine ao_nT rfl rfl (by decide) ?_
          refine ao_nT rfl rfl (by decide) ?_
          refine ao1 (by decide) (o_pick_f (v := .bool _) rfl rfl) ?_
          refine ao1 (by decide) (o_move (v := .bool _) rfl) ?_
          refine ao_nT rfl rfl (by decide) ?_
          refine ao_nT rfl rfl (by decide) ?_
          refine ao_nT rfl rfl (by decide) ?_
          refine ao_nT rfl rfl (by decide) ?_
          refine ao1 (by decide) (o_pick_f (v := .bool _) rfl rfl) ?_
          refine ao1 (by decide) (o_move (v := .bool _) rfl) ?_
          refine ao_nT rfl rfl (by decide) ?_
          refine ao_nT rfl rfl (by decide) ?_
          refine ao_nT rfl rfl (by decide) ?_
          refine ao_nT rfl rfl (by decide) ?_
          refine ao1 (by decide) (o_pick_f (v := .bool _) rfl rfl) ?_
          refine ao1 (by decide) (o_move (v := .bool _) rfl) ?_
          refine ao_nT rfl rfl (by decide) ?_
          refine ao_nT rfl rfl (by decide) ?_
          refine ao_nT rfl rfl (by decide) ?_
          refine ao_nT rfl rfl (by decide) ?_
          refine ao1 (by decide) (o_pick_f (v := .bool _) rfl rfl) ?_
          refine ao1 (by decide) (o_assign (v := .bool _) rfl) ?_
          exact ao_nil (Out.mk (by (refine congrArg AV.bool ?_; (simp_all; done))) (by repeat (first | exact SubX.refl _ _ | refine SubX.at ?_ | refine SubX.put rfl ?_)))
      · refine ao_nT rfl rfl (by decide) ?_
        refine ao_nT rfl rfl (by decide) ?_
        refine ao1 (by decide) (o_pick_f (v := .bool _) rfl rfl) ?_
        refine ao1 (by decide) (o_move (v := .bool _) rfl) ?_
        refine ao_nT rfl rfl (by decide) ?_
        refine ao1 (by decide) (o_pick_f (v := .bool _) rfl rfl) ?_
        refine ao1 (by decide) (o_move (v := .bool _) rfl) ?_
        refine ao_nT rfl rfl (by decide) ?_
        refine ao_nT rfl rfl (by decide) ?_
        refine ao1 (by decide) (o_pick_f (v := .bool _) rfl rfl) ?_
        refine ao1 (by decide) (o_move (v := .bool _) rfl) ?_
        refine ao_nT rfl rfl (by decide) ?_
        refine ao_nT rfl rfl (by decide) ?_
        refine ao_nT rfl rfl (by decide) ?_
        refine ao_nT rfl rfl (by decide) ?_
        refine ao1 (by decide) (o_pick_f (v := .bool _) rfl rfl) ?_
        refine ao1 (by decide) (o_move (v := .bool _) rfl) ?_
        refine ao_nT rfl rfl (by decide) ?_
        refine ao_nT rfl rfl (by decide) ?_
        refine ao_nT rfl rfl (by decide) ?_
        refine ao_nT rfl rfl (by decide) ?_
        refine ao1 (by decide) (o_pick_f (v := .bool _) rfl rfl) ?_
        refine ao1 (by decide) (o_move (v := .bool _) rfl) ?_
        refine ao_nT rfl rfl (by decide) ?_
        refine ao_nT rfl rfl (by decide) ?_
        refine ao_nT rfl rfl (by decide) ?_
        refine ao_nT rfl rfl (by decide) ?_
        refine ao1 (by decide) (o_pick_f (v := .bool _) rfl rfl) ?_
        refine ao1 (by decide) (o_assign (v := .bool _) rfl) ?_
        exact ao_nil (Out.mk (by (refine congrArg AV.bool ?_; (simp_all; done))) (by repeat (first | exact SubX.refl _ _ | refine SubX.at ?_ | refine SubX.put rfl ?_)))
    · refine ao_nT rfl rfl (by decide) ?_
      refine ao_nT rfl rfl (by decide) ?_
      refine ao1 (by decide) (o_pick_f (v := .bool _) rfl rfl) ?_
      refine ao1 (by decide) (o_move (v := .bool _) rfl) ?_
      refine ao_nT rfl rfl (by decide) ?_
      refine ao_nT rfl rfl (by decide) ?_
      refine ao1 (by decide) (o_pick_f (v := .bool _) rfl rfl) ?_
      refine ao1 (by decide) (o_move (v := .bool _) rfl) ?_
      refine ao_nT rfl rfl (by decide) ?_
      refine ao1 (by decide) (o_pick_f (v := .bool _) rfl rfl) ?_
      refine ao1 (by decide) (o_move (v := .bool _) rfl) ?_
      refine ao_nT rfl rfl (by decide) ?_
      refine ao_nT rfl rfl (by decide) ?_
      refine ao1 (by decide) (o_pick_f (v := .bool _) rfl rfl) ?_
      refine ao1 (by decide) (o_move (v := .bool _) rfl) ?_
      refine ao_nT rfl rfl (by decide) ?_
      refine ao_nT rfl rfl (by decide) ?_
      refine ao_nT rfl rfl (by decide) ?_
      refine ao_nT rfl rfl (by decide) ?_
      refine ao1 (by decide) (o_pick_f (v := .bool _) rfl rfl) ?_
      refine ao1 (by decide) (o_move (v := .bool _) rfl) ?_
      refine ao_nT rfl rfl (by decide) ?_
      refine ao_nT rfl rfl (by decide) ?_
      refine ao_nT rfl rfl (by decide) ?_
      refine ao_nT rfl rfl (by decide) ?_
      refine ao1 (by decide) (o_pick_f (v := .bool _) rfl rfl) ?_
      refine ao1 (by decide) (o_move (v := .bool _) rfl) ?_
      refine ao_nT rfl rfl (by decide) ?_
      refine ao_nT rfl rfl (by decide) ?_
      refine ao_nT rfl rfl (by decide) ?_
      refine ao_nT rfl rfl (by decide) ?_
      refine ao1 (by decide) (o_pick_f (v := .bool _) rfl rfl) ?_
      refine ao1 (by decide) (o_assign (v := .bool _) rfl) ?_
      exact ao_nil (Out.mk (by (refine congrArg AV.bool ?_; (simp_all; done))) (by repeat (first | exact SubX.refl _ _ | refine SubX.at ?_ | refine SubX.put rfl ?_)))
  repeat (first | refine then_nrm ?_ | refine aw_ret ?_)
  exact e_done hB (r_tmp rfl .nil) rfl rfl
set_option maxHeartbeats 0 in
theorem law19_LeaseHears (l : Loan) (n : Note) (now guard : Int) (H : Heap) : ACT Tryd.prog KD 3 [.agg (eLoan l), .agg (eNote n), .int .i64 now, .int .i64 guard] H (Ret (.bool true) H) := by
  refine ACT.body (N := 66) [.tmp 8] Tryd.func3 rfl rfl rfl (Nat.le_of_ble_eq_true rfl) fun B hB => ?_
  repeat (refine aw_seq ?_)
  refine aw_region ?_
  refine ao2 (by rintro _ ⟨⟩; decide) (o_boxL (sz := 3) (v := .agg _) rfl rfl rfl rfl (by decide) rfl) ?_
  refine ao2 (by rintro _ ⟨⟩; decide) (o_boxL (sz := 3) (v := .agg _) rfl rfl rfl rfl (by decide) rfl) ?_
  refine ao1 (by decide) (o_assign (v := .bool _) rfl) ?_
  refine ao_nil ?_
  try dsimp only [List.length_nil, put, AV.cells, List.nil_append, List.length_cons, Nat.reduceAdd, List.cons_append]
  repeat (first | refine then_nrm ?_ | refine aw_seq ?_)
  refine aw_region ?_
  refine ao2 (by rintro _ ⟨⟩; decide) (V2.callT (law19_awake _) rfl rfl) ?_
  refine ao1 (by decide) (o_not rfl) ?_
  refine ao_nil ?_
  try dsimp only [put]
  repeat (refine then_nrm ?_)
  refine aw_cond rfl (fun hc => ?_) (fun hc => ?_)
  · cases hc
  repeat (first | refine then_nrm ?_ | refine aw_seq ?_ | refine aw_skip ?_)
  refine aw_out 25 (.bool (!(decide (l.things.length ≤ 60) && decide (l.asked.length ≤ 60)) || decide (60 < n.things.length))) ?_ ?_
  · refine ao1 (by decide) (w_loadR rfl (lk rfl rfl) rfl rfl rfl) ?_
    refine ao_ret (law19_short l _) rfl (by decide) ?_
    refine ao1 (by decide) (o_not rfl) ?_
    refine ao1 (by decide) (o_move (v := .bool _) rfl) ?_
    refine ao_split rfl rfl (fun hg3 => ?_) (fun hg3 => ?_)
    · refine ao_nF rfl rfl (by decide) ?_
      refine ao_nF rfl rfl (by decide) ?_
      refine ao_nF rfl rfl (by decide) ?_
      refine ao_nF rfl rfl (by decide) ?_
      refine ao1 (by decide) (o_pick_t (v := .bool _) rfl rfl) ?_
      exact ao_nil (Out.mk (by (refine congrArg AV.bool ?_; ((simp_all; done)))) (by repeat (first | exact SubX.refl _ _ | refine SubX.at ?_ | refine SubX.put rfl ?_)))
    · refine ao_y1 rfl rfl (by decide) (w_fieldAddr rfl (lk rfl rfl) rfl (by decide)) ?_
      refine ao_y1 rfl rfl (by decide) (w_load1 (v := .pl _) rfl (lk rfl rfl) rfl rfl rfl) ?_
      refine ao_y1 rfl rfl (by decide) (o_lenp rfl) ?_
      refine ao_y1 rfl rfl (by decide) (o_gt rfl rfl) ?_
      refine ao1 (by decide) (o_pick_f (v := .bool _) rfl rfl) ?_
      exact ao_nil (Out.mk (by (refine congrArg AV.bool ?_; (grind))) (by repeat (first | exact SubX.refl _ _ | refine SubX.at ?_ | refine SubX.put rfl ?_)))
  repeat (refine then_nrm ?_)
  refine aw_cond rfl (fun hc => ?_) (fun hc => ?_)
  · repeat (refine aw_seq ?_)
    refine aw_region ?_
    refine ao1 (by decide) (o_assign (v := .bool _) rfl) ?_
    refine ao_nil ?_
    repeat (first | refine then_nrm ?_ | refine then_ret ?_ | refine aw_ret ?_)
    exact e_done hB (r_tmp rfl .nil) rfl rfl
  have hs : (l.things.length ≤ 60 ∧ l.asked.length ≤ 60) ∧ n.things.length ≤ 60 := by simpa using hc
  have hl : Small l := ⟨by omega, by omega⟩
  have hn : n.things.length ≤ 1000000 := by omega
  have c1 := fun H => lease_Hear l hl n hn now H
  have c2 := fun H => ref19_Hear l hl n hn now H
  have hz := @hear_small l n now hl hn
  generalize hear l n now = z at c1 c2 hz
  obtain ⟨hz1, hz2⟩ := hz
  repeat (first | refine then_nrm ?_ | refine aw_seq ?_ | refine aw_skip ?_)
  refine aw_region ?_
  refine ao1 (by decide) (w_loadR rfl (lk rfl rfl) rfl rfl rfl) ?_
  refine ao1 (by decide) (w_loadR rfl (lk rfl rfl) rfl rfl rfl) ?_
  refine ao1 (by decide) (o_move (v := .int _ _) rfl) ?_
  refine ao2 (by rintro _ ⟨⟩; decide) (V2.callT (c1 _) rfl rfl) ?_
  refine ao1 (by decide) (o_move (v := .tup _) rfl) ?_
  refine ao1 (by decide) (o_extract (v := .agg _) rfl rfl) ?_
  refine ao1 (by decide) (o_extract (v := .agg _) rfl rfl) ?_
  refine ao1 (by decide) (o_extract (v := .bool _) rfl rfl) ?_
  refine ao2 (by rintro _ ⟨⟩; decide) (o_allocL (sz := 3) rfl (by decide) rfl) ?_
  refine ao2 (by rintro _ ⟨⟩; decide) (o_allocL (sz := 3) rfl (by decide) rfl) ?_
  refine ao2 (by rintro _ ⟨⟩) (w_storeW (sz := 3) rfl rfl rfl rfl rfl rfl rfl rfl (Nat.le_of_ble_eq_true rfl)) ?_
  refine ao2 (by rintro _ ⟨⟩) (w_storeW (sz := 3) rfl rfl rfl rfl rfl rfl rfl rfl (Nat.le_of_ble_eq_true rfl)) ?_
  refine ao1 (by decide) (o_assign (v := .bool _) rfl) ?_
  refine ao_nil ?_
  try dsimp only [put, List.length_cons, List.length_nil, Nat.reduceAdd, List.cons_append, List.nil_append, List.set_cons_zero, List.set_cons_succ]
  repeat (first | refine then_nrm ?_ | refine aw_seq ?_)
  refine aw_region ?_
  refine ao1 (by decide) (w_loadR rfl (lk rfl rfl) rfl rfl rfl) ?_
  refine ao1 (by decide) (w_loadR rfl (lk rfl rfl) rfl rfl rfl) ?_
  refine ao1 (by decide) (o_move (v := .int _ _) rfl) ?_
  refine ao_ret (c2 _) rfl (by decide) ?_
  refine ao1 (by decide) (o_move (v := .tup _) rfl) ?_
  refine ao1 (by decide) (o_extract (v := .agg _) rfl rfl) ?_
  refine ao1 (by decide) (o_extract (v := .agg _) rfl rfl) ?_
  refine ao1 (by decide) (o_extract (v := .bool _) rfl rfl) ?_
  refine ao2 (by rintro _ ⟨⟩; decide) (o_allocL (sz := 3) rfl (by decide) rfl) ?_
  refine ao2 (by rintro _ ⟨⟩; decide) (o_allocL (sz := 3) rfl (by decide) rfl) ?_
  refine ao2 (by rintro _ ⟨⟩) (w_storeW (sz := 3) rfl rfl rfl rfl rfl rfl rfl rfl (Nat.le_of_ble_eq_true rfl)) ?_
  refine ao2 (by rintro _ ⟨⟩) (w_storeW (sz := 3) rfl rfl rfl rfl rfl rfl rfl rfl (Nat.le_of_ble_eq_true rfl)) ?_
  refine ao1 (by decide) (o_assign (v := .bool _) rfl) ?_
  refine ao_nil ?_
  try dsimp only [List.length_cons, List.length_nil, Nat.reduceAdd, put, List.cons_append, List.nil_append, List.set_cons_zero, List.set_cons_succ]
  repeat (first | refine then_nrm ?_ | refine aw_seq ?_)
  refine aw_of_out 8 (.bool true) ?_ ?_
  · refine aw_drawP mixed none 6 ?_
    try dsimp only [List.take_succ_cons, List.take_zero]
    refine aqp 0 rfl (by decide +kernel) (by decide) (fun G => w_loadR rfl (lk rfl rfl) rfl rfl rfl) ?_
    refine aqp 1 rfl (by decide +kernel) (by decide) (fun G => w_loadR rfl (lk rfl rfl) rfl rfl rfl) ?_
    refine aq02 2 rfl (by decide +kernel) (by decide) (fun _ => V2.call (ref19_Same z.1 z.1 hz1 _) rfl) ?_
    refine aq0 3 rfl (by decide +kernel) (by decide) (fun _ => o_move (v := .bool _) rfl) ?_
    refine aq_split (g := 45) rfl (fun hg3 => ?_) (fun hg3 => ?_)
    · refine aqyp (g := 45) 4 rfl (by decide +kernel) (by decide) rfl rfl (fun G => w_loadR rfl (lk rfl rfl) rfl rfl rfl) ?_
      refine aqyp (g := 45) 5 rfl (by decide +kernel) (by decide) rfl rfl (fun G => w_loadR rfl (lk rfl rfl) rfl rfl rfl) ?_
      refine aqy02 (g := 45) 6 rfl (by decide +kernel) (by decide) rfl rfl (fun _ => V2.call (ref19_SameNote z.2.1 z.2.1 hz2 _) rfl) ?_
      refine aq0 7 rfl (by decide +kernel) (by decide) (fun _ => o_pick_t (v := .bool _) rfl rfl) ?_
      refine aq0 8 rfl (by decide +kernel) (by decide) (fun _ => o_move (v := .bool _) rfl) ?_
      refine aq_split (g := 50) rfl (fun hg8 => ?_) (fun hg8 => ?_)
      · refine aqy0 (g := 50) 9 rfl (by decide +kernel) (by decide) rfl rfl (fun _ => o_move (v := .bool _) rfl) ?_
        refine aqy0 (g := 50) 10 rfl (by decide +kernel) (by decide) rfl rfl (fun _ => o_move (v := .bool _) rfl) ?_
        refine aqy0 (g := 50) 11 rfl (by decide +kernel) (by decide) rfl rfl (fun _ => o_beq rfl rfl) ?_
        refine aq0 12 rfl (by decide +kernel) (by decide) (fun _ => o_pick_t (v := .bool _) rfl rfl) ?_
        refine aq0 13 rfl (by decide +kernel) (by decide) (fun _ => o_move (v := .bool _) rfl) ?_
        refine aq_split (g := 55) rfl (fun hg13 => ?_) (fun hg13 => ?_)
        · refine aqyp (g := 55) 14 rfl (by decide +kernel) (by decide) rfl rfl (fun G => w_loadR rfl (lk rfl rfl) rfl rfl rfl) ?_
          refine aqy0 (g := 55) 15 rfl (by decide +kernel) (by decide) rfl rfl (fun _ => o_move (v := .int _ _) rfl) ?_
          refine aqy0 (g := 55) 16 rfl (by decide +kernel) (by decide) rfl rfl (fun _ => o_move (v := .int _ _) rfl) ?_
          refine aqy02 (g := 55) 17 rfl (by decide +kernel) (by decide) rfl rfl (fun _ => V2.call (lease_Over l hl now guard _) rfl) ?_
          refine aqyp (g := 55) 18 rfl (by decide +kernel) (by decide) rfl rfl (fun G => w_loadR rfl (lk rfl rfl) rfl rfl rfl) ?_
          refine aqy0 (g := 55) 19 rfl (by decide +kernel) (by decide) rfl rfl (fun _ => o_move (v := .int _ _) rfl) ?_
          refine aqy0 (g := 55) 20 rfl (by decide +kernel) (by decide) rfl rfl (fun _ => o_move (v := .int _ _) rfl) ?_
          refine aqy02 (g := 55) 21 rfl (by decide +kernel) (by decide) rfl rfl (fun _ => V2.call (ref19_Over l hl now guard _) rfl) ?_
          refine aqy02 (g := 55) 22 rfl (by decide +kernel) (by decide) rfl rfl (fun _ => V2.call (ref19_Same _ _ (lover_small hl) _) rfl) ?_
          refine aq0 23 rfl (by decide +kernel) (by decide) (fun _ => o_pick_t (v := .bool _) rfl rfl) ?_
          refine aq0 24 rfl (by decide +kernel) (by decide) (fun _ => o_assign (v := .bool _) rfl) ?_
          exact aa_done (by decide +kernel) (by exact fun _ => ⟨_, rfl⟩) (Out.mk (by (refine congrArg AV.bool ?_; (clear c1 c2; (simp_all; done)))) (by repeat (first | exact SubX.refl _ _ | refine SubX.at ?_ | refine SubX.put rfl ?_)))
        · refine aqn0 (g := 55) 14 rfl (by decide +kernel) (by decide) rfl rfl rfl ?_
          refine aqn0 (g := 55) 15 rfl (by decide +kernel) (by decide) rfl rfl rfl ?_
          refine aqn0 (g := 55) 16 rfl (by decide +kernel) (by decide) rfl rfl rfl ?_
          refine aqn0 (g := 55) 17 rfl (by decide +kernel) (by decide) rfl rfl rfl ?_
          refine aqn0 (g := 55) 18 rfl (by decide +kernel) (by decide) rfl rfl rfl ?_
          refine aqn0 (g := 55) 19 rfl (by decide +kernel) (by decide) rfl rfl rfl ?_
          refine aqn0 (g := 55) 20 rfl (by decide +kernel) (by decide) rfl rfl rfl ?_
          refine aqn0 (g := 55) 21 rfl (by decide +kernel) (by decide) rfl rfl rfl ?_
          refine aqn0 (g := 55) 22 rfl (by decide +kernel) (by decide) rfl rfl rfl ?_
          refine aq0 23 rfl (by decide +kernel) (by decide) (fun _ => o_pick_f (v := .bool _) rfl rfl) ?_
          refine aq0 24 rfl (by decide +kernel) (by decide) (fun _ => o_assign (v := .bool _) rfl) ?_
          exact aa_done (by decide +kernel) (by exact fun _ => ⟨_, rfl⟩) (Out.mk (by (refine congrArg AV.bool ?_; (clear c1 c2; (simp_all; done)))) (by repeat (first | exact SubX.refl _ _ | refine SubX.at ?_ | refine SubX.put rfl ?_)))
      · refine aqn0 (g := 50) 9 rfl (by decide +kernel) (by decide) rfl rfl rfl ?_
        refine aqn0 (g := 50) 10 rfl (by decide +kernel) (by decide) rfl rfl rfl ?_
        refine aqn0 (g := 50) 11 rfl (by decide +kernel) (by decide) rfl rfl rfl ?_
        refine aq0 12 rfl (by decide +kernel) (by decide) (fun _ => o_pick_f (v := .bool _) rfl rfl) ?_
        refine aq0 13 rfl (by decide +kernel) (by decide) (fun _ => o_move (v := .bool _) rfl) ?_
        refine aqn0 (g := 55) 14 rfl (by decide +kernel) (by decide) rfl rfl rfl ?_
        refine aqn0 (g := 55) 15 rfl (by decide +kernel) (by decide) rfl rfl rfl ?_
        refine aqn0 (g := 55) 16 rfl (by decide +kernel) (by decide) rfl rfl rfl ?_
        refine aqn0 (g := 55) 17 rfl (by decide +kernel) (by decide) rfl rfl rfl ?_
        refine aqn0 (g := 55) 18 rfl (by decide +kernel) (by decide) rfl rfl rfl ?_
        refine aqn0 (g := 55) 19 rfl (by decide +kernel) (by decide) rfl rfl rfl ?_
        refine aqn0 (g := 55) 20 rfl (by decide +kernel) (by decide) rfl rfl rfl ?_
        refine aqn0 (g := 55) 21 rfl (by decide +kernel) (by decide) rfl rfl rfl ?_
        refine aqn0 (g := 55) 22 rfl (by decide +kernel) (by decide) rfl rfl rfl ?_
        refine aq0 23 rfl (by decide +kernel) (by decide) (fun _ => o_pick_f (v := .bool _) rfl rfl) ?_
        refine aq0 24 rfl (by decide +kernel) (by decide) (fun _ => o_assign (v := .bool _) rfl) ?_
        exact aa_done (by decide +kernel) (by exact fun _ => ⟨_, rfl⟩) (Out.mk (by (refine congrArg AV.bool ?_; (clear c1 c2; (simp_all; done)))) (by repeat (first | exact SubX.refl _ _ | refine SubX.at ?_ | refine SubX.put rfl ?_)))
    · refine aqn0 (g := 45) 4 rfl (by decide +kernel) (by decide) rfl rfl rfl ?_
      refine aqn0 (g := 45) 5 rfl (by decide +kernel) (by decide) rfl rfl rfl ?_
      refine aqn0 (g := 45) 6 rfl (by decide +kernel) (by decide) rfl rfl rfl ?_
      refine aq0 7 rfl (by decide +kernel) (by decide) (fun _ => o_pick_f (v := .bool _) rfl rfl) ?_
      refine aq0 8 rfl (by decide +kernel) (by decide) (fun _ => o_move (v := .bool _) rfl) ?_
      refine aqn0 (g := 50) 9 rfl (by decide +kernel) (by decide) rfl rfl rfl ?_
      refine aqn0 (g := 50) 10 rfl (by decide +kernel) (by decide) rfl rfl rfl ?_
      refine aqn0 (g := 50) 11 rfl (by decide +kernel) (by decide) rfl rfl rfl ?_
      refine aq0 12 rfl (by decide +kernel) (by decide) (fun _ => o_pick_f (v := .bool _) rfl rfl) ?_
      refine aq0 13 rfl (by decide +kernel) (by decide) (fun _ => o_move (v := .bool _) rfl) ?_
      refine aqn0 (g := 55) 14 rfl (by decide +kernel) (by decide) rfl rfl rfl ?_
      refine aqn0 (g := 55) 15 rfl (by decide +kernel) (by decide) rfl rfl rfl ?_
      refine aqn0 (g := 55) 16 rfl (by decide +kernel) (by decide) rfl rfl rfl ?_
      refine aqn0 (g := 55) 17 rfl (by decide +kernel) (by decide) rfl rfl rfl ?_
      refine aqn0 (g := 55) 18 rfl (by decide +kernel) (by decide) rfl rfl rfl ?_
      refine aqn0 (g := 55) 19 rfl (by decide +kernel) (by decide) rfl rfl rfl ?_
      refine aqn0 (g := 55) 20 rfl (by decide +kernel) (by decide) rfl rfl rfl ?_
      refine aqn0 (g := 55) 21 rfl (by decide +kernel) (by decide) rfl rfl rfl ?_
      refine aqn0 (g := 55) 22 rfl (by decide +kernel) (by decide) rfl rfl rfl ?_
      refine aq0 23 rfl (by decide +kernel) (by decide) (fun _ => o_pick_f (v := .bool _) rfl rfl) ?_
      refine aq0 24 rfl (by decide +kernel) (by decide) (fun _ => o_assign (v := .bool _) rfl) ?_
      exact aa_done (by decide +kernel) (by exact fun _ => ⟨_, rfl⟩) (Out.mk (by (refine congrArg AV.bool ?_; (clear c1 c2; (simp_all; done)))) (by repeat (first | exact SubX.refl _ _ | refine SubX.at ?_ | refine SubX.put rfl ?_)))
  repeat (first | refine then_nrm ?_ | refine aw_ret ?_)
  exact e_done hB (r_tmp rfl .nil) rfl rfl
end Go.Av
