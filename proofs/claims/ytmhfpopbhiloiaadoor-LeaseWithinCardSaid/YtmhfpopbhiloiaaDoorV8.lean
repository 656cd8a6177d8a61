/- A part of the proof: walks through the program over abstract values. -/
import Derived.Test.YtmhfpopbhiloiaaDoorV7
namespace Go.Av
open Go.Proofs
set_option maxRecDepth 10000
set_option linter.unusedSimpArgs false
set_option linter.unusedVariables false

def noNote : Note := ⟨0, [], 0⟩
abbrev orb (x y : Bool) : Bool := x || y
abbrev lessb (x y : Bool) : Bool := x && !y
def hok (l : Loan) (n : Note) (now : Int) : Bool := lright l && decide (l.asked.length = 0) && lmay n && tm now
def hear (l : Loan) (n : Note) (now : Int) : Loan × Note × Bool :=
  if hok l n now = false then (l, noNote, false)
  else if n.kind = 1 then (if now < l.til then (⟨setop (· || ·) l.things n.things, l.asked, l.til⟩, noNote, false) else (l, noNote, false))
  else if n.kind = 2 then (⟨setop (fun x y => x && !y) l.things n.things, l.asked, l.til⟩, ⟨3, n.things, 0⟩, true)
  else if n.kind = 4 then (⟨l.things, l.asked, max l.til n.til⟩, noNote, false)
  else (l, noNote, false)
set_option maxHeartbeats 0 in
theorem lease_Hear (l : Loan) (hl : Small l) (n : Note) (hn : n.things.length ≤ 1000000) (now : Int) (H : Heap) : ACT Tryd.prog KD 10 [.agg (eLoan l), .agg (eNote n), .int .i64 now] H (Ret (.tup [.agg (eLoan (hear l n now).1), .agg (eNote (hear l n now).2.1), .bool (hear l n now).2.2]) H) := by
  refine ACT.body (N := 69) [.cell 6 24, .cell 7 26, .tmp 8] Tryd.func10 rfl rfl rfl (Nat.le_of_ble_eq_true rfl) fun B hB => ?_
  repeat (refine aw_seq ?_)
  refine aw_region ?_
  refine ao2 (by rintro _ ⟨⟩; decide) (o_boxL (sz := 3) (v := .agg _) rfl rfl rfl rfl (by decide) rfl) ?_
  refine ao2 (by rintro _ ⟨⟩; decide) (o_boxL (sz := 3) (v := .agg _) rfl rfl rfl rfl (by decide) rfl) ?_
  refine ao2 (by rintro _ ⟨⟩; decide) (o_allocL (sz := 3) rfl (by decide) rfl) ?_
  refine ao2 (by rintro _ ⟨⟩; decide) (o_allocL (sz := 3) rfl (by decide) rfl) ?_
  refine ao1 (by decide) (o_assign (v := .bool _) rfl) ?_
  refine ao_nil ?_
  try dsimp only [List.length_nil, put, AV.cells, List.nil_append, List.length_cons, Nat.reduceAdd, List.cons_append]
  repeat (first | refine then_nrm ?_ | refine aw_seq ?_)
  refine aw_region ?_
  refine ao1 (by decide) (w_loadR rfl (lk rfl rfl) rfl rfl rfl) ?_
  refine ao_ret (lease_copied l hl _) rfl (by decide) ?_
  refine ao2 (by rintro _ ⟨⟩) (w_storeW (sz := 3) rfl rfl rfl rfl rfl rfl rfl rfl (Nat.le_of_ble_eq_true rfl)) ?_
  refine ao_nil ?_
  try dsimp only [put, List.set_cons_zero]
  repeat (first | refine then_nrm ?_ | refine aw_seq ?_)
  refine aw_out 29 (.bool (!(hok l n now))) ?_ ?_
  · refine ao1 (by decide) (w_loadR rfl (lk rfl rfl) rfl rfl rfl) ?_
    refine ao_ret (lease_Right l hl _) rfl (by decide) ?_
    refine ao1 (by decide) (o_not rfl) ?_
    refine ao1 (by decide) (o_move (v := .bool _) rfl) ?_
    refine ao_split rfl rfl (fun hg3 => ?_) (fun hg3 => ?_)
    · refine ao_nF rfl rfl (by decide) ?_
      refine ao_nF rfl rfl (by decide) ?_
      refine ao_nF rfl rfl (by decide) ?_
      refine ao_nF rfl rfl (by decide) ?_
      refine ao1 (by decide) (o_pick_t (v := .bool _) rfl rfl) ?_
      refine ao1 (by decide) (o_move (v := .bool _) rfl) ?_
      refine ao_nF rfl rfl (by decide) ?_
      refine ao_nF rfl rfl (by decide) ?_
      refine ao_nF rfl rfl (by decide) ?_
      refine ao1 (by decide) (o_pick_t (v := .bool _) rfl rfl) ?_
      refine ao1 (by decide) (o_move (v := .bool _) rfl) ?_
      refine ao_nF rfl rfl (by decide) ?_
      refine ao_nF rfl rfl (by decide) ?_
      refine ao_nF rfl rfl (by decide) ?_
      refine ao1 (by decide) (o_pick_t (v := .bool _) rfl rfl) ?_
      exact ao_nil (Out.mk (by (refine congrArg AV.bool ?_; (simp only [hok] at *; (simp_all; done)))) (by repeat (first | exact SubX.refl _ _ | refine SubX.at ?_ | refine SubX.put rfl ?_)))
    · refine ao_y1 rfl rfl (by decide) (w_fieldAddr rfl (lk rfl rfl) rfl (by decide)) ?_
      refine ao_y1 rfl rfl (by decide) (w_load1 (v := .pl _) rfl (lk rfl rfl) rfl rfl rfl) ?_
      refine ao_y1 rfl rfl (by decide) (o_lenp rfl) ?_
      refine ao_y1 rfl rfl (by decide) (o_gt rfl rfl) ?_
      refine ao1 (by decide) (o_pick_f (v := .bool _) rfl rfl) ?_
      refine ao1 (by decide) (o_move (v := .bool _) rfl) ?_
      refine ao_split rfl rfl (fun hg9 => ?_) (fun hg9 => ?_)
      · refine ao_nF rfl rfl (by decide) ?_
        refine ao_nF rfl rfl (by decide) ?_
        refine ao_nF rfl rfl (by decide) ?_
        refine ao1 (by decide) (o_pick_t (v := .bool _) rfl rfl) ?_
        refine ao1 (by decide) (o_move (v := .bool _) rfl) ?_
        refine ao_nF rfl rfl (by decide) ?_
        refine ao_nF rfl rfl (by decide) ?_
        refine ao_nF rfl rfl (by decide) ?_
        refine ao1 (by decide) (o_pick_t (v := .bool _) rfl rfl) ?_
        exact ao_nil (Out.mk (by (refine congrArg AV.bool ?_; (simp only [hok] at *; grind))) (by repeat (first | exact SubX.refl _ _ | refine SubX.at ?_ | refine SubX.put rfl ?_)))
      · refine ao_y1 rfl rfl (by decide) (w_loadR rfl (lk rfl rfl) rfl rfl rfl) ?_
        refine ao_y rfl rfl (by decide) (V2.call (lease_may n hn _) rfl) ?_
        refine ao_y1 rfl rfl (by decide) (o_not rfl) ?_
        refine ao1 (by decide) (o_pick_f (v := .bool _) rfl rfl) ?_
        refine ao1 (by decide) (o_move (v := .bool _) rfl) ?_
        refine ao_split rfl rfl (fun hg14 => ?_) (fun hg14 => ?_)
        · refine ao_nF rfl rfl (by decide) ?_
          refine ao_nF rfl rfl (by decide) ?_
          refine ao_nF rfl rfl (by decide) ?_
          refine ao1 (by decide) (o_pick_t (v := .bool _) rfl rfl) ?_
          exact ao_nil (Out.mk (by (refine congrArg AV.bool ?_; (simp only [hok] at *; (simp_all; done)))) (by repeat (first | exact SubX.refl _ _ | refine SubX.at ?_ | refine SubX.put rfl ?_)))
        · refine ao_y1 rfl rfl (by decide) (o_move (v := .int _ _) rfl) ?_
          refine ao_y rfl rfl (by decide) (V2.call (when_RightT _ _) rfl) ?_
          refine ao_y1 rfl rfl (by decide) (o_not rfl) ?_
          refine ao1 (by decide) (o_pick_f (v := .bool _) rfl rfl) ?_
          exact ao_nil (Out.mk (by (refine congrArg AV.bool ?_; (simp only [hok] at *; (simp_all; done)))) (by repeat (first | exact SubX.refl _ _ | refine SubX.at ?_ | refine SubX.put rfl ?_)))
  repeat (refine then_nrm ?_)
  refine aw_cond rfl (fun hc => ?_) (fun hc => ?_)
  · rw [show hear l n now = (l, noNote, false) by rw [hear, if_pos ((Bool.not_eq_true' _).mp hc)]]
    repeat (refine aw_seq ?_)
    refine aw_region ?_
    refine ao1 (by decide) (w_loadR rfl (lk rfl rfl) rfl rfl rfl) ?_
    refine ao1 (by decide) (V1.up (o_build (cs := [.int _ _, _, .int _ _]) rfl)) ?_
    refine ao2 (by rintro _ ⟨⟩) (w_storeW (sz := 3) rfl rfl rfl rfl rfl rfl rfl rfl (Nat.le_of_ble_eq_true rfl)) ?_
    refine ao2 (by rintro _ ⟨⟩) (w_storeW (sz := 3) rfl rfl rfl rfl rfl rfl rfl rfl (Nat.le_of_ble_eq_true rfl)) ?_
    refine ao1 (by decide) (o_assign (v := .bool _) rfl) ?_
    refine ao_nil ?_
    try dsimp only [AV.up, put, List.set_cons_zero, List.set_cons_succ]
    repeat (first | refine then_nrm ?_ | refine then_ret ?_ | refine aw_ret ?_)
    exact e_done hB (r_cellR rfl (lk rfl rfl) rfl rfl rfl (r_cellR rfl (lk rfl rfl) rfl rfl rfl (r_tmp rfl .nil))) rfl rfl
  have hk : ¬ hok l n now = false := by intro h; rw [h] at hc; cases hc
  repeat (first | refine then_nrm ?_ | refine aw_seq ?_ | refine aw_skip ?_)
  refine aw_region ?_
  refine ao1 (by decide) (w_fieldAddr rfl (lk rfl rfl) rfl (by decide)) ?_
  refine ao1 (by decide) (w_load1 (v := .int _ _) rfl (lk rfl rfl) rfl rfl rfl) ?_
  refine ao_nil ?_
  try dsimp only [Nat.reduceAdd]
  repeat (first | refine then_nrm ?_ | refine aw_seq ?_ | refine aw_block ?_)
  refine aw_region ?_
  refine ao1 (by decide) (o_eq rfl rfl) ?_
  refine ao1 (by decide) (o_assign (v := .bool _) rfl) ?_
  refine ao_nil ?_
  repeat (refine then_nrm ?_)
  refine aw_cond rfl (fun hc => ?_) (fun hc => ?_)
  · have h1 : n.kind = 1 := by simpa using hc
    repeat (refine aw_seq ?_)
    refine aw_region ?_
    refine ao1 (by decide) (o_move (v := .int _ _) rfl) ?_
    refine ao1 (by decide) (w_fieldAddr rfl (lk rfl rfl) rfl (by decide)) ?_
    refine ao1 (by decide) (w_load1 (v := .int _ _) rfl (lk rfl rfl) rfl rfl rfl) ?_
    refine ao1 (by decide) (o_lt rfl rfl) ?_
    refine ao_nil ?_
    try dsimp only [Nat.reduceAdd]
    repeat (refine then_nrm ?_)
    refine aw_cond rfl (fun hc => ?_) (fun hc => ?_)
    · rw [show hear l n now = (⟨setop (· || ·) l.things n.things, l.asked, l.til⟩, noNote, false) by rw [hear, if_neg hk, if_pos h1, if_pos (by simpa using hc)]]
      refine aw_region ?_
      refine ao1 (by decide) (w_fieldAddr rfl (lk rfl rfl) rfl (by decide)) ?_
      refine ao1 (by decide) (w_load1 (v := .pl _) rfl (lk rfl rfl) rfl rfl rfl) ?_
      refine ao1 (by decide) (w_fieldAddr rfl (lk rfl rfl) rfl (by decide)) ?_
      refine ao1 (by decide) (w_load1 (v := .pl _) rfl (lk rfl rfl) rfl rfl rfl) ?_
      refine ao2 (by rintro _ ⟨⟩; decide) (V2.callT (set_Join l.things n.things hl.1 hn _) rfl rfl) ?_
      refine ao1 (by decide) (w_fieldAddr rfl (lk rfl rfl) rfl (by decide)) ?_
      refine ao2 (by rintro _ ⟨⟩) (w_storeP (sz := 1) (v := .pl _) (r' := [_, _, _]) rfl rfl rfl rfl rfl rfl rfl rfl (Nat.le_of_ble_eq_true rfl) rfl) ?_
      refine ao_nil ?_
      try dsimp only [put, Nat.reduceAdd, List.set_cons_zero]
      repeat (first | refine then_nrm ?_ | refine blk_nrm ?_ | refine aw_seq ?_)
      refine aw_region ?_
      refine ao1 (by decide) (w_loadR rfl (lk rfl rfl) rfl rfl rfl) ?_
      refine ao1 (by decide) (V1.up (o_build (cs := [.int _ _, _, .int _ _]) rfl)) ?_
      refine ao2 (by rintro _ ⟨⟩) (w_storeW (sz := 3) rfl rfl rfl rfl rfl rfl rfl rfl (Nat.le_of_ble_eq_true rfl)) ?_
      refine ao2 (by rintro _ ⟨⟩) (w_storeW (sz := 3) rfl rfl rfl rfl rfl rfl rfl rfl (Nat.le_of_ble_eq_true rfl)) ?_
      refine ao1 (by decide) (o_assign (v := .bool _) rfl) ?_
      refine ao_nil ?_
      try dsimp only [AV.up, put, List.set_cons_zero, List.set_cons_succ]
      repeat (first | refine then_nrm ?_ | refine aw_ret ?_)
      exact e_done hB (r_cellR rfl (lk rfl rfl) rfl rfl rfl (r_cellR rfl (lk rfl rfl) rfl rfl rfl (r_tmp rfl .nil))) rfl rfl
    · rw [show hear l n now = (l, noNote, false) by rw [hear, if_neg hk, if_pos h1, if_neg (by simpa using hc)]]
      repeat (first | refine then_nrm ?_ | refine blk_nrm ?_ | refine aw_seq ?_ | refine aw_skip ?_)
      refine aw_region ?_
      refine ao1 (by decide) (w_loadR rfl (lk rfl rfl) rfl rfl rfl) ?_
      refine ao1 (by decide) (V1.up (o_build (cs := [.int _ _, _, .int _ _]) rfl)) ?_
      refine ao2 (by rintro _ ⟨⟩) (w_storeW (sz := 3) rfl rfl rfl rfl rfl rfl rfl rfl (Nat.le_of_ble_eq_true rfl)) ?_
      refine ao2 (by rintro _ ⟨⟩) (w_storeW (sz := 3) rfl rfl rfl rfl rfl rfl rfl rfl (Nat.le_of_ble_eq_true rfl)) ?_
      refine ao1 (by decide) (o_assign (v := .bool _) rfl) ?_
      refine ao_nil ?_
      try dsimp only [AV.up, put, List.set_cons_zero, List.set_cons_succ]
      repeat (first | refine then_nrm ?_ | refine aw_ret ?_)
      exact e_done hB (r_cellR rfl (lk rfl rfl) rfl rfl rfl (r_cellR rfl (lk rfl rfl) rfl rfl rfl (r_tmp rfl .nil))) rfl rfl
  · have h1 : ¬ n.kind = 1 := by simpa using hc
    repeat (refine aw_seq ?_)
    refine aw_region ?_
    refine ao1 (by decide) (o_eq rfl rfl) ?_
    refine ao1 (by decide) (o_assign (v := .bool _) rfl) ?_
    refine ao_nil ?_
    repeat (refine then_nrm ?_)
    refine aw_cond rfl (fun hc => ?_) (fun hc => ?_)
    · have h2 : n.kind = 2 := by simpa using hc
      rw [show hear l n now = (⟨setop (fun x y => x && !y) l.things n.things, l.asked, l.til⟩, ⟨3, n.things, 0⟩, true) by rw [hear, if_neg hk, if_neg h1, if_pos h2]]
      repeat (refine aw_seq ?_)
      refine aw_region ?_
      refine ao1 (by decide) (w_fieldAddr rfl (lk rfl rfl) rfl (by decide)) ?_
      refine ao1 (by decide) (w_load1 (v := .pl _) rfl (lk rfl rfl) rfl rfl rfl) ?_
      refine ao1 (by decide) (w_fieldAddr rfl (lk rfl rfl) rfl (by decide)) ?_
      refine ao1 (by decide) (w_load1 (v := .pl _) rfl (lk rfl rfl) rfl rfl rfl) ?_
      refine ao2 (by rintro _ ⟨⟩; decide) (V2.callT (set_Less l.things n.things hl.1 hn _) rfl rfl) ?_
      refine ao1 (by decide) (w_fieldAddr rfl (lk rfl rfl) rfl (by decide)) ?_
      refine ao2 (by rintro _ ⟨⟩) (w_storeP (sz := 1) (v := .pl _) (r' := [_, _, _]) rfl rfl rfl rfl rfl rfl rfl rfl (Nat.le_of_ble_eq_true rfl) rfl) ?_
      refine ao_nil ?_
      try dsimp only [put, Nat.reduceAdd, List.set_cons_zero]
      repeat (first | refine then_nrm ?_ | refine aw_seq ?_)
      refine aw_drawP mixed none 2 ?_
      try dsimp only [List.take_succ_cons, List.take_zero]
      refine aqp 0 rfl (by decide +kernel) (by decide) (fun G => w_loadR rfl (lk rfl rfl) rfl rfl rfl) ?_
      refine aqp 1 rfl (by decide +kernel) (by decide) (fun G => w_fieldAddr rfl (lk rfl rfl) rfl (by decide)) ?_
      refine aqp 2 rfl (by decide +kernel) (by decide) (fun G => w_load1 (v := .pl _) rfl (lk rfl rfl) rfl rfl rfl) ?_
      refine aq02 3 rfl (by decide +kernel) (by decide) (fun _ => V2.call (slices_CloneI n.things _ hn) rfl) ?_
      refine aq0 4 rfl (by decide +kernel) (by decide) (fun _ => V1.up (o_build (cs := [.int _ _, _, .int _ _]) rfl)) ?_
      refine aqs 5 rfl (by decide +kernel) (by exact fun _ => ⟨_, rfl⟩) (by rintro _ ⟨⟩) (w_storeW (sz := 3) rfl rfl rfl rfl rfl rfl rfl rfl (Nat.le_of_ble_eq_true rfl)) ?_
      refine aqs 6 rfl (by decide +kernel) (by exact fun _ => ⟨_, rfl⟩) (by rintro _ ⟨⟩) (w_storeW (sz := 3) rfl rfl rfl rfl rfl rfl rfl rfl (Nat.le_of_ble_eq_true rfl)) ?_
      refine aq0 7 rfl (by decide +kernel) (by decide) (fun _ => o_assign (v := .bool _) rfl) ?_
      refine aa_done (by decide +kernel) (by exact fun _ => ⟨_, rfl⟩) ?_
      try dsimp only [Nat.reduceAdd, AV.up, put, List.set_cons_zero, List.set_cons_succ]
      all_goals
        repeat (first | refine then_nrm ?_ | refine then_ret ?_ | refine blk_ret ?_ | refine aw_ret ?_)
        exact e_done hB (r_cellR rfl (lk rfl rfl) rfl rfl rfl (r_cellR rfl (lk rfl rfl) rfl rfl rfl (r_tmp rfl .nil))) rfl rfl
    · have h2 : ¬ n.kind = 2 := by simpa using hc
      repeat (refine aw_seq ?_)
      refine aw_region ?_
      refine ao1 (by decide) (o_eq rfl rfl) ?_
      refine ao1 (by decide) (o_assign (v := .bool _) rfl) ?_
      refine ao_nil ?_
      repeat (refine then_nrm ?_)
      refine aw_cond rfl (fun hc => ?_) (fun hc => ?_)
      · have h4 : n.kind = 4 := by simpa using hc
        rw [show hear l n now = (⟨l.things, l.asked, max l.til n.til⟩, noNote, false) by rw [hear, if_neg hk, if_neg h1, if_neg h2, if_pos h4]]
        refine aw_region ?_
        refine ao1 (by decide) (w_fieldAddr rfl (lk rfl rfl) rfl (by decide)) ?_
        refine ao1 (by decide) (w_load1 (v := .int _ _) rfl (lk rfl rfl) rfl rfl rfl) ?_
        refine ao1 (by decide) (w_fieldAddr rfl (lk rfl rfl) rfl (by decide)) ?_
        refine ao1 (by decide) (w_load1 (v := .int _ _) rfl (lk rfl rfl) rfl rfl rfl) ?_
        refine ao1 (by decide) (o_max rfl rfl rfl) ?_
        refine ao1 (by decide) (w_fieldAddr rfl (lk rfl rfl) rfl (by decide)) ?_
        refine ao2 (by rintro _ ⟨⟩) (w_storeP (sz := 1) (v := .int _ _) (r' := [_, _, _]) rfl rfl rfl rfl rfl rfl rfl rfl (Nat.le_of_ble_eq_true rfl) rfl) ?_
        refine ao_nil ?_
        try dsimp only [put, Nat.reduceAdd, List.set_cons_zero]
        repeat (first | refine then_nrm ?_ | refine blk_nrm ?_ | refine aw_seq ?_)
        refine aw_region ?_
        refine ao1 (by decide) (w_loadR rfl (lk rfl rfl) rfl rfl rfl) ?_
        refine ao1 (by decide) (V1.up (o_build (cs := [.int _ _, _, .int _ _]) rfl)) ?_
        refine ao2 (by rintro _ ⟨⟩) (w_storeW (sz := 3) rfl rfl rfl rfl rfl rfl rfl rfl (Nat.le_of_ble_eq_true rfl)) ?_
        refine ao2 (by rintro _ ⟨⟩) (w_storeW (sz := 3) rfl rfl rfl rfl rfl rfl rfl rfl (Nat.le_of_ble_eq_true rfl)) ?_
        refine ao1 (by decide) (o_assign (v := .bool _) rfl) ?_
        refine ao_nil ?_
        try dsimp only [AV.up, put, List.set_cons_zero, List.set_cons_succ]
        repeat (first | refine then_nrm ?_ | refine aw_ret ?_)
        exact e_done hB (r_cellR rfl (lk rfl rfl) rfl rfl rfl (r_cellR rfl (lk rfl rfl) rfl rfl rfl (r_tmp rfl .nil))) rfl rfl
      · have h4 : ¬ n.kind = 4 := by simpa using hc
        rw [show hear l n now = (l, noNote, false) by rw [hear, if_neg hk, if_neg h1, if_neg h2, if_neg h4]]
        repeat (first | refine then_nrm ?_ | refine blk_nrm ?_ | refine aw_seq ?_ | refine aw_skip ?_)
        refine aw_region ?_
        refine ao1 (by decide) (w_loadR rfl (lk rfl rfl) rfl rfl rfl) ?_
        refine ao1 (by decide) (V1.up (o_build (cs := [.int _ _, _, .int _ _]) rfl)) ?_
        refine ao2 (by rintro _ ⟨⟩) (w_storeW (sz := 3) rfl rfl rfl rfl rfl rfl rfl rfl (Nat.le_of_ble_eq_true rfl)) ?_
        refine ao2 (by rintro _ ⟨⟩) (w_storeW (sz := 3) rfl rfl rfl rfl rfl rfl rfl rfl (Nat.le_of_ble_eq_true rfl)) ?_
        refine ao1 (by decide) (o_assign (v := .bool _) rfl) ?_
        refine ao_nil ?_
        try dsimp only [AV.up, put, List.set_cons_zero, List.set_cons_succ]
        repeat (first | refine then_nrm ?_ | refine aw_ret ?_)
        exact e_done hB (r_cellR rfl (lk rfl rfl) rfl rfl rfl (r_cellR rfl (lk rfl rfl) rfl rfl rfl (r_tmp rfl .nil))) rfl rfl
theorem opw0 : opw 0 = fun x y => x || y := by funext x y; simp [opw]
theorem opw2 : opw 2 = fun x y => x && !y := by funext x y; simp [opw]
theorem lmay_kind {n : Note} (h : lmay n = true) : (n.kind = 4 ∧ n.things = []) ∨ (1 ≤ n.kind ∧ n.kind ≤ 3 ∧ n.til = 0) := by
  unfold lmay at h
  split at h
  · right; rename_i hk; simp at h; omega
  · split at h
    · left; rename_i hk; simp [List.length_eq_zero_iff] at h; exact ⟨hk, h.2⟩
    · cases h
theorem hok_may {l : Loan} {n : Note} {now : Int} (h : ¬ hok l n now = false) : lright l = true ∧ l.asked = [] ∧ lmay n = true ∧ tm now = true := by
  have : hok l n now = true := by simpa using h
  simp [hok, List.length_eq_zero_iff] at this
  exact ⟨this.1.1.1, this.1.1.2, this.1.2, this.2⟩
set_option maxHeartbeats 0 in
theorem ref19_Hear (l : Loan) (hl : Small l) (n : Note) (hn : n.things.length ≤ 1000000) (now : Int) (H : Heap) : AC Tryd.prog 11 [.agg (eLoan l), .agg (eNote n), .int .i64 now] H (Ret (.tup [.agg (eLoan (hear l n now).1), .agg (eNote (hear l n now).2.1), .bool (hear l n now).2.2]) H) := by
  have c0 := fun H => ref01_Which l.things n.things 0 hl.1 hn H
  have c2 := fun H => ref01_Which l.things n.things 2 hl.1 hn H
  rw [opw0] at c0
  rw [opw2] at c2
  refine AC.body (N := 72) [.cell 6 24, .cell 7 26, .tmp 8] Tryd.func11 rfl rfl rfl (Nat.le_of_ble_eq_true rfl) fun B hB => ?_
  repeat (refine aw_seq ?_)
  refine aw_region ?_
  refine ao2 (by rintro _ ⟨⟩; decide) (o_boxL (sz := 3) (v := .agg _) rfl rfl rfl rfl (by decide) rfl) ?_
  refine ao2 (by rintro _ ⟨⟩; decide) (o_boxL (sz := 3) (v := .agg _) rfl rfl rfl rfl (by decide) rfl) ?_
  refine ao2 (by rintro _ ⟨⟩; decide) (o_allocL (sz := 3) rfl (by decide) rfl) ?_
  refine ao2 (by rintro _ ⟨⟩; decide) (o_allocL (sz := 3) rfl (by decide) rfl) ?_
  refine ao1 (by decide) (o_assign (v := .bool _) rfl) ?_
  refine ao_nil ?_
  try dsimp only [List.length_nil, put, AV.cells, List.nil_append, List.length_cons, Nat.reduceAdd, List.cons_append]
  repeat (first | refine then_nrm ?_ | refine aw_seq ?_)
  refine aw_out 32 (.bool (!(hok l n now && !decide (n.kind = 3)))) ?_ ?_
  · refine ao1 (by decide) (w_loadR rfl (lk rfl rfl) rfl rfl rfl) ?_
    refine ao_ret (ref19_Right l hl _) rfl (by decide) ?_
    refine ao1 (by decide) (o_not rfl) ?_
    refine ao1 (by decide) (o_move (v := .bool _) rfl) ?_
    refine ao_split rfl rfl (fun hg3 => ?_) (fun hg3 => ?_)
    · refine ao_nF rfl rfl (by decide) ?_
      refine ao_nF rfl rfl (by decide) ?_
      refine ao_nF rfl rfl (by decide) ?_
      refine ao_nF rfl rfl (by decide) ?_
      refine ao1 (by decide) (o_pick_t (v := .bool _) rfl rfl) ?_
      refine ao1 (by decide) (o_move (v := .bool _) rfl) ?_
      refine ao_nF rfl rfl (by decide) ?_
      refine ao_nF rfl rfl (by decide) ?_
      refine ao_nF rfl rfl (by decide) ?_
      refine ao1 (by decide) (o_pick_t (v := .bool _) rfl rfl) ?_
      refine ao1 (by decide) (o_move (v := .bool _) rfl) ?_
      refine ao_nF rfl rfl (by decide) ?_
      refine ao_nF rfl rfl (by decide) ?_
      refine ao_nF rfl rfl (by decide) ?_
      refine ao1 (by decide) (o_pick_t (v := .bool _) rfl rfl) ?_
      refine ao1 (by decide) (o_move (v := .bool _) rfl) ?_
      refine ao_nF rfl rfl (by decide) ?_
      refine ao_nF rfl rfl (by decide) ?_
      refine ao_nF rfl rfl (by decide) ?_
      refine ao1 (by decide) (o_pick_t (v := .bool _) rfl rfl) ?_
      exact ao_nil (Out.mk (by (refine congrArg AV.bool ?_; (clear c0 c2; simp only [hok] at *; (simp_all; done)))) (by repeat (first | exact SubX.refl _ _ | refine SubX.at ?_ | refine SubX.put rfl ?_)))
    · refine ao_y1 rfl rfl (by decide) (w_fieldAddr rfl (lk rfl rfl) rfl (by decide)) ?_
      refine ao_y1 rfl rfl (by decide) (w_load1 (v := .pl _) rfl (lk rfl rfl) rfl rfl rfl) ?_
      refine ao_y1 rfl rfl (by decide) (o_lenp rfl) ?_
      refine ao_y1 rfl rfl (by decide) (o_ne rfl rfl) ?_
      refine ao1 (by decide) (o_pick_f (v := .bool _) rfl rfl) ?_
      refine ao1 (by decide) (o_move (v := .bool _) rfl) ?_
      refine ao_split rfl rfl (fun hg9 => ?_) (fun hg9 => ?_)
      · refine ao_nF rfl rfl (by decide) ?_
        refine ao_nF rfl rfl (by decide) ?_
        refine ao_nF rfl rfl (by decide) ?_
        refine ao1 (by decide) (o_pick_t (v := .bool _) rfl rfl) ?_
        refine ao1 (by decide) (o_move (v := .bool _) rfl) ?_
        refine ao_nF rfl rfl (by decide) ?_
        refine ao_nF rfl rfl (by decide) ?_
        refine ao_nF rfl rfl (by decide) ?_
        refine ao1 (by decide) (o_pick_t (v := .bool _) rfl rfl) ?_
        refine ao1 (by decide) (o_move (v := .bool _) rfl) ?_
        refine ao_nF rfl rfl (by decide) ?_
        refine ao_nF rfl rfl (by decide) ?_
        refine ao_nF rfl rfl (by decide) ?_
        refine ao1 (by decide) (o_pick_t (v := .bool _) rfl rfl) ?_
        exact ao_nil (Out.mk (by (refine congrArg AV.bool ?_; (clear c0 c2; simp only [hok] at *; (simp_all; done)))) (by repeat (first | exact SubX.refl _ _ | refine SubX.at ?_ | refine SubX.put rfl ?_)))
      · refine ao_y1 rfl rfl (by decide) (w_loadR rfl (lk rfl rfl) rfl rfl rfl) ?_
        refine ao_y rfl rfl (by decide) (V2.call (ref19_May n hn _) rfl) ?_
        refine ao_y1 rfl rfl (by decide) (o_not rfl) ?_
        refine ao1 (by decide) (o_pick_f (v := .bool _) rfl rfl) ?_
        refine ao1 (by decide) (o_move (v := .bool _) rfl) ?_
        refine ao_split rfl rfl (fun hg14 => ?_) (fun hg14 => ?_)
        · refine ao_nF rfl rfl (by decide) ?_
          refine ao_nF rfl rfl (by decide) ?_
          refine ao_nF rfl rfl (by decide) ?_
          refine ao1 (by decide) (o_pick_t (v := .bool _) rfl rfl) ?_
          refine ao1 (by decide) (o_move (v := .bool _) rfl) ?_
          refine ao_nF rfl rfl (by decide) ?_
          refine ao_nF rfl rfl (by decide) ?_
          refine ao_nF rfl rfl (by decide) ?_
          refine ao1 (by decide) (o_pick_t (v := .bool _) rfl rfl) ?_
          exact ao_nil (Out.mk (by (refine congrArg AV.bool ?_; (clear c0 c2; simp only [hok] at *; (simp_all; done)))) (by repeat (first | exact SubX.refl _ _ | refine SubX.at ?_ | refine SubX.put rfl ?_)))
        · refine ao_y1 rfl rfl (by decide) (o_move (v := .int _ _) rfl) ?_
          refine ao_y rfl rfl (by decide) (V2.call (ref19_time _ _) rfl) ?_
          refine ao_y1 rfl rfl (by decide) (o_not rfl) ?_
          refine ao1 (by decide) (o_pick_f (v := .bool _) rfl rfl) ?_
          refine ao1 (by decide) (o_move (v := .bool _) rfl) ?_
          refine ao_split rfl rfl (fun hg19 => ?_) (fun hg19 => ?_)
          · refine ao_nF rfl rfl (by decide) ?_
            refine ao_nF rfl rfl (by decide) ?_
            refine ao_nF rfl rfl (by decide) ?_
            refine ao1 (by decide) (o_pick_t (v := .bool _) rfl rfl) ?_
            exact ao_nil (Out.mk (by (refine congrArg AV.bool ?_; (clear c0 c2; simp only [hok] at *; (simp_all; done)))) (by repeat (first | exact SubX.refl _ _ | refine SubX.at ?_ | refine SubX.put rfl ?_)))
          · refine ao_y1 rfl rfl (by decide) (w_fieldAddr rfl (lk rfl rfl) rfl (by decide)) ?_
            refine ao_y1 rfl rfl (by decide) (w_load1 (v := .int _ _) rfl (lk rfl rfl) rfl rfl rfl) ?_
            refine ao_y1 rfl rfl (by decide) (o_eq rfl rfl) ?_
            refine ao1 (by decide) (o_pick_f (v := .bool _) rfl rfl) ?_
            exact ao_nil (Out.mk (by (refine congrArg AV.bool ?_; (clear c0 c2; simp only [hok] at *; grind))) (by repeat (first | exact SubX.refl _ _ | refine SubX.at ?_ | refine SubX.put rfl ?_)))
  repeat (refine then_nrm ?_)
  refine aw_cond rfl (fun hc => ?_) (fun hc => ?_)
  · rw [show hear l n now = (l, noNote, false) by
      cases h : hok l n now with
      | false => rw [hear, if_pos h]
      | true =>
        have h3 : n.kind = 3 := by simpa [h] using hc
        rw [hear, if_neg (by rw [h]; simp), if_neg (by omega), if_neg (by omega), if_neg (by omega)]]
    repeat (refine aw_seq ?_)
    refine aw_region ?_
    refine ao1 (by decide) (w_loadR rfl (lk rfl rfl) rfl rfl rfl) ?_
    refine ao1 (by decide) (V1.up (o_build (cs := [.int _ _, _, .int _ _]) rfl)) ?_
    refine ao2 (by rintro _ ⟨⟩) (w_storeW (sz := 3) rfl rfl rfl rfl rfl rfl rfl rfl (Nat.le_of_ble_eq_true rfl)) ?_
    refine ao2 (by rintro _ ⟨⟩) (w_storeW (sz := 3) rfl rfl rfl rfl rfl rfl rfl rfl (Nat.le_of_ble_eq_true rfl)) ?_
    refine ao1 (by decide) (o_assign (v := .bool _) rfl) ?_
    refine ao_nil ?_
    try dsimp only [AV.up, put, List.set_cons_zero, List.set_cons_succ]
    repeat (first | refine then_nrm ?_ | refine then_ret ?_ | refine aw_ret ?_)
    exact e_done hB (r_cellR rfl (lk rfl rfl) rfl rfl rfl (r_cellR rfl (lk rfl rfl) rfl rfl rfl (r_tmp rfl .nil))) rfl rfl
  have hk : ¬ hok l n now = false := by intro h; rw [h] at hc; cases hc
  have h3 : ¬ n.kind = 3 := by intro h; rw [h] at hc; simp at hc
  have hm := lmay_kind (hok_may hk).2.2.1
  repeat (first | refine then_nrm ?_ | refine aw_seq ?_ | refine aw_skip ?_)
  refine aw_region ?_
  refine ao1 (by decide) (w_fieldAddr rfl (lk rfl rfl) rfl (by decide)) ?_
  refine ao1 (by decide) (w_load1 (v := .int _ _) rfl (lk rfl rfl) rfl rfl rfl) ?_
  refine ao1 (by decide) (o_eq rfl rfl) ?_
  refine ao_nil ?_
  try dsimp only [Nat.reduceAdd]
  repeat (refine then_nrm ?_)
  refine aw_cond rfl (fun hc => ?_) (fun hc => ?_)
  · have h4 : n.kind = 4 := by simpa using hc
    rw [show hear l n now = (⟨l.things, l.asked, max l.til n.til⟩, noNote, false) by rw [hear, if_neg hk, if_neg (by omega), if_neg (by omega), if_pos h4]]
    repeat (refine aw_seq ?_)
    refine aw_region ?_
    refine ao1 (by decide) (w_fieldAddr rfl (lk rfl rfl) rfl (by decide)) ?_
    refine ao1 (by decide) (w_load1 (v := .int _ _) rfl (lk rfl rfl) rfl rfl rfl) ?_
    refine ao1 (by decide) (w_fieldAddr rfl (lk rfl rfl) rfl (by decide)) ?_
    refine ao1 (by decide) (w_load1 (v := .int _ _) rfl (lk rfl rfl) rfl rfl rfl) ?_
    refine ao1 (by decide) (o_gt rfl rfl) ?_
    refine ao_nil ?_
    try dsimp only [Nat.reduceAdd]
    repeat (refine then_nrm ?_)
    refine aw_cond rfl (fun hc => ?_) (fun hc => ?_)
    · rw [show max l.til n.til = n.til by simp at hc; omega]
      refine aw_region ?_
      refine ao1 (by decide) (w_fieldAddr rfl (lk rfl rfl) rfl (by decide)) ?_
      refine ao1 (by decide) (w_load1 (v := .int _ _) rfl (lk rfl rfl) rfl rfl rfl) ?_
      refine ao1 (by decide) (w_fieldAddr rfl (lk rfl rfl) rfl (by decide)) ?_
      refine ao2 (by rintro _ ⟨⟩) (w_storeP (sz := 1) (v := .int _ _) (r' := [_, _, _]) rfl rfl rfl rfl rfl rfl rfl rfl (Nat.le_of_ble_eq_true rfl) rfl) ?_
      refine ao_nil ?_
      try dsimp only [put, Nat.reduceAdd, List.set_cons_zero]
      repeat (first | refine then_nrm ?_ | refine aw_seq ?_)
      refine aw_region ?_
      refine ao1 (by decide) (w_loadR rfl (lk rfl rfl) rfl rfl rfl) ?_
      refine ao1 (by decide) (V1.up (o_build (cs := [.int _ _, _, .int _ _]) rfl)) ?_
      refine ao2 (by rintro _ ⟨⟩) (w_storeW (sz := 3) rfl rfl rfl rfl rfl rfl rfl rfl (Nat.le_of_ble_eq_true rfl)) ?_
      refine ao2 (by rintro _ ⟨⟩) (w_storeW (sz := 3) rfl rfl rfl rfl rfl rfl rfl rfl (Nat.le_of_ble_eq_true rfl)) ?_
      refine ao1 (by decide) (o_assign (v := .bool _) rfl) ?_
      refine ao_nil ?_
      try dsimp only [AV.up, put, List.set_cons_zero, List.set_cons_succ]
      repeat (first | refine then_nrm ?_ | refine then_ret ?_ | refine aw_ret ?_)
      exact e_done hB (r_cellR rfl (lk rfl rfl) rfl rfl rfl (r_cellR rfl (lk rfl rfl) rfl rfl rfl (r_tmp rfl .nil))) rfl rfl
    · rw [show max l.til n.til = l.til by simp at hc; omega]
      repeat (first | refine then_nrm ?_ | refine aw_seq ?_ | refine aw_skip ?_)
      refine aw_region ?_
      refine ao1 (by decide) (w_loadR rfl (lk rfl rfl) rfl rfl rfl) ?_
      refine ao1 (by decide) (V1.up (o_build (cs := [.int _ _, _, .int _ _]) rfl)) ?_
      refine ao2 (by rintro _ ⟨⟩) (w_storeW (sz := 3) rfl rfl rfl rfl rfl rfl rfl rfl (Nat.le_of_ble_eq_true rfl)) ?_
      refine ao2 (by rintro _ ⟨⟩) (w_storeW (sz := 3) rfl rfl rfl rfl rfl rfl rfl rfl (Nat.le_of_ble_eq_true rfl)) ?_
      refine ao1 (by decide) (o_assign (v := .bool _) rfl) ?_
      refine ao_nil ?_
      try dsimp only [AV.up, put, List.set_cons_zero, List.set_cons_succ]
      repeat (first | refine then_nrm ?_ | refine then_ret ?_ | refine aw_ret ?_)
      exact e_done hB (r_cellR rfl (lk rfl rfl) rfl rfl rfl (r_cellR rfl (lk rfl rfl) rfl rfl rfl (r_tmp rfl .nil))) rfl rfl
  · have h4 : ¬ n.kind = 4 := by simpa using hc
    repeat (first | refine then_nrm ?_ | refine aw_seq ?_ | refine aw_skip ?_)
    refine aw_region ?_
    refine ao1 (by decide) (w_fieldAddr rfl (lk rfl rfl) rfl (by decide)) ?_
    refine ao1 (by decide) (w_load1 (v := .int _ _) rfl (lk rfl rfl) rfl rfl rfl) ?_
    refine ao1 (by decide) (o_eq rfl rfl) ?_
    refine ao_nil ?_
    try dsimp only [Nat.reduceAdd]
    repeat (refine then_nrm ?_)
    refine aw_cond rfl (fun hc => ?_) (fun hc => ?_)
    · have h2 : n.kind = 2 := by simpa using hc
      have h0 : n.til = 0 := by omega
      rw [show hear l n now = (⟨setop (fun x y => x && !y) l.things n.things, l.asked, l.til⟩, ⟨3, n.things, n.til⟩, true) by rw [hear, if_neg hk, if_neg (by omega), if_pos h2, h0]]
      repeat (refine aw_seq ?_)
      refine aw_region ?_
      refine ao1 (by decide) (w_fieldAddr rfl (lk rfl rfl) rfl (by decide)) ?_
      refine ao1 (by decide) (w_load1 (v := .pl _) rfl (lk rfl rfl) rfl rfl rfl) ?_
      refine ao1 (by decide) (w_fieldAddr rfl (lk rfl rfl) rfl (by decide)) ?_
      refine ao1 (by decide) (w_load1 (v := .pl _) rfl (lk rfl rfl) rfl rfl rfl) ?_
      refine ao2 (by rintro _ ⟨⟩; decide) (V2.call (c2 _) rfl) ?_
      refine ao1 (by decide) (w_fieldAddr rfl (lk rfl rfl) rfl (by decide)) ?_
      refine ao2 (by rintro _ ⟨⟩) (w_storeP (sz := 1) (v := .pl _) (r' := [_, _, _]) rfl rfl rfl rfl rfl rfl rfl rfl (Nat.le_of_ble_eq_true rfl) rfl) ?_
      refine ao_nil ?_
      try dsimp only [put, Nat.reduceAdd, List.set_cons_zero]
      repeat (first | refine then_nrm ?_ | refine aw_seq ?_)
      refine aw_region ?_
      refine ao1 (by decide) (w_fieldAddr rfl (lk rfl rfl) rfl (by decide)) ?_
      refine ao2 (by rintro _ ⟨⟩) (w_storeP (sz := 1) (v := .int _ _) (r' := [_, _, _]) rfl rfl rfl rfl rfl rfl rfl rfl (Nat.le_of_ble_eq_true rfl) rfl) ?_
      refine ao_nil ?_
      try dsimp only [put, Nat.reduceAdd, List.set_cons_zero, List.set_cons_succ]
      repeat (first | refine then_nrm ?_ | refine aw_seq ?_)
      refine aw_drawP mixed none 2 ?_
      try dsimp only [List.take_succ_cons, List.take_zero]
      refine aqp 0 rfl (by decide +kernel) (by decide) (fun G => w_loadR rfl (lk rfl rfl) rfl rfl rfl) ?_
      refine aqp 1 rfl (by decide +kernel) (by decide) (fun G => w_loadR rfl (lk rfl rfl) rfl rfl rfl) ?_
      refine aqs 2 rfl (by decide +kernel) (by exact fun _ => ⟨_, rfl⟩) (by rintro _ ⟨⟩) (w_storeW (sz := 3) rfl rfl rfl rfl rfl rfl rfl rfl (Nat.le_of_ble_eq_true rfl)) ?_
      refine aqs 3 rfl (by decide +kernel) (by exact fun _ => ⟨_, rfl⟩) (by rintro _ ⟨⟩) (w_storeW (sz := 3) rfl rfl rfl rfl rfl rfl rfl rfl (Nat.le_of_ble_eq_true rfl)) ?_
      refine aq0 4 rfl (by decide +kernel) (by decide) (fun _ => o_assign (v := .bool _) rfl) ?_
      refine aa_done (by decide +kernel) (by exact fun _ => ⟨_, rfl⟩) ?_
      try dsimp only [put, List.set_cons_zero, List.set_cons_succ]
      all_goals
        repeat (first | refine then_nrm ?_ | refine then_ret ?_ | refine aw_ret ?_)
        exact e_done hB (r_cellR rfl (lk rfl rfl) rfl rfl rfl (r_cellR rfl (lk rfl rfl) rfl rfl rfl (r_tmp rfl .nil))) rfl rfl
    · have h1 : n.kind = 1 := by have : ¬ n.kind = 2 := by simpa using hc
                                 omega
      repeat (first | refine then_nrm ?_ | refine aw_seq ?_ | refine aw_skip ?_)
      refine aw_region ?_
      refine ao1 (by decide) (o_move (v := .int _ _) rfl) ?_
      refine ao1 (by decide) (w_fieldAddr rfl (lk rfl rfl) rfl (by decide)) ?_
      refine ao1 (by decide) (w_load1 (v := .int _ _) rfl (lk rfl rfl) rfl rfl rfl) ?_
      refine ao1 (by decide) (o_lt rfl rfl) ?_
      refine ao_nil ?_
      try dsimp only [Nat.reduceAdd]
      repeat (refine then_nrm ?_)
      refine aw_cond rfl (fun hc => ?_) (fun hc => ?_)
      · rw [show hear l n now = (⟨setop (· || ·) l.things n.things, l.asked, l.til⟩, noNote, false) by rw [hear, if_neg hk, if_pos h1, if_pos (by simpa using hc)]]
        refine aw_region ?_
        refine ao1 (by decide) (w_fieldAddr rfl (lk rfl rfl) rfl (by decide)) ?_
        refine ao1 (by decide) (w_load1 (v := .pl _) rfl (lk rfl rfl) rfl rfl rfl) ?_
        refine ao1 (by decide) (w_fieldAddr rfl (lk rfl rfl) rfl (by decide)) ?_
        refine ao1 (by decide) (w_load1 (v := .pl _) rfl (lk rfl rfl) rfl rfl rfl) ?_
        refine ao2 (by rintro _ ⟨⟩; decide) (V2.call (c0 _) rfl) ?_
        refine ao1 (by decide) (w_fieldAddr rfl (lk rfl rfl) rfl (by decide)) ?_
        refine ao2 (by rintro _ ⟨⟩) (w_storeP (sz := 1) (v := .pl _) (r' := [_, _, _]) rfl rfl rfl rfl rfl rfl rfl rfl (Nat.le_of_ble_eq_true rfl) rfl) ?_
        refine ao_nil ?_
        try dsimp only [put, Nat.reduceAdd, List.set_cons_zero]
        repeat (first | refine then_nrm ?_ | refine aw_seq ?_)
        refine aw_region ?_
        refine ao1 (by decide) (w_loadR rfl (lk rfl rfl) rfl rfl rfl) ?_
        refine ao1 (by decide) (V1.up (o_build (cs := [.int _ _, _, .int _ _]) rfl)) ?_
        refine ao2 (by rintro _ ⟨⟩) (w_storeW (sz := 3) rfl rfl rfl rfl rfl rfl rfl rfl (Nat.le_of_ble_eq_true rfl)) ?_
        refine ao2 (by rintro _ ⟨⟩) (w_storeW (sz := 3) rfl rfl rfl rfl rfl rfl rfl rfl (Nat.le_of_ble_eq_true rfl)) ?_
        refine ao1 (by decide) (o_assign (v := .bool _) rfl) ?_
        refine ao_nil ?_
        try dsimp only [AV.up, put, List.set_cons_zero, List.set_cons_succ]
        repeat (first | refine then_nrm ?_ | refine aw_ret ?_)
        exact e_done hB (r_cellR rfl (lk rfl rfl) rfl rfl rfl (r_cellR rfl (lk rfl rfl) rfl rfl rfl (r_tmp rfl .nil))) rfl rfl
      · rw [show hear l n now = (l, noNote, false) by rw [hear, if_neg hk, if_pos h1, if_neg (by simpa using hc)]]
        repeat (first | refine then_nrm ?_ | refine aw_seq ?_ | refine aw_skip ?_)
        refine aw_region ?_
        refine ao1 (by decide) (w_loadR rfl (lk rfl rfl) rfl rfl rfl) ?_
        refine ao1 (by decide) (V1.up (o_build (cs := [.int _ _, _, .int _ _]) rfl)) ?_
        refine ao2 (by rintro _ ⟨⟩) (w_storeW (sz := 3) rfl rfl rfl rfl rfl rfl rfl rfl (Nat.le_of_ble_eq_true rfl)) ?_
        refine ao2 (by rintro _ ⟨⟩) (w_storeW (sz := 3) rfl rfl rfl rfl rfl rfl rfl rfl (Nat.le_of_ble_eq_true rfl)) ?_
        refine ao1 (by decide) (o_assign (v := .bool _) rfl) ?_
        refine ao_nil ?_
        try dsimp only [AV.up, put, List.set_cons_zero, List.set_cons_succ]
        repeat (first | refine then_nrm ?_ | refine aw_ret ?_)
        exact e_done hB (r_cellR rfl (lk rfl rfl) rfl rfl rfl (r_cellR rfl (lk rfl rfl) rfl rfl rfl (r_tmp rfl .nil))) rfl rfl
end Go.Av
