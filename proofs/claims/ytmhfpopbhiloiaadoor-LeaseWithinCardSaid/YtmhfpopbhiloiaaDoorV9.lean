/- A part of the proof: walks through the program over abstract values. -/
import Derived.Test.YtmhfpopbhiloiaaDoorV8
import Derived.Test.YtmhfpopbhiloiaaDoorAv27
namespace Go.Av
open Go.Proofs
set_option maxRecDepth 10000
set_option linter.unusedSimpArgs false
set_option linter.unusedVariables false

def lend (l : Loan) (n : Note) (now : Int) : Loan × Note × Int :=
  if (lright l && tm now && lmay n) = false then (l, noNote, 1)
  else if l.til ≤ now then (l, noNote, 8)
  else if n.kind = 1 then (if 0 < (setop (fun x y => x && y) l.things n.things).length then (l, noNote, 7) else (⟨setop (fun x y => x || y) l.things n.things, l.asked, l.til⟩, n, 0))
  else if n.kind = 2 then (if 0 < (setop (fun x y => x && !y) n.things l.things).length then (l, noNote, 6) else if 0 < (setop (fun x y => x && y) n.things l.asked).length then (l, noNote, 7) else (⟨l.things, setop (fun x y => x || y) l.asked n.things, l.til⟩, n, 0))
  else (if n.til ≤ l.til then (l, noNote, 6) else (⟨l.things, l.asked, n.til⟩, n, 0))
theorem lend_open {l : Loan} {n : Note} {now : Int} (h : lopen l now (lmay n) ≠ 0) : lend l n now = (l, noNote, lopen l now (lmay n)) := by
  unfold lopen at h ⊢
  unfold lend
  split
  · rfl
  · rename_i h1
    rw [if_neg h1] at h
    split
    · rfl
    · rename_i h2; rw [if_neg h2] at h; exact absurd rfl h
theorem lopen_ok {l : Loan} {now : Int} {f : Bool} (h : lopen l now f = 0) : lright l = true ∧ tm now = true ∧ f = true ∧ ¬ l.til ≤ now := by
  unfold lopen at h
  split at h
  · cases h
  · rename_i h1
    split at h
    · cases h
    · rename_i h2
      have : (lright l && tm now && f) = true := by
        cases h : (lright l && tm now && f) with
        | false => exact absurd h h1
        | true => rfl
      rw [Bool.and_eq_true, Bool.and_eq_true] at this
      exact ⟨this.1.1, this.1.2, this.2, h2⟩
theorem lend_ok {l : Loan} {n : Note} {now : Int} (h : lopen l now (lmay n) = 0) : lend l n now = if n.kind = 1 then (if 0 < (setop (fun x y => x && y) l.things n.things).length then (l, noNote, 7) else (⟨setop (fun x y => x || y) l.things n.things, l.asked, l.til⟩, n, 0))
  else if n.kind = 2 then (if 0 < (setop (fun x y => x && !y) n.things l.things).length then (l, noNote, 6) else if 0 < (setop (fun x y => x && y) n.things l.asked).length then (l, noNote, 7) else (⟨l.things, setop (fun x y => x || y) l.asked n.things, l.til⟩, n, 0))
  else (if n.til ≤ l.til then (l, noNote, 6) else (⟨l.things, l.asked, n.til⟩, n, 0)) := by
  obtain ⟨h1, h2, h3, h4⟩ := lopen_ok h
  rw [lend, if_neg (by simp [h1, h2, h3]), if_neg h4]
theorem lend_past {l : Loan} {n : Note} {now : Int} (h1 : ¬ (lright l && tm now && lmay n) = false) (h2 : ¬ l.til ≤ now) : lend l n now = if n.kind = 1 then (if 0 < (setop (fun x y => x && y) l.things n.things).length then (l, noNote, 7) else (⟨setop (fun x y => x || y) l.things n.things, l.asked, l.til⟩, n, 0))
  else if n.kind = 2 then (if 0 < (setop (fun x y => x && !y) n.things l.things).length then (l, noNote, 6) else if 0 < (setop (fun x y => x && y) n.things l.asked).length then (l, noNote, 7) else (⟨l.things, setop (fun x y => x || y) l.asked n.things, l.til⟩, n, 0))
  else (if n.til ≤ l.til then (l, noNote, 6) else (⟨l.things, l.asked, n.til⟩, n, 0)) := by
  rw [lend, if_neg h1, if_neg h2]
theorem lmay1 (t : List Int) : lmay ⟨1, t, 0⟩ = (decide (0 < t.length) && sok t) := by simp [lmay]
theorem lmay2 (t : List Int) : lmay ⟨2, t, 0⟩ = (decide (0 < t.length) && sok t) := by simp [lmay]
theorem lmay4 (u : Int) : lmay ⟨4, [], u⟩ = tm u := by simp [lmay]
theorem sapart_op {a b : List Int} (ha : sok a = true) (hb : sok b = true) : sapart a b = decide ((setop (fun x y => x && y) a b).length = 0) := by
  simp [sapart, setop, ha, hb, List.length_eq_zero_iff]
theorem spart_op {a b : List Int} (ha : sok a = true) (hb : sok b = true) : spart a b = decide ((setop (fun x y => x && !y) a b).length = 0) := by
  simp [spart, setop, ha, hb, List.length_eq_zero_iff]
theorem lright_sok {l : Loan} (h : lright l = true) : sok l.things = true ∧ sok l.asked = true := by
  rw [lright_ref] at h; simp at h; exact ⟨h.1.1.1, h.1.1.2⟩
set_option maxHeartbeats 0 in
theorem lease_Give (l : Loan) (hl : Small l) (things : List Int) (hn : things.length ≤ 1000000) (now : Int) (H : Heap) : ACT Tryd.prog KD 16 [.agg (eLoan l), .pl (things.map eInt), .int .i64 now] H (Ret (.tup [.agg (eLoan (lend l ⟨1, things, 0⟩ now).1), .agg (eNote (lend l ⟨1, things, 0⟩ now).2.1), .int .i64 (lend l ⟨1, things, 0⟩ now).2.2]) H) := by
  have hopen := @lend_open l ⟨1, things, 0⟩ now
  have hdone := @lend_ok l ⟨1, things, 0⟩ now
  have hlo := fun h => @lopen_ok l now (decide (0 < things.length) && sok things) h
  rw [lmay1] at hopen hdone
  have co := fun H => lease_open l hl now (decide (0 < things.length) && sok things) H
  generalize lopen l now (decide (0 < things.length) && sok things) = e at hopen hdone hlo co
  refine ACT.body (N := 40) [.cell 6 24, .cell 7 26, .tmp 8] Tryd.func16 rfl rfl rfl (Nat.le_of_ble_eq_true rfl) fun B hB => ?_
  repeat (refine aw_seq ?_)
  refine aw_region ?_
  refine ao2 (by rintro _ ⟨⟩; decide) (o_boxL (sz := 3) (v := .agg _) rfl rfl rfl rfl (by decide) rfl) ?_
  refine ao2 (by rintro _ ⟨⟩; decide) (o_allocL (sz := 3) rfl (by decide) rfl) ?_
  refine ao2 (by rintro _ ⟨⟩; decide) (o_allocL (sz := 3) rfl (by decide) rfl) ?_
  refine ao1 (by decide) (o_assign (v := .int _ _) rfl) ?_
  refine ao_nil ?_
  try dsimp only [List.length_nil, put, AV.cells, List.nil_append, List.length_cons, Nat.reduceAdd, List.cons_append]
  repeat (first | refine then_nrm ?_ | refine aw_seq ?_)
  refine aw_region ?_
  refine ao1 (by decide) (w_loadR rfl (lk rfl rfl) rfl rfl rfl) ?_
  refine ao_ret (lease_copied l hl _) rfl (by decide) ?_
  refine ao2 (by rintro _ ⟨⟩) (w_storeW (sz := 3) rfl rfl rfl rfl rfl rfl rfl rfl (Nat.le_of_ble_eq_true rfl)) ?_
  refine ao_nil ?_
  try dsimp only [put, List.set_cons_zero]
  repeat (first | refine then_nrm ?_ | refine aw_seq ?_)
  refine aw_drawP mixed none 999 ?_
  try dsimp only [List.take_succ_cons]
  refine aqp 0 rfl (by decide +kernel) (by decide) (fun G => w_loadR rfl (lk rfl rfl) rfl rfl rfl) ?_
  refine aq0 1 rfl (by decide +kernel) (by decide) (fun _ => o_move (v := .int _ _) rfl) ?_
  refine aq0 2 rfl (by decide +kernel) (by decide) (fun _ => o_move (v := .pl _) rfl) ?_
  refine aq02 3 rfl (by decide +kernel) (by decide) (fun _ => V2.call (lease_some things hn _) rfl) ?_
  refine aq02 4 rfl (by decide +kernel) (by decide) (fun _ => V2.call (co _) rfl) ?_
  refine aq0 5 rfl (by decide +kernel) (by decide) (fun _ => o_assign (v := .int _ _) rfl) ?_
  refine aa_done (by decide +kernel) (by exact fun _ => ⟨_, rfl⟩) ?_
  repeat (first | refine then_nrm ?_ | refine aw_seq ?_)
  refine aw_out 25 (.bool (decide (e = 0) && !sapart l.things things)) ?_ ?_
  · refine ao1 (by decide) (o_move (v := .int _ _) rfl) ?_
    refine ao1 (by decide) (o_eq rfl rfl) ?_
    refine ao1 (by decide) (o_move (v := .bool _) rfl) ?_
    refine ao_split rfl rfl (fun hg2 => ?_) (fun hg2 => ?_)
    · refine ao_y1 rfl rfl (by decide) (w_fieldAddr rfl (lk rfl rfl) rfl (by decide)) ?_
      refine ao_y1 rfl rfl (by decide) (w_load1 (v := .pl _) rfl (lk rfl rfl) rfl rfl rfl) ?_
      refine ao_y1 rfl rfl (by decide) (o_move (v := .pl _) rfl) ?_
      refine ao_y rfl rfl (by decide) (V2.call (set_Apart l.things things hl.1 hn _) rfl) ?_
      refine ao_y1 rfl rfl (by decide) (o_not rfl) ?_
      refine ao1 (by decide) (o_pick_t (v := .bool _) rfl rfl) ?_
      exact ao_nil (Out.mk (by (refine congrArg AV.bool ?_; (clear hopen hdone hlo co; (simp_all; done)))) (by repeat (first | exact SubX.refl _ _ | refine SubX.at ?_ | refine SubX.put rfl ?_)))
    · refine ao_nT rfl rfl (by decide) ?_
      refine ao_nT rfl rfl (by decide) ?_
      refine ao_nT rfl rfl (by decide) ?_
      refine ao_nT rfl rfl (by decide) ?_
      refine ao_nT rfl rfl (by decide) ?_
      refine ao1 (by decide) (o_pick_f (v := .bool _) rfl rfl) ?_
      exact ao_nil (Out.mk (by (refine congrArg AV.bool ?_; (clear hopen hdone hlo co; (simp_all; done)))) (by repeat (first | exact SubX.refl _ _ | refine SubX.at ?_ | refine SubX.put rfl ?_)))
  repeat (refine then_nrm ?_)
  refine aw_cond rfl (fun hc => ?_) (fun hc => ?_)
  · have h2 : e = 0 ∧ sapart l.things things = false := by simpa using hc
    obtain ⟨hr, _, hf, _⟩ := hlo h2.1
    simp at hf
    have hap := h2.2
    rw [sapart_op (lright_sok hr).1 hf.2] at hap
    rw [show lend l ⟨1, things, 0⟩ now = (l, noNote, 7) by rw [hdone h2.1, if_pos rfl, if_pos (by have := of_decide_eq_false hap; show 0 < (setop _ l.things things).length; omega)]]
    refine aw_region ?_
    refine ao1 (by decide) (o_assign (v := .int _ _) rfl) ?_
    refine ao_nil ?_
    try dsimp only
    repeat (first | refine then_nrm ?_ | refine aw_seq ?_)
    refine aw_region ?_
    refine ao1 (by decide) (o_move (v := .int _ _) rfl) ?_
    refine ao1 (by decide) (o_ne rfl rfl) ?_
    refine ao_nil ?_
    repeat (refine then_nrm ?_)
    refine aw_cond rfl (fun hc => ?_) (fun hc => ?_)
    · repeat (refine aw_seq ?_)
      refine aw_region ?_
      refine ao1 (by decide) (w_loadR rfl (lk rfl rfl) rfl rfl rfl) ?_
      refine ao1 (by decide) (V1.up (o_build (cs := [.int _ _, _, .int _ _]) rfl)) ?_
      refine ao1 (by decide) (o_move (v := .int _ _) rfl) ?_
      refine ao2 (by rintro _ ⟨⟩) (w_storeW (sz := 3) rfl rfl rfl rfl rfl rfl rfl rfl (Nat.le_of_ble_eq_true rfl)) ?_
      refine ao2 (by rintro _ ⟨⟩) (w_storeW (sz := 3) rfl rfl rfl rfl rfl rfl rfl rfl (Nat.le_of_ble_eq_true rfl)) ?_
      refine ao1 (by decide) (o_assign (v := .int _ _) rfl) ?_
      refine ao_nil ?_
      try dsimp only [AV.up, put, List.set_cons_zero, List.set_cons_succ]
      repeat (first | refine then_nrm ?_ | refine then_ret ?_ | refine aw_ret ?_)
      exact e_done hB (r_cellR rfl (lk rfl rfl) rfl rfl rfl (r_cellR rfl (lk rfl rfl) rfl rfl rfl (r_tmp rfl .nil))) rfl rfl
    · simp at hc
  · have h2 : e = 0 → sapart l.things things = true := by intro h; rw [h] at hc; simpa using hc
    repeat (first | refine then_nrm ?_ | refine aw_seq ?_ | refine aw_skip ?_)
    refine aw_region ?_
    refine ao1 (by decide) (o_move (v := .int _ _) rfl) ?_
    refine ao1 (by decide) (o_ne rfl rfl) ?_
    refine ao_nil ?_
    repeat (refine then_nrm ?_)
    refine aw_cond rfl (fun hc => ?_) (fun hc => ?_)
    · have h3 : e ≠ 0 := by simpa using hc
      rw [hopen h3]
      repeat (refine aw_seq ?_)
      refine aw_region ?_
      refine ao1 (by decide) (w_loadR rfl (lk rfl rfl) rfl rfl rfl) ?_
      refine ao1 (by decide) (V1.up (o_build (cs := [.int _ _, _, .int _ _]) rfl)) ?_
      refine ao1 (by decide) (o_move (v := .int _ _) rfl) ?_
      refine ao2 (by rintro _ ⟨⟩) (w_storeW (sz := 3) rfl rfl rfl rfl rfl rfl rfl rfl (Nat.le_of_ble_eq_true rfl)) ?_
      refine ao2 (by rintro _ ⟨⟩) (w_storeW (sz := 3) rfl rfl rfl rfl rfl rfl rfl rfl (Nat.le_of_ble_eq_true rfl)) ?_
      refine ao1 (by decide) (o_assign (v := .int _ _) rfl) ?_
      refine ao_nil ?_
      try dsimp only [AV.up, put, List.set_cons_zero, List.set_cons_succ]
      repeat (first | refine then_nrm ?_ | refine then_ret ?_ | refine aw_ret ?_)
      exact e_done hB (r_cellR rfl (lk rfl rfl) rfl rfl rfl (r_cellR rfl (lk rfl rfl) rfl rfl rfl (r_tmp rfl .nil))) rfl rfl
    · have h3 : e = 0 := by simpa using hc
      obtain ⟨hr, _, hf, _⟩ := hlo h3
      simp at hf
      have hap := h2 h3
      rw [sapart_op (lright_sok hr).1 hf.2] at hap
      rw [show lend l ⟨1, things, 0⟩ now = (⟨setop (fun x y => x || y) l.things things, l.asked, l.til⟩, ⟨1, things, 0⟩, 0) by rw [hdone h3, if_pos rfl, if_neg (by have := of_decide_eq_true hap; show ¬ 0 < (setop _ l.things things).length; omega)]]
      repeat (first | refine then_nrm ?_ | refine aw_seq ?_ | refine aw_skip ?_)
      refine aw_region ?_
      refine ao1 (by decide) (w_fieldAddr rfl (lk rfl rfl) rfl (by decide)) ?_
      refine ao1 (by decide) (w_load1 (v := .pl _) rfl (lk rfl rfl) rfl rfl rfl) ?_
      refine ao1 (by decide) (o_move (v := .pl _) rfl) ?_
      refine ao2 (by rintro _ ⟨⟩; decide) (V2.callT (set_Join l.things things hl.1 hn _) rfl rfl) ?_
      refine ao1 (by decide) (w_fieldAddr rfl (lk rfl rfl) rfl (by decide)) ?_
      refine ao2 (by rintro _ ⟨⟩) (w_storeP (sz := 1) (v := .pl _) (r' := [_, _, _]) rfl rfl rfl rfl rfl rfl rfl rfl (Nat.le_of_ble_eq_true rfl) rfl) ?_
      refine ao_nil ?_
      try dsimp only [put, Nat.reduceAdd, List.set_cons_zero]
      repeat (first | refine then_nrm ?_ | refine aw_seq ?_)
      refine aw_drawP mixed none 1 ?_
      try dsimp only [List.take_succ_cons, List.take_zero]
      refine aqp 0 rfl (by decide +kernel) (by decide) (fun G => w_loadR rfl (lk rfl rfl) rfl rfl rfl) ?_
      refine aq0 1 rfl (by decide +kernel) (by decide) (fun _ => o_move (v := .pl _) rfl) ?_
      refine aq02 2 rfl (by decide +kernel) (by decide) (fun _ => V2.call (slices_CloneI things _ hn) rfl) ?_
      refine aq0 3 rfl (by decide +kernel) (by decide) (fun _ => V1.up (o_build (cs := [.int _ _, _, .int _ _]) rfl)) ?_
      refine aqs 4 rfl (by decide +kernel) (by exact fun _ => ⟨_, rfl⟩) (by rintro _ ⟨⟩) (w_storeW (sz := 3) rfl rfl rfl rfl rfl rfl rfl rfl (Nat.le_of_ble_eq_true rfl)) ?_
      refine aqs 5 rfl (by decide +kernel) (by exact fun _ => ⟨_, rfl⟩) (by rintro _ ⟨⟩) (w_storeW (sz := 3) rfl rfl rfl rfl rfl rfl rfl rfl (Nat.le_of_ble_eq_true rfl)) ?_
      refine aq0 6 rfl (by decide +kernel) (by decide) (fun _ => o_assign (v := .int _ _) rfl) ?_
      refine aa_done (by decide +kernel) (by exact fun _ => ⟨_, rfl⟩) ?_
      try dsimp only [AV.up, put, List.set_cons_zero, List.set_cons_succ]
      all_goals
        repeat (first | refine then_nrm ?_ | refine aw_ret ?_)
        exact e_done hB (r_cellR rfl (lk rfl rfl) rfl rfl rfl (r_cellR rfl (lk rfl rfl) rfl rfl rfl (r_tmp rfl .nil))) rfl rfl
set_option maxHeartbeats 0 in
theorem lease_Ask (l : Loan) (hl : Small l) (things : List Int) (hn : things.length ≤ 1000000) (now : Int) (H : Heap) : ACT Tryd.prog KD 17 [.agg (eLoan l), .pl (things.map eInt), .int .i64 now] H (Ret (.tup [.agg (eLoan (lend l ⟨2, things, 0⟩ now).1), .agg (eNote (lend l ⟨2, things, 0⟩ now).2.1), .int .i64 (lend l ⟨2, things, 0⟩ now).2.2]) H) := by
  have hopen := @lend_open l ⟨2, things, 0⟩ now
  have hdone := @lend_ok l ⟨2, things, 0⟩ now
  have hlo := fun h => @lopen_ok l now (decide (0 < things.length) && sok things) h
  rw [lmay2] at hopen hdone
  have co := fun H => lease_open l hl now (decide (0 < things.length) && sok things) H
  generalize lopen l now (decide (0 < things.length) && sok things) = e at hopen hdone hlo co
  refine ACT.body (N := 51) [.cell 6 24, .cell 7 26, .tmp 8] Tryd.func17 rfl rfl rfl (Nat.le_of_ble_eq_true rfl) fun B hB => ?_
  repeat (refine aw_seq ?_)
  refine aw_region ?_
  refine ao2 (by rintro _ ⟨⟩; decide) (o_boxL (sz := 3) (v := .agg _) rfl rfl rfl rfl (by decide) rfl) ?_
  refine ao2 (by rintro _ ⟨⟩; decide) (o_allocL (sz := 3) rfl (by decide) rfl) ?_
  refine ao2 (by rintro _ ⟨⟩; decide) (o_allocL (sz := 3) rfl (by decide) rfl) ?_
  refine ao1 (by decide) (o_assign (v := .int _ _) rfl) ?_
  refine ao_nil ?_
  try dsimp only [List.length_nil, put, AV.cells, List.nil_append, List.length_cons, Nat.reduceAdd, List.cons_append]
  repeat (first | refine then_nrm ?_ | refine aw_seq ?_)
  refine aw_region ?_
  refine ao1 (by decide) (w_loadR rfl (lk rfl rfl) rfl rfl rfl) ?_
  refine ao_ret (lease_copied l hl _) rfl (by decide) ?_
  refine ao2 (by rintro _ ⟨⟩) (w_storeW (sz := 3) rfl rfl rfl rfl rfl rfl rfl rfl (Nat.le_of_ble_eq_true rfl)) ?_
  refine ao_nil ?_
  try dsimp only [put, List.set_cons_zero]
  repeat (first | refine then_nrm ?_ | refine aw_seq ?_)
  refine aw_drawP mixed none 999 ?_
  try dsimp only [List.take_succ_cons]
  refine aqp 0 rfl (by decide +kernel) (by decide) (fun G => w_loadR rfl (lk rfl rfl) rfl rfl rfl) ?_
  refine aq0 1 rfl (by decide +kernel) (by decide) (fun _ => o_move (v := .int _ _) rfl) ?_
  refine aq0 2 rfl (by decide +kernel) (by decide) (fun _ => o_move (v := .pl _) rfl) ?_
  refine aq02 3 rfl (by decide +kernel) (by decide) (fun _ => V2.call (lease_some things hn _) rfl) ?_
  refine aq02 4 rfl (by decide +kernel) (by decide) (fun _ => V2.call (co _) rfl) ?_
  refine aq0 5 rfl (by decide +kernel) (by decide) (fun _ => o_assign (v := .int _ _) rfl) ?_
  refine aa_done (by decide +kernel) (by exact fun _ => ⟨_, rfl⟩) ?_
  repeat (first | refine then_nrm ?_ | refine aw_seq ?_ | refine aw_block ?_)
  refine aw_out 17 (.bool (decide (e = 0) && !spart things l.things)) ?_ ?_
  · refine ao1 (by decide) (o_move (v := .int _ _) rfl) ?_
    refine ao1 (by decide) (o_eq rfl rfl) ?_
    refine ao1 (by decide) (o_move (v := .bool _) rfl) ?_
    refine ao_split rfl rfl (fun hg2 => ?_) (fun hg2 => ?_)
    · refine ao_y1 rfl rfl (by decide) (o_move (v := .pl _) rfl) ?_
      refine ao_y1 rfl rfl (by decide) (w_fieldAddr rfl (lk rfl rfl) rfl (by decide)) ?_
      refine ao_y1 rfl rfl (by decide) (w_load1 (v := .pl _) rfl (lk rfl rfl) rfl rfl rfl) ?_
      refine ao_y rfl rfl (by decide) (V2.call (set_Part things l.things hn hl.1 _) rfl) ?_
      refine ao_y1 rfl rfl (by decide) (o_not rfl) ?_
      refine ao1 (by decide) (o_pick_t (v := .bool _) rfl rfl) ?_
      refine ao1 (by decide) (o_assign (v := .bool _) rfl) ?_
      exact ao_nil (Out.mk (by (refine congrArg AV.bool ?_; (clear hopen hdone hlo co; (simp_all; done)))) (by repeat (first | exact SubX.refl _ _ | refine SubX.at ?_ | refine SubX.put rfl ?_)))
    · refine ao_nT rfl rfl (by decide) ?_
      refine ao_nT rfl rfl (by decide) ?_
      refine ao_nT rfl rfl (by decide) ?_
      refine ao_nT rfl rfl (by decide) ?_
      refine ao_nT rfl rfl (by decide) ?_
      refine ao1 (by decide) (o_pick_f (v := .bool _) rfl rfl) ?_
      refine ao1 (by decide) (o_assign (v := .bool _) rfl) ?_
      exact ao_nil (Out.mk (by (refine congrArg AV.bool ?_; (clear hopen hdone hlo co; (simp_all; done)))) (by repeat (first | exact SubX.refl _ _ | refine SubX.at ?_ | refine SubX.put rfl ?_)))
  repeat (refine then_nrm ?_)
  refine aw_cond rfl (fun hc => ?_) (fun hc => ?_)
  · have h2 : e = 0 ∧ spart things l.things = false := by simpa using hc
    obtain ⟨hr, _, hf, _⟩ := hlo h2.1
    simp at hf
    have hap := h2.2
    rw [spart_op hf.2 (lright_sok hr).1] at hap
    rw [show lend l ⟨2, things, 0⟩ now = (l, noNote, 6) by rw [hdone h2.1, if_neg (by simp), if_pos rfl, if_pos (by have := of_decide_eq_false hap; show 0 < (setop _ things l.things).length; omega)]]
    refine aw_region ?_
    refine ao1 (by decide) (o_assign (v := .int _ _) rfl) ?_
    refine ao_nil ?_
    try dsimp only
    repeat (first | refine then_nrm ?_ | refine blk_nrm ?_ | refine aw_seq ?_)
    refine aw_region ?_
    refine ao1 (by decide) (o_move (v := .int _ _) rfl) ?_
    refine ao1 (by decide) (o_ne rfl rfl) ?_
    refine ao_nil ?_
    repeat (refine then_nrm ?_)
    refine aw_cond rfl (fun hc => ?_) (fun hc => ?_)
    · repeat (refine aw_seq ?_)
      refine aw_region ?_
      refine ao1 (by decide) (w_loadR rfl (lk rfl rfl) rfl rfl rfl) ?_
      refine ao1 (by decide) (V1.up (o_build (cs := [.int _ _, _, .int _ _]) rfl)) ?_
      refine ao1 (by decide) (o_move (v := .int _ _) rfl) ?_
      refine ao2 (by rintro _ ⟨⟩) (w_storeW (sz := 3) rfl rfl rfl rfl rfl rfl rfl rfl (Nat.le_of_ble_eq_true rfl)) ?_
      refine ao2 (by rintro _ ⟨⟩) (w_storeW (sz := 3) rfl rfl rfl rfl rfl rfl rfl rfl (Nat.le_of_ble_eq_true rfl)) ?_
      refine ao1 (by decide) (o_assign (v := .int _ _) rfl) ?_
      refine ao_nil ?_
      try dsimp only [AV.up, put, List.set_cons_zero, List.set_cons_succ]
      repeat (first | refine then_nrm ?_ | refine then_ret ?_ | refine aw_ret ?_)
      exact e_done hB (r_cellR rfl (lk rfl rfl) rfl rfl rfl (r_cellR rfl (lk rfl rfl) rfl rfl rfl (r_tmp rfl .nil))) rfl rfl
    · simp at hc
  · have h1 : e = 0 → spart things l.things = true := by intro h; rw [h] at hc; simpa using hc
    repeat (refine aw_seq ?_)
    refine aw_out 27 (.bool (decide (e = 0) && !sapart things l.asked)) ?_ ?_
    · refine ao1 (by decide) (o_move (v := .int _ _) rfl) ?_
      refine ao1 (by decide) (o_eq rfl rfl) ?_
      refine ao1 (by decide) (o_move (v := .bool _) rfl) ?_
      refine ao_split rfl rfl (fun hg2 => ?_) (fun hg2 => ?_)
      · refine ao_y1 rfl rfl (by decide) (o_move (v := .pl _) rfl) ?_
        refine ao_y1 rfl rfl (by decide) (w_fieldAddr rfl (lk rfl rfl) rfl (by decide)) ?_
        refine ao_y1 rfl rfl (by decide) (w_load1 (v := .pl _) rfl (lk rfl rfl) rfl rfl rfl) ?_
        refine ao_y rfl rfl (by decide) (V2.call (set_Apart things l.asked hn hl.2 _) rfl) ?_
        refine ao_y1 rfl rfl (by decide) (o_not rfl) ?_
        refine ao1 (by decide) (o_pick_t (v := .bool _) rfl rfl) ?_
        refine ao1 (by decide) (o_assign (v := .bool _) rfl) ?_
        exact ao_nil (Out.mk (by (refine congrArg AV.bool ?_; (clear hopen hdone hlo co; (simp_all; done)))) (by repeat (first | exact SubX.refl _ _ | refine SubX.at ?_ | refine SubX.put rfl ?_)))
      · refine ao_nT rfl rfl (by decide) ?_
        refine ao_nT rfl rfl (by decide) ?_
        refine ao_nT rfl rfl (by decide) ?_
        refine ao_nT rfl rfl (by decide) ?_
        refine ao_nT rfl rfl (by decide) ?_
        refine ao1 (by decide) (o_pick_f (v := .bool _) rfl rfl) ?_
        refine ao1 (by decide) (o_assign (v := .bool _) rfl) ?_
        exact ao_nil (Out.mk (by (refine congrArg AV.bool ?_; (clear hopen hdone hlo co; (simp_all; done)))) (by repeat (first | exact SubX.refl _ _ | refine SubX.at ?_ | refine SubX.put rfl ?_)))
    repeat (refine then_nrm ?_)
    refine aw_cond rfl (fun hc => ?_) (fun hc => ?_)
    · have h2 : e = 0 ∧ sapart things l.asked = false := by simpa using hc
      obtain ⟨hr, _, hf, _⟩ := hlo h2.1
      simp at hf
      have hap := h2.2
      have hp := h1 h2.1
      rw [sapart_op hf.2 (lright_sok hr).2] at hap
      rw [spart_op hf.2 (lright_sok hr).1] at hp
      rw [show lend l ⟨2, things, 0⟩ now = (l, noNote, 7) by rw [hdone h2.1, if_neg (by simp), if_pos rfl, if_neg (by have := of_decide_eq_true hp; show ¬ 0 < (setop _ things l.things).length; omega), if_pos (by have := of_decide_eq_false hap; show 0 < (setop _ things l.asked).length; omega)]]
      refine aw_region ?_
      refine ao1 (by decide) (o_assign (v := .int _ _) rfl) ?_
      refine ao_nil ?_
      try dsimp only
      repeat (first | refine then_nrm ?_ | refine blk_nrm ?_ | refine aw_seq ?_)
      refine aw_region ?_
      refine ao1 (by decide) (o_move (v := .int _ _) rfl) ?_
      refine ao1 (by decide) (o_ne rfl rfl) ?_
      refine ao_nil ?_
      repeat (refine then_nrm ?_)
      refine aw_cond rfl (fun hc => ?_) (fun hc => ?_)
      · repeat (refine aw_seq ?_)
        refine aw_region ?_
        refine ao1 (by decide) (w_loadR rfl (lk rfl rfl) rfl rfl rfl) ?_
        refine ao1 (by decide) (V1.up (o_build (cs := [.int _ _, _, .int _ _]) rfl)) ?_
        refine ao1 (by decide) (o_move (v := .int _ _) rfl) ?_
        refine ao2 (by rintro _ ⟨⟩) (w_storeW (sz := 3) rfl rfl rfl rfl rfl rfl rfl rfl (Nat.le_of_ble_eq_true rfl)) ?_
        refine ao2 (by rintro _ ⟨⟩) (w_storeW (sz := 3) rfl rfl rfl rfl rfl rfl rfl rfl (Nat.le_of_ble_eq_true rfl)) ?_
        refine ao1 (by decide) (o_assign (v := .int _ _) rfl) ?_
        refine ao_nil ?_
        try dsimp only [AV.up, put, List.set_cons_zero, List.set_cons_succ]
        repeat (first | refine then_nrm ?_ | refine then_ret ?_ | refine aw_ret ?_)
        exact e_done hB (r_cellR rfl (lk rfl rfl) rfl rfl rfl (r_cellR rfl (lk rfl rfl) rfl rfl rfl (r_tmp rfl .nil))) rfl rfl
      · simp at hc
    · have h2 : e = 0 → sapart things l.asked = true := by intro h; rw [h] at hc; simpa using hc
      repeat (first | refine then_nrm ?_ | refine blk_nrm ?_ | refine aw_seq ?_ | refine aw_skip ?_)
      refine aw_region ?_
      refine ao1 (by decide) (o_move (v := .int _ _) rfl) ?_
      refine ao1 (by decide) (o_ne rfl rfl) ?_
      refine ao_nil ?_
      repeat (refine then_nrm ?_)
      refine aw_cond rfl (fun hc => ?_) (fun hc => ?_)
      · have h3 : e ≠ 0 := by simpa using hc
        rw [hopen h3]
        repeat (refine aw_seq ?_)
        refine aw_region ?_
        refine ao1 (by decide) (w_loadR rfl (lk rfl rfl) rfl rfl rfl) ?_
        refine ao1 (by decide) (V1.up (o_build (cs := [.int _ _, _, .int _ _]) rfl)) ?_
        refine ao1 (by decide) (o_move (v := .int _ _) rfl) ?_
        refine ao2 (by rintro _ ⟨⟩) (w_storeW (sz := 3) rfl rfl rfl rfl rfl rfl rfl rfl (Nat.le_of_ble_eq_true rfl)) ?_
        refine ao2 (by rintro _ ⟨⟩) (w_storeW (sz := 3) rfl rfl rfl rfl rfl rfl rfl rfl (Nat.le_of_ble_eq_true rfl)) ?_
        refine ao1 (by decide) (o_assign (v := .int _ _) rfl) ?_
        refine ao_nil ?_
        try dsimp only [AV.up, put, List.set_cons_zero, List.set_cons_succ]
        repeat (first | refine then_nrm ?_ | refine then_ret ?_ | refine aw_ret ?_)
        exact e_done hB (r_cellR rfl (lk rfl rfl) rfl rfl rfl (r_cellR rfl (lk rfl rfl) rfl rfl rfl (r_tmp rfl .nil))) rfl rfl
      · have h3 : e = 0 := by simpa using hc
        obtain ⟨hr, _, hf, _⟩ := hlo h3
        simp at hf
        have hap := h2 h3
        have hp := h1 h3
        rw [sapart_op hf.2 (lright_sok hr).2] at hap
        rw [spart_op hf.2 (lright_sok hr).1] at hp
        rw [show lend l ⟨2, things, 0⟩ now = (⟨l.things, setop (fun x y => x || y) l.asked things, l.til⟩, ⟨2, things, 0⟩, 0) by rw [hdone h3, if_neg (by simp), if_pos rfl, if_neg (by have := of_decide_eq_true hp; show ¬ 0 < (setop _ things l.things).length; omega), if_neg (by have := of_decide_eq_true hap; show ¬ 0 < (setop _ things l.asked).length; omega)]]
        repeat (first | refine then_nrm ?_ | refine aw_seq ?_ | refine aw_skip ?_)
        refine aw_region ?_
        refine ao1 (by decide) (w_fieldAddr rfl (lk rfl rfl) rfl (by decide)) ?_
        refine ao1 (by decide) (w_load1 (v := .pl _) rfl (lk rfl rfl) rfl rfl rfl) ?_
        refine ao1 (by decide) (o_move (v := .pl _) rfl) ?_
        refine ao2 (by rintro _ ⟨⟩; decide) (V2.callT (set_Join l.asked things hl.2 hn _) rfl rfl) ?_
        refine ao1 (by decide) (w_fieldAddr rfl (lk rfl rfl) rfl (by decide)) ?_
        refine ao2 (by rintro _ ⟨⟩) (w_storeP (sz := 1) (v := .pl _) (r' := [_, _, _]) rfl rfl rfl rfl rfl rfl rfl rfl (Nat.le_of_ble_eq_true rfl) rfl) ?_
        refine ao_nil ?_
        try dsimp only [put, Nat.reduceAdd, List.set_cons_zero]
        repeat (first | refine then_nrm ?_ | refine aw_seq ?_)
        refine aw_drawP mixed none 1 ?_
        try dsimp only [List.take_succ_cons, List.take_zero]
        refine aqp 0 rfl (by decide +kernel) (by decide) (fun G => w_loadR rfl (lk rfl rfl) rfl rfl rfl) ?_
        refine aq0 1 rfl (by decide +kernel) (by decide) (fun _ => o_move (v := .pl _) rfl) ?_
        refine aq02 2 rfl (by decide +kernel) (by decide) (fun _ => V2.call (slices_CloneI things _ hn) rfl) ?_
        refine aq0 3 rfl (by decide +kernel) (by decide) (fun _ => V1.up (o_build (cs := [.int _ _, _, .int _ _]) rfl)) ?_
        refine aqs 4 rfl (by decide +kernel) (by exact fun _ => ⟨_, rfl⟩) (by rintro _ ⟨⟩) (w_storeW (sz := 3) rfl rfl rfl rfl rfl rfl rfl rfl (Nat.le_of_ble_eq_true rfl)) ?_
        refine aqs 5 rfl (by decide +kernel) (by exact fun _ => ⟨_, rfl⟩) (by rintro _ ⟨⟩) (w_storeW (sz := 3) rfl rfl rfl rfl rfl rfl rfl rfl (Nat.le_of_ble_eq_true rfl)) ?_
        refine aq0 6 rfl (by decide +kernel) (by decide) (fun _ => o_assign (v := .int _ _) rfl) ?_
        refine aa_done (by decide +kernel) (by exact fun _ => ⟨_, rfl⟩) ?_
        try dsimp only [AV.up, put, List.set_cons_zero, List.set_cons_succ]
        all_goals
          repeat (first | refine then_nrm ?_ | refine aw_ret ?_)
          exact e_done hB (r_cellR rfl (lk rfl rfl) rfl rfl rfl (r_cellR rfl (lk rfl rfl) rfl rfl rfl (r_tmp rfl .nil))) rfl rfl
set_option maxHeartbeats 0 in
theorem lease_Till (l : Loan) (hl : Small l) (u now : Int) (H : Heap) : AC Tryd.prog 20 [.agg (eLoan l), .int .i64 u, .int .i64 now] H (Ret (.tup [.agg (eLoan (lend l ⟨4, [], u⟩ now).1), .agg (eNote (lend l ⟨4, [], u⟩ now).2.1), .int .i64 (lend l ⟨4, [], u⟩ now).2.2]) H) := by
  have hopen := @lend_open l ⟨4, [], u⟩ now
  have hdone := @lend_ok l ⟨4, [], u⟩ now
  rw [lmay4] at hopen hdone
  have co := fun H => lease_open l hl now (tm u) H
  generalize lopen l now (tm u) = e at hopen hdone co
  refine AC.body (N := 35) [.cell 6 24, .cell 7 26, .tmp 8] Tryd.func20 rfl rfl rfl (Nat.le_of_ble_eq_true rfl) fun B hB => ?_
  repeat (refine aw_seq ?_)
  refine aw_region ?_
  refine ao2 (by rintro _ ⟨⟩; decide) (o_boxL (sz := 3) (v := .agg _) rfl rfl rfl rfl (by decide) rfl) ?_
  refine ao2 (by rintro _ ⟨⟩; decide) (o_allocL (sz := 3) rfl (by decide) rfl) ?_
  refine ao2 (by rintro _ ⟨⟩; decide) (o_allocL (sz := 3) rfl (by decide) rfl) ?_
  refine ao1 (by decide) (o_assign (v := .int _ _) rfl) ?_
  refine ao_nil ?_
  try dsimp only [List.length_nil, put, AV.cells, List.nil_append, List.length_cons, Nat.reduceAdd, List.cons_append]
  repeat (first | refine then_nrm ?_ | refine aw_seq ?_)
  refine aw_region ?_
  refine ao1 (by decide) (w_loadR rfl (lk rfl rfl) rfl rfl rfl) ?_
  refine ao_ret (lease_copied l hl _) rfl (by decide) ?_
  refine ao2 (by rintro _ ⟨⟩) (w_storeW (sz := 3) rfl rfl rfl rfl rfl rfl rfl rfl (Nat.le_of_ble_eq_true rfl)) ?_
  refine ao_nil ?_
  try dsimp only [put, List.set_cons_zero]
  repeat (first | refine then_nrm ?_ | refine aw_seq ?_)
  refine aw_drawP mixed none 999 ?_
  try dsimp only [List.take_succ_cons]
  refine aqp 0 rfl (by decide +kernel) (by decide) (fun G => w_loadR rfl (lk rfl rfl) rfl rfl rfl) ?_
  refine aq0 1 rfl (by decide +kernel) (by decide) (fun _ => o_move (v := .int _ _) rfl) ?_
  refine aq0 2 rfl (by decide +kernel) (by decide) (fun _ => o_move (v := .int _ _) rfl) ?_
  refine aq02 3 rfl (by decide +kernel) (by decide) (fun _ => V2.call (when_RightT _ _) rfl) ?_
  refine aq02 4 rfl (by decide +kernel) (by decide) (fun _ => V2.call (co _) rfl) ?_
  refine aq0 5 rfl (by decide +kernel) (by decide) (fun _ => o_assign (v := .int _ _) rfl) ?_
  refine aa_done (by decide +kernel) (by exact fun _ => ⟨_, rfl⟩) ?_
  repeat (first | refine then_nrm ?_ | refine aw_seq ?_)
  refine aw_out 24 (.bool (decide (e = 0) && decide (u ≤ l.til))) ?_ ?_
  · refine ao1 (by decide) (o_move (v := .int _ _) rfl) ?_
    refine ao1 (by decide) (o_eq rfl rfl) ?_
    refine ao1 (by decide) (o_move (v := .bool _) rfl) ?_
    refine ao_split rfl rfl (fun hg2 => ?_) (fun hg2 => ?_)
    · refine ao_y1 rfl rfl (by decide) (o_move (v := .int _ _) rfl) ?_
      refine ao_y1 rfl rfl (by decide) (w_fieldAddr rfl (lk rfl rfl) rfl (by decide)) ?_
      refine ao_y1 rfl rfl (by decide) (w_load1 (v := .int _ _) rfl (lk rfl rfl) rfl rfl rfl) ?_
      refine ao_y1 rfl rfl (by decide) (o_le rfl rfl) ?_
      refine ao1 (by decide) (o_pick_t (v := .bool _) rfl rfl) ?_
      exact ao_nil (Out.mk (by (refine congrArg AV.bool ?_; (clear hopen hdone co; (simp_all; done)))) (by repeat (first | exact SubX.refl _ _ | refine SubX.at ?_ | refine SubX.put rfl ?_)))
    · refine ao_nT rfl rfl (by decide) ?_
      refine ao_nT rfl rfl (by decide) ?_
      refine ao_nT rfl rfl (by decide) ?_
      refine ao_nT rfl rfl (by decide) ?_
      refine ao1 (by decide) (o_pick_f (v := .bool _) rfl rfl) ?_
      exact ao_nil (Out.mk (by (refine congrArg AV.bool ?_; (clear hopen hdone co; (simp_all; done)))) (by repeat (first | exact SubX.refl _ _ | refine SubX.at ?_ | refine SubX.put rfl ?_)))
  repeat (refine then_nrm ?_)
  refine aw_cond rfl (fun hc => ?_) (fun hc => ?_)
  · have h2 : e = 0 ∧ u ≤ l.til := by simpa using hc
    rw [show lend l ⟨4, [], u⟩ now = (l, noNote, 6) by rw [hdone h2.1, if_neg (by simp), if_neg (by simp), if_pos h2.2]]
    refine aw_region ?_
    refine ao1 (by decide) (o_assign (v := .int _ _) rfl) ?_
    refine ao_nil ?_
    try dsimp only
    repeat (first | refine then_nrm ?_ | refine aw_seq ?_)
    refine aw_region ?_
    refine ao1 (by decide) (o_move (v := .int _ _) rfl) ?_
    refine ao1 (by decide) (o_ne rfl rfl) ?_
    refine ao_nil ?_
    repeat (refine then_nrm ?_)
    refine aw_cond rfl (fun hc => ?_) (fun hc => ?_)
    · repeat (refine aw_seq ?_)
      refine aw_region ?_
      refine ao1 (by decide) (w_loadR rfl (lk rfl rfl) rfl rfl rfl) ?_
      refine ao1 (by decide) (V1.up (o_build (cs := [.int _ _, _, .int _ _]) rfl)) ?_
      refine ao1 (by decide) (o_move (v := .int _ _) rfl) ?_
      refine ao2 (by rintro _ ⟨⟩) (w_storeW (sz := 3) rfl rfl rfl rfl rfl rfl rfl rfl (Nat.le_of_ble_eq_true rfl)) ?_
      refine ao2 (by rintro _ ⟨⟩) (w_storeW (sz := 3) rfl rfl rfl rfl rfl rfl rfl rfl (Nat.le_of_ble_eq_true rfl)) ?_
      refine ao1 (by decide) (o_assign (v := .int _ _) rfl) ?_
      refine ao_nil ?_
      try dsimp only [AV.up, put, List.set_cons_zero, List.set_cons_succ]
      repeat (first | refine then_nrm ?_ | refine then_ret ?_ | refine aw_ret ?_)
      exact e_done hB (r_cellR rfl (lk rfl rfl) rfl rfl rfl (r_cellR rfl (lk rfl rfl) rfl rfl rfl (r_tmp rfl .nil))) rfl rfl
    · simp at hc
  · have h2 : e = 0 → ¬ u ≤ l.til := by intro h; rw [h] at hc; simpa using hc
    repeat (first | refine then_nrm ?_ | refine aw_seq ?_ | refine aw_skip ?_)
    refine aw_region ?_
    refine ao1 (by decide) (o_move (v := .int _ _) rfl) ?_
    refine ao1 (by decide) (o_ne rfl rfl) ?_
    refine ao_nil ?_
    repeat (refine then_nrm ?_)
    refine aw_cond rfl (fun hc => ?_) (fun hc => ?_)
    · have h3 : e ≠ 0 := by simpa using hc
      rw [hopen h3]
      repeat (refine aw_seq ?_)
      refine aw_region ?_
      refine ao1 (by decide) (w_loadR rfl (lk rfl rfl) rfl rfl rfl) ?_
      refine ao1 (by decide) (V1.up (o_build (cs := [.int _ _, _, .int _ _]) rfl)) ?_
      refine ao1 (by decide) (o_move (v := .int _ _) rfl) ?_
      refine ao2 (by rintro _ ⟨⟩) (w_storeW (sz := 3) rfl rfl rfl rfl rfl rfl rfl rfl (Nat.le_of_ble_eq_true rfl)) ?_
      refine ao2 (by rintro _ ⟨⟩) (w_storeW (sz := 3) rfl rfl rfl rfl rfl rfl rfl rfl (Nat.le_of_ble_eq_true rfl)) ?_
      refine ao1 (by decide) (o_assign (v := .int _ _) rfl) ?_
      refine ao_nil ?_
      try dsimp only [AV.up, put, List.set_cons_zero, List.set_cons_succ]
      repeat (first | refine then_nrm ?_ | refine then_ret ?_ | refine aw_ret ?_)
      exact e_done hB (r_cellR rfl (lk rfl rfl) rfl rfl rfl (r_cellR rfl (lk rfl rfl) rfl rfl rfl (r_tmp rfl .nil))) rfl rfl
    · have h3 : e = 0 := by simpa using hc
      rw [show lend l ⟨4, [], u⟩ now = (⟨l.things, l.asked, u⟩, ⟨4, [], u⟩, 0) by rw [hdone h3, if_neg (by simp), if_neg (by simp), if_neg (h2 h3)]]
      repeat (first | refine then_nrm ?_ | refine aw_seq ?_ | refine aw_skip ?_)
      refine aw_region ?_
      refine ao1 (by decide) (o_move (v := .int _ _) rfl) ?_
      refine ao1 (by decide) (w_fieldAddr rfl (lk rfl rfl) rfl (by decide)) ?_
      refine ao2 (by rintro _ ⟨⟩) (w_storeP (sz := 1) (v := .int _ _) (r' := [_, _, _]) rfl rfl rfl rfl rfl rfl rfl rfl (Nat.le_of_ble_eq_true rfl) rfl) ?_
      refine ao_nil ?_
      try dsimp only [put, Nat.reduceAdd, List.set_cons_zero]
      repeat (first | refine then_nrm ?_ | refine aw_seq ?_)
      refine aw_region ?_
      refine ao1 (by decide) (w_loadR rfl (lk rfl rfl) rfl rfl rfl) ?_
      refine ao1 (by decide) (o_move (v := .int _ _) rfl) ?_
      refine ao1 (by decide) (V1.up (o_build (cs := [.int _ _, _, .int _ _]) rfl)) ?_
      refine ao2 (by rintro _ ⟨⟩) (w_storeW (sz := 3) rfl rfl rfl rfl rfl rfl rfl rfl (Nat.le_of_ble_eq_true rfl)) ?_
      refine ao2 (by rintro _ ⟨⟩) (w_storeW (sz := 3) rfl rfl rfl rfl rfl rfl rfl rfl (Nat.le_of_ble_eq_true rfl)) ?_
      refine ao1 (by decide) (o_assign (v := .int _ _) rfl) ?_
      refine ao_nil ?_
      try dsimp only [AV.up, put, List.set_cons_zero, List.set_cons_succ]
      repeat (first | refine then_nrm ?_ | refine aw_ret ?_)
      exact e_done hB (r_cellR rfl (lk rfl rfl) rfl rfl rfl (r_cellR rfl (lk rfl rfl) rfl rfl rfl (r_tmp rfl .nil))) rfl rfl
def lback (l : Loan) (n : Note) : Loan × Int := if (lright l && lmay n && decide (n.kind = 3)) = false then (l, 1) else (⟨setop (fun x y => x && !y) l.things n.things, setop (fun x y => x && !y) l.asked n.things, l.til⟩, 0)
set_option maxHeartbeats 0 in
theorem lease_Back (l : Loan) (hl : Small l) (n : Note) (hn : n.things.length ≤ 1000000) (H : Heap) : ACT Tryd.prog KD 18 [.agg (eLoan l), .agg (eNote n)] H (Ret (.tup [.agg (eLoan (lback l n).1), .int .i64 (lback l n).2]) H) := by
  refine ACT.body (N := 35) [.cell 4 24, .tmp 5] Tryd.func18 rfl rfl rfl (Nat.le_of_ble_eq_true rfl) fun B hB => ?_
  repeat (refine aw_seq ?_)
  refine aw_region ?_
  refine ao2 (by rintro _ ⟨⟩; decide) (o_boxL (sz := 3) (v := .agg _) rfl rfl rfl rfl (by decide) rfl) ?_
  refine ao2 (by rintro _ ⟨⟩; decide) (o_boxL (sz := 3) (v := .agg _) rfl rfl rfl rfl (by decide) rfl) ?_
  refine ao2 (by rintro _ ⟨⟩; decide) (o_allocL (sz := 3) rfl (by decide) rfl) ?_
  refine ao1 (by decide) (o_assign (v := .int _ _) rfl) ?_
  refine ao_nil ?_
  try dsimp only [List.length_nil, put, AV.cells, List.nil_append, List.length_cons, Nat.reduceAdd, List.cons_append]
  repeat (first | refine then_nrm ?_ | refine aw_seq ?_)
  refine aw_region ?_
  refine ao1 (by decide) (w_loadR rfl (lk rfl rfl) rfl rfl rfl) ?_
  refine ao_ret (lease_copied l hl _) rfl (by decide) ?_
  refine ao2 (by rintro _ ⟨⟩) (w_storeW (sz := 3) rfl rfl rfl rfl rfl rfl rfl rfl (Nat.le_of_ble_eq_true rfl)) ?_
  refine ao_nil ?_
  try dsimp only [put, List.set_cons_zero]
  repeat (first | refine then_nrm ?_ | refine aw_seq ?_)
  refine aw_out 20 (.bool (!(lright l && lmay n && decide (n.kind = 3)))) ?_ ?_
  · refine ao1 (by decide) (w_loadR rfl (lk rfl rfl) rfl rfl rfl) ?_
    refine ao_ret (lease_Right l hl _) rfl (by decide) ?_
    refine ao1 (by decide) (o_not rfl) ?_
    refine ao1 (by decide) (o_move (v := .bool _) rfl) ?_
    refine ao_split rfl rfl (fun hg3 => ?_) (fun hg3 => ?_)
    · refine ao_nF rfl rfl (by decide) ?_
      refine ao_nF rfl rfl (by decide) ?_
      refine ao_nF rfl rfl (by decide) ?_
      refine ao1 (by decide) (o_pick_t (v := .bool _) rfl rfl) ?_
      refine ao1 (by decide) (o_move (v := .bool _) rfl) ?_
      refine ao_nF rfl rfl (by decide) ?_
      refine ao_nF rfl rfl (by decide) ?_
      refine ao_nF rfl rfl (by decide) ?_
      refine ao1 (by decide) (o_pick_t (v := .bool _) rfl rfl) ?_
      exact ao_nil (Out.mk (by (refine congrArg AV.bool ?_; (simp_all; done))) (by repeat (first | exact SubX.refl _ _ | refine SubX.at ?_ | refine SubX.put rfl ?_)))
    · refine ao_y1 rfl rfl (by decide) (w_loadR rfl (lk rfl rfl) rfl rfl rfl) ?_
      refine ao_y rfl rfl (by decide) (V2.call (lease_may n hn _) rfl) ?_
      refine ao_y1 rfl rfl (by decide) (o_not rfl) ?_
      refine ao1 (by decide) (o_pick_f (v := .bool _) rfl rfl) ?_
      refine ao1 (by decide) (o_move (v := .bool _) rfl) ?_
      refine ao_split rfl rfl (fun hg8 => ?_) (fun hg8 => ?_)
      · refine ao_nF rfl rfl (by decide) ?_
        refine ao_nF rfl rfl (by decide) ?_
        refine ao_nF rfl rfl (by decide) ?_
        refine ao1 (by decide) (o_pick_t (v := .bool _) rfl rfl) ?_
        exact ao_nil (Out.mk (by (refine congrArg AV.bool ?_; (simp_all; done))) (by repeat (first | exact SubX.refl _ _ | refine SubX.at ?_ | refine SubX.put rfl ?_)))
      · refine ao_y1 rfl rfl (by decide) (w_fieldAddr rfl (lk rfl rfl) rfl (by decide)) ?_
        refine ao_y1 rfl rfl (by decide) (w_load1 (v := .int _ _) rfl (lk rfl rfl) rfl rfl rfl) ?_
        refine ao_y1 rfl rfl (by decide) (o_ne rfl rfl) ?_
        refine ao1 (by decide) (o_pick_f (v := .bool _) rfl rfl) ?_
        exact ao_nil (Out.mk (by (refine congrArg AV.bool ?_; grind)) (by repeat (first | exact SubX.refl _ _ | refine SubX.at ?_ | refine SubX.put rfl ?_)))
  repeat (refine then_nrm ?_)
  refine aw_cond rfl (fun hc => ?_) (fun hc => ?_)
  · rw [show lback l n = (l, 1) by rw [lback, if_pos ((Bool.not_eq_true' _).mp hc)]]
    repeat (refine aw_seq ?_)
    refine aw_region ?_
    refine ao1 (by decide) (w_loadR rfl (lk rfl rfl) rfl rfl rfl) ?_
    refine ao2 (by rintro _ ⟨⟩) (w_storeW (sz := 3) rfl rfl rfl rfl rfl rfl rfl rfl (Nat.le_of_ble_eq_true rfl)) ?_
    refine ao1 (by decide) (o_assign (v := .int _ _) rfl) ?_
    refine ao_nil ?_
    try dsimp only [put, List.set_cons_zero, List.set_cons_succ]
    repeat (first | refine then_nrm ?_ | refine then_ret ?_ | refine aw_ret ?_)
    exact e_done hB (r_cellR rfl (lk rfl rfl) rfl rfl rfl (r_tmp rfl .nil)) rfl rfl
  · have hk : ¬ (lright l && lmay n && decide (n.kind = 3)) = false := by intro h; rw [h] at hc; cases hc
    rw [show lback l n = (⟨setop (fun x y => x && !y) l.things n.things, setop (fun x y => x && !y) l.asked n.things, l.til⟩, 0) by rw [lback, if_neg hk]]
    repeat (first | refine then_nrm ?_ | refine aw_seq ?_ | refine aw_skip ?_)
    refine aw_drawP mixed (some 11) 2 ?_
    try dsimp only [List.take_succ_cons, List.take_zero]
    refine aqp 0 rfl (by decide +kernel) (by decide) (fun G => w_fieldAddr rfl (lk rfl rfl) rfl (by decide)) ?_
    refine aqp 1 rfl (by decide +kernel) (by decide) (fun G => w_load1 (v := .pl _) rfl (lk rfl rfl) rfl rfl rfl) ?_
    refine aqp 2 rfl (by decide +kernel) (by decide) (fun G => w_fieldAddr rfl (lk rfl rfl) rfl (by decide)) ?_
    refine aqp 3 rfl (by decide +kernel) (by decide) (fun G => w_load1 (v := .pl _) rfl (lk rfl rfl) rfl rfl rfl) ?_
    refine aq02 4 rfl (by decide +kernel) (by decide) (fun _ => V2.callT (set_Less l.things n.things hl.1 hn _) rfl rfl) ?_
    refine aqp 5 rfl (by decide +kernel) (by decide) (fun G => w_fieldAddr rfl (lk rfl rfl) rfl (by decide)) ?_
    refine aqp 6 rfl (by decide +kernel) (by decide) (fun G => w_load1 (v := .pl _) rfl (lk rfl rfl) rfl rfl rfl) ?_
    refine aqpz [9, 8, 7] 7 rfl (by decide +kernel) (by decide) (fun G => w_fieldAddr rfl (lk rfl rfl) rfl (by decide)) ?_
    refine aqpz [9, 8] 8 rfl (by decide +kernel) (by decide) (fun G => w_load1 (v := .pl _) rfl (lk rfl rfl) rfl rfl rfl) ?_
    refine aq02 9 rfl (by decide +kernel) (by decide) (fun _ => V2.callT (set_Less l.asked n.things hl.2 hn _) rfl rfl) ?_
    refine aqp 10 rfl (by decide +kernel) (by decide) (fun G => w_fieldAddr rfl (lk rfl rfl) rfl (by decide)) ?_
    refine aqs 11 rfl (by decide +kernel) (by exact fun _ => ⟨_, rfl⟩) (by rintro _ ⟨⟩) (w_storeP (sz := 1) (v := .pl _) (r' := [_, _, _]) rfl rfl rfl rfl rfl rfl rfl rfl (Nat.le_of_ble_eq_true rfl) rfl) ?_
    refine aqs 12 rfl (by decide +kernel) (by exact yet_done (by decide +kernel)) (by rintro _ ⟨⟩; decide) (V1.toV2 (w_fieldAddr rfl (lk rfl rfl) rfl (by decide))) ?_
    refine aqs 13 rfl (by decide +kernel) (by exact yet_done (by decide +kernel)) (by rintro _ ⟨⟩) (w_storeP (sz := 1) (v := .pl _) (r' := [_, _, _]) rfl rfl rfl rfl rfl rfl rfl rfl (Nat.le_of_ble_eq_true rfl) rfl) ?_
    refine aa_done (by decide +kernel) (by exact yet_done (by decide +kernel)) ?_
    try dsimp only [put, Nat.reduceAdd, List.set_cons_zero]
    repeat (first | refine then_nrm ?_ | refine aw_seq ?_)
    refine aw_region ?_
    refine ao1 (by decide) (w_loadR rfl (lk rfl rfl) rfl rfl rfl) ?_
    refine ao2 (by rintro _ ⟨⟩) (w_storeW (sz := 3) rfl rfl rfl rfl rfl rfl rfl rfl (Nat.le_of_ble_eq_true rfl)) ?_
    refine ao1 (by decide) (o_assign (v := .int _ _) rfl) ?_
    refine ao_nil ?_
    try dsimp only [put, List.set_cons_zero, List.set_cons_succ]
    repeat (first | refine then_nrm ?_ | refine aw_ret ?_)
    exact e_done hB (r_cellR rfl (lk rfl rfl) rfl rfl rfl (r_tmp rfl .nil)) rfl rfl
set_option maxHeartbeats 0 in
theorem ref19_Back (l : Loan) (hl : Small l) (n : Note) (hn : n.things.length ≤ 1000000) (H : Heap) : AC Tryd.prog 21 [.agg (eLoan l), .agg (eNote n)] H (Ret (.tup [.agg (eLoan (lback l n).1), .int .i64 (lback l n).2]) H) := by
  have c0 := fun H => ref01_Which l.things n.things 2 hl.1 hn H
  have c2 := fun H => ref01_Which l.asked n.things 2 hl.2 hn H
  rw [opw2] at c0 c2
  refine AC.body (N := 33) [.cell 4 24, .tmp 5] Tryd.func21 rfl rfl rfl (Nat.le_of_ble_eq_true rfl) fun B hB => ?_
  repeat (refine aw_seq ?_)
  refine aw_region ?_
  refine ao2 (by rintro _ ⟨⟩; decide) (o_boxL (sz := 3) (v := .agg _) rfl rfl rfl rfl (by decide) rfl) ?_
  refine ao2 (by rintro _ ⟨⟩; decide) (o_boxL (sz := 3) (v := .agg _) rfl rfl rfl rfl (by decide) rfl) ?_
  refine ao2 (by rintro _ ⟨⟩; decide) (o_allocL (sz := 3) rfl (by decide) rfl) ?_
  refine ao1 (by decide) (o_assign (v := .int _ _) rfl) ?_
  refine ao_nil ?_
  try dsimp only [List.length_nil, put, AV.cells, List.nil_append, List.length_cons, Nat.reduceAdd, List.cons_append]
  repeat (first | refine then_nrm ?_ | refine aw_seq ?_)
  refine aw_out 18 (.bool (!(lright l && lmay n && decide (n.kind = 3)))) ?_ ?_
  · refine ao1 (by decide) (w_loadR rfl (lk rfl rfl) rfl rfl rfl) ?_
    refine ao_ret (ref19_Right l hl _) rfl (by decide) ?_
    refine ao1 (by decide) (o_not rfl) ?_
    refine ao1 (by decide) (o_move (v := .bool _) rfl) ?_
    refine ao_split rfl rfl (fun hg3 => ?_) (fun hg3 => ?_)
    · refine ao_nF rfl rfl (by decide) ?_
      refine ao_nF rfl rfl (by decide) ?_
      refine ao_nF rfl rfl (by decide) ?_
      refine ao1 (by decide) (o_pick_t (v := .bool _) rfl rfl) ?_
      refine ao1 (by decide) (o_move (v := .bool _) rfl) ?_
      refine ao_nF rfl rfl (by decide) ?_
      refine ao_nF rfl rfl (by decide) ?_
      refine ao_nF rfl rfl (by decide) ?_
      refine ao1 (by decide) (o_pick_t (v := .bool _) rfl rfl) ?_
      exact ao_nil (Out.mk (by (refine congrArg AV.bool ?_; (clear c0 c2; (simp_all; done)))) (by repeat (first | exact SubX.refl _ _ | refine SubX.at ?_ | refine SubX.put rfl ?_)))
    · refine ao_y1 rfl rfl (by decide) (w_loadR rfl (lk rfl rfl) rfl rfl rfl) ?_
      refine ao_y rfl rfl (by decide) (V2.call (ref19_May n hn _) rfl) ?_
      refine ao_y1 rfl rfl (by decide) (o_not rfl) ?_
      refine ao1 (by decide) (o_pick_f (v := .bool _) rfl rfl) ?_
      refine ao1 (by decide) (o_move (v := .bool _) rfl) ?_
      refine ao_split rfl rfl (fun hg8 => ?_) (fun hg8 => ?_)
      · refine ao_nF rfl rfl (by decide) ?_
        refine ao_nF rfl rfl (by decide) ?_
        refine ao_nF rfl rfl (by decide) ?_
        refine ao1 (by decide) (o_pick_t (v := .bool _) rfl rfl) ?_
        exact ao_nil (Out.mk (by (refine congrArg AV.bool ?_; (clear c0 c2; (simp_all; done)))) (by repeat (first | exact SubX.refl _ _ | refine SubX.at ?_ | refine SubX.put rfl ?_)))
      · refine ao_y1 rfl rfl (by decide) (w_fieldAddr rfl (lk rfl rfl) rfl (by decide)) ?_
        refine ao_y1 rfl rfl (by decide) (w_load1 (v := .int _ _) rfl (lk rfl rfl) rfl rfl rfl) ?_
        refine ao_y1 rfl rfl (by decide) (o_ne rfl rfl) ?_
        refine ao1 (by decide) (o_pick_f (v := .bool _) rfl rfl) ?_
        exact ao_nil (Out.mk (by (refine congrArg AV.bool ?_; (clear c0 c2; grind))) (by repeat (first | exact SubX.refl _ _ | refine SubX.at ?_ | refine SubX.put rfl ?_)))
  repeat (refine then_nrm ?_)
  refine aw_cond rfl (fun hc => ?_) (fun hc => ?_)
  · rw [show lback l n = (l, 1) by rw [lback, if_pos ((Bool.not_eq_true' _).mp hc)]]
    repeat (refine aw_seq ?_)
    refine aw_region ?_
    refine ao1 (by decide) (w_loadR rfl (lk rfl rfl) rfl rfl rfl) ?_
    refine ao2 (by rintro _ ⟨⟩) (w_storeW (sz := 3) rfl rfl rfl rfl rfl rfl rfl rfl (Nat.le_of_ble_eq_true rfl)) ?_
    refine ao1 (by decide) (o_assign (v := .int _ _) rfl) ?_
    refine ao_nil ?_
    try dsimp only [put, List.set_cons_zero, List.set_cons_succ]
    repeat (first | refine then_nrm ?_ | refine then_ret ?_ | refine aw_ret ?_)
    exact e_done hB (r_cellR rfl (lk rfl rfl) rfl rfl rfl (r_tmp rfl .nil)) rfl rfl
  · have hk : ¬ (lright l && lmay n && decide (n.kind = 3)) = false := by intro h; rw [h] at hc; cases hc
    rw [show lback l n = (⟨setop (fun x y => x && !y) l.things n.things, setop (fun x y => x && !y) l.asked n.things, l.til⟩, 0) by rw [lback, if_neg hk]]
    repeat (first | refine then_nrm ?_ | refine aw_seq ?_ | refine aw_skip ?_)
    refine aw_region ?_
    refine ao1 (by decide) (w_fieldAddr rfl (lk rfl rfl) rfl (by decide)) ?_
    refine ao1 (by decide) (w_load1 (v := .pl _) rfl (lk rfl rfl) rfl rfl rfl) ?_
    refine ao1 (by decide) (w_fieldAddr rfl (lk rfl rfl) rfl (by decide)) ?_
    refine ao1 (by decide) (w_load1 (v := .pl _) rfl (lk rfl rfl) rfl rfl rfl) ?_
    refine ao2 (by rintro _ ⟨⟩; decide) (V2.call (c0 _) rfl) ?_
    refine ao1 (by decide) (w_fieldAddr rfl (lk rfl rfl) rfl (by decide)) ?_
    refine ao2 (by rintro _ ⟨⟩) (w_storeP (sz := 1) (v := .pl _) (r' := [_, _, _]) rfl rfl rfl rfl rfl rfl rfl rfl (Nat.le_of_ble_eq_true rfl) rfl) ?_
    refine ao_nil ?_
    try dsimp only [put, Nat.reduceAdd, List.set_cons_zero]
    repeat (first | refine then_nrm ?_ | refine aw_seq ?_)
    refine aw_region ?_
    refine ao1 (by decide) (w_fieldAddr rfl (lk rfl rfl) rfl (by decide)) ?_
    refine ao1 (by decide) (w_load1 (v := .pl _) rfl (lk rfl rfl) rfl rfl rfl) ?_
    refine ao1 (by decide) (w_fieldAddr rfl (lk rfl rfl) rfl (by decide)) ?_
    refine ao1 (by decide) (w_load1 (v := .pl _) rfl (lk rfl rfl) rfl rfl rfl) ?_
    refine ao2 (by rintro _ ⟨⟩; decide) (V2.call (c2 _) rfl) ?_
    refine ao1 (by decide) (w_fieldAddr rfl (lk rfl rfl) rfl (by decide)) ?_
    refine ao2 (by rintro _ ⟨⟩) (w_storeP (sz := 1) (v := .pl _) (r' := [_, _, _]) rfl rfl rfl rfl rfl rfl rfl rfl (Nat.le_of_ble_eq_true rfl) rfl) ?_
    refine ao_nil ?_
    try dsimp only [put, Nat.reduceAdd, List.set_cons_zero]
    repeat (first | refine then_nrm ?_ | refine aw_seq ?_)
    refine aw_region ?_
    refine ao1 (by decide) (w_loadR rfl (lk rfl rfl) rfl rfl rfl) ?_
    refine ao2 (by rintro _ ⟨⟩) (w_storeW (sz := 3) rfl rfl rfl rfl rfl rfl rfl rfl (Nat.le_of_ble_eq_true rfl)) ?_
    refine ao1 (by decide) (o_assign (v := .int _ _) rfl) ?_
    refine ao_nil ?_
    try dsimp only [put, List.set_cons_zero, List.set_cons_succ]
    repeat (first | refine then_nrm ?_ | refine aw_ret ?_)
    exact e_done hB (r_cellR rfl (lk rfl rfl) rfl rfl rfl (r_tmp rfl .nil)) rfl rfl
theorem opw1 : opw 1 = fun x y => x && y := by funext x y; simp [opw]
set_option maxHeartbeats 0 in
theorem ref19_Lend (l : Loan) (hl : Small l) (n : Note) (hn : n.things.length ≤ 1000000) (now : Int) (H : Heap) : AC Tryd.prog 19 [.agg (eLoan l), .agg (eNote n), .int .i64 now] H (Ret (.tup [.agg (eLoan (lend l n now).1), .agg (eNote (lend l n now).2.1), .int .i64 (lend l n now).2.2]) H) := by
  have cA := fun H => ref01_Which l.things n.things 1 hl.1 hn H
  have cJ := fun H => ref01_Which l.things n.things 0 hl.1 hn H
  have cL := fun H => ref01_Which n.things l.things 2 hn hl.1 H
  have cB := fun H => ref01_Which n.things l.asked 1 hn hl.2 H
  have cK := fun H => ref01_Which l.asked n.things 0 hl.2 hn H
  rw [opw0] at cJ cK
  rw [opw1] at cA cB
  rw [opw2] at cL
  refine AC.body (N := 87) [.cell 6 24, .cell 7 26, .tmp 8] Tryd.func19 rfl rfl rfl (Nat.le_of_ble_eq_true rfl) fun B hB => ?_
  repeat (refine aw_seq ?_)
  refine aw_region ?_
  refine ao2 (by rintro _ ⟨⟩; decide) (o_boxL (sz := 3) (v := .agg _) rfl rfl rfl rfl (by decide) rfl) ?_
  refine ao2 (by rintro _ ⟨⟩; decide) (o_boxL (sz := 3) (v := .agg _) rfl rfl rfl rfl (by decide) rfl) ?_
  refine ao2 (by rintro _ ⟨⟩; decide) (o_allocL (sz := 3) rfl (by decide) rfl) ?_
  refine ao2 (by rintro _ ⟨⟩; decide) (o_allocL (sz := 3) rfl (by decide) rfl) ?_
  refine ao1 (by decide) (o_assign (v := .int _ _) rfl) ?_
  refine ao_nil ?_
  try dsimp only [List.length_nil, put, AV.cells, List.nil_append, List.length_cons, Nat.reduceAdd, List.cons_append]
  repeat (first | refine then_nrm ?_ | refine aw_seq ?_)
  refine aw_out 21 (.bool (!(lright l && tm now && lmay n))) ?_ ?_
  · refine ao1 (by decide) (w_loadR rfl (lk rfl rfl) rfl rfl rfl) ?_
    refine ao_ret (ref19_Right l hl _) rfl (by decide) ?_
    refine ao1 (by decide) (o_not rfl) ?_
    refine ao1 (by decide) (o_move (v := .bool _) rfl) ?_
    refine ao_split rfl rfl (fun hg3 => ?_) (fun hg3 => ?_)
    · refine ao_nF rfl rfl (by decide) ?_
      refine ao_nF rfl rfl (by decide) ?_
      refine ao_nF rfl rfl (by decide) ?_
      refine ao1 (by decide) (o_pick_t (v := .bool _) rfl rfl) ?_
      refine ao1 (by decide) (o_move (v := .bool _) rfl) ?_
      refine ao_nF rfl rfl (by decide) ?_
      refine ao_nF rfl rfl (by decide) ?_
      refine ao_nF rfl rfl (by decide) ?_
      refine ao1 (by decide) (o_pick_t (v := .bool _) rfl rfl) ?_
      exact ao_nil (Out.mk (by (refine congrArg AV.bool ?_; (clear cA cJ cL cB cK; (simp_all; done)))) (by repeat (first | exact SubX.refl _ _ | refine SubX.at ?_ | refine SubX.put rfl ?_)))
    · refine ao_y1 rfl rfl (by decide) (o_move (v := .int _ _) rfl) ?_
      refine ao_y rfl rfl (by decide) (V2.call (ref19_time _ _) rfl) ?_
      refine ao_y1 rfl rfl (by decide) (o_not rfl) ?_
      refine ao1 (by decide) (o_pick_f (v := .bool _) rfl rfl) ?_
      refine ao1 (by decide) (o_move (v := .bool _) rfl) ?_
      refine ao_split rfl rfl (fun hg8 => ?_) (fun hg8 => ?_)
      · refine ao_nF rfl rfl (by decide) ?_
        refine ao_nF rfl rfl (by decide) ?_
        refine ao_nF rfl rfl (by decide) ?_
        refine ao1 (by decide) (o_pick_t (v := .bool _) rfl rfl) ?_
        exact ao_nil (Out.mk (by (refine congrArg AV.bool ?_; (clear cA cJ cL cB cK; (simp_all; done)))) (by repeat (first | exact SubX.refl _ _ | refine SubX.at ?_ | refine SubX.put rfl ?_)))
      · refine ao_y1 rfl rfl (by decide) (w_loadR rfl (lk rfl rfl) rfl rfl rfl) ?_
        refine ao_y rfl rfl (by decide) (V2.call (ref19_May n hn _) rfl) ?_
        refine ao_y1 rfl rfl (by decide) (o_not rfl) ?_
        refine ao1 (by decide) (o_pick_f (v := .bool _) rfl rfl) ?_
        exact ao_nil (Out.mk (by (refine congrArg AV.bool ?_; (clear cA cJ cL cB cK; (simp_all; done)))) (by repeat (first | exact SubX.refl _ _ | refine SubX.at ?_ | refine SubX.put rfl ?_)))
  repeat (refine then_nrm ?_)
  refine aw_cond rfl (fun hc => ?_) (fun hc => ?_)
  · rw [show lend l n now = (l, noNote, 1) by rw [lend, if_pos ((Bool.not_eq_true' _).mp hc)]]
    repeat (refine aw_seq ?_)
    refine aw_region ?_
    refine ao1 (by decide) (w_loadR rfl (lk rfl rfl) rfl rfl rfl) ?_
    refine ao1 (by decide) (V1.up (o_build (cs := [.int _ _, _, .int _ _]) rfl)) ?_
    refine ao2 (by rintro _ ⟨⟩) (w_storeW (sz := 3) rfl rfl rfl rfl rfl rfl rfl rfl (Nat.le_of_ble_eq_true rfl)) ?_
    refine ao2 (by rintro _ ⟨⟩) (w_storeW (sz := 3) rfl rfl rfl rfl rfl rfl rfl rfl (Nat.le_of_ble_eq_true rfl)) ?_
    refine ao1 (by decide) (o_assign (v := .int _ _) rfl) ?_
    refine ao_nil ?_
    try dsimp only [AV.up, put, List.set_cons_zero, List.set_cons_succ]
    repeat (first | refine then_nrm ?_ | refine then_ret ?_ | refine aw_ret ?_)
    exact e_done hB (r_cellR rfl (lk rfl rfl) rfl rfl rfl (r_cellR rfl (lk rfl rfl) rfl rfl rfl (r_tmp rfl .nil))) rfl rfl
  have hk : ¬ (lright l && tm now && lmay n) = false := by intro h; rw [h] at hc; cases hc
  repeat (first | refine then_nrm ?_ | refine aw_seq ?_ | refine aw_skip ?_)
  refine aw_region ?_
  refine ao1 (by decide) (o_move (v := .int _ _) rfl) ?_
  refine ao1 (by decide) (w_fieldAddr rfl (lk rfl rfl) rfl (by decide)) ?_
  refine ao1 (by decide) (w_load1 (v := .int _ _) rfl (lk rfl rfl) rfl rfl rfl) ?_
  refine ao1 (by decide) (o_ge rfl rfl) ?_
  refine ao_nil ?_
  try dsimp only [Nat.reduceAdd]
  repeat (refine then_nrm ?_)
  refine aw_cond rfl (fun hc => ?_) (fun hc => ?_)
  · rw [show lend l n now = (l, noNote, 8) by rw [lend, if_neg hk, if_pos (by simpa using hc)]]
    repeat (refine aw_seq ?_)
    refine aw_region ?_
    refine ao1 (by decide) (w_loadR rfl (lk rfl rfl) rfl rfl rfl) ?_
    refine ao1 (by decide) (V1.up (o_build (cs := [.int _ _, _, .int _ _]) rfl)) ?_
    refine ao2 (by rintro _ ⟨⟩) (w_storeW (sz := 3) rfl rfl rfl rfl rfl rfl rfl rfl (Nat.le_of_ble_eq_true rfl)) ?_
    refine ao2 (by rintro _ ⟨⟩) (w_storeW (sz := 3) rfl rfl rfl rfl rfl rfl rfl rfl (Nat.le_of_ble_eq_true rfl)) ?_
    refine ao1 (by decide) (o_assign (v := .int _ _) rfl) ?_
    refine ao_nil ?_
    try dsimp only [AV.up, put, List.set_cons_zero, List.set_cons_succ]
    repeat (first | refine then_nrm ?_ | refine then_ret ?_ | refine aw_ret ?_)
    exact e_done hB (r_cellR rfl (lk rfl rfl) rfl rfl rfl (r_cellR rfl (lk rfl rfl) rfl rfl rfl (r_tmp rfl .nil))) rfl rfl
  have ht : ¬ l.til ≤ now := by simpa using hc
  have hd := lend_past hk ht
  repeat (first | refine then_nrm ?_ | refine aw_seq ?_ | refine aw_skip ?_)
  refine aw_region ?_
  refine ao1 (by decide) (w_fieldAddr rfl (lk rfl rfl) rfl (by decide)) ?_
  refine ao1 (by decide) (w_load1 (v := .int _ _) rfl (lk rfl rfl) rfl rfl rfl) ?_
  refine ao_nil ?_
  try dsimp only [Nat.reduceAdd]
  repeat (first | refine then_nrm ?_ | refine aw_seq ?_ | refine aw_block ?_)
  refine aw_region ?_
  refine ao1 (by decide) (o_eq rfl rfl) ?_
  refine ao1 (by decide) (o_assign (v := .bool _) rfl) ?_
  refine ao_nil ?_
  repeat (refine then_nrm ?_)
  refine aw_cond rfl (fun hc => ?_) (fun hc => ?_)
  · have h1 : n.kind = 1 := by simpa using hc
    rw [if_pos h1] at hd
    repeat (refine aw_seq ?_)
    refine aw_region ?_
    refine ao1 (by decide) (w_fieldAddr rfl (lk rfl rfl) rfl (by decide)) ?_
    refine ao1 (by decide) (w_load1 (v := .pl _) rfl (lk rfl rfl) rfl rfl rfl) ?_
    refine ao1 (by decide) (w_fieldAddr rfl (lk rfl rfl) rfl (by decide)) ?_
    refine ao1 (by decide) (w_load1 (v := .pl _) rfl (lk rfl rfl) rfl rfl rfl) ?_
    refine ao2 (by rintro _ ⟨⟩; decide) (V2.call (cA _) rfl) ?_
    refine ao1 (by decide) (o_lenp rfl) ?_
    refine ao1 (by decide) (o_gt rfl rfl) ?_
    refine ao_nil ?_
    try dsimp only [Nat.reduceAdd, put]
    repeat (refine then_nrm ?_)
    refine aw_cond rfl (fun hc => ?_) (fun hc => ?_)
    · rw [if_pos (by simpa using hc)] at hd
      rw [hd]
      repeat (refine aw_seq ?_)
      refine aw_region ?_
      refine ao1 (by decide) (w_loadR rfl (lk rfl rfl) rfl rfl rfl) ?_
      refine ao1 (by decide) (V1.up (o_build (cs := [.int _ _, _, .int _ _]) rfl)) ?_
      refine ao2 (by rintro _ ⟨⟩) (w_storeW (sz := 3) rfl rfl rfl rfl rfl rfl rfl rfl (Nat.le_of_ble_eq_true rfl)) ?_
      refine ao2 (by rintro _ ⟨⟩) (w_storeW (sz := 3) rfl rfl rfl rfl rfl rfl rfl rfl (Nat.le_of_ble_eq_true rfl)) ?_
      refine ao1 (by decide) (o_assign (v := .int _ _) rfl) ?_
      refine ao_nil ?_
      try dsimp only [AV.up, put, List.set_cons_zero, List.set_cons_succ]
      repeat (first | refine then_nrm ?_ | refine then_ret ?_ | refine blk_ret ?_ | refine aw_ret ?_)
      exact e_done hB (r_cellR rfl (lk rfl rfl) rfl rfl rfl (r_cellR rfl (lk rfl rfl) rfl rfl rfl (r_tmp rfl .nil))) rfl rfl
    · rw [if_neg (by simpa using hc)] at hd
      rw [hd]
      repeat (first | refine then_nrm ?_ | refine aw_skip ?_)
      refine aw_region ?_
      refine ao1 (by decide) (w_fieldAddr rfl (lk rfl rfl) rfl (by decide)) ?_
      refine ao1 (by decide) (w_load1 (v := .pl _) rfl (lk rfl rfl) rfl rfl rfl) ?_
      refine ao1 (by decide) (w_fieldAddr rfl (lk rfl rfl) rfl (by decide)) ?_
      refine ao1 (by decide) (w_load1 (v := .pl _) rfl (lk rfl rfl) rfl rfl rfl) ?_
      refine ao2 (by rintro _ ⟨⟩; decide) (V2.call (cJ _) rfl) ?_
      refine ao1 (by decide) (w_fieldAddr rfl (lk rfl rfl) rfl (by decide)) ?_
      refine ao2 (by rintro _ ⟨⟩) (w_storeP (sz := 1) (v := .pl _) (r' := [_, _, _]) rfl rfl rfl rfl rfl rfl rfl rfl (Nat.le_of_ble_eq_true rfl) rfl) ?_
      refine ao_nil ?_
      try dsimp only [put, Nat.reduceAdd, List.set_cons_zero]
      repeat (first | refine then_nrm ?_ | refine blk_nrm ?_ | refine aw_seq ?_)
      refine aw_drawP mixed none 2 ?_
      try dsimp only [List.take_succ_cons, List.take_zero]
      refine aqp 0 rfl (by decide +kernel) (by decide) (fun G => w_loadR rfl (lk rfl rfl) rfl rfl rfl) ?_
      refine aqp 1 rfl (by decide +kernel) (by decide) (fun G => w_loadR rfl (lk rfl rfl) rfl rfl rfl) ?_
      refine aqs 2 rfl (by decide +kernel) (by exact fun _ => ⟨_, rfl⟩) (by rintro _ ⟨⟩) (w_storeW (sz := 3) rfl rfl rfl rfl rfl rfl rfl rfl (Nat.le_of_ble_eq_true rfl)) ?_
      refine aqs 3 rfl (by decide +kernel) (by exact fun _ => ⟨_, rfl⟩) (by rintro _ ⟨⟩) (w_storeW (sz := 3) rfl rfl rfl rfl rfl rfl rfl rfl (Nat.le_of_ble_eq_true rfl)) ?_
      refine aq0 4 rfl (by decide +kernel) (by decide) (fun _ => o_assign (v := .int _ _) rfl) ?_
      refine aa_done (by decide +kernel) (by exact fun _ => ⟨_, rfl⟩) ?_
      try dsimp only [put, List.set_cons_zero, List.set_cons_succ]
      all_goals
        repeat (first | refine then_nrm ?_ | refine aw_ret ?_)
        exact e_done hB (r_cellR rfl (lk rfl rfl) rfl rfl rfl (r_cellR rfl (lk rfl rfl) rfl rfl rfl (r_tmp rfl .nil))) rfl rfl
  · have h1 : ¬ n.kind = 1 := by simpa using hc
    rw [if_neg h1] at hd
    repeat (refine aw_seq ?_)
    refine aw_region ?_
    refine ao1 (by decide) (o_eq rfl rfl) ?_
    refine ao1 (by decide) (o_assign (v := .bool _) rfl) ?_
    refine ao_nil ?_
    repeat (refine then_nrm ?_)
    refine aw_cond rfl (fun hc => ?_) (fun hc => ?_)
    · have h2 : n.kind = 2 := by simpa using hc
      rw [if_pos h2] at hd
      repeat (refine aw_seq ?_)
      refine aw_region ?_
      refine ao1 (by decide) (w_fieldAddr rfl (lk rfl rfl) rfl (by decide)) ?_
      refine ao1 (by decide) (w_load1 (v := .pl _) rfl (lk rfl rfl) rfl rfl rfl) ?_
      refine ao1 (by decide) (w_fieldAddr rfl (lk rfl rfl) rfl (by decide)) ?_
      refine ao1 (by decide) (w_load1 (v := .pl _) rfl (lk rfl rfl) rfl rfl rfl) ?_
      refine ao2 (by rintro _ ⟨⟩; decide) (V2.call (cL _) rfl) ?_
      refine ao1 (by decide) (o_lenp rfl) ?_
      refine ao1 (by decide) (o_gt rfl rfl) ?_
      refine ao_nil ?_
      try dsimp only [Nat.reduceAdd, put]
      repeat (refine then_nrm ?_)
      refine aw_cond rfl (fun hc => ?_) (fun hc => ?_)
      · rw [if_pos (by simpa using hc)] at hd
        rw [hd]
        repeat (refine aw_seq ?_)
        refine aw_region ?_
        refine ao1 (by decide) (w_loadR rfl (lk rfl rfl) rfl rfl rfl) ?_
        refine ao1 (by decide) (V1.up (o_build (cs := [.int _ _, _, .int _ _]) rfl)) ?_
        refine ao2 (by rintro _ ⟨⟩) (w_storeW (sz := 3) rfl rfl rfl rfl rfl rfl rfl rfl (Nat.le_of_ble_eq_true rfl)) ?_
        refine ao2 (by rintro _ ⟨⟩) (w_storeW (sz := 3) rfl rfl rfl rfl rfl rfl rfl rfl (Nat.le_of_ble_eq_true rfl)) ?_
        refine ao1 (by decide) (o_assign (v := .int _ _) rfl) ?_
        refine ao_nil ?_
        try dsimp only [AV.up, put, List.set_cons_zero, List.set_cons_succ]
        repeat (first | refine then_nrm ?_ | refine then_ret ?_ | refine blk_ret ?_ | refine aw_ret ?_)
        exact e_done hB (r_cellR rfl (lk rfl rfl) rfl rfl rfl (r_cellR rfl (lk rfl rfl) rfl rfl rfl (r_tmp rfl .nil))) rfl rfl
      · rw [if_neg (by simpa using hc)] at hd
        repeat (first | refine then_nrm ?_ | refine aw_seq ?_ | refine aw_skip ?_)
        refine aw_region ?_
        refine ao1 (by decide) (w_fieldAddr rfl (lk rfl rfl) rfl (by decide)) ?_
        refine ao1 (by decide) (w_load1 (v := .pl _) rfl (lk rfl rfl) rfl rfl rfl) ?_
        refine ao1 (by decide) (w_fieldAddr rfl (lk rfl rfl) rfl (by decide)) ?_
        refine ao1 (by decide) (w_load1 (v := .pl _) rfl (lk rfl rfl) rfl rfl rfl) ?_
        refine ao2 (by rintro _ ⟨⟩; decide) (V2.call (cB _) rfl) ?_
        refine ao1 (by decide) (o_lenp rfl) ?_
        refine ao1 (by decide) (o_gt rfl rfl) ?_
        refine ao_nil ?_
        try dsimp only [Nat.reduceAdd, put]
        repeat (refine then_nrm ?_)
        refine aw_cond rfl (fun hc => ?_) (fun hc => ?_)
        · rw [if_pos (by simpa using hc)] at hd
          rw [hd]
          repeat (refine aw_seq ?_)
          refine aw_region ?_
          refine ao1 (by decide) (w_loadR rfl (lk rfl rfl) rfl rfl rfl) ?_
          refine ao1 (by decide) (V1.up (o_build (cs := [.int _ _, _, .int _ _]) rfl)) ?_
          refine ao2 (by rintro _ ⟨⟩) (w_storeW (sz := 3) rfl rfl rfl rfl rfl rfl rfl rfl (Nat.le_of_ble_eq_true rfl)) ?_
          refine ao2 (by rintro _ ⟨⟩) (w_storeW (sz := 3) rfl rfl rfl rfl rfl rfl rfl rfl (Nat.le_of_ble_eq_true rfl)) ?_
          refine ao1 (by decide) (o_assign (v := .int _ _) rfl) ?_
          refine ao_nil ?_
          try dsimp only [AV.up, put, List.set_cons_zero, List.set_cons_succ]
          repeat (first | refine then_nrm ?_ | refine then_ret ?_ | refine blk_ret ?_ | refine aw_ret ?_)
          exact e_done hB (r_cellR rfl (lk rfl rfl) rfl rfl rfl (r_cellR rfl (lk rfl rfl) rfl rfl rfl (r_tmp rfl .nil))) rfl rfl
        · rw [if_neg (by simpa using hc)] at hd
          rw [hd]
          repeat (first | refine then_nrm ?_ | refine aw_skip ?_)
          refine aw_region ?_
          refine ao1 (by decide) (w_fieldAddr rfl (lk rfl rfl) rfl (by decide)) ?_
          refine ao1 (by decide) (w_load1 (v := .pl _) rfl (lk rfl rfl) rfl rfl rfl) ?_
          refine ao1 (by decide) (w_fieldAddr rfl (lk rfl rfl) rfl (by decide)) ?_
          refine ao1 (by decide) (w_load1 (v := .pl _) rfl (lk rfl rfl) rfl rfl rfl) ?_
          refine ao2 (by rintro _ ⟨⟩; decide) (V2.call (cK _) rfl) ?_
          refine ao1 (by decide) (w_fieldAddr rfl (lk rfl rfl) rfl (by decide)) ?_
          refine ao2 (by rintro _ ⟨⟩) (w_storeP (sz := 1) (v := .pl _) (r' := [_, _, _]) rfl rfl rfl rfl rfl rfl rfl rfl (Nat.le_of_ble_eq_true rfl) rfl) ?_
          refine ao_nil ?_
          try dsimp only [put, Nat.reduceAdd, List.set_cons_zero]
          repeat (first | refine then_nrm ?_ | refine blk_nrm ?_ | refine aw_seq ?_)
          refine aw_drawP mixed none 2 ?_
          try dsimp only [List.take_succ_cons, List.take_zero]
          refine aqp 0 rfl (by decide +kernel) (by decide) (fun G => w_loadR rfl (lk rfl rfl) rfl rfl rfl) ?_
          refine aqp 1 rfl (by decide +kernel) (by decide) (fun G => w_loadR rfl (lk rfl rfl) rfl rfl rfl) ?_
          refine aqs 2 rfl (by decide +kernel) (by exact fun _ => ⟨_, rfl⟩) (by rintro _ ⟨⟩) (w_storeW (sz := 3) rfl rfl rfl rfl rfl rfl rfl rfl (Nat.le_of_ble_eq_true rfl)) ?_
          refine aqs 3 rfl (by decide +kernel) (by exact fun _ => ⟨_, rfl⟩) (by rintro _ ⟨⟩) (w_storeW (sz := 3) rfl rfl rfl rfl rfl rfl rfl rfl (Nat.le_of_ble_eq_true rfl)) ?_
          refine aq0 4 rfl (by decide +kernel) (by decide) (fun _ => o_assign (v := .int _ _) rfl) ?_
          refine aa_done (by decide +kernel) (by exact fun _ => ⟨_, rfl⟩) ?_
          try dsimp only [put, List.set_cons_zero, List.set_cons_succ]
          all_goals
            repeat (first | refine then_nrm ?_ | refine aw_ret ?_)
            exact e_done hB (r_cellR rfl (lk rfl rfl) rfl rfl rfl (r_cellR rfl (lk rfl rfl) rfl rfl rfl (r_tmp rfl .nil))) rfl rfl
    · have h2 : ¬ n.kind = 2 := by simpa using hc
      rw [if_neg h2] at hd
      repeat (refine aw_seq ?_)
      refine aw_region ?_
      refine ao1 (by decide) (w_fieldAddr rfl (lk rfl rfl) rfl (by decide)) ?_
      refine ao1 (by decide) (w_load1 (v := .int _ _) rfl (lk rfl rfl) rfl rfl rfl) ?_
      refine ao1 (by decide) (w_fieldAddr rfl (lk rfl rfl) rfl (by decide)) ?_
      refine ao1 (by decide) (w_load1 (v := .int _ _) rfl (lk rfl rfl) rfl rfl rfl) ?_
      refine ao1 (by decide) (o_le rfl rfl) ?_
      refine ao_nil ?_
      try dsimp only [Nat.reduceAdd]
      repeat (refine then_nrm ?_)
      refine aw_cond rfl (fun hc => ?_) (fun hc => ?_)
      · rw [if_pos (by simpa using hc)] at hd
        rw [hd]
        repeat (refine aw_seq ?_)
        refine aw_region ?_
        refine ao1 (by decide) (w_loadR rfl (lk rfl rfl) rfl rfl rfl) ?_
        refine ao1 (by decide) (V1.up (o_build (cs := [.int _ _, _, .int _ _]) rfl)) ?_
        refine ao2 (by rintro _ ⟨⟩) (w_storeW (sz := 3) rfl rfl rfl rfl rfl rfl rfl rfl (Nat.le_of_ble_eq_true rfl)) ?_
        refine ao2 (by rintro _ ⟨⟩) (w_storeW (sz := 3) rfl rfl rfl rfl rfl rfl rfl rfl (Nat.le_of_ble_eq_true rfl)) ?_
        refine ao1 (by decide) (o_assign (v := .int _ _) rfl) ?_
        refine ao_nil ?_
        try dsimp only [AV.up, put, List.set_cons_zero, List.set_cons_succ]
        repeat (first | refine then_nrm ?_ | refine then_ret ?_ | refine blk_ret ?_ | refine aw_ret ?_)
        exact e_done hB (r_cellR rfl (lk rfl rfl) rfl rfl rfl (r_cellR rfl (lk rfl rfl) rfl rfl rfl (r_tmp rfl .nil))) rfl rfl
      · rw [if_neg (by simpa using hc)] at hd
        rw [hd]
        repeat (first | refine then_nrm ?_ | refine aw_skip ?_)
        refine aw_region ?_
        refine ao1 (by decide) (w_fieldAddr rfl (lk rfl rfl) rfl (by decide)) ?_
        refine ao1 (by decide) (w_load1 (v := .int _ _) rfl (lk rfl rfl) rfl rfl rfl) ?_
        refine ao1 (by decide) (w_fieldAddr rfl (lk rfl rfl) rfl (by decide)) ?_
        refine ao2 (by rintro _ ⟨⟩) (w_storeP (sz := 1) (v := .int _ _) (r' := [_, _, _]) rfl rfl rfl rfl rfl rfl rfl rfl (Nat.le_of_ble_eq_true rfl) rfl) ?_
        refine ao_nil ?_
        try dsimp only [put, Nat.reduceAdd, List.set_cons_zero]
        repeat (first | refine then_nrm ?_ | refine blk_nrm ?_ | refine aw_seq ?_)
        refine aw_drawP mixed none 2 ?_
        try dsimp only [List.take_succ_cons, List.take_zero]
        refine aqp 0 rfl (by decide +kernel) (by decide) (fun G => w_loadR rfl (lk rfl rfl) rfl rfl rfl) ?_
        refine aqp 1 rfl (by decide +kernel) (by decide) (fun G => w_loadR rfl (lk rfl rfl) rfl rfl rfl) ?_
        refine aqs 2 rfl (by decide +kernel) (by exact fun _ => ⟨_, rfl⟩) (by rintro _ ⟨⟩) (w_storeW (sz := 3) rfl rfl rfl rfl rfl rfl rfl rfl (Nat.le_of_ble_eq_true rfl)) ?_
        refine aqs 3 rfl (by decide +kernel) (by exact fun _ => ⟨_, rfl⟩) (by rintro _ ⟨⟩) (w_storeW (sz := 3) rfl rfl rfl rfl rfl rfl rfl rfl (Nat.le_of_ble_eq_true rfl)) ?_
        refine aq0 4 rfl (by decide +kernel) (by decide) (fun _ => o_assign (v := .int _ _) rfl) ?_
        refine aa_done (by decide +kernel) (by exact fun _ => ⟨_, rfl⟩) ?_
        try dsimp only [put, List.set_cons_zero, List.set_cons_succ]
        all_goals
          repeat (first | refine then_nrm ?_ | refine aw_ret ?_)
          exact e_done hB (r_cellR rfl (lk rfl rfl) rfl rfl rfl (r_cellR rfl (lk rfl rfl) rfl rfl rfl (r_tmp rfl .nil))) rfl rfl
end Go.Av
