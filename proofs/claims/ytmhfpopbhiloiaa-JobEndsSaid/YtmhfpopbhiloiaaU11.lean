/- A part of the proof: walks through the program over abstract values. -/
import Derived.Test.YtmhfpopbhiloiaaU10
namespace Go.Av
open Go.Proofs
set_option maxRecDepth 10000
set_option linter.unusedSimpArgs false
set_option linter.unusedVariables false


def jstep (j : Job) (s now : Int) : Job := ⟨j.id, j.spec, j.needs, s, j.came, if s = 2 then now else j.frm, if jover s then now else j.to⟩
def jbad (j : Job) (w now : Int) : Bool := !jright j || decide (w < 1) || decide (7 < w) || !tm now || decide (now < max j.came j.frm)
def jdo (j : Job) (w now : Int) : Job × Int := if jbad j w now then (j, 1) else match jnext j.state w with
  | none => (j, 8)
  | some s => (jstep j s now, 0)
theorem jright_state {j : Job} (h : jright j = true) : 0 ≤ j.state ∧ j.state ≤ 6 := by
  have h5 : tm j.came = true := by simp only [jright, Bool.and_eq_true] at h; exact h.1.2
  have ht : jtimes j = true := by simp only [jright, Bool.and_eq_true] at h; exact h.2
  rw [jtimes_ref h5] at ht
  simp only [Bool.and_eq_true, decide_eq_true_eq] at ht
  omega
set_option maxHeartbeats 0 in
theorem job_Do (j : Job) (w now : Int) (hn : j.needs.length ≤ 1000000) (H : Heap) : AC Try.prog 20 [.agg (eJob j), .int .i64 w, .int .i64 now] H (Ret (.tup [.agg (eJob (jdo j w now).1), .int .i64 (jdo j w now).2]) H) := by
  refine AC.body (N := 61) [.cell 6 40, .tmp 7] Try.func20 rfl rfl rfl (Nat.le_of_ble_eq_true rfl) fun B hB => ?_
  repeat (refine aw_seq ?_)
  refine aw_region ?_
  refine ao2 (by rintro _ ⟨⟩; decide) (o_boxL (sz := 13) (v := .agg _) rfl rfl rfl rfl (by decide) rfl) ?_
  refine ao2 (by rintro _ ⟨⟩; decide) (o_allocL (sz := 13) rfl (by decide) rfl) ?_
  refine ao1 (by decide) (o_assign (v := .int _ _) rfl) ?_
  refine ao_nil ?_
  try dsimp only
  repeat (first | refine then_nrm ?_ | refine aw_seq ?_)
  refine aw_region ?_
  refine ao1 (by decide) (w_fieldAddr rfl (lk rfl rfl) rfl (by decide)) ?_
  refine ao1 (by decide) (w_load1 (v := .pl _) rfl (lk rfl rfl) rfl rfl rfl) ?_
  refine ao_ret (slices_CloneI _ _ (by assumption)) rfl (by decide) ?_
  refine ao1 (by decide) (w_fieldAddr rfl (lk rfl rfl) rfl (by decide)) ?_
  refine ao2 (by rintro _ ⟨⟩) (w_storeP (sz := 1) (v := .pl _) (r' := [_, _, _, _, _, _, _, _, _, _, _, _, _]) rfl rfl rfl rfl rfl rfl rfl rfl (Nat.le_of_ble_eq_true rfl) rfl) ?_
  refine ao_nil ?_
  try dsimp only
  repeat (first | refine then_nrm ?_ | refine aw_seq ?_)
  refine aw_out 38 (.bool (jbad j w now)) ?_ ?_
  · refine ao1 (by decide) (w_loadR rfl (lk rfl rfl) rfl rfl rfl) ?_
    refine ao_ret (job_Right _ _) rfl (by decide) ?_
    refine ao1 (by decide) (o_not rfl) ?_
    refine ao1 (by decide) (o_move (v := .bool _) rfl) ?_
    refine ao_split rfl rfl (fun hg3 => ?_) (fun hg3 => ?_)
    · refine ao_nF rfl rfl (by decide) ?_
      refine ao_nF rfl rfl (by decide) ?_
      refine ao1 (by decide) (o_pick_t (v := .bool _) rfl rfl) ?_
      refine ao1 (by decide) (o_move (v := .bool _) rfl) ?_
      refine ao_nF rfl rfl (by decide) ?_
      refine ao_nF rfl rfl (by decide) ?_
      refine ao1 (by decide) (o_pick_t (v := .bool _) rfl rfl) ?_
      refine ao1 (by decide) (o_move (v := .bool _) rfl) ?_
      refine ao_nF rfl rfl (by decide) ?_
      refine ao_nF rfl rfl (by decide) ?_
      refine ao_nF rfl rfl (by decide) ?_
      refine ao1 (by decide) (o_pick_t (v := .bool _) rfl rfl) ?_
      refine ao1 (by decide) (o_move (v := .bool _) rfl) ?_
      refine ao_nF rfl rfl (by decide) ?_
      refine ao_nF rfl rfl (by decide) ?_
      refine ao_nF rfl rfl (by decide) ?_
      refine ao_nF rfl rfl (by decide) ?_
      refine ao_nF rfl rfl (by decide) ?_
      refine ao_nF rfl rfl (by decide) ?_
      refine ao_nF rfl rfl (by decide) ?_
      refine ao1 (by decide) (o_pick_t (v := .bool _) rfl rfl) ?_
      exact ao_nil (Out.mk (by (refine congrArg AV.bool ?_; (simp only [jbad, tm] at *; (simp_all; done)))) (by repeat (first | exact SubX.refl _ _ | refine SubX.at ?_ | refine SubX.put rfl ?_)))
    · refine ao_y1 rfl rfl (by decide) (o_move (v := .int _ _) rfl) ?_
      refine ao_y1 rfl rfl (by decide) (o_lt rfl rfl) ?_
      refine ao1 (by decide) (o_pick_f (v := .bool _) rfl rfl) ?_
      refine ao1 (by decide) (o_move (v := .bool _) rfl) ?_
      refine ao_split rfl rfl (fun hg7 => ?_) (fun hg7 => ?_)
      · refine ao_nF rfl rfl (by decide) ?_
        refine ao_nF rfl rfl (by decide) ?_
        refine ao1 (by decide) (o_pick_t (v := .bool _) rfl rfl) ?_
        refine ao1 (by decide) (o_move (v := .bool _) rfl) ?_
        refine ao_nF rfl rfl (by decide) ?_
        refine ao_nF rfl rfl (by decide) ?_
        refine ao_nF rfl rfl (by decide) ?_
        refine ao1 (by decide) (o_pick_t (v := .bool _) rfl rfl) ?_
        refine ao1 (by decide) (o_move (v := .bool _) rfl) ?_
        refine ao_nF rfl rfl (by decide) ?_
        refine ao_nF rfl rfl (by decide) ?_
        refine ao_nF rfl rfl (by decide) ?_
        refine ao_nF rfl rfl (by decide) ?_
        refine ao_nF rfl rfl (by decide) ?_
        refine ao_nF rfl rfl (by decide) ?_
        refine ao_nF rfl rfl (by decide) ?_
        refine ao1 (by decide) (o_pick_t (v := .bool _) rfl rfl) ?_
        exact ao_nil (Out.mk (by (refine congrArg AV.bool ?_; (simp only [jbad, tm] at *; (simp_all; done)))) (by repeat (first | exact SubX.refl _ _ | refine SubX.at ?_ | refine SubX.put rfl ?_)))
      · refine ao_y1 rfl rfl (by decide) (o_move (v := .int _ _) rfl) ?_
        refine ao_y1 rfl rfl (by decide) (o_gt rfl rfl) ?_
        refine ao1 (by decide) (o_pick_f (v := .bool _) rfl rfl) ?_
        refine ao1 (by decide) (o_move (v := .bool _) rfl) ?_
        refine ao_split rfl rfl (fun hg11 => ?_) (fun hg11 => ?_)
        · refine ao_nF rfl rfl (by decide) ?_
          refine ao_nF rfl rfl (by decide) ?_
          refine ao_nF rfl rfl (by decide) ?_
          refine ao1 (by decide) (o_pick_t (v := .bool _) rfl rfl) ?_
          refine ao1 (by decide) (o_move (v := .bool _) rfl) ?_
          refine ao_nF rfl rfl (by decide) ?_
          refine ao_nF rfl rfl (by decide) ?_
          refine ao_nF rfl rfl (by decide) ?_
          refine ao_nF rfl rfl (by decide) ?_
          refine ao_nF rfl rfl (by decide) ?_
          refine ao_nF rfl rfl (by decide) ?_
          refine ao_nF rfl rfl (by decide) ?_
          refine ao1 (by decide) (o_pick_t (v := .bool _) rfl rfl) ?_
          exact ao_nil (Out.mk (by (refine congrArg AV.bool ?_; (simp only [jbad, tm] at *; (simp_all; done)))) (by repeat (first | exact SubX.refl _ _ | refine SubX.at ?_ | refine SubX.put rfl ?_)))
        · refine ao_y1 rfl rfl (by decide) (o_move (v := .int _ _) rfl) ?_
          refine ao_y rfl rfl (by decide) (V2.call (when_Right _ _) rfl) ?_
          refine ao_y1 rfl rfl (by decide) (o_not rfl) ?_
          refine ao1 (by decide) (o_pick_f (v := .bool _) rfl rfl) ?_
          refine ao1 (by decide) (o_move (v := .bool _) rfl) ?_
          refine ao_split rfl rfl (fun hg16 => ?_) (fun hg16 => ?_)
          · refine ao_nF rfl rfl (by decide) ?_
            refine ao_nF rfl rfl (by decide) ?_
            refine ao_nF rfl rfl (by decide) ?_
            refine ao_nF rfl rfl (by decide) ?_
            refine ao_nF rfl rfl (by decide) ?_
            refine ao_nF rfl rfl (by decide) ?_
            refine ao_nF rfl rfl (by decide) ?_
            refine ao1 (by decide) (o_pick_t (v := .bool _) rfl rfl) ?_
            exact ao_nil (Out.mk (by (refine congrArg AV.bool ?_; (simp only [jbad, tm] at *; (simp_all; done)))) (by repeat (first | exact SubX.refl _ _ | refine SubX.at ?_ | refine SubX.put rfl ?_)))
          · refine ao_y1 rfl rfl (by decide) (o_move (v := .int _ _) rfl) ?_
            refine ao_y1 rfl rfl (by decide) (w_fieldAddr rfl (lk rfl rfl) rfl (by decide)) ?_
            refine ao_y1 rfl rfl (by decide) (w_load1 (v := .int _ _) rfl (lk rfl rfl) rfl rfl rfl) ?_
            refine ao_y1 rfl rfl (by decide) (w_fieldAddr rfl (lk rfl rfl) rfl (by decide)) ?_
            refine ao_y1 rfl rfl (by decide) (w_load1 (v := .int _ _) rfl (lk rfl rfl) rfl rfl rfl) ?_
            refine ao_y1 rfl rfl (by decide) (o_max rfl rfl rfl) ?_
            refine ao_y1 rfl rfl (by decide) (o_lt rfl rfl) ?_
            refine ao1 (by decide) (o_pick_f (v := .bool _) rfl rfl) ?_
            exact ao_nil (Out.mk (by (refine congrArg AV.bool ?_; (simp only [jbad, tm] at *; (simp_all; omega)))) (by repeat (first | exact SubX.refl _ _ | refine SubX.at ?_ | refine SubX.put rfl ?_)))
  repeat (refine then_nrm ?_)
  refine aw_cond rfl (fun hc => ?_) (fun hc => ?_)
  · repeat (refine aw_seq ?_)
    refine aw_region ?_
    refine ao1 (by decide) (w_loadR rfl (lk rfl rfl) rfl rfl rfl) ?_
    refine ao2 (by rintro _ ⟨⟩) (w_storeW (sz := 13) rfl rfl rfl rfl rfl rfl rfl rfl (Nat.le_of_ble_eq_true rfl)) ?_
    refine ao1 (by decide) (o_assign (v := .int _ _) rfl) ?_
    refine ao_nil ?_
    try dsimp only
    repeat (first | refine then_nrm ?_ | refine then_ret ?_ | refine aw_ret ?_)
    rw [show jdo j w now = (j, 1) by rw [jdo, if_pos hc]]
    exact e_done hB (r_cellR rfl (lk rfl rfl) rfl rfl rfl (r_tmp rfl .nil)) rfl rfl
  have hb : jbad j w now = false := hc
  have c4 := fun H => job_next j.state w H
  cases hnx : jnext j.state w with
  | none =>
    rw [show nx j.state w = (j.state, false) by rw [nx, hnx]] at c4
    repeat (first | refine then_nrm ?_ | refine aw_seq ?_ | refine aw_skip ?_)
    refine aw_region ?_
    refine ao1 (by decide) (w_fieldAddr rfl (lk rfl rfl) rfl (by decide)) ?_
    refine ao1 (by decide) (w_load1 (v := .int _ _) rfl (lk rfl rfl) rfl rfl rfl) ?_
    refine ao1 (by decide) (o_move (v := .int _ _) rfl) ?_
    refine ao2 (by rintro _ ⟨⟩; decide) (V2.call (c4 _) rfl) ?_
    refine ao1 (by decide) (o_move (v := .tup _) rfl) ?_
    refine ao1 (by decide) (o_extract (v := .int _ _) rfl rfl) ?_
    refine ao1 (by decide) (o_extract (v := .bool _) rfl rfl) ?_
    refine ao1 (by decide) (o_assign (v := .int _ _) rfl) ?_
    refine ao1 (by decide) (o_assign (v := .bool _) rfl) ?_
    refine ao_nil ?_
    try dsimp only
    repeat (first | refine then_nrm ?_ | refine aw_seq ?_)
    refine aw_region ?_
    refine ao1 (by decide) (o_move (v := .bool _) rfl) ?_
    refine ao1 (by decide) (o_not rfl) ?_
    refine ao_nil ?_
    repeat (refine then_nrm ?_)
    refine aw_cond rfl (fun hc => ?_) (fun hc => ?_)
    · repeat (refine aw_seq ?_)
      refine aw_region ?_
      refine ao1 (by decide) (w_loadR rfl (lk rfl rfl) rfl rfl rfl) ?_
      refine ao2 (by rintro _ ⟨⟩) (w_storeW (sz := 13) rfl rfl rfl rfl rfl rfl rfl rfl (Nat.le_of_ble_eq_true rfl)) ?_
      refine ao1 (by decide) (o_assign (v := .int _ _) rfl) ?_
      refine ao_nil ?_
      try dsimp only
      repeat (first | refine then_nrm ?_ | refine then_ret ?_ | refine aw_ret ?_)
      rw [show jdo j w now = (j, 8) by rw [jdo, if_neg (by rw [hb]; simp), hnx]]
      exact e_done hB (r_cellR rfl (lk rfl rfl) rfl rfl rfl (r_tmp rfl .nil)) rfl rfl
    · simp at hc
  | some s =>
    rw [show nx j.state w = (s, true) by rw [nx, hnx]] at c4
    rw [show jdo j w now = (jstep j s now, 0) by rw [jdo, if_neg (by rw [hb]; simp), hnx]]
    repeat (first | refine then_nrm ?_ | refine aw_seq ?_ | refine aw_skip ?_)
    refine aw_region ?_
    refine ao1 (by decide) (w_fieldAddr rfl (lk rfl rfl) rfl (by decide)) ?_
    refine ao1 (by decide) (w_load1 (v := .int _ _) rfl (lk rfl rfl) rfl rfl rfl) ?_
    refine ao1 (by decide) (o_move (v := .int _ _) rfl) ?_
    refine ao2 (by rintro _ ⟨⟩; decide) (V2.call (c4 _) rfl) ?_
    refine ao1 (by decide) (o_move (v := .tup _) rfl) ?_
    refine ao1 (by decide) (o_extract (v := .int _ _) rfl rfl) ?_
    refine ao1 (by decide) (o_extract (v := .bool _) rfl rfl) ?_
    refine ao1 (by decide) (o_assign (v := .int _ _) rfl) ?_
    refine ao1 (by decide) (o_assign (v := .bool _) rfl) ?_
    refine ao_nil ?_
    try dsimp only
    repeat (first | refine then_nrm ?_ | refine aw_seq ?_)
    refine aw_region ?_
    refine ao1 (by decide) (o_move (v := .bool _) rfl) ?_
    refine ao1 (by decide) (o_not rfl) ?_
    refine ao_nil ?_
    repeat (refine then_nrm ?_)
    refine aw_cond rfl (fun hc => ?_) (fun hc => ?_)
    · simp at hc
    repeat (first | refine then_nrm ?_ | refine aw_seq ?_ | refine aw_skip ?_)
    refine aw_region ?_
    refine ao1 (by decide) (o_move (v := .int _ _) rfl) ?_
    refine ao1 (by decide) (w_fieldAddr rfl (lk rfl rfl) rfl (by decide)) ?_
    refine ao2 (by rintro _ ⟨⟩) (w_storeP (sz := 1) (v := .int _ _) (r' := [_, _, _, _, _, _, _, _, _, _, _, _, _]) rfl rfl rfl rfl rfl rfl rfl rfl (Nat.le_of_ble_eq_true rfl) rfl) ?_
    refine ao_nil ?_
    try dsimp only
    repeat (first | refine then_nrm ?_ | refine aw_seq ?_)
    refine aw_region ?_
    refine ao1 (by decide) (o_move (v := .int _ _) rfl) ?_
    refine ao1 (by decide) (o_eq rfl rfl) ?_
    refine ao_nil ?_
    repeat (refine then_nrm ?_)
    refine aw_cond rfl (fun hc => ?_) (fun hc => ?_)
    · have hs : s = 2 := by simpa using hc
      rw [show jstep j s now = ⟨j.id, j.spec, j.needs, s, j.came, now, j.to⟩ by rw [jstep, if_pos hs, if_neg (by rw [hs]; decide)]]
      refine aw_region ?_
      refine ao1 (by decide) (o_move (v := .int _ _) rfl) ?_
      refine ao1 (by decide) (w_fieldAddr rfl (lk rfl rfl) rfl (by decide)) ?_
      refine ao2 (by rintro _ ⟨⟩) (w_storeP (sz := 1) (v := .int _ _) (r' := [_, _, _, _, _, _, _, _, _, _, _, _, _]) rfl rfl rfl rfl rfl rfl rfl rfl (Nat.le_of_ble_eq_true rfl) rfl) ?_
      refine ao_nil ?_
      try dsimp only
      repeat (first | refine then_nrm ?_ | refine aw_seq ?_)
      refine aw_region ?_
      refine ao1 (by decide) (o_move (v := .int _ _) rfl) ?_
      refine ao_ret (job_Over _ _) rfl (by decide) ?_
      refine ao_nil ?_
      repeat (refine then_nrm ?_)
      refine aw_cond rfl (fun hc => ?_) (fun hc => ?_)
      · rw [hs] at hc; exact absurd hc (by decide)
      repeat (first | refine then_nrm ?_ | refine aw_seq ?_ | refine aw_skip ?_)
      refine aw_region ?_
      refine ao1 (by decide) (w_loadR rfl (lk rfl rfl) rfl rfl rfl) ?_
      refine ao2 (by rintro _ ⟨⟩) (w_storeW (sz := 13) rfl rfl rfl rfl rfl rfl rfl rfl (Nat.le_of_ble_eq_true rfl)) ?_
      refine ao1 (by decide) (o_assign (v := .int _ _) rfl) ?_
      refine ao_nil ?_
      try dsimp only
      repeat (first | refine then_nrm ?_ | refine aw_ret ?_)
      exact e_done hB (r_cellR rfl (lk rfl rfl) rfl rfl rfl (r_tmp rfl .nil)) rfl rfl
    · have hs : ¬ s = 2 := by simpa using hc
      repeat (first | refine then_nrm ?_ | refine aw_seq ?_ | refine aw_skip ?_)
      refine aw_region ?_
      refine ao1 (by decide) (o_move (v := .int _ _) rfl) ?_
      refine ao_ret (job_Over _ _) rfl (by decide) ?_
      refine ao_nil ?_
      repeat (refine then_nrm ?_)
      refine aw_cond rfl (fun hc => ?_) (fun hc => ?_)
      · rw [show jstep j s now = ⟨j.id, j.spec, j.needs, s, j.came, j.frm, now⟩ by rw [jstep, if_neg hs, if_pos hc]]
        refine aw_region ?_
        refine ao1 (by decide) (o_move (v := .int _ _) rfl) ?_
        refine ao1 (by decide) (w_fieldAddr rfl (lk rfl rfl) rfl (by decide)) ?_
        refine ao2 (by rintro _ ⟨⟩) (w_storeP (sz := 1) (v := .int _ _) (r' := [_, _, _, _, _, _, _, _, _, _, _, _, _]) rfl rfl rfl rfl rfl rfl rfl rfl (Nat.le_of_ble_eq_true rfl) rfl) ?_
        refine ao_nil ?_
        try dsimp only
        repeat (first | refine then_nrm ?_ | refine aw_seq ?_)
        refine aw_region ?_
        refine ao1 (by decide) (w_loadR rfl (lk rfl rfl) rfl rfl rfl) ?_
        refine ao2 (by rintro _ ⟨⟩) (w_storeW (sz := 13) rfl rfl rfl rfl rfl rfl rfl rfl (Nat.le_of_ble_eq_true rfl)) ?_
        refine ao1 (by decide) (o_assign (v := .int _ _) rfl) ?_
        refine ao_nil ?_
        try dsimp only
        repeat (first | refine then_nrm ?_ | refine aw_ret ?_)
        exact e_done hB (r_cellR rfl (lk rfl rfl) rfl rfl rfl (r_tmp rfl .nil)) rfl rfl
      · rw [show jstep j s now = ⟨j.id, j.spec, j.needs, s, j.came, j.frm, j.to⟩ by rw [jstep, if_neg hs, if_neg (by rw [hc]; simp)]]
        repeat (first | refine then_nrm ?_ | refine aw_seq ?_ | refine aw_skip ?_)
        refine aw_region ?_
        refine ao1 (by decide) (w_loadR rfl (lk rfl rfl) rfl rfl rfl) ?_
        refine ao2 (by rintro _ ⟨⟩) (w_storeW (sz := 13) rfl rfl rfl rfl rfl rfl rfl rfl (Nat.le_of_ble_eq_true rfl)) ?_
        refine ao1 (by decide) (o_assign (v := .int _ _) rfl) ?_
        refine ao_nil ?_
        try dsimp only
        repeat (first | refine then_nrm ?_ | refine aw_ret ?_)
        exact e_done hB (r_cellR rfl (lk rfl rfl) rfl rfl rfl (r_tmp rfl .nil)) rfl rfl
set_option maxHeartbeats 0 in
theorem ref11_Do (j : Job) (w now : Int) (ht : j.spec.tag.size ≤ 9223372036854775807) (H : Heap) : AC Try.prog 21 [.agg (eJob j), .int .i64 w, .int .i64 now] H (Ret (.tup [.agg (eJob (jdo j w now).1), .int .i64 (jdo j w now).2]) H) := by
  refine AC.body (N := 56) [.cell 6 40, .tmp 7] Try.func21 rfl rfl rfl (Nat.le_of_ble_eq_true rfl) fun B hB => ?_
  repeat (refine aw_seq ?_)
  refine aw_region ?_
  refine ao2 (by rintro _ ⟨⟩; decide) (o_boxL (sz := 13) (v := .agg _) rfl rfl rfl rfl (by decide) rfl) ?_
  refine ao2 (by rintro _ ⟨⟩; decide) (o_allocL (sz := 13) rfl (by decide) rfl) ?_
  refine ao1 (by decide) (o_assign (v := .int _ _) rfl) ?_
  refine ao_nil ?_
  try dsimp only
  repeat (first | refine then_nrm ?_ | refine aw_seq ?_)
  refine aw_out 36 (.bool (jbad j w now)) ?_ ?_
  · refine ao1 (by decide) (w_loadR rfl (lk rfl rfl) rfl rfl rfl) ?_
    refine ao_ret (ref11_Right _ _ (by assumption)) rfl (by decide) ?_
    refine ao1 (by decide) (o_not rfl) ?_
    refine ao1 (by decide) (o_move (v := .bool _) rfl) ?_
    refine ao_split rfl rfl (fun hg3 => ?_) (fun hg3 => ?_)
    · refine ao_nF rfl rfl (by decide) ?_
      refine ao_nF rfl rfl (by decide) ?_
      refine ao1 (by decide) (o_pick_t (v := .bool _) rfl rfl) ?_
      refine ao1 (by decide) (o_move (v := .bool _) rfl) ?_
      refine ao_nF rfl rfl (by decide) ?_
      refine ao_nF rfl rfl (by decide) ?_
      refine ao1 (by decide) (o_pick_t (v := .bool _) rfl rfl) ?_
      refine ao1 (by decide) (o_move (v := .bool _) rfl) ?_
      refine ao_nF rfl rfl (by decide) ?_
      refine ao_nF rfl rfl (by decide) ?_
      refine ao_nF rfl rfl (by decide) ?_
      refine ao1 (by decide) (o_pick_t (v := .bool _) rfl rfl) ?_
      refine ao1 (by decide) (o_move (v := .bool _) rfl) ?_
      refine ao_nF rfl rfl (by decide) ?_
      refine ao_nF rfl rfl (by decide) ?_
      refine ao_nF rfl rfl (by decide) ?_
      refine ao_nF rfl rfl (by decide) ?_
      refine ao1 (by decide) (o_pick_t (v := .bool _) rfl rfl) ?_
      refine ao1 (by decide) (o_move (v := .bool _) rfl) ?_
      refine ao_nF rfl rfl (by decide) ?_
      refine ao_nF rfl rfl (by decide) ?_
      refine ao_nF rfl rfl (by decide) ?_
      refine ao_nF rfl rfl (by decide) ?_
      refine ao1 (by decide) (o_pick_t (v := .bool _) rfl rfl) ?_
      exact ao_nil (Out.mk (by (refine congrArg AV.bool ?_; (simp only [jbad, tm] at *; (simp_all; done)))) (by repeat (first | exact SubX.refl _ _ | refine SubX.at ?_ | refine SubX.put rfl ?_)))
    · refine ao_y1 rfl rfl (by decide) (o_move (v := .int _ _) rfl) ?_
      refine ao_y1 rfl rfl (by decide) (o_lt rfl rfl) ?_
      refine ao1 (by decide) (o_pick_f (v := .bool _) rfl rfl) ?_
      refine ao1 (by decide) (o_move (v := .bool _) rfl) ?_
      refine ao_split rfl rfl (fun hg7 => ?_) (fun hg7 => ?_)
      · refine ao_nF rfl rfl (by decide) ?_
        refine ao_nF rfl rfl (by decide) ?_
        refine ao1 (by decide) (o_pick_t (v := .bool _) rfl rfl) ?_
        refine ao1 (by decide) (o_move (v := .bool _) rfl) ?_
        refine ao_nF rfl rfl (by decide) ?_
        refine ao_nF rfl rfl (by decide) ?_
        refine ao_nF rfl rfl (by decide) ?_
        refine ao1 (by decide) (o_pick_t (v := .bool _) rfl rfl) ?_
        refine ao1 (by decide) (o_move (v := .bool _) rfl) ?_
        refine ao_nF rfl rfl (by decide) ?_
        refine ao_nF rfl rfl (by decide) ?_
        refine ao_nF rfl rfl (by decide) ?_
        refine ao_nF rfl rfl (by decide) ?_
        refine ao1 (by decide) (o_pick_t (v := .bool _) rfl rfl) ?_
        refine ao1 (by decide) (o_move (v := .bool _) rfl) ?_
        refine ao_nF rfl rfl (by decide) ?_
        refine ao_nF rfl rfl (by decide) ?_
        refine ao_nF rfl rfl (by decide) ?_
        refine ao_nF rfl rfl (by decide) ?_
        refine ao1 (by decide) (o_pick_t (v := .bool _) rfl rfl) ?_
        exact ao_nil (Out.mk (by (refine congrArg AV.bool ?_; (simp only [jbad, tm] at *; (simp_all; done)))) (by repeat (first | exact SubX.refl _ _ | refine SubX.at ?_ | refine SubX.put rfl ?_)))
      · refine ao_y1 rfl rfl (by decide) (o_move (v := .int _ _) rfl) ?_
        refine ao_y1 rfl rfl (by decide) (o_gt rfl rfl) ?_
        refine ao1 (by decide) (o_pick_f (v := .bool _) rfl rfl) ?_
        refine ao1 (by decide) (o_move (v := .bool _) rfl) ?_
        refine ao_split rfl rfl (fun hg11 => ?_) (fun hg11 => ?_)
        · refine ao_nF rfl rfl (by decide) ?_
          refine ao_nF rfl rfl (by decide) ?_
          refine ao_nF rfl rfl (by decide) ?_
          refine ao1 (by decide) (o_pick_t (v := .bool _) rfl rfl) ?_
          refine ao1 (by decide) (o_move (v := .bool _) rfl) ?_
          refine ao_nF rfl rfl (by decide) ?_
          refine ao_nF rfl rfl (by decide) ?_
          refine ao_nF rfl rfl (by decide) ?_
          refine ao_nF rfl rfl (by decide) ?_
          refine ao1 (by decide) (o_pick_t (v := .bool _) rfl rfl) ?_
          refine ao1 (by decide) (o_move (v := .bool _) rfl) ?_
          refine ao_nF rfl rfl (by decide) ?_
          refine ao_nF rfl rfl (by decide) ?_
          refine ao_nF rfl rfl (by decide) ?_
          refine ao_nF rfl rfl (by decide) ?_
          refine ao1 (by decide) (o_pick_t (v := .bool _) rfl rfl) ?_
          exact ao_nil (Out.mk (by (refine congrArg AV.bool ?_; (simp only [jbad, tm] at *; (simp_all; done)))) (by repeat (first | exact SubX.refl _ _ | refine SubX.at ?_ | refine SubX.put rfl ?_)))
        · refine ao_y1 rfl rfl (by decide) (o_move (v := .int _ _) rfl) ?_
          refine ao_y rfl rfl (by decide) (V2.call (ref11_time _ _) rfl) ?_
          refine ao_y1 rfl rfl (by decide) (o_not rfl) ?_
          refine ao1 (by decide) (o_pick_f (v := .bool _) rfl rfl) ?_
          refine ao1 (by decide) (o_move (v := .bool _) rfl) ?_
          refine ao_split rfl rfl (fun hg16 => ?_) (fun hg16 => ?_)
          · refine ao_nF rfl rfl (by decide) ?_
            refine ao_nF rfl rfl (by decide) ?_
            refine ao_nF rfl rfl (by decide) ?_
            refine ao_nF rfl rfl (by decide) ?_
            refine ao1 (by decide) (o_pick_t (v := .bool _) rfl rfl) ?_
            refine ao1 (by decide) (o_move (v := .bool _) rfl) ?_
            refine ao_nF rfl rfl (by decide) ?_
            refine ao_nF rfl rfl (by decide) ?_
            refine ao_nF rfl rfl (by decide) ?_
            refine ao_nF rfl rfl (by decide) ?_
            refine ao1 (by decide) (o_pick_t (v := .bool _) rfl rfl) ?_
            exact ao_nil (Out.mk (by (refine congrArg AV.bool ?_; (simp only [jbad, tm] at *; (simp_all; done)))) (by repeat (first | exact SubX.refl _ _ | refine SubX.at ?_ | refine SubX.put rfl ?_)))
          · refine ao_y1 rfl rfl (by decide) (o_move (v := .int _ _) rfl) ?_
            refine ao_y1 rfl rfl (by decide) (w_fieldAddr rfl (lk rfl rfl) rfl (by decide)) ?_
            refine ao_y1 rfl rfl (by decide) (w_load1 (v := .int _ _) rfl (lk rfl rfl) rfl rfl rfl) ?_
            refine ao_y1 rfl rfl (by decide) (o_lt rfl rfl) ?_
            refine ao1 (by decide) (o_pick_f (v := .bool _) rfl rfl) ?_
            refine ao1 (by decide) (o_move (v := .bool _) rfl) ?_
            refine ao_split rfl rfl (fun hg22 => ?_) (fun hg22 => ?_)
            · refine ao_nF rfl rfl (by decide) ?_
              refine ao_nF rfl rfl (by decide) ?_
              refine ao_nF rfl rfl (by decide) ?_
              refine ao_nF rfl rfl (by decide) ?_
              refine ao1 (by decide) (o_pick_t (v := .bool _) rfl rfl) ?_
              exact ao_nil (Out.mk (by (refine congrArg AV.bool ?_; (simp only [jbad, tm] at *; (simp_all; omega)))) (by repeat (first | exact SubX.refl _ _ | refine SubX.at ?_ | refine SubX.put rfl ?_)))
            · refine ao_y1 rfl rfl (by decide) (o_move (v := .int _ _) rfl) ?_
              refine ao_y1 rfl rfl (by decide) (w_fieldAddr rfl (lk rfl rfl) rfl (by decide)) ?_
              refine ao_y1 rfl rfl (by decide) (w_load1 (v := .int _ _) rfl (lk rfl rfl) rfl rfl rfl) ?_
              refine ao_y1 rfl rfl (by decide) (o_lt rfl rfl) ?_
              refine ao1 (by decide) (o_pick_f (v := .bool _) rfl rfl) ?_
              exact ao_nil (Out.mk (by (refine congrArg AV.bool ?_; (simp only [jbad, tm] at *; grind))) (by repeat (first | exact SubX.refl _ _ | refine SubX.at ?_ | refine SubX.put rfl ?_)))
  repeat (refine then_nrm ?_)
  refine aw_cond rfl (fun hc => ?_) (fun hc => ?_)
  · repeat (refine aw_seq ?_)
    refine aw_region ?_
    refine ao1 (by decide) (w_loadR rfl (lk rfl rfl) rfl rfl rfl) ?_
    refine ao2 (by rintro _ ⟨⟩) (w_storeW (sz := 13) rfl rfl rfl rfl rfl rfl rfl rfl (Nat.le_of_ble_eq_true rfl)) ?_
    refine ao1 (by decide) (o_assign (v := .int _ _) rfl) ?_
    refine ao_nil ?_
    try dsimp only
    repeat (first | refine then_nrm ?_ | refine then_ret ?_ | refine aw_ret ?_)
    rw [show jdo j w now = (j, 1) by rw [jdo, if_pos hc]]
    exact e_done hB (r_cellR rfl (lk rfl rfl) rfl rfl rfl (r_tmp rfl .nil)) rfl rfl
  have hb : jbad j w now = false := hc
  have hb2 := hb
  simp only [jbad, Bool.or_eq_false_iff, Bool.not_eq_false', decide_eq_false_iff_not] at hb2
  obtain ⟨⟨⟨⟨hjr, hw1⟩, hw2⟩, hnow⟩, hmx⟩ := hb2
  have hst := jright_state hjr
  have c4 := fun H => ref11_Next j.state w hst (by omega) H
  cases hnx : jnext j.state w with
  | none =>
    rw [hnx] at c4
    repeat (first | refine then_nrm ?_ | refine aw_seq ?_ | refine aw_skip ?_)
    refine aw_region ?_
    refine ao1 (by decide) (w_fieldAddr rfl (lk rfl rfl) rfl (by decide)) ?_
    refine ao1 (by decide) (w_load1 (v := .int _ _) rfl (lk rfl rfl) rfl rfl rfl) ?_
    refine ao1 (by decide) (o_move (v := .int _ _) rfl) ?_
    refine ao2 (by rintro _ ⟨⟩; decide) (V2.call (c4 _) rfl) ?_
    refine ao1 (by decide) (o_assign (v := .int _ _) rfl) ?_
    refine ao_nil ?_
    try dsimp only
    repeat (first | refine then_nrm ?_ | refine aw_seq ?_)
    refine aw_region ?_
    refine ao1 (by decide) (o_move (v := .int _ _) rfl) ?_
    refine ao1 (by decide) (o_lt rfl rfl) ?_
    refine ao_nil ?_
    repeat (refine then_nrm ?_)
    refine aw_cond rfl (fun hc => ?_) (fun hc => ?_)
    · repeat (refine aw_seq ?_)
      refine aw_region ?_
      refine ao1 (by decide) (w_loadR rfl (lk rfl rfl) rfl rfl rfl) ?_
      refine ao2 (by rintro _ ⟨⟩) (w_storeW (sz := 13) rfl rfl rfl rfl rfl rfl rfl rfl (Nat.le_of_ble_eq_true rfl)) ?_
      refine ao1 (by decide) (o_assign (v := .int _ _) rfl) ?_
      refine ao_nil ?_
      try dsimp only
      repeat (first | refine then_nrm ?_ | refine then_ret ?_ | refine aw_ret ?_)
      rw [show jdo j w now = (j, 8) by rw [jdo, if_neg (by rw [hb]; simp), hnx]]
      exact e_done hB (r_cellR rfl (lk rfl rfl) rfl rfl rfl (r_tmp rfl .nil)) rfl rfl
    · simp at hc
  | some s =>
    have hsi := jnext_in hst.1 hnx
    rw [hnx] at c4
    rw [show jdo j w now = (jstep j s now, 0) by rw [jdo, if_neg (by rw [hb]; simp), hnx]]
    repeat (first | refine then_nrm ?_ | refine aw_seq ?_ | refine aw_skip ?_)
    refine aw_region ?_
    refine ao1 (by decide) (w_fieldAddr rfl (lk rfl rfl) rfl (by decide)) ?_
    refine ao1 (by decide) (w_load1 (v := .int _ _) rfl (lk rfl rfl) rfl rfl rfl) ?_
    refine ao1 (by decide) (o_move (v := .int _ _) rfl) ?_
    refine ao2 (by rintro _ ⟨⟩; decide) (V2.call (c4 _) rfl) ?_
    refine ao1 (by decide) (o_assign (v := .int _ _) rfl) ?_
    refine ao_nil ?_
    try dsimp only
    repeat (first | refine then_nrm ?_ | refine aw_seq ?_)
    refine aw_region ?_
    refine ao1 (by decide) (o_move (v := .int _ _) rfl) ?_
    refine ao1 (by decide) (o_lt rfl rfl) ?_
    refine ao_nil ?_
    repeat (refine then_nrm ?_)
    refine aw_cond rfl (fun hc => ?_) (fun hc => ?_)
    · simp at hc; omega
    repeat (first | refine then_nrm ?_ | refine aw_seq ?_ | refine aw_skip ?_)
    refine aw_region ?_
    refine ao1 (by decide) (o_move (v := .int _ _) rfl) ?_
    refine ao1 (by decide) (w_fieldAddr rfl (lk rfl rfl) rfl (by decide)) ?_
    refine ao2 (by rintro _ ⟨⟩) (w_storeP (sz := 1) (v := .int _ _) (r' := [_, _, _, _, _, _, _, _, _, _, _, _, _]) rfl rfl rfl rfl rfl rfl rfl rfl (Nat.le_of_ble_eq_true rfl) rfl) ?_
    refine ao_nil ?_
    try dsimp only
    repeat (first | refine then_nrm ?_ | refine aw_seq ?_)
    refine aw_region ?_
    refine ao1 (by decide) (o_move (v := .int _ _) rfl) ?_
    refine ao1 (by decide) (o_eq rfl rfl) ?_
    refine ao_nil ?_
    repeat (refine then_nrm ?_)
    refine aw_cond rfl (fun hc => ?_) (fun hc => ?_)
    · have hs : s = 2 := by simpa using hc
      rw [show jstep j s now = ⟨j.id, j.spec, j.needs, s, j.came, now, j.to⟩ by rw [jstep, if_pos hs, if_neg (by rw [hs]; decide)]]
      refine aw_region ?_
      refine ao1 (by decide) (o_move (v := .int _ _) rfl) ?_
      refine ao1 (by decide) (w_fieldAddr rfl (lk rfl rfl) rfl (by decide)) ?_
      refine ao2 (by rintro _ ⟨⟩) (w_storeP (sz := 1) (v := .int _ _) (r' := [_, _, _, _, _, _, _, _, _, _, _, _, _]) rfl rfl rfl rfl rfl rfl rfl rfl (Nat.le_of_ble_eq_true rfl) rfl) ?_
      refine ao_nil ?_
      try dsimp only
      repeat (first | refine then_nrm ?_ | refine aw_seq ?_)
      refine aw_region ?_
      refine ao1 (by decide) (o_move (v := .int _ _) rfl) ?_
      refine ao1 (by decide) (o_gt rfl rfl) ?_
      refine ao_nil ?_
      repeat (refine then_nrm ?_)
      refine aw_cond rfl (fun hc => ?_) (fun hc => ?_)
      · simp at hc; omega
      repeat (first | refine then_nrm ?_ | refine aw_seq ?_ | refine aw_skip ?_)
      refine aw_region ?_
      refine ao1 (by decide) (w_loadR rfl (lk rfl rfl) rfl rfl rfl) ?_
      refine ao2 (by rintro _ ⟨⟩) (w_storeW (sz := 13) rfl rfl rfl rfl rfl rfl rfl rfl (Nat.le_of_ble_eq_true rfl)) ?_
      refine ao1 (by decide) (o_assign (v := .int _ _) rfl) ?_
      refine ao_nil ?_
      try dsimp only
      repeat (first | refine then_nrm ?_ | refine aw_ret ?_)
      exact e_done hB (r_cellR rfl (lk rfl rfl) rfl rfl rfl (r_tmp rfl .nil)) rfl rfl
    · have hs : ¬ s = 2 := by simpa using hc
      repeat (first | refine then_nrm ?_ | refine aw_seq ?_ | refine aw_skip ?_)
      refine aw_region ?_
      refine ao1 (by decide) (o_move (v := .int _ _) rfl) ?_
      refine ao1 (by decide) (o_gt rfl rfl) ?_
      refine ao_nil ?_
      repeat (refine then_nrm ?_)
      refine aw_cond rfl (fun hc => ?_) (fun hc => ?_)
      · have hv : jover s = true := by simp at hc; simp [jover]; omega
        rw [show jstep j s now = ⟨j.id, j.spec, j.needs, s, j.came, j.frm, now⟩ by rw [jstep, if_neg hs, if_pos hv]]
        refine aw_region ?_
        refine ao1 (by decide) (o_move (v := .int _ _) rfl) ?_
        refine ao1 (by decide) (w_fieldAddr rfl (lk rfl rfl) rfl (by decide)) ?_
        refine ao2 (by rintro _ ⟨⟩) (w_storeP (sz := 1) (v := .int _ _) (r' := [_, _, _, _, _, _, _, _, _, _, _, _, _]) rfl rfl rfl rfl rfl rfl rfl rfl (Nat.le_of_ble_eq_true rfl) rfl) ?_
        refine ao_nil ?_
        try dsimp only
        repeat (first | refine then_nrm ?_ | refine aw_seq ?_)
        refine aw_region ?_
        refine ao1 (by decide) (w_loadR rfl (lk rfl rfl) rfl rfl rfl) ?_
        refine ao2 (by rintro _ ⟨⟩) (w_storeW (sz := 13) rfl rfl rfl rfl rfl rfl rfl rfl (Nat.le_of_ble_eq_true rfl)) ?_
        refine ao1 (by decide) (o_assign (v := .int _ _) rfl) ?_
        refine ao_nil ?_
        try dsimp only
        repeat (first | refine then_nrm ?_ | refine aw_ret ?_)
        exact e_done hB (r_cellR rfl (lk rfl rfl) rfl rfl rfl (r_tmp rfl .nil)) rfl rfl
      · have hv : jover s = false := by simp at hc; simp [jover]; omega
        rw [show jstep j s now = ⟨j.id, j.spec, j.needs, s, j.came, j.frm, j.to⟩ by rw [jstep, if_neg hs, if_neg (by rw [hv]; simp)]]
        repeat (first | refine then_nrm ?_ | refine aw_seq ?_ | refine aw_skip ?_)
        refine aw_region ?_
        refine ao1 (by decide) (w_loadR rfl (lk rfl rfl) rfl rfl rfl) ?_
        refine ao2 (by rintro _ ⟨⟩) (w_storeW (sz := 13) rfl rfl rfl rfl rfl rfl rfl rfl (Nat.le_of_ble_eq_true rfl)) ?_
        refine ao1 (by decide) (o_assign (v := .int _ _) rfl) ?_
        refine ao_nil ?_
        try dsimp only
        repeat (first | refine then_nrm ?_ | refine aw_ret ?_)
        exact e_done hB (r_cellR rfl (lk rfl rfl) rfl rfl rfl (r_tmp rfl .nil)) rfl rfl

theorem eq_step {α : Type} {a b : List α} {k : Nat} {x : α} (hx : a[k]? = some x) (hy : b[k]? = some x) (h : a.take k = b.take k) : a.take (k + 1) = b.take (k + 1) := by
  rw [take_snoc_get hx, take_snoc_get hy, h]
theorem eq_done {α : Type} {a b : List α} (hn : a.length = b.length) (h : a.take a.length = b.take a.length) : a = b := by
  rw [List.take_length, hn, List.take_length] at h; exact h
theorem ne_at {α : Type} {a b : List α} {k : Nat} {x y : α} (hx : a[k]? = some x) (hy : b[k]? = some y) (h : x ≠ y) : a ≠ b := by
  rintro rfl; rw [hx] at hy; exact h (Option.some.inj hy)
theorem ref01_Same (a b : List Int) (H : Heap) (ha : a.length ≤ 1000000000) : AC Try.prog 41 [.pl (a.map eI), .pl (b.map eI)] H (Ret (.bool (decide (a = b))) H) := by
  refine AC.body (N := 26) [.tmp 4] Try.func41 rfl rfl rfl (Nat.le_of_ble_eq_true rfl) fun B hB => ?_
  repeat (refine aw_seq ?_)
  refine aw_region ?_
  refine ao1 (by decide) (o_assign (v := .bool _) rfl) ?_
  refine ao_nil ?_
  repeat (first | refine then_nrm ?_ | refine aw_seq ?_)
  refine aw_region ?_
  refine ao1 (by decide) (o_move (v := .pl _) rfl) ?_
  refine ao1 (by decide) (o_lenp rfl) ?_
  refine ao1 (by decide) (o_move (v := .pl _) rfl) ?_
  refine ao1 (by decide) (o_lenp rfl) ?_
  refine ao1 (by decide) (o_ne rfl rfl) ?_
  refine ao_nil ?_
  repeat (refine then_nrm ?_)
  refine aw_cond rfl (fun hc => ?_) (fun hc => ?_)
  · have hn : a.length ≠ b.length := by simp at hc; omega
    rw [show decide (a = b) = false by simp; intro e; exact hn (congrArg List.length e)]
    repeat (refine aw_seq ?_)
    refine aw_region ?_
    refine ao1 (by decide) (o_assign (v := .bool _) rfl) ?_
    refine ao_nil ?_
    repeat (first | refine then_nrm ?_ | refine then_ret ?_ | refine aw_ret ?_)
    exact e_done hB (r_tmp rfl .nil) rfl rfl
  have hn : a.length = b.length := by simp at hc; omega
  repeat (first | refine then_nrm ?_ | refine aw_seq ?_ | refine aw_skip ?_)
  refine aw_region ?_
  refine ao1 (by decide) (o_assign (v := .int _ _) rfl) ?_
  refine ao_nil ?_
  repeat (first | refine then_nrm ?_ | refine aw_block ?_)
  refine aw_loop (G := Nat) (fun k => k ≤ a.length ∧ a.take k = b.take k) (fun k => [(0, .pl (a.map eI)), (1, .pl (b.map eI)), (5, .int .i64 (k : Int))]) (fun _ => H ++ []) (fun k => a.length - k) 0 ⟨Nat.zero_le _, by simp⟩ (by repeat (first | exact Sub.nil | refine Sub.cons (by rfl) ?_)) (Fit.refl _ _) ?_
  rintro k ⟨hk, he⟩
  repeat (refine aw_seq ?_)
  refine aw_region ?_
  refine ao1 (by decide) (o_move (v := .int _ _) rfl) ?_
  refine ao1 (by decide) (o_move (v := .pl _) rfl) ?_
  refine ao1 (by decide) (o_lenp rfl) ?_
  refine ao1 (by decide) (o_lt rfl rfl) ?_
  refine ao_nil ?_
  repeat (refine then_nrm ?_)
  refine aw_cond rfl (fun hc => ?_) (fun hc => ?_)
  · have hlt : k < a.length := by simpa using hc
    obtain ⟨x, hx, _⟩ := get_in hlt
    obtain ⟨y, hy, _⟩ := get_in (l := b) (k := k) (by omega)
    have hr := map_get eI hx
    have hr1 := map_get eI hy
    repeat (first | refine then_nrm ?_ | refine aw_seq ?_ | refine aw_block ?_ | refine aw_skip ?_)
    refine aw_drawP mixed none 999 ?_
    refine aq0 0 rfl (by decide +kernel) (by decide) (fun _ => o_move (v := .pl _) rfl) ?_
    refine aq0 1 rfl (by decide +kernel) (by decide) (fun _ => o_move (v := .int _ _) rfl) ?_
    refine aqp 2 rfl (by decide +kernel) (by decide) (fun G => w_indexAddrpN rfl rfl hr rfl) ?_
    refine aqp 3 rfl (by decide +kernel) (by decide) (fun G => o_load1p (v := .int _ _) rfl hr rfl) ?_
    refine aq0 4 rfl (by decide +kernel) (by decide) (fun _ => o_move (v := .pl _) rfl) ?_
    refine aq0 5 rfl (by decide +kernel) (by decide) (fun _ => o_move (v := .int _ _) rfl) ?_
    refine aqp 6 rfl (by decide +kernel) (by decide) (fun G => w_indexAddrpN rfl rfl hr1 rfl) ?_
    refine aqp 7 rfl (by decide +kernel) (by decide) (fun G => o_load1p (v := .int _ _) rfl hr1 rfl) ?_
    refine aq0 8 rfl (by decide +kernel) (by decide) (fun _ => o_ne rfl rfl) ?_
    refine aa_done (by decide +kernel) (by exact fun _ => ⟨_, rfl⟩) ?_
    repeat (refine then_nrm ?_)
    refine aw_cond rfl (fun hc => ?_) (fun hc => ?_)
    · rw [show decide (a = b) = false by simp; exact ne_at hx hy (by simpa using hc)]
      repeat (refine aw_seq ?_)
      refine aw_region ?_
      refine ao1 (by decide) (o_assign (v := .bool _) rfl) ?_
      refine ao_nil ?_
      repeat (first | refine then_nrm ?_ | refine then_ret ?_ | refine blk_ret ?_ | refine aw_ret ?_)
      exact e_done hB (r_tmp rfl .nil) rfl rfl
    · have hxy : x = y := by simpa using hc
      subst hxy
      repeat (first | refine then_nrm ?_ | refine blk_nrm ?_ | refine aw_skip ?_)
      refine aw_region ?_
      refine ao1 (by decide) (o_move (v := .int _ _) rfl) ?_
      refine ao1 (by decide) (o_add rfl rfl (wrap64_ok (by omega) (by omega))) ?_
      refine ao1 (by decide) (o_assign (v := .int _ _) rfl) ?_
      refine ao_nil ?_
      repeat (refine then_nrm ?_)
      exact ⟨k + 1, by omega, ⟨by omega, eq_step hx hy he⟩, (by repeat (first | exact Sub.nil | refine Sub.cons (by rfl) ?_)), .refl _ _⟩
  · have : k = a.length := by simp at hc; omega
    subst this
    rw [show decide (a = b) = true by simp; exact eq_done hn he]
    repeat (first | refine then_nrm ?_ | refine then_brk ?_ | refine blk_hit ?_ | refine aw_seq ?_ | refine aw_exit ?_)
    refine aw_region ?_
    refine ao1 (by decide) (o_assign (v := .bool _) rfl) ?_
    refine ao_nil ?_
    repeat (first | refine then_nrm ?_ | refine aw_ret ?_)
    exact e_done hB (r_tmp rfl .nil) rfl rfl
set_option maxHeartbeats 0 in
theorem ref11_Same (a b : Job) (H : Heap) (ha : a.needs.length ≤ 1000000) : AC Try.prog 24 [.agg (eJob a), .agg (eJob b)] H (Ret (.bool (decide (a = b))) H) := by
  have he : decide (a = b) = (a.id == b.id && decide (a.spec = b.spec) && a.state == b.state && a.came == b.came && a.frm == b.frm && a.to == b.to && decide (a.needs = b.needs)) := by
    cases a; cases b; simp [Bool.beq_eq_decide_eq]; grind
  rw [he]
  refine AC.body (N := 52) [.tmp 4] Try.func24 rfl rfl rfl (Nat.le_of_ble_eq_true rfl) fun B hB => ?_
  repeat (refine aw_seq ?_)
  refine aw_region ?_
  refine ao2 (by rintro _ ⟨⟩; decide) (o_boxL (sz := 13) (v := .agg _) rfl rfl rfl rfl (by decide) rfl) ?_
  refine ao2 (by rintro _ ⟨⟩; decide) (o_boxL (sz := 13) (v := .agg _) rfl rfl rfl rfl (by decide) rfl) ?_
  refine ao1 (by decide) (o_assign (v := .bool _) rfl) ?_
  refine ao_nil ?_
  try dsimp only
  repeat (first | refine then_nrm ?_ | refine aw_seq ?_)
  refine aw_out 4 (.bool (a.id == b.id && decide (a.spec = b.spec) && a.state == b.state && a.came == b.came && a.frm == b.frm && a.to == b.to && decide (a.needs = b.needs))) ?_ ?_
  · refine ao1 (by decide) (w_fieldAddr rfl (lk rfl rfl) rfl (by decide)) ?_
    refine ao1 (by decide) (w_load1 (v := .int _ _) rfl (lk rfl rfl) rfl rfl rfl) ?_
    refine ao1 (by decide) (w_fieldAddr rfl (lk rfl rfl) rfl (by decide)) ?_
    refine ao1 (by decide) (w_load1 (v := .int _ _) rfl (lk rfl rfl) rfl rfl rfl) ?_
    refine ao1 (by decide) (o_eq rfl rfl) ?_
    refine ao1 (by decide) (o_move (v := .bool _) rfl) ?_
    refine ao_split rfl rfl (fun hg5 => ?_) (fun hg5 => ?_)
    · refine ao_y1 rfl rfl (by decide) (w_fieldAddr rfl (lk rfl rfl) rfl (by decide)) ?_
      refine ao_y1 rfl rfl (by decide) (w_loadN (cs := [_, _, _, _, _, _, _]) rfl (lk rfl rfl) rfl rfl rfl rfl) ?_
      refine ao_y1 rfl rfl (by decide) (w_fieldAddr rfl (lk rfl rfl) rfl (by decide)) ?_
      refine ao_y1 rfl rfl (by decide) (w_loadN (cs := [_, _, _, _, _, _, _]) rfl (lk rfl rfl) rfl rfl rfl rfl) ?_
      refine ao_y1 rfl rfl (by decide) (o_eqAgg (us := uSpec a.spec) (vs := uSpec b.spec) rfl rfl rfl rfl (by kernel_rfl) (eqSpec_run _ _)) ?_
      refine ao1 (by decide) (o_pick_t (v := .bool _) rfl rfl) ?_
      refine ao1 (by decide) (o_move (v := .bool _) rfl) ?_
      refine ao_split rfl rfl (fun hg12 => ?_) (fun hg12 => ?_)
      · refine ao_y1 rfl rfl (by decide) (w_fieldAddr rfl (lk rfl rfl) rfl (by decide)) ?_
        refine ao_y1 rfl rfl (by decide) (w_load1 (v := .int _ _) rfl (lk rfl rfl) rfl rfl rfl) ?_
        refine ao_y1 rfl rfl (by decide) (w_fieldAddr rfl (lk rfl rfl) rfl (by decide)) ?_
        refine ao_y1 rfl rfl (by decide) (w_load1 (v := .int _ _) rfl (lk rfl rfl) rfl rfl rfl) ?_
        refine ao_y1 rfl rfl (by decide) (o_eq rfl rfl) ?_
        refine ao1 (by decide) (o_pick_t (v := .bool _) rfl rfl) ?_
        refine ao1 (by decide) (o_move (v := .bool _) rfl) ?_
        refine ao_split rfl rfl (fun hg19 => ?_) (fun hg19 => ?_)
        · refine ao_y1 rfl rfl (by decide) (w_fieldAddr rfl (lk rfl rfl) rfl (by decide)) ?_
          refine ao_y1 rfl rfl (by decide) (w_load1 (v := .int _ _) rfl (lk rfl rfl) rfl rfl rfl) ?_
          refine ao_y1 rfl rfl (by decide) (w_fieldAddr rfl (lk rfl rfl) rfl (by decide)) ?_
          refine ao_y1 rfl rfl (by decide) (w_load1 (v := .int _ _) rfl (lk rfl rfl) rfl rfl rfl) ?_
          refine ao_y1 rfl rfl (by decide) (o_eq rfl rfl) ?_
          refine ao1 (by decide) (o_pick_t (v := .bool _) rfl rfl) ?_
          refine ao1 (by decide) (o_move (v := .bool _) rfl) ?_
          refine ao_split rfl rfl (fun hg26 => ?_) (fun hg26 => ?_)
          · refine ao_y1 rfl rfl (by decide) (w_fieldAddr rfl (lk rfl rfl) rfl (by decide)) ?_
            refine ao_y1 rfl rfl (by decide) (w_load1 (v := .int _ _) rfl (lk rfl rfl) rfl rfl rfl) ?_
            refine ao_y1 rfl rfl (by decide) (w_fieldAddr rfl (lk rfl rfl) rfl (by decide)) ?_
            refine ao_y1 rfl rfl (by decide) (w_load1 (v := .int _ _) rfl (lk rfl rfl) rfl rfl rfl) ?_
            refine ao_y1 rfl rfl (by decide) (o_eq rfl rfl) ?_
            refine ao1 (by decide) (o_pick_t (v := .bool _) rfl rfl) ?_
            refine ao1 (by decide) (o_move (v := .bool _) rfl) ?_
            refine ao_split rfl rfl (fun hg33 => ?_) (fun hg33 => ?_)
            · refine ao_y1 rfl rfl (by decide) (w_fieldAddr rfl (lk rfl rfl) rfl (by decide)) ?_
              refine ao_y1 rfl rfl (by decide) (w_load1 (v := .int _ _) rfl (lk rfl rfl) rfl rfl rfl) ?_
              refine ao_y1 rfl rfl (by decide) (w_fieldAddr rfl (lk rfl rfl) rfl (by decide)) ?_
              refine ao_y1 rfl rfl (by decide) (w_load1 (v := .int _ _) rfl (lk rfl rfl) rfl rfl rfl) ?_
              refine ao_y1 rfl rfl (by decide) (o_eq rfl rfl) ?_
              refine ao1 (by decide) (o_pick_t (v := .bool _) rfl rfl) ?_
              refine ao1 (by decide) (o_move (v := .bool _) rfl) ?_
              refine ao_split rfl rfl (fun hg40 => ?_) (fun hg40 => ?_)
              · refine ao_y1 rfl rfl (by decide) (w_fieldAddr rfl (lk rfl rfl) rfl (by decide)) ?_
                refine ao_y1 rfl rfl (by decide) (w_load1 (v := .pl _) rfl (lk rfl rfl) rfl rfl rfl) ?_
                refine ao_y1 rfl rfl (by decide) (w_fieldAddr rfl (lk rfl rfl) rfl (by decide)) ?_
                refine ao_y1 rfl rfl (by decide) (w_load1 (v := .pl _) rfl (lk rfl rfl) rfl rfl rfl) ?_
                refine ao_y rfl rfl (by decide) (V2.call (ref01_Same a.needs b.needs _ (by omega)) rfl) ?_
                refine ao1 (by decide) (o_pick_t (v := .bool _) rfl rfl) ?_
                refine ao1 (by decide) (o_assign (v := .bool _) rfl) ?_
                exact ao_nil (Out.mk (by (refine congrArg AV.bool ?_; (simp_all))) (by repeat (first | exact SubX.refl _ _ | refine SubX.at ?_ | refine SubX.put rfl ?_)))
              · refine ao_nT rfl rfl (by decide) ?_
                refine ao_nT rfl rfl (by decide) ?_
                refine ao_nT rfl rfl (by decide) ?_
                refine ao_nT rfl rfl (by decide) ?_
                refine ao_nT rfl rfl (by decide) ?_
                refine ao1 (by decide) (o_pick_f (v := .bool _) rfl rfl) ?_
                refine ao1 (by decide) (o_assign (v := .bool _) rfl) ?_
                exact ao_nil (Out.mk (by (refine congrArg AV.bool ?_; (simp_all))) (by repeat (first | exact SubX.refl _ _ | refine SubX.at ?_ | refine SubX.put rfl ?_)))
            · refine ao_nT rfl rfl (by decide) ?_
              refine ao_nT rfl rfl (by decide) ?_
              refine ao_nT rfl rfl (by decide) ?_
              refine ao_nT rfl rfl (by decide) ?_
              refine ao_nT rfl rfl (by decide) ?_
              refine ao1 (by decide) (o_pick_f (v := .bool _) rfl rfl) ?_
              refine ao1 (by decide) (o_move (v := .bool _) rfl) ?_
              refine ao_nT rfl rfl (by decide) ?_
              refine ao_nT rfl rfl (by decide) ?_
              refine ao_nT rfl rfl (by decide) ?_
              refine ao_nT rfl rfl (by decide) ?_
              refine ao_nT rfl rfl (by decide) ?_
              refine ao1 (by decide) (o_pick_f (v := .bool _) rfl rfl) ?_
              refine ao1 (by decide) (o_assign (v := .bool _) rfl) ?_
              exact ao_nil (Out.mk (by (refine congrArg AV.bool ?_; (simp_all))) (by repeat (first | exact SubX.refl _ _ | refine SubX.at ?_ | refine SubX.put rfl ?_)))
          · refine ao_nT rfl rfl (by decide) ?_
            refine ao_nT rfl rfl (by decide) ?_
            refine ao_nT rfl rfl (by decide) ?_
            refine ao_nT rfl rfl (by decide) ?_
            refine ao_nT rfl rfl (by decide) ?_
            refine ao1 (by decide) (o_pick_f (v := .bool _) rfl rfl) ?_
            refine ao1 (by decide) (o_move (v := .bool _) rfl) ?_
            refine ao_nT rfl rfl (by decide) ?_
            refine ao_nT rfl rfl (by decide) ?_
            refine ao_nT rfl rfl (by decide) ?_
            refine ao_nT rfl rfl (by decide) ?_
            refine ao_nT rfl rfl (by decide) ?_
            refine ao1 (by decide) (o_pick_f (v := .bool _) rfl rfl) ?_
            refine ao1 (by decide) (o_move (v := .bool _) rfl) ?_
            refine ao_nT rfl rfl (by decide) ?_
            refine ao_nT rfl rfl (by decide) ?_
            refine ao_nT rfl rfl (by decide) ?_
            refine ao_nT rfl rfl (by decide) ?_
            refine ao_nT rfl rfl (by decide) ?_
            refine ao1 (by decide) (o_pick_f (v := .bool _) rfl rfl) ?_
            refine ao1 (by decide) (o_assign (v := .bool _) rfl) ?_
            exact ao_nil (Out.mk (by (refine congrArg AV.bool ?_; (simp_all))) (by repeat (first | exact SubX.refl _ _ | refine SubX.at ?_ | refine SubX.put rfl ?_)))
        · refine ao_nT rfl rfl (by decide) ?_
          refine ao_nT rfl rfl (by decide) ?_
          refine ao_nT rfl rfl (by decide) ?_
          refine ao_nT rfl rfl (by decide) ?_
          refine ao_nT rfl rfl (by decide) ?_
          refine ao1 (by decide) (o_pick_f (v := .bool _) rfl rfl) ?_
          refine ao1 (by decide) (o_move (v := .bool _) rfl) ?_
          refine ao_nT rfl rfl (by decide) ?_
          refine ao_nT rfl rfl (by decide) ?_
          refine ao_nT rfl rfl (by decide) ?_
          refine ao_nT rfl rfl (by decide) ?_
          refine ao_nT rfl rfl (by decide) ?_
          refine ao1 (by decide) (o_pick_f (v := .bool _) rfl rfl) ?_
          refine ao1 (by decide) (o_move (v := .bool _) rfl) ?_
          refine ao_nT rfl rfl (by decide) ?_
          refine ao_nT rfl rfl (by decide) ?_
          refine ao_nT rfl rfl (by decide) ?_
          refine ao_nT rfl rfl (by decide) ?_
          refine ao_nT rfl rfl (by decide) ?_
          refine ao1 (by decide) (o_pick_f (v := .bool _) rfl rfl) ?_
          refine ao1 (by decide) (o_move (v := .bool _) rfl) ?_
          refine ao_nT rfl rfl (by decide) ?_
          refine ao_nT rfl rfl (by decide) ?_
          refine ao_nT rfl rfl (by decide) ?_
          refine ao_nT rfl rfl (by decide) ?_
          refine ao_nT rfl rfl (by decide) ?_
          refine ao1 (by decide) (o_pick_f (v := .bool _) rfl rfl) ?_
          refine ao1 (by decide) (o_assign (v := .bool _) rfl) ?_
          exact ao_nil (Out.mk (by (refine congrArg AV.bool ?_; (simp_all))) (by repeat (first | exact SubX.refl _ _ | refine SubX.at ?_ | refine SubX.put rfl ?_)))
      · refine ao_nT rfl rfl (by decide) ?_
        refine ao_nT rfl rfl (by decide) ?_
        refine ao_nT rfl rfl (by decide) ?_
        refine ao_nT rfl rfl (by decide) ?_
        refine ao_nT rfl rfl (by decide) ?_
        refine ao1 (by decide) (o_pick_f (v := .bool _) rfl rfl) ?_
        refine ao1 (by decide) (o_move (v := .bool _) rfl) ?_
        refine ao_nT rfl rfl (by decide) ?_
        refine ao_nT rfl rfl (by decide) ?_
        refine ao_nT rfl rfl (by decide) ?_
        refine ao_nT rfl rfl (by decide) ?_
        refine ao_nT rfl rfl (by decide) ?_
        refine ao1 (by decide) (o_pick_f (v := .bool _) rfl rfl) ?_
        refine ao1 (by decide) (o_move (v := .bool _) rfl) ?_
        refine ao_nT rfl rfl (by decide) ?_
        refine ao_nT rfl rfl (by decide) ?_
        refine ao_nT rfl rfl (by decide) ?_
        refine ao_nT rfl rfl (by decide) ?_
        refine ao_nT rfl rfl (by decide) ?_
        refine ao1 (by decide) (o_pick_f (v := .bool _) rfl rfl) ?_
        refine ao1 (by decide) (o_move (v := .bool _) rfl) ?_
        refine ao_nT rfl rfl (by decide) ?_
        refine ao_nT rfl rfl (by decide) ?_
        refine ao_nT rfl rfl (by decide) ?_
        refine ao_nT rfl rfl (by decide) ?_
        refine ao_nT rfl rfl (by decide) ?_
        refine ao1 (by decide) (o_pick_f (v := .bool _) rfl rfl) ?_
        refine ao1 (by decide) (o_move (v := .bool _) rfl) ?_
        refine ao_nT rfl rfl (by decide) ?_
        refine ao_nT rfl rfl (by decide) ?_
        refine ao_nT rfl rfl (by decide) ?_
        refine ao_nT rfl rfl (by decide) ?_
        refine ao_nT rfl rfl (by decide) ?_
        refine ao1 (by decide) (o_pick_f (v := .bool _) rfl rfl) ?_
        refine ao1 (by decide) (o_assign (v := .bool _) rfl) ?_
        exact ao_nil (Out.mk (by (refine congrArg AV.bool ?_; (simp_all))) (by repeat (first | exact SubX.refl _ _ | refine SubX.at ?_ | refine SubX.put rfl ?_)))
    · refine ao_nT rfl rfl (by decide) ?_
      refine ao_nT rfl rfl (by decide) ?_
      refine ao_nT rfl rfl (by decide) ?_
      refine ao_nT rfl rfl (by decide) ?_
      refine ao_nT rfl rfl (by decide) ?_
      refine ao1 (by decide) (o_pick_f (v := .bool _) rfl rfl) ?_
      refine ao1 (by decide) (o_move (v := .bool _) rfl) ?_
      refine ao_nT rfl rfl (by decide) ?_
      refine ao_nT rfl rfl (by decide) ?_
      refine ao_nT rfl rfl (by decide) ?_
      refine ao_nT rfl rfl (by decide) ?_
      refine ao_nT rfl rfl (by decide) ?_
      refine ao1 (by decide) (o_pick_f (v := .bool _) rfl rfl) ?_
      refine ao1 (by decide) (o_move (v := .bool _) rfl) ?_
      refine ao_nT rfl rfl (by decide) ?_
      refine ao_nT rfl rfl (by decide) ?_
      refine ao_nT rfl rfl (by decide) ?_
      refine ao_nT rfl rfl (by decide) ?_
      refine ao_nT rfl rfl (by decide) ?_
      refine ao1 (by decide) (o_pick_f (v := .bool _) rfl rfl) ?_
      refine ao1 (by decide) (o_move (v := .bool _) rfl) ?_
      refine ao_nT rfl rfl (by decide) ?_
      refine ao_nT rfl rfl (by decide) ?_
      refine ao_nT rfl rfl (by decide) ?_
      refine ao_nT rfl rfl (by decide) ?_
      refine ao_nT rfl rfl (by decide) ?_
      refine ao1 (by decide) (o_pick_f (v := .bool _) rfl rfl) ?_
      refine ao1 (by decide) (o_move (v := .bool _) rfl) ?_
      refine ao_nT rfl rfl (by decide) ?_
      refine ao_nT rfl rfl (by decide) ?_
      refine ao_nT rfl rfl (by decide) ?_
      refine ao_nT rfl rfl (by decide) ?_
      refine ao_nT rfl rfl (by decide) ?_
      refine ao1 (by decide) (o_pick_f (v := .bool _) rfl rfl) ?_
      refine ao1 (by decide) (o_move (v := .bool _) rfl) ?_
      refine ao_nT rfl rfl (by decide) ?_
      refine ao_nT rfl rfl (by decide) ?_
      refine ao_nT rfl rfl (by decide) ?_
      refine ao_nT rfl rfl (by decide) ?_
      refine ao_nT rfl rfl (by decide) ?_
      refine ao1 (by decide) (o_pick_f (v := .bool _) rfl rfl) ?_
      refine ao1 (by decide) (o_assign (v := .bool _) rfl) ?_
      exact ao_nil (Out.mk (by (refine congrArg AV.bool ?_; (simp_all))) (by repeat (first | exact SubX.refl _ _ | refine SubX.at ?_ | refine SubX.put rfl ?_)))
  repeat (first | refine then_nrm ?_ | refine aw_ret ?_)
  exact e_done hB (r_tmp rfl .nil) rfl rfl
end Go.Av
