/- A part of the proof: walks through the program over abstract values. -/
import Derived.Test.YtmhfpopbhiloiaaU9
namespace Go.Av
open Go.Proofs
set_option maxRecDepth 10000
set_option linter.unusedSimpArgs false
set_option linter.unusedVariables false


def jright (j : Job) : Bool := decide (1 ≤ j.id) && decide (j.id ≤ 1073741824) && sright j.spec && jneeds j && tm j.came && jtimes j
theorem job_Right (j : Job) (H : Heap) : AC Try.prog 22 [.agg (eJob j)] H (Ret (.bool (jright j)) H) := by
  refine AC.body (N := 29) [.tmp 2] Try.func22 rfl rfl rfl (Nat.le_of_ble_eq_true rfl) fun B hB => ?_
  repeat (refine aw_seq ?_)
  refine aw_region ?_
  refine ao2 (by rintro _ ⟨⟩; decide) (o_boxL (sz := 13) (v := .agg _) rfl rfl rfl rfl (by decide) rfl) ?_
  refine ao1 (by decide) (o_assign (v := .bool _) rfl) ?_
  refine ao_nil ?_
  try dsimp only
  repeat (first | refine then_nrm ?_ | refine aw_seq ?_)
  refine aw_out 2 (.bool (jright j)) ?_ ?_
  · refine ao1 (by decide) (w_fieldAddr rfl (lk rfl rfl) rfl (by decide)) ?_
    refine ao1 (by decide) (w_load1 (v := .int _ _) rfl (lk rfl rfl) rfl rfl rfl) ?_
    refine ao1 (by decide) (o_ge rfl rfl) ?_
    refine ao1 (by decide) (o_move (v := .bool _) rfl) ?_
    refine ao_split rfl rfl (fun hg3 => ?_) (fun hg3 => ?_)
    · refine ao_y1 rfl rfl (by decide) (w_fieldAddr rfl (lk rfl rfl) rfl (by decide)) ?_
      refine ao_y1 rfl rfl (by decide) (w_load1 (v := .int _ _) rfl (lk rfl rfl) rfl rfl rfl) ?_
      refine ao_y1 rfl rfl (by decide) (o_le rfl rfl) ?_
      refine ao1 (by decide) (o_pick_t (v := .bool _) rfl rfl) ?_
      refine ao1 (by decide) (o_move (v := .bool _) rfl) ?_
      refine ao_split rfl rfl (fun hg8 => ?_) (fun hg8 => ?_)
      · refine ao_y1 rfl rfl (by decide) (w_fieldAddr rfl (lk rfl rfl) rfl (by decide)) ?_
        refine ao_y1 rfl rfl (by decide) (w_loadN (cs := [_, _, _, _, _, _, _]) rfl (lk rfl rfl) rfl rfl rfl rfl) ?_
        refine ao_y rfl rfl (by decide) (V2.call (spec_Right _ _) rfl) ?_
        refine ao1 (by decide) (o_pick_t (v := .bool _) rfl rfl) ?_
        refine ao1 (by decide) (o_move (v := .bool _) rfl) ?_
        refine ao_split rfl rfl (fun hg13 => ?_) (fun hg13 => ?_)
        · refine ao_y1 rfl rfl (by decide) (w_loadR rfl (lk rfl rfl) rfl rfl rfl) ?_
          refine ao_y rfl rfl (by decide) (V2.call (job_needs _ _) rfl) ?_
          refine ao1 (by decide) (o_pick_t (v := .bool _) rfl rfl) ?_
          refine ao1 (by decide) (o_move (v := .bool _) rfl) ?_
          refine ao_split rfl rfl (fun hg17 => ?_) (fun hg17 => ?_)
          · refine ao_y1 rfl rfl (by decide) (w_fieldAddr rfl (lk rfl rfl) rfl (by decide)) ?_
            refine ao_y1 rfl rfl (by decide) (w_load1 (v := .int _ _) rfl (lk rfl rfl) rfl rfl rfl) ?_
            refine ao_y rfl rfl (by decide) (V2.call (when_Right _ _) rfl) ?_
            refine ao1 (by decide) (o_pick_t (v := .bool _) rfl rfl) ?_
            refine ao1 (by decide) (o_move (v := .bool _) rfl) ?_
            refine ao_split rfl rfl (fun hg22 => ?_) (fun hg22 => ?_)
            · refine ao_y1 rfl rfl (by decide) (w_loadR rfl (lk rfl rfl) rfl rfl rfl) ?_
              refine ao_y rfl rfl (by decide) (V2.call (job_times _ _) rfl) ?_
              refine ao1 (by decide) (o_pick_t (v := .bool _) rfl rfl) ?_
              refine ao1 (by decide) (o_assign (v := .bool _) rfl) ?_
              exact ao_nil (Out.mk (by (refine congrArg AV.bool ?_; (simp only [jright, tm] at *; (simp_all; done)))) (by repeat (first | exact SubX.refl _ _ | refine SubX.at ?_ | refine SubX.put rfl ?_)))
            · refine ao_nT rfl rfl (by decide) ?_
              refine ao_nT rfl rfl (by decide) ?_
              refine ao1 (by decide) (o_pick_f (v := .bool _) rfl rfl) ?_
              refine ao1 (by decide) (o_assign (v := .bool _) rfl) ?_
              exact ao_nil (Out.mk (by (refine congrArg AV.bool ?_; (simp only [jright, tm] at *; (simp_all; omega)))) (by repeat (first | exact SubX.refl _ _ | refine SubX.at ?_ | refine SubX.put rfl ?_)))
          · refine ao_nT rfl rfl (by decide) ?_
            refine ao_nT rfl rfl (by decide) ?_
            refine ao_nT rfl rfl (by decide) ?_
            refine ao1 (by decide) (o_pick_f (v := .bool _) rfl rfl) ?_
            refine ao1 (by decide) (o_move (v := .bool _) rfl) ?_
            refine ao_nT rfl rfl (by decide) ?_
            refine ao_nT rfl rfl (by decide) ?_
            refine ao1 (by decide) (o_pick_f (v := .bool _) rfl rfl) ?_
            refine ao1 (by decide) (o_assign (v := .bool _) rfl) ?_
            exact ao_nil (Out.mk (by (refine congrArg AV.bool ?_; (simp only [jright, tm] at *; (simp_all; done)))) (by repeat (first | exact SubX.refl _ _ | refine SubX.at ?_ | refine SubX.put rfl ?_)))
        · refine ao_nT rfl rfl (by decide) ?_
          refine ao_nT rfl rfl (by decide) ?_
          refine ao1 (by decide) (o_pick_f (v := .bool _) rfl rfl) ?_
          refine ao1 (by decide) (o_move (v := .bool _) rfl) ?_
          refine ao_nT rfl rfl (by decide) ?_
          refine ao_nT rfl rfl (by decide) ?_
          refine ao_nT rfl rfl (by decide) ?_
          refine ao1 (by decide) (o_pick_f (v := .bool _) rfl rfl) ?_
          refine ao1 (by decide) (o_move (v := .bool _) rfl) ?_
          refine ao_nT rfl rfl (by decide) ?_
          refine ao_nT rfl rfl (by decide) ?_
          refine ao1 (by decide) (o_pick_f (v := .bool _) rfl rfl) ?_
          refine ao1 (by decide) (o_assign (v := .bool _) rfl) ?_
          exact ao_nil (Out.mk (by (refine congrArg AV.bool ?_; (simp only [jright, tm] at *; (simp_all; done)))) (by repeat (first | exact SubX.refl _ _ | refine SubX.at ?_ | refine SubX.put rfl ?_)))
      · refine ao_nT rfl rfl (by decide) ?_
        refine ao_nT rfl rfl (by decide) ?_
        refine ao_nT rfl rfl (by decide) ?_
        refine ao1 (by decide) (o_pick_f (v := .bool _) rfl rfl) ?_
        refine ao1 (by decide) (o_move (v := .bool _) rfl) ?_
        refine ao_nT rfl rfl (by decide) ?_
        refine ao_nT rfl rfl (by decide) ?_
        refine ao1 (by decide) (o_pick_f (v := .bool _) rfl rfl) ?_
        refine ao1 (by decide) (o_move (v := .bool _) rfl) ?_
        refine ao_nT rfl rfl (by decide) ?_
        refine ao_nT rfl rfl (by decide) ?_
        refine ao_nT rfl rfl (by decide) ?_
        refine ao1 (by decide) (o_pick_f (v := .bool _) rfl rfl) ?_
        refine ao1 (by decide) (o_move (v := .bool _) rfl) ?_
        refine ao_nT rfl rfl (by decide) ?_
        refine ao_nT rfl rfl (by decide) ?_
        refine ao1 (by decide) (o_pick_f (v := .bool _) rfl rfl) ?_
        refine ao1 (by decide) (o_assign (v := .bool _) rfl) ?_
        exact ao_nil (Out.mk (by (refine congrArg AV.bool ?_; (simp only [jright, tm] at *; (simp_all; omega)))) (by repeat (first | exact SubX.refl _ _ | refine SubX.at ?_ | refine SubX.put rfl ?_)))
    · refine ao_nT rfl rfl (by decide) ?_
      refine ao_nT rfl rfl (by decide) ?_
      refine ao_nT rfl rfl (by decide) ?_
      refine ao1 (by decide) (o_pick_f (v := .bool _) rfl rfl) ?_
      refine ao1 (by decide) (o_move (v := .bool _) rfl) ?_
      refine ao_nT rfl rfl (by decide) ?_
      refine ao_nT rfl rfl (by decide) ?_
      refine ao_nT rfl rfl (by decide) ?_
      refine ao1 (by decide) (o_pick_f (v := .bool _) rfl rfl) ?_
      refine ao1 (by decide) (o_move (v := .bool _) rfl) ?_
      refine ao_nT rfl rfl (by decide) ?_
      refine ao_nT rfl rfl (by decide) ?_
      refine ao1 (by decide) (o_pick_f (v := .bool _) rfl rfl) ?_
      refine ao1 (by decide) (o_move (v := .bool _) rfl) ?_
      refine ao_nT rfl rfl (by decide) ?_
      refine ao_nT rfl rfl (by decide) ?_
      refine ao_nT rfl rfl (by decide) ?_
      refine ao1 (by decide) (o_pick_f (v := .bool _) rfl rfl) ?_
      refine ao1 (by decide) (o_move (v := .bool _) rfl) ?_
      refine ao_nT rfl rfl (by decide) ?_
      refine ao_nT rfl rfl (by decide) ?_
      refine ao1 (by decide) (o_pick_f (v := .bool _) rfl rfl) ?_
      refine ao1 (by decide) (o_assign (v := .bool _) rfl) ?_
      exact ao_nil (Out.mk (by (refine congrArg AV.bool ?_; (simp only [jright, tm] at *; (simp_all; omega)))) (by repeat (first | exact SubX.refl _ _ | refine SubX.at ?_ | refine SubX.put rfl ?_)))
  repeat (first | refine then_nrm ?_ | refine aw_ret ?_)
  exact e_done hB (r_tmp rfl .nil) rfl rfl
theorem jtimes_ref {j : Job} (h : tm j.came = true) : jtimes j = (decide (0 ≤ j.state) && decide (j.state ≤ 6) && tm j.frm && tm j.to && (if j.state = 0 ∨ j.state = 1 ∨ j.state = 6 then decide (j.frm = 0) else decide (j.came ≤ j.frm) || (decide (j.state = 5) && decide (j.frm = 0))) && (if j.state < 3 then decide (j.to = 0) else decide (j.came ≤ j.to) && decide (j.frm ≤ j.to))) := by
  rw [Bool.eq_iff_iff]
  unfold jtimes jbegun jended tm at *
  simp only [Bool.and_eq_true, decide_eq_true_eq] at h
  repeat' split
  all_goals simp only [Bool.and_eq_true, Bool.or_eq_true, decide_eq_true_eq, beq_iff_eq]
  all_goals omega
set_option maxHeartbeats 0 in
theorem ref11_Right (j : Job) (H : Heap) (ht : j.spec.tag.size ≤ 9223372036854775807) : AC Try.prog 23 [.agg (eJob j)] H (Ret (.bool (jright j)) H) := by
  have c1 := fun H => ref07_Right j.spec H ht
  refine AC.body (N := 141) [.tmp 2] Try.func23 rfl rfl rfl (Nat.le_of_ble_eq_true rfl) fun B hB => ?_
  repeat (refine aw_seq ?_)
  refine aw_region ?_
  refine ao2 (by rintro _ ⟨⟩; decide) (o_boxL (sz := 13) (v := .agg _) rfl rfl rfl rfl (by decide) rfl) ?_
  refine ao1 (by decide) (o_assign (v := .bool _) rfl) ?_
  refine ao_nil ?_
  try dsimp only
  repeat (first | refine then_nrm ?_ | refine aw_seq ?_)
  refine aw_out 29 (.bool (!(decide (1 ≤ j.id) && decide (j.id ≤ 1073741824) && sright j.spec && decide (j.needs.length ≤ 16) && tm j.came))) ?_ ?_
  · refine ao1 (by decide) (w_fieldAddr rfl (lk rfl rfl) rfl (by decide)) ?_
    refine ao1 (by decide) (w_load1 (v := .int _ _) rfl (lk rfl rfl) rfl rfl rfl) ?_
    refine ao1 (by decide) (o_lt rfl rfl) ?_
    refine ao1 (by decide) (o_move (v := .bool _) rfl) ?_
    refine ao_split rfl rfl (fun hg3 => ?_) (fun hg3 => ?_)
    · refine ao_nF rfl rfl (by decide) ?_
      refine ao_nF rfl rfl (by decide) ?_
      refine ao_nF rfl rfl (by decide) ?_
      refine ao1 (by decide) (o_pick_t (v := .bool _) rfl rfl) ?_
      refine ao1 (by decide) (o_move (v := .bool _) rfl) ?_
      refine ao_nF rfl rfl (by decide) ?_
      refine ao_nF rfl rfl (by decide) ?_
      refine ao_nF rfl rfl (by decide) ?_
      refine ao_nF rfl rfl (by decide) ?_
      refine ao1 (by decide) (o_pick_t (v := .bool _) rfl rfl) ?_
      refine ao1 (by decide) (o_move (v := .bool _) rfl) ?_
      refine ao_nF rfl rfl (by decide) ?_
      refine ao_nF rfl rfl (by decide) ?_
      refine ao_nF rfl rfl (by decide) ?_
      refine ao_nF rfl rfl (by decide) ?_
      refine ao1 (by decide) (o_pick_t (v := .bool _) rfl rfl) ?_
      refine ao1 (by decide) (o_move (v := .bool _) rfl) ?_
      refine ao_nF rfl rfl (by decide) ?_
      refine ao_nF rfl rfl (by decide) ?_
      refine ao_nF rfl rfl (by decide) ?_
      refine ao_nF rfl rfl (by decide) ?_
      refine ao1 (by decide) (o_pick_t (v := .bool _) rfl rfl) ?_
      exact ao_nil (Out.mk (by (refine congrArg AV.bool ?_; (simp_all; done))) (by repeat (first | exact SubX.refl _ _ | refine SubX.at ?_ | refine SubX.put rfl ?_)))
    · refine ao_y1 rfl rfl (by decide) (w_fieldAddr rfl (lk rfl rfl) rfl (by decide)) ?_
      refine ao_y1 rfl rfl (by decide) (w_load1 (v := .int _ _) rfl (lk rfl rfl) rfl rfl rfl) ?_
      refine ao_y1 rfl rfl (by decide) (o_gt rfl rfl) ?_
      refine ao1 (by decide) (o_pick_f (v := .bool _) rfl rfl) ?_
      refine ao1 (by decide) (o_move (v := .bool _) rfl) ?_
      refine ao_split rfl rfl (fun hg8 => ?_) (fun hg8 => ?_)
      · refine ao_nF rfl rfl (by decide) ?_
        refine ao_nF rfl rfl (by decide) ?_
        refine ao_nF rfl rfl (by decide) ?_
        refine ao_nF rfl rfl (by decide) ?_
        refine ao1 (by decide) (o_pick_t (v := .bool _) rfl rfl) ?_
        refine ao1 (by decide) (o_move (v := .bool _) rfl) ?_
        refine ao_nF rfl rfl (by decide) ?_
        refine ao_nF rfl rfl (by decide) ?_
        refine ao_nF rfl rfl (by decide) ?_
        refine ao_nF rfl rfl (by decide) ?_
        refine ao1 (by decide) (o_pick_t (v := .bool _) rfl rfl) ?_
        refine ao1 (by decide) (o_move (v := .bool _) rfl) ?_
        refine ao_nF rfl rfl (by decide) ?_
        refine ao_nF rfl rfl (by decide) ?_
        refine ao_nF rfl rfl (by decide) ?_
        refine ao_nF rfl rfl (by decide) ?_
        refine ao1 (by decide) (o_pick_t (v := .bool _) rfl rfl) ?_
        exact ao_nil (Out.mk (by (refine congrArg AV.bool ?_; (simp_all; done))) (by repeat (first | exact SubX.refl _ _ | refine SubX.at ?_ | refine SubX.put rfl ?_)))
      · refine ao_y1 rfl rfl (by decide) (w_fieldAddr rfl (lk rfl rfl) rfl (by decide)) ?_
        refine ao_y1 rfl rfl (by decide) (w_loadN (cs := [_, _, _, _, _, _, _]) rfl (lk rfl rfl) rfl rfl rfl rfl) ?_
        refine ao_y rfl rfl (by decide) (V2.call (c1 _) rfl) ?_
        refine ao_y1 rfl rfl (by decide) (o_not rfl) ?_
        refine ao1 (by decide) (o_pick_f (v := .bool _) rfl rfl) ?_
        refine ao1 (by decide) (o_move (v := .bool _) rfl) ?_
        refine ao_split rfl rfl (fun hg14 => ?_) (fun hg14 => ?_)
        · refine ao_nF rfl rfl (by decide) ?_
          refine ao_nF rfl rfl (by decide) ?_
          refine ao_nF rfl rfl (by decide) ?_
          refine ao_nF rfl rfl (by decide) ?_
          refine ao1 (by decide) (o_pick_t (v := .bool _) rfl rfl) ?_
          refine ao1 (by decide) (o_move (v := .bool _) rfl) ?_
          refine ao_nF rfl rfl (by decide) ?_
          refine ao_nF rfl rfl (by decide) ?_
          refine ao_nF rfl rfl (by decide) ?_
          refine ao_nF rfl rfl (by decide) ?_
          refine ao1 (by decide) (o_pick_t (v := .bool _) rfl rfl) ?_
          exact ao_nil (Out.mk (by (refine congrArg AV.bool ?_; (simp_all; done))) (by repeat (first | exact SubX.refl _ _ | refine SubX.at ?_ | refine SubX.put rfl ?_)))
        · refine ao_y1 rfl rfl (by decide) (w_fieldAddr rfl (lk rfl rfl) rfl (by decide)) ?_
          refine ao_y1 rfl rfl (by decide) (w_load1 (v := .pl _) rfl (lk rfl rfl) rfl rfl rfl) ?_
          refine ao_y1 rfl rfl (by decide) (o_lenp rfl) ?_
          refine ao_y1 rfl rfl (by decide) (o_gt rfl rfl) ?_
          refine ao1 (by decide) (o_pick_f (v := .bool _) rfl rfl) ?_
          refine ao1 (by decide) (o_move (v := .bool _) rfl) ?_
          refine ao_split rfl rfl (fun hg20 => ?_) (fun hg20 => ?_)
          · refine ao_nF rfl rfl (by decide) ?_
            refine ao_nF rfl rfl (by decide) ?_
            refine ao_nF rfl rfl (by decide) ?_
            refine ao_nF rfl rfl (by decide) ?_
            refine ao1 (by decide) (o_pick_t (v := .bool _) rfl rfl) ?_
            exact ao_nil (Out.mk (by (refine congrArg AV.bool ?_; (simp_all; omega))) (by repeat (first | exact SubX.refl _ _ | refine SubX.at ?_ | refine SubX.put rfl ?_)))
          · refine ao_y1 rfl rfl (by decide) (w_fieldAddr rfl (lk rfl rfl) rfl (by decide)) ?_
            refine ao_y1 rfl rfl (by decide) (w_load1 (v := .int _ _) rfl (lk rfl rfl) rfl rfl rfl) ?_
            refine ao_y rfl rfl (by decide) (V2.call (ref11_time _ _) rfl) ?_
            refine ao_y1 rfl rfl (by decide) (o_not rfl) ?_
            refine ao1 (by decide) (o_pick_f (v := .bool _) rfl rfl) ?_
            exact ao_nil (Out.mk (by (refine congrArg AV.bool ?_; (simp_all; omega))) (by repeat (first | exact SubX.refl _ _ | refine SubX.at ?_ | refine SubX.put rfl ?_)))
  repeat (refine then_nrm ?_)
  refine aw_cond rfl (fun hc => ?_) (fun hc => ?_)
  · repeat (refine aw_seq ?_)
    refine aw_region ?_
    refine ao1 (by decide) (o_assign (v := .bool _) rfl) ?_
    refine ao_nil ?_
    repeat (first | refine then_nrm ?_ | refine then_ret ?_ | refine aw_ret ?_)
    rw [show jright j = false by simp only [jright, jneeds]; revert hc; cases decide (1 ≤ j.id) <;> cases decide (j.id ≤ 1073741824) <;> cases sright j.spec <;> cases decide (j.needs.length ≤ 16) <;> cases tm j.came <;> simp]
    exact e_done hB (r_tmp rfl .nil) rfl rfl
  have hc0 : (((decide (1 ≤ j.id) = true ∧ decide (j.id ≤ 1073741824) = true) ∧ sright j.spec = true) ∧ decide (j.needs.length ≤ 16) = true) ∧ tm j.came = true := by simpa only [Bool.not_eq_false', Bool.and_eq_true] using hc
  obtain ⟨⟨⟨⟨h1, h2⟩, h3⟩, h4⟩, h5⟩ := hc0
  have hl : j.needs.length ≤ 16 := by simpa using h4
  have hjr : jright j = (ndall j.id j.needs && jtimes j) := by simp only [jright, jneeds, h1, h2, h3, h4, h5, Bool.true_and, Bool.and_true]
  rw [hjr]
  repeat (first | refine then_nrm ?_ | refine aw_seq ?_ | refine aw_skip ?_)
  refine aw_region ?_
  refine ao1 (by decide) (o_assign (v := .int _ _) rfl) ?_
  refine ao_nil ?_
  repeat (first | refine then_nrm ?_ | refine aw_block ?_)
  refine aw_loop (G := Nat) (fun k => k ≤ j.needs.length ∧ ∀ i, i < k → ndB j.id j.needs i = true) (fun k => [(1, .pt (Lid H.length 0) 0 0 0), (3, .int .i64 (k : Int))]) (fun _ => H ++ [⟨0, 13, [eJob j]⟩]) (fun k => j.needs.length - k) 0 ⟨Nat.zero_le _, fun i hi => by omega⟩ (by repeat (first | exact Sub.nil | refine Sub.cons (by rfl) ?_)) (Fit.refl _ _) ?_
  rintro k ⟨hk, hno⟩
  repeat (refine aw_seq ?_)
  refine aw_region ?_
  refine ao1 (by decide) (o_move (v := .int _ _) rfl) ?_
  refine ao1 (by decide) (w_fieldAddr rfl (lk rfl rfl) rfl (by decide)) ?_
  refine ao1 (by decide) (w_load1 (v := .pl _) rfl (lk rfl rfl) rfl rfl rfl) ?_
  refine ao1 (by decide) (o_lenp rfl) ?_
  refine ao1 (by decide) (o_lt rfl rfl) ?_
  refine ao_nil ?_
  try dsimp only
  repeat (refine then_nrm ?_)
  refine aw_cond rfl (fun hc => ?_) (fun hc => ?_)
  · have hlt : k < j.needs.length := by simpa using hc
    obtain ⟨x, hx, hxl⟩ := get_in hlt
    have hr := map_get eI hx
    obtain ⟨m, hm, _⟩ := get_in (l := j.needs) (k := ((k : Int) - 1).toNat) (by omega)
    have hr1 := map_get eI hm
    have hnd : ndB j.id j.needs k = (decide (1 ≤ x) && decide (x < j.id) && (decide (k = 0) || decide (m < x))) := by
      rw [ndB_get hx]
      cases k with
      | zero => simp
      | succ k =>
        have e : (((k + 1 : Nat) : Int) - 1).toNat = k := by omega
        rw [e] at hm
        simp [hm]
    clear hxl
    repeat (first | refine then_nrm ?_ | refine aw_seq ?_ | refine aw_block ?_ | refine aw_skip ?_)
    refine aw_of_out 70 (.bool (!ndB j.id j.needs k)) ?_ ?_
    · refine aw_drawP mixed none 999 ?_
      try dsimp only
      refine aqp 0 rfl (by decide +kernel) (by decide) (fun G => w_fieldAddr rfl (lk rfl rfl) rfl (by decide)) ?_
      refine aqp 1 rfl (by decide +kernel) (by decide) (fun G => w_load1 (v := .pl _) rfl (lk rfl rfl) rfl rfl rfl) ?_
      refine aq0 2 rfl (by decide +kernel) (by decide) (fun _ => o_move (v := .int _ _) rfl) ?_
      refine aqp 3 rfl (by decide +kernel) (by decide) (fun G => w_indexAddrpN rfl rfl hr rfl) ?_
      refine aqp 4 rfl (by decide +kernel) (by decide) (fun G => o_load1p (v := .int _ _) rfl hr rfl) ?_
      refine aq0 5 rfl (by decide +kernel) (by decide) (fun _ => o_lt rfl rfl) ?_
      refine aq0 6 rfl (by decide +kernel) (by decide) (fun _ => o_move (v := .bool _) rfl) ?_
      refine aq_split (g := 43) rfl (fun hg6 => ?_) (fun hg6 => ?_)
      · refine aqn0 (g := 43) 7 rfl (by decide +kernel) (by decide) rfl rfl rfl ?_
        refine aqn0 (g := 43) 8 rfl (by decide +kernel) (by decide) rfl rfl rfl ?_
        refine aqn0 (g := 43) 9 rfl (by decide +kernel) (by decide) rfl rfl rfl ?_
        refine aqn0 (g := 43) 10 rfl (by decide +kernel) (by decide) rfl rfl rfl ?_
        refine aqn0 (g := 43) 11 rfl (by decide +kernel) (by decide) rfl rfl rfl ?_
        refine aqn0 (g := 43) 12 rfl (by decide +kernel) (by decide) rfl rfl rfl ?_
        refine aqn0 (g := 43) 13 rfl (by decide +kernel) (by decide) rfl rfl rfl ?_
        refine aqn0 (g := 43) 14 rfl (by decide +kernel) (by decide) rfl rfl rfl ?_
        refine aq0 15 rfl (by decide +kernel) (by decide) (fun _ => o_pick_t (v := .bool _) rfl rfl) ?_
        refine aq0 16 rfl (by decide +kernel) (by decide) (fun _ => o_move (v := .bool _) rfl) ?_
        refine aqn0 (g := 53) 17 rfl (by decide +kernel) (by decide) rfl rfl rfl ?_
        refine aqn0 (g := 53) 18 rfl (by decide +kernel) (by decide) rfl rfl rfl ?_
        refine aqn0 (g := 53) 19 rfl (by decide +kernel) (by decide) rfl rfl rfl ?_
        refine aqu0 (g := 56) 20 rfl (by decide +kernel) (by decide) rfl rfl ?_
        refine aqu0 (g := 56) 21 rfl (by decide +kernel) (by decide) rfl rfl ?_
        refine aqu0 (g := 56) 22 rfl (by decide +kernel) (by decide) rfl rfl ?_
        refine aqu0 (g := 56) 23 rfl (by decide +kernel) (by decide) rfl rfl ?_
        refine aqu0 (g := 56) 24 rfl (by decide +kernel) (by decide) rfl rfl ?_
        refine aqu0 (g := 56) 25 rfl (by decide +kernel) (by decide) rfl rfl ?_
        refine aqu0 (g := 56) 26 rfl (by decide +kernel) (by decide) rfl rfl ?_
        refine aqu0 (g := 56) 27 rfl (by decide +kernel) (by decide) rfl rfl ?_
        refine aqu0 (g := 56) 28 rfl (by decide +kernel) (by decide) rfl rfl ?_
        refine aqu0 (g := 56) 29 rfl (by decide +kernel) (by decide) rfl rfl ?_
        refine aqu0 (g := 56) 30 rfl (by decide +kernel) (by decide) rfl rfl ?_
        refine aqu0 (g := 56) 31 rfl (by decide +kernel) (by decide) rfl rfl ?_
        refine aqn0 (g := 53) 32 rfl (by decide +kernel) (by decide) rfl rfl rfl ?_
        refine aq0 33 rfl (by decide +kernel) (by decide) (fun _ => o_pick_t (v := .bool _) rfl rfl) ?_
        exact aa_done (by decide +kernel) (by exact fun _ => ⟨_, rfl⟩) (Out.mk (by (refine congrArg AV.bool ?_; (rw [hnd]; clear hno hnd hjr h1 h2 h3 h4 h5 c1 hr hr1 hm hx hl ht hlt hk hc; clear hB; refine Bool.eq_iff_iff.mpr ?_; simp only [Bool.and_eq_true, Bool.or_eq_true, Bool.not_eq_true', decide_eq_true_eq, decide_eq_false_iff_not, beq_iff_eq, bne_iff_ne, Bool.false_eq_true, Bool.and_eq_false_iff, Bool.or_eq_false_iff, false_iff, true_iff, iff_true, iff_false, Bool.not_true, Bool.not_false, not_true, not_false_iff] at *; omega))) (by repeat (first | exact SubX.refl _ _ | refine SubX.at ?_ | refine SubX.put rfl ?_)))
      · refine aqyp (g := 43) 7 rfl (by decide +kernel) (by decide) rfl rfl (fun G => w_fieldAddr rfl (lk rfl rfl) rfl (by decide)) ?_
        refine aqyp (g := 43) 8 rfl (by decide +kernel) (by decide) rfl rfl (fun G => w_load1 (v := .pl _) rfl (lk rfl rfl) rfl rfl rfl) ?_
        refine aqy0 (g := 43) 9 rfl (by decide +kernel) (by decide) rfl rfl (fun _ => o_move (v := .int _ _) rfl) ?_
        refine aqyp (g := 43) 10 rfl (by decide +kernel) (by decide) rfl rfl (fun G => w_indexAddrpN rfl rfl hr rfl) ?_
        refine aqyp (g := 43) 11 rfl (by decide +kernel) (by decide) rfl rfl (fun G => o_load1p (v := .int _ _) rfl hr rfl) ?_
        refine aqyp (g := 43) 12 rfl (by decide +kernel) (by decide) rfl rfl (fun G => w_fieldAddr rfl (lk rfl rfl) rfl (by decide)) ?_
        refine aqyp (g := 43) 13 rfl (by decide +kernel) (by decide) rfl rfl (fun G => w_load1 (v := .int _ _) rfl (lk rfl rfl) rfl rfl rfl) ?_
        refine aqy0 (g := 43) 14 rfl (by decide +kernel) (by decide) rfl rfl (fun _ => o_ge rfl rfl) ?_
        refine aq0 15 rfl (by decide +kernel) (by decide) (fun _ => o_pick_f (v := .bool _) rfl rfl) ?_
        refine aq0 16 rfl (by decide +kernel) (by decide) (fun _ => o_move (v := .bool _) rfl) ?_
        refine aq_split (g := 53) rfl (fun hg16 => ?_) (fun hg16 => ?_)
        · refine aqn0 (g := 53) 17 rfl (by decide +kernel) (by decide) rfl rfl rfl ?_
          refine aqn0 (g := 53) 18 rfl (by decide +kernel) (by decide) rfl rfl rfl ?_
          refine aqn0 (g := 53) 19 rfl (by decide +kernel) (by decide) rfl rfl rfl ?_
          refine aqu0 (g := 56) 20 rfl (by decide +kernel) (by decide) rfl rfl ?_
          refine aqu0 (g := 56) 21 rfl (by decide +kernel) (by decide) rfl rfl ?_
          refine aqu0 (g := 56) 22 rfl (by decide +kernel) (by decide) rfl rfl ?_
          refine aqu0 (g := 56) 23 rfl (by decide +kernel) (by decide) rfl rfl ?_
          refine aqu0 (g := 56) 24 rfl (by decide +kernel) (by decide) rfl rfl ?_
          refine aqu0 (g := 56) 25 rfl (by decide +kernel) (by decide) rfl rfl ?_
          refine aqu0 (g := 56) 26 rfl (by decide +kernel) (by decide) rfl rfl ?_
          refine aqu0 (g := 56) 27 rfl (by decide +kernel) (by decide) rfl rfl ?_
          refine aqu0 (g := 56) 28 rfl (by decide +kernel) (by decide) rfl rfl ?_
          refine aqu0 (g := 56) 29 rfl (by decide +kernel) (by decide) rfl rfl ?_
          refine aqu0 (g := 56) 30 rfl (by decide +kernel) (by decide) rfl rfl ?_
          refine aqu0 (g := 56) 31 rfl (by decide +kernel) (by decide) rfl rfl ?_
          refine aqn0 (g := 53) 32 rfl (by decide +kernel) (by decide) rfl rfl rfl ?_
          refine aq0 33 rfl (by decide +kernel) (by decide) (fun _ => o_pick_t (v := .bool _) rfl rfl) ?_
          exact aa_done (by decide +kernel) (by exact fun _ => ⟨_, rfl⟩) (Out.mk (by (refine congrArg AV.bool ?_; (rw [hnd]; clear hno hnd hjr h1 h2 h3 h4 h5 c1 hr hr1 hm hx hl ht hlt hk hc; clear hB; refine Bool.eq_iff_iff.mpr ?_; simp only [Bool.and_eq_true, Bool.or_eq_true, Bool.not_eq_true', decide_eq_true_eq, decide_eq_false_iff_not, beq_iff_eq, bne_iff_ne, Bool.false_eq_true, Bool.and_eq_false_iff, Bool.or_eq_false_iff, false_iff, true_iff, iff_true, iff_false, Bool.not_true, Bool.not_false, not_true, not_false_iff] at *; omega))) (by repeat (first | exact SubX.refl _ _ | refine SubX.at ?_ | refine SubX.put rfl ?_)))
        · refine aqy0 (g := 53) 17 rfl (by decide +kernel) (by decide) rfl rfl (fun _ => o_move (v := .int _ _) rfl) ?_
          refine aqy0 (g := 53) 18 rfl (by decide +kernel) (by decide) rfl rfl (fun _ => o_gt rfl rfl) ?_
          refine aqy0 (g := 53) 19 rfl (by decide +kernel) (by decide) rfl rfl (fun _ => o_move (v := .bool _) rfl) ?_
          refine aq_split (g := 56) rfl (fun hg19 => ?_) (fun hg19 => ?_)
          · refine aqyp (g := 56) 20 rfl (by decide +kernel) (by decide) rfl rfl (fun G => w_fieldAddr rfl (lk rfl rfl) rfl (by decide)) ?_
            refine aqyp (g := 56) 21 rfl (by decide +kernel) (by decide) rfl rfl (fun G => w_load1 (v := .pl _) rfl (lk rfl rfl) rfl rfl rfl) ?_
            refine aqy0 (g := 56) 22 rfl (by decide +kernel) (by decide) rfl rfl (fun _ => o_move (v := .int _ _) rfl) ?_
            refine aqyp (g := 56) 23 rfl (by decide +kernel) (by decide) rfl rfl (fun G => w_indexAddrpN rfl rfl hr rfl) ?_
            refine aqyp (g := 56) 24 rfl (by decide +kernel) (by decide) rfl rfl (fun G => o_load1p (v := .int _ _) rfl hr rfl) ?_
            refine aqyp (g := 56) 25 rfl (by decide +kernel) (by decide) rfl rfl (fun G => w_fieldAddr rfl (lk rfl rfl) rfl (by decide)) ?_
            refine aqyp (g := 56) 26 rfl (by decide +kernel) (by decide) rfl rfl (fun G => w_load1 (v := .pl _) rfl (lk rfl rfl) rfl rfl rfl) ?_
            refine aqy0 (g := 56) 27 rfl (by decide +kernel) (by decide) rfl rfl (fun _ => o_move (v := .int _ _) rfl) ?_
            refine aqy0 (g := 56) 28 rfl (by decide +kernel) (by decide) rfl rfl (fun _ => o_sub (r := (k : Int) - 1) rfl rfl (wrap64_ok (by omega) (by omega))) ?_
            refine aqyp (g := 56) 29 rfl (by decide +kernel) (by decide) rfl rfl (fun G => w_indexAddrp rfl rfl (by simp at hg19; omega) hr1 rfl) ?_
            refine aqyp (g := 56) 30 rfl (by decide +kernel) (by decide) rfl rfl (fun G => o_load1p (v := .int _ _) rfl hr1 rfl) ?_
            refine aqy0 (g := 56) 31 rfl (by decide +kernel) (by decide) rfl rfl (fun _ => o_le rfl rfl) ?_
            refine aqy0 (g := 53) 32 rfl (by decide +kernel) (by decide) rfl rfl (fun _ => o_pick_t (v := .bool _) rfl rfl) ?_
            refine aq0 33 rfl (by decide +kernel) (by decide) (fun _ => o_pick_f (v := .bool _) rfl rfl) ?_
            exact aa_done (by decide +kernel) (by exact fun _ => ⟨_, rfl⟩) (Out.mk (by (refine congrArg AV.bool ?_; (rw [hnd]; clear hno hnd hjr h1 h2 h3 h4 h5 c1 hr hr1 hm hx hl ht hlt hk hc; clear hB; refine Bool.eq_iff_iff.mpr ?_; simp only [Bool.and_eq_true, Bool.or_eq_true, Bool.not_eq_true', decide_eq_true_eq, decide_eq_false_iff_not, beq_iff_eq, bne_iff_ne, Bool.false_eq_true, Bool.and_eq_false_iff, Bool.or_eq_false_iff, false_iff, true_iff, iff_true, iff_false, Bool.not_true, Bool.not_false, not_true, not_false_iff] at *; omega))) (by repeat (first | exact SubX.refl _ _ | refine SubX.at ?_ | refine SubX.put rfl ?_)))
          · refine aqn0 (g := 56) 20 rfl (by decide +kernel) (by decide) rfl rfl rfl ?_
            refine aqn0 (g := 56) 21 rfl (by decide +kernel) (by decide) rfl rfl rfl ?_
            refine aqn0 (g := 56) 22 rfl (by decide +kernel) (by decide) rfl rfl rfl ?_
            refine aqn0 (g := 56) 23 rfl (by decide +kernel) (by decide) rfl rfl rfl ?_
            refine aqn0 (g := 56) 24 rfl (by decide +kernel) (by decide) rfl rfl rfl ?_
            refine aqn0 (g := 56) 25 rfl (by decide +kernel) (by decide) rfl rfl rfl ?_
            refine aqn0 (g := 56) 26 rfl (by decide +kernel) (by decide) rfl rfl rfl ?_
            refine aqn0 (g := 56) 27 rfl (by decide +kernel) (by decide) rfl rfl rfl ?_
            refine aqn0 (g := 56) 28 rfl (by decide +kernel) (by decide) rfl rfl rfl ?_
            refine aqn0 (g := 56) 29 rfl (by decide +kernel) (by decide) rfl rfl rfl ?_
            refine aqn0 (g := 56) 30 rfl (by decide +kernel) (by decide) rfl rfl rfl ?_
            refine aqn0 (g := 56) 31 rfl (by decide +kernel) (by decide) rfl rfl rfl ?_
            refine aqy0 (g := 53) 32 rfl (by decide +kernel) (by decide) rfl rfl (fun _ => o_pick_f (v := .bool _) rfl rfl) ?_
            refine aq0 33 rfl (by decide +kernel) (by decide) (fun _ => o_pick_f (v := .bool _) rfl rfl) ?_
            exact aa_done (by decide +kernel) (by exact fun _ => ⟨_, rfl⟩) (Out.mk (by (refine congrArg AV.bool ?_; (rw [hnd]; clear hno hnd hjr h1 h2 h3 h4 h5 c1 hr hr1 hm hx hl ht hlt hk hc; clear hB; refine Bool.eq_iff_iff.mpr ?_; simp only [Bool.and_eq_true, Bool.or_eq_true, Bool.not_eq_true', decide_eq_true_eq, decide_eq_false_iff_not, beq_iff_eq, bne_iff_ne, Bool.false_eq_true, Bool.and_eq_false_iff, Bool.or_eq_false_iff, false_iff, true_iff, iff_true, iff_false, Bool.not_true, Bool.not_false, not_true, not_false_iff] at *; omega))) (by repeat (first | exact SubX.refl _ _ | refine SubX.at ?_ | refine SubX.put rfl ?_)))
    repeat (refine then_nrm ?_)
    refine aw_cond rfl (fun hc => ?_) (fun hc => ?_)
    · repeat (refine aw_seq ?_)
      refine aw_region ?_
      refine ao1 (by decide) (o_assign (v := .bool _) rfl) ?_
      refine ao_nil ?_
      repeat (first | refine then_nrm ?_ | refine then_ret ?_ | refine blk_ret ?_ | refine aw_ret ?_)
      rw [nd_false hlt (by simpa using hc)]
      exact e_done hB (r_tmp rfl .nil) rfl rfl
    · repeat (first | refine then_nrm ?_ | refine blk_nrm ?_ | refine aw_skip ?_)
      refine aw_region ?_
      refine ao1 (by decide) (o_move (v := .int _ _) rfl) ?_
      refine ao1 (by decide) (o_add rfl rfl (wrap64_ok (by omega) (by omega))) ?_
      refine ao1 (by decide) (o_assign (v := .int _ _) rfl) ?_
      refine ao_nil ?_
      repeat (refine then_nrm ?_)
      refine ⟨k + 1, by omega, ⟨by omega, fun i hi => ?_⟩, (by repeat (first | exact Sub.nil | refine Sub.cons (by rfl) ?_)), .refl _ _⟩
      rcases Nat.lt_or_eq_of_le (Nat.le_of_lt_succ hi) with h | h
      · exact hno i h
      · subst h; simpa using hc
  · have : k = j.needs.length := by simp at hc; omega
    subst this
    rw [nd_true hno, Bool.true_and, jtimes_ref h5]
    clear hjr hno
    repeat (first | refine then_nrm ?_ | refine then_brk ?_ | refine blk_hit ?_ | refine aw_seq ?_ | refine aw_exit ?_)
    refine aw_out 90 (.bool (!(decide (0 ≤ j.state) && decide (j.state ≤ 6) && tm j.frm && tm j.to))) ?_ ?_
    · refine ao1 (by decide) (w_fieldAddr rfl (lk rfl rfl) rfl (by decide)) ?_
      refine ao1 (by decide) (w_load1 (v := .int _ _) rfl (lk rfl rfl) rfl rfl rfl) ?_
      refine ao1 (by decide) (o_lt rfl rfl) ?_
      refine ao1 (by decide) (o_move (v := .bool _) rfl) ?_
      refine ao_split rfl rfl (fun hg3 => ?_) (fun hg3 => ?_)
      · refine ao_nF rfl rfl (by decide) ?_
        refine ao_nF rfl rfl (by decide) ?_
        refine ao_nF rfl rfl (by decide) ?_
        refine ao1 (by decide) (o_pick_t (v := .bool _) rfl rfl) ?_
        refine ao1 (by decide) (o_move (v := .bool _) rfl) ?_
        refine ao_nF rfl rfl (by decide) ?_
        refine ao_nF rfl rfl (by decide) ?_
        refine ao_nF rfl rfl (by decide) ?_
        refine ao_nF rfl rfl (by decide) ?_
        refine ao1 (by decide) (o_pick_t (v := .bool _) rfl rfl) ?_
        refine ao1 (by decide) (o_move (v := .bool _) rfl) ?_
        refine ao_nF rfl rfl (by decide) ?_
        refine ao_nF rfl rfl (by decide) ?_
        refine ao_nF rfl rfl (by decide) ?_
        refine ao_nF rfl rfl (by decide) ?_
        refine ao1 (by decide) (o_pick_t (v := .bool _) rfl rfl) ?_
        exact ao_nil (Out.mk (by (refine congrArg AV.bool ?_; (simp_all; done))) (by repeat (first | exact SubX.refl _ _ | refine SubX.at ?_ | refine SubX.put rfl ?_)))
      · refine ao_y1 rfl rfl (by decide) (w_fieldAddr rfl (lk rfl rfl) rfl (by decide)) ?_
        refine ao_y1 rfl rfl (by decide) (w_load1 (v := .int _ _) rfl (lk rfl rfl) rfl rfl rfl) ?_
        refine ao_y1 rfl rfl (by decide) (o_gt rfl rfl) ?_
        refine ao1 (by decide) (o_pick_f (v := .bool _) rfl rfl) ?_
        refine ao1 (by decide) (o_move (v := .bool _) rfl) ?_
        refine ao_split rfl rfl (fun hg8 => ?_) (fun hg8 => ?_)
        · refine ao_nF rfl rfl (by decide) ?_
          refine ao_nF rfl rfl (by decide) ?_
          refine ao_nF rfl rfl (by decide) ?_
          refine ao_nF rfl rfl (by decide) ?_
          refine ao1 (by decide) (o_pick_t (v := .bool _) rfl rfl) ?_
          refine ao1 (by decide) (o_move (v := .bool _) rfl) ?_
          refine ao_nF rfl rfl (by decide) ?_
          refine ao_nF rfl rfl (by decide) ?_
          refine ao_nF rfl rfl (by decide) ?_
          refine ao_nF rfl rfl (by decide) ?_
          refine ao1 (by decide) (o_pick_t (v := .bool _) rfl rfl) ?_
          exact ao_nil (Out.mk (by (refine congrArg AV.bool ?_; (simp_all; done))) (by repeat (first | exact SubX.refl _ _ | refine SubX.at ?_ | refine SubX.put rfl ?_)))
        · refine ao_y1 rfl rfl (by decide) (w_fieldAddr rfl (lk rfl rfl) rfl (by decide)) ?_
          refine ao_y1 rfl rfl (by decide) (w_load1 (v := .int _ _) rfl (lk rfl rfl) rfl rfl rfl) ?_
          refine ao_y rfl rfl (by decide) (V2.call (ref11_time _ _) rfl) ?_
          refine ao_y1 rfl rfl (by decide) (o_not rfl) ?_
          refine ao1 (by decide) (o_pick_f (v := .bool _) rfl rfl) ?_
          refine ao1 (by decide) (o_move (v := .bool _) rfl) ?_
          refine ao_split rfl rfl (fun hg14 => ?_) (fun hg14 => ?_)
          · refine ao_nF rfl rfl (by decide) ?_
            refine ao_nF rfl rfl (by decide) ?_
            refine ao_nF rfl rfl (by decide) ?_
            refine ao_nF rfl rfl (by decide) ?_
            refine ao1 (by decide) (o_pick_t (v := .bool _) rfl rfl) ?_
            exact ao_nil (Out.mk (by (refine congrArg AV.bool ?_; (simp_all; done))) (by repeat (first | exact SubX.refl _ _ | refine SubX.at ?_ | refine SubX.put rfl ?_)))
          · refine ao_y1 rfl rfl (by decide) (w_fieldAddr rfl (lk rfl rfl) rfl (by decide)) ?_
            refine ao_y1 rfl rfl (by decide) (w_load1 (v := .int _ _) rfl (lk rfl rfl) rfl rfl rfl) ?_
            refine ao_y rfl rfl (by decide) (V2.call (ref11_time _ _) rfl) ?_
            refine ao_y1 rfl rfl (by decide) (o_not rfl) ?_
            refine ao1 (by decide) (o_pick_f (v := .bool _) rfl rfl) ?_
            exact ao_nil (Out.mk (by (refine congrArg AV.bool ?_; (simp_all; done))) (by repeat (first | exact SubX.refl _ _ | refine SubX.at ?_ | refine SubX.put rfl ?_)))
    repeat (refine then_nrm ?_)
    refine aw_cond rfl (fun hc => ?_) (fun hc => ?_)
    · repeat (refine aw_seq ?_)
      refine aw_region ?_
      refine ao1 (by decide) (o_assign (v := .bool _) rfl) ?_
      refine ao_nil ?_
      repeat (first | refine then_nrm ?_ | refine then_ret ?_ | refine aw_ret ?_)
      rw [show (decide (0 ≤ j.state) && decide (j.state ≤ 6) && tm j.frm && tm j.to) = false by simpa only [Bool.not_eq_true'] using hc, Bool.false_and, Bool.false_and]
      exact e_done hB (r_tmp rfl .nil) rfl rfl
    rw [show (decide (0 ≤ j.state) && decide (j.state ≤ 6) && tm j.frm && tm j.to) = true by simpa only [Bool.not_eq_false'] using hc, Bool.true_and]
    have hst : 0 ≤ j.state ∧ j.state ≤ 6 := by simp at hc; omega
    repeat (first | refine then_nrm ?_ | refine aw_seq ?_ | refine aw_skip ?_)
    refine aw_out 103 (.bool (decide (j.state = 0 ∨ j.state = 1 ∨ j.state = 6))) ?_ ?_
    · refine ao1 (by decide) (w_fieldAddr rfl (lk rfl rfl) rfl (by decide)) ?_
      refine ao1 (by decide) (w_load1 (v := .int _ _) rfl (lk rfl rfl) rfl rfl rfl) ?_
      refine ao1 (by decide) (o_eq rfl rfl) ?_
      refine ao1 (by decide) (o_move (v := .bool _) rfl) ?_
      refine ao_split rfl rfl (fun hg3 => ?_) (fun hg3 => ?_)
      · refine ao_nF rfl rfl (by decide) ?_
        refine ao_nF rfl rfl (by decide) ?_
        refine ao_nF rfl rfl (by decide) ?_
        refine ao1 (by decide) (o_pick_t (v := .bool _) rfl rfl) ?_
        refine ao1 (by decide) (o_move (v := .bool _) rfl) ?_
        refine ao_nF rfl rfl (by decide) ?_
        refine ao_nF rfl rfl (by decide) ?_
        refine ao_nF rfl rfl (by decide) ?_
        refine ao1 (by decide) (o_pick_t (v := .bool _) rfl rfl) ?_
        exact ao_nil (Out.mk (by (refine congrArg AV.bool ?_; (simp_all; done))) (by repeat (first | exact SubX.refl _ _ | refine SubX.at ?_ | refine SubX.put rfl ?_)))
      · refine ao_y1 rfl rfl (by decide) (w_fieldAddr rfl (lk rfl rfl) rfl (by decide)) ?_
        refine ao_y1 rfl rfl (by decide) (w_load1 (v := .int _ _) rfl (lk rfl rfl) rfl rfl rfl) ?_
        refine ao_y1 rfl rfl (by decide) (o_eq rfl rfl) ?_
        refine ao1 (by decide) (o_pick_f (v := .bool _) rfl rfl) ?_
        refine ao1 (by decide) (o_move (v := .bool _) rfl) ?_
        refine ao_split rfl rfl (fun hg8 => ?_) (fun hg8 => ?_)
        · refine ao_nF rfl rfl (by decide) ?_
          refine ao_nF rfl rfl (by decide) ?_
          refine ao_nF rfl rfl (by decide) ?_
          refine ao1 (by decide) (o_pick_t (v := .bool _) rfl rfl) ?_
          exact ao_nil (Out.mk (by (refine congrArg AV.bool ?_; (simp_all; done))) (by repeat (first | exact SubX.refl _ _ | refine SubX.at ?_ | refine SubX.put rfl ?_)))
        · refine ao_y1 rfl rfl (by decide) (w_fieldAddr rfl (lk rfl rfl) rfl (by decide)) ?_
          refine ao_y1 rfl rfl (by decide) (w_load1 (v := .int _ _) rfl (lk rfl rfl) rfl rfl rfl) ?_
          refine ao_y1 rfl rfl (by decide) (o_eq rfl rfl) ?_
          refine ao1 (by decide) (o_pick_f (v := .bool _) rfl rfl) ?_
          exact ao_nil (Out.mk (by (refine congrArg AV.bool ?_; grind)) (by repeat (first | exact SubX.refl _ _ | refine SubX.at ?_ | refine SubX.put rfl ?_)))
    repeat (refine then_nrm ?_)
    refine aw_cond rfl (fun hc => ?_) (fun hc => ?_)
    · have hs : j.state = 0 ∨ j.state = 1 ∨ j.state = 6 := by simpa only [decide_eq_true_eq] using hc
      rw [if_pos hs]
      repeat (refine aw_seq ?_)
      refine aw_region ?_
      refine ao1 (by decide) (w_fieldAddr rfl (lk rfl rfl) rfl (by decide)) ?_
      refine ao1 (by decide) (w_load1 (v := .int _ _) rfl (lk rfl rfl) rfl rfl rfl) ?_
      refine ao1 (by decide) (o_ne rfl rfl) ?_
      refine ao_nil ?_
      try dsimp only
      repeat (refine then_nrm ?_)
      refine aw_cond rfl (fun hc => ?_) (fun hc => ?_)
      · repeat (refine aw_seq ?_)
        refine aw_region ?_
        refine ao1 (by decide) (o_assign (v := .bool _) rfl) ?_
        refine ao_nil ?_
        repeat (first | refine then_nrm ?_ | refine then_ret ?_ | refine aw_ret ?_)
        rw [show decide (j.frm = 0) = false by simpa using hc, Bool.false_and]
        exact e_done hB (r_tmp rfl .nil) rfl rfl
      rw [show decide (j.frm = 0) = true by simpa using hc, Bool.true_and]
      repeat (first | refine then_nrm ?_ | refine aw_seq ?_ | refine aw_skip ?_)
      refine aw_region ?_
      refine ao1 (by decide) (w_fieldAddr rfl (lk rfl rfl) rfl (by decide)) ?_
      refine ao1 (by decide) (w_load1 (v := .int _ _) rfl (lk rfl rfl) rfl rfl rfl) ?_
      refine ao1 (by decide) (o_lt rfl rfl) ?_
      refine ao_nil ?_
      try dsimp only
      repeat (refine then_nrm ?_)
      refine aw_cond rfl (fun hc => ?_) (fun hc => ?_)
      · rw [if_pos (by simpa using hc)]
        repeat (refine aw_seq ?_)
        refine aw_region ?_
        refine ao1 (by decide) (w_fieldAddr rfl (lk rfl rfl) rfl (by decide)) ?_
        refine ao1 (by decide) (w_load1 (v := .int _ _) rfl (lk rfl rfl) rfl rfl rfl) ?_
        refine ao1 (by decide) (o_eq rfl rfl) ?_
        refine ao1 (by decide) (o_assign (v := .bool _) rfl) ?_
        refine ao_nil ?_
        try dsimp only
        repeat (first | refine then_nrm ?_ | refine then_ret ?_ | refine aw_ret ?_)
        rw [show (j.to == 0) = decide (j.to = 0) from rfl]
        exact e_done hB (r_tmp rfl .nil) rfl rfl
      · rw [if_neg (by simpa using hc)]
        repeat (first | refine then_nrm ?_ | refine aw_seq ?_ | refine aw_skip ?_)
        refine aw_out 2 (.bool (decide (j.came ≤ j.to) && decide (j.frm ≤ j.to))) ?_ ?_
        · refine ao1 (by decide) (w_fieldAddr rfl (lk rfl rfl) rfl (by decide)) ?_
          refine ao1 (by decide) (w_load1 (v := .int _ _) rfl (lk rfl rfl) rfl rfl rfl) ?_
          refine ao1 (by decide) (w_fieldAddr rfl (lk rfl rfl) rfl (by decide)) ?_
          refine ao1 (by decide) (w_load1 (v := .int _ _) rfl (lk rfl rfl) rfl rfl rfl) ?_
          refine ao1 (by decide) (o_ge rfl rfl) ?_
          refine ao1 (by decide) (o_move (v := .bool _) rfl) ?_
          refine ao_split rfl rfl (fun hg5 => ?_) (fun hg5 => ?_)
          · refine ao_y1 rfl rfl (by decide) (w_fieldAddr rfl (lk rfl rfl) rfl (by decide)) ?_
            refine ao_y1 rfl rfl (by decide) (w_load1 (v := .int _ _) rfl (lk rfl rfl) rfl rfl rfl) ?_
            refine ao_y1 rfl rfl (by decide) (w_fieldAddr rfl (lk rfl rfl) rfl (by decide)) ?_
            refine ao_y1 rfl rfl (by decide) (w_load1 (v := .int _ _) rfl (lk rfl rfl) rfl rfl rfl) ?_
            refine ao_y1 rfl rfl (by decide) (o_ge rfl rfl) ?_
            refine ao1 (by decide) (o_pick_t (v := .bool _) rfl rfl) ?_
            refine ao1 (by decide) (o_assign (v := .bool _) rfl) ?_
            exact ao_nil (Out.mk (by (refine congrArg AV.bool ?_; (simp_all; done))) (by repeat (first | exact SubX.refl _ _ | refine SubX.at ?_ | refine SubX.put rfl ?_)))
          · refine ao_nT rfl rfl (by decide) ?_
            refine ao_nT rfl rfl (by decide) ?_
            refine ao_nT rfl rfl (by decide) ?_
            refine ao_nT rfl rfl (by decide) ?_
            refine ao_nT rfl rfl (by decide) ?_
            refine ao1 (by decide) (o_pick_f (v := .bool _) rfl rfl) ?_
            refine ao1 (by decide) (o_assign (v := .bool _) rfl) ?_
            exact ao_nil (Out.mk (by (refine congrArg AV.bool ?_; (simp_all; omega))) (by repeat (first | exact SubX.refl _ _ | refine SubX.at ?_ | refine SubX.put rfl ?_)))
        repeat (first | refine then_nrm ?_ | refine aw_ret ?_)
        exact e_done hB (r_tmp rfl .nil) rfl rfl
    · have hs : ¬ (j.state = 0 ∨ j.state = 1 ∨ j.state = 6) := by simpa only [decide_eq_false_iff_not] using hc
      rw [if_neg hs]
      repeat (refine aw_seq ?_)
      refine aw_out 122 (.bool (!(decide (j.came ≤ j.frm) || (decide (j.state = 5) && decide (j.frm = 0))))) ?_ ?_
      · refine ao1 (by decide) (w_fieldAddr rfl (lk rfl rfl) rfl (by decide)) ?_
        refine ao1 (by decide) (w_load1 (v := .int _ _) rfl (lk rfl rfl) rfl rfl rfl) ?_
        refine ao1 (by decide) (w_fieldAddr rfl (lk rfl rfl) rfl (by decide)) ?_
        refine ao1 (by decide) (w_load1 (v := .int _ _) rfl (lk rfl rfl) rfl rfl rfl) ?_
        refine ao1 (by decide) (o_lt rfl rfl) ?_
        refine ao1 (by decide) (o_move (v := .bool _) rfl) ?_
        refine ao_split rfl rfl (fun hg5 => ?_) (fun hg5 => ?_)
        · refine ao_y1 rfl rfl (by decide) (w_fieldAddr rfl (lk rfl rfl) rfl (by decide)) ?_
          refine ao_y1 rfl rfl (by decide) (w_load1 (v := .int _ _) rfl (lk rfl rfl) rfl rfl rfl) ?_
          refine ao_y1 rfl rfl (by decide) (o_eq rfl rfl) ?_
          refine ao_y1 rfl rfl (by decide) (o_move (v := .bool _) rfl) ?_
          refine ao_split rfl rfl (fun hg9 => ?_) (fun hg9 => ?_)
          · refine ao_y1 rfl rfl (by decide) (w_fieldAddr rfl (lk rfl rfl) rfl (by decide)) ?_
            refine ao_y1 rfl rfl (by decide) (w_load1 (v := .int _ _) rfl (lk rfl rfl) rfl rfl rfl) ?_
            refine ao_y1 rfl rfl (by decide) (o_eq rfl rfl) ?_
            refine ao_y1 rfl rfl (by decide) (o_pick_t (v := .bool _) rfl rfl) ?_
            refine ao_y1 rfl rfl (by decide) (o_not rfl) ?_
            refine ao1 (by decide) (o_pick_t (v := .bool _) rfl rfl) ?_
            exact ao_nil (Out.mk (by (refine congrArg AV.bool ?_; grind)) (by repeat (first | exact SubX.refl _ _ | refine SubX.at ?_ | refine SubX.put rfl ?_)))
          · refine ao_nT rfl rfl (by decide) ?_
            refine ao_nT rfl rfl (by decide) ?_
            refine ao_nT rfl rfl (by decide) ?_
            refine ao_y1 rfl rfl (by decide) (o_pick_f (v := .bool _) rfl rfl) ?_
            refine ao_y1 rfl rfl (by decide) (o_not rfl) ?_
            refine ao1 (by decide) (o_pick_t (v := .bool _) rfl rfl) ?_
            exact ao_nil (Out.mk (by (refine congrArg AV.bool ?_; (simp_all; done))) (by repeat (first | exact SubX.refl _ _ | refine SubX.at ?_ | refine SubX.put rfl ?_)))
        · refine ao_nT rfl rfl (by decide) ?_
          refine ao_nT rfl rfl (by decide) ?_
          refine ao_nT rfl rfl (by decide) ?_
          refine ao_nT rfl rfl (by decide) ?_
          refine ao_nU rfl rfl (by decide) ?_
          refine ao_nU rfl rfl (by decide) ?_
          refine ao_nU rfl rfl (by decide) ?_
          refine ao_nT rfl rfl (by decide) ?_
          refine ao_nT rfl rfl (by decide) ?_
          refine ao1 (by decide) (o_pick_f (v := .bool _) rfl rfl) ?_
          exact ao_nil (Out.mk (by (refine congrArg AV.bool ?_; (simp_all; done))) (by repeat (first | exact SubX.refl _ _ | refine SubX.at ?_ | refine SubX.put rfl ?_)))
      repeat (refine then_nrm ?_)
      refine aw_cond rfl (fun hc => ?_) (fun hc => ?_)
      · repeat (refine aw_seq ?_)
        refine aw_region ?_
        refine ao1 (by decide) (o_assign (v := .bool _) rfl) ?_
        refine ao_nil ?_
        repeat (first | refine then_nrm ?_ | refine then_ret ?_ | refine aw_ret ?_)
        rw [show (decide (j.came ≤ j.frm) || (decide (j.state = 5) && decide (j.frm = 0))) = false by simpa only [Bool.not_eq_true'] using hc, Bool.false_and]
        exact e_done hB (r_tmp rfl .nil) rfl rfl
      rw [show (decide (j.came ≤ j.frm) || (decide (j.state = 5) && decide (j.frm = 0))) = true by simpa only [Bool.not_eq_false'] using hc, Bool.true_and]
      repeat (first | refine then_nrm ?_ | refine aw_seq ?_ | refine aw_skip ?_)
      refine aw_region ?_
      refine ao1 (by decide) (w_fieldAddr rfl (lk rfl rfl) rfl (by decide)) ?_
      refine ao1 (by decide) (w_load1 (v := .int _ _) rfl (lk rfl rfl) rfl rfl rfl) ?_
      refine ao1 (by decide) (o_lt rfl rfl) ?_
      refine ao_nil ?_
      try dsimp only
      repeat (refine then_nrm ?_)
      refine aw_cond rfl (fun hc => ?_) (fun hc => ?_)
      · rw [if_pos (by simpa using hc)]
        repeat (refine aw_seq ?_)
        refine aw_region ?_
        refine ao1 (by decide) (w_fieldAddr rfl (lk rfl rfl) rfl (by decide)) ?_
        refine ao1 (by decide) (w_load1 (v := .int _ _) rfl (lk rfl rfl) rfl rfl rfl) ?_
        refine ao1 (by decide) (o_eq rfl rfl) ?_
        refine ao1 (by decide) (o_assign (v := .bool _) rfl) ?_
        refine ao_nil ?_
        try dsimp only
        repeat (first | refine then_nrm ?_ | refine then_ret ?_ | refine aw_ret ?_)
        rw [show (j.to == 0) = decide (j.to = 0) from rfl]
        exact e_done hB (r_tmp rfl .nil) rfl rfl
      · rw [if_neg (by simpa using hc)]
        repeat (first | refine then_nrm ?_ | refine aw_seq ?_ | refine aw_skip ?_)
        refine aw_out 2 (.bool (decide (j.came ≤ j.to) && decide (j.frm ≤ j.to))) ?_ ?_
        · refine ao1 (by decide) (w_fieldAddr rfl (lk rfl rfl) rfl (by decide)) ?_
          refine ao1 (by decide) (w_load1 (v := .int _ _) rfl (lk rfl rfl) rfl rfl rfl) ?_
          refine ao1 (by decide) (w_fieldAddr rfl (lk rfl rfl) rfl (by decide)) ?_
          refine ao1 (by decide) (w_load1 (v := .int _ _) rfl (lk rfl rfl) rfl rfl rfl) ?_
          refine ao1 (by decide) (o_ge rfl rfl) ?_
          refine ao1 (by decide) (o_move (v := .bool _) rfl) ?_
          refine ao_split rfl rfl (fun hg5 => ?_) (fun hg5 => ?_)
          · refine ao_y1 rfl rfl (by decide) (w_fieldAddr rfl (lk rfl rfl) rfl (by decide)) ?_
            refine ao_y1 rfl rfl (by decide) (w_load1 (v := .int _ _) rfl (lk rfl rfl) rfl rfl rfl) ?_
            refine ao_y1 rfl rfl (by decide) (w_fieldAddr rfl (lk rfl rfl) rfl (by decide)) ?_
            refine ao_y1 rfl rfl (by decide) (w_load1 (v := .int _ _) rfl (lk rfl rfl) rfl rfl rfl) ?_
            refine ao_y1 rfl rfl (by decide) (o_ge rfl rfl) ?_
            refine ao1 (by decide) (o_pick_t (v := .bool _) rfl rfl) ?_
            refine ao1 (by decide) (o_assign (v := .bool _) rfl) ?_
            exact ao_nil (Out.mk (by (refine congrArg AV.bool ?_; (simp_all; done))) (by repeat (first | exact SubX.refl _ _ | refine SubX.at ?_ | refine SubX.put rfl ?_)))
          · refine ao_nT rfl rfl (by decide) ?_
            refine ao_nT rfl rfl (by decide) ?_
            refine ao_nT rfl rfl (by decide) ?_
            refine ao_nT rfl rfl (by decide) ?_
            refine ao_nT rfl rfl (by decide) ?_
            refine ao1 (by decide) (o_pick_f (v := .bool _) rfl rfl) ?_
            refine ao1 (by decide) (o_assign (v := .bool _) rfl) ?_
            exact ao_nil (Out.mk (by (refine congrArg AV.bool ?_; (simp_all; omega))) (by repeat (first | exact SubX.refl _ _ | refine SubX.at ?_ | refine SubX.put rfl ?_)))
        repeat (first | refine then_nrm ?_ | refine aw_ret ?_)
        exact e_done hB (r_tmp rfl .nil) rfl rfl

/-! ### states -/
def jnext (s w : Int) : Option Int :=
  if s = 0 ∧ w = 1 then some 1 else if s = 1 ∧ w = 2 then some 0 else if s = 0 ∧ w = 3 then some 2 else if s = 2 ∧ w = 4 then some 3 else if s = 2 ∧ w = 5 then some 4 else if s ≤ 2 ∧ w = 6 then some 5 else if s < 2 ∧ w = 7 then some 6 else none
def nx (s w : Int) : Int × Bool := match jnext s w with
  | some t => (t, true)
  | none => (s, false)
set_option maxHeartbeats 0 in
theorem job_next (s w : Int) (H : Heap) : AC Try.prog 36 [.int .i64 s, .int .i64 w] H (Ret (.tup [.int .i64 (nx s w).1, .bool (nx s w).2]) H) := by
  refine AC.body (N := 56) [.tmp 4, .tmp 5] Try.func36 rfl rfl rfl (Nat.le_of_ble_eq_true rfl) fun B hB => ?_
  repeat (refine aw_seq ?_)
  refine aw_region ?_
  refine ao1 (by decide) (o_assign (v := .int _ _) rfl) ?_
  refine ao1 (by decide) (o_assign (v := .bool _) rfl) ?_
  refine ao_nil ?_
  repeat (first | refine then_nrm ?_ | refine aw_seq ?_ | refine aw_block ?_)
  refine aw_out 6 (.bool (decide (s = 0 ∧ w = 1))) ?_ ?_
  · refine ao1 (by decide) (o_move (v := .int _ _) rfl) ?_
    refine ao1 (by decide) (o_eq rfl rfl) ?_
    refine ao1 (by decide) (o_move (v := .bool _) rfl) ?_
    refine ao_split rfl rfl (fun hg2 => ?_) (fun hg2 => ?_)
    · refine ao_y1 rfl rfl (by decide) (o_move (v := .int _ _) rfl) ?_
      refine ao_y1 rfl rfl (by decide) (o_eq rfl rfl) ?_
      refine ao1 (by decide) (o_pick_t (v := .bool _) rfl rfl) ?_
      refine ao1 (by decide) (o_assign (v := .bool _) rfl) ?_
      exact ao_nil (Out.mk (by (refine congrArg AV.bool ?_; grind)) (by repeat (first | exact SubX.refl _ _ | refine SubX.at ?_ | refine SubX.put rfl ?_)))
    · refine ao_nT rfl rfl (by decide) ?_
      refine ao_nT rfl rfl (by decide) ?_
      refine ao1 (by decide) (o_pick_f (v := .bool _) rfl rfl) ?_
      refine ao1 (by decide) (o_assign (v := .bool _) rfl) ?_
      exact ao_nil (Out.mk (by (refine congrArg AV.bool ?_; (simp_all; done))) (by repeat (first | exact SubX.refl _ _ | refine SubX.at ?_ | refine SubX.put rfl ?_)))
  repeat (refine then_nrm ?_)
  refine aw_cond rfl (fun hc => ?_) (fun hc => ?_)
  · have h : s = 0 ∧ w = 1 := by simpa only [decide_eq_true_eq] using hc
    have e : nx s w = (1, true) := by rw [nx, jnext, if_pos h]
    repeat (refine aw_seq ?_)
    refine aw_region ?_
    refine ao1 (by decide) (o_assign (v := .int _ _) rfl) ?_
    refine ao1 (by decide) (o_assign (v := .bool _) rfl) ?_
    refine ao_nil ?_
    repeat (first | refine then_nrm ?_ | refine then_ret ?_ | refine blk_ret ?_ | refine aw_ret ?_)
    rw [e]
    exact e_done hB (r_tmp rfl (r_tmp rfl .nil)) rfl rfl
  have h0 : ¬ (s = 0 ∧ w = 1) := by simpa only [decide_eq_false_iff_not] using hc
  repeat (refine aw_seq ?_)
  refine aw_out 13 (.bool (decide (s = 1 ∧ w = 2))) ?_ ?_
  · refine ao1 (by decide) (o_move (v := .int _ _) rfl) ?_
    refine ao1 (by decide) (o_eq rfl rfl) ?_
    refine ao1 (by decide) (o_move (v := .bool _) rfl) ?_
    refine ao_split rfl rfl (fun hg2 => ?_) (fun hg2 => ?_)
    · refine ao_y1 rfl rfl (by decide) (o_move (v := .int _ _) rfl) ?_
      refine ao_y1 rfl rfl (by decide) (o_eq rfl rfl) ?_
      refine ao1 (by decide) (o_pick_t (v := .bool _) rfl rfl) ?_
      refine ao1 (by decide) (o_assign (v := .bool _) rfl) ?_
      exact ao_nil (Out.mk (by (refine congrArg AV.bool ?_; grind)) (by repeat (first | exact SubX.refl _ _ | refine SubX.at ?_ | refine SubX.put rfl ?_)))
    · refine ao_nT rfl rfl (by decide) ?_
      refine ao_nT rfl rfl (by decide) ?_
      refine ao1 (by decide) (o_pick_f (v := .bool _) rfl rfl) ?_
      refine ao1 (by decide) (o_assign (v := .bool _) rfl) ?_
      exact ao_nil (Out.mk (by (refine congrArg AV.bool ?_; (simp_all; done))) (by repeat (first | exact SubX.refl _ _ | refine SubX.at ?_ | refine SubX.put rfl ?_)))
  repeat (refine then_nrm ?_)
  refine aw_cond rfl (fun hc => ?_) (fun hc => ?_)
  · have h : s = 1 ∧ w = 2 := by simpa only [decide_eq_true_eq] using hc
    have e : nx s w = (0, true) := by rw [nx, jnext, if_neg h0, if_pos h]
    repeat (refine aw_seq ?_)
    refine aw_region ?_
    refine ao1 (by decide) (o_assign (v := .int _ _) rfl) ?_
    refine ao1 (by decide) (o_assign (v := .bool _) rfl) ?_
    refine ao_nil ?_
    repeat (first | refine then_nrm ?_ | refine then_ret ?_ | refine blk_ret ?_ | refine aw_ret ?_)
    rw [e]
    exact e_done hB (r_tmp rfl (r_tmp rfl .nil)) rfl rfl
  have h1 : ¬ (s = 1 ∧ w = 2) := by simpa only [decide_eq_false_iff_not] using hc
  repeat (refine aw_seq ?_)
  refine aw_out 20 (.bool (decide (s = 0 ∧ w = 3))) ?_ ?_
  · refine ao1 (by decide) (o_move (v := .int _ _) rfl) ?_
    refine ao1 (by decide) (o_eq rfl rfl) ?_
    refine ao1 (by decide) (o_move (v := .bool _) rfl) ?_
    refine ao_split rfl rfl (fun hg2 => ?_) (fun hg2 => ?_)
    · refine ao_y1 rfl rfl (by decide) (o_move (v := .int _ _) rfl) ?_
      refine ao_y1 rfl rfl (by decide) (o_eq rfl rfl) ?_
      refine ao1 (by decide) (o_pick_t (v := .bool _) rfl rfl) ?_
      refine ao1 (by decide) (o_assign (v := .bool _) rfl) ?_
      exact ao_nil (Out.mk (by (refine congrArg AV.bool ?_; grind)) (by repeat (first | exact SubX.refl _ _ | refine SubX.at ?_ | refine SubX.put rfl ?_)))
    · refine ao_nT rfl rfl (by decide) ?_
      refine ao_nT rfl rfl (by decide) ?_
      refine ao1 (by decide) (o_pick_f (v := .bool _) rfl rfl) ?_
      refine ao1 (by decide) (o_assign (v := .bool _) rfl) ?_
      exact ao_nil (Out.mk (by (refine congrArg AV.bool ?_; (simp_all; done))) (by repeat (first | exact SubX.refl _ _ | refine SubX.at ?_ | refine SubX.put rfl ?_)))
  repeat (refine then_nrm ?_)
  refine aw_cond rfl (fun hc => ?_) (fun hc => ?_)
  · have h : s = 0 ∧ w = 3 := by simpa only [decide_eq_true_eq] using hc
    have e : nx s w = (2, true) := by rw [nx, jnext, if_neg h0, if_neg h1, if_pos h]
    repeat (refine aw_seq ?_)
    refine aw_region ?_
    refine ao1 (by decide) (o_assign (v := .int _ _) rfl) ?_
    refine ao1 (by decide) (o_assign (v := .bool _) rfl) ?_
    refine ao_nil ?_
    repeat (first | refine then_nrm ?_ | refine then_ret ?_ | refine blk_ret ?_ | refine aw_ret ?_)
    rw [e]
    exact e_done hB (r_tmp rfl (r_tmp rfl .nil)) rfl rfl
  have h2 : ¬ (s = 0 ∧ w = 3) := by simpa only [decide_eq_false_iff_not] using hc
  repeat (refine aw_seq ?_)
  refine aw_out 27 (.bool (decide (s = 2 ∧ w = 4))) ?_ ?_
  · refine ao1 (by decide) (o_move (v := .int _ _) rfl) ?_
    refine ao1 (by decide) (o_eq rfl rfl) ?_
    refine ao1 (by decide) (o_move (v := .bool _) rfl) ?_
    refine ao_split rfl rfl (fun hg2 => ?_) (fun hg2 => ?_)
    · refine ao_y1 rfl rfl (by decide) (o_move (v := .int _ _) rfl) ?_
      refine ao_y1 rfl rfl (by decide) (o_eq rfl rfl) ?_
      refine ao1 (by decide) (o_pick_t (v := .bool _) rfl rfl) ?_
      refine ao1 (by decide) (o_assign (v := .bool _) rfl) ?_
      exact ao_nil (Out.mk (by (refine congrArg AV.bool ?_; grind)) (by repeat (first | exact SubX.refl _ _ | refine SubX.at ?_ | refine SubX.put rfl ?_)))
    · refine ao_nT rfl rfl (by decide) ?_
      refine ao_nT rfl rfl (by decide) ?_
      refine ao1 (by decide) (o_pick_f (v := .bool _) rfl rfl) ?_
      refine ao1 (by decide) (o_assign (v := .bool _) rfl) ?_
      exact ao_nil (Out.mk (by (refine congrArg AV.bool ?_; (simp_all; done))) (by repeat (first | exact SubX.refl _ _ | refine SubX.at ?_ | refine SubX.put rfl ?_)))
  repeat (refine then_nrm ?_)
  refine aw_cond rfl (fun hc => ?_) (fun hc => ?_)
  · have h : s = 2 ∧ w = 4 := by simpa only [decide_eq_true_eq] using hc
    have e : nx s w = (3, true) := by rw [nx, jnext, if_neg h0, if_neg h1, if_neg h2, if_pos h]
    repeat (refine aw_seq ?_)
    refine aw_region ?_
    refine ao1 (by decide) (o_assign (v := .int _ _) rfl) ?_
    refine ao1 (by decide) (o_assign (v := .bool _) rfl) ?_
    refine ao_nil ?_
    repeat (first | refine then_nrm ?_ | refine then_ret ?_ | refine blk_ret ?_ | refine aw_ret ?_)
    rw [e]
    exact e_done hB (r_tmp rfl (r_tmp rfl .nil)) rfl rfl
  have h3 : ¬ (s = 2 ∧ w = 4) := by simpa only [decide_eq_false_iff_not] using hc
  repeat (refine aw_seq ?_)
  refine aw_out 34 (.bool (decide (s = 2 ∧ w = 5))) ?_ ?_
  · refine ao1 (by decide) (o_move (v := .int _ _) rfl) ?_
    refine ao1 (by decide) (o_eq rfl rfl) ?_
    refine ao1 (by decide) (o_move (v := .bool _) rfl) ?_
    refine ao_split rfl rfl (fun hg2 => ?_) (fun hg2 => ?_)
    · refine ao_y1 rfl rfl (by decide) (o_move (v := .int _ _) rfl) ?_
      refine ao_y1 rfl rfl (by decide) (o_eq rfl rfl) ?_
      refine ao1 (by decide) (o_pick_t (v := .bool _) rfl rfl) ?_
      refine ao1 (by decide) (o_assign (v := .bool _) rfl) ?_
      exact ao_nil (Out.mk (by (refine congrArg AV.bool ?_; grind)) (by repeat (first | exact SubX.refl _ _ | refine SubX.at ?_ | refine SubX.put rfl ?_)))
    · refine ao_nT rfl rfl (by decide) ?_
      refine ao_nT rfl rfl (by decide) ?_
      refine ao1 (by decide) (o_pick_f (v := .bool _) rfl rfl) ?_
      refine ao1 (by decide) (o_assign (v := .bool _) rfl) ?_
      exact ao_nil (Out.mk (by (refine congrArg AV.bool ?_; (simp_all; done))) (by repeat (first | exact SubX.refl _ _ | refine SubX.at ?_ | refine SubX.put rfl ?_)))
  repeat (refine then_nrm ?_)
  refine aw_cond rfl (fun hc => ?_) (fun hc => ?_)
  · have h : s = 2 ∧ w = 5 := by simpa only [decide_eq_true_eq] using hc
    have e : nx s w = (4, true) := by rw [nx, jnext, if_neg h0, if_neg h1, if_neg h2, if_neg h3, if_pos h]
    repeat (refine aw_seq ?_)
    refine aw_region ?_
    refine ao1 (by decide) (o_assign (v := .int _ _) rfl) ?_
    refine ao1 (by decide) (o_assign (v := .bool _) rfl) ?_
    refine ao_nil ?_
    repeat (first | refine then_nrm ?_ | refine then_ret ?_ | refine blk_ret ?_ | refine aw_ret ?_)
    rw [e]
    exact e_done hB (r_tmp rfl (r_tmp rfl .nil)) rfl rfl
  have h4 : ¬ (s = 2 ∧ w = 5) := by simpa only [decide_eq_false_iff_not] using hc
  repeat (refine aw_seq ?_)
  refine aw_out 41 (.bool (decide (s ≤ 2 ∧ w = 6))) ?_ ?_
  · refine ao1 (by decide) (o_move (v := .int _ _) rfl) ?_
    refine ao1 (by decide) (o_le rfl rfl) ?_
    refine ao1 (by decide) (o_move (v := .bool _) rfl) ?_
    refine ao_split rfl rfl (fun hg2 => ?_) (fun hg2 => ?_)
    · refine ao_y1 rfl rfl (by decide) (o_move (v := .int _ _) rfl) ?_
      refine ao_y1 rfl rfl (by decide) (o_eq rfl rfl) ?_
      refine ao1 (by decide) (o_pick_t (v := .bool _) rfl rfl) ?_
      refine ao1 (by decide) (o_assign (v := .bool _) rfl) ?_
      exact ao_nil (Out.mk (by (refine congrArg AV.bool ?_; grind)) (by repeat (first | exact SubX.refl _ _ | refine SubX.at ?_ | refine SubX.put rfl ?_)))
    · refine ao_nT rfl rfl (by decide) ?_
      refine ao_nT rfl rfl (by decide) ?_
      refine ao1 (by decide) (o_pick_f (v := .bool _) rfl rfl) ?_
      refine ao1 (by decide) (o_assign (v := .bool _) rfl) ?_
      exact ao_nil (Out.mk (by (refine congrArg AV.bool ?_; (simp_all; omega))) (by repeat (first | exact SubX.refl _ _ | refine SubX.at ?_ | refine SubX.put rfl ?_)))
  repeat (refine then_nrm ?_)
  refine aw_cond rfl (fun hc => ?_) (fun hc => ?_)
  · have h : s ≤ 2 ∧ w = 6 := by simpa only [decide_eq_true_eq] using hc
    have e : nx s w = (5, true) := by rw [nx, jnext, if_neg h0, if_neg h1, if_neg h2, if_neg h3, if_neg h4, if_pos h]
    repeat (refine aw_seq ?_)
    refine aw_region ?_
    refine ao1 (by decide) (o_assign (v := .int _ _) rfl) ?_
    refine ao1 (by decide) (o_assign (v := .bool _) rfl) ?_
    refine ao_nil ?_
    repeat (first | refine then_nrm ?_ | refine then_ret ?_ | refine blk_ret ?_ | refine aw_ret ?_)
    rw [e]
    exact e_done hB (r_tmp rfl (r_tmp rfl .nil)) rfl rfl
  have h5 : ¬ (s ≤ 2 ∧ w = 6) := by simpa only [decide_eq_false_iff_not] using hc
  repeat (refine aw_seq ?_)
  refine aw_out 48 (.bool (decide (s < 2 ∧ w = 7))) ?_ ?_
  · refine ao1 (by decide) (o_move (v := .int _ _) rfl) ?_
    refine ao1 (by decide) (o_lt rfl rfl) ?_
    refine ao1 (by decide) (o_move (v := .bool _) rfl) ?_
    refine ao_split rfl rfl (fun hg2 => ?_) (fun hg2 => ?_)
    · refine ao_y1 rfl rfl (by decide) (o_move (v := .int _ _) rfl) ?_
      refine ao_y1 rfl rfl (by decide) (o_eq rfl rfl) ?_
      refine ao1 (by decide) (o_pick_t (v := .bool _) rfl rfl) ?_
      refine ao1 (by decide) (o_assign (v := .bool _) rfl) ?_
      exact ao_nil (Out.mk (by (refine congrArg AV.bool ?_; grind)) (by repeat (first | exact SubX.refl _ _ | refine SubX.at ?_ | refine SubX.put rfl ?_)))
    · refine ao_nT rfl rfl (by decide) ?_
      refine ao_nT rfl rfl (by decide) ?_
      refine ao1 (by decide) (o_pick_f (v := .bool _) rfl rfl) ?_
      refine ao1 (by decide) (o_assign (v := .bool _) rfl) ?_
      exact ao_nil (Out.mk (by (refine congrArg AV.bool ?_; (simp_all; omega))) (by repeat (first | exact SubX.refl _ _ | refine SubX.at ?_ | refine SubX.put rfl ?_)))
  repeat (refine then_nrm ?_)
  refine aw_cond rfl (fun hc => ?_) (fun hc => ?_)
  · have h : s < 2 ∧ w = 7 := by simpa only [decide_eq_true_eq] using hc
    have e : nx s w = (6, true) := by rw [nx, jnext, if_neg h0, if_neg h1, if_neg h2, if_neg h3, if_neg h4, if_neg h5, if_pos h]
    repeat (refine aw_seq ?_)
    refine aw_region ?_
    refine ao1 (by decide) (o_assign (v := .int _ _) rfl) ?_
    refine ao1 (by decide) (o_assign (v := .bool _) rfl) ?_
    refine ao_nil ?_
    repeat (first | refine then_nrm ?_ | refine then_ret ?_ | refine blk_ret ?_ | refine aw_ret ?_)
    rw [e]
    exact e_done hB (r_tmp rfl (r_tmp rfl .nil)) rfl rfl
  have h6 : ¬ (s < 2 ∧ w = 7) := by simpa only [decide_eq_false_iff_not] using hc
  have e : nx s w = (s, false) := by rw [nx, jnext, if_neg h0, if_neg h1, if_neg h2, if_neg h3, if_neg h4, if_neg h5, if_neg h6]
  repeat (first | refine then_nrm ?_ | refine blk_nrm ?_ | refine aw_seq ?_ | refine aw_skip ?_)
  refine aw_region ?_
  refine ao1 (by decide) (o_move (v := .int _ _) rfl) ?_
  refine ao1 (by decide) (o_assign (v := .int _ _) rfl) ?_
  refine ao1 (by decide) (o_assign (v := .bool _) rfl) ?_
  refine ao_nil ?_
  repeat (first | refine then_nrm ?_ | refine aw_ret ?_)
  rw [e]
  exact e_done hB (r_tmp rfl (r_tmp rfl .nil)) rfl rfl
def jtab : List Int := [1, -1, 2, -1, -1, 5, 6, -1, 0, -1, -1, -1, 5, 6, -1, -1, -1, 3, 4, 5, -1, -1, -1, -1, -1, -1, -1, -1, -1, -1, -1, -1, -1, -1, -1, -1, -1, -1, -1, -1, -1, -1, -1, -1, -1, -1, -1, -1, -1]
theorem jtab_row : ∀ a : Nat, a < 7 → ∀ b : Nat, b < 7 → jtab[a * 7 + b]? = some ((jnext (a : Int) ((b : Int) + 1)).getD (-1)) := by decide +kernel
theorem jnext_in {s w t : Int} (h0 : 0 ≤ s) (h : jnext s w = some t) : 0 ≤ t ∧ t ≤ 6 := by
  unfold jnext at h
  repeat' split at h
  all_goals first | (injection h with h; omega) | cases h
abbrev eTab : List AV := jtab.map fun i => .int .i64 i
set_option maxHeartbeats 0 in
theorem ref11_Next (s w : Int) (hs : 0 ≤ s ∧ s ≤ 6) (hw : 1 ≤ w ∧ w ≤ 7) (H : Heap) : AC Try.prog 38 [.int .i64 s, .int .i64 w] H (Ret (.int .i64 ((jnext s w).getD (-1))) H) := by
  obtain ⟨a, rfl⟩ : ∃ a : Nat, s = a := ⟨s.toNat, by omega⟩
  obtain ⟨b, rfl⟩ : ∃ b : Nat, w = (b : Int) + 1 := ⟨(w - 1).toNat, by omega⟩
  have hrow := jtab_row a (by omega) b (by omega)
  have hget : ((eTab.drop (((a : Nat) : Int).toNat * 7)).take 7)[((b : Nat) : Int).toNat * 1]? = some (.int .i64 ((jnext (a : Int) ((b : Int) + 1)).getD (-1))) := by
    show ((eTab.drop (a * 7)).take 7)[b * 1]? = _
    rw [Nat.mul_one, List.getElem?_take, if_pos (by omega), List.getElem?_drop, List.getElem?_map, hrow]
    rfl
  refine AC.body (N := 18) [.tmp 4] Try.func38 rfl rfl rfl (Nat.le_of_ble_eq_true rfl) fun B hB => ?_
  repeat (refine aw_seq ?_)
  refine aw_region ?_
  refine ao1 (by decide) (o_assign (v := .int _ _) rfl) ?_
  refine ao_nil ?_
  repeat (first | refine then_nrm ?_ | refine aw_seq ?_)
  refine aw_region ?_
  refine ao1 (by decide) (V1.up (o_buildArr (cs := [.int _ _, .int _ _, .int _ _, .int _ _, .int _ _, .int _ _, .int _ _]) rfl)) ?_
  refine ao1 (by decide) (V1.up (o_buildArr (cs := [.int _ _, .int _ _, .int _ _, .int _ _, .int _ _, .int _ _, .int _ _]) rfl)) ?_
  refine ao1 (by decide) (V1.up (o_buildArr (cs := [.int _ _, .int _ _, .int _ _, .int _ _, .int _ _, .int _ _, .int _ _]) rfl)) ?_
  refine ao1 (by decide) (V1.up (o_buildArr (cs := [.int _ _, .int _ _, .int _ _, .int _ _, .int _ _, .int _ _, .int _ _]) rfl)) ?_
  refine ao1 (by decide) (V1.up (o_buildArr (cs := [.int _ _, .int _ _, .int _ _, .int _ _, .int _ _, .int _ _, .int _ _]) rfl)) ?_
  refine ao1 (by decide) (V1.up (o_buildArr (cs := [.int _ _, .int _ _, .int _ _, .int _ _, .int _ _, .int _ _, .int _ _]) rfl)) ?_
  refine ao1 (by decide) (V1.up (o_buildArr (cs := [.int _ _, .int _ _, .int _ _, .int _ _, .int _ _, .int _ _, .int _ _]) rfl)) ?_
  refine ao1 (by decide) (V1.up (o_buildArr (cs := eTab) rfl)) ?_
  refine ao1 (by decide) (o_move (v := .int _ _) rfl) ?_
  refine ao1 (by decide) (o_indexN (cs := eTab) (sz := 7) rfl rfl (by omega) (by omega) rfl (by simp [jtab]; omega)) ?_
  refine ao1 (by decide) (o_move (v := .int _ _) rfl) ?_
  refine ao1 (by decide) (o_sub (r := (b : Int)) rfl rfl (by rw [show (b : Int) + 1 - 1 = (b : Int) by omega]; exact wrap64_ok (by omega) (by omega))) ?_
  refine ao1 (by decide) (o_index1 (sz := 1) (v := .int .i64 _) rfl rfl (by omega) (by omega) hget) ?_
  refine ao1 (by decide) (o_assign (v := .int _ _) rfl) ?_
  refine ao_nil ?_
  try dsimp only
  repeat (first | refine then_nrm ?_ | refine aw_ret ?_)
  exact e_done hB (r_tmp rfl .nil) rfl rfl
def jover (s : Int) : Bool := decide (3 ≤ s) && decide (s ≤ 6)
theorem job_Over (s : Int) (H : Heap) : AC Try.prog 25 [.int .i64 s] H (Ret (.bool (jover s)) H) := by
  refine AC.body (N := 9) [.tmp 2] Try.func25 rfl rfl rfl (Nat.le_of_ble_eq_true rfl) fun B hB => ?_
  repeat (refine aw_seq ?_)
  refine aw_region ?_
  refine ao1 (by decide) (o_assign (v := .bool _) rfl) ?_
  refine ao_nil ?_
  repeat (first | refine then_nrm ?_ | refine aw_seq ?_)
  refine aw_out 2 (.bool (jover s)) ?_ ?_
  · refine ao1 (by decide) (o_move (v := .int _ _) rfl) ?_
    refine ao1 (by decide) (o_ge rfl rfl) ?_
    refine ao1 (by decide) (o_move (v := .bool _) rfl) ?_
    refine ao_split rfl rfl (fun hg2 => ?_) (fun hg2 => ?_)
    · refine ao_y1 rfl rfl (by decide) (o_move (v := .int _ _) rfl) ?_
      refine ao_y1 rfl rfl (by decide) (o_le rfl rfl) ?_
      refine ao1 (by decide) (o_pick_t (v := .bool _) rfl rfl) ?_
      refine ao1 (by decide) (o_assign (v := .bool _) rfl) ?_
      exact ao_nil (Out.mk (by (refine congrArg AV.bool ?_; (simp only [jover] at *; (simp_all; done)))) (by repeat (first | exact SubX.refl _ _ | refine SubX.at ?_ | refine SubX.put rfl ?_)))
    · refine ao_nT rfl rfl (by decide) ?_
      refine ao_nT rfl rfl (by decide) ?_
      refine ao1 (by decide) (o_pick_f (v := .bool _) rfl rfl) ?_
      refine ao1 (by decide) (o_assign (v := .bool _) rfl) ?_
      exact ao_nil (Out.mk (by (refine congrArg AV.bool ?_; (simp only [jover] at *; (simp_all; omega)))) (by repeat (first | exact SubX.refl _ _ | refine SubX.at ?_ | refine SubX.put rfl ?_)))
  repeat (first | refine then_nrm ?_ | refine aw_ret ?_)
  exact e_done hB (r_tmp rfl .nil) rfl rfl
abbrev jnames : List ByteArray := [⟨#[119, 97, 105, 116, 115]⟩, ⟨#[104, 111, 108, 100, 115]⟩, ⟨#[114, 117, 110, 115]⟩, ⟨#[100, 111, 110, 101]⟩, ⟨#[101, 110, 100, 101, 100]⟩, ⟨#[99, 97, 110, 99, 101, 108, 108, 101, 100]⟩, ⟨#[114, 101, 102, 117, 115, 101, 100]⟩]
abbrev eS (s : ByteArray) : List AV := [.str s]
theorem job_names (H : Heap) : AC Try.prog 42 [] H (Ret (.pl (jnames.map eS)) H) := by
  refine AC.body (N := 2) [.tmp 0] Try.func42 rfl rfl rfl (Nat.le_of_ble_eq_true rfl) fun B hB => ?_
  repeat (refine aw_seq ?_)
  refine aw_region ?_
  refine ao1 (by decide) (o_assign (v := .nsl) rfl) ?_
  refine ao_nil ?_
  repeat (first | refine then_nrm ?_ | refine aw_seq ?_)
  refine aw_region ?_
  refine ao2 (by rintro _ ⟨⟩; decide) (g_litL (jnames.map eS) rfl (by decide) (by decide) (by decide) rfl rfl (by simp) rfl (by simp [AV.bels, AV.bel])) ?_
  refine ao1 (by decide) (o_assign (v := .pl _) rfl) ?_
  refine ao_nil ?_
  try dsimp only
  repeat (first | refine then_nrm ?_ | refine aw_ret ?_)
  exact e_done hB (r_tmp rfl .nil) rfl rfl
def jname (s : Int) : ByteArray := if 0 ≤ s ∧ s ≤ 6 then (jnames[s.toNat]?).getD ⟨#[]⟩ else ⟨#[]⟩
theorem job_Name (s : Int) (H : Heap) : AC Try.prog 26 [.int .i64 s] H (Ret (.str (jname s)) H) := by
  refine AC.body (N := 13) [.tmp 2] Try.func26 rfl rfl rfl (Nat.le_of_ble_eq_true rfl) fun B hB => ?_
  repeat (refine aw_seq ?_)
  refine aw_region ?_
  refine ao1 (by decide) (o_assign (v := .str _) rfl) ?_
  refine ao_nil ?_
  repeat (first | refine then_nrm ?_ | refine aw_seq ?_)
  refine aw_out 8 (.bool (!(decide (0 ≤ s) && decide (s ≤ 6)))) ?_ ?_
  · refine ao1 (by decide) (o_move (v := .int _ _) rfl) ?_
    refine ao1 (by decide) (o_lt rfl rfl) ?_
    refine ao1 (by decide) (o_move (v := .bool _) rfl) ?_
    refine ao_split rfl rfl (fun hg2 => ?_) (fun hg2 => ?_)
    · refine ao_nF rfl rfl (by decide) ?_
      refine ao_nF rfl rfl (by decide) ?_
      refine ao1 (by decide) (o_pick_t (v := .bool _) rfl rfl) ?_
      exact ao_nil (Out.mk (by (refine congrArg AV.bool ?_; (simp_all; done))) (by repeat (first | exact SubX.refl _ _ | refine SubX.at ?_ | refine SubX.put rfl ?_)))
    · refine ao_y1 rfl rfl (by decide) (o_move (v := .int _ _) rfl) ?_
      refine ao_y1 rfl rfl (by decide) (o_gt rfl rfl) ?_
      refine ao1 (by decide) (o_pick_f (v := .bool _) rfl rfl) ?_
      exact ao_nil (Out.mk (by (refine congrArg AV.bool ?_; grind)) (by repeat (first | exact SubX.refl _ _ | refine SubX.at ?_ | refine SubX.put rfl ?_)))
  repeat (refine then_nrm ?_)
  refine aw_cond rfl (fun hc => ?_) (fun hc => ?_)
  · repeat (refine aw_seq ?_)
    refine aw_region ?_
    refine ao1 (by decide) (o_assign (v := .str _) rfl) ?_
    refine ao_nil ?_
    repeat (first | refine then_nrm ?_ | refine then_ret ?_ | refine aw_ret ?_)
    rw [show jname s = ⟨#[]⟩ by rw [jname, if_neg (by simp at hc; omega)]]
    exact e_done hB (r_tmp rfl .nil) rfl rfl
  · have hs : 0 ≤ s ∧ s ≤ 6 := by simp at hc; omega
    obtain ⟨n, rfl⟩ : ∃ n : Nat, s = n := ⟨s.toNat, by omega⟩
    obtain ⟨x, hx, _⟩ := get_in (l := jnames) (k := n) (by simp; omega)
    have hr := map_get eS hx
    repeat (first | refine then_nrm ?_ | refine aw_seq ?_ | refine aw_skip ?_)
    refine aw_region ?_
    refine ao_ret (job_names _) rfl (by decide) ?_
    refine ao1 (by decide) (o_move (v := .int _ _) rfl) ?_
    refine ao1 (by decide) (w_indexAddrpN rfl rfl hr rfl) ?_
    refine ao1 (by decide) (o_load1p (v := .str _) rfl hr rfl) ?_
    refine ao1 (by decide) (o_assign (v := .str _) rfl) ?_
    refine ao_nil ?_
    repeat (first | refine then_nrm ?_ | refine aw_ret ?_)
    rw [show jname (n : Int) = x by rw [jname, if_pos hs]; show (jnames[n]?).getD _ = x; rw [hx]; rfl]
    exact e_done hB (r_tmp rfl .nil) rfl rfl
end Go.Av
