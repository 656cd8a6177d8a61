/- A part of the proof: walks through the program over abstract values. -/
import Derived.Test.YtmhfpopbhiloiaaDoorV4
namespace Go.Av
open Go.Proofs
set_option maxRecDepth 10000
set_option linter.unusedSimpArgs false
set_option linter.unusedVariables false

theorem inl_step {l : List Int} {k : Nat} {x : Int} {n : Nat} (hx : l[k]? = some x) (hno : inl (l.take k) n = false) : inl (l.take (k + 1)) n = (x == (n : Int)) := by
  rw [inl, take_snoc_get hx, List.any_append, show (l.take k).any (fun y => y == (n : Int)) = inl (l.take k) n from rfl, hno]; simp
theorem ref01_in (l : List Int) (n : Nat) (hl : l.length ≤ 1000000) (H : Heap) : AC Tryd.prog 54 [.pl (l.map eInt), .int .i64 (n : Int)] H (Ret (.bool (inl l n)) H) := by
  refine AC.body (N := 18) [.tmp 4] Tryd.func54 rfl rfl rfl (Nat.le_of_ble_eq_true rfl) fun B hB => ?_
  repeat (refine aw_seq ?_)
  refine aw_region ?_
  refine ao1 (by decide) (o_assign (v := .bool _) rfl) ?_
  refine ao_nil ?_
  repeat (first | refine then_nrm ?_ | refine aw_seq ?_)
  refine aw_region ?_
  refine ao1 (by decide) (o_assign (v := .int _ _) rfl) ?_
  refine ao_nil ?_
  repeat (first | refine then_nrm ?_ | refine aw_block ?_)
  refine aw_loop (G := Nat) (fun k => k ≤ l.length ∧ inl (l.take k) n = false) (fun k => [(0, .pl (l.map eInt)), (1, .int .i64 (n : Int)), (5, .int .i64 (k : Int))]) (fun _ => H ++ []) (fun k => l.length - k) 0 ⟨Nat.zero_le _, rfl⟩ (by repeat (first | exact Sub.nil | refine Sub.cons (by rfl) ?_)) (Fit.refl _ _) ?_
  rintro k ⟨hk, hno⟩
  repeat (refine aw_seq ?_)
  refine aw_region ?_
  refine ao1 (by decide) (o_move (v := .int _ _) rfl) ?_
  refine ao1 (by decide) (o_move (v := .pl _) rfl) ?_
  refine ao1 (by decide) (o_lenp rfl) ?_
  refine ao1 (by decide) (o_lt rfl rfl) ?_
  refine ao_nil ?_
  repeat (refine then_nrm ?_)
  refine aw_cond rfl (fun hc => ?_) (fun hc => ?_)
  · have hlt : k < l.length := by simpa using hc
    obtain ⟨x, hx, hxl⟩ := get_in hlt
    have hr := map_get eInt hx
    have hst := inl_step hx hno
    repeat (first | refine then_nrm ?_ | refine aw_seq ?_ | refine aw_block ?_ | refine aw_skip ?_)
    refine aw_region ?_
    refine ao1 (by decide) (o_move (v := .pl _) rfl) ?_
    refine ao1 (by decide) (o_move (v := .int _ _) rfl) ?_
    refine ao1 (by decide) (w_indexAddrpN rfl rfl hr rfl) ?_
    refine ao1 (by decide) (o_load1p (v := .int _ _) rfl hr rfl) ?_
    refine ao1 (by decide) (o_move (v := .int _ _) rfl) ?_
    refine ao1 (by decide) (o_eq rfl rfl) ?_
    refine ao_nil ?_
    repeat (refine then_nrm ?_)
    refine aw_cond rfl (fun hc => ?_) (fun hc => ?_)
    · repeat (refine aw_seq ?_)
      refine aw_region ?_
      refine ao1 (by decide) (o_assign (v := .bool _) rfl) ?_
      refine ao_nil ?_
      repeat (first | refine then_nrm ?_ | refine then_ret ?_ | refine blk_ret ?_ | refine aw_ret ?_)
      rw [show inl l n = true from List.any_eq_true.2 ⟨x, hxl, hc⟩]
      exact e_done hB (r_tmp rfl .nil) rfl rfl
    · repeat (first | refine then_nrm ?_ | refine blk_nrm ?_ | refine aw_skip ?_)
      refine aw_region ?_
      refine ao1 (by decide) (o_move (v := .int _ _) rfl) ?_
      refine ao1 (by decide) (o_add rfl rfl (wrap64_ok (by omega) (by omega))) ?_
      refine ao1 (by decide) (o_assign (v := .int _ _) rfl) ?_
      refine ao_nil ?_
      repeat (refine then_nrm ?_)
      exact ⟨k + 1, by omega, ⟨by omega, by rw [hst]; exact hc⟩, (by repeat (first | exact Sub.nil | refine Sub.cons (by rfl) ?_)), .refl _ _⟩
  · have : k = l.length := by simp at hc; omega
    subst this
    rw [List.take_length] at hno
    rw [hno]
    repeat (first | refine then_nrm ?_ | refine then_brk ?_ | refine blk_hit ?_ | refine aw_seq ?_ | refine aw_exit ?_)
    refine aw_region ?_
    refine ao1 (by decide) (o_assign (v := .bool _) rfl) ?_
    refine ao_nil ?_
    repeat (first | refine then_nrm ?_ | refine aw_ret ?_)
    exact e_done hB (r_tmp rfl .nil) rfl rfl

set_option maxHeartbeats 0 in
theorem ref01_Right (l : List Int) (hl : l.length ≤ 1000000) (H : Heap) : AC Tryd.prog 45 [.pl (l.map eInt)] H (Ret (.bool (sok l)) H) := by
  refine AC.body (N := 38) [.tmp 2] Tryd.func45 rfl rfl rfl (Nat.le_of_ble_eq_true rfl) fun B hB => ?_
  repeat (refine aw_seq ?_)
  refine aw_region ?_
  refine ao1 (by decide) (o_assign (v := .bool _) rfl) ?_
  refine ao_nil ?_
  repeat (first | refine then_nrm ?_ | refine aw_seq ?_)
  refine aw_region ?_
  refine ao1 (by decide) (o_assign (v := .int _ _) rfl) ?_
  refine ao_nil ?_
  repeat (first | refine then_nrm ?_ | refine aw_block ?_)
  refine aw_loop (G := Nat) (fun k => k ≤ l.length ∧ ∀ i, i < k → okB l i = true) (fun k => [(0, .pl (l.map eInt)), (3, .int .i64 (k : Int))]) (fun _ => H ++ []) (fun k => l.length - k) 0 ⟨Nat.zero_le _, fun i hi => by omega⟩ (by repeat (first | exact Sub.nil | refine Sub.cons (by rfl) ?_)) (Fit.refl _ _) ?_
  rintro k ⟨hk, hno⟩
  repeat (refine aw_seq ?_)
  refine aw_region ?_
  refine ao1 (by decide) (o_move (v := .int _ _) rfl) ?_
  refine ao1 (by decide) (o_move (v := .pl _) rfl) ?_
  refine ao1 (by decide) (o_lenp rfl) ?_
  refine ao1 (by decide) (o_lt rfl rfl) ?_
  refine ao_nil ?_
  repeat (refine then_nrm ?_)
  refine aw_cond rfl (fun hc => ?_) (fun hc => ?_)
  · have hlt : k < l.length := by simpa using hc
    obtain ⟨x, hx, hxl⟩ := get_in hlt
    have hr := map_get eInt hx
    obtain ⟨m, hm, _⟩ := get_in (l := l) (k := ((k : Int) - 1).toNat) (by omega)
    have hr1 := map_get eInt hm
    have hnd : okB l k = (decide (0 ≤ x) && decide (x < 256) && (decide (k = 0) || decide (m < x))) := by
      rw [okB_get hx]
      cases k with
      | zero => simp
      | succ k =>
        have e : (((k + 1 : Nat) : Int) - 1).toNat = k := by omega
        rw [e] at hm
        simp [hm]
    clear hxl
    repeat (first | refine then_nrm ?_ | refine aw_seq ?_ | refine aw_block ?_ | refine aw_skip ?_)
    refine aw_of_out 37 (.bool (!okB l k)) ?_ ?_
    · refine aw_drawP mixed none 999 ?_
      refine aq0 0 rfl (by decide +kernel) (by decide) (fun _ => o_move (v := .pl _) rfl) ?_
      refine aq0 1 rfl (by decide +kernel) (by decide) (fun _ => o_move (v := .int _ _) rfl) ?_
      refine aqp 2 rfl (by decide +kernel) (by decide) (fun G => w_indexAddrpN rfl rfl hr rfl) ?_
      refine aqp 3 rfl (by decide +kernel) (by decide) (fun G => o_load1p (v := .int _ _) rfl hr rfl) ?_
      refine aq0 4 rfl (by decide +kernel) (by decide) (fun _ => o_lt rfl rfl) ?_
      refine aq0 5 rfl (by decide +kernel) (by decide) (fun _ => o_move (v := .bool _) rfl) ?_
      refine aq_split (g := 15) rfl (fun hg5 => ?_) (fun hg5 => ?_)
      · refine aqn0 (g := 15) 6 rfl (by decide +kernel) (by decide) rfl rfl rfl ?_
        refine aqn0 (g := 15) 7 rfl (by decide +kernel) (by decide) rfl rfl rfl ?_
        refine aqn0 (g := 15) 8 rfl (by decide +kernel) (by decide) rfl rfl rfl ?_
        refine aqn0 (g := 15) 9 rfl (by decide +kernel) (by decide) rfl rfl rfl ?_
        refine aqn0 (g := 15) 10 rfl (by decide +kernel) (by decide) rfl rfl rfl ?_
        refine aq0 11 rfl (by decide +kernel) (by decide) (fun _ => o_pick_t (v := .bool _) rfl rfl) ?_
        refine aq0 12 rfl (by decide +kernel) (by decide) (fun _ => o_move (v := .bool _) rfl) ?_
        refine aqn0 (g := 22) 13 rfl (by decide +kernel) (by decide) rfl rfl rfl ?_
        refine aqn0 (g := 22) 14 rfl (by decide +kernel) (by decide) rfl rfl rfl ?_
        refine aqn0 (g := 22) 15 rfl (by decide +kernel) (by decide) rfl rfl rfl ?_
        refine aqu0 (g := 25) 16 rfl (by decide +kernel) (by decide) rfl rfl ?_
        refine aqu0 (g := 25) 17 rfl (by decide +kernel) (by decide) rfl rfl ?_
        refine aqu0 (g := 25) 18 rfl (by decide +kernel) (by decide) rfl rfl ?_
        refine aqu0 (g := 25) 19 rfl (by decide +kernel) (by decide) rfl rfl ?_
        refine aqu0 (g := 25) 20 rfl (by decide +kernel) (by decide) rfl rfl ?_
        refine aqu0 (g := 25) 21 rfl (by decide +kernel) (by decide) rfl rfl ?_
        refine aqu0 (g := 25) 22 rfl (by decide +kernel) (by decide) rfl rfl ?_
        refine aqu0 (g := 25) 23 rfl (by decide +kernel) (by decide) rfl rfl ?_
        refine aqu0 (g := 25) 24 rfl (by decide +kernel) (by decide) rfl rfl ?_
        refine aqu0 (g := 25) 25 rfl (by decide +kernel) (by decide) rfl rfl ?_
        refine aqn0 (g := 22) 26 rfl (by decide +kernel) (by decide) rfl rfl rfl ?_
        refine aq0 27 rfl (by decide +kernel) (by decide) (fun _ => o_pick_t (v := .bool _) rfl rfl) ?_
        exact aa_done (by decide +kernel) (by exact fun _ => ⟨_, rfl⟩) (Out.mk (by (refine congrArg AV.bool ?_; (rw [hnd]; clear hno hnd hr hr1 hm hx hl hlt hk hc hB; refine Bool.eq_iff_iff.mpr ?_; simp only [Bool.and_eq_true, Bool.or_eq_true, Bool.not_eq_true', decide_eq_true_eq, decide_eq_false_iff_not, beq_iff_eq, bne_iff_ne, Bool.false_eq_true, Bool.and_eq_false_iff, Bool.or_eq_false_iff, false_iff, true_iff, iff_true, iff_false, Bool.not_true, Bool.not_false, not_true, not_false_iff] at *; omega))) (by repeat (first | exact SubX.refl _ _ | refine SubX.at ?_ | refine SubX.put rfl ?_)))
      · refine aqy0 (g := 15) 6 rfl (by decide +kernel) (by decide) rfl rfl (fun _ => o_move (v := .pl _) rfl) ?_
        refine aqy0 (g := 15) 7 rfl (by decide +kernel) (by decide) rfl rfl (fun _ => o_move (v := .int _ _) rfl) ?_
        refine aqyp (g := 15) 8 rfl (by decide +kernel) (by decide) rfl rfl (fun G => w_indexAddrpN rfl rfl hr rfl) ?_
        refine aqyp (g := 15) 9 rfl (by decide +kernel) (by decide) rfl rfl (fun G => o_load1p (v := .int _ _) rfl hr rfl) ?_
        refine aqy0 (g := 15) 10 rfl (by decide +kernel) (by decide) rfl rfl (fun _ => o_gt rfl rfl) ?_
        refine aq0 11 rfl (by decide +kernel) (by decide) (fun _ => o_pick_f (v := .bool _) rfl rfl) ?_
        refine aq0 12 rfl (by decide +kernel) (by decide) (fun _ => o_move (v := .bool _) rfl) ?_
        refine aq_split (g := 22) rfl (fun hg12 => ?_) (fun hg12 => ?_)
        · refine aqn0 (g := 22) 13 rfl (by decide +kernel) (by decide) rfl rfl rfl ?_
          refine aqn0 (g := 22) 14 rfl (by decide +kernel) (by decide) rfl rfl rfl ?_
          refine aqn0 (g := 22) 15 rfl (by decide +kernel) (by decide) rfl rfl rfl ?_
          refine aqu0 (g := 25) 16 rfl (by decide +kernel) (by decide) rfl rfl ?_
          refine aqu0 (g := 25) 17 rfl (by decide +kernel) (by decide) rfl rfl ?_
          refine aqu0 (g := 25) 18 rfl (by decide +kernel) (by decide) rfl rfl ?_
          refine aqu0 (g := 25) 19 rfl (by decide +kernel) (by decide) rfl rfl ?_
          refine aqu0 (g := 25) 20 rfl (by decide +kernel) (by decide) rfl rfl ?_
          refine aqu0 (g := 25) 21 rfl (by decide +kernel) (by decide) rfl rfl ?_
          refine aqu0 (g := 25) 22 rfl (by decide +kernel) (by decide) rfl rfl ?_
          refine aqu0 (g := 25) 23 rfl (by decide +kernel) (by decide) rfl rfl ?_
          refine aqu0 (g := 25) 24 rfl (by decide +kernel) (by decide) rfl rfl ?_
          refine aqu0 (g := 25) 25 rfl (by decide +kernel) (by decide) rfl rfl ?_
          refine aqn0 (g := 22) 26 rfl (by decide +kernel) (by decide) rfl rfl rfl ?_
          refine aq0 27 rfl (by decide +kernel) (by decide) (fun _ => o_pick_t (v := .bool _) rfl rfl) ?_
          exact aa_done (by decide +kernel) (by exact fun _ => ⟨_, rfl⟩) (Out.mk (by (refine congrArg AV.bool ?_; (rw [hnd]; clear hno hnd hr hr1 hm hx hl hlt hk hc hB; refine Bool.eq_iff_iff.mpr ?_; simp only [Bool.and_eq_true, Bool.or_eq_true, Bool.not_eq_true', decide_eq_true_eq, decide_eq_false_iff_not, beq_iff_eq, bne_iff_ne, Bool.false_eq_true, Bool.and_eq_false_iff, Bool.or_eq_false_iff, false_iff, true_iff, iff_true, iff_false, Bool.not_true, Bool.not_false, not_true, not_false_iff] at *; omega))) (by repeat (first | exact SubX.refl _ _ | refine SubX.at ?_ | refine SubX.put rfl ?_)))
        · refine aqy0 (g := 22) 13 rfl (by decide +kernel) (by decide) rfl rfl (fun _ => o_move (v := .int _ _) rfl) ?_
          refine aqy0 (g := 22) 14 rfl (by decide +kernel) (by decide) rfl rfl (fun _ => o_gt rfl rfl) ?_
          refine aqy0 (g := 22) 15 rfl (by decide +kernel) (by decide) rfl rfl (fun _ => o_move (v := .bool _) rfl) ?_
          refine aq_split (g := 25) rfl (fun hg15 => ?_) (fun hg15 => ?_)
          · refine aqy0 (g := 25) 16 rfl (by decide +kernel) (by decide) rfl rfl (fun _ => o_move (v := .pl _) rfl) ?_
            refine aqy0 (g := 25) 17 rfl (by decide +kernel) (by decide) rfl rfl (fun _ => o_move (v := .int _ _) rfl) ?_
            refine aqyp (g := 25) 18 rfl (by decide +kernel) (by decide) rfl rfl (fun G => w_indexAddrpN rfl rfl hr rfl) ?_
            refine aqyp (g := 25) 19 rfl (by decide +kernel) (by decide) rfl rfl (fun G => o_load1p (v := .int _ _) rfl hr rfl) ?_
            refine aqy0 (g := 25) 20 rfl (by decide +kernel) (by decide) rfl rfl (fun _ => o_move (v := .pl _) rfl) ?_
            refine aqy0 (g := 25) 21 rfl (by decide +kernel) (by decide) rfl rfl (fun _ => o_move (v := .int _ _) rfl) ?_
            refine aqy0 (g := 25) 22 rfl (by decide +kernel) (by decide) rfl rfl (fun _ => o_sub (r := (k : Int) - 1) rfl rfl (wrap64_ok (by omega) (by omega))) ?_
            refine aqyp (g := 25) 23 rfl (by decide +kernel) (by decide) rfl rfl (fun G => w_indexAddrp rfl rfl (by simp at hg15; omega) hr1 rfl) ?_
            refine aqyp (g := 25) 24 rfl (by decide +kernel) (by decide) rfl rfl (fun G => o_load1p (v := .int _ _) rfl hr1 rfl) ?_
            refine aqy0 (g := 25) 25 rfl (by decide +kernel) (by decide) rfl rfl (fun _ => o_le rfl rfl) ?_
            refine aqy0 (g := 22) 26 rfl (by decide +kernel) (by decide) rfl rfl (fun _ => o_pick_t (v := .bool _) rfl rfl) ?_
            refine aq0 27 rfl (by decide +kernel) (by decide) (fun _ => o_pick_f (v := .bool _) rfl rfl) ?_
            exact aa_done (by decide +kernel) (by exact fun _ => ⟨_, rfl⟩) (Out.mk (by (refine congrArg AV.bool ?_; (rw [hnd]; clear hno hnd hr hr1 hm hx hl hlt hk hc hB; refine Bool.eq_iff_iff.mpr ?_; simp only [Bool.and_eq_true, Bool.or_eq_true, Bool.not_eq_true', decide_eq_true_eq, decide_eq_false_iff_not, beq_iff_eq, bne_iff_ne, Bool.false_eq_true, Bool.and_eq_false_iff, Bool.or_eq_false_iff, false_iff, true_iff, iff_true, iff_false, Bool.not_true, Bool.not_false, not_true, not_false_iff] at *; omega))) (by repeat (first | exact SubX.refl _ _ | refine SubX.at ?_ | refine SubX.put rfl ?_)))
          · refine aqn0 (g := 25) 16 rfl (by decide +kernel) (by decide) rfl rfl rfl ?_
            refine aqn0 (g := 25) 17 rfl (by decide +kernel) (by decide) rfl rfl rfl ?_
            refine aqn0 (g := 25) 18 rfl (by decide +kernel) (by decide) rfl rfl rfl ?_
            refine aqn0 (g := 25) 19 rfl (by decide +kernel) (by decide) rfl rfl rfl ?_
            refine aqn0 (g := 25) 20 rfl (by decide +kernel) (by decide) rfl rfl rfl ?_
            refine aqn0 (g := 25) 21 rfl (by decide +kernel) (by decide) rfl rfl rfl ?_
            refine aqn0 (g := 25) 22 rfl (by decide +kernel) (by decide) rfl rfl rfl ?_
            refine aqn0 (g := 25) 23 rfl (by decide +kernel) (by decide) rfl rfl rfl ?_
            refine aqn0 (g := 25) 24 rfl (by decide +kernel) (by decide) rfl rfl rfl ?_
            refine aqn0 (g := 25) 25 rfl (by decide +kernel) (by decide) rfl rfl rfl ?_
            refine aqy0 (g := 22) 26 rfl (by decide +kernel) (by decide) rfl rfl (fun _ => o_pick_f (v := .bool _) rfl rfl) ?_
            refine aq0 27 rfl (by decide +kernel) (by decide) (fun _ => o_pick_f (v := .bool _) rfl rfl) ?_
            exact aa_done (by decide +kernel) (by exact fun _ => ⟨_, rfl⟩) (Out.mk (by (refine congrArg AV.bool ?_; (rw [hnd]; clear hno hnd hr hr1 hm hx hl hlt hk hc hB; refine Bool.eq_iff_iff.mpr ?_; simp only [Bool.and_eq_true, Bool.or_eq_true, Bool.not_eq_true', decide_eq_true_eq, decide_eq_false_iff_not, beq_iff_eq, bne_iff_ne, Bool.false_eq_true, Bool.and_eq_false_iff, Bool.or_eq_false_iff, false_iff, true_iff, iff_true, iff_false, Bool.not_true, Bool.not_false, not_true, not_false_iff] at *; omega))) (by repeat (first | exact SubX.refl _ _ | refine SubX.at ?_ | refine SubX.put rfl ?_)))
    repeat (refine then_nrm ?_)
    refine aw_cond rfl (fun hc => ?_) (fun hc => ?_)
    · repeat (refine aw_seq ?_)
      refine aw_region ?_
      refine ao1 (by decide) (o_assign (v := .bool _) rfl) ?_
      refine ao_nil ?_
      repeat (first | refine then_nrm ?_ | refine then_ret ?_ | refine blk_ret ?_ | refine aw_ret ?_)
      rw [sok_false hlt (by simpa using hc)]
      exact e_done hB (r_tmp rfl .nil) rfl rfl
    · repeat (first | refine then_nrm ?_ | refine blk_nrm ?_ | refine aw_skip ?_)
      refine aw_region ?_
      refine ao1 (by decide) (o_move (v := .int _ _) rfl) ?_
      refine ao1 (by decide) (o_add rfl rfl (wrap64_ok (by omega) (by omega))) ?_
      refine ao1 (by decide) (o_assign (v := .int _ _) rfl) ?_
      refine ao_nil ?_
      repeat (refine then_nrm ?_)
      refine ⟨k + 1, by omega, ⟨by omega, fun i hi => ?_⟩, (by repeat (first | exact Sub.nil | refine Sub.cons (by rfl) ?_)), .refl _ _⟩
      rcases Nat.lt_or_eq_of_le (Nat.le_of_lt_succ hi) with h | h
      · exact hno i h
      · subst h; simpa using hc
  · have : k = l.length := by simp at hc; omega
    subst this
    rw [sok_true hno]
    repeat (first | refine then_nrm ?_ | refine then_brk ?_ | refine blk_hit ?_ | refine aw_seq ?_ | refine aw_exit ?_)
    refine aw_region ?_
    refine ao1 (by decide) (o_assign (v := .bool _) rfl) ?_
    refine ao_nil ?_
    repeat (first | refine then_nrm ?_ | refine aw_ret ?_)
    exact e_done hB (r_tmp rfl .nil) rfl rfl

def opw (how : Int) (x y : Bool) : Bool := if how = 0 then x || y else if how = 1 then x && y else if how = 2 then x && !y else false
def setP (f : Nat → Bool) (n : Nat) : List Int := ((List.range n).filter f).map fun j : Nat => (j : Int)
theorem setP_step (f : Nat → Bool) (n : Nat) : setP f (n + 1) = setP f n ++ if f n then [(n : Int)] else [] := by
  rw [setP, List.range_succ, List.filter_append, List.map_append, setP]
  congr 1
  cases h : f n <;> simp [h]
theorem setP_len (f : Nat → Bool) (n : Nat) : (setP f n).length ≤ n := by
  rw [setP, List.length_map]
  exact Nat.le_trans (List.length_filter_le _ _) (by simp)
set_option maxHeartbeats 0 in
theorem ref01_Which (a b : List Int) (how : Int) (ha : a.length ≤ 1000000) (hb : b.length ≤ 1000000) (H : Heap) : AC Tryd.prog 38 [.pl (a.map eInt), .pl (b.map eInt), .int .i64 how] H (Ret (.pl ((setop (opw how) a b).map eInt)) H) := by
  have hbel : ∀ (n g : Nat) (l : List Int), ∀ o ∈ [AObj.mk g 1 (l.map eInt)], ∀ r ∈ o.rows, AV.bels n r = true := by
    intro n g l o ho r hr
    simp only [List.mem_singleton] at ho
    subst ho
    exact ints_bel _ _ r hr
  refine AC.body (N := 63) [.tmp 6] Tryd.func38 rfl rfl rfl (Nat.le_of_ble_eq_true rfl) fun B hB => ?_
  repeat (refine aw_seq ?_)
  refine aw_region ?_
  refine ao1 (by decide) (o_assign (v := .nsl) rfl) ?_
  refine ao_nil ?_
  repeat (first | refine then_nrm ?_ | refine aw_seq ?_)
  refine aw_out 18 (.bool (!(sok a && sok b))) ?_ ?_
  · refine ao1 (by decide) (o_move (v := .pl _) rfl) ?_
    refine ao_ret (ref01_Right _ (by assumption) _) rfl (by decide) ?_
    refine ao1 (by decide) (o_not rfl) ?_
    refine ao1 (by decide) (o_move (v := .bool _) rfl) ?_
    refine ao_split rfl rfl (fun hg3 => ?_) (fun hg3 => ?_)
    · refine ao_nF rfl rfl (by decide) ?_
      refine ao_nF rfl rfl (by decide) ?_
      refine ao_nF rfl rfl (by decide) ?_
      refine ao1 (by decide) (o_pick_t (v := .bool _) rfl rfl) ?_
      exact ao_nil (Out.mk (by (refine congrArg AV.bool ?_; (simp_all; done))) (by repeat (first | exact SubX.refl _ _ | refine SubX.at ?_ | refine SubX.put rfl ?_)))
    · refine ao_y1 rfl rfl (by decide) (o_move (v := .pl _) rfl) ?_
      refine ao_y rfl rfl (by decide) (V2.call (ref01_Right _ (by assumption) _) rfl) ?_
      refine ao_y1 rfl rfl (by decide) (o_not rfl) ?_
      refine ao1 (by decide) (o_pick_f (v := .bool _) rfl rfl) ?_
      exact ao_nil (Out.mk (by (refine congrArg AV.bool ?_; (simp_all; done))) (by repeat (first | exact SubX.refl _ _ | refine SubX.at ?_ | refine SubX.put rfl ?_)))
  repeat (refine then_nrm ?_)
  refine aw_cond rfl (fun hc => ?_) (fun hc => ?_)
  · have hs : (sok a && sok b) = false := by cases h : (sok a && sok b) <;> simp_all
    repeat (refine aw_seq ?_)
    refine aw_region ?_
    refine ao1 (by decide) (o_assign (v := .nsl) rfl) ?_
    refine ao_nil ?_
    repeat (refine then_nrm ?_)
    refine aw_nslpl 6 rfl ?_
    refine aw_ret ?_
    rw [show setop (opw how) a b = [] by rw [setop, hs]; rfl]
    exact e_done hB (r_tmp rfl .nil) rfl rfl
  have hs : (sok a && sok b) = true := by cases h : (sok a && sok b) <;> simp_all
  rw [show setop (opw how) a b = setP (fun n => opw how (inl a n) (inl b n)) 256 by rw [setop, hs]; rfl]
  repeat (first | refine then_nrm ?_ | refine aw_seq ?_ | refine aw_skip ?_)
  refine aw_region ?_
  refine ao1 (by decide) (o_assign (v := .nsl) rfl) ?_
  refine ao_nil ?_
  repeat (first | refine then_nrm ?_ | refine aw_seq ?_)
  refine aw_ghostL (k := 0) 7 1 rfl (by decide) rfl ?_
  refine aw_region ?_
  refine ao1 (by decide) (o_assign (v := .int _ _) rfl) ?_
  refine ao_nil ?_
  try dsimp only [List.nil_append]
  repeat (first | refine then_nrm ?_ | refine aw_block ?_)
  refine aw_loop (G := Nat) (fun n => n ≤ 256) (fun n => [(0, .pl (a.map eInt)), (1, .pl (b.map eInt)), (2, .int .i64 how), (7, .sl (Lid H.length 0) (setP (fun n => opw how (inl a n) (inl b n)) n).length 0 (setP (fun n => opw how (inl a n) (inl b n)) n).length (setP (fun n => opw how (inl a n) (inl b n)) n).length), (8, .int .i64 (n : Int))]) (fun n => H ++ [⟨(setP (fun n => opw how (inl a n) (inl b n)) n).length, 1, (setP (fun n => opw how (inl a n) (inl b n)) n).map eInt⟩]) (fun n => 256 - n) 0 (Nat.zero_le _) (by repeat (first | exact Sub.nil | refine Sub.cons (by rfl) ?_)) (Fit.refl _ _) ?_
  intro n hn
  repeat (refine aw_seq ?_)
  refine aw_region ?_
  refine ao1 (by decide) (o_move (v := .int _ _) rfl) ?_
  refine ao1 (by decide) (o_lt rfl rfl) ?_
  refine ao_nil ?_
  repeat (refine then_nrm ?_)
  refine aw_cond rfl (fun hc => ?_) (fun hc => ?_)
  · have hn2 : n < 256 := by simp at hc; omega
    have hst := setP_step (fun n => opw how (inl a n) (inl b n)) n
    have hle := setP_len (fun n => opw how (inl a n) (inl b n)) n
    try simp only at hst
    generalize setP (fun n => opw how (inl a n) (inl b n)) n = acc at hst hle
    repeat (first | refine then_nrm ?_ | refine aw_seq ?_ | refine aw_block ?_ | refine aw_skip ?_)
    refine aw_region ?_
    refine ao1 (by decide) (o_move (v := .pl _) rfl) ?_
    refine ao1 (by decide) (o_move (v := .int _ _) rfl) ?_
    refine ao_ret (ref01_in _ _ (by assumption) _) rfl (by decide) ?_
    refine ao1 (by decide) (o_move (v := .pl _) rfl) ?_
    refine ao1 (by decide) (o_move (v := .int _ _) rfl) ?_
    refine ao_ret (ref01_in _ _ (by assumption) _) rfl (by decide) ?_
    refine ao1 (by decide) (o_assign (v := .bool _) rfl) ?_
    refine ao1 (by decide) (o_assign (v := .bool _) rfl) ?_
    refine ao_nil ?_
    repeat (first | refine then_nrm ?_ | refine aw_seq ?_)
    refine aw_out 57 (.bool (opw how (inl a n) (inl b n))) ?_ ?_
    · refine ao1 (by decide) (o_move (v := .int _ _) rfl) ?_
      refine ao1 (by decide) (o_eq rfl rfl) ?_
      refine ao1 (by decide) (o_move (v := .bool _) rfl) ?_
      refine ao_split rfl rfl (fun hg2 => ?_) (fun hg2 => ?_)
      · refine ao_y1 rfl rfl (by decide) (o_move (v := .bool _) rfl) ?_
        refine ao_y1 rfl rfl (by decide) (o_move (v := .bool _) rfl) ?_
        refine ao_split rfl rfl (fun hg4 => ?_) (fun hg4 => ?_)
        · refine ao_nF rfl rfl (by decide) ?_
          refine ao_y1 rfl rfl (by decide) (o_pick_t (v := .bool _) rfl rfl) ?_
          refine ao1 (by decide) (o_pick_t (v := .bool _) rfl rfl) ?_
          refine ao1 (by decide) (o_move (v := .bool _) rfl) ?_
          refine ao_nF rfl rfl (by decide) ?_
          refine ao_nF rfl rfl (by decide) ?_
          refine ao_nF rfl rfl (by decide) ?_
          refine ao_nU rfl rfl (by decide) ?_
          refine ao_nF rfl rfl (by decide) ?_
          refine ao_nF rfl rfl (by decide) ?_
          refine ao_nU rfl rfl (by decide) ?_
          refine ao_nF rfl rfl (by decide) ?_
          refine ao1 (by decide) (o_pick_t (v := .bool _) rfl rfl) ?_
          refine ao1 (by decide) (o_move (v := .bool _) rfl) ?_
          refine ao_nF rfl rfl (by decide) ?_
          refine ao_nF rfl rfl (by decide) ?_
          refine ao_nF rfl rfl (by decide) ?_
          refine ao_nU rfl rfl (by decide) ?_
          refine ao_nF rfl rfl (by decide) ?_
          refine ao_nF rfl rfl (by decide) ?_
          refine ao_nU rfl rfl (by decide) ?_
          refine ao_nU rfl rfl (by decide) ?_
          refine ao_nF rfl rfl (by decide) ?_
          refine ao1 (by decide) (o_pick_t (v := .bool _) rfl rfl) ?_
          exact ao_nil (Out.mk (by (refine congrArg AV.bool ?_; (clear hbel hst hle hs hn hn2 ha hb hB hc; unfold opw; generalize inl a n = p at *; generalize inl b n = q at *; (repeat' split) <;> (cases p <;> cases q) <;> first | rfl | grind))) (by repeat (first | exact SubX.refl _ _ | refine SubX.at ?_ | refine SubX.put rfl ?_)))
        · refine ao_y1 rfl rfl (by decide) (o_move (v := .bool _) rfl) ?_
          refine ao_y1 rfl rfl (by decide) (o_pick_f (v := .bool _) rfl rfl) ?_
          refine ao1 (by decide) (o_pick_t (v := .bool _) rfl rfl) ?_
          refine ao1 (by decide) (o_move (v := .bool _) rfl) ?_
          refine ao_split rfl rfl (fun hg8 => ?_) (fun hg8 => ?_)
          · refine ao_nF rfl rfl (by decide) ?_
            refine ao_nF rfl rfl (by decide) ?_
            refine ao_nF rfl rfl (by decide) ?_
            refine ao_nU rfl rfl (by decide) ?_
            refine ao_nF rfl rfl (by decide) ?_
            refine ao_nF rfl rfl (by decide) ?_
            refine ao_nU rfl rfl (by decide) ?_
            refine ao_nF rfl rfl (by decide) ?_
            refine ao1 (by decide) (o_pick_t (v := .bool _) rfl rfl) ?_
            refine ao1 (by decide) (o_move (v := .bool _) rfl) ?_
            refine ao_nF rfl rfl (by decide) ?_
            refine ao_nF rfl rfl (by decide) ?_
            refine ao_nF rfl rfl (by decide) ?_
            refine ao_nU rfl rfl (by decide) ?_
            refine ao_nF rfl rfl (by decide) ?_
            refine ao_nF rfl rfl (by decide) ?_
            refine ao_nU rfl rfl (by decide) ?_
            refine ao_nU rfl rfl (by decide) ?_
            refine ao_nF rfl rfl (by decide) ?_
            refine ao1 (by decide) (o_pick_t (v := .bool _) rfl rfl) ?_
            exact ao_nil (Out.mk (by (refine congrArg AV.bool ?_; (clear hbel hst hle hs hn hn2 ha hb hB hc; unfold opw; generalize inl a n = p at *; generalize inl b n = q at *; (repeat' split) <;> (cases p <;> cases q) <;> first | rfl | grind))) (by repeat (first | exact SubX.refl _ _ | refine SubX.at ?_ | refine SubX.put rfl ?_)))
          · refine ao_y1 rfl rfl (by decide) (o_move (v := .int _ _) rfl) ?_
            refine ao_y1 rfl rfl (by decide) (o_eq rfl rfl) ?_
            refine ao_y1 rfl rfl (by decide) (o_move (v := .bool _) rfl) ?_
            refine ao_split rfl rfl (fun hg11 => ?_) (fun hg11 => ?_)
            · refine ao_y1 rfl rfl (by decide) (o_move (v := .bool _) rfl) ?_
              refine ao_y1 rfl rfl (by decide) (o_pick_t (v := .bool _) rfl rfl) ?_
              refine ao_y1 rfl rfl (by decide) (o_move (v := .bool _) rfl) ?_
              refine ao_split rfl rfl (fun hg14 => ?_) (fun hg14 => ?_)
              · refine ao_y1 rfl rfl (by decide) (o_move (v := .bool _) rfl) ?_
                refine ao_y1 rfl rfl (by decide) (o_pick_t (v := .bool _) rfl rfl) ?_
                refine ao1 (by decide) (o_pick_f (v := .bool _) rfl rfl) ?_
                refine ao1 (by decide) (o_move (v := .bool _) rfl) ?_
                refine ao_split rfl rfl (fun hg18 => ?_) (fun hg18 => ?_)
                · refine ao_nF rfl rfl (by decide) ?_
                  refine ao_nF rfl rfl (by decide) ?_
                  refine ao_nF rfl rfl (by decide) ?_
                  refine ao_nU rfl rfl (by decide) ?_
                  refine ao_nF rfl rfl (by decide) ?_
                  refine ao_nF rfl rfl (by decide) ?_
                  refine ao_nU rfl rfl (by decide) ?_
                  refine ao_nU rfl rfl (by decide) ?_
                  refine ao_nF rfl rfl (by decide) ?_
                  refine ao1 (by decide) (o_pick_t (v := .bool _) rfl rfl) ?_
                  exact ao_nil (Out.mk (by (refine congrArg AV.bool ?_; (clear hbel hst hle hs hn hn2 ha hb hB hc; unfold opw; generalize inl a n = p at *; generalize inl b n = q at *; (repeat' split) <;> (cases p <;> cases q) <;> first | rfl | grind))) (by repeat (first | exact SubX.refl _ _ | refine SubX.at ?_ | refine SubX.put rfl ?_)))
                · refine ao_y1 rfl rfl (by decide) (o_move (v := .int _ _) rfl) ?_
                  refine ao_y1 rfl rfl (by decide) (o_eq rfl rfl) ?_
                  refine ao_y1 rfl rfl (by decide) (o_move (v := .bool _) rfl) ?_
                  refine ao_split rfl rfl (fun hg21 => ?_) (fun hg21 => ?_)
                  · refine ao_y1 rfl rfl (by decide) (o_move (v := .bool _) rfl) ?_
                    refine ao_y1 rfl rfl (by decide) (o_pick_t (v := .bool _) rfl rfl) ?_
                    refine ao_y1 rfl rfl (by decide) (o_move (v := .bool _) rfl) ?_
                    refine ao_split rfl rfl (fun hg24 => ?_) (fun hg24 => ?_)
                    · refine ao_y1 rfl rfl (by decide) (o_move (v := .bool _) rfl) ?_
                      refine ao_y1 rfl rfl (by decide) (o_not rfl) ?_
                      refine ao_y1 rfl rfl (by decide) (o_pick_t (v := .bool _) rfl rfl) ?_
                      refine ao1 (by decide) (o_pick_f (v := .bool _) rfl rfl) ?_
                      exact ao_nil (Out.mk (by (refine congrArg AV.bool ?_; (clear hbel hst hle hs hn hn2 ha hb hB hc; unfold opw; generalize inl a n = p at *; generalize inl b n = q at *; (repeat' split) <;> (cases p <;> cases q) <;> first | rfl | grind))) (by repeat (first | exact SubX.refl _ _ | refine SubX.at ?_ | refine SubX.put rfl ?_)))
                    · refine ao_nT rfl rfl (by decide) ?_
                      refine ao_nT rfl rfl (by decide) ?_
                      refine ao_y1 rfl rfl (by decide) (o_pick_f (v := .bool _) rfl rfl) ?_
                      refine ao1 (by decide) (o_pick_f (v := .bool _) rfl rfl) ?_
                      exact ao_nil (Out.mk (by (refine congrArg AV.bool ?_; (clear hbel hst hle hs hn hn2 ha hb hB hc; unfold opw; generalize inl a n = p at *; generalize inl b n = q at *; (repeat' split) <;> (cases p <;> cases q) <;> first | rfl | grind))) (by repeat (first | exact SubX.refl _ _ | refine SubX.at ?_ | refine SubX.put rfl ?_)))
                  · refine ao_nT rfl rfl (by decide) ?_
                    refine ao_y1 rfl rfl (by decide) (o_pick_f (v := .bool _) rfl rfl) ?_
                    refine ao_y1 rfl rfl (by decide) (o_move (v := .bool _) rfl) ?_
                    refine ao_nT rfl rfl (by decide) ?_
                    refine ao_nT rfl rfl (by decide) ?_
                    refine ao_y1 rfl rfl (by decide) (o_pick_f (v := .bool _) rfl rfl) ?_
                    refine ao1 (by decide) (o_pick_f (v := .bool _) rfl rfl) ?_
                    exact ao_nil (Out.mk (by (refine congrArg AV.bool ?_; (clear hbel hst hle hs hn hn2 ha hb hB hc; unfold opw; generalize inl a n = p at *; generalize inl b n = q at *; (repeat' split) <;> (cases p <;> cases q) <;> first | rfl | grind))) (by repeat (first | exact SubX.refl _ _ | refine SubX.at ?_ | refine SubX.put rfl ?_)))
              · refine ao_nT rfl rfl (by decide) ?_
                refine ao_y1 rfl rfl (by decide) (o_pick_f (v := .bool _) rfl rfl) ?_
                refine ao1 (by decide) (o_pick_f (v := .bool _) rfl rfl) ?_
                refine ao1 (by decide) (o_move (v := .bool _) rfl) ?_
                refine ao_y1 rfl rfl (by decide) (o_move (v := .int _ _) rfl) ?_
                refine ao_y1 rfl rfl (by decide) (o_eq rfl rfl) ?_
                refine ao_y1 rfl rfl (by decide) (o_move (v := .bool _) rfl) ?_
                refine ao_split rfl rfl (fun hg21 => ?_) (fun hg21 => ?_)
                · refine ao_y1 rfl rfl (by decide) (o_move (v := .bool _) rfl) ?_
                  refine ao_y1 rfl rfl (by decide) (o_pick_t (v := .bool _) rfl rfl) ?_
                  refine ao_y1 rfl rfl (by decide) (o_move (v := .bool _) rfl) ?_
                  refine ao_split rfl rfl (fun hg24 => ?_) (fun hg24 => ?_)
                  · refine ao_y1 rfl rfl (by decide) (o_move (v := .bool _) rfl) ?_
                    refine ao_y1 rfl rfl (by decide) (o_not rfl) ?_
                    refine ao_y1 rfl rfl (by decide) (o_pick_t (v := .bool _) rfl rfl) ?_
                    refine ao1 (by decide) (o_pick_f (v := .bool _) rfl rfl) ?_
                    exact ao_nil (Out.mk (by (refine congrArg AV.bool ?_; (clear hbel hst hle hs hn hn2 ha hb hB hc; unfold opw; generalize inl a n = p at *; generalize inl b n = q at *; (repeat' split) <;> (cases p <;> cases q) <;> first | rfl | grind))) (by repeat (first | exact SubX.refl _ _ | refine SubX.at ?_ | refine SubX.put rfl ?_)))
                  · refine ao_nT rfl rfl (by decide) ?_
                    refine ao_nT rfl rfl (by decide) ?_
                    refine ao_y1 rfl rfl (by decide) (o_pick_f (v := .bool _) rfl rfl) ?_
                    refine ao1 (by decide) (o_pick_f (v := .bool _) rfl rfl) ?_
                    exact ao_nil (Out.mk (by (refine congrArg AV.bool ?_; (clear hbel hst hle hs hn hn2 ha hb hB hc; unfold opw; generalize inl a n = p at *; generalize inl b n = q at *; (repeat' split) <;> (cases p <;> cases q) <;> first | rfl | grind))) (by repeat (first | exact SubX.refl _ _ | refine SubX.at ?_ | refine SubX.put rfl ?_)))
                · refine ao_nT rfl rfl (by decide) ?_
                  refine ao_y1 rfl rfl (by decide) (o_pick_f (v := .bool _) rfl rfl) ?_
                  refine ao_y1 rfl rfl (by decide) (o_move (v := .bool _) rfl) ?_
                  refine ao_nT rfl rfl (by decide) ?_
                  refine ao_nT rfl rfl (by decide) ?_
                  refine ao_y1 rfl rfl (by decide) (o_pick_f (v := .bool _) rfl rfl) ?_
                  refine ao1 (by decide) (o_pick_f (v := .bool _) rfl rfl) ?_
                  exact ao_nil (Out.mk (by (refine congrArg AV.bool ?_; (clear hbel hst hle hs hn hn2 ha hb hB hc; unfold opw; generalize inl a n = p at *; generalize inl b n = q at *; (repeat' split) <;> (cases p <;> cases q) <;> first | rfl | grind))) (by repeat (first | exact SubX.refl _ _ | refine SubX.at ?_ | refine SubX.put rfl ?_)))
            · refine ao_nT rfl rfl (by decide) ?_
              refine ao_y1 rfl rfl (by decide) (o_pick_f (v := .bool _) rfl rfl) ?_
              refine ao_y1 rfl rfl (by decide) (o_move (v := .bool _) rfl) ?_
              refine ao_nT rfl rfl (by decide) ?_
              refine ao_y1 rfl rfl (by decide) (o_pick_f (v := .bool _) rfl rfl) ?_
              refine ao1 (by decide) (o_pick_f (v := .bool _) rfl rfl) ?_
              refine ao1 (by decide) (o_move (v := .bool _) rfl) ?_
              refine ao_y1 rfl rfl (by decide) (o_move (v := .int _ _) rfl) ?_
              refine ao_y1 rfl rfl (by decide) (o_eq rfl rfl) ?_
              refine ao_y1 rfl rfl (by decide) (o_move (v := .bool _) rfl) ?_
              refine ao_split rfl rfl (fun hg21 => ?_) (fun hg21 => ?_)
              · refine ao_y1 rfl rfl (by decide) (o_move (v := .bool _) rfl) ?_
                refine ao_y1 rfl rfl (by decide) (o_pick_t (v := .bool _) rfl rfl) ?_
                refine ao_y1 rfl rfl (by decide) (o_move (v := .bool _) rfl) ?_
                refine ao_split rfl rfl (fun hg24 => ?_) (fun hg24 => ?_)
                · refine ao_y1 rfl rfl (by decide) (o_move (v := .bool _) rfl) ?_
                  refine ao_y1 rfl rfl (by decide) (o_not rfl) ?_
                  refine ao_y1 rfl rfl (by decide) (o_pick_t (v := .bool _) rfl rfl) ?_
                  refine ao1 (by decide) (o_pick_f (v := .bool _) rfl rfl) ?_
                  exact ao_nil (Out.mk (by (refine congrArg AV.bool ?_; (clear hbel hst hle hs hn hn2 ha hb hB hc; unfold opw; generalize inl a n = p at *; generalize inl b n = q at *; (repeat' split) <;> (cases p <;> cases q) <;> first | rfl | grind))) (by repeat (first | exact SubX.refl _ _ | refine SubX.at ?_ | refine SubX.put rfl ?_)))
                · refine ao_nT rfl rfl (by decide) ?_
                  refine ao_nT rfl rfl (by decide) ?_
                  refine ao_y1 rfl rfl (by decide) (o_pick_f (v := .bool _) rfl rfl) ?_
                  refine ao1 (by decide) (o_pick_f (v := .bool _) rfl rfl) ?_
                  exact ao_nil (Out.mk (by (refine congrArg AV.bool ?_; (clear hbel hst hle hs hn hn2 ha hb hB hc; unfold opw; generalize inl a n = p at *; generalize inl b n = q at *; (repeat' split) <;> (cases p <;> cases q) <;> first | rfl | grind))) (by repeat (first | exact SubX.refl _ _ | refine SubX.at ?_ | refine SubX.put rfl ?_)))
              · refine ao_nT rfl rfl (by decide) ?_
                refine ao_y1 rfl rfl (by decide) (o_pick_f (v := .bool _) rfl rfl) ?_
                refine ao_y1 rfl rfl (by decide) (o_move (v := .bool _) rfl) ?_
                refine ao_nT rfl rfl (by decide) ?_
                refine ao_nT rfl rfl (by decide) ?_
                refine ao_y1 rfl rfl (by decide) (o_pick_f (v := .bool _) rfl rfl) ?_
                refine ao1 (by decide) (o_pick_f (v := .bool _) rfl rfl) ?_
                exact ao_nil (Out.mk (by (refine congrArg AV.bool ?_; (clear hbel hst hle hs hn hn2 ha hb hB hc; unfold opw; generalize inl a n = p at *; generalize inl b n = q at *; (repeat' split) <;> (cases p <;> cases q) <;> first | rfl | grind))) (by repeat (first | exact SubX.refl _ _ | refine SubX.at ?_ | refine SubX.put rfl ?_)))
      · refine ao_nT rfl rfl (by decide) ?_
        refine ao_nT rfl rfl (by decide) ?_
        refine ao_nU rfl rfl (by decide) ?_
        refine ao_nT rfl rfl (by decide) ?_
        refine ao1 (by decide) (o_pick_f (v := .bool _) rfl rfl) ?_
        refine ao1 (by decide) (o_move (v := .bool _) rfl) ?_
        refine ao_y1 rfl rfl (by decide) (o_move (v := .int _ _) rfl) ?_
        refine ao_y1 rfl rfl (by decide) (o_eq rfl rfl) ?_
        refine ao_y1 rfl rfl (by decide) (o_move (v := .bool _) rfl) ?_
        refine ao_split rfl rfl (fun hg11 => ?_) (fun hg11 => ?_)
        · refine ao_y1 rfl rfl (by decide) (o_move (v := .bool _) rfl) ?_
          refine ao_y1 rfl rfl (by decide) (o_pick_t (v := .bool _) rfl rfl) ?_
          refine ao_y1 rfl rfl (by decide) (o_move (v := .bool _) rfl) ?_
          refine ao_split rfl rfl (fun hg14 => ?_) (fun hg14 => ?_)
          · refine ao_y1 rfl rfl (by decide) (o_move (v := .bool _) rfl) ?_
            refine ao_y1 rfl rfl (by decide) (o_pick_t (v := .bool _) rfl rfl) ?_
            refine ao1 (by decide) (o_pick_f (v := .bool _) rfl rfl) ?_
            refine ao1 (by decide) (o_move (v := .bool _) rfl) ?_
            refine ao_split rfl rfl (fun hg18 => ?_) (fun hg18 => ?_)
            · refine ao_nF rfl rfl (by decide) ?_
              refine ao_nF rfl rfl (by decide) ?_
              refine ao_nF rfl rfl (by decide) ?_
              refine ao_nU rfl rfl (by decide) ?_
              refine ao_nF rfl rfl (by decide) ?_
              refine ao_nF rfl rfl (by decide) ?_
              refine ao_nU rfl rfl (by decide) ?_
              refine ao_nU rfl rfl (by decide) ?_
              refine ao_nF rfl rfl (by decide) ?_
              refine ao1 (by decide) (o_pick_t (v := .bool _) rfl rfl) ?_
              exact ao_nil (Out.mk (by (refine congrArg AV.bool ?_; (clear hbel hst hle hs hn hn2 ha hb hB hc; unfold opw; generalize inl a n = p at *; generalize inl b n = q at *; (repeat' split) <;> (cases p <;> cases q) <;> first | rfl | grind))) (by repeat (first | exact SubX.refl _ _ | refine SubX.at ?_ | refine SubX.put rfl ?_)))
            · refine ao_y1 rfl rfl (by decide) (o_move (v := .int _ _) rfl) ?_
              refine ao_y1 rfl rfl (by decide) (o_eq rfl rfl) ?_
              refine ao_y1 rfl rfl (by decide) (o_move (v := .bool _) rfl) ?_
              refine ao_split rfl rfl (fun hg21 => ?_) (fun hg21 => ?_)
              · refine ao_y1 rfl rfl (by decide) (o_move (v := .bool _) rfl) ?_
                refine ao_y1 rfl rfl (by decide) (o_pick_t (v := .bool _) rfl rfl) ?_
                refine ao_y1 rfl rfl (by decide) (o_move (v := .bool _) rfl) ?_
                refine ao_split rfl rfl (fun hg24 => ?_) (fun hg24 => ?_)
                · refine ao_y1 rfl rfl (by decide) (o_move (v := .bool _) rfl) ?_
                  refine ao_y1 rfl rfl (by decide) (o_not rfl) ?_
                  refine ao_y1 rfl rfl (by decide) (o_pick_t (v := .bool _) rfl rfl) ?_
                  refine ao1 (by decide) (o_pick_f (v := .bool _) rfl rfl) ?_
                  exact ao_nil (Out.mk (by (refine congrArg AV.bool ?_; (clear hbel hst hle hs hn hn2 ha hb hB hc; unfold opw; generalize inl a n = p at *; generalize inl b n = q at *; (repeat' split) <;> (cases p <;> cases q) <;> first | rfl | grind))) (by repeat (first | exact SubX.refl _ _ | refine SubX.at ?_ | refine SubX.put rfl ?_)))
                · refine ao_nT rfl rfl (by decide) ?_
                  refine ao_nT rfl rfl (by decide) ?_
                  refine ao_y1 rfl rfl (by decide) (o_pick_f (v := .bool _) rfl rfl) ?_
                  refine ao1 (by decide) (o_pick_f (v := .bool _) rfl rfl) ?_
                  exact ao_nil (Out.mk (by (refine congrArg AV.bool ?_; (clear hbel hst hle hs hn hn2 ha hb hB hc; unfold opw; generalize inl a n = p at *; generalize inl b n = q at *; (repeat' split) <;> (cases p <;> cases q) <;> first | rfl | grind))) (by repeat (first | exact SubX.refl _ _ | refine SubX.at ?_ | refine SubX.put rfl ?_)))
              · refine ao_nT rfl rfl (by decide) ?_
                refine ao_y1 rfl rfl (by decide) (o_pick_f (v := .bool _) rfl rfl) ?_
                refine ao_y1 rfl rfl (by decide) (o_move (v := .bool _) rfl) ?_
                refine ao_nT rfl rfl (by decide) ?_
                refine ao_nT rfl rfl (by decide) ?_
                refine ao_y1 rfl rfl (by decide) (o_pick_f (v := .bool _) rfl rfl) ?_
                refine ao1 (by decide) (o_pick_f (v := .bool _) rfl rfl) ?_
                exact ao_nil (Out.mk (by (refine congrArg AV.bool ?_; (clear hbel hst hle hs hn hn2 ha hb hB hc; unfold opw; generalize inl a n = p at *; generalize inl b n = q at *; (repeat' split) <;> (cases p <;> cases q) <;> first | rfl | grind))) (by repeat (first | exact SubX.refl _ _ | refine SubX.at ?_ | refine SubX.put rfl ?_)))
          · refine ao_nT rfl rfl (by decide) ?_
            refine ao_y1 rfl rfl (by decide) (o_pick_f (v := .bool _) rfl rfl) ?_
            refine ao1 (by decide) (o_pick_f (v := .bool _) rfl rfl) ?_
            refine ao1 (by decide) (o_move (v := .bool _) rfl) ?_
            refine ao_y1 rfl rfl (by decide) (o_move (v := .int _ _) rfl) ?_
            refine ao_y1 rfl rfl (by decide) (o_eq rfl rfl) ?_
            refine ao_y1 rfl rfl (by decide) (o_move (v := .bool _) rfl) ?_
            refine ao_split rfl rfl (fun hg21 => ?_) (fun hg21 => ?_)
            · refine ao_y1 rfl rfl (by decide) (o_move (v := .bool _) rfl) ?_
              refine ao_y1 rfl rfl (by decide) (o_pick_t (v := .bool _) rfl rfl) ?_
              refine ao_y1 rfl rfl (by decide) (o_move (v := .bool _) rfl) ?_
              refine ao_split rfl rfl (fun hg24 => ?_) (fun hg24 => ?_)
              · refine ao_y1 rfl rfl (by decide) (o_move (v := .bool _) rfl) ?_
                refine ao_y1 rfl rfl (by decide) (o_not rfl) ?_
                refine ao_y1 rfl rfl (by decide) (o_pick_t (v := .bool _) rfl rfl) ?_
                refine ao1 (by decide) (o_pick_f (v := .bool _) rfl rfl) ?_
                exact ao_nil (Out.mk (by (refine congrArg AV.bool ?_; (clear hbel hst hle hs hn hn2 ha hb hB hc; unfold opw; generalize inl a n = p at *; generalize inl b n = q at *; (repeat' split) <;> (cases p <;> cases q) <;> first | rfl | grind))) (by repeat (first | exact SubX.refl _ _ | refine SubX.at ?_ | refine SubX.put rfl ?_)))
              · refine ao_nT rfl rfl (by decide) ?_
                refine ao_nT rfl rfl (by decide) ?_
                refine ao_y1 rfl rfl (by decide) (o_pick_f (v := .bool _) rfl rfl) ?_
                refine ao1 (by decide) (o_pick_f (v := .bool _) rfl rfl) ?_
                exact ao_nil (Out.mk (by (refine congrArg AV.bool ?_; (clear hbel hst hle hs hn hn2 ha hb hB hc; unfold opw; generalize inl a n = p at *; generalize inl b n = q at *; (repeat' split) <;> (cases p <;> cases q) <;> first | rfl | grind))) (by repeat (first | exact SubX.refl _ _ | refine SubX.at ?_ | refine SubX.put rfl ?_)))
            · refine ao_nT rfl rfl (by decide) ?_
              refine ao_y1 rfl rfl (by decide) (o_pick_f (v := .bool _) rfl rfl) ?_
              refine ao_y1 rfl rfl (by decide) (o_move (v := .bool _) rfl) ?_
              refine ao_nT rfl rfl (by decide) ?_
              refine ao_nT rfl rfl (by decide) ?_
              refine ao_y1 rfl rfl (by decide) (o_pick_f (v := .bool _) rfl rfl) ?_
              refine ao1 (by decide) (o_pick_f (v := .bool _) rfl rfl) ?_
              exact ao_nil (Out.mk (by (refine congrArg AV.bool ?_; (clear hbel hst hle hs hn hn2 ha hb hB hc; unfold opw; generalize inl a n = p at *; generalize inl b n = q at *; (repeat' split) <;> (cases p <;> cases q) <;> first | rfl | grind))) (by repeat (first | exact SubX.refl _ _ | refine SubX.at ?_ | refine SubX.put rfl ?_)))
        · refine ao_nT rfl rfl (by decide) ?_
          refine ao_y1 rfl rfl (by decide) (o_pick_f (v := .bool _) rfl rfl) ?_
          refine ao_y1 rfl rfl (by decide) (o_move (v := .bool _) rfl) ?_
          refine ao_nT rfl rfl (by decide) ?_
          refine ao_y1 rfl rfl (by decide) (o_pick_f (v := .bool _) rfl rfl) ?_
          refine ao1 (by decide) (o_pick_f (v := .bool _) rfl rfl) ?_
          refine ao1 (by decide) (o_move (v := .bool _) rfl) ?_
          refine ao_y1 rfl rfl (by decide) (o_move (v := .int _ _) rfl) ?_
          refine ao_y1 rfl rfl (by decide) (o_eq rfl rfl) ?_
          refine ao_y1 rfl rfl (by decide) (o_move (v := .bool _) rfl) ?_
          refine ao_split rfl rfl (fun hg21 => ?_) (fun hg21 => ?_)
          · refine ao_y1 rfl rfl (by decide) (o_move (v := .bool _) rfl) ?_
            refine ao_y1 rfl rfl (by decide) (o_pick_t (v := .bool _) rfl rfl) ?_
            refine ao_y1 rfl rfl (by decide) (o_move (v := .bool _) rfl) ?_
            refine ao_split rfl rfl (fun hg24 => ?_) (fun hg24 => ?_)
            · refine ao_y1 rfl rfl (by decide) (o_move (v := .bool _) rfl) ?_
              refine ao_y1 rfl rfl (by decide) (o_not rfl) ?_
              refine ao_y1 rfl rfl (by decide) (o_pick_t (v := .bool _) rfl rfl) ?_
              refine ao1 (by decide) (o_pick_f (v := .bool _) rfl rfl) ?_
              exact ao_nil (Out.mk (by (refine congrArg AV.bool ?_; (clear hbel hst hle hs hn hn2 ha hb hB hc; unfold opw; generalize inl a n = p at *; generalize inl b n = q at *; (repeat' split) <;> (cases p <;> cases q) <;> first | rfl | grind))) (by repeat (first | exact SubX.refl _ _ | refine SubX.at ?_ | refine SubX.put rfl ?_)))
            · refine ao_nT rfl rfl (by decide) ?_
              refine ao_nT rfl rfl (by decide) ?_
              refine ao_y1 rfl rfl (by decide) (o_pick_f (v := .bool _) rfl rfl) ?_
              refine ao1 (by decide) (o_pick_f (v := .bool _) rfl rfl) ?_
              exact ao_nil (Out.mk (by (refine congrArg AV.bool ?_; (clear hbel hst hle hs hn hn2 ha hb hB hc; unfold opw; generalize inl a n = p at *; generalize inl b n = q at *; (repeat' split) <;> (cases p <;> cases q) <;> first | rfl | grind))) (by repeat (first | exact SubX.refl _ _ | refine SubX.at ?_ | refine SubX.put rfl ?_)))
          · refine ao_nT rfl rfl (by decide) ?_
            refine ao_y1 rfl rfl (by decide) (o_pick_f (v := .bool _) rfl rfl) ?_
            refine ao_y1 rfl rfl (by decide) (o_move (v := .bool _) rfl) ?_
            refine ao_nT rfl rfl (by decide) ?_
            refine ao_nT rfl rfl (by decide) ?_
            refine ao_y1 rfl rfl (by decide) (o_pick_f (v := .bool _) rfl rfl) ?_
            refine ao1 (by decide) (o_pick_f (v := .bool _) rfl rfl) ?_
            exact ao_nil (Out.mk (by (refine congrArg AV.bool ?_; (clear hbel hst hle hs hn hn2 ha hb hB hc; unfold opw; generalize inl a n = p at *; generalize inl b n = q at *; (repeat' split) <;> (cases p <;> cases q) <;> first | rfl | grind))) (by repeat (first | exact SubX.refl _ _ | refine SubX.at ?_ | refine SubX.put rfl ?_)))
    repeat (refine then_nrm ?_)
    refine aw_cond rfl (fun hc => ?_) (fun hc => ?_)
    · rw [if_pos hc] at hst
      refine aw_region ?_
      refine ao1 (by decide) (o_move (v := .sl _ _ _ _ _) rfl) ?_
      refine ao1 (by decide) (o_move (v := .int _ _) rfl) ?_
      refine ao2 (by rintro _ ⟨⟩; decide) (o_buildSlice1L (sz := 1) (v := .int _ _) rfl (by decide) (by decide) rfl rfl rfl rfl rfl) ?_
      refine ao2 (by rintro _ ⟨⟩; decide) (w_append rfl rfl rfl rfl rfl (w_src1 rfl rfl rfl rfl rfl rfl) rfl (by (simp; done)) (by simp; done) (by (simp; omega)) (by (simp; omega))) ?_
      refine ao1 (by decide) (o_assign (v := .sl _ _ _ _ _) rfl) ?_
      refine ao_nil ?_
      try dsimp only [AV.cells, List.length_cons, List.length_nil, Nat.reduceAdd, put, List.cons_append, List.nil_append, List.set_cons_zero]
      rw [show (acc.map eInt).take acc.length = acc.map eInt from List.take_of_length_le (by simp)]
      repeat (first | refine then_nrm ?_ | refine blk_nrm ?_)
      refine aw_region ?_
      refine ao1 (by decide) (o_move (v := .int _ _) rfl) ?_
      refine ao1 (by decide) (o_add rfl rfl (wrap64_ok (by omega) (by omega))) ?_
      refine ao1 (by decide) (o_assign (v := .int _ _) rfl) ?_
      refine ao_nil ?_
      repeat (refine then_nrm ?_)
      exact ⟨n + 1, by omega, by omega, by rw [hst, List.length_append]; exact (by repeat (first | exact Sub.nil | refine Sub.cons (by rfl) ?_)), Fit.loc hB (by rw [hst, List.length_append, List.map_append]; rfl) (by repeat (first | exact EBel.nil | refine EBel.cons (by first | rfl | (simp [AV.bel, AV.bels, Lid]; done)) ?_)) (hbel _ _ _)⟩
    · rw [if_neg (by rw [hc]; simp), List.append_nil] at hst
      repeat (first | refine then_nrm ?_ | refine blk_nrm ?_ | refine aw_skip ?_)
      refine aw_region ?_
      refine ao1 (by decide) (o_move (v := .int _ _) rfl) ?_
      refine ao1 (by decide) (o_add rfl rfl (wrap64_ok (by omega) (by omega))) ?_
      refine ao1 (by decide) (o_assign (v := .int _ _) rfl) ?_
      refine ao_nil ?_
      repeat (refine then_nrm ?_)
      exact ⟨n + 1, by omega, by omega, by rw [hst]; exact (by repeat (first | exact Sub.nil | refine Sub.cons (by rfl) ?_)), by rw [hst]; exact Fit.refl _ _⟩
  · have : n = 256 := by simp at hc; omega
    subst this
    repeat (first | refine then_nrm ?_ | refine then_brk ?_ | refine blk_hit ?_ | refine aw_seq ?_ | refine aw_exit ?_)
    refine aw_region ?_
    refine ao1 (by decide) (o_move (v := .sl _ _ _ _ _) rfl) ?_
    refine ao1 (by decide) (o_assign (v := .sl _ _ _ _ _) rfl) ?_
    refine ao_nil ?_
    repeat (refine then_nrm ?_)
    refine aw_freezeL (ys := (setP (fun n => opw how (inl a n) (inl b n)) 256).map eInt) 6 rfl rfl rfl rfl (by rw [List.drop_zero, List.take_of_length_le (by simp)]) (by simp) (ints_bel 0 _) ?_
    refine aw_ret ?_
    exact e_done hB (r_tmp rfl .nil) rfl rfl
end Go.Av
