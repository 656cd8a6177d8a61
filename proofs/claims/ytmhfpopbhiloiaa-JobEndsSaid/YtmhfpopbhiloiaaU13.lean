/- A part of the proof: walks through the program over abstract values. -/
import Derived.Test.YtmhfpopbhiloiaaU12
namespace Go.Av
open Go.Proofs
set_option maxRecDepth 10000
set_option linter.unusedSimpArgs false
set_option linter.unusedVariables false


/-- What happens at a time. -/
structure Wh where
  what : Int
  more : Int
  h : 0 ≤ more ∧ more ≤ 255
abbrev eWh (w : Wh) : List AV := [.int .i64 w.what, .int .u8 w.more]
theorem jnext_from {s w t : Int} (h : jnext s w = some t) : s ≤ 2 ∧ (t = 2 → s = 0) ∧ (t = 0 → s = 1) ∧ (t = 1 → s = 0) ∧ (t = 3 → s = 2) ∧ (t = 4 → s = 2) ∧ (t = 6 → s < 2) := by
  unfold jnext at h
  repeat' split at h
  all_goals first | (injection h with h; omega) | cases h
theorem jstep_right {j : Job} {w t now : Int} (hb : jbad j w now = false) (h : jnext j.state w = some t) : jright (jstep j t now) = true := by
  simp only [jbad, Bool.or_eq_false_iff, Bool.not_eq_false', decide_eq_false_iff_not] at hb
  obtain ⟨⟨⟨⟨hjr, _⟩, _⟩, hnow⟩, hmx⟩ := hb
  have hst := jright_state hjr
  have hi := jnext_in hst.1 h
  have hf := jnext_from h
  have h5 : tm j.came = true := by simp only [jright, Bool.and_eq_true] at hjr; exact hjr.1.2
  have ht : jtimes j = true := by simp only [jright, Bool.and_eq_true] at hjr; exact hjr.2
  have hr : jright (jstep j t now) = jtimes (jstep j t now) := by
    simp only [jright, jneeds, Bool.and_eq_true] at hjr
    obtain ⟨⟨⟨⟨⟨a1, a2⟩, a3⟩, a4, a5⟩, a6⟩, a7⟩ := hjr
    show (decide (1 ≤ j.id) && decide (j.id ≤ 1073741824) && sright j.spec && (decide (j.needs.length ≤ 16) && ndall j.id j.needs) && tm j.came && jtimes (jstep j t now)) = _
    rw [a1, a2, a3, a4, a5, a6]
    rfl
  rw [hr]
  have h5' : tm (jstep j t now).came = true := h5
  rw [jtimes_ref h5'] 
  rw [jtimes_ref h5] at ht
  simp only [jstep, jover, tm, Bool.and_eq_true, decide_eq_true_eq] at *
  clear hr hjr h
  obtain ⟨⟨⟨⟨⟨t1, t2⟩, t3⟩, t4⟩, t5⟩, t6⟩ := ht
  split at t5 <;> split at t6 <;> simp only [Bool.or_eq_true, Bool.and_eq_true, decide_eq_true_eq] at t5 t6 <;> (refine ⟨⟨⟨⟨⟨?_, ?_⟩, ?_⟩, ?_⟩, ?_⟩, ?_⟩) <;> (repeat' split) <;> (try simp only [Bool.or_eq_true, Bool.and_eq_true, decide_eq_true_eq]) <;> omega

def jj (i : Int) (s : Spec) (came st f o : Int) : Job := ⟨i, s, [], st, came, f, o⟩
structure JE where
  st : Int
  f : Int
  o : Int
  now : Int
  bg : Int
  k : Nat
structure JOk (i : Int) (s : Spec) (came : Int) (g : JE) : Prop where
  r : jright (jj i s came g.st g.f g.o) = true
  now : 0 ≤ g.now ∧ g.now ≤ 4294967295 + 255 * (g.k : Int)
  k : g.k ≤ 60
  bg : (g.bg = 0 ∧ g.st ≠ 2 ∧ g.st ≠ 3 ∧ g.st ≠ 4) ∨ (g.bg = 1 ∧ g.st ≠ 0 ∧ g.st ≠ 1 ∧ g.st ≠ 6)
set_option maxHeartbeats 0 in
theorem law11_JobEnds (d : Int) (s : Spec) (came : Int) (l : List Wh) (hd : 0 ≤ d ∧ d ≤ 65535) (hcm : 0 ≤ came ∧ came ≤ 4294967295) (H : Heap) : AC Try.prog 8 [.int .u16 d, .agg (eSpec s), .int .u32 came, .pl (l.map eWh)] H (Ret (.bool true) H) := by
  have mem0 : ∀ (n : Nat) (x : Spec) (y : Job), ∀ o ∈ [AObj.mk 0 7 [eSpec x], AObj.mk 0 13 [eJob y]], ∀ r ∈ o.rows, AV.bels n r = true := by
    intro n x y o ho r hr
    simp only [List.mem_cons, List.not_mem_nil, or_false] at ho
    rcases ho with rfl | rfl <;> (simp only [List.mem_singleton] at hr; subst hr; rfl)
  refine AC.body (N := 159) [.tmp 8] Try.func8 rfl rfl rfl (Nat.le_of_ble_eq_true rfl) fun B hB => ?_
  repeat (refine aw_seq ?_)
  refine aw_region ?_
  refine ao2 (by rintro _ ⟨⟩; decide) (o_boxL (sz := 7) (v := .agg _) rfl rfl rfl rfl (by decide) rfl) ?_
  refine ao1 (by decide) (o_assign (v := .bool _) rfl) ?_
  refine ao_nil ?_
  try dsimp only
  repeat (first | refine then_nrm ?_ | refine aw_seq ?_)
  refine aw_region ?_
  refine ao_ret (law11_awake _) rfl (by decide) ?_
  refine ao1 (by decide) (o_not rfl) ?_
  refine ao_nil ?_
  repeat (refine then_nrm ?_)
  refine aw_cond rfl (fun hc => ?_) (fun hc => ?_)
  · simp at hc
  repeat (first | refine then_nrm ?_ | refine aw_seq ?_ | refine aw_skip ?_)
  refine aw_region ?_
  refine ao1 (by decide) (o_move (v := .int _ _) rfl) ?_
  refine ao1 (by decide) (o_conv_int rfl (wrap64_ok (by omega) (by omega))) ?_
  refine ao1 (by decide) (o_add rfl rfl (wrap64_ok (by omega) (by omega))) ?_
  refine ao1 (by decide) (w_loadR rfl (lk rfl rfl) rfl rfl rfl) ?_
  refine ao1 (by decide) (o_move (v := .int _ _) rfl) ?_
  refine ao1 (by decide) (o_conv_int rfl (wrap64_ok (by omega) (by omega))) ?_
  refine ao1 (by decide) (V1.up (o_build (cs := [.int .i64 (d + 1), .int .i64 s.nodes, .int .i64 s.cores, .int .i64 s.gpus, .str s.tag, .bool s.whole, .int .i64 s.long, .int .i64 s.prio, .nsl, .int .i64 0, .int .i64 came, .int .i64 0, .int .i64 0]) rfl)) ?_
  refine ao2 (by rintro _ ⟨⟩; decide) (o_allocL (sz := 13) rfl (by decide) rfl) ?_
  refine ao2 (by rintro _ ⟨⟩) (w_storeW (sz := 13) rfl rfl rfl rfl rfl rfl rfl rfl (Nat.le_of_ble_eq_true rfl)) ?_
  refine ao_nil ?_
  try dsimp only
  have c4 := fun H => job_Right (jj (d + 1) s came 0 0 0) H
  cases hj0 : jright (jj (d + 1) s came 0 0 0) with
  | false =>
    rw [hj0] at c4
    have c5 := fun H => job_Do (jj (d + 1) s came 0 0 0) 1 came (by simp [jj]) H
    rw [show jdo (jj (d + 1) s came 0 0 0) 1 came = (jj (d + 1) s came 0 0 0, 1) by rw [jdo, if_pos (by simp [jbad, hj0])]] at c5
    repeat (first | refine then_nrm ?_ | refine aw_seq ?_)
    refine aw_region ?_
    refine ao1 (by decide) (w_loadR rfl (lk rfl rfl) rfl rfl rfl) ?_
    refine ao2 (by rintro _ ⟨⟩; decide) (V2.call (c4 _) rfl) ?_
    refine ao1 (by decide) (o_not rfl) ?_
    refine ao_nil ?_
    try dsimp only
    repeat (refine then_nrm ?_)
    refine aw_cond rfl (fun hc => ?_) (fun hc => ?_)
    · repeat (refine aw_seq ?_)
      refine aw_region ?_
      refine ao1 (by decide) (w_loadR rfl (lk rfl rfl) rfl rfl rfl) ?_
      refine ao1 (by decide) (o_move (v := .int _ _) rfl) ?_
      refine ao1 (by decide) (o_conv_int rfl (wrap64_ok (by omega) (by omega))) ?_
      refine ao2 (by rintro _ ⟨⟩; decide) (V2.call (c5 _) rfl) ?_
      refine ao1 (by decide) (o_move (v := .tup _) rfl) ?_
      refine ao1 (by decide) (o_extract (v := .agg _) rfl rfl) ?_
      refine ao1 (by decide) (o_extract (v := .int _ _) rfl rfl) ?_
      refine ao2 (by rintro _ ⟨⟩; decide) (o_allocL (sz := 13) rfl (by decide) rfl) ?_
      refine ao2 (by rintro _ ⟨⟩) (w_storeW (sz := 13) rfl rfl rfl rfl rfl rfl rfl rfl (Nat.le_of_ble_eq_true rfl)) ?_
      refine ao1 (by decide) (o_assign (v := .int _ _) rfl) ?_
      refine ao_nil ?_
      try dsimp only
      repeat (first | refine then_nrm ?_ | refine aw_seq ?_)
      refine aw_region ?_
      refine ao1 (by decide) (o_move (v := .int _ _) rfl) ?_
      refine ao1 (by decide) (o_eq rfl rfl) ?_
      refine ao1 (by decide) (o_assign (v := .bool _) rfl) ?_
      refine ao_nil ?_
      repeat (first | refine then_nrm ?_ | refine then_ret ?_ | refine aw_ret ?_)
      exact e_done hB (r_tmp rfl .nil) rfl rfl
    · simp at hc
  | true =>
  rw [hj0] at c4
  repeat (first | refine then_nrm ?_ | refine aw_seq ?_)
  refine aw_region ?_
  refine ao1 (by decide) (w_loadR rfl (lk rfl rfl) rfl rfl rfl) ?_
  refine ao2 (by rintro _ ⟨⟩; decide) (V2.call (c4 _) rfl) ?_
  refine ao1 (by decide) (o_not rfl) ?_
  refine ao_nil ?_
  try dsimp only
  repeat (refine then_nrm ?_)
  refine aw_cond rfl (fun hc => ?_) (fun hc => ?_)
  · simp at hc
  repeat (first | refine then_nrm ?_ | refine aw_seq ?_ | refine aw_skip ?_)
  refine aw_region ?_
  refine ao1 (by decide) (o_move (v := .int _ _) rfl) ?_
  refine ao1 (by decide) (o_conv_int rfl (wrap64_ok (by omega) (by omega))) ?_
  refine ao1 (by decide) (o_assign (v := .int _ _) rfl) ?_
  refine ao_nil ?_
  repeat (first | refine then_nrm ?_ | refine aw_seq ?_)
  refine aw_region ?_
  refine ao1 (by decide) (o_assign (v := .int _ _) rfl) ?_
  refine ao_nil ?_
  repeat (first | refine then_nrm ?_ | refine aw_seq ?_)
  refine aw_region ?_
  refine ao1 (by decide) (o_assign (v := .int _ _) rfl) ?_
  refine ao_nil ?_
  repeat (first | refine then_nrm ?_ | refine aw_block ?_)
  refine aw_loop (G := JE) (fun g => JOk (d + 1) s came g ∧ g.k ≤ l.length) (fun g => [(2, .int .u32 came), (3, .pl (l.map eWh)), (5, .pt (Lid H.length 0) 0 0 0), (9, .pt (Lid H.length 1) 0 0 0), (12, .int .i64 g.now), (13, .int .i64 g.bg), (14, .int .i64 (g.k : Int))]) (fun g => H ++ [⟨0, 7, [eSpec s]⟩, ⟨0, 13, [eJob (jj (d + 1) s came g.st g.f g.o)]⟩]) (fun g => l.length - g.k) ⟨0, 0, 0, came, 0, 0⟩ ⟨⟨hj0, by simp only; omega, by simp, .inl (by simp)⟩, Nat.zero_le _⟩ (by repeat (first | exact Sub.nil | refine Sub.cons (by rfl) ?_)) (Fit.refl _ _) ?_
  rintro ⟨st, f, o, now, bg, k⟩ ⟨hok, hkl⟩
  obtain ⟨hr0, hnow, hk60, hbg⟩ := hok
  simp only at hr0 hnow hk60 hbg hkl ⊢
  have hst := jright_state hr0
  have hst' : 0 ≤ st ∧ st ≤ 6 := hst
  repeat (refine aw_seq ?_)
  refine aw_out 47 (.bool (decide (k < l.length) && decide (k < 60))) ?_ ?_
  · refine ao1 (by decide) (o_move (v := .int _ _) rfl) ?_
    refine ao1 (by decide) (o_move (v := .pl _) rfl) ?_
    refine ao1 (by decide) (o_lenp rfl) ?_
    refine ao1 (by decide) (o_lt rfl rfl) ?_
    refine ao1 (by decide) (o_move (v := .bool _) rfl) ?_
    refine ao_split rfl rfl (fun hg4 => ?_) (fun hg4 => ?_)
    · refine ao_y1 rfl rfl (by decide) (o_move (v := .int _ _) rfl) ?_
      refine ao_y1 rfl rfl (by decide) (o_lt rfl rfl) ?_
      refine ao1 (by decide) (o_pick_t (v := .bool _) rfl rfl) ?_
      exact ao_nil (Out.mk (by (refine congrArg AV.bool ?_; (refine Bool.eq_iff_iff.mpr ?_; simp only [Bool.and_eq_true, Bool.or_eq_true, Bool.not_eq_true', decide_eq_true_eq, decide_eq_false_iff_not, beq_iff_eq, bne_iff_ne, beq_eq_false_iff_ne, Bool.false_eq_true, Bool.true_eq_false, Bool.and_eq_false_iff, Bool.or_eq_false_iff, List.length_map, false_iff, true_iff, iff_true, iff_false] at *; omega))) (by repeat (first | exact SubX.refl _ _ | refine SubX.at ?_ | refine SubX.put rfl ?_)))
    · refine ao_nT rfl rfl (by decide) ?_
      refine ao_nT rfl rfl (by decide) ?_
      refine ao1 (by decide) (o_pick_f (v := .bool _) rfl rfl) ?_
      exact ao_nil (Out.mk (by (refine congrArg AV.bool ?_; (refine Bool.eq_iff_iff.mpr ?_; simp only [Bool.and_eq_true, Bool.or_eq_true, Bool.not_eq_true', decide_eq_true_eq, decide_eq_false_iff_not, beq_iff_eq, bne_iff_ne, beq_eq_false_iff_ne, Bool.false_eq_true, Bool.true_eq_false, Bool.and_eq_false_iff, Bool.or_eq_false_iff, List.length_map, false_iff, true_iff, iff_true, iff_false] at *; omega))) (by repeat (first | exact SubX.refl _ _ | refine SubX.at ?_ | refine SubX.put rfl ?_)))
  repeat (refine then_nrm ?_)
  refine aw_cond rfl (fun hc => ?_) (fun hc => ?_)
  · simp at hc
    obtain ⟨hlt, hk⟩ := hc
    obtain ⟨x, hx, hxl⟩ := get_in hlt
    have hr := map_get eWh hx
    have hxh := x.h
    have c13 := fun H => job_Do (jj (d + 1) s came st f o) x.what (now + x.more) (by simp [jj]) H
    have cs := fun H => ref11_Same (jj (d + 1) s came st f o) (jj (d + 1) s came st f o) H (by simp [jj])
    rw [show decide (jj (d + 1) s came st f o = jj (d + 1) s came st f o) = true from decide_eq_true rfl] at cs
    repeat (first | refine then_nrm ?_ | refine aw_seq ?_ | refine aw_block ?_ | refine aw_skip ?_)
    refine aw_region ?_
    refine ao1 (by decide) (o_move (v := .int _ _) rfl) ?_
    refine ao1 (by decide) (o_move (v := .pl _) rfl) ?_
    refine ao1 (by decide) (o_move (v := .int _ _) rfl) ?_
    refine ao1 (by decide) (w_indexAddrpN rfl rfl hr rfl) ?_
    refine ao1 (by decide) (w_fieldAddrp rfl (by decide)) ?_
    refine ao1 (by decide) (o_load1p (v := .int _ _) rfl hr rfl) ?_
    refine ao1 (by decide) (o_conv_int rfl (wrap64_ok (by omega) (by omega))) ?_
    refine ao1 (by decide) (o_add rfl rfl (wrap64_ok (by omega) (by omega))) ?_
    refine ao1 (by decide) (o_assign (v := .int _ _) rfl) ?_
    refine ao_nil ?_
    try dsimp only
    cases hb : jbad (jj (d + 1) s came st f o) x.what (now + x.more) with
    | true =>
      rw [show jdo (jj (d + 1) s came st f o) x.what (now + x.more) = (jj (d + 1) s came st f o, 1) by rw [jdo, if_pos hb]] at c13
      have cr := fun H => job_Right (jj (d + 1) s came st f o) H
      rw [hr0] at cr
      repeat (first | refine then_nrm ?_ | refine aw_seq ?_)
      refine aw_drawP mixed none 2 ?_
      try dsimp only
      refine aqp 0 rfl (by decide +kernel) (by decide) (fun G => w_loadR rfl (lk rfl rfl) rfl rfl rfl) ?_
      refine aq0 1 rfl (by decide +kernel) (by decide) (fun _ => o_move (v := .pl _) rfl) ?_
      refine aq0 2 rfl (by decide +kernel) (by decide) (fun _ => o_move (v := .int _ _) rfl) ?_
      refine aqp 3 rfl (by decide +kernel) (by decide) (fun G => w_indexAddrpN rfl rfl hr rfl) ?_
      refine aqp 4 rfl (by decide +kernel) (by decide) (fun G => w_fieldAddrp rfl (by decide)) ?_
      refine aqp 5 rfl (by decide +kernel) (by decide) (fun G => o_load1p (v := .int _ _) rfl hr rfl) ?_
      refine aq0 6 rfl (by decide +kernel) (by decide) (fun _ => o_move (v := .int _ _) rfl) ?_
      refine aq02 7 rfl (by decide +kernel) (by decide) (fun _ => V2.call (c13 _) rfl) ?_
      refine aq0 8 rfl (by decide +kernel) (by decide) (fun _ => o_move (v := .tup _) rfl) ?_
      refine aq0 9 rfl (by decide +kernel) (by decide) (fun _ => o_extract (v := .agg _) rfl rfl) ?_
      refine aq0 10 rfl (by decide +kernel) (by decide) (fun _ => o_extract (v := .int _ _) rfl rfl) ?_
      refine aqs 11 rfl (by decide +kernel) (by exact fun _ => ⟨_, rfl⟩) (by rintro _ ⟨⟩; decide) (o_allocL (sz := 13) rfl (by decide) rfl) ?_
      refine aqs 12 rfl (by decide +kernel) (by exact fun _ => ⟨_, rfl⟩) (by rintro _ ⟨⟩) (w_storeW (sz := 13) rfl rfl rfl rfl rfl rfl rfl rfl (Nat.le_of_ble_eq_true rfl)) ?_
      refine aq0 13 rfl (by decide +kernel) (by decide) (fun _ => o_assign (v := .int _ _) rfl) ?_
      refine aa_done (by decide +kernel) (by exact fun _ => ⟨_, rfl⟩) ?_
      try dsimp only
      repeat (first | refine then_nrm ?_ | refine aw_seq ?_)
      refine aw_out 103 (.bool false) ?_ ?_
      · refine ao1 (by decide) (o_move (v := .int _ _) rfl) ?_
        refine ao1 (by decide) (o_eq rfl rfl) ?_
        refine ao1 (by decide) (o_move (v := .bool _) rfl) ?_
        refine ao_split rfl rfl (fun hg2 => ?_) (fun hg2 => ?_)
        · refine ao_y1 rfl rfl (by decide) (w_fieldAddr rfl (lk rfl rfl) rfl (by decide)) ?_
          refine ao_y1 rfl rfl (by decide) (w_load1 (v := .int _ _) rfl (lk rfl rfl) rfl rfl rfl) ?_
          refine ao_y rfl rfl (by decide) (V2.call (job_Over _ _) rfl) ?_
          refine ao1 (by decide) (o_pick_t (v := .bool _) rfl rfl) ?_
          refine ao1 (by decide) (o_move (v := .bool _) rfl) ?_
          refine ao_split rfl rfl (fun hg7 => ?_) (fun hg7 => ?_)
          · refine ao_nF rfl rfl (by decide) ?_
            refine ao_nF rfl rfl (by decide) ?_
            refine ao_nF rfl rfl (by decide) ?_
            refine ao_nU rfl rfl (by decide) ?_
            refine ao_nU rfl rfl (by decide) ?_
            refine ao_nU rfl rfl (by decide) ?_
            refine ao_nU rfl rfl (by decide) ?_
            refine ao_nF rfl rfl (by decide) ?_
            refine ao1 (by decide) (o_pick_t (v := .bool _) rfl rfl) ?_
            refine ao1 (by decide) (o_move (v := .bool _) rfl) ?_
            refine ao_nF rfl rfl (by decide) ?_
            refine ao_nF rfl rfl (by decide) ?_
            refine ao_nF rfl rfl (by decide) ?_
            refine ao1 (by decide) (o_pick_t (v := .bool _) rfl rfl) ?_
            refine ao1 (by decide) (o_move (v := .bool _) rfl) ?_
            refine ao_nF rfl rfl (by decide) ?_
            refine ao_nF rfl rfl (by decide) ?_
            refine ao_nF rfl rfl (by decide) ?_
            refine ao_nF rfl rfl (by decide) ?_
            refine ao1 (by decide) (o_pick_t (v := .bool _) rfl rfl) ?_
            refine ao1 (by decide) (o_move (v := .bool _) rfl) ?_
            refine ao_nF rfl rfl (by decide) ?_
            refine ao_nF rfl rfl (by decide) ?_
            refine ao_nF rfl rfl (by decide) ?_
            refine ao_nF rfl rfl (by decide) ?_
            refine ao_nF rfl rfl (by decide) ?_
            refine ao1 (by decide) (o_pick_t (v := .bool _) rfl rfl) ?_
            exact ao_nil (Out.mk (by (refine congrArg AV.bool ?_; (simp at *; done))) (by repeat (first | exact SubX.refl _ _ | refine SubX.at ?_ | refine SubX.put rfl ?_)))
          · refine ao_y1 rfl rfl (by decide) (o_move (v := .int _ _) rfl) ?_
            refine ao_y1 rfl rfl (by decide) (o_ne rfl rfl) ?_
            refine ao_y1 rfl rfl (by decide) (o_move (v := .bool _) rfl) ?_
            refine ao_split rfl rfl (fun hg10 => ?_) (fun hg10 => ?_)
            · refine ao_y1 rfl rfl (by decide) (w_loadR rfl (lk rfl rfl) rfl rfl rfl) ?_
              refine ao_y1 rfl rfl (by decide) (w_loadR rfl (lk rfl rfl) rfl rfl rfl) ?_
              refine ao_y rfl rfl (by decide) (V2.call (cs _) rfl) ?_
              refine ao_y1 rfl rfl (by decide) (o_not rfl) ?_
              refine ao_y1 rfl rfl (by decide) (o_pick_t (v := .bool _) rfl rfl) ?_
              refine ao1 (by decide) (o_pick_f (v := .bool _) rfl rfl) ?_
              refine ao1 (by decide) (o_move (v := .bool _) rfl) ?_
              refine ao_split rfl rfl (fun hg17 => ?_) (fun hg17 => ?_)
              · refine ao_nF rfl rfl (by decide) ?_
                refine ao_nF rfl rfl (by decide) ?_
                refine ao_nF rfl rfl (by decide) ?_
                refine ao1 (by decide) (o_pick_t (v := .bool _) rfl rfl) ?_
                refine ao1 (by decide) (o_move (v := .bool _) rfl) ?_
                refine ao_nF rfl rfl (by decide) ?_
                refine ao_nF rfl rfl (by decide) ?_
                refine ao_nF rfl rfl (by decide) ?_
                refine ao_nF rfl rfl (by decide) ?_
                refine ao1 (by decide) (o_pick_t (v := .bool _) rfl rfl) ?_
                refine ao1 (by decide) (o_move (v := .bool _) rfl) ?_
                refine ao_nF rfl rfl (by decide) ?_
                refine ao_nF rfl rfl (by decide) ?_
                refine ao_nF rfl rfl (by decide) ?_
                refine ao_nF rfl rfl (by decide) ?_
                refine ao_nF rfl rfl (by decide) ?_
                refine ao1 (by decide) (o_pick_t (v := .bool _) rfl rfl) ?_
                exact ao_nil (Out.mk (by (refine congrArg AV.bool ?_; (simp at *; done))) (by repeat (first | exact SubX.refl _ _ | refine SubX.at ?_ | refine SubX.put rfl ?_)))
              · refine ao_y1 rfl rfl (by decide) (w_loadR rfl (lk rfl rfl) rfl rfl rfl) ?_
                refine ao_y rfl rfl (by decide) (V2.call (cr _) rfl) ?_
                refine ao_y1 rfl rfl (by decide) (o_not rfl) ?_
                refine ao1 (by decide) (o_pick_f (v := .bool _) rfl rfl) ?_
                refine ao1 (by decide) (o_move (v := .bool _) rfl) ?_
                refine ao_split rfl rfl (fun hg22 => ?_) (fun hg22 => ?_)
                · refine ao_nF rfl rfl (by decide) ?_
                  refine ao_nF rfl rfl (by decide) ?_
                  refine ao_nF rfl rfl (by decide) ?_
                  refine ao_nF rfl rfl (by decide) ?_
                  refine ao1 (by decide) (o_pick_t (v := .bool _) rfl rfl) ?_
                  refine ao1 (by decide) (o_move (v := .bool _) rfl) ?_
                  refine ao_nF rfl rfl (by decide) ?_
                  refine ao_nF rfl rfl (by decide) ?_
                  refine ao_nF rfl rfl (by decide) ?_
                  refine ao_nF rfl rfl (by decide) ?_
                  refine ao_nF rfl rfl (by decide) ?_
                  refine ao1 (by decide) (o_pick_t (v := .bool _) rfl rfl) ?_
                  exact ao_nil (Out.mk (by (refine congrArg AV.bool ?_; (simp at *; done))) (by repeat (first | exact SubX.refl _ _ | refine SubX.at ?_ | refine SubX.put rfl ?_)))
                · refine ao_y1 rfl rfl (by decide) (w_fieldAddr rfl (lk rfl rfl) rfl (by decide)) ?_
                  refine ao_y1 rfl rfl (by decide) (w_loadN (cs := [_, _, _, _, _, _, _]) rfl (lk rfl rfl) rfl rfl rfl rfl) ?_
                  refine ao_y1 rfl rfl (by decide) (w_loadR rfl (lk rfl rfl) rfl rfl rfl) ?_
                  refine ao_y1 rfl rfl (by decide) (o_neAgg (us := uSpec s) (vs := uSpec s) rfl rfl rfl rfl (by kernel_rfl) (eqSpec_run s s)) ?_
                  refine ao1 (by decide) (o_pick_f (v := .bool _) rfl rfl) ?_
                  refine ao1 (by decide) (o_move (v := .bool _) rfl) ?_
                  refine ao_split rfl rfl (fun hg28 => ?_) (fun hg28 => ?_)
                  · refine ao_nF rfl rfl (by decide) ?_
                    refine ao_nF rfl rfl (by decide) ?_
                    refine ao_nF rfl rfl (by decide) ?_
                    refine ao_nF rfl rfl (by decide) ?_
                    refine ao_nF rfl rfl (by decide) ?_
                    refine ao1 (by decide) (o_pick_t (v := .bool _) rfl rfl) ?_
                    exact ao_nil (Out.mk (by (refine congrArg AV.bool ?_; (simp at *; done))) (by repeat (first | exact SubX.refl _ _ | refine SubX.at ?_ | refine SubX.put rfl ?_)))
                  · refine ao_y1 rfl rfl (by decide) (w_fieldAddr rfl (lk rfl rfl) rfl (by decide)) ?_
                    refine ao_y1 rfl rfl (by decide) (w_load1 (v := .int _ _) rfl (lk rfl rfl) rfl rfl rfl) ?_
                    refine ao_y1 rfl rfl (by decide) (o_move (v := .int _ _) rfl) ?_
                    refine ao_y1 rfl rfl (by decide) (o_conv_int rfl (wrap64_ok (by omega) (by omega))) ?_
                    refine ao_y1 rfl rfl (by decide) (o_ne rfl rfl) ?_
                    refine ao1 (by decide) (o_pick_f (v := .bool _) rfl rfl) ?_
                    exact ao_nil (Out.mk (by (refine congrArg AV.bool ?_; (simp at *; done))) (by repeat (first | exact SubX.refl _ _ | refine SubX.at ?_ | refine SubX.put rfl ?_)))
            · refine ao_nT rfl rfl (by decide) ?_
              refine ao_nT rfl rfl (by decide) ?_
              refine ao_nT rfl rfl (by decide) ?_
              refine ao_nT rfl rfl (by decide) ?_
              refine ao_y1 rfl rfl (by decide) (o_pick_f (v := .bool _) rfl rfl) ?_
              refine ao1 (by decide) (o_pick_f (v := .bool _) rfl rfl) ?_
              refine ao1 (by decide) (o_move (v := .bool _) rfl) ?_
              refine ao_y1 rfl rfl (by decide) (w_loadR rfl (lk rfl rfl) rfl rfl rfl) ?_
              refine ao_y rfl rfl (by decide) (V2.call (cr _) rfl) ?_
              refine ao_y1 rfl rfl (by decide) (o_not rfl) ?_
              refine ao1 (by decide) (o_pick_f (v := .bool _) rfl rfl) ?_
              refine ao1 (by decide) (o_move (v := .bool _) rfl) ?_
              refine ao_split rfl rfl (fun hg22 => ?_) (fun hg22 => ?_)
              · refine ao_nF rfl rfl (by decide) ?_
                refine ao_nF rfl rfl (by decide) ?_
                refine ao_nF rfl rfl (by decide) ?_
                refine ao_nF rfl rfl (by decide) ?_
                refine ao1 (by decide) (o_pick_t (v := .bool _) rfl rfl) ?_
                refine ao1 (by decide) (o_move (v := .bool _) rfl) ?_
                refine ao_nF rfl rfl (by decide) ?_
                refine ao_nF rfl rfl (by decide) ?_
                refine ao_nF rfl rfl (by decide) ?_
                refine ao_nF rfl rfl (by decide) ?_
                refine ao_nF rfl rfl (by decide) ?_
                refine ao1 (by decide) (o_pick_t (v := .bool _) rfl rfl) ?_
                exact ao_nil (Out.mk (by (refine congrArg AV.bool ?_; (simp at *; done))) (by repeat (first | exact SubX.refl _ _ | refine SubX.at ?_ | refine SubX.put rfl ?_)))
              · refine ao_y1 rfl rfl (by decide) (w_fieldAddr rfl (lk rfl rfl) rfl (by decide)) ?_
                refine ao_y1 rfl rfl (by decide) (w_loadN (cs := [_, _, _, _, _, _, _]) rfl (lk rfl rfl) rfl rfl rfl rfl) ?_
                refine ao_y1 rfl rfl (by decide) (w_loadR rfl (lk rfl rfl) rfl rfl rfl) ?_
                refine ao_y1 rfl rfl (by decide) (o_neAgg (us := uSpec s) (vs := uSpec s) rfl rfl rfl rfl (by kernel_rfl) (eqSpec_run s s)) ?_
                refine ao1 (by decide) (o_pick_f (v := .bool _) rfl rfl) ?_
                refine ao1 (by decide) (o_move (v := .bool _) rfl) ?_
                refine ao_split rfl rfl (fun hg28 => ?_) (fun hg28 => ?_)
                · refine ao_nF rfl rfl (by decide) ?_
                  refine ao_nF rfl rfl (by decide) ?_
                  refine ao_nF rfl rfl (by decide) ?_
                  refine ao_nF rfl rfl (by decide) ?_
                  refine ao_nF rfl rfl (by decide) ?_
                  refine ao1 (by decide) (o_pick_t (v := .bool _) rfl rfl) ?_
                  exact ao_nil (Out.mk (by (refine congrArg AV.bool ?_; (simp at *; done))) (by repeat (first | exact SubX.refl _ _ | refine SubX.at ?_ | refine SubX.put rfl ?_)))
                · refine ao_y1 rfl rfl (by decide) (w_fieldAddr rfl (lk rfl rfl) rfl (by decide)) ?_
                  refine ao_y1 rfl rfl (by decide) (w_load1 (v := .int _ _) rfl (lk rfl rfl) rfl rfl rfl) ?_
                  refine ao_y1 rfl rfl (by decide) (o_move (v := .int _ _) rfl) ?_
                  refine ao_y1 rfl rfl (by decide) (o_conv_int rfl (wrap64_ok (by omega) (by omega))) ?_
                  refine ao_y1 rfl rfl (by decide) (o_ne rfl rfl) ?_
                  refine ao1 (by decide) (o_pick_f (v := .bool _) rfl rfl) ?_
                  exact ao_nil (Out.mk (by (refine congrArg AV.bool ?_; (simp at *; done))) (by repeat (first | exact SubX.refl _ _ | refine SubX.at ?_ | refine SubX.put rfl ?_)))
        · refine ao_nT rfl rfl (by decide) ?_
          refine ao_nT rfl rfl (by decide) ?_
          refine ao_nT rfl rfl (by decide) ?_
          refine ao1 (by decide) (o_pick_f (v := .bool _) rfl rfl) ?_
          refine ao1 (by decide) (o_move (v := .bool _) rfl) ?_
          refine ao_y1 rfl rfl (by decide) (o_move (v := .int _ _) rfl) ?_
          refine ao_y1 rfl rfl (by decide) (o_ne rfl rfl) ?_
          refine ao_y1 rfl rfl (by decide) (o_move (v := .bool _) rfl) ?_
          refine ao_split rfl rfl (fun hg10 => ?_) (fun hg10 => ?_)
          · refine ao_y1 rfl rfl (by decide) (w_loadR rfl (lk rfl rfl) rfl rfl rfl) ?_
            refine ao_y1 rfl rfl (by decide) (w_loadR rfl (lk rfl rfl) rfl rfl rfl) ?_
            refine ao_y rfl rfl (by decide) (V2.call (cs _) rfl) ?_
            refine ao_y1 rfl rfl (by decide) (o_not rfl) ?_
            refine ao_y1 rfl rfl (by decide) (o_pick_t (v := .bool _) rfl rfl) ?_
            refine ao1 (by decide) (o_pick_f (v := .bool _) rfl rfl) ?_
            refine ao1 (by decide) (o_move (v := .bool _) rfl) ?_
            refine ao_split rfl rfl (fun hg17 => ?_) (fun hg17 => ?_)
            · refine ao_nF rfl rfl (by decide) ?_
              refine ao_nF rfl rfl (by decide) ?_
              refine ao_nF rfl rfl (by decide) ?_
              refine ao1 (by decide) (o_pick_t (v := .bool _) rfl rfl) ?_
              refine ao1 (by decide) (o_move (v := .bool _) rfl) ?_
              refine ao_nF rfl rfl (by decide) ?_
              refine ao_nF rfl rfl (by decide) ?_
              refine ao_nF rfl rfl (by decide) ?_
              refine ao_nF rfl rfl (by decide) ?_
              refine ao1 (by decide) (o_pick_t (v := .bool _) rfl rfl) ?_
              refine ao1 (by decide) (o_move (v := .bool _) rfl) ?_
              refine ao_nF rfl rfl (by decide) ?_
              refine ao_nF rfl rfl (by decide) ?_
              refine ao_nF rfl rfl (by decide) ?_
              refine ao_nF rfl rfl (by decide) ?_
              refine ao_nF rfl rfl (by decide) ?_
              refine ao1 (by decide) (o_pick_t (v := .bool _) rfl rfl) ?_
              exact ao_nil (Out.mk (by (refine congrArg AV.bool ?_; (simp at *; done))) (by repeat (first | exact SubX.refl _ _ | refine SubX.at ?_ | refine SubX.put rfl ?_)))
            · refine ao_y1 rfl rfl (by decide) (w_loadR rfl (lk rfl rfl) rfl rfl rfl) ?_
              refine ao_y rfl rfl (by decide) (V2.call (cr _) rfl) ?_
              refine ao_y1 rfl rfl (by decide) (o_not rfl) ?_
              refine ao1 (by decide) (o_pick_f (v := .bool _) rfl rfl) ?_
              refine ao1 (by decide) (o_move (v := .bool _) rfl) ?_
              refine ao_split rfl rfl (fun hg22 => ?_) (fun hg22 => ?_)
              · refine ao_nF rfl rfl (by decide) ?_
                refine ao_nF rfl rfl (by decide) ?_
                refine ao_nF rfl rfl (by decide) ?_
                refine ao_nF rfl rfl (by decide) ?_
                refine ao1 (by decide) (o_pick_t (v := .bool _) rfl rfl) ?_
                refine ao1 (by decide) (o_move (v := .bool _) rfl) ?_
                refine ao_nF rfl rfl (by decide) ?_
                refine ao_nF rfl rfl (by decide) ?_
                refine ao_nF rfl rfl (by decide) ?_
                refine ao_nF rfl rfl (by decide) ?_
                refine ao_nF rfl rfl (by decide) ?_
                refine ao1 (by decide) (o_pick_t (v := .bool _) rfl rfl) ?_
                exact ao_nil (Out.mk (by (refine congrArg AV.bool ?_; (simp at *; done))) (by repeat (first | exact SubX.refl _ _ | refine SubX.at ?_ | refine SubX.put rfl ?_)))
              · refine ao_y1 rfl rfl (by decide) (w_fieldAddr rfl (lk rfl rfl) rfl (by decide)) ?_
                refine ao_y1 rfl rfl (by decide) (w_loadN (cs := [_, _, _, _, _, _, _]) rfl (lk rfl rfl) rfl rfl rfl rfl) ?_
                refine ao_y1 rfl rfl (by decide) (w_loadR rfl (lk rfl rfl) rfl rfl rfl) ?_
                refine ao_y1 rfl rfl (by decide) (o_neAgg (us := uSpec s) (vs := uSpec s) rfl rfl rfl rfl (by kernel_rfl) (eqSpec_run s s)) ?_
                refine ao1 (by decide) (o_pick_f (v := .bool _) rfl rfl) ?_
                refine ao1 (by decide) (o_move (v := .bool _) rfl) ?_
                refine ao_split rfl rfl (fun hg28 => ?_) (fun hg28 => ?_)
                · refine ao_nF rfl rfl (by decide) ?_
                  refine ao_nF rfl rfl (by decide) ?_
                  refine ao_nF rfl rfl (by decide) ?_
                  refine ao_nF rfl rfl (by decide) ?_
                  refine ao_nF rfl rfl (by decide) ?_
                  refine ao1 (by decide) (o_pick_t (v := .bool _) rfl rfl) ?_
                  exact ao_nil (Out.mk (by (refine congrArg AV.bool ?_; (simp at *; done))) (by repeat (first | exact SubX.refl _ _ | refine SubX.at ?_ | refine SubX.put rfl ?_)))
                · refine ao_y1 rfl rfl (by decide) (w_fieldAddr rfl (lk rfl rfl) rfl (by decide)) ?_
                  refine ao_y1 rfl rfl (by decide) (w_load1 (v := .int _ _) rfl (lk rfl rfl) rfl rfl rfl) ?_
                  refine ao_y1 rfl rfl (by decide) (o_move (v := .int _ _) rfl) ?_
                  refine ao_y1 rfl rfl (by decide) (o_conv_int rfl (wrap64_ok (by omega) (by omega))) ?_
                  refine ao_y1 rfl rfl (by decide) (o_ne rfl rfl) ?_
                  refine ao1 (by decide) (o_pick_f (v := .bool _) rfl rfl) ?_
                  exact ao_nil (Out.mk (by (refine congrArg AV.bool ?_; (simp [jj] at *; done))) (by repeat (first | exact SubX.refl _ _ | refine SubX.at ?_ | refine SubX.put rfl ?_)))
          · refine ao_nT rfl rfl (by decide) ?_
            refine ao_nT rfl rfl (by decide) ?_
            refine ao_nT rfl rfl (by decide) ?_
            refine ao_nT rfl rfl (by decide) ?_
            refine ao_y1 rfl rfl (by decide) (o_pick_f (v := .bool _) rfl rfl) ?_
            refine ao1 (by decide) (o_pick_f (v := .bool _) rfl rfl) ?_
            refine ao1 (by decide) (o_move (v := .bool _) rfl) ?_
            refine ao_y1 rfl rfl (by decide) (w_loadR rfl (lk rfl rfl) rfl rfl rfl) ?_
            refine ao_y rfl rfl (by decide) (V2.call (cr _) rfl) ?_
            refine ao_y1 rfl rfl (by decide) (o_not rfl) ?_
            refine ao1 (by decide) (o_pick_f (v := .bool _) rfl rfl) ?_
            refine ao1 (by decide) (o_move (v := .bool _) rfl) ?_
            refine ao_split rfl rfl (fun hg22 => ?_) (fun hg22 => ?_)
            · refine ao_nF rfl rfl (by decide) ?_
              refine ao_nF rfl rfl (by decide) ?_
              refine ao_nF rfl rfl (by decide) ?_
              refine ao_nF rfl rfl (by decide) ?_
              refine ao1 (by decide) (o_pick_t (v := .bool _) rfl rfl) ?_
              refine ao1 (by decide) (o_move (v := .bool _) rfl) ?_
              refine ao_nF rfl rfl (by decide) ?_
              refine ao_nF rfl rfl (by decide) ?_
              refine ao_nF rfl rfl (by decide) ?_
              refine ao_nF rfl rfl (by decide) ?_
              refine ao_nF rfl rfl (by decide) ?_
              refine ao1 (by decide) (o_pick_t (v := .bool _) rfl rfl) ?_
              exact ao_nil (Out.mk (by (refine congrArg AV.bool ?_; (simp at *; done))) (by repeat (first | exact SubX.refl _ _ | refine SubX.at ?_ | refine SubX.put rfl ?_)))
            · refine ao_y1 rfl rfl (by decide) (w_fieldAddr rfl (lk rfl rfl) rfl (by decide)) ?_
              refine ao_y1 rfl rfl (by decide) (w_loadN (cs := [_, _, _, _, _, _, _]) rfl (lk rfl rfl) rfl rfl rfl rfl) ?_
              refine ao_y1 rfl rfl (by decide) (w_loadR rfl (lk rfl rfl) rfl rfl rfl) ?_
              refine ao_y1 rfl rfl (by decide) (o_neAgg (us := uSpec s) (vs := uSpec s) rfl rfl rfl rfl (by kernel_rfl) (eqSpec_run s s)) ?_
              refine ao1 (by decide) (o_pick_f (v := .bool _) rfl rfl) ?_
              refine ao1 (by decide) (o_move (v := .bool _) rfl) ?_
              refine ao_split rfl rfl (fun hg28 => ?_) (fun hg28 => ?_)
              · refine ao_nF rfl rfl (by decide) ?_
                refine ao_nF rfl rfl (by decide) ?_
                refine ao_nF rfl rfl (by decide) ?_
                refine ao_nF rfl rfl (by decide) ?_
                refine ao_nF rfl rfl (by decide) ?_
                refine ao1 (by decide) (o_pick_t (v := .bool _) rfl rfl) ?_
                exact ao_nil (Out.mk (by (refine congrArg AV.bool ?_; (simp at *; done))) (by repeat (first | exact SubX.refl _ _ | refine SubX.at ?_ | refine SubX.put rfl ?_)))
              · refine ao_y1 rfl rfl (by decide) (w_fieldAddr rfl (lk rfl rfl) rfl (by decide)) ?_
                refine ao_y1 rfl rfl (by decide) (w_load1 (v := .int _ _) rfl (lk rfl rfl) rfl rfl rfl) ?_
                refine ao_y1 rfl rfl (by decide) (o_move (v := .int _ _) rfl) ?_
                refine ao_y1 rfl rfl (by decide) (o_conv_int rfl (wrap64_ok (by omega) (by omega))) ?_
                refine ao_y1 rfl rfl (by decide) (o_ne rfl rfl) ?_
                refine ao1 (by decide) (o_pick_f (v := .bool _) rfl rfl) ?_
                exact ao_nil (Out.mk (by (refine congrArg AV.bool ?_; (simp at *; done))) (by repeat (first | exact SubX.refl _ _ | refine SubX.at ?_ | refine SubX.put rfl ?_)))
      repeat (refine then_nrm ?_)
      refine aw_cond rfl (fun hc => ?_) (fun hc => ?_)
      · cases hc
      repeat (first | refine then_nrm ?_ | refine aw_seq ?_ | refine aw_skip ?_)
      refine aw_out 110 (.bool false) ?_ ?_
      · refine ao1 (by decide) (o_move (v := .int _ _) rfl) ?_
        refine ao1 (by decide) (o_eq rfl rfl) ?_
        refine ao1 (by decide) (o_move (v := .bool _) rfl) ?_
        refine ao_split rfl rfl (fun hg2 => ?_) (fun hg2 => ?_)
        · refine ao_y1 rfl rfl (by decide) (w_fieldAddr rfl (lk rfl rfl) rfl (by decide)) ?_
          refine ao_y1 rfl rfl (by decide) (w_load1 (v := .int _ _) rfl (lk rfl rfl) rfl rfl rfl) ?_
          refine ao_y1 rfl rfl (by decide) (o_eq rfl rfl) ?_
          refine ao1 (by decide) (o_pick_t (v := .bool _) rfl rfl) ?_
          exact ao_nil (Out.mk (by (refine congrArg AV.bool ?_; (simp at *; done))) (by repeat (first | exact SubX.refl _ _ | refine SubX.at ?_ | refine SubX.put rfl ?_)))
        · refine ao_nT rfl rfl (by decide) ?_
          refine ao_nT rfl rfl (by decide) ?_
          refine ao_nT rfl rfl (by decide) ?_
          refine ao1 (by decide) (o_pick_f (v := .bool _) rfl rfl) ?_
          exact ao_nil (Out.mk (by rfl) (by repeat (first | exact SubX.refl _ _ | refine SubX.at ?_ | refine SubX.put rfl ?_)))
      repeat (refine then_nrm ?_)
      refine aw_cond rfl (fun hc => ?_) (fun hc => ?_)
      · cases hc
      repeat (first | refine then_nrm ?_ | refine aw_seq ?_ | refine aw_skip ?_)
      refine aw_out 136 (.bool false) ?_ ?_
      · refine ao1 (by decide) (w_fieldAddr rfl (lk rfl rfl) rfl (by decide)) ?_
        refine ao1 (by decide) (w_load1 (v := .int _ _) rfl (lk rfl rfl) rfl rfl rfl) ?_
        refine ao_ret (job_Over _ _) rfl (by decide) ?_
        refine ao1 (by decide) (o_move (v := .bool _) rfl) ?_
        refine ao_split rfl rfl (fun hg3 => ?_) (fun hg3 => ?_)
        · refine ao_y1 rfl rfl (by decide) (w_fieldAddr rfl (lk rfl rfl) rfl (by decide)) ?_
          refine ao_y1 rfl rfl (by decide) (w_load1 (v := .int _ _) rfl (lk rfl rfl) rfl rfl rfl) ?_
          refine ao_y rfl rfl (by decide) (V2.call (job_Over _ _) rfl) ?_
          refine ao_y1 rfl rfl (by decide) (o_not rfl) ?_
          refine ao1 (by decide) (o_pick_t (v := .bool _) rfl rfl) ?_
          refine ao1 (by decide) (o_move (v := .bool _) rfl) ?_
          refine ao_split rfl rfl (fun hg9 => ?_) (fun hg9 => ?_)
          · refine ao_y1 rfl rfl (by decide) (w_fieldAddr rfl (lk rfl rfl) rfl (by decide)) ?_
            refine ao_y1 rfl rfl (by decide) (w_load1 (v := .int _ _) rfl (lk rfl rfl) rfl rfl rfl) ?_
            refine ao_y1 rfl rfl (by decide) (o_move (v := .int _ _) rfl) ?_
            refine ao_y1 rfl rfl (by decide) (o_ne rfl rfl) ?_
            refine ao1 (by decide) (o_pick_t (v := .bool _) rfl rfl) ?_
            exact ao_nil (Out.mk (by (refine congrArg AV.bool ?_; ((try simp only [jj] at *); (simp_all; done)))) (by repeat (first | exact SubX.refl _ _ | refine SubX.at ?_ | refine SubX.put rfl ?_)))
          · refine ao_nT rfl rfl (by decide) ?_
            refine ao_nT rfl rfl (by decide) ?_
            refine ao_nT rfl rfl (by decide) ?_
            refine ao_nT rfl rfl (by decide) ?_
            refine ao1 (by decide) (o_pick_f (v := .bool _) rfl rfl) ?_
            exact ao_nil (Out.mk (by rfl) (by repeat (first | exact SubX.refl _ _ | refine SubX.at ?_ | refine SubX.put rfl ?_)))
        · refine ao_nT rfl rfl (by decide) ?_
          refine ao_nT rfl rfl (by decide) ?_
          refine ao_nT rfl rfl (by decide) ?_
          refine ao_nT rfl rfl (by decide) ?_
          refine ao1 (by decide) (o_pick_f (v := .bool _) rfl rfl) ?_
          refine ao1 (by decide) (o_move (v := .bool _) rfl) ?_
          refine ao_nT rfl rfl (by decide) ?_
          refine ao_nT rfl rfl (by decide) ?_
          refine ao_nT rfl rfl (by decide) ?_
          refine ao_nT rfl rfl (by decide) ?_
          refine ao1 (by decide) (o_pick_f (v := .bool _) rfl rfl) ?_
          exact ao_nil (Out.mk (by rfl) (by repeat (first | exact SubX.refl _ _ | refine SubX.at ?_ | refine SubX.put rfl ?_)))
      repeat (refine then_nrm ?_)
      refine aw_cond rfl (fun hc => ?_) (fun hc => ?_)
      · cases hc
      repeat (first | refine then_nrm ?_ | refine aw_skip ?_)
      refine aw_region ?_
      refine ao1 (by decide) (w_loadR rfl (lk rfl rfl) rfl rfl rfl) ?_
      refine ao2 (by rintro _ ⟨⟩) (w_storeW (sz := 13) rfl rfl rfl rfl rfl rfl rfl rfl (Nat.le_of_ble_eq_true rfl)) ?_
      refine ao_nil ?_
      try dsimp only
      repeat (first | refine then_nrm ?_ | refine blk_nrm ?_)
      refine aw_region ?_
      refine ao1 (by decide) (o_move (v := .int _ _) rfl) ?_
      refine ao1 (by decide) (o_add rfl rfl (wrap64_ok (by omega) (by omega))) ?_
      refine ao1 (by decide) (o_assign (v := .int _ _) rfl) ?_
      refine ao_nil ?_
      repeat (refine then_nrm ?_)
      exact ⟨⟨st, f, o, now + x.more, bg, k + 1⟩, by simp only; omega, ⟨⟨hr0, by simp only; omega, by simp only; omega, hbg⟩, by simp only; omega⟩, (by repeat (first | exact Sub.nil | refine Sub.cons (by rfl) ?_)), Fit.loc hB rfl (by repeat (first | exact EBel.nil | refine EBel.cons (by first | rfl | (simp [AV.bel, AV.bels, Lid]; done)) ?_)) (mem0 _ _ _)⟩
    | false =>
    cases hnx : jnext st x.what with
    | none =>
      rw [show jdo (jj (d + 1) s came st f o) x.what (now + x.more) = (jj (d + 1) s came st f o, 8) by rw [jdo, if_neg (by rw [hb]; simp), show jnext (jj (d + 1) s came st f o).state x.what = none from hnx]] at c13
      have cr := fun H => job_Right (jj (d + 1) s came st f o) H
      rw [hr0] at cr
      repeat (first | refine then_nrm ?_ | refine aw_seq ?_)
      refine aw_drawP mixed none 2 ?_
      try dsimp only
      refine aqp 0 rfl (by decide +kernel) (by decide) (fun G => w_loadR rfl (lk rfl rfl) rfl rfl rfl) ?_
      refine aq0 1 rfl (by decide +kernel) (by decide) (fun _ => o_move (v := .pl _) rfl) ?_
      refine aq0 2 rfl (by decide +kernel) (by decide) (fun _ => o_move (v := .int _ _) rfl) ?_
      refine aqp 3 rfl (by decide +kernel) (by decide) (fun G => w_indexAddrpN rfl rfl hr rfl) ?_
      refine aqp 4 rfl (by decide +kernel) (by decide) (fun G => w_fieldAddrp rfl (by decide)) ?_
      refine aqp 5 rfl (by decide +kernel) (by decide) (fun G => o_load1p (v := .int _ _) rfl hr rfl) ?_
      refine aq0 6 rfl (by decide +kernel) (by decide) (fun _ => o_move (v := .int _ _) rfl) ?_
      refine aq02 7 rfl (by decide +kernel) (by decide) (fun _ => V2.call (c13 _) rfl) ?_
      refine aq0 8 rfl (by decide +kernel) (by decide) (fun _ => o_move (v := .tup _) rfl) ?_
      refine aq0 9 rfl (by decide +kernel) (by decide) (fun _ => o_extract (v := .agg _) rfl rfl) ?_
      refine aq0 10 rfl (by decide +kernel) (by decide) (fun _ => o_extract (v := .int _ _) rfl rfl) ?_
      refine aqs 11 rfl (by decide +kernel) (by exact fun _ => ⟨_, rfl⟩) (by rintro _ ⟨⟩; decide) (o_allocL (sz := 13) rfl (by decide) rfl) ?_
      refine aqs 12 rfl (by decide +kernel) (by exact fun _ => ⟨_, rfl⟩) (by rintro _ ⟨⟩) (w_storeW (sz := 13) rfl rfl rfl rfl rfl rfl rfl rfl (Nat.le_of_ble_eq_true rfl)) ?_
      refine aq0 13 rfl (by decide +kernel) (by decide) (fun _ => o_assign (v := .int _ _) rfl) ?_
      refine aa_done (by decide +kernel) (by exact fun _ => ⟨_, rfl⟩) ?_
      try dsimp only
      repeat (first | refine then_nrm ?_ | refine aw_seq ?_)
      refine aw_out 103 (.bool false) ?_ ?_
      · refine ao1 (by decide) (o_move (v := .int _ _) rfl) ?_
        refine ao1 (by decide) (o_eq rfl rfl) ?_
        refine ao1 (by decide) (o_move (v := .bool _) rfl) ?_
        refine ao_split rfl rfl (fun hg2 => ?_) (fun hg2 => ?_)
        · refine ao_y1 rfl rfl (by decide) (w_fieldAddr rfl (lk rfl rfl) rfl (by decide)) ?_
          refine ao_y1 rfl rfl (by decide) (w_load1 (v := .int _ _) rfl (lk rfl rfl) rfl rfl rfl) ?_
          refine ao_y rfl rfl (by decide) (V2.call (job_Over _ _) rfl) ?_
          refine ao1 (by decide) (o_pick_t (v := .bool _) rfl rfl) ?_
          refine ao1 (by decide) (o_move (v := .bool _) rfl) ?_
          refine ao_split rfl rfl (fun hg7 => ?_) (fun hg7 => ?_)
          · refine ao_nF rfl rfl (by decide) ?_
            refine ao_nF rfl rfl (by decide) ?_
            refine ao_nF rfl rfl (by decide) ?_
            refine ao_nU rfl rfl (by decide) ?_
            refine ao_nU rfl rfl (by decide) ?_
            refine ao_nU rfl rfl (by decide) ?_
            refine ao_nU rfl rfl (by decide) ?_
            refine ao_nF rfl rfl (by decide) ?_
            refine ao1 (by decide) (o_pick_t (v := .bool _) rfl rfl) ?_
            refine ao1 (by decide) (o_move (v := .bool _) rfl) ?_
            refine ao_nF rfl rfl (by decide) ?_
            refine ao_nF rfl rfl (by decide) ?_
            refine ao_nF rfl rfl (by decide) ?_
            refine ao1 (by decide) (o_pick_t (v := .bool _) rfl rfl) ?_
            refine ao1 (by decide) (o_move (v := .bool _) rfl) ?_
            refine ao_nF rfl rfl (by decide) ?_
            refine ao_nF rfl rfl (by decide) ?_
            refine ao_nF rfl rfl (by decide) ?_
            refine ao_nF rfl rfl (by decide) ?_
            refine ao1 (by decide) (o_pick_t (v := .bool _) rfl rfl) ?_
            refine ao1 (by decide) (o_move (v := .bool _) rfl) ?_
            refine ao_nF rfl rfl (by decide) ?_
            refine ao_nF rfl rfl (by decide) ?_
            refine ao_nF rfl rfl (by decide) ?_
            refine ao_nF rfl rfl (by decide) ?_
            refine ao_nF rfl rfl (by decide) ?_
            refine ao1 (by decide) (o_pick_t (v := .bool _) rfl rfl) ?_
            exact ao_nil (Out.mk (by (refine congrArg AV.bool ?_; (simp at *; done))) (by repeat (first | exact SubX.refl _ _ | refine SubX.at ?_ | refine SubX.put rfl ?_)))
          · refine ao_y1 rfl rfl (by decide) (o_move (v := .int _ _) rfl) ?_
            refine ao_y1 rfl rfl (by decide) (o_ne rfl rfl) ?_
            refine ao_y1 rfl rfl (by decide) (o_move (v := .bool _) rfl) ?_
            refine ao_split rfl rfl (fun hg10 => ?_) (fun hg10 => ?_)
            · refine ao_y1 rfl rfl (by decide) (w_loadR rfl (lk rfl rfl) rfl rfl rfl) ?_
              refine ao_y1 rfl rfl (by decide) (w_loadR rfl (lk rfl rfl) rfl rfl rfl) ?_
              refine ao_y rfl rfl (by decide) (V2.call (cs _) rfl) ?_
              refine ao_y1 rfl rfl (by decide) (o_not rfl) ?_
              refine ao_y1 rfl rfl (by decide) (o_pick_t (v := .bool _) rfl rfl) ?_
              refine ao1 (by decide) (o_pick_f (v := .bool _) rfl rfl) ?_
              refine ao1 (by decide) (o_move (v := .bool _) rfl) ?_
              refine ao_split rfl rfl (fun hg17 => ?_) (fun hg17 => ?_)
              · refine ao_nF rfl rfl (by decide) ?_
                refine ao_nF rfl rfl (by decide) ?_
                refine ao_nF rfl rfl (by decide) ?_
                refine ao1 (by decide) (o_pick_t (v := .bool _) rfl rfl) ?_
                refine ao1 (by decide) (o_move (v := .bool _) rfl) ?_
                refine ao_nF rfl rfl (by decide) ?_
                refine ao_nF rfl rfl (by decide) ?_
                refine ao_nF rfl rfl (by decide) ?_
                refine ao_nF rfl rfl (by decide) ?_
                refine ao1 (by decide) (o_pick_t (v := .bool _) rfl rfl) ?_
                refine ao1 (by decide) (o_move (v := .bool _) rfl) ?_
                refine ao_nF rfl rfl (by decide) ?_
                refine ao_nF rfl rfl (by decide) ?_
                refine ao_nF rfl rfl (by decide) ?_
                refine ao_nF rfl rfl (by decide) ?_
                refine ao_nF rfl rfl (by decide) ?_
                refine ao1 (by decide) (o_pick_t (v := .bool _) rfl rfl) ?_
                exact ao_nil (Out.mk (by (refine congrArg AV.bool ?_; (simp at *; done))) (by repeat (first | exact SubX.refl _ _ | refine SubX.at ?_ | refine SubX.put rfl ?_)))
              · refine ao_y1 rfl rfl (by decide) (w_loadR rfl (lk rfl rfl) rfl rfl rfl) ?_
                refine ao_y rfl rfl (by decide) (V2.call (cr _) rfl) ?_
                refine ao_y1 rfl rfl (by decide) (o_not rfl) ?_
                refine ao1 (by decide) (o_pick_f (v := .bool _) rfl rfl) ?_
                refine ao1 (by decide) (o_move (v := .bool _) rfl) ?_
                refine ao_split rfl rfl (fun hg22 => ?_) (fun hg22 => ?_)
                · refine ao_nF rfl rfl (by decide) ?_
                  refine ao_nF rfl rfl (by decide) ?_
                  refine ao_nF rfl rfl (by decide) ?_
                  refine ao_nF rfl rfl (by decide) ?_
                  refine ao1 (by decide) (o_pick_t (v := .bool _) rfl rfl) ?_
                  refine ao1 (by decide) (o_move (v := .bool _) rfl) ?_
                  refine ao_nF rfl rfl (by decide) ?_
                  refine ao_nF rfl rfl (by decide) ?_
                  refine ao_nF rfl rfl (by decide) ?_
                  refine ao_nF rfl rfl (by decide) ?_
                  refine ao_nF rfl rfl (by decide) ?_
                  refine ao1 (by decide) (o_pick_t (v := .bool _) rfl rfl) ?_
                  exact ao_nil (Out.mk (by (refine congrArg AV.bool ?_; (simp at *; done))) (by repeat (first | exact SubX.refl _ _ | refine SubX.at ?_ | refine SubX.put rfl ?_)))
                · refine ao_y1 rfl rfl (by decide) (w_fieldAddr rfl (lk rfl rfl) rfl (by decide)) ?_
                  refine ao_y1 rfl rfl (by decide) (w_loadN (cs := [_, _, _, _, _, _, _]) rfl (lk rfl rfl) rfl rfl rfl rfl) ?_
                  refine ao_y1 rfl rfl (by decide) (w_loadR rfl (lk rfl rfl) rfl rfl rfl) ?_
                  refine ao_y1 rfl rfl (by decide) (o_neAgg (us := uSpec s) (vs := uSpec s) rfl rfl rfl rfl (by kernel_rfl) (eqSpec_run s s)) ?_
                  refine ao1 (by decide) (o_pick_f (v := .bool _) rfl rfl) ?_
                  refine ao1 (by decide) (o_move (v := .bool _) rfl) ?_
                  refine ao_split rfl rfl (fun hg28 => ?_) (fun hg28 => ?_)
                  · refine ao_nF rfl rfl (by decide) ?_
                    refine ao_nF rfl rfl (by decide) ?_
                    refine ao_nF rfl rfl (by decide) ?_
                    refine ao_nF rfl rfl (by decide) ?_
                    refine ao_nF rfl rfl (by decide) ?_
                    refine ao1 (by decide) (o_pick_t (v := .bool _) rfl rfl) ?_
                    exact ao_nil (Out.mk (by (refine congrArg AV.bool ?_; (simp at *; done))) (by repeat (first | exact SubX.refl _ _ | refine SubX.at ?_ | refine SubX.put rfl ?_)))
                  · refine ao_y1 rfl rfl (by decide) (w_fieldAddr rfl (lk rfl rfl) rfl (by decide)) ?_
                    refine ao_y1 rfl rfl (by decide) (w_load1 (v := .int _ _) rfl (lk rfl rfl) rfl rfl rfl) ?_
                    refine ao_y1 rfl rfl (by decide) (o_move (v := .int _ _) rfl) ?_
                    refine ao_y1 rfl rfl (by decide) (o_conv_int rfl (wrap64_ok (by omega) (by omega))) ?_
                    refine ao_y1 rfl rfl (by decide) (o_ne rfl rfl) ?_
                    refine ao1 (by decide) (o_pick_f (v := .bool _) rfl rfl) ?_
                    exact ao_nil (Out.mk (by (refine congrArg AV.bool ?_; (simp at *; done))) (by repeat (first | exact SubX.refl _ _ | refine SubX.at ?_ | refine SubX.put rfl ?_)))
            · refine ao_nT rfl rfl (by decide) ?_
              refine ao_nT rfl rfl (by decide) ?_
              refine ao_nT rfl rfl (by decide) ?_
              refine ao_nT rfl rfl (by decide) ?_
              refine ao_y1 rfl rfl (by decide) (o_pick_f (v := .bool _) rfl rfl) ?_
              refine ao1 (by decide) (o_pick_f (v := .bool _) rfl rfl) ?_
              refine ao1 (by decide) (o_move (v := .bool _) rfl) ?_
              refine ao_y1 rfl rfl (by decide) (w_loadR rfl (lk rfl rfl) rfl rfl rfl) ?_
              refine ao_y rfl rfl (by decide) (V2.call (cr _) rfl) ?_
              refine ao_y1 rfl rfl (by decide) (o_not rfl) ?_
              refine ao1 (by decide) (o_pick_f (v := .bool _) rfl rfl) ?_
              refine ao1 (by decide) (o_move (v := .bool _) rfl) ?_
              refine ao_split rfl rfl (fun hg22 => ?_) (fun hg22 => ?_)
              · refine ao_nF rfl rfl (by decide) ?_
                refine ao_nF rfl rfl (by decide) ?_
                refine ao_nF rfl rfl (by decide) ?_
                refine ao_nF rfl rfl (by decide) ?_
                refine ao1 (by decide) (o_pick_t (v := .bool _) rfl rfl) ?_
                refine ao1 (by decide) (o_move (v := .bool _) rfl) ?_
                refine ao_nF rfl rfl (by decide) ?_
                refine ao_nF rfl rfl (by decide) ?_
                refine ao_nF rfl rfl (by decide) ?_
                refine ao_nF rfl rfl (by decide) ?_
                refine ao_nF rfl rfl (by decide) ?_
                refine ao1 (by decide) (o_pick_t (v := .bool _) rfl rfl) ?_
                exact ao_nil (Out.mk (by (refine congrArg AV.bool ?_; (simp at *; done))) (by repeat (first | exact SubX.refl _ _ | refine SubX.at ?_ | refine SubX.put rfl ?_)))
              · refine ao_y1 rfl rfl (by decide) (w_fieldAddr rfl (lk rfl rfl) rfl (by decide)) ?_
                refine ao_y1 rfl rfl (by decide) (w_loadN (cs := [_, _, _, _, _, _, _]) rfl (lk rfl rfl) rfl rfl rfl rfl) ?_
                refine ao_y1 rfl rfl (by decide) (w_loadR rfl (lk rfl rfl) rfl rfl rfl) ?_
                refine ao_y1 rfl rfl (by decide) (o_neAgg (us := uSpec s) (vs := uSpec s) rfl rfl rfl rfl (by kernel_rfl) (eqSpec_run s s)) ?_
                refine ao1 (by decide) (o_pick_f (v := .bool _) rfl rfl) ?_
                refine ao1 (by decide) (o_move (v := .bool _) rfl) ?_
                refine ao_split rfl rfl (fun hg28 => ?_) (fun hg28 => ?_)
                · refine ao_nF rfl rfl (by decide) ?_
                  refine ao_nF rfl rfl (by decide) ?_
                  refine ao_nF rfl rfl (by decide) ?_
                  refine ao_nF rfl rfl (by decide) ?_
                  refine ao_nF rfl rfl (by decide) ?_
                  refine ao1 (by decide) (o_pick_t (v := .bool _) rfl rfl) ?_
                  exact ao_nil (Out.mk (by (refine congrArg AV.bool ?_; (simp at *; done))) (by repeat (first | exact SubX.refl _ _ | refine SubX.at ?_ | refine SubX.put rfl ?_)))
                · refine ao_y1 rfl rfl (by decide) (w_fieldAddr rfl (lk rfl rfl) rfl (by decide)) ?_
                  refine ao_y1 rfl rfl (by decide) (w_load1 (v := .int _ _) rfl (lk rfl rfl) rfl rfl rfl) ?_
                  refine ao_y1 rfl rfl (by decide) (o_move (v := .int _ _) rfl) ?_
                  refine ao_y1 rfl rfl (by decide) (o_conv_int rfl (wrap64_ok (by omega) (by omega))) ?_
                  refine ao_y1 rfl rfl (by decide) (o_ne rfl rfl) ?_
                  refine ao1 (by decide) (o_pick_f (v := .bool _) rfl rfl) ?_
                  exact ao_nil (Out.mk (by (refine congrArg AV.bool ?_; (simp at *; done))) (by repeat (first | exact SubX.refl _ _ | refine SubX.at ?_ | refine SubX.put rfl ?_)))
        · refine ao_nT rfl rfl (by decide) ?_
          refine ao_nT rfl rfl (by decide) ?_
          refine ao_nT rfl rfl (by decide) ?_
          refine ao1 (by decide) (o_pick_f (v := .bool _) rfl rfl) ?_
          refine ao1 (by decide) (o_move (v := .bool _) rfl) ?_
          refine ao_y1 rfl rfl (by decide) (o_move (v := .int _ _) rfl) ?_
          refine ao_y1 rfl rfl (by decide) (o_ne rfl rfl) ?_
          refine ao_y1 rfl rfl (by decide) (o_move (v := .bool _) rfl) ?_
          refine ao_split rfl rfl (fun hg10 => ?_) (fun hg10 => ?_)
          · refine ao_y1 rfl rfl (by decide) (w_loadR rfl (lk rfl rfl) rfl rfl rfl) ?_
            refine ao_y1 rfl rfl (by decide) (w_loadR rfl (lk rfl rfl) rfl rfl rfl) ?_
            refine ao_y rfl rfl (by decide) (V2.call (cs _) rfl) ?_
            refine ao_y1 rfl rfl (by decide) (o_not rfl) ?_
            refine ao_y1 rfl rfl (by decide) (o_pick_t (v := .bool _) rfl rfl) ?_
            refine ao1 (by decide) (o_pick_f (v := .bool _) rfl rfl) ?_
            refine ao1 (by decide) (o_move (v := .bool _) rfl) ?_
            refine ao_split rfl rfl (fun hg17 => ?_) (fun hg17 => ?_)
            · refine ao_nF rfl rfl (by decide) ?_
              refine ao_nF rfl rfl (by decide) ?_
              refine ao_nF rfl rfl (by decide) ?_
              refine ao1 (by decide) (o_pick_t (v := .bool _) rfl rfl) ?_
              refine ao1 (by decide) (o_move (v := .bool _) rfl) ?_
              refine ao_nF rfl rfl (by decide) ?_
              refine ao_nF rfl rfl (by decide) ?_
              refine ao_nF rfl rfl (by decide) ?_
              refine ao_nF rfl rfl (by decide) ?_
              refine ao1 (by decide) (o_pick_t (v := .bool _) rfl rfl) ?_
              refine ao1 (by decide) (o_move (v := .bool _) rfl) ?_
              refine ao_nF rfl rfl (by decide) ?_
              refine ao_nF rfl rfl (by decide) ?_
              refine ao_nF rfl rfl (by decide) ?_
              refine ao_nF rfl rfl (by decide) ?_
              refine ao_nF rfl rfl (by decide) ?_
              refine ao1 (by decide) (o_pick_t (v := .bool _) rfl rfl) ?_
              exact ao_nil (Out.mk (by (refine congrArg AV.bool ?_; (simp at *; done))) (by repeat (first | exact SubX.refl _ _ | refine SubX.at ?_ | refine SubX.put rfl ?_)))
            · refine ao_y1 rfl rfl (by decide) (w_loadR rfl (lk rfl rfl) rfl rfl rfl) ?_
              refine ao_y rfl rfl (by decide) (V2.call (cr _) rfl) ?_
              refine ao_y1 rfl rfl (by decide) (o_not rfl) ?_
              refine ao1 (by decide) (o_pick_f (v := .bool _) rfl rfl) ?_
              refine ao1 (by decide) (o_move (v := .bool _) rfl) ?_
              refine ao_split rfl rfl (fun hg22 => ?_) (fun hg22 => ?_)
              · refine ao_nF rfl rfl (by decide) ?_
                refine ao_nF rfl rfl (by decide) ?_
                refine ao_nF rfl rfl (by decide) ?_
                refine ao_nF rfl rfl (by decide) ?_
                refine ao1 (by decide) (o_pick_t (v := .bool _) rfl rfl) ?_
                refine ao1 (by decide) (o_move (v := .bool _) rfl) ?_
                refine ao_nF rfl rfl (by decide) ?_
                refine ao_nF rfl rfl (by decide) ?_
                refine ao_nF rfl rfl (by decide) ?_
                refine ao_nF rfl rfl (by decide) ?_
                refine ao_nF rfl rfl (by decide) ?_
                refine ao1 (by decide) (o_pick_t (v := .bool _) rfl rfl) ?_
                exact ao_nil (Out.mk (by (refine congrArg AV.bool ?_; (simp at *; done))) (by repeat (first | exact SubX.refl _ _ | refine SubX.at ?_ | refine SubX.put rfl ?_)))
              · refine ao_y1 rfl rfl (by decide) (w_fieldAddr rfl (lk rfl rfl) rfl (by decide)) ?_
                refine ao_y1 rfl rfl (by decide) (w_loadN (cs := [_, _, _, _, _, _, _]) rfl (lk rfl rfl) rfl rfl rfl rfl) ?_
                refine ao_y1 rfl rfl (by decide) (w_loadR rfl (lk rfl rfl) rfl rfl rfl) ?_
                refine ao_y1 rfl rfl (by decide) (o_neAgg (us := uSpec s) (vs := uSpec s) rfl rfl rfl rfl (by kernel_rfl) (eqSpec_run s s)) ?_
                refine ao1 (by decide) (o_pick_f (v := .bool _) rfl rfl) ?_
                refine ao1 (by decide) (o_move (v := .bool _) rfl) ?_
                refine ao_split rfl rfl (fun hg28 => ?_) (fun hg28 => ?_)
                · refine ao_nF rfl rfl (by decide) ?_
                  refine ao_nF rfl rfl (by decide) ?_
                  refine ao_nF rfl rfl (by decide) ?_
                  refine ao_nF rfl rfl (by decide) ?_
                  refine ao_nF rfl rfl (by decide) ?_
                  refine ao1 (by decide) (o_pick_t (v := .bool _) rfl rfl) ?_
                  exact ao_nil (Out.mk (by (refine congrArg AV.bool ?_; (simp at *; done))) (by repeat (first | exact SubX.refl _ _ | refine SubX.at ?_ | refine SubX.put rfl ?_)))
                · refine ao_y1 rfl rfl (by decide) (w_fieldAddr rfl (lk rfl rfl) rfl (by decide)) ?_
                  refine ao_y1 rfl rfl (by decide) (w_load1 (v := .int _ _) rfl (lk rfl rfl) rfl rfl rfl) ?_
                  refine ao_y1 rfl rfl (by decide) (o_move (v := .int _ _) rfl) ?_
                  refine ao_y1 rfl rfl (by decide) (o_conv_int rfl (wrap64_ok (by omega) (by omega))) ?_
                  refine ao_y1 rfl rfl (by decide) (o_ne rfl rfl) ?_
                  refine ao1 (by decide) (o_pick_f (v := .bool _) rfl rfl) ?_
                  exact ao_nil (Out.mk (by (refine congrArg AV.bool ?_; (simp [jj] at *; done))) (by repeat (first | exact SubX.refl _ _ | refine SubX.at ?_ | refine SubX.put rfl ?_)))
          · refine ao_nT rfl rfl (by decide) ?_
            refine ao_nT rfl rfl (by decide) ?_
            refine ao_nT rfl rfl (by decide) ?_
            refine ao_nT rfl rfl (by decide) ?_
            refine ao_y1 rfl rfl (by decide) (o_pick_f (v := .bool _) rfl rfl) ?_
            refine ao1 (by decide) (o_pick_f (v := .bool _) rfl rfl) ?_
            refine ao1 (by decide) (o_move (v := .bool _) rfl) ?_
            refine ao_y1 rfl rfl (by decide) (w_loadR rfl (lk rfl rfl) rfl rfl rfl) ?_
            refine ao_y rfl rfl (by decide) (V2.call (cr _) rfl) ?_
            refine ao_y1 rfl rfl (by decide) (o_not rfl) ?_
            refine ao1 (by decide) (o_pick_f (v := .bool _) rfl rfl) ?_
            refine ao1 (by decide) (o_move (v := .bool _) rfl) ?_
            refine ao_split rfl rfl (fun hg22 => ?_) (fun hg22 => ?_)
            · refine ao_nF rfl rfl (by decide) ?_
              refine ao_nF rfl rfl (by decide) ?_
              refine ao_nF rfl rfl (by decide) ?_
              refine ao_nF rfl rfl (by decide) ?_
              refine ao1 (by decide) (o_pick_t (v := .bool _) rfl rfl) ?_
              refine ao1 (by decide) (o_move (v := .bool _) rfl) ?_
              refine ao_nF rfl rfl (by decide) ?_
              refine ao_nF rfl rfl (by decide) ?_
              refine ao_nF rfl rfl (by decide) ?_
              refine ao_nF rfl rfl (by decide) ?_
              refine ao_nF rfl rfl (by decide) ?_
              refine ao1 (by decide) (o_pick_t (v := .bool _) rfl rfl) ?_
              exact ao_nil (Out.mk (by (refine congrArg AV.bool ?_; (simp at *; done))) (by repeat (first | exact SubX.refl _ _ | refine SubX.at ?_ | refine SubX.put rfl ?_)))
            · refine ao_y1 rfl rfl (by decide) (w_fieldAddr rfl (lk rfl rfl) rfl (by decide)) ?_
              refine ao_y1 rfl rfl (by decide) (w_loadN (cs := [_, _, _, _, _, _, _]) rfl (lk rfl rfl) rfl rfl rfl rfl) ?_
              refine ao_y1 rfl rfl (by decide) (w_loadR rfl (lk rfl rfl) rfl rfl rfl) ?_
              refine ao_y1 rfl rfl (by decide) (o_neAgg (us := uSpec s) (vs := uSpec s) rfl rfl rfl rfl (by kernel_rfl) (eqSpec_run s s)) ?_
              refine ao1 (by decide) (o_pick_f (v := .bool _) rfl rfl) ?_
              refine ao1 (by decide) (o_move (v := .bool _) rfl) ?_
              refine ao_split rfl rfl (fun hg28 => ?_) (fun hg28 => ?_)
              · refine ao_nF rfl rfl (by decide) ?_
                refine ao_nF rfl rfl (by decide) ?_
                refine ao_nF rfl rfl (by decide) ?_
                refine ao_nF rfl rfl (by decide) ?_
                refine ao_nF rfl rfl (by decide) ?_
                refine ao1 (by decide) (o_pick_t (v := .bool _) rfl rfl) ?_
                exact ao_nil (Out.mk (by (refine congrArg AV.bool ?_; (simp at *; done))) (by repeat (first | exact SubX.refl _ _ | refine SubX.at ?_ | refine SubX.put rfl ?_)))
              · refine ao_y1 rfl rfl (by decide) (w_fieldAddr rfl (lk rfl rfl) rfl (by decide)) ?_
                refine ao_y1 rfl rfl (by decide) (w_load1 (v := .int _ _) rfl (lk rfl rfl) rfl rfl rfl) ?_
                refine ao_y1 rfl rfl (by decide) (o_move (v := .int _ _) rfl) ?_
                refine ao_y1 rfl rfl (by decide) (o_conv_int rfl (wrap64_ok (by omega) (by omega))) ?_
                refine ao_y1 rfl rfl (by decide) (o_ne rfl rfl) ?_
                refine ao1 (by decide) (o_pick_f (v := .bool _) rfl rfl) ?_
                exact ao_nil (Out.mk (by (refine congrArg AV.bool ?_; (simp at *; done))) (by repeat (first | exact SubX.refl _ _ | refine SubX.at ?_ | refine SubX.put rfl ?_)))
      repeat (refine then_nrm ?_)
      refine aw_cond rfl (fun hc => ?_) (fun hc => ?_)
      · cases hc
      repeat (first | refine then_nrm ?_ | refine aw_seq ?_ | refine aw_skip ?_)
      refine aw_out 110 (.bool false) ?_ ?_
      · refine ao1 (by decide) (o_move (v := .int _ _) rfl) ?_
        refine ao1 (by decide) (o_eq rfl rfl) ?_
        refine ao1 (by decide) (o_move (v := .bool _) rfl) ?_
        refine ao_split rfl rfl (fun hg2 => ?_) (fun hg2 => ?_)
        · refine ao_y1 rfl rfl (by decide) (w_fieldAddr rfl (lk rfl rfl) rfl (by decide)) ?_
          refine ao_y1 rfl rfl (by decide) (w_load1 (v := .int _ _) rfl (lk rfl rfl) rfl rfl rfl) ?_
          refine ao_y1 rfl rfl (by decide) (o_eq rfl rfl) ?_
          refine ao1 (by decide) (o_pick_t (v := .bool _) rfl rfl) ?_
          exact ao_nil (Out.mk (by (refine congrArg AV.bool ?_; (simp at *; done))) (by repeat (first | exact SubX.refl _ _ | refine SubX.at ?_ | refine SubX.put rfl ?_)))
        · refine ao_nT rfl rfl (by decide) ?_
          refine ao_nT rfl rfl (by decide) ?_
          refine ao_nT rfl rfl (by decide) ?_
          refine ao1 (by decide) (o_pick_f (v := .bool _) rfl rfl) ?_
          exact ao_nil (Out.mk (by rfl) (by repeat (first | exact SubX.refl _ _ | refine SubX.at ?_ | refine SubX.put rfl ?_)))
      repeat (refine then_nrm ?_)
      refine aw_cond rfl (fun hc => ?_) (fun hc => ?_)
      · cases hc
      repeat (first | refine then_nrm ?_ | refine aw_seq ?_ | refine aw_skip ?_)
      refine aw_out 136 (.bool false) ?_ ?_
      · refine ao1 (by decide) (w_fieldAddr rfl (lk rfl rfl) rfl (by decide)) ?_
        refine ao1 (by decide) (w_load1 (v := .int _ _) rfl (lk rfl rfl) rfl rfl rfl) ?_
        refine ao_ret (job_Over _ _) rfl (by decide) ?_
        refine ao1 (by decide) (o_move (v := .bool _) rfl) ?_
        refine ao_split rfl rfl (fun hg3 => ?_) (fun hg3 => ?_)
        · refine ao_y1 rfl rfl (by decide) (w_fieldAddr rfl (lk rfl rfl) rfl (by decide)) ?_
          refine ao_y1 rfl rfl (by decide) (w_load1 (v := .int _ _) rfl (lk rfl rfl) rfl rfl rfl) ?_
          refine ao_y rfl rfl (by decide) (V2.call (job_Over _ _) rfl) ?_
          refine ao_y1 rfl rfl (by decide) (o_not rfl) ?_
          refine ao1 (by decide) (o_pick_t (v := .bool _) rfl rfl) ?_
          refine ao1 (by decide) (o_move (v := .bool _) rfl) ?_
          refine ao_split rfl rfl (fun hg9 => ?_) (fun hg9 => ?_)
          · refine ao_y1 rfl rfl (by decide) (w_fieldAddr rfl (lk rfl rfl) rfl (by decide)) ?_
            refine ao_y1 rfl rfl (by decide) (w_load1 (v := .int _ _) rfl (lk rfl rfl) rfl rfl rfl) ?_
            refine ao_y1 rfl rfl (by decide) (o_move (v := .int _ _) rfl) ?_
            refine ao_y1 rfl rfl (by decide) (o_ne rfl rfl) ?_
            refine ao1 (by decide) (o_pick_t (v := .bool _) rfl rfl) ?_
            exact ao_nil (Out.mk (by (refine congrArg AV.bool ?_; ((try simp only [jj] at *); (simp_all; done)))) (by repeat (first | exact SubX.refl _ _ | refine SubX.at ?_ | refine SubX.put rfl ?_)))
          · refine ao_nT rfl rfl (by decide) ?_
            refine ao_nT rfl rfl (by decide) ?_
            refine ao_nT rfl rfl (by decide) ?_
            refine ao_nT rfl rfl (by decide) ?_
            refine ao1 (by decide) (o_pick_f (v := .bool _) rfl rfl) ?_
            exact ao_nil (Out.mk (by rfl) (by repeat (first | exact SubX.refl _ _ | refine SubX.at ?_ | refine SubX.put rfl ?_)))
        · refine ao_nT rfl rfl (by decide) ?_
          refine ao_nT rfl rfl (by decide) ?_
          refine ao_nT rfl rfl (by decide) ?_
          refine ao_nT rfl rfl (by decide) ?_
          refine ao1 (by decide) (o_pick_f (v := .bool _) rfl rfl) ?_
          refine ao1 (by decide) (o_move (v := .bool _) rfl) ?_
          refine ao_nT rfl rfl (by decide) ?_
          refine ao_nT rfl rfl (by decide) ?_
          refine ao_nT rfl rfl (by decide) ?_
          refine ao_nT rfl rfl (by decide) ?_
          refine ao1 (by decide) (o_pick_f (v := .bool _) rfl rfl) ?_
          exact ao_nil (Out.mk (by rfl) (by repeat (first | exact SubX.refl _ _ | refine SubX.at ?_ | refine SubX.put rfl ?_)))
      repeat (refine then_nrm ?_)
      refine aw_cond rfl (fun hc => ?_) (fun hc => ?_)
      · cases hc
      repeat (first | refine then_nrm ?_ | refine aw_skip ?_)
      refine aw_region ?_
      refine ao1 (by decide) (w_loadR rfl (lk rfl rfl) rfl rfl rfl) ?_
      refine ao2 (by rintro _ ⟨⟩) (w_storeW (sz := 13) rfl rfl rfl rfl rfl rfl rfl rfl (Nat.le_of_ble_eq_true rfl)) ?_
      refine ao_nil ?_
      try dsimp only
      repeat (first | refine then_nrm ?_ | refine blk_nrm ?_)
      refine aw_region ?_
      refine ao1 (by decide) (o_move (v := .int _ _) rfl) ?_
      refine ao1 (by decide) (o_add rfl rfl (wrap64_ok (by omega) (by omega))) ?_
      refine ao1 (by decide) (o_assign (v := .int _ _) rfl) ?_
      refine ao_nil ?_
      repeat (refine then_nrm ?_)
      exact ⟨⟨st, f, o, now + x.more, bg, k + 1⟩, by simp only; omega, ⟨⟨hr0, by simp only; omega, by simp only; omega, hbg⟩, by simp only; omega⟩, (by repeat (first | exact Sub.nil | refine Sub.cons (by rfl) ?_)), Fit.loc hB rfl (by repeat (first | exact EBel.nil | refine EBel.cons (by first | rfl | (simp [AV.bel, AV.bels, Lid]; done)) ?_)) (mem0 _ _ _)⟩
    | some t =>
      have hnx' : jnext (jj (d + 1) s came st f o).state x.what = some t := hnx
      have hrn := jstep_right hb hnx'
      have hti := jnext_in hst.1 hnx'
      have htf := jnext_from hnx
      rw [show jdo (jj (d + 1) s came st f o) x.what (now + x.more) = (jstep (jj (d + 1) s came st f o) t (now + x.more), 0) by rw [jdo, if_neg (by rw [hb]; simp), hnx']] at c13
      obtain ⟨f', hf'⟩ : ∃ f', (if t = 2 then now + x.more else f) = f' := ⟨_, rfl⟩
      obtain ⟨o', ho'⟩ : ∃ o', (if jover t then now + x.more else o) = o' := ⟨_, rfl⟩
      have hstep : jstep (jj (d + 1) s came st f o) t (now + x.more) = jj (d + 1) s came t f' o' := by rw [← hf', ← ho']; rfl
      rw [hstep] at c13 hrn
      have cr := fun H => job_Right (jj (d + 1) s came t f' o') H
      rw [hrn] at cr
      have hov : jover st = false := by simp [jover]; omega
      have co := fun H => job_Over st H
      rw [hov] at co
      repeat (first | refine then_nrm ?_ | refine aw_seq ?_)
      refine aw_drawP mixed none 2 ?_
      try dsimp only
      refine aqp 0 rfl (by decide +kernel) (by decide) (fun G => w_loadR rfl (lk rfl rfl) rfl rfl rfl) ?_
      refine aq0 1 rfl (by decide +kernel) (by decide) (fun _ => o_move (v := .pl _) rfl) ?_
      refine aq0 2 rfl (by decide +kernel) (by decide) (fun _ => o_move (v := .int _ _) rfl) ?_
      refine aqp 3 rfl (by decide +kernel) (by decide) (fun G => w_indexAddrpN rfl rfl hr rfl) ?_
      refine aqp 4 rfl (by decide +kernel) (by decide) (fun G => w_fieldAddrp rfl (by decide)) ?_
      refine aqp 5 rfl (by decide +kernel) (by decide) (fun G => o_load1p (v := .int _ _) rfl hr rfl) ?_
      refine aq0 6 rfl (by decide +kernel) (by decide) (fun _ => o_move (v := .int _ _) rfl) ?_
      refine aq02 7 rfl (by decide +kernel) (by decide) (fun _ => V2.call (c13 _) rfl) ?_
      refine aq0 8 rfl (by decide +kernel) (by decide) (fun _ => o_move (v := .tup _) rfl) ?_
      refine aq0 9 rfl (by decide +kernel) (by decide) (fun _ => o_extract (v := .agg _) rfl rfl) ?_
      refine aq0 10 rfl (by decide +kernel) (by decide) (fun _ => o_extract (v := .int _ _) rfl rfl) ?_
      refine aqs 11 rfl (by decide +kernel) (by exact fun _ => ⟨_, rfl⟩) (by rintro _ ⟨⟩; decide) (o_allocL (sz := 13) rfl (by decide) rfl) ?_
      refine aqs 12 rfl (by decide +kernel) (by exact fun _ => ⟨_, rfl⟩) (by rintro _ ⟨⟩) (w_storeW (sz := 13) rfl rfl rfl rfl rfl rfl rfl rfl (Nat.le_of_ble_eq_true rfl)) ?_
      refine aq0 13 rfl (by decide +kernel) (by decide) (fun _ => o_assign (v := .int _ _) rfl) ?_
      refine aa_done (by decide +kernel) (by exact fun _ => ⟨_, rfl⟩) ?_
      try dsimp only
      repeat (first | refine then_nrm ?_ | refine aw_seq ?_)
      refine aw_out 103 (.bool false) ?_ ?_
      · refine ao1 (by decide) (o_move (v := .int _ _) rfl) ?_
        refine ao1 (by decide) (o_eq rfl rfl) ?_
        refine ao1 (by decide) (o_move (v := .bool _) rfl) ?_
        refine ao_split rfl rfl (fun hg2 => ?_) (fun hg2 => ?_)
        · refine ao_y1 rfl rfl (by decide) (w_fieldAddr rfl (lk rfl rfl) rfl (by decide)) ?_
          refine ao_y1 rfl rfl (by decide) (w_load1 (v := .int _ _) rfl (lk rfl rfl) rfl rfl rfl) ?_
          refine ao_y rfl rfl (by decide) (V2.call (co _) rfl) ?_
          refine ao1 (by decide) (o_pick_t (v := .bool _) rfl rfl) ?_
          refine ao1 (by decide) (o_move (v := .bool _) rfl) ?_
          refine ao_split rfl rfl (fun hg7 => ?_) (fun hg7 => ?_)
          · refine ao_nF rfl rfl (by decide) ?_
            refine ao_nF rfl rfl (by decide) ?_
            refine ao_nF rfl rfl (by decide) ?_
            refine ao_nU rfl rfl (by decide) ?_
            refine ao_nU rfl rfl (by decide) ?_
            refine ao_nU rfl rfl (by decide) ?_
            refine ao_nU rfl rfl (by decide) ?_
            refine ao_nF rfl rfl (by decide) ?_
            refine ao1 (by decide) (o_pick_t (v := .bool _) rfl rfl) ?_
            refine ao1 (by decide) (o_move (v := .bool _) rfl) ?_
            refine ao_nF rfl rfl (by decide) ?_
            refine ao_nF rfl rfl (by decide) ?_
            refine ao_nF rfl rfl (by decide) ?_
            refine ao1 (by decide) (o_pick_t (v := .bool _) rfl rfl) ?_
            refine ao1 (by decide) (o_move (v := .bool _) rfl) ?_
            refine ao_nF rfl rfl (by decide) ?_
            refine ao_nF rfl rfl (by decide) ?_
            refine ao_nF rfl rfl (by decide) ?_
            refine ao_nF rfl rfl (by decide) ?_
            refine ao1 (by decide) (o_pick_t (v := .bool _) rfl rfl) ?_
            refine ao1 (by decide) (o_move (v := .bool _) rfl) ?_
            refine ao_nF rfl rfl (by decide) ?_
            refine ao_nF rfl rfl (by decide) ?_
            refine ao_nF rfl rfl (by decide) ?_
            refine ao_nF rfl rfl (by decide) ?_
            refine ao_nF rfl rfl (by decide) ?_
            refine ao1 (by decide) (o_pick_t (v := .bool _) rfl rfl) ?_
            exact ao_nil (Out.mk (by (refine congrArg AV.bool ?_; (simp at *; done))) (by repeat (first | exact SubX.refl _ _ | refine SubX.at ?_ | refine SubX.put rfl ?_)))
          · refine ao_y1 rfl rfl (by decide) (o_move (v := .int _ _) rfl) ?_
            refine ao_y1 rfl rfl (by decide) (o_ne rfl rfl) ?_
            refine ao_y1 rfl rfl (by decide) (o_move (v := .bool _) rfl) ?_
            refine ao_split rfl rfl (fun hg10 => ?_) (fun hg10 => ?_)
            · refine ao_y1 rfl rfl (by decide) (w_loadR rfl (lk rfl rfl) rfl rfl rfl) ?_
              refine ao_y1 rfl rfl (by decide) (w_loadR rfl (lk rfl rfl) rfl rfl rfl) ?_
              refine ao_y rfl rfl (by decide) (V2.call (ref11_Same (jj (d + 1) s came t f' o') (jj (d + 1) s came st f o) _ (by simp [jj])) rfl) ?_
              refine ao_y1 rfl rfl (by decide) (o_not rfl) ?_
              refine ao_y1 rfl rfl (by decide) (o_pick_t (v := .bool _) rfl rfl) ?_
              refine ao1 (by decide) (o_pick_f (v := .bool _) rfl rfl) ?_
              refine ao1 (by decide) (o_move (v := .bool _) rfl) ?_
              refine ao_split rfl rfl (fun hg17 => ?_) (fun hg17 => ?_)
              · refine ao_nF rfl rfl (by decide) ?_
                refine ao_nF rfl rfl (by decide) ?_
                refine ao_nF rfl rfl (by decide) ?_
                refine ao1 (by decide) (o_pick_t (v := .bool _) rfl rfl) ?_
                refine ao1 (by decide) (o_move (v := .bool _) rfl) ?_
                refine ao_nF rfl rfl (by decide) ?_
                refine ao_nF rfl rfl (by decide) ?_
                refine ao_nF rfl rfl (by decide) ?_
                refine ao_nF rfl rfl (by decide) ?_
                refine ao1 (by decide) (o_pick_t (v := .bool _) rfl rfl) ?_
                refine ao1 (by decide) (o_move (v := .bool _) rfl) ?_
                refine ao_nF rfl rfl (by decide) ?_
                refine ao_nF rfl rfl (by decide) ?_
                refine ao_nF rfl rfl (by decide) ?_
                refine ao_nF rfl rfl (by decide) ?_
                refine ao_nF rfl rfl (by decide) ?_
                refine ao1 (by decide) (o_pick_t (v := .bool _) rfl rfl) ?_
                exact ao_nil (Out.mk (by (refine congrArg AV.bool ?_; (simp at *; done))) (by repeat (first | exact SubX.refl _ _ | refine SubX.at ?_ | refine SubX.put rfl ?_)))
              · refine ao_y1 rfl rfl (by decide) (w_loadR rfl (lk rfl rfl) rfl rfl rfl) ?_
                refine ao_y rfl rfl (by decide) (V2.call (cr _) rfl) ?_
                refine ao_y1 rfl rfl (by decide) (o_not rfl) ?_
                refine ao1 (by decide) (o_pick_f (v := .bool _) rfl rfl) ?_
                refine ao1 (by decide) (o_move (v := .bool _) rfl) ?_
                refine ao_split rfl rfl (fun hg22 => ?_) (fun hg22 => ?_)
                · refine ao_nF rfl rfl (by decide) ?_
                  refine ao_nF rfl rfl (by decide) ?_
                  refine ao_nF rfl rfl (by decide) ?_
                  refine ao_nF rfl rfl (by decide) ?_
                  refine ao1 (by decide) (o_pick_t (v := .bool _) rfl rfl) ?_
                  refine ao1 (by decide) (o_move (v := .bool _) rfl) ?_
                  refine ao_nF rfl rfl (by decide) ?_
                  refine ao_nF rfl rfl (by decide) ?_
                  refine ao_nF rfl rfl (by decide) ?_
                  refine ao_nF rfl rfl (by decide) ?_
                  refine ao_nF rfl rfl (by decide) ?_
                  refine ao1 (by decide) (o_pick_t (v := .bool _) rfl rfl) ?_
                  exact ao_nil (Out.mk (by (refine congrArg AV.bool ?_; (simp at *; done))) (by repeat (first | exact SubX.refl _ _ | refine SubX.at ?_ | refine SubX.put rfl ?_)))
                · refine ao_y1 rfl rfl (by decide) (w_fieldAddr rfl (lk rfl rfl) rfl (by decide)) ?_
                  refine ao_y1 rfl rfl (by decide) (w_loadN (cs := [_, _, _, _, _, _, _]) rfl (lk rfl rfl) rfl rfl rfl rfl) ?_
                  refine ao_y1 rfl rfl (by decide) (w_loadR rfl (lk rfl rfl) rfl rfl rfl) ?_
                  refine ao_y1 rfl rfl (by decide) (o_neAgg (us := uSpec s) (vs := uSpec s) rfl rfl rfl rfl (by kernel_rfl) (eqSpec_run s s)) ?_
                  refine ao1 (by decide) (o_pick_f (v := .bool _) rfl rfl) ?_
                  refine ao1 (by decide) (o_move (v := .bool _) rfl) ?_
                  refine ao_split rfl rfl (fun hg28 => ?_) (fun hg28 => ?_)
                  · refine ao_nF rfl rfl (by decide) ?_
                    refine ao_nF rfl rfl (by decide) ?_
                    refine ao_nF rfl rfl (by decide) ?_
                    refine ao_nF rfl rfl (by decide) ?_
                    refine ao_nF rfl rfl (by decide) ?_
                    refine ao1 (by decide) (o_pick_t (v := .bool _) rfl rfl) ?_
                    exact ao_nil (Out.mk (by (refine congrArg AV.bool ?_; (simp at *; done))) (by repeat (first | exact SubX.refl _ _ | refine SubX.at ?_ | refine SubX.put rfl ?_)))
                  · refine ao_y1 rfl rfl (by decide) (w_fieldAddr rfl (lk rfl rfl) rfl (by decide)) ?_
                    refine ao_y1 rfl rfl (by decide) (w_load1 (v := .int _ _) rfl (lk rfl rfl) rfl rfl rfl) ?_
                    refine ao_y1 rfl rfl (by decide) (o_move (v := .int _ _) rfl) ?_
                    refine ao_y1 rfl rfl (by decide) (o_conv_int rfl (wrap64_ok (by omega) (by omega))) ?_
                    refine ao_y1 rfl rfl (by decide) (o_ne rfl rfl) ?_
                    refine ao1 (by decide) (o_pick_f (v := .bool _) rfl rfl) ?_
                    exact ao_nil (Out.mk (by (refine congrArg AV.bool ?_; (simp at *; done))) (by repeat (first | exact SubX.refl _ _ | refine SubX.at ?_ | refine SubX.put rfl ?_)))
            · refine ao_nT rfl rfl (by decide) ?_
              refine ao_nT rfl rfl (by decide) ?_
              refine ao_nT rfl rfl (by decide) ?_
              refine ao_nT rfl rfl (by decide) ?_
              refine ao_y1 rfl rfl (by decide) (o_pick_f (v := .bool _) rfl rfl) ?_
              refine ao1 (by decide) (o_pick_f (v := .bool _) rfl rfl) ?_
              refine ao1 (by decide) (o_move (v := .bool _) rfl) ?_
              refine ao_y1 rfl rfl (by decide) (w_loadR rfl (lk rfl rfl) rfl rfl rfl) ?_
              refine ao_y rfl rfl (by decide) (V2.call (cr _) rfl) ?_
              refine ao_y1 rfl rfl (by decide) (o_not rfl) ?_
              refine ao1 (by decide) (o_pick_f (v := .bool _) rfl rfl) ?_
              refine ao1 (by decide) (o_move (v := .bool _) rfl) ?_
              refine ao_split rfl rfl (fun hg22 => ?_) (fun hg22 => ?_)
              · refine ao_nF rfl rfl (by decide) ?_
                refine ao_nF rfl rfl (by decide) ?_
                refine ao_nF rfl rfl (by decide) ?_
                refine ao_nF rfl rfl (by decide) ?_
                refine ao1 (by decide) (o_pick_t (v := .bool _) rfl rfl) ?_
                refine ao1 (by decide) (o_move (v := .bool _) rfl) ?_
                refine ao_nF rfl rfl (by decide) ?_
                refine ao_nF rfl rfl (by decide) ?_
                refine ao_nF rfl rfl (by decide) ?_
                refine ao_nF rfl rfl (by decide) ?_
                refine ao_nF rfl rfl (by decide) ?_
                refine ao1 (by decide) (o_pick_t (v := .bool _) rfl rfl) ?_
                exact ao_nil (Out.mk (by (refine congrArg AV.bool ?_; (simp at *; done))) (by repeat (first | exact SubX.refl _ _ | refine SubX.at ?_ | refine SubX.put rfl ?_)))
              · refine ao_y1 rfl rfl (by decide) (w_fieldAddr rfl (lk rfl rfl) rfl (by decide)) ?_
                refine ao_y1 rfl rfl (by decide) (w_loadN (cs := [_, _, _, _, _, _, _]) rfl (lk rfl rfl) rfl rfl rfl rfl) ?_
                refine ao_y1 rfl rfl (by decide) (w_loadR rfl (lk rfl rfl) rfl rfl rfl) ?_
                refine ao_y1 rfl rfl (by decide) (o_neAgg (us := uSpec s) (vs := uSpec s) rfl rfl rfl rfl (by kernel_rfl) (eqSpec_run s s)) ?_
                refine ao1 (by decide) (o_pick_f (v := .bool _) rfl rfl) ?_
                refine ao1 (by decide) (o_move (v := .bool _) rfl) ?_
                refine ao_split rfl rfl (fun hg28 => ?_) (fun hg28 => ?_)
                · refine ao_nF rfl rfl (by decide) ?_
                  refine ao_nF rfl rfl (by decide) ?_
                  refine ao_nF rfl rfl (by decide) ?_
                  refine ao_nF rfl rfl (by decide) ?_
                  refine ao_nF rfl rfl (by decide) ?_
                  refine ao1 (by decide) (o_pick_t (v := .bool _) rfl rfl) ?_
                  exact ao_nil (Out.mk (by (refine congrArg AV.bool ?_; (simp at *; done))) (by repeat (first | exact SubX.refl _ _ | refine SubX.at ?_ | refine SubX.put rfl ?_)))
                · refine ao_y1 rfl rfl (by decide) (w_fieldAddr rfl (lk rfl rfl) rfl (by decide)) ?_
                  refine ao_y1 rfl rfl (by decide) (w_load1 (v := .int _ _) rfl (lk rfl rfl) rfl rfl rfl) ?_
                  refine ao_y1 rfl rfl (by decide) (o_move (v := .int _ _) rfl) ?_
                  refine ao_y1 rfl rfl (by decide) (o_conv_int rfl (wrap64_ok (by omega) (by omega))) ?_
                  refine ao_y1 rfl rfl (by decide) (o_ne rfl rfl) ?_
                  refine ao1 (by decide) (o_pick_f (v := .bool _) rfl rfl) ?_
                  exact ao_nil (Out.mk (by (refine congrArg AV.bool ?_; (simp [jj] at *; done))) (by repeat (first | exact SubX.refl _ _ | refine SubX.at ?_ | refine SubX.put rfl ?_)))
        · refine ao_nT rfl rfl (by decide) ?_
          refine ao_nT rfl rfl (by decide) ?_
          refine ao_nT rfl rfl (by decide) ?_
          refine ao1 (by decide) (o_pick_f (v := .bool _) rfl rfl) ?_
          refine ao1 (by decide) (o_move (v := .bool _) rfl) ?_
          refine ao_y1 rfl rfl (by decide) (o_move (v := .int _ _) rfl) ?_
          refine ao_y1 rfl rfl (by decide) (o_ne rfl rfl) ?_
          refine ao_y1 rfl rfl (by decide) (o_move (v := .bool _) rfl) ?_
          refine ao_split rfl rfl (fun hg10 => ?_) (fun hg10 => ?_)
          · refine ao_y1 rfl rfl (by decide) (w_loadR rfl (lk rfl rfl) rfl rfl rfl) ?_
            refine ao_y1 rfl rfl (by decide) (w_loadR rfl (lk rfl rfl) rfl rfl rfl) ?_
            refine ao_y rfl rfl (by decide) (V2.call (ref11_Same (jj (d + 1) s came t f' o') (jj (d + 1) s came st f o) _ (by simp [jj])) rfl) ?_
            refine ao_y1 rfl rfl (by decide) (o_not rfl) ?_
            refine ao_y1 rfl rfl (by decide) (o_pick_t (v := .bool _) rfl rfl) ?_
            refine ao1 (by decide) (o_pick_f (v := .bool _) rfl rfl) ?_
            refine ao1 (by decide) (o_move (v := .bool _) rfl) ?_
            refine ao_split rfl rfl (fun hg17 => ?_) (fun hg17 => ?_)
            · refine ao_nF rfl rfl (by decide) ?_
              refine ao_nF rfl rfl (by decide) ?_
              refine ao_nF rfl rfl (by decide) ?_
              refine ao1 (by decide) (o_pick_t (v := .bool _) rfl rfl) ?_
              refine ao1 (by decide) (o_move (v := .bool _) rfl) ?_
              refine ao_nF rfl rfl (by decide) ?_
              refine ao_nF rfl rfl (by decide) ?_
              refine ao_nF rfl rfl (by decide) ?_
              refine ao_nF rfl rfl (by decide) ?_
              refine ao1 (by decide) (o_pick_t (v := .bool _) rfl rfl) ?_
              refine ao1 (by decide) (o_move (v := .bool _) rfl) ?_
              refine ao_nF rfl rfl (by decide) ?_
              refine ao_nF rfl rfl (by decide) ?_
              refine ao_nF rfl rfl (by decide) ?_
              refine ao_nF rfl rfl (by decide) ?_
              refine ao_nF rfl rfl (by decide) ?_
              refine ao1 (by decide) (o_pick_t (v := .bool _) rfl rfl) ?_
              exact ao_nil (Out.mk (by (refine congrArg AV.bool ?_; (simp at *; done))) (by repeat (first | exact SubX.refl _ _ | refine SubX.at ?_ | refine SubX.put rfl ?_)))
            · refine ao_y1 rfl rfl (by decide) (w_loadR rfl (lk rfl rfl) rfl rfl rfl) ?_
              refine ao_y rfl rfl (by decide) (V2.call (cr _) rfl) ?_
              refine ao_y1 rfl rfl (by decide) (o_not rfl) ?_
              refine ao1 (by decide) (o_pick_f (v := .bool _) rfl rfl) ?_
              refine ao1 (by decide) (o_move (v := .bool _) rfl) ?_
              refine ao_split rfl rfl (fun hg22 => ?_) (fun hg22 => ?_)
              · refine ao_nF rfl rfl (by decide) ?_
                refine ao_nF rfl rfl (by decide) ?_
                refine ao_nF rfl rfl (by decide) ?_
                refine ao_nF rfl rfl (by decide) ?_
                refine ao1 (by decide) (o_pick_t (v := .bool _) rfl rfl) ?_
                refine ao1 (by decide) (o_move (v := .bool _) rfl) ?_
                refine ao_nF rfl rfl (by decide) ?_
                refine ao_nF rfl rfl (by decide) ?_
                refine ao_nF rfl rfl (by decide) ?_
                refine ao_nF rfl rfl (by decide) ?_
                refine ao_nF rfl rfl (by decide) ?_
                refine ao1 (by decide) (o_pick_t (v := .bool _) rfl rfl) ?_
                exact ao_nil (Out.mk (by (refine congrArg AV.bool ?_; (simp at *; done))) (by repeat (first | exact SubX.refl _ _ | refine SubX.at ?_ | refine SubX.put rfl ?_)))
              · refine ao_y1 rfl rfl (by decide) (w_fieldAddr rfl (lk rfl rfl) rfl (by decide)) ?_
                refine ao_y1 rfl rfl (by decide) (w_loadN (cs := [_, _, _, _, _, _, _]) rfl (lk rfl rfl) rfl rfl rfl rfl) ?_
                refine ao_y1 rfl rfl (by decide) (w_loadR rfl (lk rfl rfl) rfl rfl rfl) ?_
                refine ao_y1 rfl rfl (by decide) (o_neAgg (us := uSpec s) (vs := uSpec s) rfl rfl rfl rfl (by kernel_rfl) (eqSpec_run s s)) ?_
                refine ao1 (by decide) (o_pick_f (v := .bool _) rfl rfl) ?_
                refine ao1 (by decide) (o_move (v := .bool _) rfl) ?_
                refine ao_split rfl rfl (fun hg28 => ?_) (fun hg28 => ?_)
                · refine ao_nF rfl rfl (by decide) ?_
                  refine ao_nF rfl rfl (by decide) ?_
                  refine ao_nF rfl rfl (by decide) ?_
                  refine ao_nF rfl rfl (by decide) ?_
                  refine ao_nF rfl rfl (by decide) ?_
                  refine ao1 (by decide) (o_pick_t (v := .bool _) rfl rfl) ?_
                  exact ao_nil (Out.mk (by (refine congrArg AV.bool ?_; (simp at *; done))) (by repeat (first | exact SubX.refl _ _ | refine SubX.at ?_ | refine SubX.put rfl ?_)))
                · refine ao_y1 rfl rfl (by decide) (w_fieldAddr rfl (lk rfl rfl) rfl (by decide)) ?_
                  refine ao_y1 rfl rfl (by decide) (w_load1 (v := .int _ _) rfl (lk rfl rfl) rfl rfl rfl) ?_
                  refine ao_y1 rfl rfl (by decide) (o_move (v := .int _ _) rfl) ?_
                  refine ao_y1 rfl rfl (by decide) (o_conv_int rfl (wrap64_ok (by omega) (by omega))) ?_
                  refine ao_y1 rfl rfl (by decide) (o_ne rfl rfl) ?_
                  refine ao1 (by decide) (o_pick_f (v := .bool _) rfl rfl) ?_
                  exact ao_nil (Out.mk (by (refine congrArg AV.bool ?_; (simp at *; done))) (by repeat (first | exact SubX.refl _ _ | refine SubX.at ?_ | refine SubX.put rfl ?_)))
          · refine ao_nT rfl rfl (by decide) ?_
            refine ao_nT rfl rfl (by decide) ?_
            refine ao_nT rfl rfl (by decide) ?_
            refine ao_nT rfl rfl (by decide) ?_
            refine ao_y1 rfl rfl (by decide) (o_pick_f (v := .bool _) rfl rfl) ?_
            refine ao1 (by decide) (o_pick_f (v := .bool _) rfl rfl) ?_
            refine ao1 (by decide) (o_move (v := .bool _) rfl) ?_
            refine ao_y1 rfl rfl (by decide) (w_loadR rfl (lk rfl rfl) rfl rfl rfl) ?_
            refine ao_y rfl rfl (by decide) (V2.call (cr _) rfl) ?_
            refine ao_y1 rfl rfl (by decide) (o_not rfl) ?_
            refine ao1 (by decide) (o_pick_f (v := .bool _) rfl rfl) ?_
            refine ao1 (by decide) (o_move (v := .bool _) rfl) ?_
            refine ao_split rfl rfl (fun hg22 => ?_) (fun hg22 => ?_)
            · refine ao_nF rfl rfl (by decide) ?_
              refine ao_nF rfl rfl (by decide) ?_
              refine ao_nF rfl rfl (by decide) ?_
              refine ao_nF rfl rfl (by decide) ?_
              refine ao1 (by decide) (o_pick_t (v := .bool _) rfl rfl) ?_
              refine ao1 (by decide) (o_move (v := .bool _) rfl) ?_
              refine ao_nF rfl rfl (by decide) ?_
              refine ao_nF rfl rfl (by decide) ?_
              refine ao_nF rfl rfl (by decide) ?_
              refine ao_nF rfl rfl (by decide) ?_
              refine ao_nF rfl rfl (by decide) ?_
              refine ao1 (by decide) (o_pick_t (v := .bool _) rfl rfl) ?_
              exact ao_nil (Out.mk (by (refine congrArg AV.bool ?_; (simp at *; done))) (by repeat (first | exact SubX.refl _ _ | refine SubX.at ?_ | refine SubX.put rfl ?_)))
            · refine ao_y1 rfl rfl (by decide) (w_fieldAddr rfl (lk rfl rfl) rfl (by decide)) ?_
              refine ao_y1 rfl rfl (by decide) (w_loadN (cs := [_, _, _, _, _, _, _]) rfl (lk rfl rfl) rfl rfl rfl rfl) ?_
              refine ao_y1 rfl rfl (by decide) (w_loadR rfl (lk rfl rfl) rfl rfl rfl) ?_
              refine ao_y1 rfl rfl (by decide) (o_neAgg (us := uSpec s) (vs := uSpec s) rfl rfl rfl rfl (by kernel_rfl) (eqSpec_run s s)) ?_
              refine ao1 (by decide) (o_pick_f (v := .bool _) rfl rfl) ?_
              refine ao1 (by decide) (o_move (v := .bool _) rfl) ?_
              refine ao_split rfl rfl (fun hg28 => ?_) (fun hg28 => ?_)
              · refine ao_nF rfl rfl (by decide) ?_
                refine ao_nF rfl rfl (by decide) ?_
                refine ao_nF rfl rfl (by decide) ?_
                refine ao_nF rfl rfl (by decide) ?_
                refine ao_nF rfl rfl (by decide) ?_
                refine ao1 (by decide) (o_pick_t (v := .bool _) rfl rfl) ?_
                exact ao_nil (Out.mk (by (refine congrArg AV.bool ?_; (simp at *; done))) (by repeat (first | exact SubX.refl _ _ | refine SubX.at ?_ | refine SubX.put rfl ?_)))
              · refine ao_y1 rfl rfl (by decide) (w_fieldAddr rfl (lk rfl rfl) rfl (by decide)) ?_
                refine ao_y1 rfl rfl (by decide) (w_load1 (v := .int _ _) rfl (lk rfl rfl) rfl rfl rfl) ?_
                refine ao_y1 rfl rfl (by decide) (o_move (v := .int _ _) rfl) ?_
                refine ao_y1 rfl rfl (by decide) (o_conv_int rfl (wrap64_ok (by omega) (by omega))) ?_
                refine ao_y1 rfl rfl (by decide) (o_ne rfl rfl) ?_
                refine ao1 (by decide) (o_pick_f (v := .bool _) rfl rfl) ?_
                exact ao_nil (Out.mk (by (refine congrArg AV.bool ?_; (simp at *; done))) (by repeat (first | exact SubX.refl _ _ | refine SubX.at ?_ | refine SubX.put rfl ?_)))
      repeat (refine then_nrm ?_)
      refine aw_cond rfl (fun hc => ?_) (fun hc => ?_)
      · cases hc
      repeat (first | refine then_nrm ?_ | refine aw_seq ?_ | refine aw_skip ?_)
      refine aw_out 110 (.bool (decide (t = 2))) ?_ ?_
      · refine ao1 (by decide) (o_move (v := .int _ _) rfl) ?_
        refine ao1 (by decide) (o_eq rfl rfl) ?_
        refine ao1 (by decide) (o_move (v := .bool _) rfl) ?_
        refine ao_split rfl rfl (fun hg2 => ?_) (fun hg2 => ?_)
        · refine ao_y1 rfl rfl (by decide) (w_fieldAddr rfl (lk rfl rfl) rfl (by decide)) ?_
          refine ao_y1 rfl rfl (by decide) (w_load1 (v := .int _ _) rfl (lk rfl rfl) rfl rfl rfl) ?_
          refine ao_y1 rfl rfl (by decide) (o_eq rfl rfl) ?_
          refine ao1 (by decide) (o_pick_t (v := .bool _) rfl rfl) ?_
          exact ao_nil (Out.mk (by rfl) (by repeat (first | exact SubX.refl _ _ | refine SubX.at ?_ | refine SubX.put rfl ?_)))
        · refine ao_nT rfl rfl (by decide) ?_
          refine ao_nT rfl rfl (by decide) ?_
          refine ao_nT rfl rfl (by decide) ?_
          refine ao1 (by decide) (o_pick_f (v := .bool _) rfl rfl) ?_
          exact ao_nil (Out.mk (by (refine congrArg AV.bool ?_; ((try simp only [jj] at *); (simp at *; done)))) (by repeat (first | exact SubX.refl _ _ | refine SubX.at ?_ | refine SubX.put rfl ?_)))
      repeat (refine then_nrm ?_)
      refine aw_cond rfl (fun hc => ?_) (fun hc => ?_)
      · have ht2 : t = 2 := by simpa using hc
        have hf2 : f' = now + x.more := by rw [← hf', if_pos ht2]
        have hs0 : st = 0 := htf.2.1 ht2
        have hbg0 : bg = 0 := by omega
        repeat (refine aw_seq ?_)
        refine aw_region ?_
        refine ao1 (by decide) (o_move (v := .int _ _) rfl) ?_
        refine ao1 (by decide) (o_add rfl rfl (wrap64_ok (by omega) (by omega))) ?_
        refine ao1 (by decide) (o_assign (v := .int _ _) rfl) ?_
        refine ao_nil ?_
        repeat (first | refine then_nrm ?_ | refine aw_seq ?_)
        refine aw_out 121 (.bool false) ?_ ?_
        · refine ao1 (by decide) (w_fieldAddr rfl (lk rfl rfl) rfl (by decide)) ?_
          refine ao1 (by decide) (w_load1 (v := .int _ _) rfl (lk rfl rfl) rfl rfl rfl) ?_
          refine ao1 (by decide) (o_ne rfl rfl) ?_
          refine ao1 (by decide) (o_move (v := .bool _) rfl) ?_
          refine ao_split rfl rfl (fun hg3 => ?_) (fun hg3 => ?_)
          · refine ao_nF rfl rfl (by decide) ?_
            refine ao_nF rfl rfl (by decide) ?_
            refine ao_nF rfl rfl (by decide) ?_
            refine ao_nF rfl rfl (by decide) ?_
            refine ao1 (by decide) (o_pick_t (v := .bool _) rfl rfl) ?_
            exact ao_nil (Out.mk (by (refine congrArg AV.bool ?_; ((try simp only [jj] at *); (simp_all; done)))) (by repeat (first | exact SubX.refl _ _ | refine SubX.at ?_ | refine SubX.put rfl ?_)))
          · refine ao_y1 rfl rfl (by decide) (w_fieldAddr rfl (lk rfl rfl) rfl (by decide)) ?_
            refine ao_y1 rfl rfl (by decide) (w_load1 (v := .int _ _) rfl (lk rfl rfl) rfl rfl rfl) ?_
            refine ao_y1 rfl rfl (by decide) (o_move (v := .int _ _) rfl) ?_
            refine ao_y1 rfl rfl (by decide) (o_ne rfl rfl) ?_
            refine ao1 (by decide) (o_pick_f (v := .bool _) rfl rfl) ?_
            exact ao_nil (Out.mk (by (refine congrArg AV.bool ?_; ((try simp only [jj] at *); (simp_all; done)))) (by repeat (first | exact SubX.refl _ _ | refine SubX.at ?_ | refine SubX.put rfl ?_)))
        repeat (refine then_nrm ?_)
        refine aw_cond rfl (fun hc => ?_) (fun hc => ?_)
        · cases hc
        repeat (first | refine then_nrm ?_ | refine aw_seq ?_ | refine aw_skip ?_)
        refine aw_out 136 (.bool false) ?_ ?_
        · refine ao1 (by decide) (w_fieldAddr rfl (lk rfl rfl) rfl (by decide)) ?_
          refine ao1 (by decide) (w_load1 (v := .int _ _) rfl (lk rfl rfl) rfl rfl rfl) ?_
          refine ao_ret (job_Over _ _) rfl (by decide) ?_
          refine ao1 (by decide) (o_move (v := .bool _) rfl) ?_
          refine ao_split rfl rfl (fun hg3 => ?_) (fun hg3 => ?_)
          · refine ao_y1 rfl rfl (by decide) (w_fieldAddr rfl (lk rfl rfl) rfl (by decide)) ?_
            refine ao_y1 rfl rfl (by decide) (w_load1 (v := .int _ _) rfl (lk rfl rfl) rfl rfl rfl) ?_
            refine ao_y rfl rfl (by decide) (V2.call (co _) rfl) ?_
            refine ao_y1 rfl rfl (by decide) (o_not rfl) ?_
            refine ao1 (by decide) (o_pick_t (v := .bool _) rfl rfl) ?_
            refine ao1 (by decide) (o_move (v := .bool _) rfl) ?_
            refine ao_split rfl rfl (fun hg9 => ?_) (fun hg9 => ?_)
            · refine ao_y1 rfl rfl (by decide) (w_fieldAddr rfl (lk rfl rfl) rfl (by decide)) ?_
              refine ao_y1 rfl rfl (by decide) (w_load1 (v := .int _ _) rfl (lk rfl rfl) rfl rfl rfl) ?_
              refine ao_y1 rfl rfl (by decide) (o_move (v := .int _ _) rfl) ?_
              refine ao_y1 rfl rfl (by decide) (o_ne rfl rfl) ?_
              refine ao1 (by decide) (o_pick_t (v := .bool _) rfl rfl) ?_
              exact ao_nil (Out.mk (by (refine congrArg AV.bool ?_; ((try simp only [jj, jover] at *); (simp_all; done)))) (by repeat (first | exact SubX.refl _ _ | refine SubX.at ?_ | refine SubX.put rfl ?_)))
            · refine ao_nT rfl rfl (by decide) ?_
              refine ao_nT rfl rfl (by decide) ?_
              refine ao_nT rfl rfl (by decide) ?_
              refine ao_nT rfl rfl (by decide) ?_
              refine ao1 (by decide) (o_pick_f (v := .bool _) rfl rfl) ?_
              exact ao_nil (Out.mk (by rfl) (by repeat (first | exact SubX.refl _ _ | refine SubX.at ?_ | refine SubX.put rfl ?_)))
          · refine ao_nT rfl rfl (by decide) ?_
            refine ao_nT rfl rfl (by decide) ?_
            refine ao_nT rfl rfl (by decide) ?_
            refine ao_nT rfl rfl (by decide) ?_
            refine ao1 (by decide) (o_pick_f (v := .bool _) rfl rfl) ?_
            refine ao1 (by decide) (o_move (v := .bool _) rfl) ?_
            refine ao_nT rfl rfl (by decide) ?_
            refine ao_nT rfl rfl (by decide) ?_
            refine ao_nT rfl rfl (by decide) ?_
            refine ao_nT rfl rfl (by decide) ?_
            refine ao1 (by decide) (o_pick_f (v := .bool _) rfl rfl) ?_
            exact ao_nil (Out.mk (by rfl) (by repeat (first | exact SubX.refl _ _ | refine SubX.at ?_ | refine SubX.put rfl ?_)))
        repeat (refine then_nrm ?_)
        refine aw_cond rfl (fun hc => ?_) (fun hc => ?_)
        · cases hc
        repeat (first | refine then_nrm ?_ | refine aw_skip ?_)
        refine aw_region ?_
        refine ao1 (by decide) (w_loadR rfl (lk rfl rfl) rfl rfl rfl) ?_
        refine ao2 (by rintro _ ⟨⟩) (w_storeW (sz := 13) rfl rfl rfl rfl rfl rfl rfl rfl (Nat.le_of_ble_eq_true rfl)) ?_
        refine ao_nil ?_
        try dsimp only
        repeat (first | refine then_nrm ?_ | refine blk_nrm ?_)
        refine aw_region ?_
        refine ao1 (by decide) (o_move (v := .int _ _) rfl) ?_
        refine ao1 (by decide) (o_add rfl rfl (wrap64_ok (by omega) (by omega))) ?_
        refine ao1 (by decide) (o_assign (v := .int _ _) rfl) ?_
        refine ao_nil ?_
        repeat (refine then_nrm ?_)
        exact ⟨⟨t, f', o', now + x.more, bg + 1, k + 1⟩, by simp only; omega, ⟨⟨hrn, by simp only; omega, by simp only; omega, .inr (by simp only; omega)⟩, by simp only; omega⟩, (by repeat (first | exact Sub.nil | refine Sub.cons (by rfl) ?_)), Fit.loc hB rfl (by repeat (first | exact EBel.nil | refine EBel.cons (by first | rfl | (simp [AV.bel, AV.bels, Lid]; done)) ?_)) (mem0 _ _ _)⟩
      · have ht2 : ¬ t = 2 := by simpa using hc
        have ho2 : jover t = true → o' = now + x.more := by intro h; rw [← ho', if_pos h]
        repeat (first | refine then_nrm ?_ | refine aw_seq ?_ | refine aw_skip ?_)
        refine aw_out 136 (.bool false) ?_ ?_
        · refine ao1 (by decide) (w_fieldAddr rfl (lk rfl rfl) rfl (by decide)) ?_
          refine ao1 (by decide) (w_load1 (v := .int _ _) rfl (lk rfl rfl) rfl rfl rfl) ?_
          refine ao_ret (job_Over _ _) rfl (by decide) ?_
          refine ao1 (by decide) (o_move (v := .bool _) rfl) ?_
          refine ao_split rfl rfl (fun hg3 => ?_) (fun hg3 => ?_)
          · refine ao_y1 rfl rfl (by decide) (w_fieldAddr rfl (lk rfl rfl) rfl (by decide)) ?_
            refine ao_y1 rfl rfl (by decide) (w_load1 (v := .int _ _) rfl (lk rfl rfl) rfl rfl rfl) ?_
            refine ao_y rfl rfl (by decide) (V2.call (co _) rfl) ?_
            refine ao_y1 rfl rfl (by decide) (o_not rfl) ?_
            refine ao1 (by decide) (o_pick_t (v := .bool _) rfl rfl) ?_
            refine ao1 (by decide) (o_move (v := .bool _) rfl) ?_
            refine ao_split rfl rfl (fun hg9 => ?_) (fun hg9 => ?_)
            · refine ao_y1 rfl rfl (by decide) (w_fieldAddr rfl (lk rfl rfl) rfl (by decide)) ?_
              refine ao_y1 rfl rfl (by decide) (w_load1 (v := .int _ _) rfl (lk rfl rfl) rfl rfl rfl) ?_
              refine ao_y1 rfl rfl (by decide) (o_move (v := .int _ _) rfl) ?_
              refine ao_y1 rfl rfl (by decide) (o_ne rfl rfl) ?_
              refine ao1 (by decide) (o_pick_t (v := .bool _) rfl rfl) ?_
              exact ao_nil (Out.mk (by (refine congrArg AV.bool ?_; ((try simp only [jj] at *); (simp_all; done)))) (by repeat (first | exact SubX.refl _ _ | refine SubX.at ?_ | refine SubX.put rfl ?_)))
            · refine ao_nT rfl rfl (by decide) ?_
              refine ao_nT rfl rfl (by decide) ?_
              refine ao_nT rfl rfl (by decide) ?_
              refine ao_nT rfl rfl (by decide) ?_
              refine ao1 (by decide) (o_pick_f (v := .bool _) rfl rfl) ?_
              exact ao_nil (Out.mk (by rfl) (by repeat (first | exact SubX.refl _ _ | refine SubX.at ?_ | refine SubX.put rfl ?_)))
          · refine ao_nT rfl rfl (by decide) ?_
            refine ao_nT rfl rfl (by decide) ?_
            refine ao_nT rfl rfl (by decide) ?_
            refine ao_nT rfl rfl (by decide) ?_
            refine ao1 (by decide) (o_pick_f (v := .bool _) rfl rfl) ?_
            refine ao1 (by decide) (o_move (v := .bool _) rfl) ?_
            refine ao_nT rfl rfl (by decide) ?_
            refine ao_nT rfl rfl (by decide) ?_
            refine ao_nT rfl rfl (by decide) ?_
            refine ao_nT rfl rfl (by decide) ?_
            refine ao1 (by decide) (o_pick_f (v := .bool _) rfl rfl) ?_
            exact ao_nil (Out.mk (by rfl) (by repeat (first | exact SubX.refl _ _ | refine SubX.at ?_ | refine SubX.put rfl ?_)))
        repeat (refine then_nrm ?_)
        refine aw_cond rfl (fun hc => ?_) (fun hc => ?_)
        · cases hc
        repeat (first | refine then_nrm ?_ | refine aw_skip ?_)
        refine aw_region ?_
        refine ao1 (by decide) (w_loadR rfl (lk rfl rfl) rfl rfl rfl) ?_
        refine ao2 (by rintro _ ⟨⟩) (w_storeW (sz := 13) rfl rfl rfl rfl rfl rfl rfl rfl (Nat.le_of_ble_eq_true rfl)) ?_
        refine ao_nil ?_
        try dsimp only
        repeat (first | refine then_nrm ?_ | refine blk_nrm ?_)
        refine aw_region ?_
        refine ao1 (by decide) (o_move (v := .int _ _) rfl) ?_
        refine ao1 (by decide) (o_add rfl rfl (wrap64_ok (by omega) (by omega))) ?_
        refine ao1 (by decide) (o_assign (v := .int _ _) rfl) ?_
        refine ao_nil ?_
        repeat (refine then_nrm ?_)
        exact ⟨⟨t, f', o', now + x.more, bg, k + 1⟩, by simp only; omega, ⟨⟨hrn, by simp only; omega, by simp only; omega, by simp only; omega⟩, by simp only; omega⟩, (by repeat (first | exact Sub.nil | refine Sub.cons (by rfl) ?_)), Fit.loc hB rfl (by repeat (first | exact EBel.nil | refine EBel.cons (by first | rfl | (simp [AV.bel, AV.bels, Lid]; done)) ?_)) (mem0 _ _ _)⟩
  · repeat (first | refine then_nrm ?_ | refine then_brk ?_ | refine blk_hit ?_ | refine aw_seq ?_ | refine aw_exit ?_)
    refine aw_out 8 (.bool true) ?_ ?_
    · refine ao1 (by decide) (o_move (v := .int _ _) rfl) ?_
      refine ao1 (by decide) (o_le rfl rfl) ?_
      refine ao1 (by decide) (o_move (v := .bool _) rfl) ?_
      refine ao_split rfl rfl (fun hg2 => ?_) (fun hg2 => ?_)
      · refine ao_y1 rfl rfl (by decide) (o_move (v := .int _ _) rfl) ?_
        refine ao_y1 rfl rfl (by decide) (o_eq rfl rfl) ?_
        refine ao_y1 rfl rfl (by decide) (o_move (v := .bool _) rfl) ?_
        refine ao_split rfl rfl (fun hg5 => ?_) (fun hg5 => ?_)
        · refine ao_nF rfl rfl (by decide) ?_
          refine ao_nF rfl rfl (by decide) ?_
          refine ao_nF rfl rfl (by decide) ?_
          refine ao_nF rfl rfl (by decide) ?_
          refine ao_nU rfl rfl (by decide) ?_
          refine ao_nU rfl rfl (by decide) ?_
          refine ao_nU rfl rfl (by decide) ?_
          refine ao_nF rfl rfl (by decide) ?_
          refine ao_nF rfl rfl (by decide) ?_
          refine ao_nU rfl rfl (by decide) ?_
          refine ao_nU rfl rfl (by decide) ?_
          refine ao_nU rfl rfl (by decide) ?_
          refine ao_nF rfl rfl (by decide) ?_
          refine ao_y1 rfl rfl (by decide) (o_pick_t (v := .bool _) rfl rfl) ?_
          refine ao1 (by decide) (o_pick_t (v := .bool _) rfl rfl) ?_
          refine ao1 (by decide) (o_assign (v := .bool _) rfl) ?_
          exact ao_nil (Out.mk (by rfl) (by repeat (first | exact SubX.refl _ _ | refine SubX.at ?_ | refine SubX.put rfl ?_)))
        · refine ao_y1 rfl rfl (by decide) (w_fieldAddr rfl (lk rfl rfl) rfl (by decide)) ?_
          refine ao_y1 rfl rfl (by decide) (w_load1 (v := .int _ _) rfl (lk rfl rfl) rfl rfl rfl) ?_
          refine ao_y1 rfl rfl (by decide) (o_ne rfl rfl) ?_
          refine ao_y1 rfl rfl (by decide) (o_move (v := .bool _) rfl) ?_
          refine ao_split rfl rfl (fun hg9 => ?_) (fun hg9 => ?_)
          · refine ao_y1 rfl rfl (by decide) (w_fieldAddr rfl (lk rfl rfl) rfl (by decide)) ?_
            refine ao_y1 rfl rfl (by decide) (w_load1 (v := .int _ _) rfl (lk rfl rfl) rfl rfl rfl) ?_
            refine ao_y1 rfl rfl (by decide) (o_ne rfl rfl) ?_
            refine ao_y1 rfl rfl (by decide) (o_pick_t (v := .bool _) rfl rfl) ?_
            refine ao_y1 rfl rfl (by decide) (o_move (v := .bool _) rfl) ?_
            refine ao_split rfl rfl (fun hg14 => ?_) (fun hg14 => ?_)
            · refine ao_y1 rfl rfl (by decide) (w_fieldAddr rfl (lk rfl rfl) rfl (by decide)) ?_
              refine ao_y1 rfl rfl (by decide) (w_load1 (v := .int _ _) rfl (lk rfl rfl) rfl rfl rfl) ?_
              refine ao_y1 rfl rfl (by decide) (o_ne rfl rfl) ?_
              refine ao_y1 rfl rfl (by decide) (o_pick_t (v := .bool _) rfl rfl) ?_
              refine ao_y1 rfl rfl (by decide) (o_pick_f (v := .bool _) rfl rfl) ?_
              refine ao1 (by decide) (o_pick_t (v := .bool _) rfl rfl) ?_
              refine ao1 (by decide) (o_assign (v := .bool _) rfl) ?_
              exact ao_nil (Out.mk (by (refine congrArg AV.bool ?_; ((try simp only [jj] at *); rcases hbg with ⟨rfl, h2, h3, h4⟩ | ⟨rfl, h2, h3, h4⟩ <;> first | (simp at *; done) | (simp_all; done)))) (by repeat (first | exact SubX.refl _ _ | refine SubX.at ?_ | refine SubX.put rfl ?_)))
            · refine ao_nT rfl rfl (by decide) ?_
              refine ao_nT rfl rfl (by decide) ?_
              refine ao_nT rfl rfl (by decide) ?_
              refine ao_y1 rfl rfl (by decide) (o_pick_f (v := .bool _) rfl rfl) ?_
              refine ao_y1 rfl rfl (by decide) (o_pick_f (v := .bool _) rfl rfl) ?_
              refine ao1 (by decide) (o_pick_t (v := .bool _) rfl rfl) ?_
              refine ao1 (by decide) (o_assign (v := .bool _) rfl) ?_
              exact ao_nil (Out.mk (by (refine congrArg AV.bool ?_; ((try simp only [jj] at *); rcases hbg with ⟨rfl, h2, h3, h4⟩ | ⟨rfl, h2, h3, h4⟩ <;> first | (simp at *; done) | (simp_all; done)))) (by repeat (first | exact SubX.refl _ _ | refine SubX.at ?_ | refine SubX.put rfl ?_)))
          · refine ao_nT rfl rfl (by decide) ?_
            refine ao_nT rfl rfl (by decide) ?_
            refine ao_nT rfl rfl (by decide) ?_
            refine ao_y1 rfl rfl (by decide) (o_pick_f (v := .bool _) rfl rfl) ?_
            refine ao_y1 rfl rfl (by decide) (o_move (v := .bool _) rfl) ?_
            refine ao_nT rfl rfl (by decide) ?_
            refine ao_nT rfl rfl (by decide) ?_
            refine ao_nT rfl rfl (by decide) ?_
            refine ao_y1 rfl rfl (by decide) (o_pick_f (v := .bool _) rfl rfl) ?_
            refine ao_y1 rfl rfl (by decide) (o_pick_f (v := .bool _) rfl rfl) ?_
            refine ao1 (by decide) (o_pick_t (v := .bool _) rfl rfl) ?_
            refine ao1 (by decide) (o_assign (v := .bool _) rfl) ?_
            exact ao_nil (Out.mk (by (refine congrArg AV.bool ?_; ((try simp only [jj] at *); rcases hbg with ⟨rfl, h2, h3, h4⟩ | ⟨rfl, h2, h3, h4⟩ <;> first | (simp at *; done) | (simp_all; done)))) (by repeat (first | exact SubX.refl _ _ | refine SubX.at ?_ | refine SubX.put rfl ?_)))
      · refine ao_nT rfl rfl (by decide) ?_
        refine ao_nT rfl rfl (by decide) ?_
        refine ao_nT rfl rfl (by decide) ?_
        refine ao_nU rfl rfl (by decide) ?_
        refine ao_nU rfl rfl (by decide) ?_
        refine ao_nU rfl rfl (by decide) ?_
        refine ao_nU rfl rfl (by decide) ?_
        refine ao_nU rfl rfl (by decide) ?_
        refine ao_nU rfl rfl (by decide) ?_
        refine ao_nU rfl rfl (by decide) ?_
        refine ao_nU rfl rfl (by decide) ?_
        refine ao_nU rfl rfl (by decide) ?_
        refine ao_nU rfl rfl (by decide) ?_
        refine ao_nU rfl rfl (by decide) ?_
        refine ao_nU rfl rfl (by decide) ?_
        refine ao_nU rfl rfl (by decide) ?_
        refine ao_nT rfl rfl (by decide) ?_
        refine ao1 (by decide) (o_pick_f (v := .bool _) rfl rfl) ?_
        refine ao1 (by decide) (o_assign (v := .bool _) rfl) ?_
        exact ao_nil (Out.mk (by (refine congrArg AV.bool ?_; ((try simp only [jj] at *); rcases hbg with ⟨rfl, h2, h3, h4⟩ | ⟨rfl, h2, h3, h4⟩ <;> ((simp at *; done))))) (by repeat (first | exact SubX.refl _ _ | refine SubX.at ?_ | refine SubX.put rfl ?_)))
    repeat (first | refine then_nrm ?_ | refine aw_ret ?_)
    exact e_done hB (r_tmp rfl .nil) rfl rfl
end Go.Av
