/- A part of the proof: walks through the program over abstract values. -/
import Derived.Test.YtmhfpopbhiloiaaDoorV10
import Derived.Test.YtmhfpopbhiloiaaDoorSw5
import Derived.Test.YtmhfpopbhiloiaaDoorAv29
namespace Go.Av
open Go.Proofs
set_option maxRecDepth 10000
set_option linter.unusedSimpArgs false
set_option linter.unusedVariables false

structure DoW where
  kind : Int
  things : List Int
  at_ : Int
abbrev eDo (d : DoW) : List AV := [.int .u8 d.kind, .pl (d.things.map eInt), .int .u8 d.at_]
structure WG where
  s : WS
  jd : List Note
  ju : List Note
  gd : Nat
  gu : Nat
abbrev wHeap (H : Heap) (g : WG) : Heap := H ++ [⟨0, 3, [eLoan g.s.a]⟩, ⟨0, 3, [eLoan g.s.b]⟩, ⟨g.gd, 3, (g.jd ++ g.s.down).map eNote⟩, ⟨g.gu, 3, (g.ju ++ g.s.up).map eNote⟩]
theorem notes_len (l : List Note) : ∀ r ∈ l.map eNote, r.length = 3 := rows_len (e := eNote) (n := 3) (fun _ => rfl) l
theorem notes_bel (n : Nat) (l : List Note) : ∀ r ∈ l.map eNote, AV.bels n r = true := rows_bel (e := eNote) (fun _ => rfl) l
theorem wbel (n : Nat) (g : WG) : ∀ o ∈ [AObj.mk 0 3 [eLoan g.s.a], AObj.mk 0 3 [eLoan g.s.b], AObj.mk g.gd 3 ((g.jd ++ g.s.down).map eNote), AObj.mk g.gu 3 ((g.ju ++ g.s.up).map eNote)], ∀ r ∈ o.rows, AV.bels n r = true := by
  intro o ho r hr
  simp only [List.mem_cons, List.not_mem_nil, or_false] at ho
  rcases ho with rfl | rfl | rfl | rfl
  · simp only [List.mem_singleton] at hr; subst hr; rfl
  · simp only [List.mem_singleton] at hr; subst hr; rfl
  · exact notes_bel _ _ r hr
  · exact notes_bel _ _ r hr
theorem wbel2 (n : Nat) (g : WG) (r1 r2 : List AV) (h1 : AV.bels n r1 = true) (h2 : AV.bels n r2 = true) : ∀ o ∈ [AObj.mk 0 3 [eLoan g.s.a], AObj.mk 0 3 [eLoan g.s.b], AObj.mk g.gd 3 ((g.jd ++ g.s.down).map eNote), AObj.mk g.gu 3 ((g.ju ++ g.s.up).map eNote), AObj.mk 0 3 [r1], AObj.mk 0 3 [r2]], ∀ r ∈ o.rows, AV.bels n r = true := by
  intro o ho r hr
  simp only [List.mem_cons, List.not_mem_nil, or_false] at ho
  rcases ho with rfl | rfl | rfl | rfl | rfl | rfl
  · simp only [List.mem_singleton] at hr; subst hr; rfl
  · simp only [List.mem_singleton] at hr; subst hr; rfl
  · exact notes_bel _ _ r hr
  · exact notes_bel _ _ r hr
  · simp only [List.mem_singleton] at hr; subst hr; exact h1
  · simp only [List.mem_singleton] at hr; subst hr; exact h2
theorem q_take (j r : List Note) : ((j ++ r).map eNote).take j.length = j.map eNote := by rw [List.map_append, List.take_append_of_le_length (by simp), List.take_of_length_le (by simp)]
theorem q_drop (j r : List Note) : (((j ++ r).map eNote).drop j.length).take r.length = r.map eNote := by
  rw [List.map_append, List.drop_append_of_le_length (by simp), List.drop_of_length_le (by simp), List.nil_append, List.take_of_length_le (by simp)]
theorem q_get (j r : List Note) (n : Note) : ((j ++ n :: r).map eNote)[j.length + (0 : Int).toNat]? = some (eNote n) := by simp
def nb (g : WG) (i : Nat) : Prop := g.s.down.length ≤ i ∧ g.s.up.length ≤ i
structure JG where
  g : WG
  n : Note
  e : Int
  row : List AV
def JI (k : Int) (i : Nat) (j : JG) : Prop := (j.g.s.down.length ≤ i ∧ j.g.s.up.length ≤ i + 1) ∧ (j.e = 0 → j.row = eNote j.n ∧ WInv k { j.g.s with down := j.g.s.down ++ [j.n] }) ∧ (j.e ≠ 0 → WInv k j.g.s)
theorem may_sok {n : Note} (h : lmay n = true) : sok n.things = true := by
  unfold lmay at h
  split at h
  · simp at h; exact h.2
  · split at h
    · simp [List.length_eq_zero_iff] at h; rw [h.2]; exact sok_nil
    · cases h
theorem lright_small {l : Loan} (h : lright l = true) : Small l := by
  obtain ⟨h1, h2, _, _⟩ := lright_iff.1 h
  have := sok_256 h1; have := sok_256 h2
  exact ⟨by omega, by omega⟩
theorem lend_err2 {l : Loan} {n : Note} {now : Int} (h : ¬ (lend l n now).2.2 = 0) : (lend l n now).1 = l := by
  revert h
  unfold lend
  repeat (first | (intro h; rfl) | (intro h; exact absurd rfl h) | split)
theorem ji_lend {k : Int} {i : Nat} {a b : Loan} {down up : List Note} {now : Int} {jd ju : List Note} {vd vu : Nat} {n : Note} (hw : WInv k ⟨a, b, down, up, now⟩) (hnb : down.length ≤ i ∧ up.length ≤ i + 1) (hk : n.kind = 1 ∨ n.kind = 2 ∨ n.kind = 4) :
    JI (k + 1) i ⟨⟨⟨(lend a n now).1, b, down, up, now⟩, jd, ju, vd, vu⟩, (lend a n now).2.1, (lend a n now).2.2, eNote (lend a n now).2.1⟩ := by
  refine ⟨hnb, fun he => ?_, fun he => ?_⟩
  · obtain ⟨h1, h2⟩ := hw.lend hk he
    refine ⟨rfl, ?_⟩
    show WInv (k + 1) ⟨(lend a n now).1, b, down ++ [(lend a n now).2.1], up, now⟩
    simp only at h1 h2
    rw [h1]
    exact h2.mono (by omega)
  · have := lend_err2 he
    show WInv (k + 1) ⟨(lend a n now).1, b, down, up, now⟩
    rw [this]
    exact hw.mono (by omega)
set_option maxHeartbeats 0 in
theorem law19_LeaseWithin (u gd : Int) (hu : 0 ≤ u ∧ u ≤ 255) (hgd : 0 ≤ gd ∧ gd ≤ 255) (l : List DoW) (hl : ∀ d ∈ l, 0 ≤ d.kind ∧ 0 ≤ d.at_ ∧ d.at_ ≤ 255) (H : Heap) : ACT Tryd.prog KD 6 [.int .u8 u, .int .u8 gd, .pl (l.map eDo)] H (Ret (.bool true) H) := by
  obtain ⟨hu0, hu1⟩ := hu
  obtain ⟨hg0, hg1⟩ := hgd
  refine ACT.body (N := 171) [.tmp 6] Tryd.func6 rfl rfl rfl (Nat.le_of_ble_eq_true rfl) fun B hB => ?_
  repeat (refine aw_seq ?_)
  refine aw_region ?_
  refine ao1 (by decide) (o_assign (v := .bool _) rfl) ?_
  refine ao_nil ?_
  repeat (first | refine then_nrm ?_ | refine aw_seq ?_)
  refine aw_region ?_
  refine ao2 (by rintro _ ⟨⟩; decide) (V2.callT (law19_awake _) rfl rfl) ?_
  refine ao1 (by decide) (o_not rfl) ?_
  refine ao_nil ?_
  try dsimp only [put]
  repeat (refine then_nrm ?_)
  refine aw_cond rfl (fun hc => ?_) (fun hc => ?_)
  · cases hc
  repeat (first | refine then_nrm ?_ | refine aw_seq ?_ | refine aw_skip ?_)
  refine aw_region ?_
  refine ao1 (by decide) (o_move (v := .int _ _) rfl) ?_
  refine ao1 (by decide) (o_conv_int (r := u) rfl (wrap64_ok (by omega) (by omega))) ?_
  refine ao1 (by decide) (V1.up (o_build (cs := [.nsl, .nsl, .int .i64 u]) rfl)) ?_
  refine ao1 (by decide) (o_move (v := .int _ _) rfl) ?_
  refine ao1 (by decide) (o_conv_int (r := u) rfl (wrap64_ok (by omega) (by omega))) ?_
  refine ao1 (by decide) (V1.up (o_build (cs := [.nsl, .nsl, .int .i64 u]) rfl)) ?_
  refine ao2 (by rintro _ ⟨⟩; decide) (o_allocL (sz := 3) rfl (by decide) rfl) ?_
  refine ao2 (by rintro _ ⟨⟩; decide) (o_allocL (sz := 3) rfl (by decide) rfl) ?_
  refine ao2 (by rintro _ ⟨⟩) (w_storeW (sz := 3) rfl rfl rfl rfl rfl rfl rfl rfl (Nat.le_of_ble_eq_true rfl)) ?_
  refine ao2 (by rintro _ ⟨⟩) (w_storeW (sz := 3) rfl rfl rfl rfl rfl rfl rfl rfl (Nat.le_of_ble_eq_true rfl)) ?_
  refine ao_nil ?_
  try dsimp only [put, List.nil_append, List.length_cons, List.length_nil, Nat.reduceAdd, AV.up, List.cons_append, List.set_cons_zero, List.set_cons_succ]
  repeat (first | refine then_nrm ?_ | refine aw_seq ?_)
  refine aw_region ?_
  refine ao1 (by decide) (o_assign (v := .nsl) rfl) ?_
  refine ao1 (by decide) (o_assign (v := .nsl) rfl) ?_
  refine ao_nil ?_
  repeat (first | refine then_nrm ?_ | refine aw_seq ?_)
  refine aw_ghostL (k := 2) 9 3 rfl (by decide) rfl ?_
  refine aw_ghostL (k := 3) 10 3 rfl (by decide) rfl ?_
  refine aw_region ?_
  refine ao1 (by decide) (o_assign (v := .int _ _) rfl) ?_
  refine ao_nil ?_
  try dsimp only [List.cons_append, List.nil_append]
  repeat (first | refine then_nrm ?_ | refine aw_seq ?_)
  refine aw_region ?_
  refine ao1 (by decide) (o_assign (v := .int _ _) rfl) ?_
  refine ao_nil ?_
  repeat (first | refine then_nrm ?_ | refine aw_block ?_)
  refine aw_loop (G := WG × Nat) (fun q => WInv q.2 q.1.s ∧ nb q.1 q.2 ∧ q.2 ≤ 120) (fun q => [(KT, KD.av), (1, .int .u8 gd), (2, .pl (l.map eDo)), (7, .pt (Lid H.length 0) 0 0 0), (8, .pt (Lid H.length 1) 0 0 0), (9, .sl (Lid H.length 2) q.1.gd q.1.jd.length q.1.s.down.length q.1.s.down.length), (10, .sl (Lid H.length 3) q.1.gu q.1.ju.length q.1.s.up.length q.1.s.up.length), (11, .int .i64 q.1.s.now), (12, .int .i64 (q.2 : Int))]) (fun q => wHeap H q.1) (fun q => 120 - q.2) (⟨⟨⟨[], [], u⟩, ⟨[], [], u⟩, [], [], 0⟩, [], [], 0, 0⟩, 0) ⟨WInv.start u hu0 hu1, ⟨Nat.le_refl _, Nat.le_refl _⟩, Nat.zero_le _⟩ (by repeat (first | exact Sub.nil | refine Sub.cons (by rfl) ?_)) (.inl rfl) ?_
  rintro ⟨⟨⟨a, b, down, up, now⟩, jd, ju, vd, vu⟩, i⟩ ⟨hw, hnb, hi120⟩
  simp only at hw hnb hi120 ⊢
  obtain ⟨hdl, hul⟩ := hnb
  simp only at hdl hul
  have hsa := lright_small hw.ra
  have hsb := lright_small hw.rb
  have hnow0 : 0 ≤ now := hw.n0
  have hnow1 : now ≤ 255 * (i : Int) := hw.nk
  simp only at hsa hsb
  repeat (refine aw_seq ?_)
  refine aw_out 36 (.bool (decide (i < l.length) && decide (i < 120))) ?_ ?_
  · refine ao1 (by decide) (o_move (v := .int _ _) rfl) ?_
    refine ao1 (by decide) (o_move (v := .pl _) rfl) ?_
    refine ao1 (by decide) (o_lenp rfl) ?_
    refine ao1 (by decide) (o_lt rfl rfl) ?_
    refine ao1 (by decide) (o_move (v := .bool _) rfl) ?_
    refine ao_split rfl rfl (fun hg4 => ?_) (fun hg4 => ?_)
    · refine ao_y1 rfl rfl (by decide) (o_move (v := .int _ _) rfl) ?_
      refine ao_y1 rfl rfl (by decide) (o_lt rfl rfl) ?_
      refine ao1 (by decide) (o_pick_t (v := .bool _) rfl rfl) ?_
      exact ao_nil (Out.mk (by (refine congrArg AV.bool ?_; (refine Bool.eq_iff_iff.mpr ?_; simp only [Bool.and_eq_true, Bool.or_eq_true, Bool.not_eq_true', decide_eq_true_eq, decide_eq_false_iff_not, beq_iff_eq, bne_iff_ne, beq_eq_false_iff_ne, Bool.false_eq_true, Bool.true_eq_false, Bool.and_eq_false_iff, Bool.or_eq_false_iff, List.length_map, false_iff, true_iff, iff_true, iff_false] at *; omega))) (by repeat (first | exact SubX.refl _ _ | refine SubX.at ?_ | refine SubX.put rfl ?_)))
    · refine ao_nT rfl rfl (by decide) ?_
      refine ao_nT rfl rfl (by decide) ?_
      refine ao1 (by decide) (o_pick_f (v := .bool _) rfl rfl) ?_
      exact ao_nil (Out.mk (by (refine congrArg AV.bool ?_; (refine Bool.eq_iff_iff.mpr ?_; simp only [Bool.and_eq_true, Bool.or_eq_true, Bool.not_eq_true', decide_eq_true_eq, decide_eq_false_iff_not, beq_iff_eq, bne_iff_ne, beq_eq_false_iff_ne, Bool.false_eq_true, Bool.true_eq_false, Bool.and_eq_false_iff, Bool.or_eq_false_iff, List.length_map, false_iff, true_iff, iff_true, iff_false] at *; omega))) (by repeat (first | exact SubX.refl _ _ | refine SubX.at ?_ | refine SubX.put rfl ?_)))
  repeat (refine then_nrm ?_)
  refine aw_cond rfl (fun hc => ?_) (fun hc => ?_)
  · simp at hc
    obtain ⟨hil, hi⟩ := hc
    obtain ⟨d, hd, hdl'⟩ := get_in hil
    have hr := map_get eDo hd
    obtain ⟨hk0, ha0, ha1⟩ := hl d hdl'
    clear hl
    repeat (first | refine then_nrm ?_ | refine aw_seq ?_ | refine aw_block ?_ | refine aw_skip ?_)
    refine aw_region ?_
    refine ao1 (by decide) (o_move (v := .pl _) rfl) ?_
    refine ao1 (by decide) (o_move (v := .int _ _) rfl) ?_
    refine ao1 (by decide) (w_indexAddrpN rfl rfl hr rfl) ?_
    refine ao1 (by decide) (w_loadRp rfl hr rfl) ?_
    refine ao2 (by rintro _ ⟨⟩; decide) (o_allocL (sz := 3) rfl (by decide) rfl) ?_
    refine ao2 (by rintro _ ⟨⟩) (w_storeW (sz := 3) rfl rfl rfl rfl rfl rfl rfl rfl (Nat.le_of_ble_eq_true rfl)) ?_
    refine ao_nil ?_
    try dsimp only [put, List.length_cons, List.length_nil, Nat.reduceAdd, List.cons_append, List.nil_append, List.set_cons_zero, List.set_cons_succ]
    repeat (first | refine then_nrm ?_ | refine aw_seq ?_)
    refine aw_region ?_
    refine ao1 (by decide) (w_fieldAddr rfl (lk rfl rfl) rfl (by decide)) ?_
    refine ao1 (by decide) (w_load1 (v := .pl _) rfl (lk rfl rfl) rfl rfl rfl) ?_
    refine ao1 (by decide) (o_lenp rfl) ?_
    refine ao1 (by decide) (o_gt rfl rfl) ?_
    refine ao_nil ?_
    try dsimp only [Nat.reduceAdd]
    repeat (refine then_nrm ?_)
    refine aw_cond rfl (fun hc => ?_) (fun hc => ?_)
    · repeat (refine aw_seq ?_)
      refine aw_region ?_
      refine ao1 (by decide) (o_assign (v := .bool _) rfl) ?_
      refine ao_nil ?_
      repeat (first | refine then_nrm ?_ | refine then_ret ?_ | refine blk_ret ?_ | refine aw_ret ?_)
      exact e_done hB (r_tmp rfl .nil) rfl rfl
    have hdt : d.things.length ≤ 1000000 := by simp at hc; omega
    clear hc
    repeat (first | refine then_nrm ?_ | refine aw_seq ?_ | refine aw_skip ?_)
    refine aw_region ?_
    refine ao2 (by rintro _ ⟨⟩; decide) (o_allocL (sz := 3) rfl (by decide) rfl) ?_
    refine ao_nil ?_
    try dsimp only [put, List.length_cons, List.length_nil, Nat.reduceAdd, List.cons_append, List.nil_append]
    repeat (first | refine then_nrm ?_ | refine aw_seq ?_)
    refine aw_region ?_
    refine ao1 (by decide) (o_assign (v := .int _ _) rfl) ?_
    refine ao_nil ?_
    repeat (first | refine then_nrm ?_ | refine aw_seq ?_)
    refine aw_region ?_
    refine ao1 (by decide) (w_fieldAddr rfl (lk rfl rfl) rfl (by decide)) ?_
    refine ao1 (by decide) (w_load1 (v := .int _ _) rfl (lk rfl rfl) rfl rfl rfl) ?_
    refine ao1 (by decide) (o_rem rfl rfl (by omega) rfl) ?_
    refine ao_nil ?_
    try dsimp only [Nat.reduceAdd]
    repeat (refine then_nrm ?_)
    refine aw_joinG (G := JG) (JI ((i : Int) + 1) i) (fun j => [(KT, KD.av), (1, .int .u8 gd), (2, .pl (l.map eDo)), (7, .pt (Lid H.length 0) 0 0 0), (8, .pt (Lid H.length 1) 0 0 0), (9, .sl (Lid H.length 2) j.g.gd j.g.jd.length j.g.s.down.length j.g.s.down.length), (10, .sl (Lid H.length 3) j.g.gu j.g.ju.length j.g.s.up.length j.g.s.up.length), (11, .int .i64 j.g.s.now), (12, .int .i64 (i : Int)), (14, .pt (Lid H.length 5) 0 0 0), (15, .int .i64 j.e)]) (fun j => H ++ [⟨0, 3, [eLoan j.g.s.a]⟩, ⟨0, 3, [eLoan j.g.s.b]⟩, ⟨j.g.gd, 3, (j.g.jd ++ j.g.s.down).map eNote⟩, ⟨j.g.gu, 3, (j.g.ju ++ j.g.s.up).map eNote⟩, ⟨0, 3, [eDo d]⟩, ⟨0, 3, [j.row]⟩]) ?_ ?_
    · repeat (first | refine aw_seq ?_ | refine aw_block ?_)
      refine aw_region ?_
      refine ao1 (by decide) (o_eq rfl rfl) ?_
      refine ao1 (by decide) (o_assign (v := .bool _) rfl) ?_
      refine ao_nil ?_
      repeat (refine then_nrm ?_)
      refine aw_cond rfl (fun hc => ?_) (fun hc => ?_)
      · repeat (fail)
        refine aw_region ?_
        refine ao1 (by decide) (w_loadR rfl (lk rfl rfl) rfl rfl rfl) ?_
        refine ao1 (by decide) (w_fieldAddr rfl (lk rfl rfl) rfl (by decide)) ?_
        refine ao1 (by decide) (w_load1 (v := .pl _) rfl (lk rfl rfl) rfl rfl rfl) ?_
        refine ao1 (by decide) (o_move (v := .int _ _) rfl) ?_
        refine ao2 (by rintro _ ⟨⟩; decide) (V2.callT (lease_Give a hsa d.things hdt now _) rfl rfl) ?_
        refine ao1 (by decide) (o_move (v := .tup _) rfl) ?_
        refine ao1 (by decide) (o_extract (v := .agg _) rfl rfl) ?_
        refine ao1 (by decide) (o_extract (v := .agg _) rfl rfl) ?_
        refine ao1 (by decide) (o_extract (v := .int _ _) rfl rfl) ?_
        refine ao2 (by rintro _ ⟨⟩) (w_storeW (sz := 3) rfl rfl rfl rfl rfl rfl rfl rfl (Nat.le_of_ble_eq_true rfl)) ?_
        refine ao2 (by rintro _ ⟨⟩) (w_storeW (sz := 3) rfl rfl rfl rfl rfl rfl rfl rfl (Nat.le_of_ble_eq_true rfl)) ?_
        refine ao1 (by decide) (o_assign (v := .int _ _) rfl) ?_
        refine ao_nil ?_
        try dsimp only [Nat.reduceAdd, put, List.set_cons_zero, List.set_cons_succ]
        repeat (refine blk_nrm ?_)
        exact joinG_nrm ⟨⟨⟨_, b, down, up, now⟩, jd, ju, vd, vu⟩, _, _, _⟩ (ji_lend (n := ⟨1, d.things, 0⟩) hw ⟨hdl, Nat.le_succ_of_le hul⟩ (.inl rfl)) (by repeat (first | exact Sub.nil | refine Sub.cons (by rfl) ?_)) (.inl rfl)
      repeat (refine aw_seq ?_)
      refine aw_region ?_
      refine ao1 (by decide) (o_eq rfl rfl) ?_
      refine ao1 (by decide) (o_assign (v := .bool _) rfl) ?_
      refine ao_nil ?_
      repeat (refine then_nrm ?_)
      refine aw_cond rfl (fun hc => ?_) (fun hc => ?_)
      · repeat (fail)
        refine aw_region ?_
        refine ao1 (by decide) (w_loadR rfl (lk rfl rfl) rfl rfl rfl) ?_
        refine ao1 (by decide) (w_fieldAddr rfl (lk rfl rfl) rfl (by decide)) ?_
        refine ao1 (by decide) (w_load1 (v := .pl _) rfl (lk rfl rfl) rfl rfl rfl) ?_
        refine ao1 (by decide) (o_move (v := .int _ _) rfl) ?_
        refine ao2 (by rintro _ ⟨⟩; decide) (V2.callT (lease_Ask a hsa d.things hdt now _) rfl rfl) ?_
        refine ao1 (by decide) (o_move (v := .tup _) rfl) ?_
        refine ao1 (by decide) (o_extract (v := .agg _) rfl rfl) ?_
        refine ao1 (by decide) (o_extract (v := .agg _) rfl rfl) ?_
        refine ao1 (by decide) (o_extract (v := .int _ _) rfl rfl) ?_
        refine ao2 (by rintro _ ⟨⟩) (w_storeW (sz := 3) rfl rfl rfl rfl rfl rfl rfl rfl (Nat.le_of_ble_eq_true rfl)) ?_
        refine ao2 (by rintro _ ⟨⟩) (w_storeW (sz := 3) rfl rfl rfl rfl rfl rfl rfl rfl (Nat.le_of_ble_eq_true rfl)) ?_
        refine ao1 (by decide) (o_assign (v := .int _ _) rfl) ?_
        refine ao_nil ?_
        try dsimp only [Nat.reduceAdd, put, List.set_cons_zero, List.set_cons_succ]
        repeat (refine blk_nrm ?_)
        exact joinG_nrm ⟨⟨⟨_, b, down, up, now⟩, jd, ju, vd, vu⟩, _, _, _⟩ (ji_lend (n := ⟨2, d.things, 0⟩) hw ⟨hdl, Nat.le_succ_of_le hul⟩ (.inr (.inl rfl))) (by repeat (first | exact Sub.nil | refine Sub.cons (by rfl) ?_)) (.inl rfl)
      repeat (refine aw_seq ?_)
      refine aw_region ?_
      refine ao1 (by decide) (o_eq rfl rfl) ?_
      refine ao1 (by decide) (o_assign (v := .bool _) rfl) ?_
      refine ao_nil ?_
      repeat (refine then_nrm ?_)
      refine aw_cond rfl (fun hc => ?_) (fun hc => ?_)
      · repeat (fail)
        refine aw_region ?_
        refine ao1 (by decide) (w_loadR rfl (lk rfl rfl) rfl rfl rfl) ?_
        refine ao1 (by decide) (o_move (v := .int _ _) rfl) ?_
        refine ao1 (by decide) (w_fieldAddr rfl (lk rfl rfl) rfl (by decide)) ?_
        refine ao1 (by decide) (w_load1 (v := .int _ _) rfl (lk rfl rfl) rfl rfl rfl) ?_
        refine ao1 (by decide) (o_conv_int (r := d.at_) rfl (wrap64_ok (by omega) (by omega))) ?_
        refine ao1 (by decide) (o_add (r := now + d.at_) rfl rfl (wrap64_ok (by omega) (by omega))) ?_
        refine ao1 (by decide) (o_move (v := .int _ _) rfl) ?_
        refine ao_ret (lease_Till a hsa (now + d.at_) now _) rfl (by decide) ?_
        refine ao1 (by decide) (o_move (v := .tup _) rfl) ?_
        refine ao1 (by decide) (o_extract (v := .agg _) rfl rfl) ?_
        refine ao1 (by decide) (o_extract (v := .agg _) rfl rfl) ?_
        refine ao1 (by decide) (o_extract (v := .int _ _) rfl rfl) ?_
        refine ao2 (by rintro _ ⟨⟩) (w_storeW (sz := 3) rfl rfl rfl rfl rfl rfl rfl rfl (Nat.le_of_ble_eq_true rfl)) ?_
        refine ao2 (by rintro _ ⟨⟩) (w_storeW (sz := 3) rfl rfl rfl rfl rfl rfl rfl rfl (Nat.le_of_ble_eq_true rfl)) ?_
        refine ao1 (by decide) (o_assign (v := .int _ _) rfl) ?_
        refine ao_nil ?_
        try dsimp only [Nat.reduceAdd, put, List.set_cons_zero, List.set_cons_succ]
        repeat (refine blk_nrm ?_)
        exact joinG_nrm ⟨⟨⟨_, b, down, up, now⟩, jd, ju, vd, vu⟩, _, _, _⟩ (ji_lend (n := ⟨4, [], now + d.at_⟩) hw ⟨hdl, Nat.le_succ_of_le hul⟩ (.inr (.inr rfl))) (by repeat (first | exact Sub.nil | refine Sub.cons (by rfl) ?_)) (.inl rfl)
      repeat (refine aw_seq ?_)
      refine aw_region ?_
      refine ao1 (by decide) (o_eq rfl rfl) ?_
      refine ao1 (by decide) (o_assign (v := .bool _) rfl) ?_
      refine ao_nil ?_
      repeat (refine then_nrm ?_)
      refine aw_cond rfl (fun hc => ?_) (fun hc => ?_)
      · repeat (refine aw_seq ?_)
        refine aw_region ?_
        refine ao1 (by decide) (o_move (v := .sl _ _ _ _ _) rfl) ?_
        refine ao1 (by decide) (w_lens rfl (lk rfl rfl) rfl) ?_
        refine ao1 (by decide) (o_gt rfl rfl) ?_
        refine ao_nil ?_
        repeat (refine then_nrm ?_)
        refine aw_cond rfl (fun hc => ?_) (fun hc => ?_)
        · cases down with
          | nil => simp at hc
          | cons n0 rest =>
            have hhear := hw.hear (by omega) rfl
            have hn0 : n0.things.length ≤ 1000000 := by
              have := sok_256 (may_sok (hw.dn n0 List.mem_cons_self).1)
              omega
            have c1 := fun H => lease_Hear b hsb n0 hn0 now H
            simp only at hhear
            generalize hear b n0 now = z at hhear c1
            obtain ⟨b', r, ok⟩ := z
            simp only at hhear
            have hq := q_get jd rest n0
            simp only [List.length_cons] at hdl
            repeat (refine aw_seq ?_)
            refine aw_drawP mixed none 4 ?_
            try dsimp only [List.take_succ_cons, List.take_zero]
            refine aqp 0 rfl (by decide +kernel) (by decide) (fun G => w_loadR rfl (lk rfl rfl) rfl rfl rfl) ?_
            refine aq0 1 rfl (by decide +kernel) (by decide) (fun _ => o_move (v := .sl _ _ _ _ _) rfl) ?_
            refine aqp 2 rfl (by decide +kernel) (by decide) (fun G => w_indexAddr rfl (lk rfl rfl) rfl rfl rfl (by decide) (by simp)) ?_
            refine aqp 3 rfl (by decide +kernel) (by decide) (fun G => w_loadR rfl (lk rfl rfl) rfl hq rfl) ?_
            refine aq0 4 rfl (by decide +kernel) (by decide) (fun _ => o_move (v := .int _ _) rfl) ?_
            refine aq02 5 rfl (by decide +kernel) (by decide) (fun _ => V2.callT (c1 _) rfl rfl) ?_
            refine aq0 6 rfl (by decide +kernel) (by decide) (fun _ => o_move (v := .tup _) rfl) ?_
            refine aq0 7 rfl (by decide +kernel) (by decide) (fun _ => o_extract (v := .agg _) rfl rfl) ?_
            refine aq0 8 rfl (by decide +kernel) (by decide) (fun _ => o_extract (v := .agg _) rfl rfl) ?_
            refine aq0 9 rfl (by decide +kernel) (by decide) (fun _ => o_extract (v := .bool _) rfl rfl) ?_
            refine aa_all [10, 11] (by decide +kernel) (by simp) (by exact fun _ => ⟨_, rfl⟩) ?_
            simp only [List.forall_mem_cons, List.not_mem_nil, false_implies, implies_true, and_true]
            refine ⟨?_, ?_⟩
            refine aat rfl (by rintro _ ⟨⟩; decide) (o_allocL (sz := 3) rfl (by decide) rfl) ?_
            refine aqs 11 rfl (by decide +kernel) (by exact fun _ => ⟨_, rfl⟩) (by rintro _ ⟨⟩; decide) (o_allocL (sz := 3) rfl (by decide) rfl) ?_
            refine aqs 12 rfl (by decide +kernel) (by exact fun _ => ⟨_, rfl⟩) (by rintro _ ⟨⟩) (w_storeW (sz := 3) rfl rfl rfl rfl rfl rfl rfl rfl (Nat.le_of_ble_eq_true rfl)) ?_
            refine aqs 13 rfl (by decide +kernel) (by exact fun _ => ⟨_, rfl⟩) (by rintro _ ⟨⟩) (w_storeW (sz := 3) rfl rfl rfl rfl rfl rfl rfl rfl (Nat.le_of_ble_eq_true rfl)) ?_
            refine aq0 14 rfl (by decide +kernel) (by decide) (fun _ => o_assign (v := .bool _) rfl) ?_
            refine aa_done (by decide +kernel) (by exact fun _ => ⟨_, rfl⟩) ?_
            try dsimp only [List.length_cons, List.length_nil, Nat.reduceAdd, put, List.cons_append, List.nil_append, List.set_cons_zero, List.set_cons_succ]
            rotate_left
            refine aat rfl (by rintro _ ⟨⟩; decide) (o_allocL (sz := 3) rfl (by decide) rfl) ?_
            refine aqs 10 rfl (by decide +kernel) (by exact fun _ => ⟨_, rfl⟩) (by rintro _ ⟨⟩; decide) (o_allocL (sz := 3) rfl (by decide) rfl) ?_
            refine aqs 12 rfl (by decide +kernel) (by exact fun _ => ⟨_, rfl⟩) (by rintro _ ⟨⟩) (w_storeW (sz := 3) rfl rfl rfl rfl rfl rfl rfl rfl (Nat.le_of_ble_eq_true rfl)) ?_
            refine aqs 13 rfl (by decide +kernel) (by exact fun _ => ⟨_, rfl⟩) (by rintro _ ⟨⟩) (w_storeW (sz := 3) rfl rfl rfl rfl rfl rfl rfl rfl (Nat.le_of_ble_eq_true rfl)) ?_
            refine aq0 14 rfl (by decide +kernel) (by decide) (fun _ => o_assign (v := .bool _) rfl) ?_
            refine aa_done (by decide +kernel) (by exact fun _ => ⟨_, rfl⟩) ?_
            try dsimp only [List.length_cons, List.length_nil, Nat.reduceAdd, put, List.cons_append, List.nil_append, List.set_cons_zero, List.set_cons_succ]
            rotate_left
            all_goals
              repeat (first | refine then_nrm ?_ | refine aw_seq ?_)
              refine aw_region ?_
              refine ao1 (by decide) (w_loadR rfl (lk rfl rfl) rfl rfl rfl) ?_
              refine ao2 (by rintro _ ⟨⟩) (w_storeW (sz := 3) rfl rfl rfl rfl rfl rfl rfl rfl (Nat.le_of_ble_eq_true rfl)) ?_
              refine ao_nil ?_
              try dsimp only [put, List.set_cons_zero, List.set_cons_succ, List.length_cons, List.length_nil, Nat.reduceAdd]
              repeat (first | refine then_nrm ?_ | refine aw_seq ?_)
              refine aw_region ?_
              refine ao1 (by decide) (o_move (v := .sl _ _ _ _ _) rfl) ?_
              refine ao1 (by decide) (w_slices (l := 1) (h := rest.length + 1) rfl (lk rfl rfl) rfl rfl (.some rfl rfl) .none (by omega) (by simp)) ?_
              refine ao1 (by decide) (o_assign (v := .sl _ _ _ _ _) rfl) ?_
              refine ao_nil ?_
              repeat (first | refine then_nrm ?_ | refine aw_seq ?_)
              refine aw_region ?_
              refine ao1 (by decide) (o_move (v := .bool _) rfl) ?_
              refine ao_nil ?_
              repeat (refine then_nrm ?_)
              refine aw_cond rfl (fun hc => ?_) (fun hc => ?_)
              · subst hc
                refine aw_region ?_
                refine ao1 (by decide) (o_move (v := .sl _ _ _ _ _) rfl) ?_
                refine ao1 (by decide) (w_loadR rfl (lk rfl rfl) rfl rfl rfl) ?_
                refine ao2 (by rintro _ ⟨⟩; decide) (g_lit1 (sz := 3) (v := .agg (eNote r)) (cs := eNote r) rfl (by decide) (by decide) rfl rfl rfl rfl rfl) ?_
                refine ao_appO (sz := 3) (bytes := 40) (by decide) rfl rfl rfl rfl rfl (Src.pl (ys := [eNote r]) rfl (notes_len [r])) rfl (by simp) (by simp) (by simp; omega) (by simp; omega) (fun js hjs => ?_)
                refine ao1 (by decide) (o_assign (v := .sl _ _ _ _ _) rfl) ?_
                refine ao_nil ?_
                try dsimp only [put, List.set_cons_zero, List.set_cons_succ, List.length_cons, List.length_nil, Nat.reduceAdd]
                rw [q_take] at hjs
                rw [q_drop]
                repeat (refine blk_nrm ?_)
                rcases hjs with rfl | rfl
                · exact joinG_nrm ⟨⟨⟨a, b', rest, up ++ [r], now⟩, jd ++ [n0], ju, vd, vu + 1⟩, ⟨0, [], 0⟩, 6, [.int .i64 0, .nsl, .int .i64 0]⟩ ⟨⟨by show rest.length ≤ i; omega, by simp; omega⟩, (fun e => by cases e), fun _ => hhear.mono (by omega)⟩ (by repeat (first | exact Sub.nil | refine Sub.cons (by first | rfl | (simp [get]; done)) ?_)) (Fit.loc hB (by rw [show jd ++ n0 :: rest = (jd ++ [n0]) ++ rest by simp, show List.map eNote ju ++ List.map eNote up ++ [eNote r] = (ju ++ (up ++ [r])).map eNote by simp]; rfl) (by repeat (first | exact EBel.nil | refine EBel.cons (by first | rfl | (simp [AV.bel, AV.bels, Lid]; done)) ?_)) (wbel2 _ _ _ _ rfl rfl))
                · exact joinG_nrm ⟨⟨⟨a, b', rest, up ++ [r], now⟩, jd ++ [n0], [], vd, vu + 1⟩, ⟨0, [], 0⟩, 6, [.int .i64 0, .nsl, .int .i64 0]⟩ ⟨⟨by show rest.length ≤ i; omega, by simp; omega⟩, (fun e => by cases e), fun _ => hhear.mono (by omega)⟩ (by repeat (first | exact Sub.nil | refine Sub.cons (by first | rfl | (simp [get]; done)) ?_)) (Fit.loc hB (by rw [show jd ++ n0 :: rest = (jd ++ [n0]) ++ rest by simp, show [] ++ List.map eNote up ++ [eNote r] = ([] ++ (up ++ [r])).map eNote by simp]; rfl) (by repeat (first | exact EBel.nil | refine EBel.cons (by first | rfl | (simp [AV.bel, AV.bels, Lid]; done)) ?_)) (wbel2 _ _ _ _ rfl rfl))
              · subst hc
                repeat (first | refine blk_nrm ?_ | refine aw_skip ?_)
                exact joinG_nrm ⟨⟨⟨a, b', rest, up, now⟩, jd ++ [n0], ju, vd, vu⟩, ⟨0, [], 0⟩, 6, [.int .i64 0, .nsl, .int .i64 0]⟩ ⟨⟨by show rest.length ≤ i; omega, Nat.le_succ_of_le hul⟩, (fun e => by cases e), fun _ => hhear.mono (by omega)⟩ (by repeat (first | exact Sub.nil | refine Sub.cons (by first | rfl | (simp [get]; done)) ?_)) (Fit.loc hB (by rw [show jd ++ n0 :: rest = (jd ++ [n0]) ++ rest by simp]; rfl) (by repeat (first | exact EBel.nil | refine EBel.cons (by first | rfl | (simp [AV.bel, AV.bels, Lid]; done)) ?_)) (wbel2 _ _ _ _ rfl rfl))
        · repeat (first | refine blk_nrm ?_ | refine aw_skip ?_)
          exact joinG_nrm ⟨⟨⟨a, b, down, up, now⟩, jd, ju, vd, vu⟩, ⟨0, [], 0⟩, 6, [.int .i64 0, .nsl, .int .i64 0]⟩ ⟨⟨hdl, Nat.le_succ_of_le hul⟩, (fun e => by cases e), fun _ => hw.mono (by omega)⟩ (by repeat (first | exact Sub.nil | refine Sub.cons (by rfl) ?_)) (.inl rfl)
      repeat (refine aw_seq ?_)
      refine aw_region ?_
      refine ao1 (by decide) (o_eq rfl rfl) ?_
      refine ao1 (by decide) (o_assign (v := .bool _) rfl) ?_
      refine ao_nil ?_
      repeat (refine then_nrm ?_)
      refine aw_cond rfl (fun hc => ?_) (fun hc => ?_)
      · repeat (refine aw_seq ?_)
        refine aw_region ?_
        refine ao1 (by decide) (o_move (v := .sl _ _ _ _ _) rfl) ?_
        refine ao1 (by decide) (w_lens rfl (lk rfl rfl) rfl) ?_
        refine ao1 (by decide) (o_gt rfl rfl) ?_
        refine ao_nil ?_
        repeat (refine then_nrm ?_)
        refine aw_cond rfl (fun hc => ?_) (fun hc => ?_)
        · cases up with
          | nil => simp at hc
          | cons n0 rest =>
            obtain ⟨hb1, hb2⟩ := hw.back rfl
            have hn0 : n0.things.length ≤ 1000000 := by
              have := sok_256 (may_sok (hw.un n0 List.mem_cons_self).1)
              omega
            have c1 := fun H => lease_Back a hsa n0 hn0 H
            simp only at hb1 hb2
            generalize lback a n0 = z at hb1 hb2 c1
            obtain ⟨a', f⟩ := z
            simp only at hb1 hb2
            subst hb1
            have hq := q_get ju rest n0
            simp only [List.length_cons] at hul
            repeat (refine aw_seq ?_)
            refine aw_drawP mixed none 4 ?_
            try dsimp only [List.take_succ_cons, List.take_zero]
            refine aqp 0 rfl (by decide +kernel) (by decide) (fun G => w_loadR rfl (lk rfl rfl) rfl rfl rfl) ?_
            refine aq0 1 rfl (by decide +kernel) (by decide) (fun _ => o_move (v := .sl _ _ _ _ _) rfl) ?_
            refine aqp 2 rfl (by decide +kernel) (by decide) (fun G => w_indexAddr rfl (lk rfl rfl) rfl rfl rfl (by decide) (by simp)) ?_
            refine aqp 3 rfl (by decide +kernel) (by decide) (fun G => w_loadR rfl (lk rfl rfl) rfl hq rfl) ?_
            refine aq02 4 rfl (by decide +kernel) (by decide) (fun _ => V2.callT (c1 _) rfl rfl) ?_
            refine aq0 5 rfl (by decide +kernel) (by decide) (fun _ => o_move (v := .tup _) rfl) ?_
            refine aq0 6 rfl (by decide +kernel) (by decide) (fun _ => o_extract (v := .agg _) rfl rfl) ?_
            refine aq0 7 rfl (by decide +kernel) (by decide) (fun _ => o_extract (v := .int _ _) rfl rfl) ?_
            refine aqs 8 rfl (by decide +kernel) (by exact fun _ => ⟨_, rfl⟩) (by rintro _ ⟨⟩; decide) (o_allocL (sz := 3) rfl (by decide) rfl) ?_
            refine aqs 9 rfl (by decide +kernel) (by exact fun _ => ⟨_, rfl⟩) (by rintro _ ⟨⟩) (w_storeW (sz := 3) rfl rfl rfl rfl rfl rfl rfl rfl (Nat.le_of_ble_eq_true rfl)) ?_
            refine aq0 10 rfl (by decide +kernel) (by decide) (fun _ => o_assign (v := .int _ _) rfl) ?_
            refine aa_done (by decide +kernel) (by exact fun _ => ⟨_, rfl⟩) ?_
            try dsimp only [List.length_cons, List.length_nil, Nat.reduceAdd, put, List.cons_append, List.nil_append, List.set_cons_zero, List.set_cons_succ]
            repeat (first | refine then_nrm ?_ | refine aw_seq ?_)
            refine aw_region ?_
            refine ao1 (by decide) (o_move (v := .int _ _) rfl) ?_
            refine ao1 (by decide) (o_ne rfl rfl) ?_
            refine ao_nil ?_
            repeat (refine then_nrm ?_)
            refine aw_cond rfl (fun hc => ?_) (fun hc => ?_)
            · simp at hc
            repeat (first | refine then_nrm ?_ | refine aw_seq ?_ | refine aw_skip ?_)
            refine aw_region ?_
            refine ao1 (by decide) (w_loadR rfl (lk rfl rfl) rfl rfl rfl) ?_
            refine ao2 (by rintro _ ⟨⟩) (w_storeW (sz := 3) rfl rfl rfl rfl rfl rfl rfl rfl (Nat.le_of_ble_eq_true rfl)) ?_
            refine ao_nil ?_
            try dsimp only [put, List.set_cons_zero]
            repeat (refine then_nrm ?_)
            refine aw_region ?_
            refine ao1 (by decide) (o_move (v := .sl _ _ _ _ _) rfl) ?_
            refine ao1 (by decide) (w_slices (l := 1) (h := rest.length + 1) rfl (lk rfl rfl) rfl rfl (.some rfl rfl) .none (by omega) (by simp)) ?_
            refine ao1 (by decide) (o_assign (v := .sl _ _ _ _ _) rfl) ?_
            refine ao_nil ?_
            repeat (refine blk_nrm ?_)
            exact joinG_nrm ⟨⟨⟨a', b, down, rest, now⟩, jd, ju ++ [n0], vd, vu⟩, ⟨0, [], 0⟩, 6, [.int .i64 0, .nsl, .int .i64 0]⟩ ⟨⟨hdl, by show rest.length ≤ i + 1; omega⟩, (fun e => by cases e), fun _ => hb2.mono (by omega)⟩ (by repeat (first | exact Sub.nil | refine Sub.cons (by first | rfl | (simp [get]; done)) ?_)) (Fit.loc hB (by rw [show ju ++ n0 :: rest = (ju ++ [n0]) ++ rest by simp]; rfl) (by repeat (first | exact EBel.nil | refine EBel.cons (by first | rfl | (simp [AV.bel, AV.bels, Lid]; done)) ?_)) (wbel2 _ _ _ _ rfl rfl))
        · repeat (first | refine blk_nrm ?_ | refine aw_skip ?_)
          exact joinG_nrm ⟨⟨⟨a, b, down, up, now⟩, jd, ju, vd, vu⟩, ⟨0, [], 0⟩, 6, [.int .i64 0, .nsl, .int .i64 0]⟩ ⟨⟨hdl, Nat.le_succ_of_le hul⟩, (fun e => by cases e), fun _ => hw.mono (by omega)⟩ (by repeat (first | exact Sub.nil | refine Sub.cons (by rfl) ?_)) (.inl rfl)
      repeat (refine aw_seq ?_)
      refine aw_region ?_
      refine ao1 (by decide) (o_eq rfl rfl) ?_
      refine ao1 (by decide) (o_assign (v := .bool _) rfl) ?_
      refine ao_nil ?_
      repeat (refine then_nrm ?_)
      refine aw_cond rfl (fun hc => ?_) (fun hc => ?_)
      · repeat (refine aw_seq ?_)
        refine aw_region ?_
        refine ao1 (by decide) (o_move (v := .int _ _) rfl) ?_
        refine ao1 (by decide) (w_fieldAddr rfl (lk rfl rfl) rfl (by decide)) ?_
        refine ao1 (by decide) (w_load1 (v := .int _ _) rfl (lk rfl rfl) rfl rfl rfl) ?_
        refine ao1 (by decide) (o_conv_int (r := d.at_) rfl (wrap64_ok (by omega) (by omega))) ?_
        refine ao1 (by decide) (o_add (r := now + d.at_) rfl rfl (wrap64_ok (by omega) (by omega))) ?_
        refine ao1 (by decide) (o_assign (v := .int _ _) rfl) ?_
        refine ao_nil ?_
        try dsimp only [Nat.reduceAdd]
        repeat (refine then_nrm ?_)
        refine aw_region ?_
        refine ao1 (by decide) (w_loadR rfl (lk rfl rfl) rfl rfl rfl) ?_
        refine ao1 (by decide) (o_move (v := .int _ _) rfl) ?_
        refine ao_ret (lease_Over b hsb (now + d.at_) 0 _) rfl (by decide) ?_
        refine ao2 (by rintro _ ⟨⟩) (w_storeW (sz := 3) rfl rfl rfl rfl rfl rfl rfl rfl (Nat.le_of_ble_eq_true rfl)) ?_
        refine ao_nil ?_
        try dsimp only [put, List.set_cons_zero, List.set_cons_succ]
        repeat (refine blk_nrm ?_)
        exact joinG_nrm ⟨⟨⟨a, _, down, up, now + d.at_⟩, jd, ju, vd, vu⟩, ⟨0, [], 0⟩, 6, [.int .i64 0, .nsl, .int .i64 0]⟩ ⟨⟨hdl, Nat.le_succ_of_le hul⟩, (fun e => by cases e), fun _ => hw.tick ha0 ha1⟩ (by repeat (first | exact Sub.nil | refine Sub.cons (by rfl) ?_)) (.inl rfl)
      · repeat (fail)
        refine aw_region ?_
        refine ao1 (by decide) (w_loadR rfl (lk rfl rfl) rfl rfl rfl) ?_
        refine ao1 (by decide) (o_move (v := .int _ _) rfl) ?_
        refine ao1 (by decide) (o_move (v := .int _ _) rfl) ?_
        refine ao1 (by decide) (o_conv_int (r := gd) rfl (wrap64_ok (by omega) (by omega))) ?_
        refine ao_ret (lease_Over a hsa now gd _) rfl (by decide) ?_
        refine ao2 (by rintro _ ⟨⟩) (w_storeW (sz := 3) rfl rfl rfl rfl rfl rfl rfl rfl (Nat.le_of_ble_eq_true rfl)) ?_
        refine ao_nil ?_
        try dsimp only [put, List.set_cons_zero]
        repeat (refine blk_nrm ?_)
        exact joinG_nrm ⟨⟨⟨_, b, down, up, now⟩, jd, ju, vd, vu⟩, ⟨0, [], 0⟩, 6, [.int .i64 0, .nsl, .int .i64 0]⟩ ⟨⟨hdl, Nat.le_succ_of_le hul⟩, (fun e => by cases e), fun _ => (hw.over hg0).mono (by omega)⟩ (by repeat (first | exact Sub.nil | refine Sub.cons (by rfl) ?_)) (.inl rfl)
    clear hsa hsb hnow0 hnow1 hdl hul hw
    rintro ⟨⟨⟨a, b, down, up, now⟩, jd, ju, vd, vu⟩, n, e, row⟩ ⟨⟨hdl, hul⟩, he0, he1⟩
    simp only at hdl hul he0 he1 ⊢
    repeat (first | refine then_nrm ?_ | refine aw_seq ?_)
    refine aw_region ?_
    refine ao1 (by decide) (o_move (v := .int _ _) rfl) ?_
    refine ao1 (by decide) (o_eq rfl rfl) ?_
    refine ao_nil ?_
    repeat (refine then_nrm ?_)
    refine aw_joinG (G := WG) (fun g => WInv ((i : Int) + 1) g.s ∧ nb g (i + 1)) (fun g => [(KT, KD.av), (1, .int .u8 gd), (2, .pl (l.map eDo)), (7, .pt (Lid H.length 0) 0 0 0), (8, .pt (Lid H.length 1) 0 0 0), (9, .sl (Lid H.length 2) g.gd g.jd.length g.s.down.length g.s.down.length), (10, .sl (Lid H.length 3) g.gu g.ju.length g.s.up.length g.s.up.length), (11, .int .i64 g.s.now), (12, .int .i64 (i : Int))]) (fun g => wHeap H g) ?_ ?_
    · repeat (fail)
      refine aw_cond rfl (fun hc => ?_) (fun hc => ?_)
      · have he : e = 0 := by simpa using hc
        obtain ⟨rfl, hw⟩ := he0 he
        refine aw_region ?_
        refine ao1 (by decide) (o_move (v := .sl _ _ _ _ _) rfl) ?_
        refine ao1 (by decide) (w_loadR rfl (lk rfl rfl) rfl rfl rfl) ?_
        refine ao2 (by rintro _ ⟨⟩; decide) (g_lit1 (sz := 3) (v := .agg (eNote n)) (cs := eNote n) rfl (by decide) (by decide) rfl rfl rfl rfl rfl) ?_
        refine ao_appO (sz := 3) (bytes := 40) (by decide) rfl rfl rfl rfl rfl (Src.pl (ys := [eNote n]) rfl (notes_len [n])) rfl (by simp) (by simp) (by simp; omega) (by simp; omega) (fun js hjs => ?_)
        refine ao1 (by decide) (o_assign (v := .sl _ _ _ _ _) rfl) ?_
        refine ao_nil ?_
        try dsimp only [List.length_cons, List.length_nil, Nat.reduceAdd, put, List.set_cons_succ, List.set_cons_zero]
        rw [q_take] at hjs
        rw [q_drop]
        rcases hjs with rfl | rfl
        · exact joinG_nrm ⟨⟨a, b, down ++ [n], up, now⟩, jd, ju, vd + 1, vu⟩ ⟨hw, by simp; omega, by show up.length ≤ i + 1; omega⟩ (by repeat (first | exact Sub.nil | refine Sub.cons (by first | rfl | (simp [get]; done)) ?_)) (Fit.loc hB (by rw [show List.map eNote jd ++ List.map eNote down ++ [eNote n] = (jd ++ (down ++ [n])).map eNote by simp]; rfl) (by repeat (first | exact EBel.nil | refine EBel.cons (by first | rfl | (simp [AV.bel, AV.bels, Lid]; done)) ?_)) (wbel _ _))
        · exact joinG_nrm ⟨⟨a, b, down ++ [n], up, now⟩, [], ju, vd + 1, vu⟩ ⟨hw, by simp; omega, by show up.length ≤ i + 1; omega⟩ (by repeat (first | exact Sub.nil | refine Sub.cons (by first | rfl | (simp [get]; done)) ?_)) (Fit.loc hB (by rw [show [] ++ List.map eNote down ++ [eNote n] = ([] ++ (down ++ [n])).map eNote by simp]; rfl) (by repeat (first | exact EBel.nil | refine EBel.cons (by first | rfl | (simp [AV.bel, AV.bels, Lid]; done)) ?_)) (wbel _ _))
      · have he : e ≠ 0 := by simpa using hc
        repeat (refine aw_skip ?_)
        exact joinG_nrm ⟨⟨a, b, down, up, now⟩, jd, ju, vd, vu⟩ ⟨he1 he, by show down.length ≤ i + 1; omega, by show up.length ≤ i + 1; omega⟩ (by repeat (first | exact Sub.nil | refine Sub.cons (by rfl) ?_)) (Fit.loc hB rfl (by repeat (first | exact EBel.nil | refine EBel.cons (by first | rfl | (simp [AV.bel, AV.bels, Lid]; done)) ?_)) (wbel _ _))
    clear he0 he1 hdl hul
    rintro ⟨⟨a, b, down, up, now⟩, jd, ju, vd, vu⟩ ⟨hw, hnb⟩
    have hsa := lright_small hw.ra
    have hsb := lright_small hw.rb
    have cA := fun H => lease_Right a hsa H
    have cB := fun H => lease_Right b hsb H
    have cP := fun H => set_Part b.things a.things hsb.1 hsa.1 H
    have hra := hw.ra
    have hrb := hw.rb
    have hpt := hw.part
    have htt := hw.tt
    simp only at hra hrb hpt htt
    rw [hra] at cA
    rw [hrb] at cB
    rw [hpt] at cP
    repeat (first | refine then_nrm ?_ | refine aw_seq ?_)
    refine aw_out 170 (.bool false) ?_ ?_
    · refine ao1 (by decide) (w_loadR rfl (lk rfl rfl) rfl rfl rfl) ?_
      refine ao_ret (cA _) rfl (by decide) ?_
      refine ao1 (by decide) (o_not rfl) ?_
      refine ao1 (by decide) (o_move (v := .bool _) rfl) ?_
      refine ao_split rfl rfl (fun hg3 => ?_) (fun hg3 => ?_)
      · refine ao_nF rfl rfl (by decide) ?_
        refine ao_nF rfl rfl (by decide) ?_
        refine ao_nF rfl rfl (by decide) ?_
        refine ao1 (by decide) (o_pick_t (v := .bool _) rfl rfl) ?_
        refine ao1 (by decide) (o_move (v := .bool _) rfl) ?_
        refine ao_nF rfl rfl (by decide) ?_
        refine ao_nF rfl rfl (by decide) ?_
        refine ao_nF rfl rfl (by decide) ?_
        refine ao_nF rfl rfl (by decide) ?_
        refine ao_nF rfl rfl (by decide) ?_
        refine ao_nF rfl rfl (by decide) ?_
        refine ao1 (by decide) (o_pick_t (v := .bool _) rfl rfl) ?_
        refine ao1 (by decide) (o_move (v := .bool _) rfl) ?_
        refine ao_nF rfl rfl (by decide) ?_
        refine ao_nF rfl rfl (by decide) ?_
        refine ao_nF rfl rfl (by decide) ?_
        refine ao_nF rfl rfl (by decide) ?_
        refine ao_nF rfl rfl (by decide) ?_
        refine ao1 (by decide) (o_pick_t (v := .bool _) rfl rfl) ?_
        exact ao_nil (Out.mk (by (refine congrArg AV.bool ?_; (clear cA cB cP; (simp_all; done)))) (by repeat (first | exact SubX.refl _ _ | refine SubX.at ?_ | refine SubX.put rfl ?_)))
      · refine ao_y1 rfl rfl (by decide) (w_loadR rfl (lk rfl rfl) rfl rfl rfl) ?_
        refine ao_y rfl rfl (by decide) (V2.call (cB _) rfl) ?_
        refine ao_y1 rfl rfl (by decide) (o_not rfl) ?_
        refine ao1 (by decide) (o_pick_f (v := .bool _) rfl rfl) ?_
        refine ao1 (by decide) (o_move (v := .bool _) rfl) ?_
        refine ao_split rfl rfl (fun hg8 => ?_) (fun hg8 => ?_)
        · refine ao_nF rfl rfl (by decide) ?_
          refine ao_nF rfl rfl (by decide) ?_
          refine ao_nF rfl rfl (by decide) ?_
          refine ao_nF rfl rfl (by decide) ?_
          refine ao_nF rfl rfl (by decide) ?_
          refine ao_nF rfl rfl (by decide) ?_
          refine ao1 (by decide) (o_pick_t (v := .bool _) rfl rfl) ?_
          refine ao1 (by decide) (o_move (v := .bool _) rfl) ?_
          refine ao_nF rfl rfl (by decide) ?_
          refine ao_nF rfl rfl (by decide) ?_
          refine ao_nF rfl rfl (by decide) ?_
          refine ao_nF rfl rfl (by decide) ?_
          refine ao_nF rfl rfl (by decide) ?_
          refine ao1 (by decide) (o_pick_t (v := .bool _) rfl rfl) ?_
          exact ao_nil (Out.mk (by (refine congrArg AV.bool ?_; (clear cA cB cP; (simp_all; done)))) (by repeat (first | exact SubX.refl _ _ | refine SubX.at ?_ | refine SubX.put rfl ?_)))
        · refine ao_y1 rfl rfl (by decide) (w_fieldAddr rfl (lk rfl rfl) rfl (by decide)) ?_
          refine ao_y1 rfl rfl (by decide) (w_load1 (v := .pl _) rfl (lk rfl rfl) rfl rfl rfl) ?_
          refine ao_y1 rfl rfl (by decide) (w_fieldAddr rfl (lk rfl rfl) rfl (by decide)) ?_
          refine ao_y1 rfl rfl (by decide) (w_load1 (v := .pl _) rfl (lk rfl rfl) rfl rfl rfl) ?_
          refine ao_y rfl rfl (by decide) (V2.call (cP _) rfl) ?_
          refine ao_y1 rfl rfl (by decide) (o_not rfl) ?_
          refine ao1 (by decide) (o_pick_f (v := .bool _) rfl rfl) ?_
          refine ao1 (by decide) (o_move (v := .bool _) rfl) ?_
          refine ao_split rfl rfl (fun hg16 => ?_) (fun hg16 => ?_)
          · refine ao_nF rfl rfl (by decide) ?_
            refine ao_nF rfl rfl (by decide) ?_
            refine ao_nF rfl rfl (by decide) ?_
            refine ao_nF rfl rfl (by decide) ?_
            refine ao_nF rfl rfl (by decide) ?_
            refine ao1 (by decide) (o_pick_t (v := .bool _) rfl rfl) ?_
            exact ao_nil (Out.mk (by (refine congrArg AV.bool ?_; (clear cA cB cP; (simp_all; done)))) (by repeat (first | exact SubX.refl _ _ | refine SubX.at ?_ | refine SubX.put rfl ?_)))
          · refine ao_y1 rfl rfl (by decide) (w_fieldAddr rfl (lk rfl rfl) rfl (by decide)) ?_
            refine ao_y1 rfl rfl (by decide) (w_load1 (v := .int _ _) rfl (lk rfl rfl) rfl rfl rfl) ?_
            refine ao_y1 rfl rfl (by decide) (w_fieldAddr rfl (lk rfl rfl) rfl (by decide)) ?_
            refine ao_y1 rfl rfl (by decide) (w_load1 (v := .int _ _) rfl (lk rfl rfl) rfl rfl rfl) ?_
            refine ao_y1 rfl rfl (by decide) (o_gt rfl rfl) ?_
            refine ao1 (by decide) (o_pick_f (v := .bool _) rfl rfl) ?_
            exact ao_nil (Out.mk (by (refine congrArg AV.bool ?_; (clear cA cB cP; (simp_all; done)))) (by repeat (first | exact SubX.refl _ _ | refine SubX.at ?_ | refine SubX.put rfl ?_)))
    repeat (refine then_nrm ?_)
    refine aw_cond rfl (fun hc => ?_) (fun hc => ?_)
    · cases hc
    repeat (first | refine then_nrm ?_ | refine blk_nrm ?_ | refine aw_skip ?_)
    refine aw_region ?_
    refine ao1 (by decide) (o_move (v := .int _ _) rfl) ?_
    refine ao1 (by decide) (o_add (r := ((i + 1 : Nat) : Int)) rfl rfl (wrap64_ok (by omega) (by omega))) ?_
    refine ao1 (by decide) (o_assign (v := .int _ _) rfl) ?_
    refine ao_nil ?_
    try dsimp only
    repeat (refine then_nrm ?_)
    exact ⟨⟨⟨⟨a, b, down, up, now⟩, jd, ju, vd, vu⟩, i + 1⟩, by simp only; omega, ⟨hw, hnb, by simp only; omega⟩, (by repeat (first | exact Sub.nil | refine Sub.cons (by rfl) ?_)), .inl rfl⟩
  · repeat (first | refine then_nrm ?_ | refine then_brk ?_ | refine blk_hit ?_ | refine aw_seq ?_ | refine aw_exit ?_)
    refine aw_region ?_
    refine ao1 (by decide) (o_assign (v := .bool _) rfl) ?_
    refine ao_nil ?_
    repeat (first | refine then_nrm ?_ | refine aw_ret ?_)
    exact e_done hB (r_tmp rfl .nil) rfl rfl
end Go.Av
