/- Parts of the proof: rules for an abstract memory, plain laws, and walks through the program. -/
import Derived.Test.YtcncbmpblkgfjaaGreatDoorInstP0
import Derived.Test.YtcncbmpblkgfjaaGreatDoorInstP4
import Derived.Test.YtcncbmpblkgfjaaGreatDoorInstP3
import Derived.ChangeKeysEq
import Derived.Test.YtcncbmpblkgfjaaGreatDoorInstP2
import Derived.Lib.LaidTab
import Derived.LaidMore
import Derived.Handed
import Derived.Test.YtcncbmpblkgfjaaGreatDoorRows
set_option linter.unusedVariables false
set_option linter.unusedSimpArgs false
namespace Go.Av
open Go.Proofs
set_option maxRecDepth 10000
set_option linter.unusedSimpArgs false
set_option linter.unusedVariables false
theorem pickL_things {g : List Thing} {use : List Int} {now til policy depth : Int} : ∀ (ws : List Want) (s : PickS), (∀ h ∈ s.begun, h.things.length ≤ 256) → ∀ h ∈ (pickL g use now til policy depth s ws).1, h.things.length ≤ 256
  | [], s, hs, h, hh => hs h hh
  | w :: ws, s, hs, h, hh => by
    have hl := slotFirst_len g use s.l w.spec now til
    generalize hf : slotFirst g use s.l w.spec now til = f at hl
    obtain ⟨t, th, ok⟩ := f
    rw [pickL_cons hf] at hh
    split at hh
    · exact pickL_things ws s hs h hh
    · split at hh
      · exact hs h hh
      · split at hh
        · exact pickL_things ws s hs h hh
        · split at hh
          · simp at hh
          · split at hh
            · refine pickL_things ws _ (fun x hx => ?_) h hh
              rcases List.mem_append.1 hx with hx | hx
              · exact hs x hx
              · simp only [List.mem_singleton] at hx
                subst hx
                exact hl
            · exact pickL_things ws ⟨(heldAdd s.l ⟨w.id, th, t, sEnds w.spec t⟩).1, s.begun, s.kept ++ [⟨w.id, th, t, sEnds w.spec t⟩]⟩ hs h hh
theorem wstart_things (w : Inst) : ∀ h ∈ wstart w, h.things.length ≤ 1000000 := by
  intro h hh
  unfold wstart pickAll at hh
  split at hh
  · simp at hh
  · exact Nat.le_trans (pickL_things _ _ (by simp) h hh) (by decide)
theorem pickL_len {g : List Thing} {use : List Int} {now til policy depth : Int} : ∀ (ws : List Want) (s : PickS), (pickL g use now til policy depth s ws).1.length ≤ s.begun.length + ws.length
  | [], s => by simp [pickL]
  | w :: ws, s => by
    generalize hf : slotFirst g use s.l w.spec now til = f
    obtain ⟨t, th, ok⟩ := f
    rw [pickL_cons hf]
    have h1 := pickL_len ws s (g := g) (use := use) (now := now) (til := til) (policy := policy) (depth := depth)
    split
    · simp; omega
    · split
      · simp
      · split
        · simp; omega
        · split
          · simp
          · split
            · have := pickL_len ws ⟨(heldAdd s.l ⟨w.id, th, t, sEnds w.spec t⟩).1, s.begun ++ [⟨w.id, th, t, sEnds w.spec t⟩], s.kept⟩ (g := g) (use := use) (now := now) (til := til) (policy := policy) (depth := depth)
              simp at this ⊢; omega
            · have := pickL_len ws ⟨(heldAdd s.l ⟨w.id, th, t, sEnds w.spec t⟩).1, s.begun, s.kept ++ [⟨w.id, th, t, sEnds w.spec t⟩]⟩ (g := g) (use := use) (now := now) (til := til) (policy := policy) (depth := depth)
              simp at this ⊢; omega
theorem wstart_len (w : Inst) : (wstart w).length ≤ (wwants w).length := by
  unfold wstart pickAll
  split
  · simp
  · exact Nat.le_trans (pickL_len _ _) (by simp)
theorem readyIds_len (l : List Job) : (jobsReadyIds l).length ≤ l.length := by
  unfold jobsReadyIds
  split
  · rw [List.length_map, byPrio_len]
    exact List.length_filter_le _ _
  · simp
def bgn (w : Inst) (k : Nat) : Inst := ((wstart w).take k).foldl (fun a h => { (wdo a h.id 3 a.now).1 with table := (heldAdd (wdo a h.id 3 a.now).1.table h).1 }) w
theorem bgn_all (w : Inst) : bgn w (wstart w).length = wbegin w := by rw [bgn, List.take_length]; rfl
theorem bgn_step {w : Inst} {k : Nat} {h : Held} (e : (wstart w)[k]? = some h) : bgn w (k + 1) = wtable (wdo (bgn w k) h.id 3 (bgn w k).now).1 (heldAdd (wdo (bgn w k) h.id 3 (bgn w k).now).1.table h).1 := by
  rw [bgn, bgn, List.take_add_one, e, List.foldl_append]; rfl
theorem RI.bgn {w : Inst} (hw : RI w) : ∀ k, RI (bgn w k)
  | 0 => hw
  | k + 1 => by
    cases e : (wstart w)[k]? with
    | none =>
      have hl : (wstart w).length ≤ k := by simpa using e
      have : Av.bgn w (k + 1) = Av.bgn w k := by rw [Av.bgn, Av.bgn, List.take_of_length_le (by omega), List.take_of_length_le hl]
      rw [this]
      exact RI.bgn hw k
    | some h =>
      rw [bgn_step e]
      have h1 := (RI.bgn hw k).wdo h.id 3 (Av.bgn w k).now
      have h2 := wstart_things w h (List.mem_of_getElem? e)
      exact ⟨⟨h1.iw.graph, h1.iw.health, h1.iw.lease, h1.iw.jobs, h1.iw.table.add h2⟩, h1.jw⟩
theorem RI.begin {w : Inst} (hw : RI w) : RI (wbegin w) := by rw [← bgn_all]; exact hw.bgn _
set_option maxHeartbeats 0 in
theorem worker_begin (w : Inst) (p : Nat) (H : Heap) (hw : RI w) (h20 : w.jobs.length < 20) (hid : H[p]? = some ⟨0, 9, [eInst w]⟩) : ACT Tryz.prog KD 142 [.pt p 0 0 0] H (Ret (.tup []) (H.set p ⟨0, 9, [eInst (wbegin w)]⟩)) := by
  have hpl : p < H.length := (List.getElem?_eq_some_iff.1 hid).1
  have hF := hid
  have hjw := hw.jw
  have hrl := readyIds_len w.jobs
  have hwl : (wwants w).length = (jobsReadyIds w.jobs).length := by simp [wwants]
  refine ACT.body (N := 109) [] Tryz.func142 rfl rfl rfl (Nat.le_of_ble_eq_true rfl) fun B hB => ?_
  repeat (refine aw_seq ?_)
  refine Z2p ?_
  repeat (first | refine then_nrm ?_ | refine aw_seq ?_)
  refine aw_ghostL (k := 0) 2 8 rfl (by decide) rfl ?_
  refine Zgp ?_
  refine ao_ret (queue_Ready _ _ (by assumption) (by assumption)) rfl (by decide) ?_
  refine Z34 ?_
  refine Zi4 ?_
  repeat (first | refine then_nrm ?_ | refine aw_block ?_)
  refine aw_loop (G := Nat) (fun k => k ≤ (jobsReadyIds w.jobs).length) (fun k => [(KT, KD.av), (0, .pt p 0 0 0), (2, .sl (Lid H.length 0) k 0 k k), (17, .pl ((jobsReadyIds w.jobs).map eI)), (18, .int .i64 ((jobsReadyIds w.jobs).length : Int)), (19, .int .i64 (k : Int))]) (fun k => H ++ [⟨k, 8, ((wwants w).take k).map eWant⟩]) (fun k => (jobsReadyIds w.jobs).length - k) 0 (Nat.zero_le _) (by repeat (first | exact Sub.nil | refine Sub.cons (by first | rfl | (simp [get]; done)) ?_)) (.inl rfl) ?_
  intro k hk
  repeat (refine aw_seq ?_)
  refine Z36 ?_
  repeat (first | refine then_nrm ?_ | refine aw_seq ?_)
  refine aw_cond rfl (fun hc => ?_) (fun hc => ?_)
  · have hlt : k < (jobsReadyIds w.jobs).length := by simpa using hc
    obtain ⟨x, hx, hxl⟩ := get_in hlt
    have hr := map_get eI hx
    have hwk : (wwants w)[k]? = some ⟨x, (jobsGet w.jobs x).1.spec⟩ := by rw [wwants, List.getElem?_map, hx]; rfl
    have htk := take_snoc_get hwk
    clear hc
    repeat (first | refine then_nrm ?_ | refine aw_seq ?_ | refine aw_block ?_ | refine aw_skip ?_)
    refine Z3b ?_
    repeat (first | refine then_nrm ?_ | refine aw_seq ?_)
    refine Zgp ?_
    refine Z6 ?_
    refine Zgs ?_
    refine Z63 ?_
    refine Zdu ?_
    refine Z9 ?_
    refine Zdw ?_
    repeat (refine then_nrm ?_)
    refine Z79 ?_
    refine Z1z ?_
    refine Zk2 ?_
    refine ao1 (by decide) (V1.up (o_build (cs := [.int _ _, .int _ _, .int _ _, .int _ _, .str _, .bool _, .int _ _, .int _ _]) rfl)) ?_
    refine ao2 (by rintro _ ⟨⟩; decide) (g_lit1 (sz := 8) (v := .agg (eWant ⟨x, (jobsGet w.jobs x).1.spec⟩)) (cs := eWant ⟨x, (jobsGet w.jobs x).1.spec⟩) rfl (by decide) (by decide) rfl rfl rfl rfl rfl) ?_
    refine ao2 (by rintro _ ⟨⟩; decide) (w_append rfl rfl rfl rfl rfl (Src.pl (ys := [eWant ⟨x, (jobsGet w.jobs x).1.spec⟩]) rfl (by simp)) rfl (by simp; omega) (by simp) (by simp; omega) (by simp; omega)) ?_
    refine Z7c ?_
    try dsimp only [List.length_cons, List.length_nil, Nat.reduceAdd, AV.up, put, List.set_cons_zero]
    rw [show ((wwants w).take k).map eWant = ((wwants w).take k).map eWant from rfl, List.take_of_length_le (by simp; omega)]
    repeat (first | refine then_nrm ?_ | refine blk_nrm ?_)
    refine Z3i ?_
    repeat (refine then_nrm ?_)
    refine ⟨k + 1, by omega, by omega, (by repeat (first | exact Sub.nil | refine Sub.cons (by rfl) ?_)), ?_⟩
    rw [htk]
    refine Fit.loc hB (by rw [List.map_append]; rfl) (by repeat (first | exact EBel.nil | refine EBel.cons (by first | rfl | (simp [AV.bel, AV.bels, Lid]; done) | (simp [AV.bel, AV.bels, Lid]; omega)) ?_)) ?_
    intro o ho r hr
    simp only [List.mem_singleton] at ho
    subst ho
    simp only [List.mem_map] at hr
    obtain ⟨y, _, rfl⟩ := hr
    rfl
  · have : k = (jobsReadyIds w.jobs).length := by simp at hc; omega
    subst this
    rw [← hwl, List.take_length]
    have hwn : (wwants w).length ≤ 1000000 := by omega
    clear hc
    repeat (first | refine then_nrm ?_ | refine then_brk ?_ | refine blk_hit ?_ | refine aw_seq ?_ | refine aw_exit ?_)
    refine aw_freezeL (ys := (wwants w).map eWant) 2 rfl rfl rfl rfl (by rw [List.drop_zero, List.take_of_length_le (by simp)]) (by simp) (fun r hr => by
      simp only [List.mem_map] at hr
      obtain ⟨y, _, rfl⟩ := hr
      rfl) ?_
    have w1 := hw.iw.graph
    have w6 := hw.iw.table
    have hul : (iusable w).length ≤ 1000000 := setl_le _ _ _
    refine Zjj ?_
    try dsimp only [List.set_cons_zero, List.take_zero]
    refine Zev ?_
    refine Zew ?_
    refine Zex ?_
    refine Zey ?_
    refine Zez ?_
    refine Zf0 ?_
    refine aqp2 6 rfl (by decide +kernel) (by decide) (fun G => V2.callT (worker_usable w p _ hw.iw (lkF hF)) rfl rfl) ?_
    refine Zfm ?_
    refine aqp 8 rfl (by decide +kernel) (by decide) (fun G => w_nilCheck rfl (lkF hF) rfl) ?_
    refine aqp 9 rfl (by decide +kernel) (by decide) (fun G => w_fieldAddr rfl (lkF hF) rfl (by decide)) ?_
    refine aqp 10 rfl (by decide +kernel) (by decide) (fun G => w_fieldAddr rfl (lkF hF) rfl (by decide)) ?_
    refine aqp 11 rfl (by decide +kernel) (by decide) (fun G => w_load1 (v := .pl _) rfl (lkF hF) rfl rfl rfl) ?_
    refine aq0 12 rfl (by decide +kernel) (by decide) (fun _ => o_move (v := .pl _) rfl) ?_
    refine aq0 13 rfl (by decide +kernel) (by decide) (fun _ => o_move (v := .pt _ _ _ _) rfl) ?_
    refine aqp 14 rfl (by decide +kernel) (by decide) (fun G => w_nilCheck rfl (lkF hF) rfl) ?_
    refine aqp 15 rfl (by decide +kernel) (by decide) (fun G => w_fieldAddr rfl (lkF hF) rfl (by decide)) ?_
    refine aqp 16 rfl (by decide +kernel) (by decide) (fun G => w_fieldAddr rfl (lkF hF) rfl (by decide)) ?_
    refine aqp 17 rfl (by decide +kernel) (by decide) (fun G => w_load1 (v := .int _ _) rfl (lkF hF) rfl rfl rfl) ?_
    refine aq0 18 rfl (by decide +kernel) (by decide) (fun _ => o_move (v := .pt _ _ _ _) rfl) ?_
    refine aqp 19 rfl (by decide +kernel) (by decide) (fun G => w_nilCheck rfl (lkF hF) rfl) ?_
    refine aqp 20 rfl (by decide +kernel) (by decide) (fun G => w_fieldAddr rfl (lkF hF) rfl (by decide)) ?_
    refine aqp 21 rfl (by decide +kernel) (by decide) (fun G => w_fieldAddr rfl (lkF hF) rfl (by decide)) ?_
    refine aqp 22 rfl (by decide +kernel) (by decide) (fun G => w_load1 (v := .int _ _) rfl (lkF hF) rfl rfl rfl) ?_
    refine aq0 23 rfl (by decide +kernel) (by decide) (fun _ => o_move (v := .pt _ _ _ _) rfl) ?_
    refine aqp 24 rfl (by decide +kernel) (by decide) (fun G => w_nilCheck rfl (lkF hF) rfl) ?_
    refine aqp 25 rfl (by decide +kernel) (by decide) (fun G => w_fieldAddr rfl (lkF hF) rfl (by decide)) ?_
    refine aqp 26 rfl (by decide +kernel) (by decide) (fun G => w_fieldAddr rfl (lkF hF) rfl (by decide)) ?_
    refine aqp 27 rfl (by decide +kernel) (by decide) (fun G => w_load1 (v := .int _ _) rfl (lkF hF) rfl rfl rfl) ?_
    refine aq0 28 rfl (by decide +kernel) (by decide) (fun _ => o_move (v := .pt _ _ _ _) rfl) ?_
    refine aqp 29 rfl (by decide +kernel) (by decide) (fun G => w_nilCheck rfl (lkF hF) rfl) ?_
    refine aqp 30 rfl (by decide +kernel) (by decide) (fun G => w_fieldAddr rfl (lkF hF) rfl (by decide)) ?_
    refine aqp 31 rfl (by decide +kernel) (by decide) (fun G => w_fieldAddr rfl (lkF hF) rfl (by decide)) ?_
    refine aqp 32 rfl (by decide +kernel) (by decide) (fun G => w_load1 (v := .int _ _) rfl (lkF hF) rfl rfl rfl) ?_
    refine aq02 33 rfl (by decide +kernel) (by decide) (fun _ => V2.callT (pick_Pick w.graph (iusable w) w.table (wwants w) w.now w.til w.policy w.depth _ w6 w1 hul hwn) rfl rfl) ?_
    refine aq0 34 rfl (by decide +kernel) (by decide) (fun _ => o_move (v := .tup _) rfl) ?_
    refine aq0 35 rfl (by decide +kernel) (by decide) (fun _ => o_extract (v := .pl _) rfl rfl) ?_
    refine aq0 36 rfl (by decide +kernel) (by decide) (fun _ => o_extract (v := .pl _) rfl rfl) ?_
    refine aq0 37 rfl (by decide +kernel) (by decide) (fun _ => o_extract (v := .int _ _) rfl rfl) ?_
    refine aq0 38 rfl (by decide +kernel) (by decide) (fun _ => o_assign (v := .pl _) rfl) ?_
    refine aq0 39 rfl (by decide +kernel) (by decide) (fun _ => o_assign (v := .pl _) rfl) ?_
    refine aq0 40 rfl (by decide +kernel) (by decide) (fun _ => o_assign (v := .int _ _) rfl) ?_
    refine Zfb ?_
    repeat (first | refine then_nrm ?_ | refine aw_seq ?_)
    refine Z5t ?_
    repeat (first | refine then_nrm ?_ | refine aw_block ?_)
    have hF0 : ∀ k, (H.set p ⟨0, 9, [eInst (bgn w k)]⟩)[p]? = some ⟨0, 9, [eInst (bgn w k)]⟩ := fun k => List.getElem?_set_self (List.getElem?_eq_some_iff.1 hid).1
    clear hk
    refine aw_loop (G := Nat) (fun k => k ≤ (wstart w).length) (fun k => [(0, .pt p 0 0 0), (79, .pl ((wstart w).map eHeld)), (80, .int .i64 ((wstart w).length : Int)), (81, .int .i64 (k : Int))]) (fun k => H.set p ⟨0, 9, [eInst (bgn w k)]⟩ ++ []) (fun k => (wstart w).length - k) 0 (Nat.zero_le _) (by refine .cons rfl (.cons rfl (.cons ?_ (.cons rfl .nil))); show AV.int .i64 _ = _; rw [List.length_map]; rfl) (by rw [show bgn w 0 = w from rfl, set_same hid]; exact Fit.loc hB rfl (by repeat (first | exact EBel.nil | refine EBel.cons (by first | rfl | (simp [AV.bel, AV.bels, Lid]; omega)) ?_)) (fun o ho => by simp at ho)) ?_
    intro k hk
    have hri := hw.bgn k
    have hwl2 := wstart_len w
    clear hF
    have hF := hF0 k
    repeat (refine aw_seq ?_)
    refine Z36 ?_
    repeat (first | refine then_nrm ?_ | refine aw_seq ?_)
    refine aw_cond rfl (fun hc => ?_) (fun hc => ?_)
    · have hlt : k < (wstart w).length := by simpa using hc
      obtain ⟨x, hx, hxl⟩ := get_in hlt
      have hr := map_get eHeld hx
      have hxw := wstart_things w x hxl
      have hst := bgn_step hx
      have hri1 := hri.wdo x.id 3 (bgn w k).now
      clear hc
      repeat (first | refine then_nrm ?_ | refine aw_seq ?_ | refine aw_block ?_ | refine aw_skip ?_)
      refine Zca ?_
      refine Z7s ?_
      clear hr hx
      repeat (first | refine then_nrm ?_ | refine aw_seq ?_)
      refine Zjs ?_
      refine Zjv ?_
      refine Zev ?_
      refine Zk8 ?_
      refine Zk9 ?_
      refine Zka ?_
      refine Zkb ?_
      refine Zkc ?_
      refine Zkd ?_
      refine Zke ?_
      refine aqs 8 rfl (by decide +kernel) (by exact fun _ => ⟨_, rfl⟩) (by rintro _ ⟨⟩; decide) (V2.callF (worker_do (bgn w k) x.id 3 (bgn w k).now p _ hri.jw (hri.jw.do _ _ _) hri.iw.table (lkF hF)) rfl hF) ?_
      refine Z5z ?_
      refine Zkf ?_
      rw [List.set_set]
      generalize (wdo (bgn w k) x.id 3 (bgn w k).now).1 = a1 at *
      clear hF
      have hF : (H.set p ⟨0, 9, [eInst a1]⟩)[p]? = some ⟨0, 9, [eInst a1]⟩ := List.getElem?_set_self (List.getElem?_eq_some_iff.1 hid).1
      have hat := hri1.iw.table
      rw [show (H.set p ⟨0, 9, [eInst (bgn w k)]⟩).length = (H.set p ⟨0, 9, [eInst a1]⟩).length by rw [List.length_set, List.length_set]]
      repeat (refine then_nrm ?_)
      refine aw_drawP mixed (some 14) 999 ?_
      refine Zjv ?_
      refine Zev ?_
      refine aq0 1 rfl (by decide +kernel) (by decide) (fun _ => o_move (v := .pt _ _ _ _) rfl) ?_
      refine aqp 2 rfl (by decide +kernel) (by decide) (fun G => w_nilCheck rfl (lkF hF) rfl) ?_
      refine Zey ?_
      refine Ziz ?_
      refine aqp 5 rfl (by decide +kernel) (by decide) (fun G => w_load1 (v := .pl _) rfl (lkF hF) rfl rfl rfl) ?_
      refine aqp 6 rfl (by decide +kernel) (by decide) (fun G => w_loadR rfl (lk rfl rfl) rfl rfl rfl) ?_
      refine aq02 7 rfl (by decide +kernel) (by decide) (fun _ => V2.call (held_Add a1.table x _ hat hxw) rfl) ?_
      refine Zki ?_
      refine Zk0 ?_
      refine aq0 10 rfl (by decide +kernel) (by decide) (fun _ => o_extract (v := .int _ _) rfl rfl) ?_
      refine aqpz [13, 12, 11] 11 rfl (by decide +kernel) (by decide) (fun G => w_nilCheck rfl (lkF hF) rfl) ?_
      refine aqpz [13, 12] 12 rfl (by decide +kernel) (by decide) (fun G => w_fieldAddr rfl (lkF hF) rfl (by decide)) ?_
      refine Zf8 ?_
      refine aqs 14 rfl (by decide +kernel) (by exact fun _ => ⟨_, rfl⟩) (by rintro _ ⟨⟩) (w_storeFP (r' := eInst (wtable a1 (heldAdd a1.table x).1)) rfl hF rfl rfl rfl rfl rfl (Nat.le_of_ble_eq_true rfl) rfl) ?_
      refine Z5z ?_
      refine Z4l ?_
      simp only [List.set_cons_zero, List.set_set]
      rw [← hst]
      repeat (first | refine then_nrm ?_ | refine blk_nrm ?_)
      refine Z3i ?_
      repeat (refine then_nrm ?_)
      refine ⟨k + 1, by omega, by omega, (by repeat (first | exact Sub.nil | refine Sub.cons (by rfl) ?_)), Fit.locF hB (by simp) (by repeat (first | exact EBel.nil | refine EBel.cons (by first | rfl | (simp [AV.bel, AV.bels, Lid]; omega)) ?_)) (hB.heap.set p _ (inst_bel _ _))⟩
    · have : k = (wstart w).length := by simp at hc; omega
      subst this
      rw [bgn_all]
      repeat (first | refine then_brk ?_ | refine blk_hit ?_ | refine aw_exit ?_)
      exact e_doneF hB .nil rfl rfl (by simp) (hB.heap.set p _ (inst_bel _ _))
end Go.Av

namespace Go.Av
theorem jobsDo_len (l : List Job) (id what at_ : Int) : (jobsDo l id what at_).1.length = l.length := by
  unfold jobsDo
  split
  · rfl
  · split
    · rfl
    · exact List.length_set
theorem wdo_jlen (w : Inst) (id what at_ : Int) : (wdo w id what at_).1.jobs.length = w.jobs.length := by
  unfold wdo
  split
  · rfl
  · split
    · exact jobsDo_len _ _ _ _
    · exact jobsDo_len _ _ _ _
theorem foldl_jlen {α : Type} {f : Inst → α → Inst} (hf : ∀ a x, (f a x).jobs.length = a.jobs.length) : ∀ (l : List α) (w : Inst), (l.foldl f w).jobs.length = w.jobs.length
  | [], _ => rfl
  | x :: l, w => by rw [List.foldl_cons, foldl_jlen hf l, hf]
theorem wbroken_jlen (w : Inst) : (wbroken w).jobs.length = w.jobs.length := foldl_jlen (fun a x => by split; rfl; exact wdo_jlen _ _ _ _) _ _
theorem wrefuse_jlen (w : Inst) : (wrefuse w).jobs.length = w.jobs.length := foldl_jlen (fun a x => by split; exact wdo_jlen _ _ _ _; rfl) _ _
theorem wbegin_jlen (w : Inst) : (wbegin w).jobs.length = w.jobs.length := by
  unfold wbegin
  generalize wstart w = l
  refine foldl_jlen (fun a x => ?_) l w
  show (wdo a x.id 3 a.now).1.jobs.length = _
  exact wdo_jlen a x.id 3 a.now
theorem wlook_jlen (w : Inst) : (wlook w).jobs.length = w.jobs.length := by rw [wlook, wbegin_jlen, wrefuse_jlen, wbroken_jlen]
def tck (i : Inst) (now : Int) (k : Nat) : Inst := ((heldOver i.table now).2.take k).foldl (fun a h => (wdo a h.id 5 h.to).1) { i with now := now }
theorem tck_all (i : Inst) (now : Int) : tck i now (heldOver i.table now).2.length = (heldOver i.table now).2.foldl (fun a h => (wdo a h.id 5 h.to).1) { i with now := now } := by rw [tck, List.take_length]
theorem tck_step {i : Inst} {now : Int} {k : Nat} {h : Held} (e : (heldOver i.table now).2[k]? = some h) : tck i now (k + 1) = (wdo (tck i now k) h.id 5 h.to).1 := by
  rw [tck, tck, List.take_add_one, e, List.foldl_append]; rfl
theorem RI.now {i : Inst} (h : RI i) (now : Int) : RI { i with now := now } := ⟨⟨h.iw.graph, h.iw.health, h.iw.lease, h.iw.jobs, h.iw.table⟩, h.jw⟩
theorem RI.tck {i : Inst} (h : RI i) (now : Int) (k : Nat) : RI (tck i now k) := RI.foldl (fun a x ha => ha.wdo _ _ _) _ (h.now now)
theorem tck_jlen (i : Inst) (now : Int) (k : Nat) : (tck i now k).jobs.length = i.jobs.length := foldl_jlen (fun a x => wdo_jlen _ _ _ _) _ _
theorem heldOver_len (l : List Held) (now : Int) : (heldOver l now).2.length ≤ l.length := by
  unfold heldOver
  split
  · exact List.length_filter_le _ _
  · simp
theorem JW.add {l : List Job} (h : JW l) (s : Spec) {needs : List Int} (now : Int) (hn : needs.length ≤ 1000000) (hl : l.length < 1000000) : JW (jobsAdd l s needs now).1 := by
  have key : ∀ id, JW (l ++ [⟨id, s, needs, 0, now, 0, 0⟩]) := fun id => ⟨by simp; omega, fun j hj => by
    rcases List.mem_append.1 hj with hj | hj
    · exact h.2 j hj
    · simp only [List.mem_singleton] at hj
      subst hj
      exact hn⟩
  unfold jobsAdd
  repeat (first | exact h | exact key _ | split)
theorem jobsAdd_len (l : List Job) (s : Spec) (needs : List Int) (now : Int) : (jobsAdd l s needs now).1.length ≤ l.length + 1 := by
  unfold jobsAdd
  split
  · simp
  · split
    · simp
    · split
      · simp
      · split
        · simp
        · simp
theorem RI.jobs {i : Inst} (h : RI i) {l : List Job} (hl : JW l) : RI { i with jobs := l } := ⟨⟨h.iw.graph, h.iw.health, h.iw.lease, hl.1, h.iw.table⟩, hl⟩
theorem RI.lend {i : Inst} (h : RI i) {l : List Int} (til : Int) (hl : l.length ≤ 1000000) : RI { i with lease := l, til := til } := ⟨⟨h.iw.graph, h.iw.health, hl, h.iw.jobs, h.iw.table⟩, h.jw⟩
theorem hset_len (g : List Thing) (h : List Int) (n how : Int) : (hset g h n how).1.length = h.length := by
  unfold hset
  split
  · rfl
  · split
    · rfl
    · exact List.length_set
theorem RI.mark {i : Inst} (h : RI i) (n how : Int) : RI { i with health := (hset i.graph i.health n how).1 } := ⟨⟨h.iw.graph, by show (hset _ _ _ _).1.length ≤ _; rw [hset_len]; exact h.iw.health, h.iw.lease, h.iw.jobs, h.iw.table⟩, h.jw⟩
end Go.Av

namespace Go.Av
open Go.Proofs
set_option maxRecDepth 10000
set_option linter.unusedSimpArgs false
set_option linter.unusedVariables false
theorem V2.callTF {P : Program} {N : Nat} {env : Env} {K : Know} {H0 L : Heap} {ty : TypeId} {f p : Nat} {xs : Array Operand} {ts : Array TypeId} {vs : List AV} {v : AV} {o o0 : AObj} [FnI P f] (hac : ACT P K f vs (H0 ++ L) (Ret v ((H0 ++ L).set p o))) (hvs : xs.toList.map (aev env) = vs) (hk : get env KT = K.av) (hp : H0[p]? = some o0) :
    V2 P N (.call { callee := .value (.func f), args := xs, argTypes := ts }) ty env (H0 ++ L) v (H0.set p o ++ L) := by
  have := V2.callT (N := N) (ty := ty) (ts := ts) hac hvs hk
  rwa [stF hp] at this
theorem V2.callTS {P : Program} {N : Nat} {env : Env} {K : Know} {H0 L : Heap} {ty : TypeId} {f k : Nat} {xs : Array Operand} {ts : Array TypeId} {vs : List AV} {v : AV} {o : AObj} [FnI P f] (hac : ACT P K f vs (H0 ++ L) (Ret v ((H0 ++ L).set (Lid H0.length k) o))) (hvs : xs.toList.map (aev env) = vs) (hk : get env KT = K.av) :
    V2 P N (.call { callee := .value (.func f), args := xs, argTypes := ts }) ty env (H0 ++ L) v (H0 ++ L.set k o) := by
  have := V2.callT (N := N) (ty := ty) (ts := ts) hac hvs hk
  rwa [st rfl] at this
set_option maxHeartbeats 0 in
theorem worker_look (w : Inst) (p : Nat) (H : Heap) (hw : RI w) (h20 : w.jobs.length < 20) (hid : H[p]? = some ⟨0, 9, [eInst w]⟩) : ACT Tryz.prog KD 87 [.pt p 0 0 0] H (Ret (.agg (eInst (wlook w))) (H.set p ⟨0, 9, [eInst (wlook w)]⟩)) := by
  have hpl : p < H.length := (List.getElem?_eq_some_iff.1 hid).1
  have hF0 : ∀ w, (H.set p ⟨0, 9, [eInst w]⟩)[p]? = some ⟨0, 9, [eInst w]⟩ := fun w => List.getElem?_set_self hpl
  refine ACT.body (N := 13) [.cell 2 27] Tryz.func87 rfl rfl rfl (Nat.le_of_ble_eq_true rfl) fun B hB => ?_
  repeat (refine aw_seq ?_)
  refine aw_region ?_
  refine Zfr ?_
  refine ao_nil ?_
  try dsimp only [put, List.length_nil, List.nil_append]
  repeat (first | refine then_nrm ?_ | refine aw_seq ?_)
  refine Zgj ?_
  refine ao2 (by rintro _ ⟨⟩; decide) (V2.callTF (worker_broken w p _ hw (lkF hid)) rfl rfl hid) ?_
  refine Z2s ?_
  rw [show H.length = (H.set p ⟨0, 9, [eInst (wbroken w)]⟩).length by rw [List.length_set]]
  repeat (first | refine then_nrm ?_ | refine aw_seq ?_)
  refine Zgj ?_
  refine ao2 (by rintro _ ⟨⟩; decide) (V2.callTF (worker_refuse (wbroken w) p _ hw.broken (lkF (hF0 _))) rfl rfl (hF0 _)) ?_
  refine Z2s ?_
  rw [List.set_set]
  repeat (first | refine then_nrm ?_ | refine aw_seq ?_)
  refine Zgj ?_
  refine ao2 (by rintro _ ⟨⟩; decide) (V2.callTF (worker_begin (wrefuse (wbroken w)) p _ hw.broken.refuse (by rw [wrefuse_jlen, wbroken_jlen]; exact h20) (lkF (hF0 _))) rfl rfl (hF0 _)) ?_
  refine Z2s ?_
  rw [List.set_set]
  have hF := hF0 (wbegin (wrefuse (wbroken w)))
  rw [show wlook w = wbegin (wrefuse (wbroken w)) from rfl]
  generalize wbegin (wrefuse (wbroken w)) = z at *
  rw [show (H.set p ⟨0, 9, [eInst (wbroken w)]⟩).length = (H.set p ⟨0, 9, [eInst z]⟩).length by rw [List.length_set, List.length_set]]
  repeat (first | refine then_nrm ?_ | refine aw_seq ?_)
  refine Zgm ?_
  refine Za9 ?_
  refine Zfv ?_
  refine Z4m ?_
  repeat (first | refine then_nrm ?_ | refine aw_ret ?_)
  exact e_doneF hB (r_cellR rfl (lk rfl rfl) rfl rfl rfl .nil) rfl rfl (by simp) (hB.heap.set p _ (inst_bel _ _))
end Go.Av

namespace Go.Av
open Go.Proofs
set_option maxRecDepth 10000
set_option linter.unusedSimpArgs false
set_option linter.unusedVariables false
def inow (i : Inst) (now : Int) : Inst := ⟨i.graph, i.health, i.lease, i.til, i.jobs, i.table, now, i.policy, i.depth⟩
set_option maxHeartbeats 0 in
theorem inst_Tick (i : Inst) (now : Int) (H : Heap) (hw : RI i) (h20 : i.jobs.length < 20) : ACT Tryz.prog KD 32 [.agg (eInst i), .int .i64 now] H (Ret (.tup [.agg (eInst (itick i now).1), .int .i64 (itick i now).2]) H) := by
  have hiw := hw.iw
  have hjw := hw.jw
  have w6 := hiw.table
  have w7 := w6.1
  refine ACT.body (N := 61) [.cell 4 27, .tmp 5] Tryz.func32 rfl rfl rfl (Nat.le_of_ble_eq_true rfl) fun B hB => ?_
  repeat (refine aw_seq ?_)
  refine Zdt ?_
  refine Zfr ?_
  refine Z4i ?_
  repeat (first | refine then_nrm ?_ | refine aw_seq ?_)
  refine aw_out 24 (.bool (!iright i || !tm now || decide (now < i.now))) ?_ ?_
  · refine Z2h ?_
    refine Zfc ?_
    refine Z4n ?_
    refine ao_split rfl rfl (fun hg3 => ?_) (fun hg3 => ?_)
    · refine Z2b ?_
      refine Z3d ?_
      exact Zjy
    · refine Ze ?_
      refine Z42 ?_
      refine Z4t ?_
      refine ao_split rfl rfl (fun hg8 => ?_) (fun hg8 => ?_)
      · refine Z3d ?_
        exact Zjy
      · refine Ze ?_
        refine Z22 ?_
        refine Zf ?_
        refine Zm ?_
        exact Zjy
  repeat (refine then_nrm ?_)
  refine aw_cond rfl (fun hc => ?_) (fun hc => ?_)
  · have he : itick i now = (i, 1) := by rw [itick, if_pos hc]
    rw [he]
    repeat (refine aw_seq ?_)
    refine Zkj ?_
    refine Zkk ?_
    repeat (first | refine then_nrm ?_ | refine then_ret ?_ | refine aw_ret ?_)
    exact Z4x
  have he : itick i now = (wlook ((heldOver i.table now).2.foldl (fun a h => (wdo a h.id 5 h.to).1) { i with now := now }), 0) := by rw [itick, if_neg (by rw [hc]; decide)]
  rw [he, ← tck_all]
  clear hc he
  repeat (first | refine then_nrm ?_ | refine aw_seq ?_ | refine aw_skip ?_)
  refine Zkj ?_
  refine Zfh ?_
  repeat (first | refine then_nrm ?_ | refine aw_seq ?_)
  refine Zgj ?_
  refine Z6 ?_
  refine Zhg ?_
  refine Z1z ?_
  refine ao2 (by rintro _ ⟨⟩) (w_storeP (r' := eInst (inow i now)) rfl rfl rfl rfl rfl rfl rfl rfl (Nat.le_of_ble_eq_true rfl) rfl) ?_
  refine Zgy ?_
  have hol := heldOver_len i.table now
  repeat (first | refine then_nrm ?_ | refine aw_seq ?_)
  refine Zgj ?_
  refine Zhg ?_
  refine Z2z ?_
  refine Z6 ?_
  refine ao_ret (held_Over _ _ _ (by assumption)) rfl (by decide) ?_
  refine Zgr ?_
  refine Zgq ?_
  refine Z2u ?_
  refine Z2u ?_
  refine Z32 ?_
  rw [show (inow i now).table = i.table from rfl]
  repeat (first | refine then_nrm ?_ | refine aw_seq ?_)
  refine Z5t ?_
  repeat (first | refine then_nrm ?_ | refine aw_block ?_)
  refine aw_loop (G := Nat) (fun k => k ≤ (heldOver i.table now).2.length) (fun k => [(KT, KD.av), (4, .pt (Lid H.length 1) 0 0 0), (6, .pt (Lid H.length 2) 0 0 0), (46, .pl ((heldOver i.table now).2.map eHeld)), (47, .int .i64 ((heldOver i.table now).2.length : Int)), (48, .int .i64 (k : Int))]) (fun k => H ++ [⟨0, 9, [eInst i]⟩, ⟨0, 9, [z9]⟩, ⟨0, 9, [eInst (tck i now k)]⟩]) (fun k => (heldOver i.table now).2.length - k) 0 (Nat.zero_le _) (by repeat (first | exact Sub.nil | refine Sub.cons (by first | rfl | (simp [get]; done)) ?_)) (.inl rfl) ?_
  intro k hk
  have hri := hw.tck now k
  repeat (refine aw_seq ?_)
  refine Z36 ?_
  repeat (first | refine then_nrm ?_ | refine aw_seq ?_)
  refine aw_cond rfl (fun hc => ?_) (fun hc => ?_)
  · have hlt : k < (heldOver i.table now).2.length := by simpa using hc
    obtain ⟨x, hx, hxl⟩ := get_in hlt
    have hr := map_get eHeld hx
    have hst := tck_step hx
    clear hc
    repeat (first | refine then_nrm ?_ | refine aw_seq ?_ | refine aw_block ?_ | refine aw_skip ?_)
    refine Zca ?_
    refine Z9a ?_
    repeat (refine then_nrm ?_)
    refine Zgj ?_
    refine Z5h ?_
    refine ao2 (by rintro _ ⟨⟩; decide) (V2.callS (worker_do (tck i now k) x.id 5 x.to (Lid H.length 2) _ hri.jw (hri.jw.do _ _ _) hri.iw.table (lk rfl rfl)) rfl) ?_
    refine ao_nil ?_
    refine Zh0 ?_
    rw [← hst]
    repeat (first | refine then_nrm ?_ | refine blk_nrm ?_)
    refine Z3i ?_
    repeat (refine then_nrm ?_)
    refine ⟨k + 1, by omega, by omega, (by repeat (first | exact Sub.nil | refine Sub.cons (by rfl) ?_)), Fit.loc hB rfl (by repeat (first | exact EBel.nil | refine EBel.cons (by first | rfl | (simp [AV.bel, AV.bels, Lid]; done)) ?_)) ?_⟩
    intro o ho r hr
    simp only [List.mem_cons, List.not_mem_nil, or_false] at ho
    rcases ho with rfl | rfl | rfl
    · simp only [List.mem_singleton] at hr; subst hr; rfl
    · simp only [List.mem_singleton] at hr; subst hr; rfl
    · simp only [List.mem_singleton] at hr; subst hr; rfl
  · have : k = (heldOver i.table now).2.length := by simp at hc; omega
    subst this
    clear hc
    have h20' := tck_jlen i now (heldOver i.table now).2.length
    generalize tck i now (heldOver i.table now).2.length = z at *
    repeat (first | refine then_nrm ?_ | refine then_brk ?_ | refine blk_hit ?_ | refine aw_seq ?_ | refine aw_exit ?_)
    refine Zgj ?_
    refine Zkl ?_
    refine Zfw ?_
    refine Zgh ?_
    repeat (first | refine then_nrm ?_ | refine aw_ret ?_)
    exact Z4x
def ijobs (i : Inst) (l : List Job) : Inst := ⟨i.graph, i.health, i.lease, i.til, l, i.table, i.now, i.policy, i.depth⟩
set_option maxHeartbeats 0 in
theorem inst_Submit (i : Inst) (s : Spec) (needs : List Int) (H : Heap) (hw : RI i) (h20 : i.jobs.length < 19) (hn : needs.length ≤ 1000000) : ACT Tryz.prog KD 49 [.agg (eInst i), .agg (eSpec s), .pl (needs.map eI)] H (Ret (.tup [.agg (eInst (isubmit i s needs).1), .int .i64 (isubmit i s needs).2.1, .int .i64 (isubmit i s needs).2.2]) H) := by
  have hiw := hw.iw
  have hjw := hw.jw
  refine ACT.body (N := 52) [.cell 6 27, .tmp 7, .tmp 8] Tryz.func49 rfl rfl rfl (Nat.le_of_ble_eq_true rfl) fun B hB => ?_
  repeat (refine aw_seq ?_)
  refine Zdt ?_
  refine Z1v ?_
  refine Zfr ?_
  refine Zz ?_
  refine Z4h ?_
  repeat (first | refine then_nrm ?_ | refine aw_seq ?_)
  refine Z2i ?_
  refine Zfc ?_
  refine Z2j ?_
  repeat (refine then_nrm ?_)
  refine aw_cond rfl (fun hc => ?_) (fun hc => ?_)
  · have he : isubmit i s needs = (i, 0, 1) := by rw [isubmit, if_pos hc]
    rw [he]
    repeat (refine aw_seq ?_)
    refine Zkj ?_
    refine Zkn ?_
    repeat (first | refine then_nrm ?_ | refine then_ret ?_ | refine aw_ret ?_)
    exact Zko
  have hr0 : ¬ (!iright i) = true := by rw [hc]; decide
  clear hc
  repeat (first | refine then_nrm ?_ | refine aw_seq ?_ | refine aw_skip ?_)
  refine Zkj ?_
  refine Zfh ?_
  repeat (first | refine then_nrm ?_ | refine aw_seq ?_)
  refine aw_drawP mixed none 4 ?_
  refine Z6h ?_
  refine Zev ?_
  refine Zkp ?_
  refine Zkq ?_
  refine Zgv ?_
  refine Zgw ?_
  refine aqp 5 rfl (by decide +kernel) (by decide) (fun G => w_loadR rfl (lk rfl rfl) rfl rfl rfl) ?_
  refine aq0 6 rfl (by decide +kernel) (by decide) (fun _ => o_move (v := .pl _) rfl) ?_
  refine Zfm ?_
  refine Zfn ?_
  refine Zfo ?_
  refine Zfp ?_
  refine Zfq ?_
  refine aq02 12 rfl (by decide +kernel) (by decide) (fun _ => V2.call (queue_Add i.jobs s needs i.now _ hjw hn) rfl) ?_
  refine Zkr ?_
  refine Zks ?_
  refine Zkt ?_
  refine aq0 16 rfl (by decide +kernel) (by decide) (fun _ => o_extract (v := .int _ _) rfl rfl) ?_
  refine Zfa ?_
  refine aq0 18 rfl (by decide +kernel) (by decide) (fun _ => o_assign (v := .int _ _) rfl) ?_
  refine aq0 19 rfl (by decide +kernel) (by decide) (fun _ => o_assign (v := .int _ _) rfl) ?_
  refine Zfb ?_
  repeat (first | refine then_nrm ?_ | refine aw_seq ?_)
  refine Z76 ?_
  repeat (refine then_nrm ?_)
  refine aw_cond rfl (fun hc => ?_) (fun hc => ?_)
  · have hne : (jobsAdd i.jobs s needs i.now).2.2 ≠ 0 := by simpa using hc
    have he : isubmit i s needs = (i, 0, (jobsAdd i.jobs s needs i.now).2.2) := by rw [isubmit, if_neg hr0, if_pos hne]
    rw [he]
    repeat (refine aw_seq ?_)
    refine Zkj ?_
    refine Z6 ?_
    refine Zkn ?_
    repeat (first | refine then_nrm ?_ | refine then_ret ?_ | refine aw_ret ?_)
    exact Zko
  have hne : ¬ (jobsAdd i.jobs s needs i.now).2.2 ≠ 0 := by simpa using hc
  have he : isubmit i s needs = (wlook (ijobs i (jobsAdd i.jobs s needs i.now).1), (jobsAdd i.jobs s needs i.now).2.1, 0) := by rw [isubmit, if_neg hr0, if_neg hne]; rfl
  rw [he]
  clear hc he hne
  have hal := jobsAdd_len i.jobs s needs i.now
  have hri : RI (ijobs i (jobsAdd i.jobs s needs i.now).1) := hw.jobs (hjw.add s i.now hn (by omega))
  have hjl : (ijobs i (jobsAdd i.jobs s needs i.now).1).jobs.length < 20 := by show (jobsAdd i.jobs s needs i.now).1.length < 20; omega
  repeat (first | refine then_nrm ?_ | refine aw_seq ?_ | refine aw_skip ?_)
  refine Zgj ?_
  refine Z2q ?_
  refine Zhg ?_
  refine Z1z ?_
  refine ao2 (by rintro _ ⟨⟩) (w_storeP (r' := eInst (ijobs i (jobsAdd i.jobs s needs i.now).1)) rfl rfl rfl rfl rfl rfl rfl rfl (Nat.le_of_ble_eq_true rfl) rfl) ?_
  refine Zgy ?_
  repeat (first | refine then_nrm ?_ | refine aw_seq ?_)
  refine Zgj ?_
  refine ao2 (by rintro _ ⟨⟩; decide) (V2.callTS (worker_look (ijobs i (jobsAdd i.jobs s needs i.now).1) (Lid H.length 3) _ hri hjl (lk rfl rfl)) rfl rfl) ?_
  refine Z6 ?_
  refine Zkm ?_
  refine Zgh ?_
  repeat (first | refine then_nrm ?_ | refine aw_ret ?_)
  exact Zko
set_option maxHeartbeats 0 in
theorem inst_Do (i : Inst) (id what : Int) (H : Heap) (hw : RI i) (h20 : i.jobs.length < 20) : ACT Tryz.prog KD 59 [.agg (eInst i), .int .i64 id, .int .i64 what] H (Ret (.tup [.agg (eInst (ido i id what).1), .int .i64 (ido i id what).2]) H) := by
  have hiw := hw.iw
  have hjw := hw.jw
  refine ACT.body (N := 41) [.cell 6 27, .tmp 7] Tryz.func59 rfl rfl rfl (Nat.le_of_ble_eq_true rfl) fun B hB => ?_
  repeat (refine aw_seq ?_)
  refine Zdt ?_
  refine Zfr ?_
  refine Z4i ?_
  repeat (first | refine then_nrm ?_ | refine aw_seq ?_)
  refine aw_out 18 (.bool (!iright i || !([1, 2, 4, 6] : List Int).contains what)) ?_ ?_
  · refine Z2h ?_
    refine Zfc ?_
    refine Z4n ?_
    refine ao_split rfl rfl (fun hg3 => ?_) (fun hg3 => ?_)
    · refine Z3d ?_
      exact Zft
    · refine ao_y rfl rfl (by decide) (g_litL (sz := 1) (([1, 2, 4, 6] : List Int).map eI) rfl (by decide) (by decide) (by decide) rfl rfl (by simp) rfl (by simp [AV.bels, AV.bel])) ?_
      refine Ze ?_
      refine ao_y rfl rfl (by decide) (V2.call (slices_Contains [1, 2, 4, 6] what _ (by decide)) rfl) ?_
      refine Zfu ?_
      exact Zft
  repeat (refine then_nrm ?_)
  refine aw_cond rfl (fun hc => ?_) (fun hc => ?_)
  · have he : ido i id what = (i, 1) := by rw [ido, if_pos hc]
    rw [he]
    repeat (refine aw_seq ?_)
    refine Zkj ?_
    refine Zkk ?_
    repeat (first | refine then_nrm ?_ | refine then_ret ?_ | refine aw_ret ?_)
    exact Z4x
  have hr0 : ¬ (!iright i || !([1, 2, 4, 6] : List Int).contains what) = true := by rw [hc]; decide
  clear hc
  repeat (first | refine then_nrm ?_ | refine aw_seq ?_ | refine aw_skip ?_)
  refine Zkj ?_
  refine Zfh ?_
  repeat (first | refine then_nrm ?_ | refine aw_seq ?_)
  refine Zgj ?_
  refine Z1u ?_
  refine Zgi ?_
  refine Zhg ?_
  refine Z20 ?_
  refine ao2 (by rintro _ ⟨⟩; decide) (V2.callS (worker_do i id what i.now (Lid H.length 2) _ hjw (hjw.do _ _ _) hiw.table (lk rfl rfl)) rfl) ?_
  refine Z2 ?_
  try dsimp only [Nat.reduceAdd, put, List.set_cons_succ, List.set_cons_zero]
  repeat (first | refine then_nrm ?_ | refine aw_seq ?_)
  refine Z76 ?_
  repeat (refine then_nrm ?_)
  refine aw_cond rfl (fun hc => ?_) (fun hc => ?_)
  · have hne : (wdo i id what i.now).2 ≠ 0 := by simpa using hc
    have he : ido i id what = (i, (wdo i id what i.now).2) := by rw [ido, if_neg hr0, if_pos hne]
    rw [he]
    repeat (refine aw_seq ?_)
    refine Zkj ?_
    refine Z6 ?_
    refine Zkk ?_
    repeat (first | refine then_nrm ?_ | refine then_ret ?_ | refine aw_ret ?_)
    exact Z4x
  have hne : ¬ (wdo i id what i.now).2 ≠ 0 := by simpa using hc
  have he : ido i id what = (wlook (wdo i id what i.now).1, 0) := by rw [ido, if_neg hr0, if_neg hne]
  rw [he]
  clear hc he hne
  have hri := hw.wdo id what i.now
  have hjl := wdo_jlen i id what i.now
  generalize (wdo i id what i.now).1 = z at *
  repeat (first | refine then_nrm ?_ | refine aw_seq ?_ | refine aw_skip ?_)
  refine Zgj ?_
  refine Zkl ?_
  refine Zfw ?_
  refine Zgh ?_
  repeat (first | refine then_nrm ?_ | refine aw_ret ?_)
  exact Z4x
def ilease (i : Inst) (l : List Int) : Inst := ⟨i.graph, i.health, l, i.til, i.jobs, i.table, i.now, i.policy, i.depth⟩
def ilent (i : Inst) (l : List Int) (til : Int) : Inst := ⟨i.graph, i.health, l, til, i.jobs, i.table, i.now, i.policy, i.depth⟩
set_option maxHeartbeats 0 in
theorem inst_Lend (i : Inst) (lease : List Int) (til : Int) (H : Heap) (hw : RI i) (h20 : i.jobs.length < 20) (hl : lease.length ≤ 1000000) : ACT Tryz.prog KD 60 [.agg (eInst i), .pl (lease.map eI), .int .i64 til] H (Ret (.tup [.agg (eInst (ilend i lease til).1), .int .i64 (ilend i lease til).2]) H) := by
  have hiw := hw.iw
  have hjw := hw.jw
  have w1 := hiw.graph
  refine ACT.body (N := 43) [.cell 6 27, .tmp 7] Tryz.func60 rfl rfl rfl (Nat.le_of_ble_eq_true rfl) fun B hB => ?_
  repeat (refine aw_seq ?_)
  refine Zdt ?_
  refine Zfr ?_
  refine Z4i ?_
  repeat (first | refine then_nrm ?_ | refine aw_seq ?_)
  refine aw_out 23 (.bool (!iright i || !ithings i.graph lease || !tm til)) ?_ ?_
  · refine Z2h ?_
    refine Zfc ?_
    refine Z4n ?_
    refine ao_split rfl rfl (fun hg3 => ?_) (fun hg3 => ?_)
    · refine Zku ?_
      refine Zjw ?_
      exact Zjy
    · refine Zkv ?_
      refine Zep ?_
      refine Z4t ?_
      refine ao_split rfl rfl (fun hg10 => ?_) (fun hg10 => ?_)
      · refine Zjw ?_
        exact Zjy
      · refine Ze ?_
        refine Z42 ?_
        refine Zfu ?_
        exact Zjy
  repeat (refine then_nrm ?_)
  refine aw_cond rfl (fun hc => ?_) (fun hc => ?_)
  · have he : ilend i lease til = (i, 1) := by rw [ilend, if_pos hc]
    rw [he]
    repeat (refine aw_seq ?_)
    refine Zkj ?_
    refine Zkk ?_
    repeat (first | refine then_nrm ?_ | refine then_ret ?_ | refine aw_ret ?_)
    exact Z4x
  have he : ilend i lease til = (wlook (ilent i lease til), 0) := by rw [ilend, if_neg (by rw [hc]; decide)]; rfl
  rw [he]
  clear hc he
  have hri : RI (ilent i lease til) := hw.lend til hl
  repeat (first | refine then_nrm ?_ | refine aw_seq ?_ | refine aw_skip ?_)
  refine Zkj ?_
  refine Zfh ?_
  repeat (first | refine then_nrm ?_ | refine aw_seq ?_)
  refine Zgj ?_
  refine Zgi ?_
  refine Z2q ?_
  refine ao_ret (slices_CloneI _ _ (by omega)) rfl (by decide) ?_
  refine Z6 ?_
  refine Zhg ?_
  refine Z1z ?_
  refine ao2 (by rintro _ ⟨⟩) (w_storeP (r' := eInst (ilease i lease)) rfl rfl rfl rfl rfl rfl rfl rfl (Nat.le_of_ble_eq_true rfl) rfl) ?_
  refine Zhg ?_
  refine Z1z ?_
  refine ao2 (by rintro _ ⟨⟩) (w_storeP (r' := eInst (ilent i lease til)) rfl rfl rfl rfl rfl rfl rfl rfl (Nat.le_of_ble_eq_true rfl) rfl) ?_
  refine Zgy ?_
  repeat (first | refine then_nrm ?_ | refine aw_seq ?_)
  refine Zgj ?_
  refine ao2 (by rintro _ ⟨⟩; decide) (V2.callTS (worker_look (ilent i lease til) (Lid H.length 2) _ hri h20 (lk rfl rfl)) rfl rfl) ?_
  refine Zfw ?_
  refine Zgh ?_
  repeat (first | refine then_nrm ?_ | refine aw_ret ?_)
  exact Z4x
def ihealth (i : Inst) (h : List Int) : Inst := ⟨i.graph, h, i.lease, i.til, i.jobs, i.table, i.now, i.policy, i.depth⟩
set_option maxHeartbeats 0 in
theorem inst_Mark (i : Inst) (n how : Int) (H : Heap) (hw : RI i) (h20 : i.jobs.length < 20) : ACT Tryz.prog KD 61 [.agg (eInst i), .int .i64 n, .int .i64 how] H (Ret (.tup [.agg (eInst (imark i n how).1), .int .i64 (imark i n how).2]) H) := by
  have hiw := hw.iw
  have hjw := hw.jw
  have w1 := hiw.graph
  have w2 := hiw.health
  refine ACT.body (N := 48) [.cell 6 27, .tmp 7] Tryz.func61 rfl rfl rfl (Nat.le_of_ble_eq_true rfl) fun B hB => ?_
  repeat (refine aw_seq ?_)
  refine Zdt ?_
  refine Zfr ?_
  refine Z4i ?_
  repeat (first | refine then_nrm ?_ | refine aw_seq ?_)
  refine Z2i ?_
  refine Zfc ?_
  refine Z2j ?_
  repeat (refine then_nrm ?_)
  refine aw_cond rfl (fun hc => ?_) (fun hc => ?_)
  · have he : imark i n how = (i, 1) := by rw [imark, if_pos hc]
    rw [he]
    repeat (refine aw_seq ?_)
    refine Zkj ?_
    refine Zkk ?_
    repeat (first | refine then_nrm ?_ | refine then_ret ?_ | refine aw_ret ?_)
    exact Z4x
  have hr0 : ¬ (!iright i) = true := by rw [hc]; decide
  clear hc
  repeat (first | refine then_nrm ?_ | refine aw_seq ?_ | refine aw_skip ?_)
  refine Zkj ?_
  refine Zfh ?_
  repeat (first | refine then_nrm ?_ | refine aw_seq ?_)
  refine Zdx ?_
  refine Z6h ?_
  refine Zev ?_
  refine Zkp ?_
  refine Zkq ?_
  refine Zgv ?_
  refine Zgw ?_
  refine Zf0 ?_
  refine aqp 6 rfl (by decide +kernel) (by decide) (fun G => w_nilCheck rfl (lk rfl rfl) rfl) ?_
  refine Z9u ?_
  refine aqp 8 rfl (by decide +kernel) (by decide) (fun G => w_fieldAddr rfl (lk rfl rfl) rfl (by decide)) ?_
  refine aqp 9 rfl (by decide +kernel) (by decide) (fun G => w_load1 (v := .pl _) rfl (lk rfl rfl) rfl rfl rfl) ?_
  refine aq0 10 rfl (by decide +kernel) (by decide) (fun _ => o_move (v := .int _ _) rfl) ?_
  refine Zjn ?_
  refine aq02 12 rfl (by decide +kernel) (by decide) (fun _ => V2.call (health_Set i.graph i.health n how _ w1 w2) rfl) ?_
  refine Zkr ?_
  refine Zks ?_
  refine Zkt ?_
  refine Zj0 ?_
  refine aq0 17 rfl (by decide +kernel) (by decide) (fun _ => o_assign (v := .int _ _) rfl) ?_
  refine Zfb ?_
  repeat (first | refine then_nrm ?_ | refine aw_seq ?_)
  refine Z76 ?_
  repeat (refine then_nrm ?_)
  refine aw_cond rfl (fun hc => ?_) (fun hc => ?_)
  · have hne : (hset i.graph i.health n how).2 ≠ 0 := by simpa using hc
    have he : imark i n how = (i, (hset i.graph i.health n how).2) := by rw [imark, if_neg hr0, if_pos hne]
    rw [he]
    repeat (refine aw_seq ?_)
    refine Zkj ?_
    refine Z6 ?_
    refine Zkk ?_
    repeat (first | refine then_nrm ?_ | refine then_ret ?_ | refine aw_ret ?_)
    exact Z4x
  have hne : ¬ (hset i.graph i.health n how).2 ≠ 0 := by simpa using hc
  have he : imark i n how = (wlook (ihealth i (hset i.graph i.health n how).1), 0) := by rw [imark, if_neg hr0, if_neg hne]; rfl
  rw [he]
  clear hc he hne
  have hri : RI (ihealth i (hset i.graph i.health n how).1) := hw.mark n how
  repeat (first | refine then_nrm ?_ | refine aw_seq ?_ | refine aw_skip ?_)
  refine Zgj ?_
  refine Z2q ?_
  refine Zhg ?_
  refine Z1z ?_
  refine ao2 (by rintro _ ⟨⟩) (w_storeP (r' := eInst (ihealth i (hset i.graph i.health n how).1)) rfl rfl rfl rfl rfl rfl rfl rfl (Nat.le_of_ble_eq_true rfl) rfl) ?_
  refine Zgy ?_
  repeat (first | refine then_nrm ?_ | refine aw_seq ?_)
  refine Zgj ?_
  refine ao2 (by rintro _ ⟨⟩; decide) (V2.callTS (worker_look (ihealth i (hset i.graph i.health n how).1) (Lid H.length 2) _ hri h20 (lk rfl rfl)) rfl rfl) ?_
  refine Zfw ?_
  refine Zgh ?_
  repeat (first | refine then_nrm ?_ | refine aw_ret ?_)
  exact Z4x
end Go.Av

namespace Go.Av
open Go.Proofs
set_option maxRecDepth 10000
set_option linter.unusedSimpArgs false
set_option linter.unusedVariables false
set_option maxHeartbeats 0 in
theorem ref16_Things (a b : List Thing) (H : Heap) (ha : a.length ≤ 1000000000) : AC Tryz.prog 33 [.pl (a.map eThing), .pl (b.map eThing)] H (Ret (.bool (decide (a = b))) H) := by
  refine AC.body (N := 26) [.tmp 4] Tryz.func33 rfl rfl rfl (Nat.le_of_ble_eq_true rfl) fun B hB => ?_
  repeat (refine aw_seq ?_)
  refine Za ?_
  repeat (first | refine then_nrm ?_ | refine aw_seq ?_)
  refine Z59 ?_
  refine Z5a ?_
  refine Z5b ?_
  repeat (refine then_nrm ?_)
  refine aw_cond rfl (fun hc => ?_) (fun hc => ?_)
  · have hne : a.length ≠ b.length := by simp at hc; omega
    have he : decide (a = b) = false := decide_eq_false (fun e => hne (by rw [e]))
    rw [he]
    repeat (refine aw_seq ?_)
    refine Za ?_
    repeat (first | refine then_nrm ?_ | refine then_ret ?_ | refine aw_ret ?_)
    exact Z7
  have hl : a.length = b.length := by simp at hc; omega
  clear hc
  repeat (first | refine then_nrm ?_ | refine aw_seq ?_ | refine aw_skip ?_)
  refine Z3 ?_
  repeat (first | refine then_nrm ?_ | refine aw_block ?_)
  refine aw_loop (G := Nat) (fun k => k ≤ a.length ∧ a.take k = b.take k) (fun k => [(0, .pl (a.map eThing)), (1, .pl (b.map eThing)), (5, .int .i64 (k : Int))]) (fun _ => H ++ []) (fun k => a.length - k) 0 ⟨Nat.zero_le _, by simp⟩ (by repeat (first | exact Sub.nil | refine Sub.cons (by rfl) ?_)) (Fit.refl _ _) ?_
  rintro k ⟨hk, ht⟩
  repeat (refine aw_seq ?_)
  refine Z5d ?_
  repeat (refine then_nrm ?_)
  refine aw_cond rfl (fun hc => ?_) (fun hc => ?_)
  · have hlt : k < a.length := by simpa using hc
    obtain ⟨x, hx, _⟩ := get_in hlt
    obtain ⟨y, hy, _⟩ := get_in (l := b) (k := k) (by omega)
    have hr1 := map_get eThing hx
    have hr2 := map_get eThing hy
    clear hc
    repeat (first | refine then_nrm ?_ | refine aw_seq ?_ | refine aw_block ?_ | refine aw_skip ?_)
    refine Z15 ?_
    refine Z5e ?_
    refine Z17 ?_
    refine Zkw ?_
    refine Zkx ?_
    refine Z5f ?_
    refine Z1a ?_
    refine Zky ?_
    refine Zkz ?_
    refine aq0 8 rfl (by decide +kernel) (by decide) (fun _ => o_neAgg (us := uThing x) (vs := uThing y) (b := decide (x = y)) rfl rfl rfl rfl (by kernel_rfl) (eqThing_run _ _)) ?_
    refine Z19 ?_
    repeat (refine then_nrm ?_)
    refine aw_cond rfl (fun hc => ?_) (fun hc => ?_)
    · have hne : x ≠ y := by simpa using hc
      have he : decide (a = b) = false := decide_eq_false (fun e => hne (by rw [e, hy] at hx; exact (Option.some.inj hx).symm))
      rw [he]
      repeat (refine aw_seq ?_)
      refine Za ?_
      repeat (first | refine then_nrm ?_ | refine then_ret ?_ | refine blk_ret ?_ | refine aw_ret ?_)
      exact Z7
    · have he : x = y := by simpa using hc
      subst he
      repeat (first | refine then_nrm ?_ | refine blk_nrm ?_ | refine aw_skip ?_)
      refine Z5g ?_
      repeat (refine then_nrm ?_)
      refine ⟨k + 1, by omega, ⟨by omega, ?_⟩, (by repeat (first | exact Sub.nil | refine Sub.cons (by rfl) ?_)), .refl _ _⟩
      rw [take_snoc_get hx, take_snoc_get hy, ht]
  · have : k = a.length := by simp at hc; omega
    subst this
    have he : decide (a = b) = true := decide_eq_true (by rw [List.take_length, hl, List.take_length] at ht; exact ht)
    rw [he]
    repeat (first | refine then_nrm ?_ | refine then_brk ?_ | refine blk_hit ?_ | refine aw_seq ?_ | refine aw_exit ?_)
    refine Za ?_
    repeat (first | refine then_nrm ?_ | refine aw_ret ?_)
    exact Z7
structure LAct where
  kind : Int
  spec : Spec
  needs : List Int
  id : Int
  what : Int
  at_ : Int
  set : List Int
abbrev eAct (a : LAct) : List AV := [.int .i64 a.kind] ++ eSpec a.spec ++ [.pl (a.needs.map eI), .int .i64 a.id, .int .i64 a.what, .int .i64 a.at_, .pl (a.set.map eI)]
def lightB (l : List LAct) : Bool := decide (l.length ≤ 14) && l.all fun a => decide (a.needs.length ≤ 20) && decide (a.set.length ≤ 60)
set_option maxHeartbeats 0 in
theorem law16_light (l : List LAct) (H : Heap) : AC Tryz.prog 17 [.pl (l.map eAct)] H (Ret (.bool (lightB l)) H) := by
  refine AC.body (N := 29) [.tmp 2] Tryz.func17 rfl rfl rfl (Nat.le_of_ble_eq_true rfl) fun B hB => ?_
  repeat (refine aw_seq ?_)
  refine Za ?_
  repeat (first | refine then_nrm ?_ | refine aw_seq ?_)
  refine Z59 ?_
  refine Z1t ?_
  repeat (refine then_nrm ?_)
  refine aw_cond rfl (fun hc => ?_) (fun hc => ?_)
  · have he : lightB l = false := by rw [lightB, decide_eq_false (by simp at hc; omega)]; rfl
    rw [he]
    repeat (refine aw_seq ?_)
    refine Za ?_
    repeat (first | refine then_nrm ?_ | refine then_ret ?_ | refine aw_ret ?_)
    exact Z7
  have hl : l.length ≤ 14 := by simp at hc; omega
  clear hc
  repeat (first | refine then_nrm ?_ | refine aw_seq ?_ | refine aw_skip ?_)
  refine Z3 ?_
  repeat (first | refine then_nrm ?_ | refine aw_block ?_)
  refine aw_loop (G := Nat) (fun k => k ≤ l.length ∧ ∀ a ∈ l.take k, (decide (a.needs.length ≤ 20) && decide (a.set.length ≤ 60)) = true) (fun k => [(0, .pl (l.map eAct)), (3, .int .i64 (k : Int))]) (fun _ => H ++ []) (fun k => l.length - k) 0 ⟨Nat.zero_le _, by simp⟩ (by repeat (first | exact Sub.nil | refine Sub.cons (by rfl) ?_)) (Fit.refl _ _) ?_
  rintro k ⟨hk, hno⟩
  repeat (refine aw_seq ?_)
  refine Z5d ?_
  repeat (refine then_nrm ?_)
  refine aw_cond rfl (fun hc => ?_) (fun hc => ?_)
  · have hlt : k < l.length := by simpa using hc
    obtain ⟨a, ha, hal⟩ := get_in hlt
    have hr := map_get eAct ha
    clear hc
    repeat (first | refine then_nrm ?_ | refine aw_seq ?_ | refine aw_block ?_ | refine aw_skip ?_)
    refine aw_out 28 (.bool (!(decide (a.needs.length ≤ 20) && decide (a.set.length ≤ 60)))) ?_ ?_
    · refine Z9n ?_
      refine Z37 ?_
      refine Zjo ?_
      refine ao1 (by decide) (o_load1p (v := .pl _) rfl hr rfl) ?_
      refine Z31 ?_
      refine Za3 ?_
      refine ao_split rfl rfl (fun hg7 => ?_) (fun hg7 => ?_)
      · refine Z29 ?_
        refine Z4q ?_
        exact ao_nil (Out.mk (by (refine congrArg AV.bool ?_; (clear hB hr; (simp_all; omega)))) (by repeat (first | exact SubX.refl _ _ | refine SubX.at ?_ | refine SubX.put rfl ?_)))
      · refine Zbx ?_
        refine Zi9 ?_
        refine ao_y1 rfl rfl (by decide) (o_load1p (v := .pl _) rfl hr rfl) ?_
        refine Z7k ?_
        refine Z2d ?_
        refine Zm ?_
        exact ao_nil (Out.mk (by (refine congrArg AV.bool ?_; (clear hB hr; grind))) (by repeat (first | exact SubX.refl _ _ | refine SubX.at ?_ | refine SubX.put rfl ?_)))
    repeat (refine then_nrm ?_)
    refine aw_cond rfl (fun hc => ?_) (fun hc => ?_)
    · have hbad : (decide (a.needs.length ≤ 20) && decide (a.set.length ≤ 60)) = false := by simpa only [Bool.not_eq_true'] using hc
      have he : lightB l = false := by
        rw [lightB, Bool.and_eq_false_iff]
        exact .inr (List.all_eq_false.2 ⟨a, hal, by rw [hbad]; decide⟩)
      rw [he]
      repeat (refine aw_seq ?_)
      refine Za ?_
      repeat (first | refine then_nrm ?_ | refine then_ret ?_ | refine blk_ret ?_ | refine aw_ret ?_)
      exact Z7
    · have hgood : (decide (a.needs.length ≤ 20) && decide (a.set.length ≤ 60)) = true := by simpa only [Bool.not_eq_false'] using hc
      repeat (first | refine then_nrm ?_ | refine blk_nrm ?_ | refine aw_skip ?_)
      refine Z5g ?_
      repeat (refine then_nrm ?_)
      refine ⟨k + 1, by omega, ⟨by omega, ?_⟩, (by repeat (first | exact Sub.nil | refine Sub.cons (by rfl) ?_)), .refl _ _⟩
      rw [take_snoc_get ha]
      intro y hy
      rcases List.mem_append.1 hy with h | h
      · exact hno y h
      · simp only [List.mem_singleton] at h
        subst h
        exact hgood
  · have : k = l.length := by simp at hc; omega
    subst this
    rw [List.take_length] at hno
    have he : lightB l = true := by rw [lightB, decide_eq_true hl, List.all_eq_true.2 hno]; rfl
    rw [he]
    repeat (first | refine then_nrm ?_ | refine then_brk ?_ | refine blk_hit ?_ | refine aw_seq ?_ | refine aw_exit ?_)
    refine Za ?_
    repeat (first | refine then_nrm ?_ | refine aw_ret ?_)
    exact Z7
def anow (i : Inst) (a : LAct) : Int := if 0 ≤ a.at_ ∧ a.at_ < 1000 ∧ i.now < 4611686018427386904 then i.now + a.at_ else a.at_
def ado (i : Inst) (a : LAct) : Inst × Int × Int :=
  if a.kind = 1 then ((ido i a.id a.what).1, 0, (ido i a.id a.what).2)
  else if a.kind = 2 then ((itick i (anow i a)).1, 0, (itick i (anow i a)).2)
  else if a.kind = 3 then ((ilend i a.set a.at_).1, 0, (ilend i a.set a.at_).2)
  else if a.kind = 4 then ((imark i a.id a.what).1, 0, (imark i a.id a.what).2)
  else isubmit i a.spec a.needs
set_option maxHeartbeats 0 in
theorem law16_now (i : Inst) (a : LAct) (H : Heap) (h0 : 0 ≤ i.now) : AC Tryz.prog 34 [.agg (eInst i), .agg (eAct a)] H (Ret (.int .i64 (anow i a)) H) := by
  refine AC.body (N := 25) [.tmp 4] Tryz.func34 rfl rfl rfl (Nat.le_of_ble_eq_true rfl) fun B hB => ?_
  repeat (refine aw_seq ?_)
  refine Zdt ?_
  refine Z2w ?_
  refine Z4i ?_
  repeat (first | refine then_nrm ?_ | refine aw_seq ?_)
  refine aw_out 17 (.bool (decide (0 ≤ a.at_ ∧ a.at_ < 1000 ∧ i.now < 4611686018427386904))) ?_ ?_
  · refine Z20 ?_
    refine Z1n ?_
    refine ao_split rfl rfl (fun hg3 => ?_) (fun hg3 => ?_)
    · refine Z22 ?_
      refine Zf ?_
      refine Z24 ?_
      refine ao_split rfl rfl (fun hg8 => ?_) (fun hg8 => ?_)
      · refine Z22 ?_
        refine Zf ?_
        refine Zg ?_
        exact Zft
      · refine Z1h ?_
        refine Zm ?_
        exact Zh8
    · refine Z27 ?_
      refine Z1h ?_
      refine Zm ?_
      exact Zh8
  repeat (refine then_nrm ?_)
  refine aw_cond rfl (fun hc => ?_) (fun hc => ?_)
  · have h := of_decide_eq_true hc
    have he : anow i a = i.now + a.at_ := by rw [anow, if_pos h]
    rw [he]
    repeat (refine aw_seq ?_)
    refine Z3p ?_
    refine Z20 ?_
    refine ao1 (by decide) (o_add (r := i.now + a.at_) rfl rfl (wrap64_ok (by omega) (by omega))) ?_
    refine Z2m ?_
    repeat (first | refine then_nrm ?_ | refine then_ret ?_ | refine aw_ret ?_)
    exact Z7
  · have h := of_decide_eq_false hc
    have he : anow i a = a.at_ := by rw [anow, if_neg h]
    rw [he]
    repeat (first | refine then_nrm ?_ | refine aw_seq ?_ | refine aw_skip ?_)
    refine Z3p ?_
    refine Z2m ?_
    repeat (first | refine then_nrm ?_ | refine aw_ret ?_)
    exact Z7
set_option maxHeartbeats 0 in
theorem law16_do (i : Inst) (a : LAct) (H : Heap) (h0 : 0 ≤ i.now) (hw : RI i) (h20 : i.jobs.length < 19) (hn : a.needs.length ≤ 1000000) (hs : a.set.length ≤ 1000000) : ACT Tryz.prog KD 21 [.agg (eInst i), .agg (eAct a)] H (Ret (.tup [.agg (eInst (ado i a).1), .int .i64 (ado i a).2.1, .int .i64 (ado i a).2.2]) H) := by
  have h20' : i.jobs.length < 20 := by omega
  refine ACT.body (N := 77) [.cell 4 27, .tmp 5, .tmp 6] Tryz.func21 rfl rfl rfl (Nat.le_of_ble_eq_true rfl) fun B hB => ?_
  repeat (refine aw_seq ?_)
  refine Zdt ?_
  refine Z2w ?_
  refine Zfr ?_
  refine Zz ?_
  refine Z4h ?_
  repeat (first | refine then_nrm ?_ | refine aw_seq ?_)
  refine Z3p ?_
  refine Z32 ?_
  repeat (first | refine then_nrm ?_ | refine aw_seq ?_ | refine aw_block ?_)
  refine Z3q ?_
  repeat (refine then_nrm ?_)
  refine aw_cond rfl (fun hc => ?_) (fun hc => ?_)
  · have hk : a.kind = 1 := by simpa using hc
    have he : ado i a = ((ido i a.id a.what).1, 0, (ido i a.id a.what).2) := by rw [ado, if_pos hk]
    rw [he]
    repeat (refine aw_seq ?_)
    refine Z2i ?_
    refine Z5h ?_
    refine ao2 (by rintro _ ⟨⟩; decide) (V2.callT (inst_Do i a.id a.what _ hw h20') rfl rfl) ?_
    refine Zl1 ?_
    refine Zl2 ?_
    repeat (first | refine then_nrm ?_ | refine aw_seq ?_)
    refine Z2i ?_
    refine Z6 ?_
    refine Zkn ?_
    repeat (first | refine then_nrm ?_ | refine then_ret ?_ | refine blk_ret ?_ | refine aw_ret ?_)
    exact Zko
  have hk1 : ¬ a.kind = 1 := by simpa using hc
  clear hc
  repeat (refine aw_seq ?_)
  refine Z3q ?_
  repeat (refine then_nrm ?_)
  refine aw_cond rfl (fun hc => ?_) (fun hc => ?_)
  · have hk : a.kind = 2 := by simpa using hc
    have he : ado i a = ((itick i (anow i a)).1, 0, (itick i (anow i a)).2) := by rw [ado, if_neg hk1, if_pos hk]
    rw [he]
    repeat (refine aw_seq ?_)
    refine Zdx ?_
    refine Z6h ?_
    refine Zac ?_
    refine aqp 1 rfl (by decide +kernel) (by decide) (fun G => w_loadR rfl (lk rfl rfl) rfl rfl rfl) ?_
    refine aqp 2 rfl (by decide +kernel) (by decide) (fun G => w_loadR rfl (lk rfl rfl) rfl rfl rfl) ?_
    refine aq02 3 rfl (by decide +kernel) (by decide) (fun _ => V2.call (law16_now i a _ h0) rfl) ?_
    refine aq02 4 rfl (by decide +kernel) (by decide) (fun _ => V2.callT (inst_Tick i (anow i a) _ hw h20') rfl rfl) ?_
    refine Zj3 ?_
    refine aq0 6 rfl (by decide +kernel) (by decide) (fun _ => o_extract (v := .agg _) rfl rfl) ?_
    refine aq0 7 rfl (by decide +kernel) (by decide) (fun _ => o_extract (v := .int _ _) rfl rfl) ?_
    refine aqs 8 rfl (by decide +kernel) (by exact fun _ => ⟨_, rfl⟩) (by rintro _ ⟨⟩; decide) (o_allocL (sz := 9) rfl (by decide) rfl) ?_
    refine aqs 9 rfl (by decide +kernel) (by exact fun _ => ⟨_, rfl⟩) (by rintro _ ⟨⟩) (w_storeW (sz := 9) rfl rfl rfl rfl rfl rfl rfl rfl (Nat.le_of_ble_eq_true rfl)) ?_
    refine aq0 10 rfl (by decide +kernel) (by decide) (fun _ => o_assign (v := .int _ _) rfl) ?_
    refine Z19 ?_
    refine Z65 ?_
    repeat (first | refine then_nrm ?_ | refine aw_seq ?_)
    refine Z2i ?_
    refine Z6 ?_
    refine Zkn ?_
    repeat (first | refine then_nrm ?_ | refine then_ret ?_ | refine blk_ret ?_ | refine aw_ret ?_)
    exact Zko
  have hk2 : ¬ a.kind = 2 := by simpa using hc
  clear hc
  repeat (refine aw_seq ?_)
  refine Z3q ?_
  repeat (refine then_nrm ?_)
  refine aw_cond rfl (fun hc => ?_) (fun hc => ?_)
  · have hk : a.kind = 3 := by simpa using hc
    have he : ado i a = ((ilend i a.set a.at_).1, 0, (ilend i a.set a.at_).2) := by rw [ado, if_neg hk1, if_neg hk2, if_pos hk]
    rw [he]
    repeat (refine aw_seq ?_)
    refine Z2i ?_
    refine Z2z ?_
    refine Z20 ?_
    refine ao2 (by rintro _ ⟨⟩; decide) (V2.callT (inst_Lend i a.set a.at_ _ hw h20' hs) rfl rfl) ?_
    refine Zl1 ?_
    refine Zl2 ?_
    repeat (first | refine then_nrm ?_ | refine aw_seq ?_)
    refine Z2i ?_
    refine Z6 ?_
    refine Zkn ?_
    repeat (first | refine then_nrm ?_ | refine then_ret ?_ | refine blk_ret ?_ | refine aw_ret ?_)
    exact Zko
  have hk3 : ¬ a.kind = 3 := by simpa using hc
  clear hc
  repeat (refine aw_seq ?_)
  refine Z3q ?_
  repeat (refine then_nrm ?_)
  refine aw_cond rfl (fun hc => ?_) (fun hc => ?_)
  · have hk : a.kind = 4 := by simpa using hc
    have he : ado i a = ((imark i a.id a.what).1, 0, (imark i a.id a.what).2) := by rw [ado, if_neg hk1, if_neg hk2, if_neg hk3, if_pos hk]
    rw [he]
    repeat (refine aw_seq ?_)
    refine Z2i ?_
    refine Z5h ?_
    refine ao2 (by rintro _ ⟨⟩; decide) (V2.callT (inst_Mark i a.id a.what _ hw h20') rfl rfl) ?_
    refine Zl1 ?_
    refine Zl2 ?_
    repeat (first | refine then_nrm ?_ | refine aw_seq ?_)
    refine Z2i ?_
    refine Z6 ?_
    refine Zkn ?_
    repeat (first | refine then_nrm ?_ | refine then_ret ?_ | refine blk_ret ?_ | refine aw_ret ?_)
    exact Zko
  have hk4 : ¬ a.kind = 4 := by simpa using hc
  clear hc
  have he : ado i a = isubmit i a.spec a.needs := by rw [ado, if_neg hk1, if_neg hk2, if_neg hk3, if_neg hk4]
  rw [he]
  repeat (first | refine then_nrm ?_ | refine blk_nrm ?_ | refine aw_seq ?_ | refine aw_skip ?_)
  refine Z2i ?_
  refine Z1z ?_
  refine Zk2 ?_
  refine Z2z ?_
  refine ao2 (by rintro _ ⟨⟩; decide) (V2.callT (inst_Submit i a.spec a.needs _ hw h20 hn) rfl rfl) ?_
  refine Z61 ?_
  refine Zy ?_
  refine Zy ?_
  refine Zkm ?_
  try dsimp only [Nat.reduceAdd, put, List.set_cons_zero, List.set_cons_succ]
  repeat (first | refine then_nrm ?_ | refine aw_ret ?_)
  exact Zko
end Go.Av

namespace Go.Av
open Go.Proofs
set_option maxRecDepth 10000
set_option linter.unusedSimpArgs false
set_option linter.unusedVariables false
end Go.Av

namespace Go.Av
open Go.Proofs
set_option maxRecDepth 10000
set_option linter.unusedSimpArgs false
set_option linter.unusedVariables false
end Go.Av

namespace Go.Av
open Go.Proofs
set_option maxRecDepth 10000
set_option linter.unusedSimpArgs false
set_option linter.unusedVariables false
end Go.Av

namespace Go.Av
open Go.Proofs
set_option maxRecDepth 10000
set_option linter.unusedSimpArgs false
set_option linter.unusedVariables false
end Go.Av

namespace Go.Av
open Go.Proofs
set_option maxRecDepth 10000
set_option linter.unusedSimpArgs false
set_option linter.unusedVariables false
end Go.Av

namespace Go.Av
open Go.Proofs
set_option maxRecDepth 10000
set_option linter.unusedSimpArgs false
set_option linter.unusedVariables false
def g4 : List Thing := [⟨0, -1, ByteArray.empty⟩, ⟨2, 0, ByteArray.empty⟩, ⟨3, 1, ByteArray.empty⟩, ⟨3, 1, ByteArray.empty⟩]
def i4 : Inst := (inew g4 1 0).1
theorem i4_ok : (inew g4 1 0).2 = 0 := by decide +kernel
theorem i4_w : IW i4 := by
  refine ⟨?_, ?_, ?_, ?_, ?_, ?_⟩
  · decide +kernel
  · decide +kernel
  · decide +kernel
  · decide +kernel
  · decide +kernel
  · intro h hh
    have : i4.table = [] := by decide +kernel
    rw [this] at hh; cases hh
end Go.Av

namespace Go.Av
open Go.Proofs
set_option maxRecDepth 10000
set_option linter.unusedSimpArgs false
set_option linter.unusedVariables false
theorem RI.look {w : Inst} (h : RI w) : RI (wlook w) := h.broken.refuse.begin
theorem RI.submit {i : Inst} (h : RI i) (s : Spec) {needs : List Int} (hn : needs.length ≤ 1000000) (hl : i.jobs.length < 1000000) : RI (isubmit i s needs).1 := by
  unfold isubmit
  split
  · exact h
  · split
    · exact h
    · exact (h.jobs (h.jw.add s i.now hn hl)).look
theorem RI.act {i : Inst} (h : RI i) (id what : Int) : RI (ido i id what).1 := by
  unfold ido
  split
  · exact h
  · split
    · exact h
    · exact (h.wdo _ _ _).look
theorem RI.tick {i : Inst} (h : RI i) (now : Int) : RI (itick i now).1 := by
  unfold itick
  split
  · exact h
  · rw [← tck_all]
    exact (h.tck now _).look
theorem RI.lent {i : Inst} (h : RI i) {l : List Int} (til : Int) (hl : l.length ≤ 1000000) : RI (ilend i l til).1 := by
  unfold ilend
  split
  · exact h
  · exact (h.lend til hl).look
theorem RI.marked {i : Inst} (h : RI i) (n how : Int) : RI (imark i n how).1 := by
  unfold imark
  split
  · exact h
  · split
    · exact h
    · exact (h.mark n how).look
theorem RI.ado {i : Inst} (h : RI i) (a : LAct) (hn : a.needs.length ≤ 1000000) (hs : a.set.length ≤ 1000000) (hl : i.jobs.length < 1000000) : RI (ado i a).1 := by
  unfold Av.ado
  split
  · exact h.act _ _
  · split
    · exact h.tick _
    · split
      · exact h.lent _ hs
      · split
        · exact h.marked _ _
        · exact h.submit _ hn hl
theorem isubmit_jlen (i : Inst) (s : Spec) (needs : List Int) : (isubmit i s needs).1.jobs.length ≤ i.jobs.length + 1 := by
  unfold isubmit
  split
  · simp
  · split
    · simp
    · show (wlook _).jobs.length ≤ _
      rw [wlook_jlen]
      exact jobsAdd_len _ _ _ _
theorem ado_jlen (i : Inst) (a : LAct) : (ado i a).1.jobs.length ≤ i.jobs.length + 1 := by
  unfold Av.ado
  split
  · show (ido i a.id a.what).1.jobs.length ≤ _
    unfold ido
    split
    · simp
    · split
      · simp
      · show (wlook _).jobs.length ≤ _
        rw [wlook_jlen, wdo_jlen]; simp
  · split
    · show (itick i _).1.jobs.length ≤ _
      unfold itick
      split
      · simp
      · rw [← tck_all]
        show (wlook _).jobs.length ≤ _
        rw [wlook_jlen, tck_jlen]; simp
    · split
      · show (ilend i _ _).1.jobs.length ≤ _
        unfold ilend
        split
        · simp
        · show (wlook _).jobs.length ≤ _
          rw [wlook_jlen]; simp
      · split
        · show (imark i _ _).1.jobs.length ≤ _
          unfold imark
          split
          · simp
          · split
            · simp
            · show (wlook _).jobs.length ≤ _
              rw [wlook_jlen]; simp
        · exact isubmit_jlen _ _ _
def s16 : Spec := ⟨1, 2, 0, ByteArray.empty, false, 5, 0⟩
def b1 : Inst := (isubmit i4 s16 []).1
def b2 : Inst := (isubmit b1 s16 []).1
def b3 : Inst := (itick b2 5).1
theorem b1_ok : isubmit i4 s16 [] = (b1, 1, 0) := Prod.ext rfl (show (isubmit i4 s16 []).2 = (1, 0) by decide +kernel)
theorem b2_ok : isubmit b1 s16 [] = (b2, 2, 0) := Prod.ext rfl (show (isubmit b1 s16 []).2 = (2, 0) by decide +kernel)
theorem b3_ok : itick b2 5 = (b3, 0) := Prod.ext rfl (show (itick b2 5).2 = 0 by decide +kernel)
theorem b3_x : (jobsGet b3.jobs 1).1.state = 4 := by decide +kernel
theorem b3_y : (jobsGet b3.jobs 2).1.state = 2 := by decide +kernel
theorem b3_f : (ifree b3).length = 2 := by decide +kernel
theorem i4_j : i4.jobs = [] := by decide +kernel
theorem i4_ri : RI i4 := ⟨i4_w, by rw [i4_j]; exact ⟨by simp, fun j hj => by simp at hj⟩⟩
theorem b1_ri : RI b1 := i4_ri.submit s16 (by simp) (by rw [i4_j]; simp)
theorem b1_l : b1.jobs.length ≤ 1 := by have := isubmit_jlen i4 s16 []; rw [i4_j] at this; exact this
theorem b2_ri : RI b2 := b1_ri.submit s16 (by simp) (by have := b1_l; omega)
theorem b2_l : b2.jobs.length ≤ 2 := by have := isubmit_jlen b1 s16 []; have h := b1_l; exact Nat.le_trans this (by omega)
theorem b3_ri : RI b3 := b2_ri.tick 5
theorem ACT.nil3 {P : Program} {K : Know} {f : FuncId} {x y : AV} {H : Heap} {R : AOut → Heap → Prop} (h : ACT P K f [x, y, .pl []] H R) : ACT P K f [x, y, .nsl] H R := by
  intro S w cargs hk hH hv
  refine h S w cargs hk hH ⟨hv.1, fun i v u hvi hui => ?_⟩
  match i with
  | 0 => exact hv.2 0 v u hvi hui
  | 1 => exact hv.2 1 v u hvi hui
  | 2 =>
    obtain rfl : AV.pl [] = v := Option.some.inj hvi
    have h2 := hv.2 2 .nsl u rfl hui
    cases h2 with
    | @nsl _ ad => exact .pl (xs := []) default 0 (fun _ _ => undef) (Nat.zero_le _) (fun h => absurd rfl h) (fun _ _ h => by simp at h) (fun _ h => by simp at h) (fun _ _ _ _ h => by simp at h) (fun _ _ _ _ h => by simp at h)
  | i + 3 => simp at hvi
set_option maxHeartbeats 0 in
theorem law16_awake (H : Heap) : ACT Tryz.prog KD 16 [] H (Ret (.bool true) H) := by
  have cn := fun H => inst_New g4 1 0 H (by decide)
  rw [i4_ok, show (inew g4 1 0).1 = i4 from rfl] at cn
  have c1 := fun H => (inst_Submit i4 s16 [] H i4_ri (by rw [i4_j]; simp) (by simp)).nil3
  have c2 := fun H => (inst_Submit b1 s16 [] H b1_ri (by have := b1_l; omega) (by simp)).nil3
  have c3 := fun H => inst_Tick b2 5 H b2_ri (by have := b2_l; omega)
  have c4 := fun H => queue_Get b3.jobs 1 H b3_ri.jw
  have c5 := fun H => queue_Get b3.jobs 2 H b3_ri.jw
  have c6 := fun H => inst_Free b3 H b3_ri.iw
  rw [b1_ok] at c1
  rw [b2_ok] at c2
  rw [b3_ok] at c3
  have e4 := b3_x
  have e5 := b3_y
  have e6 := b3_f
  generalize i4 = i at *
  generalize b1 = x1 at *
  generalize b2 = x2 at *
  generalize b3 = x3 at *
  simp only at c1 c2 c3
  refine ACT.body (N := 89) [.tmp 0] Tryz.func16 rfl rfl rfl (Nat.le_of_ble_eq_true rfl) fun B hB => ?_
  repeat (refine aw_seq ?_)
  refine Za ?_
  repeat (first | refine then_nrm ?_ | refine aw_seq ?_)
  refine aw_region ?_
  refine Zl3 ?_
  refine Zl3 ?_
  refine Zl3 ?_
  refine Zl3 ?_
  refine ao2 (by rintro _ ⟨⟩; decide) (g_litL (g4.map eThing) rfl (by decide) (by decide) (by decide) rfl rfl (by simp [g4]) rfl (by simp [g4, AV.bels, AV.bel])) ?_
  refine Z9z ?_
  try dsimp only [AV.up, put]
  repeat (first | refine then_nrm ?_ | refine aw_seq ?_)
  refine Z2r ?_
  refine ao2 (by rintro _ ⟨⟩; decide) (V2.call (cn _) rfl) ?_
  refine Zl1 ?_
  refine Z7r ?_
  repeat (first | refine then_nrm ?_ | refine aw_seq ?_)
  refine aw_region ?_
  refine ao1 (by decide) (V1.up (o_build (cs := [.int _ _, .int _ _, .int _ _, .str _, .bool _, .int _ _, .int _ _]) rfl)) ?_
  refine ao2 (by rintro _ ⟨⟩; decide) (o_allocL (sz := 7) rfl (by decide) rfl) ?_
  refine ao2 (by rintro _ ⟨⟩) (w_storeW (sz := 7) rfl rfl rfl rfl rfl rfl rfl rfl (Nat.le_of_ble_eq_true rfl)) ?_
  refine ao_nil ?_
  refine Zh1 ?_
  repeat (first | refine then_nrm ?_ | refine aw_seq ?_)
  refine Z2i ?_
  refine Z2h ?_
  refine ao2 (by rintro _ ⟨⟩; decide) (V2.callT (c1 _) rfl rfl) ?_
  refine Zga ?_
  refine Zy ?_
  refine Zkm ?_
  refine Z5w ?_
  repeat (first | refine then_nrm ?_ | refine aw_seq ?_)
  refine Z2i ?_
  refine Z2h ?_
  refine ao2 (by rintro _ ⟨⟩; decide) (V2.callT (c2 _) rfl rfl) ?_
  refine Zga ?_
  refine Zy ?_
  refine Zkm ?_
  refine Z5w ?_
  repeat (first | refine then_nrm ?_ | refine aw_seq ?_)
  refine Z2i ?_
  refine ao2 (by rintro _ ⟨⟩; decide) (V2.callT (c3 _) rfl rfl) ?_
  refine Zl1 ?_
  refine Z99 ?_
  repeat (first | refine then_nrm ?_ | refine aw_seq ?_)
  refine Z30 ?_
  refine Z6 ?_
  refine Z4z ?_
  refine Z63 ?_
  refine Zdu ?_
  refine Z9 ?_
  refine Zl2 ?_
  repeat (first | refine then_nrm ?_ | refine aw_seq ?_)
  refine Z30 ?_
  refine Z6 ?_
  refine ao2 (by rintro _ ⟨⟩; decide) (V2.call (c5 _) rfl) ?_
  refine Z63 ?_
  refine Zdu ?_
  refine Z9 ?_
  refine Zl2 ?_
  repeat (first | refine then_nrm ?_ | refine aw_seq ?_)
  refine aw_out 0 (.bool true) ?_ ?_
  · refine Z4a ?_
    refine ao_split rfl rfl (fun hg2 => ?_) (fun hg2 => ?_)
    · refine Z4b ?_
      refine Z24 ?_
      refine ao_split rfl rfl (fun hg6 => ?_) (fun hg6 => ?_)
      · refine Z4b ?_
        refine Z24 ?_
        refine ao_split rfl rfl (fun hg10 => ?_) (fun hg10 => ?_)
        · refine Z4b ?_
          refine Z24 ?_
          refine ao_split rfl rfl (fun hg14 => ?_) (fun hg14 => ?_)
          · refine Z22 ?_
            refine Z3x ?_
            refine ao_split rfl rfl (fun hg19 => ?_) (fun hg19 => ?_)
            · refine Z22 ?_
              refine Z3x ?_
              refine ao_split rfl rfl (fun hg24 => ?_) (fun hg24 => ?_)
              · refine Z41 ?_
                refine ao_y rfl rfl (by decide) (V2.callT (c6 _) rfl rfl) ?_
                refine Z7k ?_
                refine Z3s ?_
                refine Zh ?_
                exact Z5m
              · refine Z3n ?_
                refine Zn ?_
                exact Z5m
            · refine Z45 ?_
              refine Zo ?_
              exact Z5m
          · refine Z27 ?_
            refine Z45 ?_
            refine Zo ?_
            exact Z5m
        · refine Z47 ?_
          refine Z27 ?_
          refine Z45 ?_
          refine Zo ?_
          exact Z5m
      · refine Z47 ?_
        refine Z47 ?_
        refine Z27 ?_
        refine Z45 ?_
        refine Zo ?_
        exact Z5m
    · refine Z47 ?_
      refine Z47 ?_
      refine Z47 ?_
      refine Z27 ?_
      refine Z45 ?_
      refine Zo ?_
      exact Z5m
  repeat (first | refine then_nrm ?_ | refine aw_ret ?_)
  exact Z7
end Go.Av

namespace Go.Av
open Go.Proofs
set_option maxRecDepth 10000
set_option linter.unusedSimpArgs false
set_option linter.unusedVariables false
set_option maxHeartbeats 0 in
theorem ref10_One (a b : Held) (H : Heap) (ha : a.things.length ≤ 1000000) : AC Tryz.prog 107 [.agg (eHeld a), .agg (eHeld b)] H (Ret (.bool (decide (a = b))) H) := by
  have he : decide (a = b) = (a.id == b.id && a.frm == b.frm && a.to == b.to && decide (a.things = b.things)) := by
    cases a; cases b; simp [Bool.beq_eq_decide_eq]; grind
  rw [he]
  refine AC.body (N := 31) [.tmp 4] Tryz.func107 rfl rfl rfl (Nat.le_of_ble_eq_true rfl) fun B hB => ?_
  repeat (refine aw_seq ?_)
  refine Za1 ?_
  refine Za0 ?_
  refine Z9 ?_
  refine Z4h ?_
  repeat (first | refine then_nrm ?_ | refine aw_seq ?_)
  refine aw_out 4 (.bool (a.id == b.id && a.frm == b.frm && a.to == b.to && decide (a.things = b.things))) ?_ ?_
  · refine Z5h ?_
    refine Z3r ?_
    refine ao_split rfl rfl (fun hg5 => ?_) (fun hg5 => ?_)
    · refine Z5i ?_
      refine ao_split rfl rfl (fun hg12 => ?_) (fun hg12 => ?_)
      · refine Z5i ?_
        refine ao_split rfl rfl (fun hg19 => ?_) (fun hg19 => ?_)
        · refine Z5l ?_
          refine ao_y rfl rfl (by decide) (V2.call (ref01_Same a.things b.things _ (by omega)) rfl) ?_
          refine Zh ?_
          exact Z5m
        · refine Z3l ?_
          exact Z5m
      · refine Zl ?_
        exact Z5o
    · refine Zl ?_
      refine Z45 ?_
      exact Z5o
  repeat (first | refine then_nrm ?_ | refine aw_ret ?_)
  exact Z7
set_option maxHeartbeats 0 in
theorem ref10_Same (a b : List Held) (H : Heap) (ha : HW a) : AC Tryz.prog 58 [.pl (a.map eHeld), .pl (b.map eHeld)] H (Ret (.bool (decide (a = b))) H) := by
  have hal := ha.1
  refine AC.body (N := 27) [.tmp 4] Tryz.func58 rfl rfl rfl (Nat.le_of_ble_eq_true rfl) fun B hB => ?_
  repeat (refine aw_seq ?_)
  refine Za ?_
  repeat (first | refine then_nrm ?_ | refine aw_seq ?_)
  refine Z59 ?_
  refine Z5a ?_
  refine Z5b ?_
  repeat (refine then_nrm ?_)
  refine aw_cond rfl (fun hc => ?_) (fun hc => ?_)
  · have hne : a.length ≠ b.length := by simp at hc; omega
    have he : decide (a = b) = false := decide_eq_false (fun e => hne (by rw [e]))
    rw [he]
    repeat (refine aw_seq ?_)
    refine Za ?_
    repeat (first | refine then_nrm ?_ | refine then_ret ?_ | refine aw_ret ?_)
    exact Z7
  have hl : a.length = b.length := by simp at hc; omega
  clear hc
  repeat (first | refine then_nrm ?_ | refine aw_seq ?_ | refine aw_skip ?_)
  refine Z3 ?_
  repeat (first | refine then_nrm ?_ | refine aw_block ?_)
  refine aw_loop (G := Nat) (fun k => k ≤ a.length ∧ a.take k = b.take k) (fun k => [(0, .pl (a.map eHeld)), (1, .pl (b.map eHeld)), (5, .int .i64 (k : Int))]) (fun _ => H ++ []) (fun k => a.length - k) 0 ⟨Nat.zero_le _, by simp⟩ (by repeat (first | exact Sub.nil | refine Sub.cons (by rfl) ?_)) (Fit.refl _ _) ?_
  rintro k ⟨hk, ht⟩
  repeat (refine aw_seq ?_)
  refine Z5d ?_
  repeat (refine then_nrm ?_)
  refine aw_cond rfl (fun hc => ?_) (fun hc => ?_)
  · have hlt : k < a.length := by simpa using hc
    obtain ⟨x, hx, hxl⟩ := get_in hlt
    obtain ⟨y, hy, _⟩ := get_in (l := b) (k := k) (by omega)
    have hr1 := map_get eHeld hx
    have hr2 := map_get eHeld hy
    have hxw := ha.2 x hxl
    clear hc
    repeat (first | refine then_nrm ?_ | refine aw_seq ?_ | refine aw_block ?_ | refine aw_skip ?_)
    refine Z15 ?_
    refine Z5e ?_
    refine Z17 ?_
    refine Zkw ?_
    refine Zkx ?_
    refine Z5f ?_
    refine Z1a ?_
    refine Zky ?_
    refine Zkz ?_
    refine aq02 8 rfl (by decide +kernel) (by decide) (fun _ => V2.call (ref10_One x y _ (by omega)) rfl) ?_
    refine Zl4 ?_
    refine Z19 ?_
    repeat (refine then_nrm ?_)
    refine aw_cond rfl (fun hc => ?_) (fun hc => ?_)
    · have hne : x ≠ y := by simpa using hc
      have he : decide (a = b) = false := decide_eq_false (fun e => hne (by rw [e, hy] at hx; exact (Option.some.inj hx).symm))
      rw [he]
      repeat (refine aw_seq ?_)
      refine Za ?_
      repeat (first | refine then_nrm ?_ | refine then_ret ?_ | refine blk_ret ?_ | refine aw_ret ?_)
      exact Z7
    · have he : x = y := by simpa using hc
      subst he
      repeat (first | refine then_nrm ?_ | refine blk_nrm ?_ | refine aw_skip ?_)
      refine Z5g ?_
      repeat (refine then_nrm ?_)
      refine ⟨k + 1, by omega, ⟨by omega, ?_⟩, (by repeat (first | exact Sub.nil | refine Sub.cons (by rfl) ?_)), .refl _ _⟩
      rw [take_snoc_get hx, take_snoc_get hy, ht]
  · have : k = a.length := by simp at hc; omega
    subst this
    have he : decide (a = b) = true := decide_eq_true (by rw [List.take_length, hl, List.take_length] at ht; exact ht)
    rw [he]
    repeat (first | refine then_nrm ?_ | refine then_brk ?_ | refine blk_hit ?_ | refine aw_seq ?_ | refine aw_exit ?_)
    refine Za ?_
    repeat (first | refine then_nrm ?_ | refine aw_ret ?_)
    exact Z7
set_option maxHeartbeats 0 in
theorem ref12_Same (a b : List Job) (H : Heap) (ha : JW a) : AC Tryz.prog 57 [.pl (a.map eJob), .pl (b.map eJob)] H (Ret (.bool (decide (a = b))) H) := by
  have hal := ha.1
  refine AC.body (N := 27) [.tmp 4] Tryz.func57 rfl rfl rfl (Nat.le_of_ble_eq_true rfl) fun B hB => ?_
  repeat (refine aw_seq ?_)
  refine Za ?_
  repeat (first | refine then_nrm ?_ | refine aw_seq ?_)
  refine Z59 ?_
  refine Z5a ?_
  refine Z5b ?_
  repeat (refine then_nrm ?_)
  refine aw_cond rfl (fun hc => ?_) (fun hc => ?_)
  · have hne : a.length ≠ b.length := by simp at hc; omega
    have he : decide (a = b) = false := decide_eq_false (fun e => hne (by rw [e]))
    rw [he]
    repeat (refine aw_seq ?_)
    refine Za ?_
    repeat (first | refine then_nrm ?_ | refine then_ret ?_ | refine aw_ret ?_)
    exact Z7
  have hl : a.length = b.length := by simp at hc; omega
  clear hc
  repeat (first | refine then_nrm ?_ | refine aw_seq ?_ | refine aw_skip ?_)
  refine Z3 ?_
  repeat (first | refine then_nrm ?_ | refine aw_block ?_)
  refine aw_loop (G := Nat) (fun k => k ≤ a.length ∧ a.take k = b.take k) (fun k => [(0, .pl (a.map eJob)), (1, .pl (b.map eJob)), (5, .int .i64 (k : Int))]) (fun _ => H ++ []) (fun k => a.length - k) 0 ⟨Nat.zero_le _, by simp⟩ (by repeat (first | exact Sub.nil | refine Sub.cons (by rfl) ?_)) (Fit.refl _ _) ?_
  rintro k ⟨hk, ht⟩
  repeat (refine aw_seq ?_)
  refine Z5d ?_
  repeat (refine then_nrm ?_)
  refine aw_cond rfl (fun hc => ?_) (fun hc => ?_)
  · have hlt : k < a.length := by simpa using hc
    obtain ⟨x, hx, hxl⟩ := get_in hlt
    obtain ⟨y, hy, _⟩ := get_in (l := b) (k := k) (by omega)
    have hr1 := map_get eJob hx
    have hr2 := map_get eJob hy
    have hxw := ha.2 x hxl
    clear hc
    repeat (first | refine then_nrm ?_ | refine aw_seq ?_ | refine aw_block ?_ | refine aw_skip ?_)
    refine Z15 ?_
    refine Z5e ?_
    refine Z17 ?_
    refine Zkw ?_
    refine Zkx ?_
    refine Z5f ?_
    refine Z1a ?_
    refine Zky ?_
    refine Zkz ?_
    refine aq02 8 rfl (by decide +kernel) (by decide) (fun _ => V2.call (ref11_Same x y _ (by omega)) rfl) ?_
    refine Zl4 ?_
    refine Z19 ?_
    repeat (refine then_nrm ?_)
    refine aw_cond rfl (fun hc => ?_) (fun hc => ?_)
    · have hne : x ≠ y := by simpa using hc
      have he : decide (a = b) = false := decide_eq_false (fun e => hne (by rw [e, hy] at hx; exact (Option.some.inj hx).symm))
      rw [he]
      repeat (refine aw_seq ?_)
      refine Za ?_
      repeat (first | refine then_nrm ?_ | refine then_ret ?_ | refine blk_ret ?_ | refine aw_ret ?_)
      exact Z7
    · have he : x = y := by simpa using hc
      subst he
      repeat (first | refine then_nrm ?_ | refine blk_nrm ?_ | refine aw_skip ?_)
      refine Z5g ?_
      repeat (refine then_nrm ?_)
      refine ⟨k + 1, by omega, ⟨by omega, ?_⟩, (by repeat (first | exact Sub.nil | refine Sub.cons (by rfl) ?_)), .refl _ _⟩
      rw [take_snoc_get hx, take_snoc_get hy, ht]
  · have : k = a.length := by simp at hc; omega
    subst this
    have he : decide (a = b) = true := decide_eq_true (by rw [List.take_length, hl, List.take_length] at ht; exact ht)
    rw [he]
    repeat (first | refine then_nrm ?_ | refine then_brk ?_ | refine blk_hit ?_ | refine aw_seq ?_ | refine aw_exit ?_)
    refine Za ?_
    repeat (first | refine then_nrm ?_ | refine aw_ret ?_)
    exact Z7
set_option maxHeartbeats 0 in
theorem ref16_Same (a b : Inst) (H : Heap) (ha : RI a) : AC Tryz.prog 20 [.agg (eInst a), .agg (eInst b)] H (Ret (.bool (decide (a = b))) H) := by
  have n1 := ha.iw.graph
  have n2 := ha.iw.health
  have n3 := ha.iw.lease
  have n4 := ha.jw
  have n5 := ha.iw.table
  have he : decide (a = b) = (decide (a.graph = b.graph) && decide (a.health = b.health) && decide (a.lease = b.lease) && a.til == b.til && a.now == b.now && a.policy == b.policy && a.depth == b.depth && decide (a.jobs = b.jobs) && decide (a.table = b.table)) := by
    cases a; cases b; simp [Bool.beq_eq_decide_eq]; grind
  rw [he]
  refine AC.body (N := 66) [.tmp 4] Tryz.func20 rfl rfl rfl (Nat.le_of_ble_eq_true rfl) fun B hB => ?_
  repeat (refine aw_seq ?_)
  refine Zdt ?_
  refine Zds ?_
  refine Z9 ?_
  refine Z4h ?_
  repeat (first | refine then_nrm ?_ | refine aw_seq ?_)
  refine aw_out 4 (.bool (decide (a.graph = b.graph) && decide (a.health = b.health) && decide (a.lease = b.lease) && a.til == b.til && a.now == b.now && a.policy == b.policy && a.depth == b.depth && decide (a.jobs = b.jobs) && decide (a.table = b.table))) ?_ ?_
  · refine Z2z ?_
    refine Z2z ?_
    refine ao2 (by rintro _ ⟨⟩; decide) (V2.call (ref16_Things a.graph b.graph _ (by omega)) rfl) ?_
    refine Zc ?_
    refine ao_split rfl rfl (fun hg5 => ?_) (fun hg5 => ?_)
    · refine Z5l ?_
      refine ao_y rfl rfl (by decide) (V2.call (ref01_Same a.health b.health _ (by omega)) rfl) ?_
      refine Z24 ?_
      refine ao_split rfl rfl (fun hg12 => ?_) (fun hg12 => ?_)
      · refine Z5l ?_
        refine ao_y rfl rfl (by decide) (V2.call (ref01_Same a.lease b.lease _ (by omega)) rfl) ?_
        refine Z24 ?_
        refine ao_split rfl rfl (fun hg19 => ?_) (fun hg19 => ?_)
        · refine Z5i ?_
          refine ao_split rfl rfl (fun hg26 => ?_) (fun hg26 => ?_)
          · refine Z5i ?_
            refine ao_split rfl rfl (fun hg33 => ?_) (fun hg33 => ?_)
            · refine Z5i ?_
              refine ao_split rfl rfl (fun hg40 => ?_) (fun hg40 => ?_)
              · refine Z5i ?_
                refine ao_split rfl rfl (fun hg47 => ?_) (fun hg47 => ?_)
                · refine Z5l ?_
                  refine ao_y rfl rfl (by decide) (V2.call (ref12_Same a.jobs b.jobs _ n4) rfl) ?_
                  refine Z24 ?_
                  refine ao_split rfl rfl (fun hg54 => ?_) (fun hg54 => ?_)
                  · refine Z5l ?_
                    refine ao_y rfl rfl (by decide) (V2.call (ref10_Same a.table b.table _ n5) rfl) ?_
                    refine Zh ?_
                    exact Zl5
                  · refine Z3l ?_
                    exact Zl5
                · refine Zl ?_
                  exact Zl6
              · refine Zl ?_
                refine Z45 ?_
                exact Zl6
            · refine Z5q ?_
              exact Zl6
          · refine Z5q ?_
            refine Z45 ?_
            exact Zl6
        · refine Z5q ?_
          refine Z5p ?_
          exact Zl6
      · refine Z5q ?_
        refine Z5p ?_
        refine Z45 ?_
        exact Zl6
    · refine Z5q ?_
      refine Z5p ?_
      refine Z5p ?_
      exact Zl6
  repeat (first | refine then_nrm ?_ | refine aw_ret ?_)
  exact Z7
end Go.Av

namespace Go.Av
theorem wdo_evA (w : Inst) (id what at_ : Int) : Ev w (wdo w id what at_).1 := by
  cases h : jobsR w.jobs with
  | true => exact wdo_ev h id what at_
  | false =>
    have : (jobsDo w.jobs id what at_).2 ≠ 0 := by rw [jobsDo, h]; simp
    rw [wdo, if_pos this]
    exact Ev.refl w
theorem fold_ev {α : Type} {f : Inst → α → Inst} (hf : ∀ a x, Ev a (f a x)) : ∀ (l : List α) (w : Inst), Ev w (l.foldl f w)
  | [], w => Ev.refl w
  | x :: l, w => (hf w x).trans (fold_ev hf l _)
theorem wbroken_ev (w : Inst) : Ev w (wbroken w) := by
  unfold wbroken
  exact fold_ev (fun a x => by split; exact Ev.refl a; exact wdo_evA _ _ _ _) _ _
theorem wrefuse_ev (w : Inst) : Ev w (wrefuse w) := by
  unfold wrefuse
  exact fold_ev (fun a x => by split; exact wdo_evA _ _ _ _; exact Ev.refl a) _ _
theorem wbegin_ev (w : Inst) : Ev w (wbegin w) := by
  unfold wbegin
  generalize wstart w = l
  refine fold_ev (fun a x => ?_) l w
  exact (wdo_evA a x.id 3 a.now).tab _
theorem wlook_ev (w : Inst) : Ev w (wlook w) := (wbroken_ev w).trans ((wrefuse_ev _).trans (wbegin_ev _))
def IDs (l : List Job) : Prop := ∀ (k : Nat) (j : Job), l[k]? = some j → j.id = (k : Int) + 1
theorem IDs.ev {w v : Inst} (h : IDs w.jobs) (e : Ev w v) : IDs v.jobs := fun k b hb => by
  have hk := (List.getElem?_eq_some_iff.1 hb).1
  have hw : k < w.jobs.length := by rw [← e.len]; exact hk
  rw [(e.jobs k _ b (List.getElem?_eq_getElem hw) hb).id]
  exact h k _ (List.getElem?_eq_getElem hw)
theorem IDs.last {l : List Job} (h : IDs l) : (jobLast l).id = (l.length : Int) := by
  unfold jobLast
  split
  · rename_i e; rw [e]; rfl
  · rename_i e
    have hl : l.length - 1 < l.length := by omega
    have hg : l[l.length - 1]? = some l[l.length - 1] := List.getElem?_eq_getElem hl
    rw [jobAt_get hg, h _ _ hg]
    omega
theorem jobsAdd_cases (l : List Job) (s : Spec) (needs : List Int) (now : Int) : ((jobsAdd l s needs now).2.2 ≠ 0 ∧ (jobsAdd l s needs now).2.1 = 0 ∧ (jobsAdd l s needs now).1 = l) ∨ jobsAdd l s needs now = (l ++ [⟨(jobLast l).id + 1, s, needs, 0, now, 0, 0⟩], (jobLast l).id + 1, 0) := by
  unfold jobsAdd
  split
  · exact .inl ⟨by simp, rfl, rfl⟩
  · split
    · exact .inl ⟨by simp, rfl, rfl⟩
    · split
      · exact .inl ⟨by simp, rfl, rfl⟩
      · split
        · exact .inl ⟨by simp, rfl, rfl⟩
        · exact .inr rfl
theorem IDs.add {l : List Job} (h : IDs l) (s : Spec) (needs : List Int) (now : Int) : IDs (jobsAdd l s needs now).1 := by
  rcases jobsAdd_cases l s needs now with ⟨_, _, e⟩ | e
  · rw [e]; exact h
  · rw [e]
    intro k j hj
    simp only at hj
    by_cases hk : k < l.length
    · rw [List.getElem?_append_left hk] at hj
      exact h k j hj
    · rw [List.getElem?_append_right (by omega)] at hj
      have : k - l.length = 0 := by
        have := (List.getElem?_eq_some_iff.1 hj).1
        simpa using this
      rw [this] at hj
      cases hj
      show (jobLast l).id + 1 = _
      rw [h.last]
      omega
structure LT (i n : Inst) (kind id f : Int) : Prop where
  now : n.now = i.now ∨ kind = 2
  lease : (n.lease = i.lease ∧ n.til = i.til) ∨ kind = 3
  health : n.health = i.health ∨ kind = 4
  policy : n.policy = i.policy
  depth : n.depth = i.depth
  graph : n.graph = i.graph
  came : (kind < 1 ∨ 4 < kind) → (f = 0 ↔ n.jobs.length = i.jobs.length + 1)
  id : id ≠ 0 → id = (n.jobs.length : Int)
  ids : IDs n.jobs
  pos : 0 ≤ n.now
theorem LT.same {i : Inst} (h : IDs i.jobs) (hp : 0 ≤ i.now) (kind : Int) {f : Int} (hf : f ≠ 0) : LT i i kind 0 f := ⟨.inl rfl, .inl ⟨rfl, rfl⟩, .inl rfl, rfl, rfl, rfl, fun _ => ⟨fun e => absurd e hf, fun e => by omega⟩, fun e => absurd rfl e, h, hp⟩
theorem Ev.LT {i n : Inst} (e : Ev i n) (h : IDs i.jobs) (hp : 0 ≤ i.now) {kind : Int} (hk : ¬ (kind < 1 ∨ 4 < kind)) : LT i n kind 0 0 := ⟨.inl e.now, .inl ⟨e.lease, e.til⟩, .inl e.health, e.policy, e.depth, e.graph, fun k => absurd k hk, fun x => absurd rfl x, h.ev e, by rw [e.now]; exact hp⟩
theorem isubmit_lt {i : Inst} (h : IDs i.jobs) (hp : 0 ≤ i.now) (s : Spec) (needs : List Int) (kind : Int) : LT i (isubmit i s needs).1 kind (isubmit i s needs).2.1 (isubmit i s needs).2.2 := by
  unfold isubmit
  split
  · exact .same h hp _ (by simp)
  · split
    · rename_i h2
      exact .same h hp _ h2
    · rename_i h2
      rcases jobsAdd_cases i.jobs s needs i.now with ⟨e0, _, _⟩ | e
      · exact absurd e0 h2
      · have hi := h.add s needs i.now
        generalize jobsAdd i.jobs s needs i.now = q at *
        subst e
        have ev := wlook_ev { i with jobs := i.jobs ++ [⟨(jobLast i.jobs).id + 1, s, needs, 0, i.now, 0, 0⟩] }
        have hl : (wlook { i with jobs := i.jobs ++ [⟨(jobLast i.jobs).id + 1, s, needs, 0, i.now, 0, 0⟩] }).jobs.length = i.jobs.length + 1 := by rw [ev.len]; simp
        refine ⟨.inl ev.now, .inl ⟨ev.lease, ev.til⟩, .inl ev.health, ev.policy, ev.depth, ev.graph, fun _ => ⟨fun _ => hl, fun _ => rfl⟩, fun _ => ?_, IDs.ev (w := { i with jobs := i.jobs ++ [⟨(jobLast i.jobs).id + 1, s, needs, 0, i.now, 0, 0⟩] }) hi ev, by rw [ev.now]; exact hp⟩
        show (jobLast i.jobs).id + 1 = _
        rw [hl, h.last]
        omega
theorem ido_lt {i : Inst} (h : IDs i.jobs) (hp : 0 ≤ i.now) (id what : Int) : LT i (ido i id what).1 1 0 (ido i id what).2 := by
  unfold ido
  split
  · exact .same h hp _ (by simp)
  · split
    · rename_i h2
      exact .same h hp _ h2
    · exact ((wdo_evA i id what i.now).trans (wlook_ev _)).LT h hp (by omega)
theorem itick_lt {i : Inst} (h : IDs i.jobs) (hp : 0 ≤ i.now) (now : Int) : LT i (itick i now).1 2 0 (itick i now).2 ∧ ((itick i now).2 = 0 → (itick i now).1.now = now) := by
  unfold itick
  split
  · exact ⟨.same h hp _ (by simp), fun e => by cases e⟩
  · rename_i h1
    have ht : tm now = true := by cases e : tm now <;> simp [e] at h1 ⊢
    have h0 : 0 ≤ now := by simp only [tm, Bool.and_eq_true, decide_eq_true_eq] at ht; exact ht.1
    rw [← tck_all]
    have e1 : Ev { i with now := now } (wlook (tck i now (heldOver i.table now).2.length)) := (fold_ev (fun a x => wdo_evA _ _ _ _) _ _).trans (wlook_ev _)
    exact ⟨⟨.inr rfl, .inl ⟨e1.lease, e1.til⟩, .inl e1.health, e1.policy, e1.depth, e1.graph, fun k => by omega, fun x => absurd rfl x, IDs.ev (w := { i with now := now }) h e1, by rw [e1.now]; exact h0⟩, fun _ => e1.now⟩
theorem ilend_lt {i : Inst} (h : IDs i.jobs) (hp : 0 ≤ i.now) (l : List Int) (til : Int) : LT i (ilend i l til).1 3 0 (ilend i l til).2 ∧ ((ilend i l til).2 = 0 → (ilend i l til).1.lease = l ∧ (ilend i l til).1.til = til) := by
  unfold ilend
  split
  · exact ⟨.same h hp _ (by simp), fun e => by cases e⟩
  · have e1 := wlook_ev { i with lease := l, til := til }
    exact ⟨⟨.inl e1.now, .inr rfl, .inl e1.health, e1.policy, e1.depth, e1.graph, fun k => by omega, fun x => absurd rfl x, IDs.ev (w := { i with lease := l, til := til }) h e1, by rw [e1.now]; exact hp⟩, fun _ => ⟨e1.lease, e1.til⟩⟩
theorem imark_lt {i : Inst} (h : IDs i.jobs) (hp : 0 ≤ i.now) (n how : Int) : LT i (imark i n how).1 4 0 (imark i n how).2 := by
  unfold imark
  split
  · exact .same h hp _ (by simp)
  · split
    · rename_i h2
      exact .same h hp _ h2
    · have e1 := wlook_ev { i with health := (hset i.graph i.health n how).1 }
      exact ⟨.inl e1.now, .inl ⟨e1.lease, e1.til⟩, .inr rfl, e1.policy, e1.depth, e1.graph, fun k => by omega, fun x => absurd rfl x, IDs.ev (w := { i with health := (hset i.graph i.health n how).1 }) h e1, by rw [e1.now]; exact hp⟩
end Go.Av

namespace Go.Av
open Go.Proofs
set_option maxRecDepth 10000
set_option linter.unusedSimpArgs false
set_option linter.unusedVariables false
theorem ado_lt {i : Inst} (h : IDs i.jobs) (hp : 0 ≤ i.now) (a : LAct) : LT i (ado i a).1 a.kind (ado i a).2.1 (ado i a).2.2 ∧ ((ado i a).2.2 = 0 → a.kind = 2 → (ado i a).1.now = anow i a) ∧ ((ado i a).2.2 = 0 → a.kind = 3 → (ado i a).1.lease = a.set ∧ (ado i a).1.til = a.at_) := by
  unfold ado
  split
  · rename_i hk
    exact ⟨by rw [hk]; exact ido_lt h hp _ _, fun _ e => by omega, fun _ e => by omega⟩
  · split
    · rename_i hk
      have := itick_lt h hp (anow i a)
      exact ⟨by rw [hk]; exact this.1, fun e _ => this.2 e, fun _ e => by omega⟩
    · split
      · rename_i hk
        have := ilend_lt h hp a.set a.at_
        exact ⟨by rw [hk]; exact this.1, fun _ e => by omega, fun e _ => this.2 e⟩
      · split
        · rename_i hk
          exact ⟨by rw [hk]; exact imark_lt h hp _ _, fun _ e => by omega, fun _ e => by omega⟩
        · exact ⟨isubmit_lt h hp _ _ _, fun _ e => by omega, fun _ e => by omega⟩
theorem gunder_len (g : List Thing) (n : Int) : (gunder g n).length ≤ g.length := by
  unfold gunder
  split
  · exact idx_len _ _
  · simp
theorem inew_ok (g : List Thing) (p d : Int) (hl : g.length ≤ 1000000) : RI (inew g p d).1 ∧ (inew g p d).1.jobs = [] ∧ (inew g p d).1.now = 0 ∧ ((inew g p d).2 = 0 → (inew g p d).1.graph = g) := by
  have hu := gunder_len g 0
  unfold inew
  split
  · refine ⟨⟨⟨?_, ?_, ?_, ?_, ?_, ?_⟩, ?_, ?_⟩, rfl, rfl, fun e => by cases e⟩ <;> simp [inst0]
  · refine ⟨⟨⟨hl, by simpa using hl, Nat.le_trans hu hl, by simp, by simp, by simp⟩, by simp, by simp⟩, rfl, rfl, fun _ => rfl⟩
set_option maxHeartbeats 0 in
theorem law16_InstTimes (g : List Thing) (p d : Int) (l : List LAct) (H : Heap) : ACT Tryz.prog KD 7 [.pl (g.map eThing), .int .u8 p, .int .u8 d, .pl (l.map eAct)] H (Ret (.bool true) H) := by
  refine ACT.body (N := 229) [.tmp 8] Tryz.func7 rfl rfl rfl (Nat.le_of_ble_eq_true rfl) fun B hB => ?_
  repeat (refine aw_seq ?_)
  refine Za ?_
  repeat (first | refine then_nrm ?_ | refine aw_seq ?_)
  refine aw_region ?_
  refine Zl7 ?_
  refine Z2j ?_
  try dsimp only [put]
  repeat (refine then_nrm ?_)
  refine aw_cond rfl (fun hc => ?_) (fun hc => ?_)
  · simp at hc
  clear hc
  repeat (first | refine then_nrm ?_ | refine aw_seq ?_ | refine aw_skip ?_)
  refine aw_out 27 (.bool (decide (40 < g.length) || !lightB l)) ?_ ?_
  · refine Z5a ?_
    refine Za3 ?_
    refine ao_split rfl rfl (fun hg3 => ?_) (fun hg3 => ?_)
    · refine Zjw ?_
      exact Zh8
    · refine Z7j ?_
      refine Zl8 ?_
      refine Zfu ?_
      exact Zh8
  repeat (refine then_nrm ?_)
  refine aw_cond rfl (fun hc => ?_) (fun hc => ?_)
  · repeat (refine aw_seq ?_)
    refine Za ?_
    repeat (first | refine then_nrm ?_ | refine then_ret ?_ | refine aw_ret ?_)
    exact Z7
  rw [Bool.or_eq_false_iff, decide_eq_false_iff_not, Bool.not_eq_false'] at hc
  obtain ⟨hg, hli⟩ := hc
  simp only [lightB, Bool.and_eq_true, decide_eq_true_eq, List.all_eq_true] at hli
  obtain ⟨hl14, hll⟩ := hli
  repeat (first | refine then_nrm ?_ | refine aw_seq ?_ | refine aw_skip ?_)
  refine Z95 ?_
  refine Zl9 ?_
  refine Zla ?_
  refine Z6 ?_
  refine Zl9 ?_
  refine Zlb ?_
  refine Zl1 ?_
  refine Z64 ?_
  have hq := inew_ok g (IntKind.i64.wrap (IntKind.i64.wrap (p.tmod 3) + 1)) (IntKind.i64.wrap (d.tmod 9)) (by omega)
  generalize inew g (IntKind.i64.wrap (IntKind.i64.wrap (p.tmod 3) + 1)) (IntKind.i64.wrap (d.tmod 9)) = q at *
  obtain ⟨i0, E⟩ := q
  simp only at hq ⊢
  obtain ⟨q1, q2, q3, q4⟩ := hq
  repeat (first | refine then_nrm ?_ | refine aw_seq ?_)
  refine Z3 ?_
  repeat (first | refine then_nrm ?_ | refine aw_block ?_)
  refine aw_loop (G := Nat × Inst) (fun q => q.1 ≤ l.length ∧ (E = 0 → RI q.2 ∧ q.2.jobs.length ≤ q.1 ∧ 0 ≤ q.2.now ∧ IDs q.2.jobs ∧ q.2.graph = g)) (fun q => [(KT, KD.av), (0, .pl (g.map eThing)), (3, .pl (l.map eAct)), (9, .pt (Lid H.length 0) 0 0 0), (10, .int .i64 E), (11, .int .i64 (q.1 : Int))]) (fun q => H ++ [⟨0, 9, [eInst q.2]⟩]) (fun q => l.length - q.1) (0, i0) ⟨Nat.zero_le _, fun e => ⟨q1, by rw [q2]; simp, by rw [q3]; exact Int.le_refl _, by rw [q2]; intro k j hj; simp at hj, q4 e⟩⟩ (by repeat (first | exact Sub.nil | refine Sub.cons (by rfl) ?_)) (.inl rfl) ?_
  clear q1 q2 q3 q4
  rintro ⟨k, i⟩ ⟨hk, hI⟩
  simp only at hk hI ⊢
  repeat (refine aw_seq ?_)
  refine aw_out 47 (.bool (decide (k < l.length) && decide (E = 0))) ?_ ?_
  · refine Z6 ?_
    refine Z5a ?_
    refine Zq ?_
    refine ao_split rfl rfl (fun hg4 => ?_) (fun hg4 => ?_)
    · refine Z4b ?_
      refine Zg ?_
      exact Zk3
    · refine Zl ?_
      refine Zm ?_
      exact Zh8
  repeat (refine then_nrm ?_)
  refine aw_cond rfl (fun hc => ?_) (fun hc => ?_)
  · rw [Bool.and_eq_true, decide_eq_true_eq, decide_eq_true_eq] at hc
    obtain ⟨hlt, hE⟩ := hc
    obtain ⟨hw, hjl, hpos, hids, hgr⟩ := hI hE
    obtain ⟨a, ha, hal⟩ := get_in hlt
    have hr := map_get eAct ha
    have haw := hll a hal
    have hlt2 := ado_lt hids hpos a
    have hri := hw.ado a (by omega) (by omega) (by omega)
    have hjn := ado_jlen i a
    clear hI
    repeat (first | refine then_nrm ?_ | refine aw_seq ?_ | refine aw_block ?_ | refine aw_skip ?_)
    refine Zad ?_
    refine Zha ?_
    refine Z7h ?_
    refine Zlc ?_
    refine Zld ?_
    refine Zle ?_
    refine Zlf ?_
    refine Zlg ?_
    refine Zlh ?_
    refine Zli ?_
    refine Zlj ?_
    refine Zlk ?_
    refine Zh7 ?_
    refine Zll ?_
    refine Z19 ?_
    refine Z65 ?_
    generalize ado i a = n at *
    obtain ⟨n, id, f⟩ := n
    simp only at hlt2 hri hjn ⊢
    obtain ⟨t, t2, t3⟩ := hlt2
    have n1 := hri.iw.lease
    have n2 := hri.iw.health
    have n3 := hri.iw.graph
    have n4 := hri.iw.jobs
    have n5 := hw.iw.jobs
    have f1 := t.now
    have f2 := t.lease
    have f3 := t.health
    have f4 := t.policy
    have f5 := t.depth
    have f6 := t.graph.trans hgr
    have f7 := t.came
    have f8 := t.id
    repeat (first | refine then_nrm ?_ | refine aw_seq ?_)
    refine aw_out 15 (.bool (decide (n.now ≠ i.now))) ?_ ?_
    · refine Z5h ?_
      refine Z1p ?_
      refine Z8 ?_
      exact Zlm
    repeat (first | refine then_nrm ?_ | refine aw_seq ?_)
    refine aw_out 16 (.bool (decide (n.lease ≠ i.lease ∨ n.til ≠ i.til))) ?_ ?_
    · refine Z2z ?_
      refine Z2z ?_
      refine ao2 (by rintro _ ⟨⟩; decide) (V2.call (ref01_Same n.lease i.lease _ (by omega)) rfl) ?_
      refine Z4n ?_
      refine ao_split rfl rfl (fun hg6 => ?_) (fun hg6 => ?_)
      · refine Z4p ?_
        refine Zh ?_
        exact Zln
      · refine Z3k ?_
        refine Zja ?_
        refine Zn ?_
        exact Zln
    repeat (first | refine then_nrm ?_ | refine aw_seq ?_)
    refine aw_out 17 (.bool (decide (n.health ≠ i.health))) ?_ ?_
    · refine Z2z ?_
      refine Z2z ?_
      refine ao2 (by rintro _ ⟨⟩; decide) (V2.call (ref01_Same n.health i.health _ (by omega)) rfl) ?_
      refine Z11 ?_
      refine Z8 ?_
      exact Zlm
    repeat (first | refine then_nrm ?_ | refine aw_seq ?_)
    refine aw_out 135 (.bool false) ?_ ?_
    · refine Z2e ?_
      refine ao_split rfl rfl (fun hg1 => ?_) (fun hg1 => ?_)
      · refine Zlo ?_
        refine Zja ?_
        refine Z24 ?_
        refine ao_split rfl rfl (fun hg9 => ?_) (fun hg9 => ?_)
        · refine Z29 ?_
          refine Zj5 ?_
          refine Z28 ?_
          refine Z24 ?_
          refine Z29 ?_
          refine Zj5 ?_
          refine Z28 ?_
          refine Z24 ?_
          exact Zls
        · refine Zlt ?_
          refine ao_split rfl rfl (fun hg11 => ?_) (fun hg11 => ?_)
          · refine Zlv ?_
            refine ao_split rfl rfl (fun hg20 => ?_) (fun hg20 => ?_)
            · refine Z29 ?_
              refine Zj5 ?_
              refine Z28 ?_
              refine Z24 ?_
              exact Zls
            · refine Zlt ?_
              refine ao_split rfl rfl (fun hg22 => ?_) (fun hg22 => ?_)
              · refine Zlv ?_
                refine ao_split rfl rfl (fun hg31 => ?_) (fun hg31 => ?_)
                · exact Zls
                · refine Zlx ?_
                  refine ao_split rfl rfl (fun hg38 => ?_) (fun hg38 => ?_)
                  · exact Zlr
                  · refine Zlx ?_
                    refine ao_split rfl rfl (fun hg45 => ?_) (fun hg45 => ?_)
                    · exact Zlq
                    · exact Zm0
              · refine Zm1 ?_
                refine Zlx ?_
                refine ao_split rfl rfl (fun hg38 => ?_) (fun hg38 => ?_)
                · exact Zlr
                · refine Zlx ?_
                  refine ao_split rfl rfl (fun hg45 => ?_) (fun hg45 => ?_)
                  · exact Zlq
                  · exact Zm0
          · refine Zm1 ?_
            refine Zlt ?_
            refine ao_split rfl rfl (fun hg22 => ?_) (fun hg22 => ?_)
            · refine Zlv ?_
              refine ao_split rfl rfl (fun hg31 => ?_) (fun hg31 => ?_)
              · exact Zls
              · refine Zlx ?_
                refine ao_split rfl rfl (fun hg38 => ?_) (fun hg38 => ?_)
                · exact Zlr
                · refine Zlx ?_
                  refine ao_split rfl rfl (fun hg45 => ?_) (fun hg45 => ?_)
                  · exact Zlq
                  · exact Zm0
            · refine Zm1 ?_
              refine Zlx ?_
              refine ao_split rfl rfl (fun hg38 => ?_) (fun hg38 => ?_)
              · exact Zlr
              · refine Zlx ?_
                refine ao_split rfl rfl (fun hg45 => ?_) (fun hg45 => ?_)
                · exact Zlq
                · exact Zm0
      · refine Z3n ?_
        refine Z47 ?_
        refine Zlt ?_
        refine ao_split rfl rfl (fun hg11 => ?_) (fun hg11 => ?_)
        · refine Zlv ?_
          refine ao_split rfl rfl (fun hg20 => ?_) (fun hg20 => ?_)
          · refine Z29 ?_
            refine Zj5 ?_
            refine Z28 ?_
            refine Z24 ?_
            exact Zls
          · refine Zlt ?_
            refine ao_split rfl rfl (fun hg22 => ?_) (fun hg22 => ?_)
            · refine Zlv ?_
              refine ao_split rfl rfl (fun hg31 => ?_) (fun hg31 => ?_)
              · exact Zls
              · refine Zlx ?_
                refine ao_split rfl rfl (fun hg38 => ?_) (fun hg38 => ?_)
                · exact Zlr
                · refine Zlx ?_
                  refine ao_split rfl rfl (fun hg45 => ?_) (fun hg45 => ?_)
                  · exact Zlq
                  · exact Zm0
            · refine Zm1 ?_
              refine Zlx ?_
              refine ao_split rfl rfl (fun hg38 => ?_) (fun hg38 => ?_)
              · exact Zlr
              · refine Zlx ?_
                refine ao_split rfl rfl (fun hg45 => ?_) (fun hg45 => ?_)
                · exact Zlq
                · exact Zm0
        · refine Zm1 ?_
          refine Zlt ?_
          refine ao_split rfl rfl (fun hg22 => ?_) (fun hg22 => ?_)
          · refine Zlv ?_
            refine ao_split rfl rfl (fun hg31 => ?_) (fun hg31 => ?_)
            · exact Zls
            · refine Zlx ?_
              refine ao_split rfl rfl (fun hg38 => ?_) (fun hg38 => ?_)
              · exact Zlr
              · refine Zlx ?_
                refine ao_split rfl rfl (fun hg45 => ?_) (fun hg45 => ?_)
                · exact Zlq
                · exact Zm0
          · refine Zm1 ?_
            refine Zlx ?_
            refine ao_split rfl rfl (fun hg38 => ?_) (fun hg38 => ?_)
            · exact Zlr
            · refine Zlx ?_
              refine ao_split rfl rfl (fun hg45 => ?_) (fun hg45 => ?_)
              · exact Zlq
              · exact Zm0
    repeat (refine then_nrm ?_)
    refine aw_cond rfl (fun hc => ?_) (fun hc => ?_)
    · simp at hc
    clear hc
    repeat (first | refine then_nrm ?_ | refine aw_seq ?_ | refine aw_skip ?_)
    refine aw_of_out 189 (.bool false) ?_ ?_
    · refine Z6i ?_
      refine Z5y ?_
      refine aq0 1 rfl (by decide +kernel) (by decide) (fun _ => o_eq rfl rfl) ?_
      refine Z66 ?_
      refine aq_split (g := 138) rfl (fun hg2 => ?_) (fun hg2 => ?_)
      · refine aqy0 (g := 138) 3 rfl (by decide +kernel) (by decide) rfl rfl (fun _ => o_move (v := .pl _) rfl) ?_
        refine aqy0 (g := 138) 4 rfl (by decide +kernel) (by decide) rfl rfl (fun _ => o_move (v := .int _ _) rfl) ?_
        refine aqyp (g := 138) 5 rfl (by decide +kernel) (by decide) rfl rfl (fun G => w_indexAddrpN rfl rfl hr rfl) ?_
        refine aqyp (g := 138) 6 rfl (by decide +kernel) (by decide) rfl rfl (fun G => w_fieldAddrp rfl (by decide)) ?_
        refine aqyp (g := 138) 7 rfl (by decide +kernel) (by decide) rfl rfl (fun G => o_load1p (v := .int _ _) rfl hr rfl) ?_
        refine aqy0 (g := 138) 8 rfl (by decide +kernel) (by decide) rfl rfl (fun _ => o_eq rfl rfl) ?_
        refine aq0 9 rfl (by decide +kernel) (by decide) (fun _ => o_pick_t (v := .bool _) rfl rfl) ?_
        refine Zm2 ?_
        refine aq_split (g := 146) rfl (fun hg10 => ?_) (fun hg10 => ?_)
        · refine aqyp (g := 146) 11 rfl (by decide +kernel) (by decide) rfl rfl (fun G => w_fieldAddr rfl (lk rfl rfl) rfl (by decide)) ?_
          refine aqyp (g := 146) 12 rfl (by decide +kernel) (by decide) rfl rfl (fun G => w_load1 (v := .int _ _) rfl (lk rfl rfl) rfl rfl rfl) ?_
          refine aqyp (g := 146) 13 rfl (by decide +kernel) (by decide) rfl rfl (fun G => w_loadR rfl (lk rfl rfl) rfl rfl rfl) ?_
          refine aqy0 (g := 146) 14 rfl (by decide +kernel) (by decide) rfl rfl (fun _ => o_move (v := .pl _) rfl) ?_
          refine aqy0 (g := 146) 15 rfl (by decide +kernel) (by decide) rfl rfl (fun _ => o_move (v := .int _ _) rfl) ?_
          refine aqyp (g := 146) 16 rfl (by decide +kernel) (by decide) rfl rfl (fun G => w_indexAddrpN rfl rfl hr rfl) ?_
          refine aqyp (g := 146) 17 rfl (by decide +kernel) (by decide) rfl rfl (fun G => w_loadRp rfl hr rfl) ?_
          refine aqy02 (g := 146) 18 rfl (by decide +kernel) (by decide) rfl rfl (fun _ => V2.call (law16_now i a _ hpos) rfl) ?_
          refine aqy0 (g := 146) 19 rfl (by decide +kernel) (by decide) rfl rfl (fun _ => o_ne rfl rfl) ?_
          refine Z8e ?_
          refine Z8f ?_
          refine aq_split (g := 157) rfl (fun hg21 => ?_) (fun hg21 => ?_)
          · refine aqn0 (g := 157) 22 rfl (by decide +kernel) (by decide) rfl rfl rfl ?_
            refine aqn0 (g := 157) 23 rfl (by decide +kernel) (by decide) rfl rfl rfl ?_
            refine aqn0 (g := 157) 24 rfl (by decide +kernel) (by decide) rfl rfl rfl ?_
            refine aqu0 (g := 160) 25 rfl (by decide +kernel) (by decide) rfl rfl ?_
            refine aqu0 (g := 160) 26 rfl (by decide +kernel) (by decide) rfl rfl ?_
            refine aqu0 (g := 160) 27 rfl (by decide +kernel) (by decide) rfl rfl ?_
            refine aqu0 (g := 160) 28 rfl (by decide +kernel) (by decide) rfl rfl ?_
            refine aqu0 (g := 160) 29 rfl (by decide +kernel) (by decide) rfl rfl ?_
            refine aqu0 (g := 160) 30 rfl (by decide +kernel) (by decide) rfl rfl ?_
            refine aqn0 (g := 157) 31 rfl (by decide +kernel) (by decide) rfl rfl rfl ?_
            refine aqn0 (g := 157) 32 rfl (by decide +kernel) (by decide) rfl rfl rfl ?_
            refine aqu0 (g := 168) 33 rfl (by decide +kernel) (by decide) rfl rfl ?_
            refine aqu0 (g := 168) 34 rfl (by decide +kernel) (by decide) rfl rfl ?_
            refine aqu0 (g := 168) 35 rfl (by decide +kernel) (by decide) rfl rfl ?_
            refine aqu0 (g := 168) 36 rfl (by decide +kernel) (by decide) rfl rfl ?_
            refine aqu0 (g := 168) 37 rfl (by decide +kernel) (by decide) rfl rfl ?_
            refine aqu0 (g := 168) 38 rfl (by decide +kernel) (by decide) rfl rfl ?_
            refine aqu0 (g := 168) 39 rfl (by decide +kernel) (by decide) rfl rfl ?_
            refine aqu0 (g := 168) 40 rfl (by decide +kernel) (by decide) rfl rfl ?_
            refine aqu0 (g := 168) 41 rfl (by decide +kernel) (by decide) rfl rfl ?_
            refine aqu0 (g := 168) 42 rfl (by decide +kernel) (by decide) rfl rfl ?_
            refine Zm9 ?_
            refine aqu0 (g := 168) 51 rfl (by decide +kernel) (by decide) rfl rfl ?_
            refine aqn0 (g := 157) 52 rfl (by decide +kernel) (by decide) rfl rfl rfl ?_
            refine aq0 53 rfl (by decide +kernel) (by decide) (fun _ => o_pick_t (v := .bool _) rfl rfl) ?_
            exact Zma
          · refine Zmb ?_
            refine Zmc ?_
            refine Zmd ?_
            refine aq_split (g := 160) rfl (fun hg24 => ?_) (fun hg24 => ?_)
            · refine Zme ?_
              refine Zmf ?_
              refine Zmg ?_
              refine Zmh ?_
              refine Zmi ?_
              refine Zmj ?_
              refine Zmk ?_
              refine Zml ?_
              refine aq_split (g := 168) rfl (fun hg32 => ?_) (fun hg32 => ?_)
              · refine Zmm ?_
                refine Zmn ?_
                refine Zmo ?_
                refine Zmp ?_
                refine Zmq ?_
                refine Zmr ?_
                refine Zms ?_
                refine Zmt ?_
                refine Zmu ?_
                refine Zmv ?_
                refine aq_split (g := 178) rfl (fun hg42 => ?_) (fun hg42 => ?_)
                · refine Zmw ?_
                  refine Zmx ?_
                  refine Zmy ?_
                  refine Zmz ?_
                  refine Zn0 ?_
                  refine Zn1 ?_
                  refine Zn2 ?_
                  refine Zn3 ?_
                  refine Zn4 ?_
                  exact Zn7
                · refine Zn8 ?_
                  refine Zn9 ?_
                  refine Zna ?_
                  refine Znb ?_
                  refine Znc ?_
                  refine Znd ?_
                  refine Zne ?_
                  refine Znf ?_
                  refine Zng ?_
                  exact Zn7
              · exact Znu
            · refine Znv ?_
              refine Znw ?_
              refine Znx ?_
              refine Zny ?_
              refine Znz ?_
              refine Zo0 ?_
              refine Zo1 ?_
              refine Zml ?_
              exact Znu
        · refine Zo2 ?_
          refine Zo3 ?_
          refine Zo4 ?_
          refine Zo5 ?_
          refine Zo6 ?_
          refine Zo7 ?_
          refine Zo8 ?_
          refine Zo9 ?_
          refine Zoa ?_
          refine Z90 ?_
          refine Z8f ?_
          refine Zmb ?_
          refine Zmc ?_
          refine Zmd ?_
          refine aq_split (g := 160) rfl (fun hg24 => ?_) (fun hg24 => ?_)
          · refine Zme ?_
            refine Zmf ?_
            refine Zmg ?_
            refine Zmh ?_
            refine Zmi ?_
            refine Zmj ?_
            refine Zmk ?_
            refine Zml ?_
            refine aq_split (g := 168) rfl (fun hg32 => ?_) (fun hg32 => ?_)
            · refine Zmm ?_
              refine Zmn ?_
              refine Zmo ?_
              refine Zmp ?_
              refine Zmq ?_
              refine Zmr ?_
              refine Zms ?_
              refine Zmt ?_
              refine Zmu ?_
              refine Zmv ?_
              refine aq_split (g := 178) rfl (fun hg42 => ?_) (fun hg42 => ?_)
              · refine Zmw ?_
                refine Zmx ?_
                refine Zmy ?_
                refine Zmz ?_
                refine Zn0 ?_
                refine Zn1 ?_
                refine Zn2 ?_
                refine Zn3 ?_
                refine Zn4 ?_
                exact Zn7
              · refine Zn8 ?_
                refine Zn9 ?_
                refine Zna ?_
                refine Znb ?_
                refine Znc ?_
                refine Znd ?_
                refine Zne ?_
                refine Znf ?_
                refine Zng ?_
                exact Zn7
            · exact Znu
          · refine Znv ?_
            refine Znw ?_
            refine Znx ?_
            refine Zny ?_
            refine Znz ?_
            refine Zo0 ?_
            refine Zo1 ?_
            refine Zml ?_
            exact Znu
      · refine aqn0 (g := 138) 3 rfl (by decide +kernel) (by decide) rfl rfl rfl ?_
        refine aqn0 (g := 138) 4 rfl (by decide +kernel) (by decide) rfl rfl rfl ?_
        refine aqn0 (g := 138) 5 rfl (by decide +kernel) (by decide) rfl rfl rfl ?_
        refine aqn0 (g := 138) 6 rfl (by decide +kernel) (by decide) rfl rfl rfl ?_
        refine aqn0 (g := 138) 7 rfl (by decide +kernel) (by decide) rfl rfl rfl ?_
        refine aqn0 (g := 138) 8 rfl (by decide +kernel) (by decide) rfl rfl rfl ?_
        refine aq0 9 rfl (by decide +kernel) (by decide) (fun _ => o_pick_f (v := .bool _) rfl rfl) ?_
        refine Zm2 ?_
        refine Zo2 ?_
        refine Zo3 ?_
        refine Zo4 ?_
        refine Zo5 ?_
        refine Zo6 ?_
        refine Zo7 ?_
        refine Zo8 ?_
        refine Zo9 ?_
        refine Zoa ?_
        refine Z90 ?_
        refine Z8f ?_
        refine Zmb ?_
        refine Zmc ?_
        refine Zmd ?_
        refine aq_split (g := 160) rfl (fun hg24 => ?_) (fun hg24 => ?_)
        · refine Zme ?_
          refine Zmf ?_
          refine Zmg ?_
          refine Zmh ?_
          refine Zmi ?_
          refine Zmj ?_
          refine Zmk ?_
          refine Zml ?_
          refine aq_split (g := 168) rfl (fun hg32 => ?_) (fun hg32 => ?_)
          · refine Zmm ?_
            refine Zmn ?_
            refine Zmo ?_
            refine Zmp ?_
            refine Zmq ?_
            refine Zmr ?_
            refine Zms ?_
            refine Zmt ?_
            refine Zmu ?_
            refine Zmv ?_
            refine aq_split (g := 178) rfl (fun hg42 => ?_) (fun hg42 => ?_)
            · refine Zmw ?_
              refine Zmx ?_
              refine Zmy ?_
              refine Zmz ?_
              refine Zn0 ?_
              refine Zn1 ?_
              refine Zn2 ?_
              refine Zn3 ?_
              refine Zn4 ?_
              exact Zn7
            · refine Zn8 ?_
              refine Zn9 ?_
              refine Zna ?_
              refine Znb ?_
              refine Znc ?_
              refine Znd ?_
              refine Zne ?_
              refine Znf ?_
              refine Zng ?_
              exact Zn7
          · exact Znu
        · refine Znv ?_
          refine Znw ?_
          refine Znx ?_
          refine Zny ?_
          refine Znz ?_
          refine Zo0 ?_
          refine Zo1 ?_
          refine Zml ?_
          exact Znu
    repeat (refine then_nrm ?_)
    refine aw_cond rfl (fun hc => ?_) (fun hc => ?_)
    · simp at hc
    clear hc
    repeat (first | refine then_nrm ?_ | refine aw_seq ?_ | refine aw_skip ?_)
    refine aw_out 227 (.bool false) ?_ ?_
    · refine Z9n ?_
      refine Z37 ?_
      refine Zjo ?_
      refine Z38 ?_
      refine Zq ?_
      refine ao_split rfl rfl (fun hg6 => ?_) (fun hg6 => ?_)
      · refine Z3c ?_
        refine Z4o ?_
        refine Z4b ?_
        refine Zob ?_
        refine Zob ?_
        refine Zoc ?_
        refine Z3s ?_
        refine Zod ?_
        refine Z24 ?_
        refine ao_split rfl rfl (fun hg27 => ?_) (fun hg27 => ?_)
        · refine Z2a ?_
          refine Z9f ?_
          refine Z9g ?_
          exact Zoe
        · refine Ze ?_
          refine Zja ?_
          refine Z2f ?_
          refine ao_split rfl rfl (fun hg30 => ?_) (fun hg30 => ?_)
          · refine Ze ?_
            refine Zob ?_
            refine Zjb ?_
            refine Zm ?_
            exact Zof
          · refine Z9l ?_
            refine Z9m ?_
            exact Zog
      · refine Zlo ?_
        refine Z2d ?_
        refine Z26 ?_
        refine ao_split rfl rfl (fun hg14 => ?_) (fun hg14 => ?_)
        · refine Z4b ?_
          refine Zob ?_
          refine Zob ?_
          refine Zoc ?_
          refine Z3s ?_
          refine Zod ?_
          refine Z24 ?_
          refine ao_split rfl rfl (fun hg27 => ?_) (fun hg27 => ?_)
          · refine Z2a ?_
            refine Z9f ?_
            refine Z9g ?_
            exact Zoe
          · refine Ze ?_
            refine Zja ?_
            refine Z2f ?_
            refine ao_split rfl rfl (fun hg30 => ?_) (fun hg30 => ?_)
            · refine Ze ?_
              refine Zob ?_
              refine Zjb ?_
              refine Zm ?_
              exact Zof
            · refine Z9l ?_
              refine Z9m ?_
              exact Zog
        · refine Z3o ?_
          refine Z27 ?_
          refine Ze ?_
          refine Zja ?_
          refine Z2f ?_
          refine ao_split rfl rfl (fun hg30 => ?_) (fun hg30 => ?_)
          · refine Ze ?_
            refine Zob ?_
            refine Zjb ?_
            refine Zm ?_
            exact Zof
          · refine Z9l ?_
            refine Z9m ?_
            exact Zog
    repeat (refine then_nrm ?_)
    refine aw_cond rfl (fun hc => ?_) (fun hc => ?_)
    · simp at hc
    clear hc
    repeat (first | refine then_nrm ?_ | refine aw_skip ?_)
    refine Z2i ?_
    refine Zfv ?_
    refine Z98 ?_
    repeat (first | refine then_nrm ?_ | refine blk_nrm ?_)
    refine Z5g ?_
    repeat (refine then_nrm ?_)
    refine ⟨(k + 1, n), by simp only; omega, ⟨by simp only; omega, fun _ => ⟨hri, by simp only; omega, t.pos, t.ids, f6⟩⟩, (by repeat (first | exact Sub.nil | refine Sub.cons (by rfl) ?_)), Fit.loc hB rfl (by repeat (first | exact EBel.nil | refine EBel.cons (by first | rfl | (simp [AV.bel, AV.bels, Lid]; done)) ?_)) ?_⟩
    intro o ho r hr
    simp only [List.mem_singleton] at ho
    subst ho
    exact inst_bel _ _ r hr
  · repeat (first | refine then_nrm ?_ | refine then_brk ?_ | refine blk_hit ?_ | refine aw_seq ?_ | refine aw_exit ?_)
    refine Za ?_
    repeat (first | refine then_nrm ?_ | refine aw_ret ?_)
    exact Z7
end Go.Av

namespace Go.Av
set_option linter.unusedVariables false
set_option linter.unusedSimpArgs false
structure GJ (w : Inst) : Prop where
  ir : IR w
  long : ∀ j ∈ w.jobs, (j.state = 3 ∨ j.state = 4) → j.to - j.frm ≤ j.spec.long
  past : ∀ j ∈ w.jobs, 3 ≤ j.state → j.to ≤ w.now
  needs : ∀ j ∈ w.jobs, (j.state = 2 ∨ j.state = 3 ∨ j.state = 4) → ∀ n ∈ j.needs, ∃ y ∈ w.jobs, y.id = n ∧ y.state = 3 ∧ y.to ≤ j.frm
theorem jright_spec {j : Job} (h : jright j = true) : sright j.spec = true := by simp only [jright, Bool.and_eq_true] at h; exact h.1.1.1.2
theorem jright_frm {j : Job} (h : jright j = true) (h2 : 2 ≤ j.state ∧ j.state ≤ 4) : tm j.frm = true ∧ j.came ≤ j.frm ∧ 0 ≤ j.came := by
  have h5 : tm j.came = true := by simp only [jright, Bool.and_eq_true] at h; exact h.1.2
  have ht : jtimes j = true := by simp only [jright, Bool.and_eq_true] at h; exact h.2
  have hb : jbegun j = true := by
    unfold jtimes at ht
    rw [if_neg (by omega)] at ht
    split at ht
    · rw [Bool.and_eq_true] at ht; exact ht.1
    · rw [if_pos (by omega), Bool.and_eq_true] at ht; exact ht.1
  rw [jbegun, Bool.and_eq_true, decide_eq_true_eq] at hb
  exact ⟨hb.1, hb.2, (tm_iff.1 h5).1⟩
theorem jright_ended {j : Job} (h : jright j = true) (h2 : j.state = 3 ∨ j.state = 4) : j.frm ≤ j.to := by
  have ht : jtimes j = true := by simp only [jright, Bool.and_eq_true] at h; exact h.2
  unfold jtimes at ht
  rw [if_neg (by omega), if_neg (by omega), if_pos h2, Bool.and_eq_true, jended, Bool.and_eq_true, decide_eq_true_eq] at ht
  omega
theorem sEnds_le {s : Spec} {t : Int} (hs : sright s = true) (ht : tm t = true) : sEnds s t ≤ t + s.long ∧ t ≤ sEnds s t := by
  have := sright_facts hs
  have := tm_iff.1 ht
  unfold sEnds
  rw [hs, if_pos rfl]
  unfold plus near
  omega
theorem GJ.wdo {w : Inst} (h : GJ w) {id what at_ : Int} (h3 : what ≠ 3) (hn : at_ ≤ w.now) (ht : ∀ x ∈ w.table, x.id = id → at_ ≤ x.to) : GJ (wdo w id what at_).1 := by
  have hir := wdo_ir h.ir h3 (id := id) (at_ := at_)
  rcases wdo_cases h.ir.jobs id what at_ with ⟨e, _⟩ | ⟨j, hj, rfl, s, hb, hs, e1, e⟩
  · rw [e]; exact h
  · have hm := (set_jobs h.ir.jobs hj e1 hb hs).2
    have hjr := (jobs_iff.1 h.ir.jobs).2.1 j hj
    have hf := jnext_from hs
    have hin := jnext_in (jright_state hjr).1 hs
    rw [e] at hir ⊢
    have hs2 : s ≠ 2 := by rintro rfl; exact h3 (jnext_two hs).1
    refine ⟨hir, ?_, ?_, ?_⟩
    · intro y hy hst
      rcases (hm y).1 hy with rfl | ⟨hy, _⟩
      · have hst : s = 3 ∨ s = 4 := hst
        have hj2 : j.state = 2 := by rcases hst with e | e <;> omega
        obtain ⟨x, hx, hid, hfr, hto, _⟩ := h.ir.run j hj hj2
        have h1 := ht x hx hid
        have h2 := sEnds_le (jright_spec hjr) (jright_frm hjr (by omega)).1
        show (if jover s then at_ else j.to) - (if s = 2 then at_ else j.frm) ≤ j.spec.long
        rw [if_neg hs2, if_pos (by rw [jover, Bool.and_eq_true, decide_eq_true_eq, decide_eq_true_eq]; omega)]
        omega
      · exact h.long y hy hst
    · intro y hy hst
      rcases (hm y).1 hy with rfl | ⟨hy, _⟩
      · show (if jover s then at_ else j.to) ≤ w.now
        have hst : 3 ≤ s := hst
        rw [if_pos (by rw [jover, Bool.and_eq_true, decide_eq_true_eq, decide_eq_true_eq]; omega)]
        exact hn
      · exact h.past y hy hst
    · intro y hy hst n hn'
      have key : ∃ z ∈ w.jobs, z.id = n ∧ z.state = 3 ∧ z.to ≤ y.frm := by
        rcases (hm y).1 hy with rfl | ⟨hy, _⟩
        · have hst : s = 2 ∨ s = 3 ∨ s = 4 := hst
          have hj2 : j.state = 2 := by rcases hst with e | e | e <;> omega
          have := h.needs j hj (.inl hj2) n hn'
          show ∃ z ∈ w.jobs, z.id = n ∧ z.state = 3 ∧ z.to ≤ (if s = 2 then at_ else j.frm)
          rw [if_neg hs2]; exact this
        · exact h.needs y hy hst n hn'
      obtain ⟨z, hz, r⟩ := key
      refine ⟨z, (hm z).2 (.inr ⟨hz, fun e => ?_⟩), r⟩
      have := job_inj h.ir hz hj e
      subst this
      omega
structure GI (w v : Inst) : Prop where
  gj : GJ v
  ev : Ev w v
  lt : ∀ x ∈ v.table, v.now < x.to
  sub : ∀ x ∈ v.table, x ∈ w.table
theorem GI.refl {w : Inst} (h : GJ w) (hl : ∀ x ∈ w.table, w.now < x.to) : GI w w := ⟨h, Ev.refl w, hl, fun x hx => hx⟩
theorem GI.wdo {w v : Inst} (h : GI w v) {id what : Int} (h3 : what ≠ 3) : GI w (wdo v id what v.now).1 := by
  have hev := wdo_ev h.gj.ir.jobs id what v.now
  have hsub := wdo_table h.gj.ir id what v.now
  refine ⟨h.gj.wdo h3 (Int.le_refl _) fun x hx _ => Int.le_of_lt (h.lt x hx), h.ev.trans hev, fun x hx => ?_, fun x hx => h.sub x (hsub x hx)⟩
  rw [hev.now]
  exact h.lt x (hsub x hx)
theorem GI.broken {w : Inst} (h : GJ w) (hl : ∀ x ∈ w.table, w.now < x.to) : GI w (wbroken w) := by
  unfold wbroken
  refine fold_inv (P := GI w) _ _ (GI.refl h hl) fun v x _ hv => ?_
  split
  · exact hv
  · exact hv.wdo (by decide)
theorem GI.refuse {w : Inst} (h : GJ w) (hl : ∀ x ∈ w.table, w.now < x.to) : GI w (wrefuse w) := by
  unfold wrefuse
  refine fold_inv (P := GI w) _ _ (GI.refl h hl) fun v x _ hv => ?_
  split
  · exact hv.wdo (by decide)
  · exact hv
theorem ithings_iff {g : List Thing} {l : List Int} : ithings g l = true ↔ sok l = true ∧ ∀ x ∈ l, x < (g.length : Int) := by
  rw [ithings, Bool.and_eq_true, Bool.or_eq_true, decide_eq_true_eq, decide_eq_true_eq]
  refine and_congr_right fun hs => ?_
  have hp := sok_sorted hs
  constructor
  · rintro (h | h) x hx
    · rw [List.length_eq_zero_iff] at h; subst h; cases hx
    · obtain ⟨k, hk, rfl⟩ := List.mem_iff_getElem.1 hx
      have hl : l.length - 1 < l.length := by omega
      rw [List.getD_eq_getElem?_getD, List.getElem?_eq_getElem hl, Option.getD_some] at h
      by_cases e : k = l.length - 1
      · subst e; exact h
      · have := List.pairwise_iff_getElem.1 hp k (l.length - 1) hk hl (by omega)
        omega
  · intro h
    by_cases e : l.length = 0
    · exact .inl e
    · have hl : l.length - 1 < l.length := by omega
      right
      rw [List.getD_eq_getElem?_getD, List.getElem?_eq_getElem hl, Option.getD_some]
      exact h _ (List.getElem_mem hl)
theorem ithings_part {g : List Thing} {a b : List Int} (h : ithings g b = true) (k : spart a b = true) : ithings g a = true :=
  ithings_iff.2 ⟨(spart_iff.1 k).1, fun x hx => (ithings_iff.1 h).2 x (part_mem k x hx)⟩
theorem istatic_lease {w : Inst} (h : istatic w = true) : ithings w.graph w.lease = true := by simp only [istatic, Bool.and_eq_true] at h; exact h.1.1.1.2
theorem iusable_part {w : Inst} (h : istatic w = true) : spart (iusable w) w.lease = true := part_meet1 (ithings_iff.1 (istatic_lease h)).1 (hbelow_sok _ _ _)
theorem hbelow_part (g : List Thing) (h : List Int) : spart (hbelow g h 0) (hbelow g h 1) = true := by
  refine part_sub (hbelow_sok _ _ _) (hbelow_sok _ _ _) fun x hx => ?_
  unfold hbelow at hx ⊢
  split at hx
  · rename_i hr
    rw [if_pos hr]
    obtain ⟨k, rfl, hk, e⟩ := idx_mem.1 hx
    refine idx_mem.2 ⟨k, rfl, hk, ?_⟩
    rw [decide_eq_true_eq] at e ⊢
    omega
  · cases hx
theorem iusable_good {w : Inst} (h : istatic w = true) : spart (iusable w) (smeet w.lease (hbelow w.graph w.health 1)) = true := by
  have hl := (ithings_iff.1 (istatic_lease h)).1
  refine spart_iff.2 ⟨smeet_sok _ _, smeet_sok _ _, fun n hn => ?_⟩
  rw [iusable, in_meet hl (hbelow_sok _ _ _), Bool.and_eq_true] at hn
  rw [in_meet hl (hbelow_sok _ _ _), Bool.and_eq_true]
  exact ⟨hn.1, (spart_iff.1 (hbelow_part _ _)).2.2 n hn.2⟩
structure Todo (w : Inst) (l : List Held) (use : List Int) (B : List Held) (v : Inst) : Prop where
  gj : GJ v
  ev : Ev w v
  lt : ∀ x ∈ v.table, v.now < x.to
  good : ∀ x ∈ v.table, x ∈ w.table ∨ spart x.things use = true
  tab : ∀ x ∈ v.table, x ∈ l
  inl : ∀ x ∈ B, x ∈ l
  frm : ∀ x ∈ B, x.frm = w.now
  part : ∀ x ∈ B, spart x.things use = true
  dif : B.Pairwise (fun a b => a.id ≠ b.id)
  new : ∀ x ∈ B, ∀ y ∈ v.table, y.id ≠ x.id
  job : ∀ x ∈ B, ∃ j ∈ v.jobs, j.id = x.id ∧ j.state = 0 ∧ x.to = sEnds j.spec w.now ∧ ∀ n ∈ j.needs, ∃ y ∈ v.jobs, y.id = n ∧ y.state = 3
theorem Todo.step {w : Inst} {l : List Held} {use : List Int} {x : Held} {B : List Held} {v : Inst} (hr : heldR l = true) (hu : ithings w.graph use = true) (h : Todo w l use (x :: B) v) : Todo w l use B (wbeg v x) := by
  have hx := List.mem_cons_self (a := x) (l := B)
  have hp := held_iff.1 hr
  have hmay := hp.2.1 x (h.inl x hx)
  obtain ⟨j0, hj0, e0, s0, to0, nd0⟩ := h.job x hx
  have hnew := h.new x hx
  have hfr : x.frm = v.now := by rw [h.frm x hx, h.ev.now]
  have hbeg : Beg v x := by
    refine ⟨hmay, by rw [h.ev.graph]; exact ithings_part hu (h.part x hx), hfr, ⟨j0, hj0, e0, s0, by rw [h.ev.now]; exact to0⟩, hnew, ?_, fun y hy => clash_of hr (h.tab y hy) (h.inl x hx) (hnew y hy)⟩
    have hnd : (x :: v.table).Nodup := by
      rw [List.nodup_cons]
      refine ⟨fun hm => hnew x hm rfl, ?_⟩
      exact h.gj.ir.pt.imp fun hlt e => by rw [e] at hlt; omega
    have := nd_len (x :: v.table) l hnd fun y hy => by
      rcases List.mem_cons.1 hy with rfl | hy
      · exact h.inl _ hx
      · exact h.tab y hy
    rw [List.length_cons] at this
    have := hp.1
    omega
  have hir := wbeg_ir h.gj.ir hbeg
  obtain ⟨j, hj, e, s, hto, ht, hrr, hjr, hev, hm⟩ := wbeg_step h.gj.ir hbeg
  have hjj : j = j0 := job_inj h.gj.ir hj hj0 (by rw [e, e0])
  subst hjj
  have stay : ∀ z ∈ v.jobs, z.state = 3 → z ∈ (wbeg v x).jobs := fun z hz h3 => (hm z).2 (.inr ⟨hz, fun e2 => by
    have := job_inj h.gj.ir hz hj (by rw [e2, e])
    subst this
    omega⟩)
  have hlt : v.now < x.to := by
    simp only [hmay, Go.Av.hmay, Bool.and_eq_true, decide_eq_true_eq] at hmay
    omega
  refine ⟨⟨hir, ?_, ?_, ?_⟩, h.ev.trans hev, ?_, ?_, ?_, fun y hy => h.inl y (List.mem_cons_of_mem _ hy), fun y hy => h.frm y (List.mem_cons_of_mem _ hy), fun y hy => h.part y (List.mem_cons_of_mem _ hy), (List.pairwise_cons.1 h.dif).2, ?_, ?_⟩
  · intro y hy hst
    rcases (hm y).1 hy with rfl | ⟨hy, _⟩
    · have : (2 : Int) = 3 ∨ (2 : Int) = 4 := hst
      omega
    · exact h.gj.long y hy hst
  · intro y hy hst
    rw [hev.now]
    rcases (hm y).1 hy with rfl | ⟨hy, _⟩
    · have : (3 : Int) ≤ 2 := hst
      omega
    · exact h.gj.past y hy hst
  · intro y hy hst n hn
    rcases (hm y).1 hy with rfl | ⟨hy, _⟩
    · obtain ⟨z, hz, h1, h2⟩ := nd0 n hn
      exact ⟨z, stay z hz h2, h1, h2, h.gj.past z hz (by omega)⟩
    · obtain ⟨z, hz, h1, h2, h4⟩ := h.gj.needs y hy hst n hn
      exact ⟨z, stay z hz h2, h1, h2, h4⟩
  · intro y hy
    rw [hev.now]
    rw [ht] at hy
    rcases kput_mem.1 hy with rfl | hy
    · exact hlt
    · exact h.lt y hy
  · intro y hy
    rw [ht] at hy
    rcases kput_mem.1 hy with rfl | hy
    · exact .inr (h.part _ hx)
    · exact h.good y hy
  · intro y hy
    rw [ht] at hy
    rcases kput_mem.1 hy with rfl | hy
    · exact h.inl _ hx
    · exact h.tab y hy
  · intro y hy z hz
    rw [ht] at hz
    rcases kput_mem.1 hz with rfl | hz
    · exact (List.pairwise_cons.1 h.dif).1 y hy
    · exact h.new y (List.mem_cons_of_mem _ hy) z hz
  · intro y hy
    obtain ⟨k, hk, k1, k2, k3, k4⟩ := h.job y (List.mem_cons_of_mem _ hy)
    refine ⟨k, (hm k).2 (.inr ⟨hk, ?_⟩), k1, k2, k3, fun n hn => ?_⟩
    · rw [k1]
      exact fun e => (List.pairwise_cons.1 h.dif).1 y hy e.symm
    · obtain ⟨z, hz, z1, z2⟩ := k4 n hn
      exact ⟨z, stay z hz z2, z1, z2⟩
theorem Todo.all {w : Inst} {l : List Held} {use : List Int} (hr : heldR l = true) (hu : ithings w.graph use = true) : ∀ (B : List Held) (v : Inst), Todo w l use B v → Todo w l use [] (B.foldl wbeg v)
  | [], v, h => h
  | x :: B, v, h => Todo.all hr hu B _ (h.step hr hu)
theorem ready_job {w : Inst} (h : IR w) {wt : Want} (hw : wt ∈ wwants w) : ∃ j ∈ w.jobs, j.id = wt.id ∧ j.state = 0 ∧ wt.spec = j.spec ∧ ∀ n ∈ j.needs, ∃ y ∈ w.jobs, y.id = n ∧ y.state = 3 := by
  obtain ⟨id, hid, rfl⟩ := List.mem_map.1 hw
  unfold jobsReadyIds at hid
  rw [h.jobs, if_pos rfl] at hid
  obtain ⟨j, hj, rfl⟩ := List.mem_map.1 hid
  have hj := byPrio_mem.1 hj
  rw [jobsReady, List.mem_filter, Bool.and_eq_true, decide_eq_true_eq, List.all_eq_true] at hj
  obtain ⟨hj, hs, hn⟩ := hj
  refine ⟨j, hj, rfl, hs, by simp only [jobsGet_eq h.jobs hj], fun n hnn => ?_⟩
  obtain ⟨k, hk⟩ := List.mem_iff_getElem?.1 hj
  have hin := (jobs_iff.1 h.jobs).2.2.2.2 k j hk n hnn
  obtain ⟨y, hy, rfl⟩ := List.mem_map.1 (List.mem_of_mem_take hin)
  have := hn _ hnn
  rw [decide_eq_true_eq, jobAt_get (jobPos_at h.pj hy)] at this
  exact ⟨y, hy, rfl, this⟩
theorem begin_ok {w : Inst} (h : GJ w) (hl : ∀ x ∈ w.table, w.now < x.to) (hs : istatic w = true) : GJ (wbegin w) ∧ Ev w (wbegin w) ∧ (∀ x ∈ (wbegin w).table, (wbegin w).now < x.to) ∧ ∀ x ∈ (wbegin w).table, x ∈ w.table ∨ spart x.things (iusable w) = true := by
  have hu := iusable_part hs
  obtain ⟨l, pk⟩ := pickAll_pk (g := w.graph) (use := iusable w) (l0 := w.table) (ws := wwants w) (now := w.now) (til := w.til) (policy := w.policy) (depth := w.depth) (smeet_sok _ _) h.ir.table
  have t0 : Todo w l (iusable w) (wstart w) w := ⟨h, Ev.refl w, hl, fun x hx => .inl hx, pk.old, pk.isin, pk.frm, pk.part, pk.dif, pk.new, fun x hx => by
    obtain ⟨wt, hw, e, hto⟩ := pk.of x hx
    obtain ⟨j, hj, j1, j2, j3, j4⟩ := ready_job h.ir hw
    exact ⟨j, hj, j1.trans e, j2, by rw [hto, j3], j4⟩⟩
  have := Todo.all pk.r (ithings_part (istatic_lease hs) hu) _ _ t0
  exact ⟨this.gj, this.ev, this.lt, this.good⟩
theorem look_ok {w : Inst} (h : GJ w) (hl : ∀ x ∈ w.table, w.now < x.to) (hs : istatic w = true) : GJ (wlook w) ∧ (∀ x ∈ (wlook w).table, (wlook w).now < x.to) ∧ istatic (wlook w) = true ∧ ∀ x ∈ (wlook w).table, spart x.things (smeet (wlook w).lease (hbelow (wlook w).graph (wlook w).health 1)) = true := by
  have b := GI.broken h hl
  have r := GI.refuse b.gj b.lt
  have st : ∀ {a c : Inst}, Ev a c → istatic a = true → istatic c = true := fun e k => by
    unfold istatic at k ⊢
    rw [e.graph, e.health, e.lease, e.til, e.now, e.policy, e.depth]; exact k
  have e1 := b.ev.trans r.ev
  obtain ⟨g1, g2, g3, g4⟩ := begin_ok r.gj r.lt (st e1 hs)
  have ev := e1.trans g2
  refine ⟨g1, g3, st ev hs, fun x hx => ?_⟩
  show spart x.things (smeet (wbegin (wrefuse (wbroken w))).lease (hbelow (wbegin (wrefuse (wbroken w))).graph (wbegin (wrefuse (wbroken w))).health 1)) = true
  rw [ev.lease, ev.graph, ev.health]
  rcases g4 x hx with hx | hx
  · exact wbroken_good h.ir x (r.sub x hx)
  · have := part_trans hx (iusable_good (st e1 hs))
    rwa [e1.lease, e1.graph, e1.health] at this
end Go.Av

namespace Go.Av
set_option linter.unusedVariables false
set_option linter.unusedSimpArgs false
structure GS (i : Inst) : Prop where
  gj : GJ i
  lt : ∀ x ∈ i.table, i.now < x.to
  st : istatic i = true
theorem GS.right {i : Inst} (h : GS i) : iright i = true := iright_iff.2 ⟨h.st, h.gj.ir, h.lt⟩
def Used (i : Inst) : Prop := ∀ x ∈ i.table, spart x.things (smeet i.lease (hbelow i.graph i.health 1)) = true
theorem GS.look {w : Inst} (h : GS w) : GS (wlook w) ∧ Used (wlook w) := by
  obtain ⟨a, b, c, d⟩ := look_ok h.gj h.lt h.st
  exact ⟨⟨a, b, c⟩, d⟩
theorem jobLast_max {l : List Job} (hp : l.Pairwise (fun a b => a.id < b.id)) (hc : l.Pairwise (fun a b => a.came ≤ b.came)) {a : Job} (ha : a ∈ l) : a.id ≤ (jobLast l).id ∧ a.came ≤ (jobLast l).came := by
  obtain ⟨k, hk, rfl⟩ := List.mem_iff_getElem.1 ha
  have hl : l.length - 1 < l.length := by omega
  unfold jobLast
  rw [if_neg (by omega), jobAt_get (List.getElem?_eq_getElem hl)]
  by_cases e : k = l.length - 1
  · subst e; exact ⟨Int.le_refl _, Int.le_refl _⟩
  · exact ⟨Int.le_of_lt (List.pairwise_iff_getElem.1 hp k (l.length - 1) hk hl (by omega)), List.pairwise_iff_getElem.1 hc k (l.length - 1) hk hl (by omega)⟩
theorem jobLast_id {l : List Job} (hr : ∀ j ∈ l, jright j = true) : 0 ≤ (jobLast l).id ∧ (jobLast l).id ≤ 1073741824 := by
  unfold jobLast
  split
  · exact ⟨by decide, by decide⟩
  · have hl : l.length - 1 < l.length := by omega
    rw [jobAt_get (List.getElem?_eq_getElem hl)]
    have := hr _ (List.getElem_mem hl)
    simp only [jright, Bool.and_eq_true, decide_eq_true_eq] at this
    omega
theorem jobsAdd_ok {l : List Job} {s : Spec} {needs : List Int} {now : Int} (e : (jobsAdd l s needs now).2.2 = 0) : jobsR l = true ∧ sright s = true ∧ rising needs = true ∧ tm now = true ∧ (jobLast l).came ≤ now ∧ (∀ n ∈ needs, jobHit l n = true) ∧ l.length ≠ 64 ∧ (jobLast l).id ≠ 1073741824 ∧ (jobsAdd l s needs now).1 = l ++ [⟨(jobLast l).id + 1, s, needs, 0, now, 0, 0⟩] := by
  unfold jobsAdd at e ⊢
  split at e
  · simp at e
  rename_i h1
  rw [if_neg h1]
  split at e
  · simp at e
  rename_i h2
  rw [if_neg h2]
  split at e
  · simp at e
  rename_i h3
  rw [if_neg h3]
  split at e
  · simp at e
  rename_i h4
  rw [if_neg h4]
  simp only [Bool.or_eq_true, Bool.not_eq_true', decide_eq_true_eq, not_or, Bool.not_eq_false, Bool.and_eq_true, Int.not_lt] at h1
  simp only [Bool.not_eq_true', Bool.not_eq_false, List.all_eq_true] at h2
  exact ⟨h1.1.1.1.1, h1.1.1.1.2, h1.1.1.2, h1.1.2, h1.2, h2, h3, h4, rfl⟩
theorem jobs_add_right {l : List Job} {s : Spec} {needs : List Int} {now : Int} (hr : jobsR l = true) (hs : sright s = true) (hri : rising needs = true) (ht : tm now = true) (hc : (jobLast l).came ≤ now) (hn : ∀ n ∈ needs, jobHit l n = true) (h64 : l.length ≠ 64) (hid : (jobLast l).id ≠ 1073741824) :
    jobsR (l ++ [⟨(jobLast l).id + 1, s, needs, 0, now, 0, 0⟩]) = true := by
  obtain ⟨h1, h2, h3, h4, h5⟩ := jobs_iff.1 hr
  have hl := jobLast_id h2
  have hnd : ∀ n ∈ needs, ∃ j ∈ l, j.id = n := fun n hnn => (jobHit_iff h3).1 (hn n hnn)
  refine jobs_iff.2 ⟨by simp; omega, fun j hj => ?_, ?_, ?_, ?_⟩
  · rcases List.mem_append.1 hj with hj | hj
    · exact h2 j hj
    · rw [List.mem_singleton] at hj
      subst hj
      rw [rising, Bool.and_eq_true, decide_eq_true_eq] at hri
      have hnn : ndall ((jobLast l).id + 1) needs = true := nd_true fun k hk => by
        have hg : needs[k]? = some needs[k] := List.getElem?_eq_getElem hk
        obtain ⟨j, hj, e⟩ := hnd needs[k] (List.getElem_mem hk)
        have hm := (jobLast_max h3 h4 hj).1
        have hj1 := h2 j hj
        simp only [jright, Bool.and_eq_true, decide_eq_true_eq] at hj1
        rw [ndB_get hg]
        simp only [Bool.and_eq_true, Bool.or_eq_true, decide_eq_true_eq, beq_iff_eq]
        refine ⟨⟨by omega, by omega⟩, ?_⟩
        by_cases h0 : k = 0
        · exact .inl h0
        · right
          have hk1 : k - 1 < needs.length := by omega
          have := allI_get hri.1 hk
          rw [decide_eq_true_eq, if_neg h0, List.getD_eq_getElem?_getD, List.getD_eq_getElem?_getD, hg, List.getElem?_eq_getElem hk1] at this
          rw [List.getElem?_eq_getElem hk1]
          simpa using this
      have ht2 := ht
      rw [tm_iff] at ht
      simp only [jright, jneeds, jtimes, Bool.and_eq_true, decide_eq_true_eq]
      refine ⟨⟨⟨⟨⟨by omega, by omega⟩, hs⟩, hri.2, hnn⟩, ht2⟩, by simp⟩
  · rw [List.pairwise_append]
    refine ⟨h3, List.pairwise_singleton _ _, fun a ha b hb => ?_⟩
    rw [List.mem_singleton] at hb; subst hb
    have := (jobLast_max h3 h4 ha).1
    show a.id < (jobLast l).id + 1
    omega
  · rw [List.pairwise_append]
    refine ⟨h4, List.pairwise_singleton _ _, fun a ha b hb => ?_⟩
    rw [List.mem_singleton] at hb; subst hb
    have := (jobLast_max h3 h4 ha).2
    show a.came ≤ now
    omega
  · intro k j hj n hnn
    have hk := (List.getElem?_eq_some_iff.1 hj).1
    rw [List.length_append, List.length_singleton] at hk
    rw [List.map_append, List.take_append_of_le_length (by rw [List.length_map]; omega)]
    by_cases hk2 : k < l.length
    · rw [List.getElem?_append_left hk2] at hj
      exact h5 k j hj n hnn
    · have : k = l.length := by omega
      subst this
      rw [List.getElem?_append_right (Nat.le_refl _), Nat.sub_self] at hj
      cases hj
      obtain ⟨j, hj, e⟩ := hnd n hnn
      rw [List.take_of_length_le (by rw [List.length_map]; exact Nat.le_refl _)]
      exact List.mem_map.2 ⟨j, hj, e⟩
theorem GS.add {i : Inst} (h : GS i) {s : Spec} {needs : List Int} (e : (jobsAdd i.jobs s needs i.now).2.2 = 0) : GS { i with jobs := (jobsAdd i.jobs s needs i.now).1 } := by
  obtain ⟨a1, a2, a3, a4, a5, a6, a7, a8, a9⟩ := jobsAdd_ok e
  have hr := jobs_add_right a1 a2 a3 a4 a5 a6 a7 a8
  rw [a9]
  have hm : ∀ y, y ∈ i.jobs ++ [⟨(jobLast i.jobs).id + 1, s, needs, 0, i.now, 0, 0⟩] → y ∈ i.jobs ∨ y = ⟨(jobLast i.jobs).id + 1, s, needs, 0, i.now, 0, 0⟩ := fun y hy => by
    rcases List.mem_append.1 hy with hy | hy
    · exact .inl hy
    · exact .inr (List.mem_singleton.1 hy)
  have h0 := (tm_iff.1 a4).1
  refine ⟨⟨⟨hr, h.gj.ir.table, ?_, ?_, ?_, h.gj.ir.now⟩, ?_, ?_, ?_⟩, h.lt, h.st⟩
  · intro j hj
    rcases hm j hj with hj | rfl
    · exact h.gj.ir.came j hj
    · exact ⟨Int.le_refl _, h0⟩
  · intro j hj hs
    rcases hm j hj with hj | rfl
    · exact h.gj.ir.run j hj hs
    · have : (0 : Int) = 2 := hs
      omega
  · intro x hx
    obtain ⟨j, hj, r⟩ := h.gj.ir.held x hx
    exact ⟨j, List.mem_append_left _ hj, r⟩
  · intro j hj hs
    rcases hm j hj with hj | rfl
    · exact h.gj.long j hj hs
    · have : (0 : Int) = 3 ∨ (0 : Int) = 4 := hs
      omega
  · intro j hj hs
    rcases hm j hj with hj | rfl
    · exact h.gj.past j hj hs
    · have : (3 : Int) ≤ 0 := hs
      omega
  · intro j hj hs n hn
    rcases hm j hj with hj | rfl
    · obtain ⟨y, hy, r⟩ := h.gj.needs j hj hs n hn
      exact ⟨y, List.mem_append_left _ hy, r⟩
    · have : (0 : Int) = 2 ∨ (0 : Int) = 3 ∨ (0 : Int) = 4 := hs
      omega
theorem isubmit_gs {i : Inst} (h : GS i) (s : Spec) (needs : List Int) : GS (isubmit i s needs).1 ∧ ((isubmit i s needs).2.2 = 0 → Used (isubmit i s needs).1) ∧ ((isubmit i s needs).2.2 ≠ 0 → (isubmit i s needs).1 = i) := by
  unfold isubmit
  split
  · exact ⟨h, fun e => by simp at e, fun _ => rfl⟩
  · split
    · rename_i h2
      exact ⟨h, fun e => absurd e h2, fun _ => rfl⟩
    · rename_i h2
      have := (h.add (Classical.not_not.1 h2)).look
      exact ⟨this.1, fun _ => this.2, fun e => absurd rfl e⟩
theorem ido_gs {i : Inst} (h : GS i) (id what : Int) : GS (ido i id what).1 ∧ ((ido i id what).2 = 0 → Used (ido i id what).1) ∧ ((ido i id what).2 ≠ 0 → (ido i id what).1 = i) := by
  unfold ido
  split
  · exact ⟨h, fun e => by simp at e, fun _ => rfl⟩
  · rename_i h1
    split
    · rename_i h2
      exact ⟨h, fun e => absurd e h2, fun _ => rfl⟩
    · have h3 : what ≠ 3 := by rintro rfl; simp at h1
      have g := (GI.refl h.gj h.lt).wdo (id := id) h3
      have st : istatic (wdo i id what i.now).1 = true := by
        have e := g.ev
        have k := h.st
        unfold istatic at k ⊢
        rw [e.graph, e.health, e.lease, e.til, e.now, e.policy, e.depth]; exact k
      have := GS.look ⟨g.gj, g.lt, st⟩
      exact ⟨this.1, fun _ => this.2, fun e => absurd rfl e⟩
theorem ilend_gs {i : Inst} (h : GS i) (l : List Int) (til : Int) : GS (ilend i l til).1 ∧ ((ilend i l til).2 = 0 → Used (ilend i l til).1) ∧ ((ilend i l til).2 ≠ 0 → (ilend i l til).1 = i) := by
  unfold ilend
  split
  · exact ⟨h, fun e => by simp at e, fun _ => rfl⟩
  · rename_i h1
    simp only [Bool.or_eq_true, Bool.not_eq_true', not_or, Bool.not_eq_false] at h1
    have k := h.st
    have : GS { i with lease := l, til := til } := ⟨⟨⟨h.gj.ir.jobs, h.gj.ir.table, h.gj.ir.came, h.gj.ir.run, h.gj.ir.held, h.gj.ir.now⟩, h.gj.long, h.gj.past, h.gj.needs⟩, h.lt, by
      simp only [istatic, Bool.and_eq_true] at k ⊢
      exact ⟨⟨⟨⟨k.1.1.1.1, h1.1.2⟩, h1.2⟩, k.1.2⟩, k.2⟩⟩
    exact ⟨this.look.1, fun _ => this.look.2, fun e => absurd rfl e⟩
theorem hset_right {g : List Thing} {h : List Int} {n how : Int} (e : (hset g h n how).2 = 0) : hright g (hset g h n how).1 = true := by
  unfold hset at e ⊢
  split at e
  · simp at e
  rename_i h1
  rw [if_neg h1]
  split at e
  · simp at e
  rename_i h2
  rw [if_neg h2]
  simp only [Bool.or_eq_true, Bool.not_eq_true', decide_eq_true_eq, not_or, Bool.not_eq_false, Int.not_lt] at h1
  obtain ⟨⟨hr, l1⟩, l2⟩ := h1
  obtain ⟨g1, g2, g3⟩ := hright_parts hr
  have ha : ((h.set n.toNat how).any fun n => decide (n < 0) || decide (2 < n)) = false := by
    rw [List.any_eq_false] at g3 ⊢
    intro x hx
    rcases List.mem_or_eq_of_mem_set hx with hx | rfl
    · exact g3 x hx
    · simp; omega
  show hright g (h.set n.toNat how) = true
  unfold hright
  rw [g1, ha]
  simp [g2]
theorem imark_gs {i : Inst} (h : GS i) (n how : Int) : GS (imark i n how).1 ∧ ((imark i n how).2 = 0 → Used (imark i n how).1) ∧ ((imark i n how).2 ≠ 0 → (imark i n how).1 = i) := by
  unfold imark
  split
  · exact ⟨h, fun e => by simp at e, fun _ => rfl⟩
  · split
    · rename_i h2
      exact ⟨h, fun e => absurd e h2, fun _ => rfl⟩
    · rename_i h2
      have k := h.st
      have : GS { i with health := (hset i.graph i.health n how).1 } := ⟨⟨⟨h.gj.ir.jobs, h.gj.ir.table, h.gj.ir.came, h.gj.ir.run, h.gj.ir.held, h.gj.ir.now⟩, h.gj.long, h.gj.past, h.gj.needs⟩, h.lt, by
        simp only [istatic, Bool.and_eq_true] at k ⊢
        exact ⟨⟨⟨⟨hset_right (Classical.not_not.1 h2), k.1.1.1.2⟩, k.1.1.2⟩, k.1.2⟩, k.2⟩⟩
      exact ⟨this.look.1, fun _ => this.look.2, fun e => absurd rfl e⟩
theorem wdo_tick {v : Inst} (h : GJ v) {x : Held} (hx : x ∈ v.table) (ht : x.to ≤ v.now) : GJ (wdo v x.id 5 x.to).1 ∧ ∀ y ∈ (wdo v x.id 5 x.to).1.table, y ∈ v.table ∧ y.id ≠ x.id := by
  refine ⟨h.wdo (by decide) ht fun y hy e => by rw [held_inj h.ir hy hx e]; exact Int.le_refl _, wdo_kill h.ir hx fun j hj e => ?_⟩
  obtain ⟨j', hj', e', s', hf, hto, _⟩ := h.ir.of hx
  have := job_inj h.ir hj hj' (by rw [e, e'])
  subst this
  have hjr := (jobs_iff.1 h.ir.jobs).2.1 j hj
  have hfr := jright_frm hjr (by omega)
  have hh := (held_iff.1 h.ir.table).2.1 x hx
  simp only [hmay, Bool.and_eq_true, decide_eq_true_eq] at hh
  obtain ⟨⟨⟨⟨_, _⟩, h3⟩, h4⟩, h5⟩ := hh
  simp only [jbad, hjr, h4, Bool.not_true, Bool.false_or, Bool.or_eq_false_iff, decide_eq_false_iff_not]
  refine ⟨⟨⟨?_, ?_⟩, ?_⟩, ?_⟩ <;> first | trivial | omega
theorem tick_fold {i : Inst} {now : Int} : ∀ (B : List Held) (v : Inst), GJ v → Ev { i with now := now } v → (∀ x ∈ B, x ∈ i.table ∧ x.to ≤ now) → B.Pairwise (fun a b => a.id ≠ b.id) → (∀ x ∈ B, x ∈ v.table) → (∀ x ∈ v.table, x ∈ i.table ∧ (x ∈ B ∨ now < x.to)) →
    GJ (B.foldl (fun a h => (wdo a h.id 5 h.to).1) v) ∧ Ev { i with now := now } (B.foldl (fun a h => (wdo a h.id 5 h.to).1) v) ∧ ∀ x ∈ (B.foldl (fun a h => (wdo a h.id 5 h.to).1) v).table, x ∈ i.table ∧ now < x.to
  | [], v, h, ev, _, _, _, ht => ⟨h, ev, fun x hx => ⟨(ht x hx).1, (ht x hx).2.resolve_left (by simp)⟩⟩
  | b :: B, v, h, ev, hB, hp, hin, ht => by
    have hb := hB b List.mem_cons_self
    have hbv := hin b List.mem_cons_self
    have hnow : v.now = now := ev.now
    obtain ⟨k1, k2⟩ := wdo_tick h hbv (by rw [hnow]; exact hb.2)
    rw [List.pairwise_cons] at hp
    refine tick_fold B _ k1 (ev.trans (wdo_ev h.ir.jobs _ _ _)) (fun x hx => hB x (List.mem_cons_of_mem _ hx)) hp.2 (fun x hx => ?_) fun x hx => ?_
    ·
      have hxv := hin x (List.mem_cons_of_mem _ hx)
      show x ∈ (Go.Av.wdo v b.id 5 b.to).1.table
      rcases wdo_cases h.ir.jobs b.id 5 b.to with ⟨e, _⟩ | ⟨j, hj, _, s, hb', hs, e1, e⟩
      · rw [e]; exact hxv
      · rw [e]
        show x ∈ (if jover s then (heldDrop v.table b.id).1 else v.table)
        split
        · exact ((drop_mem h.ir.table b.id).2 x).2 ⟨hxv, fun e => hp.1 x hx e.symm⟩
        · exact hxv
    · obtain ⟨k3, k4⟩ := k2 x hx
      refine ⟨(ht x k3).1, ?_⟩
      rcases (ht x k3).2 with h5 | h5
      · rcases List.mem_cons.1 h5 with rfl | h5
        · exact absurd rfl k4
        · exact .inl h5
      · exact .inr h5
theorem itick_gs {i : Inst} (h : GS i) (now : Int) : GS (itick i now).1 ∧ ((itick i now).2 = 0 → Used (itick i now).1) ∧ ((itick i now).2 ≠ 0 → (itick i now).1 = i) ∧ (tm now = true → i.now ≤ now → (itick i now).2 = 0) := by
  unfold itick
  split
  · rename_i h1
    refine ⟨h, fun e => by simp at e, fun _ => rfl, fun h2 h3 => ?_⟩
    rw [h.right, h2] at h1
    simp at h1
    omega
  · rename_i h1
    simp only [Bool.or_eq_true, Bool.not_eq_true', decide_eq_true_eq, not_or, Bool.not_eq_false, Int.not_lt] at h1
    obtain ⟨⟨_, h2⟩, h3⟩ := h1
    have g0 : GJ { i with now := now } := ⟨⟨h.gj.ir.jobs, h.gj.ir.table, fun j hj => ⟨Int.le_trans (h.gj.ir.came j hj).1 h3, Int.le_trans (h.gj.ir.came j hj).2 h3⟩, h.gj.ir.run, h.gj.ir.held, h2⟩, h.gj.long, fun j hj hs => Int.le_trans (h.gj.past j hj hs) h3, h.gj.needs⟩
    have hov : (heldOver i.table now).2 = i.table.filter fun h => decide (h.to ≤ now) := by unfold heldOver; rw [h.gj.ir.table, if_pos rfl]
    obtain ⟨k1, k2, k3⟩ := tick_fold (i := i) (now := now) (heldOver i.table now).2 { i with now := now } g0 (Ev.refl _) (fun x hx => by
        rw [hov, List.mem_filter, decide_eq_true_eq] at hx; exact hx)
      (by rw [hov]; exact (h.gj.ir.pt.filter _).imp fun h e => by omega)
      (fun x hx => by rw [hov, List.mem_filter] at hx; exact hx.1)
      (fun x hx => ⟨hx, by
        by_cases e : x.to ≤ now
        · exact .inl (by rw [hov, List.mem_filter, decide_eq_true_eq]; exact ⟨hx, e⟩)
        · exact .inr (by omega)⟩)
    have k := h.st
    have : GS ((heldOver i.table now).2.foldl (fun a h => (wdo a h.id 5 h.to).1) { i with now := now }) := ⟨k1, fun x hx => by rw [k2.now]; exact (k3 x hx).2, by
      simp only [istatic, Bool.and_eq_true] at k ⊢
      rw [k2.graph, k2.health, k2.lease, k2.til, k2.now, k2.policy, k2.depth]
      exact ⟨⟨k.1.1, h2⟩, k.2⟩⟩
    exact ⟨this.look.1, fun _ => this.look.2, fun e => absurd rfl e, fun _ _ => rfl⟩
theorem inew_gs {g : List Thing} {p d : Int} (e : (inew g p d).2 = 0) : GS (inew g p d).1 := by
  unfold inew at e ⊢
  split at e
  · simp at e
  rename_i h1
  rw [if_neg h1]
  simp only [Bool.or_eq_true, Bool.not_eq_true', not_or, Bool.not_eq_false] at h1
  have hl := (gright_len h1.1).2
  refine ⟨⟨⟨show jobsR [] = true by decide, show heldR [] = true by decide, (fun _ h => nomatch h), (fun _ h => nomatch h), (fun _ h => nomatch h), show tm 0 = true by decide⟩, (fun _ h => nomatch h), (fun _ h => nomatch h), (fun _ h => nomatch h)⟩, (fun _ h => nomatch h), ?_⟩
  simp only [istatic, Bool.and_eq_true]
  refine ⟨⟨⟨⟨?_, ithings_iff.2 ⟨?_, fun x hx => ?_⟩⟩, show tm 4611686018427387904 = true by decide⟩, show tm 0 = true by decide⟩, h1.2⟩
  · unfold hright
    rw [h1.1]
    simp
  · unfold gunder
    split
    · exact idx_sok _ hl
    · exact sok_nil
  · unfold gunder at hx
    split at hx
    · obtain ⟨k, rfl, hk, _⟩ := idx_mem.1 hx
      show (k : Int) < (g.length : Int)
      omega
    · cases hx
end Go.Av

namespace Go.Av
set_option linter.unusedVariables false
set_option linter.unusedSimpArgs false
structure JPre (i n : Inst) : Prop where
  len : i.jobs.length ≤ n.jobs.length
  jobs : ∀ (k : Nat) (a b : Job), i.jobs[k]? = some a → n.jobs[k]? = some b → JE a b
theorem JPre.refl (i : Inst) : JPre i i := ⟨Nat.le_refl _, fun k a b ha hb => by rw [ha] at hb; cases hb; exact JE.refl a⟩
theorem Ev.jpre {i n : Inst} (e : Ev i n) : JPre i n := ⟨Nat.le_of_eq e.len.symm, e.jobs⟩
theorem isubmit_pre (i : Inst) (s : Spec) (needs : List Int) : JPre i (isubmit i s needs).1 := by
  unfold isubmit
  split
  · exact JPre.refl i
  · split
    · exact JPre.refl i
    · rename_i h2
      rcases jobsAdd_cases i.jobs s needs i.now with ⟨e0, _, _⟩ | e
      · exact absurd e0 h2
      · rw [e]
        have ev := wlook_ev { i with jobs := i.jobs ++ [⟨(jobLast i.jobs).id + 1, s, needs, 0, i.now, 0, 0⟩] }
        refine ⟨?_, fun k a b ha hb => ev.jobs k a b ?_ hb⟩
        · show i.jobs.length ≤ (wlook _).jobs.length
          rw [ev.len]; simp
        · show (i.jobs ++ _)[k]? = some a
          rw [List.getElem?_append_left (List.getElem?_eq_some_iff.1 ha).1]; exact ha
theorem ido_pre (i : Inst) (id what : Int) : JPre i (ido i id what).1 := by
  unfold ido
  split
  · exact JPre.refl i
  · split
    · exact JPre.refl i
    · exact ((wdo_evA i id what i.now).trans (wlook_ev _)).jpre
theorem itick_pre (i : Inst) (now : Int) : JPre i (itick i now).1 := by
  unfold itick
  split
  · exact JPre.refl i
  · have e1 : Ev { i with now := now } (wlook ((heldOver i.table now).2.foldl (fun a h => (Go.Av.wdo a h.id 5 h.to).1) { i with now := now })) := (fold_ev (fun a x => wdo_evA _ _ _ _) _ _).trans (wlook_ev _)
    exact ⟨Nat.le_of_eq e1.len.symm, e1.jobs⟩
theorem ilend_pre (i : Inst) (l : List Int) (til : Int) : JPre i (ilend i l til).1 := by
  unfold ilend
  split
  · exact JPre.refl i
  · have e1 := wlook_ev { i with lease := l, til := til }
    exact ⟨Nat.le_of_eq e1.len.symm, e1.jobs⟩
theorem imark_pre (i : Inst) (n how : Int) : JPre i (imark i n how).1 := by
  unfold imark
  split
  · exact JPre.refl i
  · split
    · exact JPre.refl i
    · have e1 := wlook_ev { i with health := (hset i.graph i.health n how).1 }
      exact ⟨Nat.le_of_eq e1.len.symm, e1.jobs⟩
theorem gj_span {i : Inst} (h : GS i) {j : Job} (hj : j ∈ i.jobs) (hs : j.state = 3 ∨ j.state = 4) : j.frm ≤ j.to ∧ j.to - j.frm ≤ j.spec.long := ⟨jright_ended ((jobs_iff.1 h.gj.ir.jobs).2.1 j hj) hs, h.gj.long j hj hs⟩
theorem tick_last {i : Inst} (h : GS i) : (itick i 4611686018427387904).2 = 0 ∧ (itick i 4611686018427387904).1.table = [] ∧ ∀ j ∈ (itick i 4611686018427387904).1.jobs, j.state ≠ 2 := by
  obtain ⟨g, _, _, z⟩ := itick_gs h 4611686018427387904
  have hz := z (by decide) (tm_iff.1 h.gj.ir.now).2
  have hn : (itick i 4611686018427387904).1.now = 4611686018427387904 := by
    unfold itick at hz ⊢
    split at hz
    · simp at hz
    · rename_i h1
      rw [if_neg h1]
      exact ((fold_ev (fun a x => wdo_evA _ _ _ _) _ _).trans (wlook_ev _)).now
  have he : (itick i 4611686018427387904).1.table = [] := by
    rw [List.eq_nil_iff_forall_not_mem]
    intro x hx
    have h1 := g.lt x hx
    have h2 := (held_iff.1 g.gj.ir.table).2.1 x hx
    simp only [hmay, Bool.and_eq_true, decide_eq_true_eq] at h2
    have := tm_iff.1 h2.1.2
    omega
  refine ⟨hz, he, fun j hj hs => ?_⟩
  obtain ⟨x, hx, _⟩ := g.gj.ir.run j hj hs
  rw [he] at hx
  cases hx
theorem sok_setl2 {l : List Int} (h : sok l = true) : l = setl (inl l) := sok_ext h (sok_setl _) fun n => by
  rw [inl_setl]
  by_cases hn : n < 256
  · simp [hn]
  · cases e : inl l n with
    | false => simp
    | true => exact absurd (inl_256 h e) hn
theorem len_cn {l : List Int} (h : sok l = true) : l.length = cn (inl l) := by
  have := congrArg List.length (sok_setl2 h)
  rw [this]
  unfold setl cn
  rw [List.length_map, List.countP_eq_length_filter]
theorem join_len {a b : List Int} (h : sapart a b = true) : (sjoin a b).length = a.length + b.length := by
  obtain ⟨ha, hb, hn⟩ := sapart_iff.1 h
  rw [len_cn ha, len_cn hb, len_cn (sjoin_sok a b)]
  have := countP_add (inl a) (inl b) (fun _ => false) (inl (sjoin a b)) (List.range 256) fun n _ => by
    rw [in_join ha hb]
    have := hn n
    cases e1 : inl a n <;> cases e2 : inl b n <;> simp_all
  rw [show (List.range 256).countP (fun _ => false) = 0 by simp] at this
  unfold cn
  omega
theorem busyL_in {l : List Held} (hs : ∀ h ∈ l, sok h.things = true) (a b : Int) : ∀ k, k ≤ l.length → ∀ n, inl (busyL (l.take k) a b) n = true → ∃ h ∈ l.take k, inl h.things n = true
  | 0, _, n, h => by simp [busyL, inl] at h
  | k + 1, hk, n, h => by
    have hg : l[k]? = some l[k] := List.getElem?_eq_getElem hk
    have hsub : ∀ x ∈ l.take k, x ∈ l.take (k + 1) := fun x hx => (List.take_subset_take_left l (Nat.le_succ k)) hx
    rw [busyL_step hg] at h
    split at h
    · rw [in_join (sok_busyL _ _ _) (hs _ (List.getElem_mem hk)), Bool.or_eq_true] at h
      rcases h with h | h
      · obtain ⟨x, hx, r⟩ := busyL_in hs a b k (by omega) n h
        exact ⟨x, hsub x hx, r⟩
      · exact ⟨l[k], List.mem_take_iff_getElem.2 ⟨k, by omega, rfl⟩, h⟩
    · obtain ⟨x, hx, r⟩ := busyL_in hs a b k (by omega) n h
      exact ⟨x, hsub x hx, r⟩
def thingsSum (l : List Held) : Int := (l.map fun h => (h.things.length : Int)).sum
theorem thingsSum_step {l : List Held} {k : Nat} {h : Held} (e : l[k]? = some h) : thingsSum (l.take (k + 1)) = thingsSum (l.take k) + (h.things.length : Int) := by
  unfold thingsSum
  rw [List.take_add_one, e, Option.toList_some, List.map_append, List.sum_append]
  simp
theorem busy_len {l : List Held} (hr : heldR l = true) {now : Int} (hn : ∀ h ∈ l, h.frm ≤ now ∧ now < h.to) : ∀ k, k ≤ l.length → ((busyL (l.take k) now (now + 1)).length : Int) = thingsSum (l.take k)
  | 0, _ => by simp [busyL, thingsSum]
  | k + 1, hk => by
    obtain ⟨_, h2, h3, h4⟩ := held_iff.1 hr
    have hs : ∀ h ∈ l, sok h.things = true := fun h hh => by
      have := h2 h hh
      simp only [hmay, Bool.and_eq_true] at this
      exact this.1.1.1.2
    have hg : l[k]? = some l[k] := List.getElem?_eq_getElem hk
    have hm := hn l[k] (List.getElem_mem hk)
    rw [busyL_step hg, thingsSum_step hg, if_pos (by rw [meets, decide_eq_true_eq]; omega), join_len, Int.natCast_add, busy_len hr hn k (by omega)]
    refine sapart_iff.2 ⟨sok_busyL _ _ _, hs _ (List.getElem_mem hk), fun n => ?_⟩
    cases e1 : inl (busyL (l.take k) now (now + 1)) n with
    | false => rfl
    | true =>
      obtain ⟨x, hx, r⟩ := busyL_in hs _ _ k (by omega) n e1
      obtain ⟨q, hq, rfl⟩ := List.mem_take_iff_getElem.1 hx
      have hql : q < l.length := by omega
      have hc := List.pairwise_iff_getElem.1 h4 q k hql hk (by omega)
      have hmq := hn l[q] (List.getElem_mem hql)
      rw [clash, Bool.and_eq_false_iff] at hc
      rcases hc with hc | hc
      · rw [meets, decide_eq_false_iff_not] at hc
        omega
      · have := (sapart_iff.1 (by simpa using hc)).2.2 n
        rw [r] at this
        rw [Bool.true_and] at this ⊢
        exact this
theorem thingsSum_in {l : List Held} (h : ∀ x ∈ l, x.things.length ≤ 256) : ∀ k, k ≤ l.length → 0 ≤ thingsSum (l.take k) ∧ thingsSum (l.take k) ≤ 256 * (k : Int)
  | 0, _ => by simp [thingsSum]
  | k + 1, hk => by
    have hg : l[k]? = some l[k] := List.getElem?_eq_getElem hk
    have := thingsSum_in h k (by omega)
    have := h _ (List.getElem_mem hk)
    rw [thingsSum_step hg]
    omega
theorem GS.busy {i : Inst} (h : GS i) : ((heldBusy i.table i.now (i.now + 1)).length : Int) = thingsSum i.table := by
  have hr := h.gj.ir.table
  have := busy_len hr (now := i.now) (fun x hx => by
    obtain ⟨j, hj, _, _, hf, _⟩ := h.gj.ir.of hx
    have := (h.gj.ir.came j hj).2
    exact ⟨by omega, h.lt x hx⟩) i.table.length (Nat.le_refl _)
  rw [List.take_length] at this
  unfold heldBusy
  rw [hr, if_pos rfl]
  exact this
theorem GS.free {i : Inst} (h : GS i) : spart (ifree i) i.lease = true := by
  unfold ifree
  rw [h.right]
  exact part_trans (part_less2 (smeet_sok _ _) (sok_heldBusy _ _ _)) (iusable_part h.st)
theorem Used.both {i : Inst} (h : GS i) (u : Used i) {x : Held} (hx : x ∈ i.table) : spart x.things i.lease = true ∧ spart x.things (hbelow i.graph i.health 1) = true := by
  have hl := (ithings_iff.1 (istatic_lease h.st)).1
  have := u x hx
  exact ⟨part_trans this (part_meet1 hl (hbelow_sok _ _ _)), part_trans this (part_meet hl (hbelow_sok _ _ _))⟩
theorem GS.need {i : Inst} (h : GS i) {j : Job} (hj : j ∈ i.jobs) (hs : j.state = 2 ∨ j.state = 3 ∨ j.state = 4) {n : Int} (hn : n ∈ j.needs) : (jobsGet i.jobs n).2 = true ∧ (jobsGet i.jobs n).1.state = 3 ∧ (jobsGet i.jobs n).1.to ≤ j.frm := by
  obtain ⟨y, hy, rfl, e2, e3⟩ := h.gj.needs j hj hs n hn
  rw [jobsGet_eq h.gj.ir.jobs hy]
  exact ⟨rfl, e2, e3⟩
end Go.Av

namespace Go.Av
open Go.Proofs
set_option maxRecDepth 10000
set_option linter.unusedSimpArgs false
set_option linter.unusedVariables false
theorem ado_gs {i : Inst} (h : GS i) (a : LAct) : GS (ado i a).1 ∧ ((ado i a).2.2 = 0 → Used (ado i a).1) ∧ ((ado i a).2.2 ≠ 0 → (ado i a).1 = i) := by
  unfold ado
  split
  · exact ido_gs h _ _
  · split
    · exact ⟨(itick_gs h _).1, (itick_gs h _).2.1, (itick_gs h _).2.2.1⟩
    · split
      · exact ilend_gs h _ _
      · split
        · exact imark_gs h _ _
        · exact isubmit_gs h _ _
theorem ado_pre (i : Inst) (a : LAct) : JPre i (ado i a).1 := by
  unfold ado
  split
  · exact ido_pre i _ _
  · split
    · exact itick_pre i _
    · split
      · exact ilend_pre i _ _
      · split
        · exact imark_pre i _ _
        · exact isubmit_pre i _ _
theorem inew_err {g : List Thing} {p d : Int} (e : (inew g p d).2 ≠ 0) : (inew g p d).1 = inst0 := by
  unfold inew at e ⊢
  split at e
  · rename_i h; rw [if_pos h]
  · exact absurd rfl e
theorem tick0 : (itick inst0 4611686018427387904).2 = 1 := by decide
theorem jright_tms {j : Job} (h : jright j = true) : 0 ≤ j.frm ∧ j.frm ≤ 4611686018427387904 ∧ 0 ≤ j.to ∧ j.to ≤ 4611686018427387904 := by
  have h5 : tm j.came = true := by simp only [jright, Bool.and_eq_true] at h; exact h.1.2
  have ht : jtimes j = true := by simp only [jright, Bool.and_eq_true] at h; exact h.2
  rw [jtimes_ref h5] at ht
  simp only [Bool.and_eq_true] at ht
  have h1 := tm_iff.1 ht.1.1.1.2
  have h2 := tm_iff.1 ht.1.1.2
  omega
structure G2 where
  M : Heap
  p : Nat
  q : Nat
set_option maxHeartbeats 0 in
theorem law16_InstEnds (g : List Thing) (p d : Int) (l : List LAct) (H : Heap) : ACT Tryz.prog KD 6 [.pl (g.map eThing), .int .u8 p, .int .u8 d, .pl (l.map eAct)] H (Ret (.bool true) H) := by
  refine ACT.body (N := 190) [.tmp 8] Tryz.func6 rfl rfl rfl (Nat.le_of_ble_eq_true rfl) fun B hB => ?_
  repeat (refine aw_seq ?_)
  refine Za ?_
  repeat (first | refine then_nrm ?_ | refine aw_seq ?_)
  refine aw_region ?_
  refine Zl7 ?_
  refine Z2j ?_
  try dsimp only [put]
  repeat (refine then_nrm ?_)
  refine aw_cond rfl (fun hc => ?_) (fun hc => ?_)
  · simp at hc
  clear hc
  repeat (first | refine then_nrm ?_ | refine aw_seq ?_ | refine aw_skip ?_)
  refine aw_out 30 (.bool (decide (40 < g.length) || !lightB l)) ?_ ?_
  · refine Z5a ?_
    refine Za3 ?_
    refine ao_split rfl rfl (fun hg3 => ?_) (fun hg3 => ?_)
    · refine Zjw ?_
      exact Zh8
    · refine Z7j ?_
      refine Zl8 ?_
      refine Zfu ?_
      exact Zh8
  repeat (refine then_nrm ?_)
  refine aw_cond rfl (fun hc => ?_) (fun hc => ?_)
  · repeat (refine aw_seq ?_)
    refine Za ?_
    repeat (first | refine then_nrm ?_ | refine then_ret ?_ | refine aw_ret ?_)
    exact Z7
  rw [Bool.or_eq_false_iff, decide_eq_false_iff_not, Bool.not_eq_false'] at hc
  obtain ⟨hg, hli⟩ := hc
  simp only [lightB, Bool.and_eq_true, decide_eq_true_eq, List.all_eq_true] at hli
  obtain ⟨hl14, hll⟩ := hli
  repeat (first | refine then_nrm ?_ | refine aw_seq ?_ | refine aw_skip ?_)
  refine Z95 ?_
  refine Zl9 ?_
  refine Zla ?_
  refine Z6 ?_
  refine Zl9 ?_
  refine Zlb ?_
  refine Zl1 ?_
  refine Z64 ?_
  have hq := inew_ok g (IntKind.i64.wrap (IntKind.i64.wrap (p.tmod 3) + 1)) (IntKind.i64.wrap (d.tmod 9)) (by omega)
  have hq2 := inew_gs (g := g) (p := IntKind.i64.wrap (IntKind.i64.wrap (p.tmod 3) + 1)) (d := IntKind.i64.wrap (d.tmod 9))
  have hq3 := inew_err (g := g) (p := IntKind.i64.wrap (IntKind.i64.wrap (p.tmod 3) + 1)) (d := IntKind.i64.wrap (d.tmod 9))
  generalize inew g (IntKind.i64.wrap (IntKind.i64.wrap (p.tmod 3) + 1)) (IntKind.i64.wrap (d.tmod 9)) = q at *
  obtain ⟨i0, E⟩ := q
  simp only at hq hq2 hq3 ⊢
  obtain ⟨q1, q2, q3, _⟩ := hq
  repeat (first | refine then_nrm ?_ | refine aw_seq ?_)
  refine Z3 ?_
  repeat (first | refine then_nrm ?_ | refine aw_block ?_)
  refine aw_loop (G := Nat × Inst) (fun q => q.1 ≤ l.length ∧ RI q.2 ∧ q.2.jobs.length ≤ q.1 ∧ 0 ≤ q.2.now ∧ (E = 0 → GS q.2) ∧ (E ≠ 0 → (itick q.2 4611686018427387904).2 = 1)) (fun q => [(KT, KD.av), (0, .pl (g.map eThing)), (3, .pl (l.map eAct)), (9, .pt (Lid H.length 0) 0 0 0), (10, .int .i64 E), (11, .int .i64 (q.1 : Int))]) (fun q => H ++ [⟨0, 9, [eInst q.2]⟩]) (fun q => l.length - q.1) (0, i0) ⟨Nat.zero_le _, q1, by rw [q2]; simp, by rw [q3]; exact Int.le_refl _, hq2, fun e => by rw [hq3 e]; exact tick0⟩ (by repeat (first | exact Sub.nil | refine Sub.cons (by rfl) ?_)) (.inl rfl) ?_
  clear q1 q2 q3 hq2 hq3
  rintro ⟨k, i⟩ ⟨hk, hw, hjl, hpos, hgs, her⟩
  simp only at hk hw hjl hpos hgs her ⊢
  repeat (refine aw_seq ?_)
  refine aw_out 50 (.bool (decide (k < l.length) && decide (E = 0))) ?_ ?_
  · refine Z6 ?_
    refine Z5a ?_
    refine Zq ?_
    refine ao_split rfl rfl (fun hg4 => ?_) (fun hg4 => ?_)
    · refine Z4b ?_
      refine Zg ?_
      exact Zk3
    · refine Zl ?_
      refine Zm ?_
      exact Zh8
  repeat (refine then_nrm ?_)
  refine aw_cond rfl (fun hc => ?_) (fun hc => ?_)
  · rw [Bool.and_eq_true, decide_eq_true_eq, decide_eq_true_eq] at hc
    obtain ⟨hlt, hE⟩ := hc
    have hgi := hgs hE
    obtain ⟨a, ha, hal⟩ := get_in hlt
    have hr := map_get eAct ha
    have haw := hll a hal
    have hri := hw.ado a (by omega) (by omega) (by omega)
    have hjn := ado_jlen i a
    have hgn := (ado_gs hgi a).1
    have hpre := ado_pre i a
    have n4 : i.jobs.length < 20 := by omega
    clear hgs her
    repeat (first | refine then_nrm ?_ | refine aw_seq ?_ | refine aw_block ?_ | refine aw_skip ?_)
    refine Zad ?_
    refine Zha ?_
    refine Z7h ?_
    refine Zlc ?_
    refine Zld ?_
    refine Zle ?_
    refine Zlf ?_
    refine Zlg ?_
    refine Zlh ?_
    refine Zli ?_
    refine Zlj ?_
    refine Zlk ?_
    refine Zh7 ?_
    refine Zll ?_
    refine Z19 ?_
    refine Z65 ?_
    generalize ado i a = n at *
    obtain ⟨n, id, f⟩ := n
    simp only at hri hjn hgn hpre ⊢
    clear hr hal ha haw
    repeat (first | refine then_nrm ?_ | refine aw_seq ?_)
    refine Z30 ?_
    refine Z31 ?_
    refine Za2 ?_
    refine Z14 ?_
    refine Z2l ?_
    repeat (refine then_nrm ?_)
    refine aw_cond rfl (fun hc => ?_) (fun hc => ?_)
    · have := hpre.len
      simp at hc
      omega
    clear hc
    repeat (first | refine then_nrm ?_ | refine aw_seq ?_ | refine aw_skip ?_)
    refine Z3 ?_
    repeat (first | refine then_nrm ?_ | refine aw_block ?_)
    refine aw_loop (G := Nat) (fun j => j ≤ i.jobs.length) (fun j => [(KT, KD.av), (0, .pl (g.map eThing)), (3, .pl (l.map eAct)), (9, .pt (Lid H.length 0) 0 0 0), (10, .int .i64 E), (11, .int .i64 (k : Int)), (12, .pt (Lid H.length 1) 0 0 0), (15, .int .i64 (j : Int))]) (fun _ => H ++ [⟨0, 9, [eInst i]⟩, ⟨0, 9, [eInst n]⟩]) (fun j => i.jobs.length - j) 0 (Nat.zero_le _) (by repeat (first | exact Sub.nil | refine Sub.cons (by rfl) ?_)) (.inl rfl) ?_
    intro j hj
    repeat (refine aw_seq ?_)
    refine Zen ?_
    refine Z14 ?_
    refine Z2l ?_
    repeat (refine then_nrm ?_)
    refine aw_cond rfl (fun hc => ?_) (fun hc => ?_)
    · have hjt : j < i.jobs.length := by simpa using hc
      have hjt2 : j < n.jobs.length := Nat.lt_of_lt_of_le hjt hpre.len
      obtain ⟨x, hx, hxl⟩ := get_in hjt
      obtain ⟨y, hy, hyl⟩ := get_in hjt2
      have hr1 := map_get eJob hx
      have hr2 := map_get eJob hy
      have je := hpre.jobs j x y hx hy
      clear hc
      repeat (first | refine then_nrm ?_ | refine aw_seq ?_ | refine aw_block ?_ | refine aw_skip ?_)
      refine aw_joinG (G := G2) (fun g' => (∃ s, g'.M = H ++ ([⟨0, 9, [eInst i]⟩, ⟨0, 9, [eInst n]⟩] ++ s)) ∧ g'.M[g'.p]? = some ⟨0, 13, [eJob x]⟩ ∧ g'.M[g'.q]? = some ⟨0, 13, [eJob y]⟩) (fun g' => [(KT, KD.av), (0, .pl (g.map eThing)), (3, .pl (l.map eAct)), (9, .pt (Lid H.length 0) 0 0 0), (10, .int .i64 E), (11, .int .i64 (k : Int)), (12, .pt (Lid H.length 1) 0 0 0), (15, .int .i64 (j : Int)), (16, .pt g'.p 0 0 0), (17, .pt g'.q 0 0 0)]) (fun g' => g'.M ++ []) ?_ ?_
      · repeat (fail)
        refine Z6g ?_
        try dsimp only [List.take_succ_cons, List.take_zero, List.cons_append, List.nil_append]
        refine Z7v ?_
        refine Zgu ?_
        refine Z7h ?_
        refine aqp 3 rfl (by decide +kernel) (by decide) (fun G => w_indexAddrpN rfl rfl hr1 rfl) ?_
        refine aqp 4 rfl (by decide +kernel) (by decide) (fun G => w_loadRp rfl hr1 rfl) ?_
        refine Zfk ?_
        refine Zfl ?_
        refine aq0 7 rfl (by decide +kernel) (by decide) (fun _ => o_move (v := .int _ _) rfl) ?_
        refine aqp 8 rfl (by decide +kernel) (by decide) (fun G => w_indexAddrpN rfl rfl hr2 rfl) ?_
        refine aqp 9 rfl (by decide +kernel) (by decide) (fun G => w_loadRp rfl hr2 rfl) ?_
        refine aa_all [10, 11] (by decide +kernel) (by simp) (by exact fun _ => ⟨_, rfl⟩) ?_
        simp only [List.forall_mem_cons, List.not_mem_nil, false_implies, implies_true, and_true]
        refine ⟨?_, ?_⟩
        · refine Zoh ?_
          refine Zoi ?_
          refine Zoj ?_
          refine Zok ?_
          refine Z19 ?_
          refine Zol ?_
          exact joinG_nrm ⟨_, _, _⟩ ⟨⟨_, rfl⟩, lk rfl rfl, lk rfl rfl⟩ (by repeat (first | exact Sub.nil | refine Sub.cons (by rfl) ?_)) (.inl (List.append_nil _).symm)
        · refine Zoh ?_
          refine aqs 10 rfl (by decide +kernel) (by exact fun _ => ⟨_, rfl⟩) (by rintro _ ⟨⟩; decide) (o_allocL (sz := 13) rfl (by decide) rfl) ?_
          refine Zoj ?_
          refine Zok ?_
          refine Z19 ?_
          refine Zol ?_
          exact joinG_nrm ⟨_, _, _⟩ ⟨⟨_, rfl⟩, lk rfl rfl, lk rfl rfl⟩ (by repeat (first | exact Sub.nil | refine Sub.cons (by rfl) ?_)) (.inl (List.append_nil _).symm)
      rintro ⟨M, p1, p2⟩ ⟨⟨s, hM⟩, hF, hF1⟩
      simp only at hM hF hF1 ⊢
      have f1 := je.id
      have f2 := je.spec
      have f3 := je.came
      have f4 := je.over
      have f5 := gj_span hgn hyl
      have f6 := jright_tms ((jobs_iff.1 hgn.gj.ir.jobs).2.1 y hyl)
      repeat (first | refine then_nrm ?_ | refine aw_seq ?_)
      refine aw_out 131 (.bool false) ?_ ?_
      · refine Zgk ?_
        refine ao1 (by decide) (w_load1 (v := .int _ _) rfl (lkF hF) rfl rfl rfl) ?_
        refine Zom ?_
        refine Zon ?_
        refine Z1p ?_
        refine Zc ?_
        refine ao_split rfl rfl (fun hg5 => ?_) (fun hg5 => ?_)
        · refine Zku ?_
          refine Zku ?_
          refine Z3c ?_
          refine Z9e ?_
          refine Z9e ?_
          refine Z9e ?_
          refine Zj5 ?_
          refine Z9c ?_
          refine Z9g ?_
          exact Zoo
        · refine Zi8 ?_
          refine ao_y1 rfl rfl (by decide) (w_loadN (cs := [_, _, _, _, _, _, _]) rfl (lkF hF) rfl rfl rfl rfl) ?_
          refine Zop ?_
          refine ao_y1 rfl rfl (by decide) (w_loadN (cs := [_, _, _, _, _, _, _]) rfl (lkF hF1) rfl rfl rfl rfl) ?_
          refine ao_y1 rfl rfl (by decide) (o_neAgg (us := uSpec x.spec) (vs := uSpec y.spec) rfl rfl rfl rfl (by kernel_rfl) (eqSpec_run _ _)) ?_
          refine Z26 ?_
          refine ao_split rfl rfl (fun hg12 => ?_) (fun hg12 => ?_)
          · refine Zku ?_
            refine Z3c ?_
            refine Z9e ?_
            refine Z9e ?_
            refine Z9e ?_
            refine Zj5 ?_
            refine Z9c ?_
            refine Z9g ?_
            exact Zoo
          · refine Zi8 ?_
            refine Zoq ?_
            refine Zor ?_
            refine Zlw ?_
            refine ao_split rfl rfl (fun hg19 => ?_) (fun hg19 => ?_)
            · refine Z3c ?_
              refine Z9e ?_
              refine Z9e ?_
              refine Z9e ?_
              refine Zj5 ?_
              refine Z9c ?_
              refine Z9g ?_
              exact Zoo
            · refine Zi8 ?_
              refine Zoq ?_
              refine Zj9 ?_
              refine Z2f ?_
              refine ao_split rfl rfl (fun hg23 => ?_) (fun hg23 => ?_)
              · refine Zi8 ?_
                refine Zoq ?_
                refine Zor ?_
                refine Zja ?_
                refine Z2f ?_
                refine ao_split rfl rfl (fun hg29 => ?_) (fun hg29 => ?_)
                · refine Zdo ?_
                  refine Z2f ?_
                  refine Zdo ?_
                  refine Z9j ?_
                  refine Zm ?_
                  exact Zoo
                · refine Zi8 ?_
                  refine Zoq ?_
                  refine Zor ?_
                  refine Zja ?_
                  refine Z9m ?_
                  refine Z2f ?_
                  refine ao_split rfl rfl (fun hg36 => ?_) (fun hg36 => ?_)
                  · refine Zdo ?_
                    refine Z9j ?_
                    refine Zm ?_
                    exact Zoo
                  · refine Zi8 ?_
                    refine Zoq ?_
                    refine Zor ?_
                    refine Zja ?_
                    refine Z9m ?_
                    refine Z9j ?_
                    refine Zm ?_
                    exact Zoo
              · refine Zia ?_
                refine Z9f ?_
                refine Zl ?_
                refine Z9f ?_
                refine Zk ?_
                refine Z9m ?_
                exact Zog
      repeat (refine then_nrm ?_)
      refine aw_cond rfl (fun hc => ?_) (fun hc => ?_)
      · cases hc
      clear hc
      repeat (first | refine then_nrm ?_ | refine aw_seq ?_ | refine aw_skip ?_)
      refine aw_out 157 (.bool false) ?_ ?_
      · refine Zom ?_
        refine Zon ?_
        refine Z3r ?_
        refine ao_split rfl rfl (fun hg3 => ?_) (fun hg3 => ?_)
        · refine Z2b ?_
          refine Zor ?_
          refine Zor ?_
          refine Zf ?_
          refine Z2f ?_
          refine ao_split rfl rfl (fun hg14 => ?_) (fun hg14 => ?_)
          · refine Z3c ?_
            refine Zdo ?_
            refine Zg ?_
            exact Zos
          · refine Zor ?_
            refine Zor ?_
            refine Zot ?_
            refine Zop ?_
            refine Zor ?_
            refine Z2d ?_
            refine Z9m ?_
            refine Zg ?_
            exact Zou
        · refine Zor ?_
          refine Z3s ?_
          refine Z26 ?_
          refine ao_split rfl rfl (fun hg8 => ?_) (fun hg8 => ?_)
          · refine Zor ?_
            refine Zor ?_
            refine Zf ?_
            refine Z2f ?_
            refine ao_split rfl rfl (fun hg14 => ?_) (fun hg14 => ?_)
            · refine Z3c ?_
              refine Zdo ?_
              refine Zg ?_
              exact Zos
            · refine Zor ?_
              refine Zor ?_
              refine Zot ?_
              refine Zop ?_
              refine Zor ?_
              refine Z2d ?_
              refine Z9m ?_
              refine Zg ?_
              exact Zou
          · refine Zia ?_
            refine Z9e ?_
            refine Z9f ?_
            refine Zk ?_
            exact Zog
      repeat (refine then_nrm ?_)
      refine aw_cond rfl (fun hc => ?_) (fun hc => ?_)
      · cases hc
      clear hc
      repeat (first | refine then_nrm ?_ | refine blk_nrm ?_ | refine aw_skip ?_)
      refine Z5g ?_
      repeat (refine then_nrm ?_)
      subst hM
      rw [List.append_nil]
      refine ⟨j + 1, by omega, by omega, (by repeat (first | exact Sub.nil | refine Sub.cons (by rfl) ?_)), Fit.loc hB rfl (by repeat (first | exact EBel.nil | refine EBel.cons (by first | rfl | (simp [AV.bel, AV.bels, Lid]; done)) ?_)) ?_⟩
      intro o ho r hr
      rcases List.mem_cons.1 ho with rfl | ho
      · simp only [List.mem_singleton] at hr; subst hr; exact inst_bel _ _ _ (List.mem_singleton.2 rfl)
      · simp only [List.mem_singleton] at ho; subst ho; simp only [List.mem_singleton] at hr; subst hr; exact inst_bel _ _ _ (List.mem_singleton.2 rfl)
    clear hc
    repeat (first | refine then_nrm ?_ | refine then_brk ?_ | refine blk_hit ?_ | refine aw_exit ?_)
    refine Z2i ?_
    refine Zfv ?_
    refine Z98 ?_
    repeat (first | refine then_nrm ?_ | refine blk_nrm ?_)
    refine Z5g ?_
    repeat (refine then_nrm ?_)
    refine ⟨(k + 1, n), by simp only; omega, ⟨by simp only; omega, hri, by simp only; omega, (tm_iff.1 hgn.gj.ir.now).1, fun _ => hgn, fun e => absurd hE e⟩, (by repeat (first | exact Sub.nil | refine Sub.cons (by rfl) ?_)), Fit.loc hB rfl (by repeat (first | exact EBel.nil | refine EBel.cons (by first | rfl | (simp [AV.bel, AV.bels, Lid]; done)) ?_)) ?_⟩
    intro o ho r hr
    simp only [List.mem_singleton] at ho
    subst ho
    exact inst_bel _ _ r hr
  · clear hc
    have n4 : i.jobs.length < 20 := by omega
    have htl := fun e => tick_last (hgs e)
    have h64 := fun e => (jobs_iff.1 (itick_gs (hgs e) 4611686018427387904).1.gj.ir.jobs).1
    repeat (first | refine then_nrm ?_ | refine then_brk ?_ | refine blk_hit ?_ | refine aw_seq ?_ | refine aw_exit ?_)
    refine Z2i ?_
    refine ao2 (by rintro _ ⟨⟩; decide) (V2.callT (inst_Tick i 4611686018427387904 _ hw n4) rfl rfl) ?_
    refine Zl1 ?_
    refine Z99 ?_
    generalize itick i 4611686018427387904 = n at *
    obtain ⟨n, f⟩ := n
    simp only at her htl h64 ⊢
    repeat (first | refine then_nrm ?_ | refine aw_seq ?_)
    refine Z76 ?_
    repeat (refine then_nrm ?_)
    refine aw_cond rfl (fun hc => ?_) (fun hc => ?_)
    · have hE : E ≠ 0 := by simpa using hc
      have hf := her hE
      subst hf
      repeat (refine aw_seq ?_)
      refine Zv ?_
      refine Zx ?_
      repeat (first | refine then_nrm ?_ | refine then_ret ?_ | refine aw_ret ?_)
      exact Z7
    have hE : E = 0 := by simpa using hc
    obtain ⟨hf, ht, hj2⟩ := htl hE
    have n64 := h64 hE
    subst hf
    clear hc her htl hgs h64
    repeat (first | refine then_nrm ?_ | refine aw_seq ?_ | refine aw_skip ?_)
    refine Z3 ?_
    repeat (first | refine then_nrm ?_ | refine aw_block ?_)
    refine aw_loop (G := Nat) (fun j => j ≤ n.jobs.length) (fun j => [(18, .pt (Lid H.length 1) 0 0 0), (19, .int .i64 0), (20, .int .i64 (j : Int))]) (fun _ => H ++ [⟨0, 9, [eInst i]⟩, ⟨0, 9, [eInst n]⟩]) (fun j => n.jobs.length - j) 0 (Nat.zero_le _) (by repeat (first | exact Sub.nil | refine Sub.cons (by rfl) ?_)) (.inl rfl) ?_
    intro j hj
    repeat (refine aw_seq ?_)
    refine Zen ?_
    refine Z14 ?_
    refine Z2l ?_
    repeat (refine then_nrm ?_)
    refine aw_cond rfl (fun hc => ?_) (fun hc => ?_)
    · have hjt : j < n.jobs.length := by simpa using hc
      obtain ⟨x, hx, hxl⟩ := get_in hjt
      have hr := map_get eJob hx
      have hst := hj2 x hxl
      clear hc
      repeat (first | refine then_nrm ?_ | refine aw_seq ?_ | refine aw_block ?_ | refine aw_skip ?_)
      refine Z30 ?_
      refine Z6 ?_
      refine Z37 ?_
      refine Zjo ?_
      refine Z38 ?_
      refine Zw ?_
      refine Z32 ?_
      repeat (refine then_nrm ?_)
      refine aw_cond rfl (fun hc => ?_) (fun hc => ?_)
      · simp at hc; exact absurd hc hst
      repeat (first | refine then_nrm ?_ | refine blk_nrm ?_ | refine aw_skip ?_)
      refine Z5g ?_
      repeat (refine then_nrm ?_)
      exact ⟨j + 1, by omega, by omega, (by repeat (first | exact Sub.nil | refine Sub.cons (by rfl) ?_)), .refl _ _⟩
    repeat (first | refine then_nrm ?_ | refine then_brk ?_ | refine blk_hit ?_ | refine aw_seq ?_ | refine aw_exit ?_)
    refine aw_out 8 (.bool true) ?_ ?_
    · refine Z4a ?_
      refine ao_split rfl rfl (fun hg2 => ?_) (fun hg2 => ?_)
      · refine Zob ?_
        refine Z3s ?_
        refine Zh ?_
        exact ao_nil (Out.mk (by (refine congrArg AV.bool ?_; (rw [ht]; simp; done))) (by repeat (first | exact SubX.refl _ _ | refine SubX.at ?_ | refine SubX.put rfl ?_)))
      · refine Z3n ?_
        refine Zn ?_
        exact Z1g
    repeat (first | refine then_nrm ?_ | refine aw_ret ?_)
    exact Z7
end Go.Av

namespace Go.Av
open Go.Proofs
set_option maxRecDepth 10000
set_option linter.unusedSimpArgs false
set_option linter.unusedVariables false
theorem held_things_le {i : Inst} (h : GS i) {x : Held} (hx : x ∈ i.table) : x.things.length ≤ 256 := by
  have := (held_iff.1 h.gj.ir.table).2.1 x hx
  simp only [hmay, Bool.and_eq_true] at this
  have hs := this.1.1.1.2
  rw [sok_setl2 hs]
  exact setl_len _
set_option maxHeartbeats 0 in
theorem law16_InstHolds (g : List Thing) (p d : Int) (l : List LAct) (H : Heap) : ACT Tryz.prog KD 5 [.pl (g.map eThing), .int .u8 p, .int .u8 d, .pl (l.map eAct)] H (Ret (.bool true) H) := by
  refine ACT.body (N := 203) [.tmp 8] Tryz.func5 rfl rfl rfl (Nat.le_of_ble_eq_true rfl) fun B hB => ?_
  repeat (refine aw_seq ?_)
  refine Za ?_
  repeat (first | refine then_nrm ?_ | refine aw_seq ?_)
  refine aw_region ?_
  refine Zl7 ?_
  refine Z2j ?_
  try dsimp only [put]
  repeat (refine then_nrm ?_)
  refine aw_cond rfl (fun hc => ?_) (fun hc => ?_)
  · simp at hc
  clear hc
  repeat (first | refine then_nrm ?_ | refine aw_seq ?_ | refine aw_skip ?_)
  refine aw_out 33 (.bool (decide (40 < g.length) || !lightB l)) ?_ ?_
  · refine Z5a ?_
    refine Za3 ?_
    refine ao_split rfl rfl (fun hg3 => ?_) (fun hg3 => ?_)
    · refine Zjw ?_
      exact Zh8
    · refine Z7j ?_
      refine Zl8 ?_
      refine Zfu ?_
      exact Zh8
  repeat (refine then_nrm ?_)
  refine aw_cond rfl (fun hc => ?_) (fun hc => ?_)
  · repeat (refine aw_seq ?_)
    refine Za ?_
    repeat (first | refine then_nrm ?_ | refine then_ret ?_ | refine aw_ret ?_)
    exact Z7
  rw [Bool.or_eq_false_iff, decide_eq_false_iff_not, Bool.not_eq_false'] at hc
  obtain ⟨hg, hli⟩ := hc
  simp only [lightB, Bool.and_eq_true, decide_eq_true_eq, List.all_eq_true] at hli
  obtain ⟨hl14, hll⟩ := hli
  repeat (first | refine then_nrm ?_ | refine aw_seq ?_ | refine aw_skip ?_)
  refine Z95 ?_
  refine Zl9 ?_
  refine Zla ?_
  refine Z6 ?_
  refine Zl9 ?_
  refine Zlb ?_
  refine Zl1 ?_
  refine Z64 ?_
  have hq := inew_ok g (IntKind.i64.wrap (IntKind.i64.wrap (p.tmod 3) + 1)) (IntKind.i64.wrap (d.tmod 9)) (by omega)
  have hq2 := inew_gs (g := g) (p := IntKind.i64.wrap (IntKind.i64.wrap (p.tmod 3) + 1)) (d := IntKind.i64.wrap (d.tmod 9))
  have hq3 := inew_err (g := g) (p := IntKind.i64.wrap (IntKind.i64.wrap (p.tmod 3) + 1)) (d := IntKind.i64.wrap (d.tmod 9))
  generalize inew g (IntKind.i64.wrap (IntKind.i64.wrap (p.tmod 3) + 1)) (IntKind.i64.wrap (d.tmod 9)) = q at *
  obtain ⟨i0, E⟩ := q
  simp only at hq hq2 hq3 ⊢
  obtain ⟨q1, q2, q3, _⟩ := hq
  repeat (first | refine then_nrm ?_ | refine aw_seq ?_)
  refine Z76 ?_
  repeat (refine then_nrm ?_)
  refine aw_cond rfl (fun hc => ?_) (fun hc => ?_)
  · have hE : E ≠ 0 := by simpa using hc
    have hi := hq3 hE
    subst hi
    repeat (refine aw_seq ?_)
    refine Z30 ?_
    refine Z31 ?_
    refine Zx ?_
    refine Z2l ?_
    repeat (first | refine then_nrm ?_ | refine then_ret ?_ | refine aw_ret ?_)
    exact Z7
  have hE : E = 0 := by simpa using hc
  have hgs0 := hq2 hE
  clear hq2 hq3 hc
  repeat (first | refine then_nrm ?_ | refine aw_seq ?_ | refine aw_skip ?_)
  refine Z3 ?_
  repeat (first | refine then_nrm ?_ | refine aw_block ?_)
  refine aw_loop (G := Nat × Inst) (fun q => q.1 ≤ l.length ∧ RI q.2 ∧ q.2.jobs.length ≤ q.1 ∧ GS q.2) (fun q => [(KT, KD.av), (0, .pl (g.map eThing)), (3, .pl (l.map eAct)), (9, .pt (Lid H.length 0) 0 0 0), (11, .int .i64 (q.1 : Int))]) (fun q => H ++ [⟨0, 9, [eInst q.2]⟩]) (fun q => l.length - q.1) (0, i0) ⟨Nat.zero_le _, q1, by rw [q2]; simp, hgs0⟩ (by repeat (first | exact Sub.nil | refine Sub.cons (by rfl) ?_)) (.inl rfl) ?_
  clear q1 q2 q3 hgs0
  rintro ⟨k, i⟩ ⟨hk, hw, hjl, hgi⟩
  simp only at hk hw hjl hgi ⊢
  repeat (refine aw_seq ?_)
  refine Z5d ?_
  repeat (refine then_nrm ?_)
  refine aw_cond rfl (fun hc => ?_) (fun hc => ?_)
  · have hlt : k < l.length := by simpa using hc
    clear hc
    have hpos := (tm_iff.1 hgi.gj.ir.now).1
    obtain ⟨a, ha, hal⟩ := get_in hlt
    have hr := map_get eAct ha
    have haw := hll a hal
    have hri := hw.ado a (by omega) (by omega) (by omega)
    have hjn := ado_jlen i a
    have hgs := ado_gs hgi a
    have n4 : i.jobs.length < 20 := by omega
    repeat (first | refine then_nrm ?_ | refine aw_seq ?_ | refine aw_block ?_ | refine aw_skip ?_)
    refine Zad ?_
    refine Zha ?_
    refine Z7h ?_
    refine Zlc ?_
    refine Zld ?_
    refine Zle ?_
    refine Zlf ?_
    refine Zlg ?_
    refine Zlh ?_
    refine Zli ?_
    refine Zlj ?_
    refine Zlk ?_
    refine Zh7 ?_
    refine Zll ?_
    refine Z19 ?_
    refine Z65 ?_
    generalize ado i a = n at *
    obtain ⟨n, id, f⟩ := n
    simp only at hri hjn hgs ⊢
    obtain ⟨hgn, hus, hsm⟩ := hgs
    clear hr hal ha haw
    have hrt := hgn.right
    repeat (first | refine then_nrm ?_ | refine aw_seq ?_)
    refine aw_out 80 (.bool false) ?_ ?_
    · refine Z6 ?_
      refine Z1p ?_
      refine Zc ?_
      refine ao_split rfl rfl (fun hg2 => ?_) (fun hg2 => ?_)
      · refine Z41 ?_
        refine Z41 ?_
        refine ao_y rfl rfl (by decide) (V2.call (ref16_Same n i _ hri) rfl) ?_
        refine Z1f ?_
        refine Z24 ?_
        refine ao_split rfl rfl (fun hg8 => ?_) (fun hg8 => ?_)
        · refine Zjw ?_
          exact Zov
        · refine Z41 ?_
          refine Zow ?_
          refine Zfu ?_
          exact Zov
      · refine Z3n ?_
        refine Z26 ?_
        refine Z41 ?_
        refine Zow ?_
        refine Zfu ?_
        exact Zov
    repeat (refine then_nrm ?_)
    refine aw_cond rfl (fun hc => ?_) (fun hc => ?_)
    · cases hc
    clear hc hsm
    have n1 := hri.iw.graph
    have n2 := hri.iw.health
    have n3 := hri.iw.lease
    have n5 := hri.iw.table
    have n6 := hri.jw
    have n7 := tm_iff.1 hgn.gj.ir.now
    have wk := hbelow_le n.graph n.health 1
    repeat (first | refine then_nrm ?_ | refine aw_seq ?_ | refine aw_skip ?_)
    refine Z30 ?_
    refine Z2z ?_
    refine ao2 (by rintro _ ⟨⟩; decide) (V2.call (health_Works n.graph n.health _ (by omega) (by omega)) rfl) ?_
    refine Z9z ?_
    refine Z55 ?_
    repeat (first | refine then_nrm ?_ | refine aw_seq ?_)
    refine Z3 ?_
    repeat (first | refine then_nrm ?_ | refine aw_seq ?_)
    refine Z3 ?_
    repeat (first | refine then_nrm ?_ | refine aw_block ?_)
    refine aw_loop (G := Nat) (fun j => j ≤ n.table.length) (fun j => [(KT, KD.av), (0, .pl (g.map eThing)), (3, .pl (l.map eAct)), (9, .pt (Lid H.length 0) 0 0 0), (11, .int .i64 (k : Int)), (12, .pt (Lid H.length 1) 0 0 0), (14, .int .i64 f), (15, .pl ((hbelow n.graph n.health 1).map eI)), (16, .int .i64 (thingsSum (n.table.take j))), (17, .int .i64 (j : Int))]) (fun _ => H ++ [⟨0, 9, [eInst i]⟩, ⟨0, 9, [eInst n]⟩]) (fun j => n.table.length - j) 0 (Nat.zero_le _) (by repeat (first | exact Sub.nil | refine Sub.cons (by rfl) ?_)) (.inl rfl) ?_
    intro j hj
    repeat (refine aw_seq ?_)
    refine Zen ?_
    refine Z14 ?_
    refine Z2l ?_
    repeat (refine then_nrm ?_)
    refine aw_cond rfl (fun hc => ?_) (fun hc => ?_)
    · have hjt : j < n.table.length := by simpa using hc
      obtain ⟨x, hx, hxl⟩ := get_in hjt
      have hr := map_get eHeld hx
      have t256 := (held_iff.1 hgn.gj.ir.table).1
      have ts := thingsSum_in (l := n.table) (fun y hy => held_things_le hgn hy) j hj
      have tx := held_things_le hgn hxl
      have tstep := thingsSum_step hx
      have hboth := fun e => Used.both hgn (hus e) hxl
      clear hc
      repeat (first | refine then_nrm ?_ | refine aw_seq ?_ | refine aw_block ?_ | refine aw_skip ?_)
      refine Z30 ?_
      refine Z6 ?_
      refine Z7n ?_
      refine Zc9 ?_
      refine Z9a ?_
      repeat (first | refine then_nrm ?_ | refine aw_seq ?_)
      refine Zen ?_
      refine ao1 (by decide) (o_add (r := thingsSum (n.table.take (j + 1))) rfl rfl (by rw [tstep, List.length_map]; exact wrap64_ok (by omega) (by omega))) ?_
      refine Z2m ?_
      repeat (first | refine then_nrm ?_ | refine aw_seq ?_)
      refine aw_out 119 (.bool false) ?_ ?_
      · refine Z4a ?_
        refine ao_split rfl rfl (fun hg2 => ?_) (fun hg2 => ?_)
        · refine Z5l ?_
          refine ao_y rfl rfl (by decide) (V2.call (set_Part x.things n.lease (by omega) (by omega) _) rfl) ?_
          refine Z1f ?_
          refine Z2f ?_
          refine ao_split rfl rfl (fun hg9 => ?_) (fun hg9 => ?_)
          · refine Zdo ?_
            refine Zg ?_
            exact Zox
          · refine Zkv ?_
            refine ao_y rfl rfl (by decide) (V2.call (set_Part x.things (hbelow n.graph n.health 1) (by omega) (by omega) _) rfl) ?_
            refine Z1f ?_
            refine Z9m ?_
            refine Zg ?_
            exact Zox
        · refine Z3n ?_
          refine Z1h ?_
          refine Z9f ?_
          refine Zk ?_
          exact Zog
      repeat (refine then_nrm ?_)
      refine aw_cond rfl (fun hc => ?_) (fun hc => ?_)
      · cases hc
      repeat (first | refine then_nrm ?_ | refine blk_nrm ?_ | refine aw_skip ?_)
      refine Z5g ?_
      repeat (refine then_nrm ?_)
      refine ⟨j + 1, by omega, by omega, (by repeat (first | exact Sub.nil | refine Sub.cons (by rfl) ?_)), Fit.loc hB rfl (by repeat (first | exact EBel.nil | refine EBel.cons (by first | rfl | (simp [AV.bel, AV.bels, Lid]; done)) ?_)) ?_⟩
      intro o ho r hr
      rcases List.mem_cons.1 ho with rfl | ho
      · simp only [List.mem_singleton] at hr; subst hr; exact inst_bel _ _ _ (List.mem_singleton.2 rfl)
      · simp only [List.mem_singleton] at ho; subst ho; simp only [List.mem_singleton] at hr; subst hr; exact inst_bel _ _ _ (List.mem_singleton.2 rfl)
    have : j = n.table.length := by simp at hc; omega
    subst this
    rw [List.take_length]
    clear hc
    have hbu := hgn.busy
    repeat (first | refine then_nrm ?_ | refine then_brk ?_ | refine blk_hit ?_ | refine aw_seq ?_ | refine aw_exit ?_)
    refine aw_out 136 (.bool false) ?_ ?_
    · refine Za2 ?_
      refine Za3 ?_
      refine ao_split rfl rfl (fun hg4 => ?_) (fun hg4 => ?_)
      · refine Ze ?_
        refine Z5k ?_
        refine Z3k ?_
        refine ao_y1 rfl rfl (by decide) (o_add (r := n.now + 1) rfl rfl (wrap64_ok (by omega) (by omega))) ?_
        refine ao_y rfl rfl (by decide) (V2.callT (held_Busy n.table n.now (n.now + 1) _ n5) rfl rfl) ?_
        refine Z7k ?_
        refine Zja ?_
        refine Zg ?_
        exact ao_nil (Out.mk (by (refine congrArg AV.bool ?_; (clear hB hgn hgi hri hw hus; simp only [List.length_map] at *; (simp_all; done)))) (by repeat (first | exact SubX.refl _ _ | refine SubX.at ?_ | refine SubX.put rfl ?_)))
      · refine Z3o ?_
        refine Z1h ?_
        exact Zog
    repeat (refine then_nrm ?_)
    refine aw_cond rfl (fun hc => ?_) (fun hc => ?_)
    · cases hc
    clear hc hbu
    repeat (first | refine then_nrm ?_ | refine aw_seq ?_ | refine aw_skip ?_)
    refine Z3 ?_
    repeat (first | refine then_nrm ?_ | refine aw_block ?_)
    refine aw_loop (G := Nat) (fun j => j ≤ n.jobs.length) (fun j => [(KT, KD.av), (0, .pl (g.map eThing)), (3, .pl (l.map eAct)), (9, .pt (Lid H.length 0) 0 0 0), (11, .int .i64 (k : Int)), (12, .pt (Lid H.length 1) 0 0 0), (19, .int .i64 (j : Int))]) (fun _ => H ++ [⟨0, 9, [eInst i]⟩, ⟨0, 9, [eInst n]⟩]) (fun j => n.jobs.length - j) 0 (Nat.zero_le _) (by repeat (first | exact Sub.nil | refine Sub.cons (by rfl) ?_)) (.inl rfl) ?_
    intro j hj
    repeat (refine aw_seq ?_)
    refine Zen ?_
    refine Z14 ?_
    refine Z2l ?_
    repeat (refine then_nrm ?_)
    refine aw_cond rfl (fun hc => ?_) (fun hc => ?_)
    · have hjt : j < n.jobs.length := by simpa using hc
      obtain ⟨x, hx, hxl⟩ := get_in hjt
      have hr := map_get eJob hx
      have hnd := fun (s : x.state = 2 ∨ x.state = 3 ∨ x.state = 4) (m : Int) (hm : m ∈ x.needs) => hgn.need hxl s hm
      have nx := hri.jw.2 x hxl
      clear hc
      repeat (first | refine then_nrm ?_ | refine aw_seq ?_ | refine aw_block ?_ | refine aw_skip ?_)
      refine Z30 ?_
      refine Z6 ?_
      refine Z7n ?_
      refine Zdu ?_
      refine Z9a ?_
      repeat (first | refine then_nrm ?_ | refine aw_seq ?_)
      refine Z3 ?_
      repeat (first | refine then_nrm ?_ | refine aw_block ?_)
      refine aw_loop (G := Nat) (fun m => m ≤ x.needs.length) (fun m => [(KT, KD.av), (0, .pl (g.map eThing)), (3, .pl (l.map eAct)), (9, .pt (Lid H.length 0) 0 0 0), (11, .int .i64 (k : Int)), (12, .pt (Lid H.length 1) 0 0 0), (19, .int .i64 (j : Int)), (20, .pt (Lid H.length 2) 0 0 0), (21, .int .i64 (m : Int))]) (fun _ => H ++ [⟨0, 9, [eInst i]⟩, ⟨0, 9, [eInst n]⟩, ⟨0, 13, [eJob x]⟩]) (fun m => x.needs.length - m) 0 (Nat.zero_le _) (by repeat (first | exact Sub.nil | refine Sub.cons (by rfl) ?_)) (.inl rfl) ?_
      intro m hm
      repeat (refine aw_seq ?_)
      refine aw_out 168 (.bool (decide (m < x.needs.length) && (decide (x.state = 2) || decide (x.state = 3) || decide (x.state = 4)))) ?_ ?_
      · refine Z6 ?_
        refine Za2 ?_
        refine Zq ?_
        refine ao_split rfl rfl (fun hg5 => ?_) (fun hg5 => ?_)
        · refine Z3t ?_
          refine Z2f ?_
          refine ao_split rfl rfl (fun hg9 => ?_) (fun hg9 => ?_)
          · refine Z2a ?_
            refine Z9j ?_
            refine Z2f ?_
            refine Z2a ?_
            refine Z9j ?_
            refine Zg ?_
            exact Zoy
          · refine Z3t ?_
            refine Z9m ?_
            refine Z2f ?_
            refine ao_split rfl rfl (fun hg14 => ?_) (fun hg14 => ?_)
            · refine Z2a ?_
              refine Z9j ?_
              refine Zg ?_
              exact Zoy
            · refine Z3t ?_
              refine Z9m ?_
              refine Zg ?_
              exact ao_nil (Out.mk (by (refine congrArg AV.bool ?_; (clear hB hnd hr hgn hgi hri hw hus; grind))) (by repeat (first | exact SubX.refl _ _ | refine SubX.at ?_ | refine SubX.put rfl ?_)))
        · refine Z3n ?_
          refine Z9d ?_
          refine Z9c ?_
          refine Zl ?_
          refine Z9d ?_
          refine Z9c ?_
          refine Zk ?_
          refine Zm ?_
          exact ao_nil (Out.mk (by (refine congrArg AV.bool ?_; (clear hB hnd hr hgn hgi hri hw hus; (simp_all; omega)))) (by repeat (first | exact SubX.refl _ _ | refine SubX.at ?_ | refine SubX.put rfl ?_)))
      repeat (refine then_nrm ?_)
      refine aw_cond rfl (fun hc => ?_) (fun hc => ?_)
      · simp only [Bool.and_eq_true, Bool.or_eq_true, decide_eq_true_eq] at hc
        obtain ⟨hmt, hst⟩ := hc
        obtain ⟨y, hy, hyl⟩ := get_in hmt
        have hr2 := map_get eI hy
        have hy2 := hnd (by rcases hst with (h | h) | h; exact .inl h; exact .inr (.inl h); exact .inr (.inr h)) y hyl
        repeat (first | refine then_nrm ?_ | refine aw_seq ?_ | refine aw_block ?_ | refine aw_skip ?_)
        refine Zdx ?_
        refine Z6h ?_
        refine Z7v ?_
        refine Zgu ?_
        refine Zkq ?_
        refine Zoz ?_
        refine Z18 ?_
        refine aqp 5 rfl (by decide +kernel) (by decide) (fun G => w_indexAddrpN rfl rfl hr2 rfl) ?_
        refine aqp 6 rfl (by decide +kernel) (by decide) (fun G => o_load1p (v := .int _ _) rfl hr2 rfl) ?_
        refine aq02 7 rfl (by decide +kernel) (by decide) (fun _ => V2.call (queue_Get n.jobs y _ n6) rfl) ?_
        refine Zki ?_
        refine aq0 9 rfl (by decide +kernel) (by decide) (fun _ => o_extract (v := .agg _) rfl rfl) ?_
        refine Zk1 ?_
        refine Zoi ?_
        refine Zoj ?_
        refine aq0 13 rfl (by decide +kernel) (by decide) (fun _ => o_assign (v := .bool _) rfl) ?_
        refine Z19 ?_
        refine Zdw ?_
        generalize jobsGet n.jobs y = z at *
        obtain ⟨z, zb⟩ := z
        simp only at hy2 ⊢
        repeat (first | refine then_nrm ?_ | refine aw_seq ?_)
        refine aw_out 195 (.bool false) ?_ ?_
        · refine Zc ?_
          refine Z4n ?_
          refine ao_split rfl rfl (fun hg2 => ?_) (fun hg2 => ?_)
          · refine Z2b ?_
            refine Z4q ?_
            exact Zp0
          · refine Z22 ?_
            refine Zlw ?_
            refine ao_split rfl rfl (fun hg7 => ?_) (fun hg7 => ?_)
            · refine Z4q ?_
              exact Zp0
            · refine Z3k ?_
              refine Z2d ?_
              refine Zm ?_
              exact Zp0
        repeat (refine then_nrm ?_)
        refine aw_cond rfl (fun hc => ?_) (fun hc => ?_)
        · cases hc
        repeat (first | refine then_nrm ?_ | refine blk_nrm ?_ | refine aw_skip ?_)
        refine Z5g ?_
        repeat (refine then_nrm ?_)
        refine ⟨m + 1, by omega, by omega, (by repeat (first | exact Sub.nil | refine Sub.cons (by rfl) ?_)), Fit.loc hB rfl (by repeat (first | exact EBel.nil | refine EBel.cons (by first | rfl | (simp [AV.bel, AV.bels, Lid]; done)) ?_)) ?_⟩
        intro o ho r hr
        rcases List.mem_cons.1 ho with rfl | ho
        · simp only [List.mem_singleton] at hr; subst hr; exact inst_bel _ _ _ (List.mem_singleton.2 rfl)
        · rcases List.mem_cons.1 ho with rfl | ho
          · simp only [List.mem_singleton] at hr; subst hr; exact inst_bel _ _ _ (List.mem_singleton.2 rfl)
          · simp only [List.mem_singleton] at ho; subst ho; simp only [List.mem_singleton] at hr; subst hr; exact jobs_bel _ [x] _ (List.mem_singleton.2 rfl)
      repeat (first | refine then_nrm ?_ | refine blk_nrm ?_ | refine then_brk ?_ | refine blk_hit ?_ | refine aw_exit ?_)
      refine Z5g ?_
      repeat (refine then_nrm ?_)
      refine ⟨j + 1, by omega, by omega, (by repeat (first | exact Sub.nil | refine Sub.cons (by rfl) ?_)), Fit.loc hB rfl (by repeat (first | exact EBel.nil | refine EBel.cons (by first | rfl | (simp [AV.bel, AV.bels, Lid]; done)) ?_)) ?_⟩
      intro o ho r hr
      rcases List.mem_cons.1 ho with rfl | ho
      · simp only [List.mem_singleton] at hr; subst hr; exact inst_bel _ _ _ (List.mem_singleton.2 rfl)
      · simp only [List.mem_singleton] at ho; subst ho; simp only [List.mem_singleton] at hr; subst hr; exact inst_bel _ _ _ (List.mem_singleton.2 rfl)
    clear hc
    have hfr := hgn.free
    have hfl := ifree_le n
    repeat (first | refine then_nrm ?_ | refine then_brk ?_ | refine blk_hit ?_ | refine aw_seq ?_ | refine aw_exit ?_)
    refine aw_of_out 201 (.bool false) ?_ ?_
    · refine Z6i ?_
      refine Zac ?_
      refine aq02 1 rfl (by decide +kernel) (by decide) (fun _ => V2.callT (inst_Free n _ hri.iw) rfl rfl) ?_
      refine Zkq ?_
      refine Zoz ?_
      refine aq02 4 rfl (by decide +kernel) (by decide) (fun _ => V2.call (set_Part (ifree n) n.lease (by omega) (by omega) _) rfl) ?_
      refine aq0 5 rfl (by decide +kernel) (by decide) (fun _ => o_not rfl) ?_
      exact aa_done (by decide +kernel) (by exact fun _ => ⟨_, rfl⟩) (Out.mk (by (refine congrArg AV.bool ?_; (simp [hfr]))) (by repeat (first | exact SubX.refl _ _ | refine SubX.at ?_ | refine SubX.put rfl ?_)))
    repeat (refine then_nrm ?_)
    refine aw_cond rfl (fun hc => ?_) (fun hc => ?_)
    · cases hc
    clear hc
    repeat (first | refine then_nrm ?_ | refine aw_skip ?_)
    refine Z2i ?_
    refine Zfv ?_
    refine Z98 ?_
    repeat (first | refine then_nrm ?_ | refine blk_nrm ?_)
    refine Z5g ?_
    repeat (refine then_nrm ?_)
    refine ⟨(k + 1, n), by simp only; omega, ⟨by simp only; omega, hri, by simp only; omega, hgn⟩, (by repeat (first | exact Sub.nil | refine Sub.cons (by rfl) ?_)), Fit.loc hB rfl (by repeat (first | exact EBel.nil | refine EBel.cons (by first | rfl | (simp [AV.bel, AV.bels, Lid]; done)) ?_)) ?_⟩
    intro o ho r hr
    simp only [List.mem_singleton] at ho
    subst ho
    exact inst_bel _ _ r hr
  · repeat (first | refine then_nrm ?_ | refine then_brk ?_ | refine blk_hit ?_ | refine aw_seq ?_ | refine aw_exit ?_)
    refine Za ?_
    repeat (first | refine then_nrm ?_ | refine aw_ret ?_)
    exact Z7
end Go.Av

namespace Go.Av
open Go.RowKit
theorem act_row {P : Program} {w : World} {K : Know} {f : FuncId} {avs : List AV} {us : List Value} {bb : Bool} (h : ACT P K f avs [] (Ret (.bool bb) [])) (hk : Kn K [] w) (hv : All2 (VR (own []) w []) avs us) : Calls P f us.toArray w fun e w' => e = .returned (.bool bb) ∧ Below w.heap.size w w' := by
  refine (h [] w us.toArray hk ⟨rfl, fun _ _ _ h => by simp at h, fun _ _ _ _ _ h => by simp at h⟩ hv.vrs).mono fun e w' => ?_
  rintro ⟨o, H', S', ⟨rfl, rfl⟩, ho, hh, hx⟩
  cases ho with
  | ret hb =>
    cases hb
    exact ⟨rfl, hx.os, hx.tape, hx.output, hx.stp.size, fun k hk => (hx.stp.old k hk (by rintro ⟨i, s, hs, _⟩; simp at hs)).2⟩
theorem kn_of_tab {P : Program} {W : World} {name : String} {k : IntKind} {zs : List Int} {g : Nat} {K : Know} (hg : P.globalNamed name = some g) (hz : zs ≠ []) (hK : K = ⟨g, zs.map fun z => Value.int k z⟩) (h : Lib.TabIs P W name k zs) : Kn K [] W := by
  subst hK
  have hc : ∀ j v, (zs.map fun z => Value.int k z)[j]? = some v → W.cell? ⟨g, j, none⟩ = some v := by
    intro j v hj
    have := World.var?_cell hg h j
    rw [this]
    simpa using hj
  have hx : ∃ ty fz, W.heap[g]? = some (Obj.cells (zs.map fun z => Value.int k z).toArray ty fz) := by
    unfold Lib.TabIs World.var? at h
    rw [hg] at h
    simp only [Option.bind_some] at h
    split at h
    · rename_i cs ty fz e
      obtain rfl := Option.some.inj h
      exact ⟨ty, fz, e⟩
    · cases h
  refine ⟨by rintro ⟨i, s, hs, _⟩; simp at hs, ?_, hc, hx⟩
  clear hx
  cases zs with
  | nil => exact absurd rfl hz
  | cons z zs =>
    have h0 := hc 0 _ rfl
    show g < W.heap.size
    rcases Nat.lt_or_ge g W.heap.size with h1 | h1
    · exact h1
    · exfalso
      simp [World.cell?, Array.getElem?_eq_none h1] at h0
end Go.Av

namespace Go.Av
open Go.Proofs Go.Proofs.YtcncbmpblkgfjaaGreatDoor
open Go.RowKit
set_option linter.unusedVariables false
set_option maxRecDepth 10000
theorem rows_mapP {α : Type} {e : α → List AV} {p : α → Prop} : ∀ {rows : List (List AV)}, (∀ r ∈ rows, ∃ x : α, r = e x ∧ p x) → ∃ l : List α, rows = l.map e ∧ ∀ x ∈ l, p x
  | [], _ => ⟨[], rfl, (fun _ h => nomatch h)⟩
  | r :: rows, h => by
    obtain ⟨x, rfl, hx⟩ := h r List.mem_cons_self
    obtain ⟨l, rfl, hl⟩ := rows_mapP fun r hr => h r (List.mem_cons_of_mem _ hr)
    refine ⟨x :: l, rfl, fun y hy => ?_⟩
    rcases List.mem_cons.1 hy with rfl | hy
    · exact hx
    · exact hl y hy
theorem thing_dec {r : List AV} (h : RowIs Tryz.prog 5 [3, 3, 9] r) : ∃ x : Thing, r = eThing x ∧ x.tag.size ≤ 9223372036854775807 := by
  obtain ⟨a0, r, rfl, h0, h⟩ := row_cons h
  obtain ⟨a1, r, rfl, h1, h⟩ := row_cons h
  obtain ⟨a2, r, rfl, h2, h⟩ := row_cons h
  obtain rfl := row_nil h
  obtain ⟨i0, rfl, _⟩ := cell_int (UdI.ud (P := Tryz.prog) (t := 3)) h0
  obtain ⟨i1, rfl, _⟩ := cell_int (UdI.ud (P := Tryz.prog) (t := 3)) h1
  obtain ⟨i2, rfl, hs⟩ := cell_str (UdI.ud (P := Tryz.prog) (t := 9)) h2
  exact ⟨⟨i0, i1, i2⟩, rfl, hs⟩
theorem ints_dec5 {a : AV} (h : CellOk Tryz.prog 5 23 a) : ∃ l : List Int, a = .pl (l.map eI) := by
  have hts : cellTys Tryz.prog (4 + 1) 3 = some [3] := by kernel_rfl
  obtain ⟨rows, rfl, _, h3⟩ := cell_sl (SlI.ud (P := Tryz.prog) (t := 23)) hts h
  obtain ⟨l, rfl⟩ := rows_map (e := eI) (rows := rows) fun r hr => by
    have h := h3 r hr
    obtain ⟨a1, r, rfl, h1, h⟩ := row_cons h
    obtain rfl := row_nil h
    obtain ⟨i1, rfl, _⟩ := cell_int (UdI.ud (P := Tryz.prog) (t := 3)) h1
    exact ⟨i1, rfl⟩
  exact ⟨l, rfl⟩
theorem things_dec {a : AV} (h : CellOk Tryz.prog 6 22 a) : ∃ l : List Thing, a = .pl (l.map eThing) := by
  have hts : cellTys Tryz.prog (5 + 1) 72 = some [3, 3, 9] := by kernel_rfl
  obtain ⟨rows, rfl, _, h3⟩ := cell_sl (SlI.ud (P := Tryz.prog) (t := 22)) hts h
  obtain ⟨l, rfl, hl⟩ := rows_mapP (e := eThing) (rows := rows) fun r hr => thing_dec (h3 r hr)
  exact ⟨l, rfl⟩
theorem act_dec {r : List AV} (h : RowIs Tryz.prog 5 [3, 3, 3, 3, 9, 4, 2, 3, 23, 3, 3, 2, 23] r) : ∃ x : LAct, r = eAct x := by
  obtain ⟨a0, r, rfl, h0, h⟩ := row_cons h
  obtain ⟨a1, r, rfl, h1, h⟩ := row_cons h
  obtain ⟨a2, r, rfl, h2, h⟩ := row_cons h
  obtain ⟨a3, r, rfl, h3, h⟩ := row_cons h
  obtain ⟨a4, r, rfl, h4, h⟩ := row_cons h
  obtain ⟨a5, r, rfl, h5, h⟩ := row_cons h
  obtain ⟨a6, r, rfl, h6, h⟩ := row_cons h
  obtain ⟨a7, r, rfl, h7, h⟩ := row_cons h
  obtain ⟨a8, r, rfl, h8, h⟩ := row_cons h
  obtain ⟨a9, r, rfl, h9, h⟩ := row_cons h
  obtain ⟨a10, r, rfl, h10, h⟩ := row_cons h
  obtain ⟨a11, r, rfl, h11, h⟩ := row_cons h
  obtain ⟨a12, r, rfl, h12, h⟩ := row_cons h
  obtain rfl := row_nil h
  obtain ⟨i0, rfl, _⟩ := cell_int (UdI.ud (P := Tryz.prog) (t := 3)) h0
  obtain ⟨i1, rfl, _⟩ := cell_int (UdI.ud (P := Tryz.prog) (t := 3)) h1
  obtain ⟨i2, rfl, _⟩ := cell_int (UdI.ud (P := Tryz.prog) (t := 3)) h2
  obtain ⟨i3, rfl, _⟩ := cell_int (UdI.ud (P := Tryz.prog) (t := 3)) h3
  obtain ⟨i4, rfl, _⟩ := cell_str (UdI.ud (P := Tryz.prog) (t := 9)) h4
  obtain ⟨i5, rfl⟩ := cell_bool (UdI.ud (P := Tryz.prog) (t := 4)) h5
  obtain ⟨i6, rfl, _⟩ := cell_int (UdI.ud (P := Tryz.prog) (t := 2)) h6
  obtain ⟨i7, rfl, _⟩ := cell_int (UdI.ud (P := Tryz.prog) (t := 3)) h7
  obtain ⟨i8, rfl⟩ := ints_dec5 h8
  obtain ⟨i9, rfl, _⟩ := cell_int (UdI.ud (P := Tryz.prog) (t := 3)) h9
  obtain ⟨i10, rfl, _⟩ := cell_int (UdI.ud (P := Tryz.prog) (t := 3)) h10
  obtain ⟨i11, rfl, _⟩ := cell_int (UdI.ud (P := Tryz.prog) (t := 2)) h11
  obtain ⟨i12, rfl⟩ := ints_dec5 h12
  exact ⟨⟨i0, ⟨i1, i2, i3, i4, i5, i6, i7⟩, i8, i9, i10, i11, i12⟩, rfl⟩
theorem acts_dec {a : AV} (h : CellOk Tryz.prog 6 39 a) : ∃ l : List LAct, a = .pl (l.map eAct) := by
  have hts : cellTys Tryz.prog (5 + 1) 52 = some [3, 3, 3, 3, 9, 4, 2, 3, 23, 3, 3, 2, 23] := by kernel_rfl
  obtain ⟨rows, rfl, _, h3⟩ := cell_sl (SlI.ud (P := Tryz.prog) (t := 39)) hts h
  obtain ⟨l, rfl⟩ := rows_map (e := eAct) (rows := rows) fun r hr => act_dec (h3 r hr)
  exact ⟨l, rfl⟩
abbrev laidD : List (String × DataW Unit) := [("math/bits.deBruijn64tab", Rows.laid_math_bits_deBruijn64tab)]
theorem laid_kn {W : World} (h : laidMetH Tryz.prog laidD W) : Kn KD [] W := by
  rw [MakeChecks.laidMetH_plain _ _ _ (by kernel_rfl)] at h
  have hg : Tryz.prog.globalNamed "math/bits.deBruijn64tab" = some 0 := by kernel_rfl
  have h2 : Lib.TabIs Tryz.prog W "math/bits.deBruijn64tab" .u8 (Lib.deBruijn64tab.map fun n : Nat => (n : Int)) :=
    Lib.tabIs_of_head (rest := []) (t := 215) (e := 5) (n := 64) hg (by kernel_rfl) (by kernel_rfl) (by kernel_rfl) (by kernel_rfl) (by kernel_rfl) h
  exact kn_of_tab hg (by decide) (by unfold KD; rw [List.map_map]; rfl) h2
theorem door_met (os : Os) (args : Array Value) : laidMetH Tryz.prog laidD ((World.doorLaid Tryz.prog 400 os).forCall (fun _ _ => 0) ⟨#[], args, []⟩).memory :=
  laidMetH_of_parts3 (fuel := 8) (laidMet_of_run' 8 (by kernel_rfl) (by kernel_rfl)) (by kernel_rfl) (by kernel_rfl)
end Go.Av

