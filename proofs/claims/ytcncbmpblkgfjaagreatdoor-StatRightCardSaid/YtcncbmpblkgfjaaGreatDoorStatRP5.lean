/- Parts of the proof: rules for an abstract memory, plain laws, and walks through the program. -/
import Derived.Test.YtcncbmpblkgfjaaGreatDoorStatRP0
import Derived.Test.YtcncbmpblkgfjaaGreatDoorStatRP4
import Derived.Test.YtcncbmpblkgfjaaGreatDoorStatRP3
import Derived.ChangeKeysEq
import Derived.Test.YtcncbmpblkgfjaaGreatDoorStatRP2
import Derived.Lib.LaidTab
import Derived.LaidMore
import Derived.Handed
import Derived.Test.YtcncbmpblkgfjaaGreatDoorRows
set_option linter.unusedVariables false
set_option linter.unusedSimpArgs false
/-
  A SCHEDULER THAT WORKS, plainly: its jobs and its holdings tell the same, whatever happens.
-/
namespace Go.Av
set_option linter.unusedVariables false
set_option linter.unusedSimpArgs false

/-- Jobs and holdings tell the same. -/
structure IR (w : Inst) : Prop where
  jobs : jobsR w.jobs = true
  table : heldR w.table = true
  came : ∀ j ∈ w.jobs, j.came ≤ w.now ∧ j.frm ≤ w.now
  run : ∀ j ∈ w.jobs, j.state = 2 → ∃ h ∈ w.table, h.id = j.id ∧ h.frm = j.frm ∧ h.to = sEnds j.spec j.frm ∧ ithings w.graph h.things = true
  held : ∀ h ∈ w.table, ∃ j ∈ w.jobs, j.id = h.id ∧ j.state = 2
  now : tm w.now = true
theorem IR.pj {w : Inst} (h : IR w) : w.jobs.Pairwise (fun a b => a.id < b.id) := jobsR_sorted h.jobs
theorem IR.pt {w : Inst} (h : IR w) : w.table.Pairwise (fun a b => a.id < b.id) := (held_iff.1 h.table).2.2.1
theorem job_inj {w : Inst} (h : IR w) {a b : Job} (ha : a ∈ w.jobs) (hb : b ∈ w.jobs) (e : a.id = b.id) : a = b := key_inj (f := Job.id) h.pj ha hb e
theorem held_inj {w : Inst} (h : IR w) {a b : Held} (ha : a ∈ w.table) (hb : b ∈ w.table) (e : a.id = b.id) : a = b := key_inj (f := Held.id) h.pt ha hb e
/-- What a holding is of. -/
theorem IR.of {w : Inst} (h : IR w) {x : Held} (hx : x ∈ w.table) : ∃ j ∈ w.jobs, j.id = x.id ∧ j.state = 2 ∧ x.frm = j.frm ∧ x.to = sEnds j.spec j.frm ∧ ithings w.graph x.things = true := by
  obtain ⟨j, hj, e, s⟩ := h.held x hx
  obtain ⟨y, hy, e2, r⟩ := h.run j hj s
  have : y = x := held_inj h hy hx (by rw [e2, e])
  subst this
  exact ⟨j, hj, e, s, r⟩
theorem nd_len {α : Type} [DecidableEq α] : ∀ (R T : List α), R.Nodup → (∀ x ∈ R, x ∈ T) → R.length ≤ T.length
  | [], T, _, _ => Nat.zero_le _
  | x :: R, T, hnd, hs => by
    have hx := hs x List.mem_cons_self
    rw [List.nodup_cons] at hnd
    have := nd_len R (T.erase x) hnd.2 fun z hz => by
      have hzx : z ≠ x := fun h => hnd.1 (h ▸ hz)
      exact (List.mem_erase_of_ne hzx).2 (hs z (List.mem_cons_of_mem _ hz))
    have h2 := List.length_erase_of_mem hx
    have : 0 < T.length := List.length_pos_of_mem hx
    simp only [List.length_cons]
    omega
/-- The parts that no job turns. -/
def istatic (i : Inst) : Bool := hright i.graph i.health && ithings i.graph i.lease && tm i.til && tm i.now && ipolicy i.policy i.depth
theorem iright_iff {i : Inst} : iright i = true ↔ istatic i = true ∧ IR i ∧ ∀ h ∈ i.table, i.now < h.to := by
  constructor
  · intro h
    have hj := iright_jobs h
    have ht := iright_table h
    have hn := table_now h
    have hp := (held_iff.1 ht).2.2.1
    refine ⟨by simp only [iright, Bool.and_eq_true] at h; simp only [istatic, Bool.and_eq_true]; exact h.1.1.1, ⟨hj, ht, ?_, ?_, fun x hx => ?_, ?_⟩, fun x hx => ?_⟩
    · intro j hjm
      have htold : itold i = true := by simp only [iright, Bool.and_eq_true] at h; exact h.2
      rw [itold, Bool.and_eq_true] at htold
      obtain ⟨k, hk⟩ := List.mem_iff_getElem?.1 hjm
      have hb := allI_get htold.1 (List.getElem?_eq_some_iff.1 hk).1
      rw [itoldB_get hk] at hb
      simp only [Bool.and_eq_true, decide_eq_true_eq] at hb
      exact hb.1
    · intro j hjm hs
      have htold : itold i = true := by simp only [iright, Bool.and_eq_true] at h; exact h.2
      rw [itold, Bool.and_eq_true] at htold
      obtain ⟨k, hk⟩ := List.mem_iff_getElem?.1 hjm
      have hb := allI_get htold.1 (List.getElem?_eq_some_iff.1 hk).1
      rw [itoldB_get hk] at hb
      simp only [Bool.and_eq_true, Bool.or_eq_true, decide_eq_true_eq, hs, ne_eq, not_true_eq_false, false_or] at hb
      obtain ⟨⟨h1, h2⟩, ⟨⟨⟨⟨h3, h4⟩, h5⟩, h6⟩, h7⟩⟩ := hb
      obtain ⟨x, hx, hid⟩ := (heldGet_iff ht).1 h3
      have he := heldGet_eq ht hx
      rw [hid] at he
      rw [he] at h4 h5 h7
      exact ⟨x, hx, hid, h4, h5, h7⟩
    · obtain ⟨j, hjm, hs, he, _⟩ := hn x hx
      exact ⟨j, hjm, he, hs⟩
    · simp only [iright, Bool.and_eq_true] at h; exact h.1.1.1.1.2
    · obtain ⟨j, hjm, hs, he, _, _, r, _⟩ := hn x hx
      exact r
  · rintro ⟨hs, h, hlt⟩
    have hst := hs
    simp only [istatic, Bool.and_eq_true] at hst
    have htold : itold i = true := by
      rw [itold, Bool.and_eq_true, decide_eq_true_eq]
      refine ⟨allI_true fun k hk => ?_, ?_⟩
      · have hj : i.jobs[k]? = some i.jobs[k] := List.getElem?_eq_getElem hk
        have hm : i.jobs[k] ∈ i.jobs := List.getElem_mem hk
        rw [itoldB_get hj]
        have hc := h.came _ hm
        rw [decide_eq_true hc.1, decide_eq_true hc.2, Bool.true_and, Bool.true_and]
        by_cases e : i.jobs[k].state = 2
        · obtain ⟨x, hx, h1, h2, h3, h4⟩ := h.run _ hm e
          have he := heldGet_eq h.table hx
          rw [h1] at he
          rw [he]
          simp only [Bool.or_eq_true, Bool.and_eq_true, decide_eq_true_eq, true_and]
          exact .inr ⟨⟨⟨h2, h3⟩, hlt x hx⟩, h4⟩
        · rw [decide_eq_true e, Bool.true_or]
      · have ndj : ((i.jobs.filter fun j => decide (j.state = 2)).map (·.id)).Nodup := (keys_sorted (f := Job.id) (h.pj.sublist (List.filter_sublist))).imp fun h => by omega
        have ndt : (i.table.map (·.id)).Nodup := (keys_sorted (f := Held.id) h.pt).imp fun h => by omega
        have l1 := nd_len _ (i.table.map (·.id)) ndj (fun n hn => by
          obtain ⟨j, hjm, rfl⟩ := List.mem_map.1 hn
          rw [List.mem_filter, decide_eq_true_eq] at hjm
          obtain ⟨y, hy, hyid, r⟩ := h.run j hjm.1 hjm.2
          exact List.mem_map.2 ⟨y, hy, hyid⟩)
        have l2 := nd_len _ ((i.jobs.filter fun j => decide (j.state = 2)).map (·.id)) ndt (fun n hn => by
          obtain ⟨x, hx, rfl⟩ := List.mem_map.1 hn
          obtain ⟨j, hjm, he, hs2⟩ := h.held x hx
          exact List.mem_map.2 ⟨j, List.mem_filter.2 ⟨hjm, by rw [decide_eq_true_eq]; exact hs2⟩, he⟩)
        rw [List.length_map, List.length_map] at l1 l2
        omega
    simp only [iright, Bool.and_eq_true]
    exact ⟨⟨⟨hst, h.jobs⟩, h.table⟩, htold⟩
/-! ### something happens to a job -/
theorem jnext_two {s w : Int} (h : jnext s w = some 2) : w = 3 ∧ s = 0 := by
  unfold jnext at h
  repeat' split at h
  all_goals first | omega | (injection h with h; omega) | cases h
theorem jnext_wait {s w t : Int} (h : jnext s w = some t) (ht : t < 2) : s < 2 ∧ w < 3 := by
  unfold jnext at h
  repeat' split at h
  all_goals first | omega | (injection h with h; omega) | cases h
theorem jdo_cases (j : Job) (w now : Int) : ((jdo j w now).2 ≠ 0 ∧ (jdo j w now).1 = j) ∨ ∃ s, jbad j w now = false ∧ jnext j.state w = some s ∧ jdo j w now = (jstep j s now, 0) := by
  unfold jdo
  cases hb : jbad j w now with
  | true => exact .inl ⟨by simp, by simp⟩
  | false =>
    cases hn : jnext j.state w with
    | none => exact .inl ⟨by simp, by simp⟩
    | some s => exact .inr ⟨s, rfl, rfl, by simp⟩
theorem job_there (w : Inst) (id : Int) : (∃ j ∈ w.jobs, j.id = id) ∨ ∀ j ∈ w.jobs, j.id ≠ id := by
  by_cases h : ∃ j ∈ w.jobs, j.id = id
  · exact .inl h
  · exact .inr fun j hj e => h ⟨j, hj, e⟩
/-- How it goes: nothing, or one job steps. -/
theorem wdo_cases {w : Inst} (hr : jobsR w.jobs = true) (id what at_ : Int) :
    ((wdo w id what at_).1 = w ∧ (wdo w id what at_).2 ≠ 0) ∨ ∃ j ∈ w.jobs, j.id = id ∧ ∃ s, jbad j what at_ = false ∧ jnext j.state what = some s ∧ jobsDo w.jobs id what at_ = (w.jobs.set (jobPos w.jobs id) (jstep j s at_), 0) ∧
      wdo w id what at_ = ({ w with jobs := w.jobs.set (jobPos w.jobs id) (jstep j s at_), table := if jover s then (heldDrop w.table id).1 else w.table }, 0) := by
  rcases job_there w id with ⟨j, hj, rfl⟩ | hn
  · obtain ⟨h1, h2, h3, h4⟩ := jobsDo_hit hr hj what at_
    rcases jdo_cases j what at_ with ⟨e, e1⟩ | ⟨s, hb, hs, e⟩
    · left
      unfold wdo
      rw [h1, if_pos e]
      exact ⟨rfl, e⟩
    · right
      refine ⟨j, hj, rfl, s, hb, hs, by rw [h1, e], ?_⟩
      have hm : jstep j s at_ ∈ (jobsDo w.jobs j.id what at_).1 := (h3 _).2 (.inl (by rw [e]))
      have hg := jobsGet_eq h2 hm
      rw [show (jstep j s at_).id = j.id from rfl] at hg
      unfold wdo
      rw [hg]
      rw [h1, e]
      simp only [ne_eq, not_true_eq_false, if_false]
      rw [show (jstep j s at_).state = s from rfl]
      split <;> rfl
  · left
    have := jobsDo_no (w := what) (now := at_) hr hn
    unfold wdo
    rw [if_pos this]
    exact ⟨rfl, this⟩
theorem set_jobs {w : Inst} (hr : jobsR w.jobs = true) {j : Job} (hj : j ∈ w.jobs) {what at_ s : Int} (e : jobsDo w.jobs j.id what at_ = (w.jobs.set (jobPos w.jobs j.id) (jstep j s at_), 0)) (hb : jbad j what at_ = false) (hs : jnext j.state what = some s) :
    jobsR (w.jobs.set (jobPos w.jobs j.id) (jstep j s at_)) = true ∧ ∀ y, y ∈ w.jobs.set (jobPos w.jobs j.id) (jstep j s at_) ↔ y = jstep j s at_ ∨ (y ∈ w.jobs ∧ y.id ≠ j.id) := by
  obtain ⟨h1, h2, h3, h4⟩ := jobsDo_hit hr hj what at_
  rw [e] at h2 h3
  have : (jdo j what at_).1 = jstep j s at_ := by unfold jdo; rw [hb, hs]; simp
  rw [this] at h3
  exact ⟨h2, h3⟩
theorem drop_mem {l : List Held} (hr : heldR l = true) (id : Int) : heldR (heldDrop l id).1 = true ∧ ∀ y, y ∈ (heldDrop l id).1 ↔ y ∈ l ∧ y.id ≠ id := by
  by_cases h : ∃ x ∈ l, x.id = id
  · obtain ⟨x, hx, rfl⟩ := h
    have := heldDrop_hit hr hx
    exact ⟨this.1, this.2.1⟩
  · have hn : ∀ x ∈ l, x.id ≠ id := fun x hx e => h ⟨x, hx, e⟩
    rw [heldDrop_no hr hn]
    exact ⟨hr, fun y => ⟨fun hy => ⟨hy, hn y hy⟩, fun hy => hy.1⟩⟩
theorem wdo_ir {w : Inst} (h : IR w) {id what at_ : Int} (h3 : what ≠ 3) : IR (wdo w id what at_).1 := by
  rcases wdo_cases h.jobs id what at_ with ⟨e, _⟩ | ⟨j, hj, rfl, s, hb, hs, e1, e⟩
  · rw [e]; exact h
  · rw [e]
    obtain ⟨hr, hm⟩ := set_jobs h.jobs hj e1 hb hs
    have hs2 : s ≠ 2 := by rintro rfl; exact h3 (jnext_two hs).1
    obtain ⟨dr, dm⟩ := drop_mem h.table j.id
    have hin := jnext_in (jright_state ((jobs_iff.1 h.jobs).2.1 j hj)).1 hs
    refine ⟨hr, ?_, ?_, ?_, ?_, h.now⟩
    · show heldR (if jover s then (heldDrop w.table j.id).1 else w.table) = true
      split
      · exact dr
      · exact h.table
    · intro y hy
      rcases (hm y).1 hy with rfl | ⟨hy, _⟩
      · show j.came ≤ w.now ∧ (if s = 2 then at_ else j.frm) ≤ w.now
        rw [if_neg hs2]; exact h.came j hj
      · exact h.came y hy
    · intro y hy hst
      rcases (hm y).1 hy with rfl | ⟨hy, hne⟩
      · exact absurd hst hs2
      · obtain ⟨x, hx, e1, r⟩ := h.run y hy hst
        refine ⟨x, ?_, e1, r⟩
        show x ∈ (if jover s then (heldDrop w.table j.id).1 else w.table)
        split
        · exact (dm x).2 ⟨hx, by rw [e1]; exact hne⟩
        · exact hx
    · intro x hx
      have hx' : x ∈ w.table ∧ (x.id ≠ j.id ∨ jover s = false) := by
        have : x ∈ (if jover s then (heldDrop w.table j.id).1 else w.table) := hx
        split at this
        · exact ⟨((dm x).1 this).1, .inl ((dm x).1 this).2⟩
        · exact ⟨this, .inr (by simp_all)⟩
      obtain ⟨hx, hor⟩ := hx'
      obtain ⟨y, hy, e5, e2⟩ := h.held x hx
      refine ⟨y, (hm y).2 (.inr ⟨hy, fun e3 => ?_⟩), e5, e2⟩
      have := job_inj h hy hj e3
      subst this
      rcases hor with ho | ho
      · exact ho e5.symm
      · have : s < 2 := by simp only [jover, Bool.and_eq_false_iff, decide_eq_false_iff_not] at ho; omega
        have := (jnext_wait hs this).1
        omega
end Go.Av

namespace Go.Av
open Go.Proofs
set_option maxRecDepth 10000
set_option linter.unusedSimpArgs false
set_option linter.unusedVariables false

theorem ref16_Own (g : List Thing) (l : List Int) (H : Heap) (hg : g.length ≤ 1000000) (hl : l.length ≤ 1000000) : AC Tryz.prog 93 [.pl (g.map eThing), .pl (l.map eInt)] H (Ret (.bool (ithings g l)) H) := by
  refine AC.body (N := 23) [.tmp 4] Tryz.func93 rfl rfl rfl (Nat.le_of_ble_eq_true rfl) fun B hB => ?_
  refine Z1r ?_
  refine Z6 ?_
  by_cases h0 : l.length = 0
  · refine Z1 ?_
    refine aw_out 4 (.bool (ithings g l)) ?_ ?_
    · refine Z45 ?_
      refine Zdm ?_
      refine Zj ?_
      refine ao_split rfl rfl (fun hg2 => ?_) (fun hg2 => ?_)
      · refine Zbi ?_
        refine Z24 ?_
        refine ao_split rfl rfl (fun hg6 => ?_) (fun hg6 => ?_)
        · refine Z4g ?_
          refine Z36 ?_
          refine Z37 ?_
          refine Zh0 ?_
          exact Zh1
        · exfalso; have := List.eq_nil_of_length_eq_zero h0; subst this; simp at hg6
      · refine Z29 ?_
        refine Z2b ?_
        refine Z2b ?_
        refine Zb5 ?_
        refine Z4v ?_
        exact Zh1
    exact Z1z
  · obtain ⟨x, hx, hxl⟩ := get_in (l := l) (k := l.length - 1) (by omega)
    have hr := map_get eInt hx
    have hd : l.getD (l.length - 1) 0 = x := by rw [List.getD_eq_getElem?_getD, hx]; rfl
    have hs : ithings g l = (sok l && decide (x < (g.length : Int))) := by rw [ithings, hd, decide_eq_false h0, Bool.false_or]
    rw [hs]
    refine Z1 ?_
    refine aw_out 4 (.bool (sok l && decide (x < (g.length : Int)))) ?_ ?_
    · refine Z45 ?_
      refine Zdm ?_
      refine Zj ?_
      refine ao_split rfl rfl (fun hg2 => ?_) (fun hg2 => ?_)
      · refine Zbi ?_
        refine Z24 ?_
        refine ao_split rfl rfl (fun hg6 => ?_) (fun hg6 => ?_)
        · refine Z4g ?_
          refine Z36 ?_
          refine Z37 ?_
          refine Zh0 ?_
          exact Zh2
        · refine Z95 ?_
          refine Z9r ?_
          refine Zh3 ?_
          refine Zdb ?_
          refine Z2y ?_
          refine Z9r ?_
          refine Zm ?_
          refine Zh0 ?_
          exact Zh2
      · refine Z29 ?_
        refine Z2b ?_
        refine Z2b ?_
        refine Zb5 ?_
        refine Z4v ?_
        exact Zh2
    exact Z1z
structure TagsW (i : Inst) : Prop where
  graph : TW i.graph
  jobs : QT i.jobs
theorem iright_parts (i : Inst) : iright i = (istatic i && (jobsR i.jobs && heldR i.table) && itold i) := by
  rw [iright, istatic]
  simp only [Bool.and_assoc]
theorem i16B_get {i : Inst} {k : Nat} {j : Job} (hj : i.jobs[k]? = some j) (hr : heldR i.table = true) : itoldB i k = (decide (j.came ≤ i.now) && decide (j.frm ≤ i.now) && (decide (j.state ≠ 2) ||
  (heldHit i.table j.id && decide ((heldAt i.table (heldPos i.table j.id)).frm = j.frm) && decide ((heldAt i.table (heldPos i.table j.id)).to = sEnds j.spec j.frm) &&
    decide (i.now < (heldAt i.table (heldPos i.table j.id)).to) && decide ((heldAt i.table (heldPos i.table j.id)).things.getD ((heldAt i.table (heldPos i.table j.id)).things.length - 1) 0 < (i.graph.length : Int))))) := by
  rw [← i16_told hr, i16B, jobAt_get hj]
set_option maxHeartbeats 0 in
theorem ref16_Right (i : Inst) (H : Heap) (hw : IW i) (ht : TagsW i) : AC Tryz.prog 45 [.agg (eInst i)] H (Ret (.bool (iright i)) H) := by
  have w1 := hw.graph
  have w2 := hw.jobs
  have w3 := hw.table
  have w4 := hw.health
  have w5 := hw.lease
  have w6 := w3.1
  have t1 := ht.graph
  have t2 := ht.jobs
  rw [iright_parts]
  refine AC.body (N := 155) [.tmp 2] Tryz.func45 rfl rfl rfl (Nat.le_of_ble_eq_true rfl) fun B hB => ?_
  refine Zh5 ?_
  refine Zg ?_
  refine aw_out 61 (.bool (!istatic i)) ?_ ?_
  · refine Z4a ?_
    refine Z4a ?_
    refine Zdi ?_
    refine Z22 ?_
    refine ao_split rfl rfl (fun hg6 => ?_) (fun hg6 => ?_)
    · refine Z4g ?_
      refine Z6e ?_
      refine Z3i ?_
      refine Z3h ?_
      refine Z3k ?_
      exact Zi1
    · refine Z72 ?_
      refine ao_y rfl rfl (by decide) (V2.call (ref16_Own _ _ _ (by omega) (by omega)) rfl) ?_
      refine Z1w ?_
      refine Z31 ?_
      refine ao_split rfl rfl (fun hg14 => ?_) (fun hg14 => ?_)
      · refine Z3i ?_
        refine Z3h ?_
        refine Z3k ?_
        exact Zi1
      · refine Z3m ?_
        refine ao_split rfl rfl (fun hg19 => ?_) (fun hg19 => ?_)
        · refine Z3i ?_
          refine Z3h ?_
          refine Z3j ?_
          exact Zi1
        · refine Z3c ?_
          refine ao_split rfl rfl (fun hg24 => ?_) (fun hg24 => ?_)
          · refine Z3i ?_
            refine Z3k ?_
            exact Zi1
          · refine Z3m ?_
            refine ao_split rfl rfl (fun hg29 => ?_) (fun hg29 => ?_)
            · refine Z3i ?_
              refine Z3j ?_
              exact Zi1
            · refine Z3c ?_
              refine ao_split rfl rfl (fun hg34 => ?_) (fun hg34 => ?_)
              · refine Z3h ?_
                refine Z3k ?_
                exact Zi1
              · refine Z3m ?_
                refine ao_split rfl rfl (fun hg39 => ?_) (fun hg39 => ?_)
                · refine Z3h ?_
                  refine Z3j ?_
                  exact Zi1
                · refine Z3c ?_
                  refine ao_split rfl rfl (fun hg44 => ?_) (fun hg44 => ?_)
                  · refine Z3k ?_
                    exact Zi1
                  · refine Z3m ?_
                    refine ao_split rfl rfl (fun hg49 => ?_) (fun hg49 => ?_)
                    · refine Z3j ?_
                      exact Zi1
                    · refine Z3b ?_
                      refine Zn ?_
                      exact Zi1
  refine Z1 ?_
  refine aw_cond rfl (fun hc => ?_) (fun hc => ?_)
  · have hno : istatic i = false := by simpa only [Bool.not_eq_true'] using hc
    rw [hno, Bool.false_and, Bool.false_and]
    exact Z4l
  have hst : istatic i = true := by simpa only [Bool.not_eq_false'] using hc
  rw [hst, Bool.true_and]
  clear hc
  refine Z1 ?_
  refine aw_out 71 (.bool (!(jobsR i.jobs && heldR i.table))) ?_ ?_
  · refine Z4a ?_
    refine ao_ret (ref12_Right _ _ (by omega) (by assumption)) rfl (by decide) ?_
    refine Z22 ?_
    refine ao_split rfl rfl (fun hg4 => ?_) (fun hg4 => ?_)
    · refine Z4h ?_
      exact Zb9
    · refine Z55 ?_
      refine ao_y rfl rfl (by decide) (V2.call (ref10_Right _ _ (by assumption)) rfl) ?_
      refine Z26 ?_
      exact Zb9
  refine Z1 ?_
  refine aw_cond rfl (fun hc => ?_) (fun hc => ?_)
  · have hno : (jobsR i.jobs && heldR i.table) = false := by simpa only [Bool.not_eq_true'] using hc
    rw [hno, Bool.false_and]
    exact Z4l
  have hjh : (jobsR i.jobs && heldR i.table) = true := by simpa only [Bool.not_eq_false'] using hc
  rw [hjh, Bool.true_and]
  rw [Bool.and_eq_true] at hjh
  obtain ⟨hjr, hhr⟩ := hjh
  have hps := heldR_sorted hhr
  clear hc
  refine Z8 ?_
  refine Z1d ?_
  refine aw_loop (G := Nat) (fun k => k ≤ i.jobs.length ∧ ∀ m, m < k → itoldB i m = true) (fun k => [(1, .pt (Lid H.length 0) 0 0 0), (3, .int .i64 (runs (i.jobs.take k) : Int)), (4, .int .i64 (k : Int))]) (fun _ => H ++ [⟨0, 9, [eInst i]⟩]) (fun k => i.jobs.length - k) 0 ⟨Nat.zero_le _, fun m hm => by omega⟩ (by repeat (first | exact Sub.nil | refine Sub.cons (by first | rfl | (simp [get]; done)) ?_)) (Fit.refl _ _) ?_
  rintro k ⟨hk, hno⟩
  have hbel : ∀ (b : Nat), ∀ o ∈ [AObj.mk 0 9 [eInst i]], ∀ r ∈ o.rows, AV.bels b r = true := by
    intro b o ho r hr
    simp only [List.mem_singleton] at ho
    subst ho
    simp only [List.mem_singleton] at hr
    subst hr
    rfl
  refine Z59 ?_
  refine Z1e ?_
  refine aw_cond rfl (fun hc => ?_) (fun hc => ?_)
  · have hlt : k < i.jobs.length := by simpa using hc
    obtain ⟨j, hj, hjl⟩ := get_in hlt
    have hr := map_get eJob hj
    have hB2 := i16B_get hj hhr
    have hstep := runs_step hj
    have hrl := runs_le (i.jobs.take k)
    rw [List.length_take] at hrl
    have hno0 := hno
    have hat := hAt_sorted hps j.id
    have hsr : sright j.spec = true := by
      have := (jobs_iff.1 hjr).2.1 j hjl
      simp only [jright, Bool.and_eq_true] at this
      exact this.1.1.1.2
    rw [show sEnds j.spec j.frm = plus j.frm j.spec.long by rw [sEnds, if_pos hsr]] at hB2
    clear hno hc
    refine Zi3 ?_
    refine Zdg ?_
    refine ao1 (by decide) (w_loadRp rfl hr rfl) ?_
    refine Z6b ?_
    refine Z6g ?_
    refine Z6 ?_
    clear hr
    refine Z1 ?_
    refine aw_out 95 (.bool (!(decide (j.came ≤ i.now) && decide (j.frm ≤ i.now)))) ?_ ?_
    · refine Z5z ?_
      refine Z2j ?_
      refine Zj ?_
      refine ao_split rfl rfl (fun hg5 => ?_) (fun hg5 => ?_)
      · refine Z36 ?_
        refine Z3j ?_
        exact Zi4
      · refine Z2z ?_
        refine Z3b ?_
        refine Zn ?_
        exact Zi4
    refine Z1 ?_
    refine aw_cond rfl (fun hc => ?_) (fun hc => ?_)
    · have hbad : itoldB i k = false := by rw [Bool.not_eq_true'] at hc; rw [hB2, hc, Bool.false_and]
      refine Zh ?_
      rw [show itold i = false by rw [itold, allI_false hlt hbad, Bool.false_and]]
      exact Zd
    have h1 : (decide (j.came ≤ i.now) && decide (j.frm ≤ i.now)) = true := by simpa only [Bool.not_eq_false'] using hc
    rw [h1, Bool.true_and] at hB2
    clear hc
    refine Z3w ?_
    refine Z16 ?_
    refine aw_cond rfl (fun hc => ?_) (fun hc => ?_)
    · have h2 : j.state = 2 := by simpa using hc
      rw [if_pos (by simpa using h2)] at hstep
      rw [show decide (j.state ≠ 2) = false by simp [h2], Bool.false_or] at hB2
      clear hc
      refine Z10 ?_
      refine Zh7 ?_
      refine Z1a ?_
      refine Z4a ?_
      refine Z2w ?_
      refine ao_ret (ref10_At _ _ _ (by omega)) rfl (by decide) ?_
      refine Z3 ?_
      refine Z6 ?_
      rw [hat]
      by_cases hh : heldHit i.table j.id = true
      · rw [if_pos hh]
        rw [hh, Bool.true_and] at hB2
        have hpos : heldPos i.table j.id < i.table.length := by rw [heldHit, Bool.and_eq_true, decide_eq_true_eq] at hh; exact hh.1
        obtain ⟨h, hx, hxl⟩ := get_in hpos
        have hrh := map_get eHeld hx
        rw [heldAt_get hx] at hB2
        have hpn := hmay_pos ((held_iff.1 hhr).2.1 h hxl)
        have hlt2 := w3.2 h hxl
        obtain ⟨x, hy, _⟩ := get_in (l := h.things) (k := h.things.length - 1) (by omega)
        have hrx := map_get eI hy
        rw [show h.things.getD (h.things.length - 1) 0 = x by rw [List.getD_eq_getElem?_getD, hy]; rfl] at hB2
        clear hat hh hj hjl hps hx hxl
        refine Z1n ?_
        refine aw_cond rfl (fun hc => ?_) (fun hc => ?_)
        · exfalso; simp at hc; omega
        clear hc
        refine Zi3 ?_
        refine ao1 (by decide) (w_indexAddrpN rfl rfl hrh rfl) ?_
        refine ao1 (by decide) (w_loadRp rfl hrh rfl) ?_
        refine Z75 ?_
        refine Zbt ?_
        refine Z6 ?_
        clear hrh hy
        refine Z1 ?_
        refine aw_of_out 149 (.bool (!itoldB i k)) ?_ ?_
        · refine Zh8 ?_
          refine Z1f ?_
          refine Z5a ?_
          refine Z9x ?_
          refine Zi5 ?_
          refine Zi6 ?_
          refine aq0 4 rfl (by decide +kernel) (by decide) (fun _ => o_ne rfl rfl) ?_
          refine Z8j ?_
          refine aq_split (g := 118) rfl (fun hg5 => ?_) (fun hg5 => ?_)
          · refine aqn0 (g := 118) 6 rfl (by decide +kernel) (by decide) rfl rfl rfl ?_
            refine aqn0 (g := 118) 7 rfl (by decide +kernel) (by decide) rfl rfl rfl ?_
            refine aqn0 (g := 118) 8 rfl (by decide +kernel) (by decide) rfl rfl rfl ?_
            refine aqn0 (g := 118) 9 rfl (by decide +kernel) (by decide) rfl rfl rfl ?_
            refine aqn0 (g := 118) 10 rfl (by decide +kernel) (by decide) rfl rfl rfl ?_
            refine aqn0 (g := 118) 11 rfl (by decide +kernel) (by decide) rfl rfl rfl ?_
            refine aqn0 (g := 118) 12 rfl (by decide +kernel) (by decide) rfl rfl rfl ?_
            refine aqn0 (g := 118) 13 rfl (by decide +kernel) (by decide) rfl rfl rfl ?_
            refine aqn0 (g := 118) 14 rfl (by decide +kernel) (by decide) rfl rfl rfl ?_
            refine Z5e ?_
            refine Z5f ?_
            refine Zi7 ?_
            refine Zi8 ?_
            refine Zi9 ?_
            refine Zia ?_
            refine Zib ?_
            refine Zic ?_
            refine Zid ?_
            refine Zie ?_
            refine Zif ?_
            refine Zig ?_
            refine Zih ?_
            refine Zii ?_
            refine Zij ?_
            refine Zik ?_
            refine Zil ?_
            refine Zim ?_
            refine Zin ?_
            refine Zio ?_
            refine Zip ?_
            refine Zas ?_
            exact Ziq
          · first | refine aqyp (g := 118) 6 rfl (by decide +kernel) (by decide) rfl rfl (fun G => w_fieldAddr rfl (lk rfl rfl) rfl (by decide)) ?_ | refine aqyp (g := 118) 6 rfl (by decide +kernel) (by decide) rfl rfl (fun G => w_fieldAddrp rfl (by decide)) ?_ | refine aqyp (g := 118) 6 rfl (by decide +kernel) (by decide) rfl rfl (fun G => w_fieldAddr rfl (lkF hF) rfl (by decide)) ?_
            first | refine aqyp (g := 118) 7 rfl (by decide +kernel) (by decide) rfl rfl (fun G => w_load1 (v := .int _ _) rfl (lk rfl rfl) rfl rfl rfl) ?_ | refine aqyp (g := 118) 7 rfl (by decide +kernel) (by decide) rfl rfl (fun G => w_load1 (v := .int _ _) rfl (lk rfl rfl) rfl (zadd hr) rfl) ?_ | refine aqyp (g := 118) 7 rfl (by decide +kernel) (by decide) rfl rfl (fun G => w_load1 (v := .int _ _) rfl (lk rfl rfl) rfl (zadd hr1) rfl) ?_ | refine aqyp (g := 118) 7 rfl (by decide +kernel) (by decide) rfl rfl (fun G => w_load1 (v := .int _ _) rfl (lk rfl rfl) rfl (zadd hr2) rfl) ?_ | refine aqyp (g := 118) 7 rfl (by decide +kernel) (by decide) rfl rfl (fun G => o_load1p (v := .int _ _) rfl hr rfl) ?_ | refine aqyp (g := 118) 7 rfl (by decide +kernel) (by decide) rfl rfl (fun G => o_load1p (v := .int _ _) rfl hr1 rfl) ?_ | refine aqyp (g := 118) 7 rfl (by decide +kernel) (by decide) rfl rfl (fun G => o_load1p (v := .int _ _) rfl hr2 rfl) ?_ | refine aqyp (g := 118) 7 rfl (by decide +kernel) (by decide) rfl rfl (fun G => w_load1 (v := .int _ _) rfl (lkF hF) rfl rfl rfl) ?_
            first | refine aqyp (g := 118) 8 rfl (by decide +kernel) (by decide) rfl rfl (fun G => w_fieldAddr rfl (lk rfl rfl) rfl (by decide)) ?_ | refine aqyp (g := 118) 8 rfl (by decide +kernel) (by decide) rfl rfl (fun G => w_fieldAddrp rfl (by decide)) ?_ | refine aqyp (g := 118) 8 rfl (by decide +kernel) (by decide) rfl rfl (fun G => w_fieldAddr rfl (lkF hF) rfl (by decide)) ?_
            first | refine aqyp (g := 118) 9 rfl (by decide +kernel) (by decide) rfl rfl (fun G => w_load1 (v := .int _ _) rfl (lk rfl rfl) rfl rfl rfl) ?_ | refine aqyp (g := 118) 9 rfl (by decide +kernel) (by decide) rfl rfl (fun G => w_load1 (v := .int _ _) rfl (lk rfl rfl) rfl (zadd hr) rfl) ?_ | refine aqyp (g := 118) 9 rfl (by decide +kernel) (by decide) rfl rfl (fun G => w_load1 (v := .int _ _) rfl (lk rfl rfl) rfl (zadd hr1) rfl) ?_ | refine aqyp (g := 118) 9 rfl (by decide +kernel) (by decide) rfl rfl (fun G => w_load1 (v := .int _ _) rfl (lk rfl rfl) rfl (zadd hr2) rfl) ?_ | refine aqyp (g := 118) 9 rfl (by decide +kernel) (by decide) rfl rfl (fun G => o_load1p (v := .int _ _) rfl hr rfl) ?_ | refine aqyp (g := 118) 9 rfl (by decide +kernel) (by decide) rfl rfl (fun G => o_load1p (v := .int _ _) rfl hr1 rfl) ?_ | refine aqyp (g := 118) 9 rfl (by decide +kernel) (by decide) rfl rfl (fun G => o_load1p (v := .int _ _) rfl hr2 rfl) ?_ | refine aqyp (g := 118) 9 rfl (by decide +kernel) (by decide) rfl rfl (fun G => w_load1 (v := .int _ _) rfl (lkF hF) rfl rfl rfl) ?_
            first | refine aqyp (g := 118) 10 rfl (by decide +kernel) (by decide) rfl rfl (fun G => w_fieldAddr rfl (lk rfl rfl) rfl (by decide)) ?_ | refine aqyp (g := 118) 10 rfl (by decide +kernel) (by decide) rfl rfl (fun G => w_fieldAddrp rfl (by decide)) ?_ | refine aqyp (g := 118) 10 rfl (by decide +kernel) (by decide) rfl rfl (fun G => w_fieldAddr rfl (lkF hF) rfl (by decide)) ?_
            first | refine aqyp (g := 118) 11 rfl (by decide +kernel) (by decide) rfl rfl (fun G => w_fieldAddr rfl (lk rfl rfl) rfl (by decide)) ?_ | refine aqyp (g := 118) 11 rfl (by decide +kernel) (by decide) rfl rfl (fun G => w_fieldAddrp rfl (by decide)) ?_ | refine aqyp (g := 118) 11 rfl (by decide +kernel) (by decide) rfl rfl (fun G => w_fieldAddr rfl (lkF hF) rfl (by decide)) ?_
            first | refine aqyp (g := 118) 12 rfl (by decide +kernel) (by decide) rfl rfl (fun G => w_load1 (v := .int _ _) rfl (lk rfl rfl) rfl rfl rfl) ?_ | refine aqyp (g := 118) 12 rfl (by decide +kernel) (by decide) rfl rfl (fun G => w_load1 (v := .int _ _) rfl (lk rfl rfl) rfl (zadd hr) rfl) ?_ | refine aqyp (g := 118) 12 rfl (by decide +kernel) (by decide) rfl rfl (fun G => w_load1 (v := .int _ _) rfl (lk rfl rfl) rfl (zadd hr1) rfl) ?_ | refine aqyp (g := 118) 12 rfl (by decide +kernel) (by decide) rfl rfl (fun G => w_load1 (v := .int _ _) rfl (lk rfl rfl) rfl (zadd hr2) rfl) ?_ | refine aqyp (g := 118) 12 rfl (by decide +kernel) (by decide) rfl rfl (fun G => o_load1p (v := .int _ _) rfl hr rfl) ?_ | refine aqyp (g := 118) 12 rfl (by decide +kernel) (by decide) rfl rfl (fun G => o_load1p (v := .int _ _) rfl hr1 rfl) ?_ | refine aqyp (g := 118) 12 rfl (by decide +kernel) (by decide) rfl rfl (fun G => o_load1p (v := .int _ _) rfl hr2 rfl) ?_ | refine aqyp (g := 118) 12 rfl (by decide +kernel) (by decide) rfl rfl (fun G => w_load1 (v := .int _ _) rfl (lkF hF) rfl rfl rfl) ?_
            refine aqy02 (g := 118) 13 rfl (by decide +kernel) (by decide) rfl rfl (fun _ => V2.call (ref02_Plus _ _ _) rfl) ?_
            refine aqy0 (g := 118) 14 rfl (by decide +kernel) (by decide) rfl rfl (fun _ => o_ne rfl rfl) ?_
            refine Z5e ?_
            refine Z5f ?_
            refine aq_split (g := 129) rfl (fun hg16 => ?_) (fun hg16 => ?_)
            · refine Zi7 ?_
              refine Zi8 ?_
              refine Zi9 ?_
              refine Zia ?_
              refine Zib ?_
              refine Zic ?_
              refine Zid ?_
              refine Zie ?_
              refine Zif ?_
              refine Zig ?_
              refine Zih ?_
              refine Zii ?_
              refine Zij ?_
              refine Zik ?_
              refine Zil ?_
              refine Zim ?_
              refine Zin ?_
              refine Zio ?_
              refine Zip ?_
              refine Zas ?_
              exact Ziq
            · first | refine aqyp (g := 129) 17 rfl (by decide +kernel) (by decide) rfl rfl (fun G => w_fieldAddr rfl (lk rfl rfl) rfl (by decide)) ?_ | refine aqyp (g := 129) 17 rfl (by decide +kernel) (by decide) rfl rfl (fun G => w_fieldAddrp rfl (by decide)) ?_ | refine aqyp (g := 129) 17 rfl (by decide +kernel) (by decide) rfl rfl (fun G => w_fieldAddr rfl (lkF hF) rfl (by decide)) ?_
              first | refine aqyp (g := 129) 18 rfl (by decide +kernel) (by decide) rfl rfl (fun G => w_load1 (v := .int _ _) rfl (lk rfl rfl) rfl rfl rfl) ?_ | refine aqyp (g := 129) 18 rfl (by decide +kernel) (by decide) rfl rfl (fun G => w_load1 (v := .int _ _) rfl (lk rfl rfl) rfl (zadd hr) rfl) ?_ | refine aqyp (g := 129) 18 rfl (by decide +kernel) (by decide) rfl rfl (fun G => w_load1 (v := .int _ _) rfl (lk rfl rfl) rfl (zadd hr1) rfl) ?_ | refine aqyp (g := 129) 18 rfl (by decide +kernel) (by decide) rfl rfl (fun G => w_load1 (v := .int _ _) rfl (lk rfl rfl) rfl (zadd hr2) rfl) ?_ | refine aqyp (g := 129) 18 rfl (by decide +kernel) (by decide) rfl rfl (fun G => o_load1p (v := .int _ _) rfl hr rfl) ?_ | refine aqyp (g := 129) 18 rfl (by decide +kernel) (by decide) rfl rfl (fun G => o_load1p (v := .int _ _) rfl hr1 rfl) ?_ | refine aqyp (g := 129) 18 rfl (by decide +kernel) (by decide) rfl rfl (fun G => o_load1p (v := .int _ _) rfl hr2 rfl) ?_ | refine aqyp (g := 129) 18 rfl (by decide +kernel) (by decide) rfl rfl (fun G => w_load1 (v := .int _ _) rfl (lkF hF) rfl rfl rfl) ?_
              first | refine aqyp (g := 129) 19 rfl (by decide +kernel) (by decide) rfl rfl (fun G => w_fieldAddr rfl (lk rfl rfl) rfl (by decide)) ?_ | refine aqyp (g := 129) 19 rfl (by decide +kernel) (by decide) rfl rfl (fun G => w_fieldAddrp rfl (by decide)) ?_ | refine aqyp (g := 129) 19 rfl (by decide +kernel) (by decide) rfl rfl (fun G => w_fieldAddr rfl (lkF hF) rfl (by decide)) ?_
              first | refine aqyp (g := 129) 20 rfl (by decide +kernel) (by decide) rfl rfl (fun G => w_load1 (v := .int _ _) rfl (lk rfl rfl) rfl rfl rfl) ?_ | refine aqyp (g := 129) 20 rfl (by decide +kernel) (by decide) rfl rfl (fun G => w_load1 (v := .int _ _) rfl (lk rfl rfl) rfl (zadd hr) rfl) ?_ | refine aqyp (g := 129) 20 rfl (by decide +kernel) (by decide) rfl rfl (fun G => w_load1 (v := .int _ _) rfl (lk rfl rfl) rfl (zadd hr1) rfl) ?_ | refine aqyp (g := 129) 20 rfl (by decide +kernel) (by decide) rfl rfl (fun G => w_load1 (v := .int _ _) rfl (lk rfl rfl) rfl (zadd hr2) rfl) ?_ | refine aqyp (g := 129) 20 rfl (by decide +kernel) (by decide) rfl rfl (fun G => o_load1p (v := .int _ _) rfl hr rfl) ?_ | refine aqyp (g := 129) 20 rfl (by decide +kernel) (by decide) rfl rfl (fun G => o_load1p (v := .int _ _) rfl hr1 rfl) ?_ | refine aqyp (g := 129) 20 rfl (by decide +kernel) (by decide) rfl rfl (fun G => o_load1p (v := .int _ _) rfl hr2 rfl) ?_ | refine aqyp (g := 129) 20 rfl (by decide +kernel) (by decide) rfl rfl (fun G => w_load1 (v := .int _ _) rfl (lkF hF) rfl rfl rfl) ?_
              refine aqy0 (g := 129) 21 rfl (by decide +kernel) (by decide) rfl rfl (fun _ => o_le rfl rfl) ?_
              refine Zic ?_
              refine Zid ?_
              refine aq_split (g := 136) rfl (fun hg23 => ?_) (fun hg23 => ?_)
              · refine Zie ?_
                refine Zif ?_
                refine Zig ?_
                refine Zih ?_
                refine Zii ?_
                refine Zij ?_
                refine Zik ?_
                refine Zil ?_
                refine Zim ?_
                refine Zin ?_
                refine Zio ?_
                refine Zip ?_
                refine Zas ?_
                exact Ziq
              · first | refine aqyp (g := 136) 24 rfl (by decide +kernel) (by decide) rfl rfl (fun G => w_fieldAddr rfl (lk rfl rfl) rfl (by decide)) ?_ | refine aqyp (g := 136) 24 rfl (by decide +kernel) (by decide) rfl rfl (fun G => w_fieldAddrp rfl (by decide)) ?_ | refine aqyp (g := 136) 24 rfl (by decide +kernel) (by decide) rfl rfl (fun G => w_fieldAddr rfl (lkF hF) rfl (by decide)) ?_
                first | refine aqyp (g := 136) 25 rfl (by decide +kernel) (by decide) rfl rfl (fun G => w_load1 (v := .sl _ _ _ _ _) rfl (lk rfl rfl) rfl rfl rfl) ?_ | refine aqyp (g := 136) 25 rfl (by decide +kernel) (by decide) rfl rfl (fun G => w_load1 (v := .pl _) rfl (lk rfl rfl) rfl rfl rfl) ?_ | refine aqyp (g := 136) 25 rfl (by decide +kernel) (by decide) rfl rfl (fun G => w_load1 (v := .nsl) rfl (lk rfl rfl) rfl rfl rfl) ?_ | refine aqyp (g := 136) 25 rfl (by decide +kernel) (by decide) rfl rfl (fun G => w_load1 (v := .sl _ _ _ _ _) rfl (lk rfl rfl) rfl (zadd hr) rfl) ?_ | refine aqyp (g := 136) 25 rfl (by decide +kernel) (by decide) rfl rfl (fun G => w_load1 (v := .sl _ _ _ _ _) rfl (lk rfl rfl) rfl (zadd hr1) rfl) ?_ | refine aqyp (g := 136) 25 rfl (by decide +kernel) (by decide) rfl rfl (fun G => w_load1 (v := .sl _ _ _ _ _) rfl (lk rfl rfl) rfl (zadd hr2) rfl) ?_ | refine aqyp (g := 136) 25 rfl (by decide +kernel) (by decide) rfl rfl (fun G => w_load1 (v := .pl _) rfl (lk rfl rfl) rfl (zadd hr) rfl) ?_ | refine aqyp (g := 136) 25 rfl (by decide +kernel) (by decide) rfl rfl (fun G => w_load1 (v := .pl _) rfl (lk rfl rfl) rfl (zadd hr1) rfl) ?_ | refine aqyp (g := 136) 25 rfl (by decide +kernel) (by decide) rfl rfl (fun G => w_load1 (v := .pl _) rfl (lk rfl rfl) rfl (zadd hr2) rfl) ?_ | refine aqyp (g := 136) 25 rfl (by decide +kernel) (by decide) rfl rfl (fun G => w_load1 (v := .nsl) rfl (lk rfl rfl) rfl (zadd hr) rfl) ?_ | refine aqyp (g := 136) 25 rfl (by decide +kernel) (by decide) rfl rfl (fun G => w_load1 (v := .nsl) rfl (lk rfl rfl) rfl (zadd hr1) rfl) ?_ | refine aqyp (g := 136) 25 rfl (by decide +kernel) (by decide) rfl rfl (fun G => w_load1 (v := .nsl) rfl (lk rfl rfl) rfl (zadd hr2) rfl) ?_ | refine aqyp (g := 136) 25 rfl (by decide +kernel) (by decide) rfl rfl (fun G => o_load1p (v := .sl _ _ _ _ _) rfl hr rfl) ?_ | refine aqyp (g := 136) 25 rfl (by decide +kernel) (by decide) rfl rfl (fun G => o_load1p (v := .sl _ _ _ _ _) rfl hr1 rfl) ?_ | refine aqyp (g := 136) 25 rfl (by decide +kernel) (by decide) rfl rfl (fun G => o_load1p (v := .sl _ _ _ _ _) rfl hr2 rfl) ?_ | refine aqyp (g := 136) 25 rfl (by decide +kernel) (by decide) rfl rfl (fun G => o_load1p (v := .pl _) rfl hr rfl) ?_ | refine aqyp (g := 136) 25 rfl (by decide +kernel) (by decide) rfl rfl (fun G => o_load1p (v := .pl _) rfl hr1 rfl) ?_ | refine aqyp (g := 136) 25 rfl (by decide +kernel) (by decide) rfl rfl (fun G => o_load1p (v := .pl _) rfl hr2 rfl) ?_ | refine aqyp (g := 136) 25 rfl (by decide +kernel) (by decide) rfl rfl (fun G => o_load1p (v := .nsl) rfl hr rfl) ?_ | refine aqyp (g := 136) 25 rfl (by decide +kernel) (by decide) rfl rfl (fun G => o_load1p (v := .nsl) rfl hr1 rfl) ?_ | refine aqyp (g := 136) 25 rfl (by decide +kernel) (by decide) rfl rfl (fun G => o_load1p (v := .nsl) rfl hr2 rfl) ?_ | refine aqyp (g := 136) 25 rfl (by decide +kernel) (by decide) rfl rfl (fun G => w_load1 (v := .sl _ _ _ _ _) rfl (lkF hF) rfl rfl rfl) ?_ | refine aqyp (g := 136) 25 rfl (by decide +kernel) (by decide) rfl rfl (fun G => w_load1 (v := .pl _) rfl (lkF hF) rfl rfl rfl) ?_ | refine aqyp (g := 136) 25 rfl (by decide +kernel) (by decide) rfl rfl (fun G => w_load1 (v := .nsl) rfl (lkF hF) rfl rfl rfl) ?_
                first | refine aqyp (g := 136) 26 rfl (by decide +kernel) (by decide) rfl rfl (fun G => w_fieldAddr rfl (lk rfl rfl) rfl (by decide)) ?_ | refine aqyp (g := 136) 26 rfl (by decide +kernel) (by decide) rfl rfl (fun G => w_fieldAddrp rfl (by decide)) ?_ | refine aqyp (g := 136) 26 rfl (by decide +kernel) (by decide) rfl rfl (fun G => w_fieldAddr rfl (lkF hF) rfl (by decide)) ?_
                first | refine aqyp (g := 136) 27 rfl (by decide +kernel) (by decide) rfl rfl (fun G => w_load1 (v := .sl _ _ _ _ _) rfl (lk rfl rfl) rfl rfl rfl) ?_ | refine aqyp (g := 136) 27 rfl (by decide +kernel) (by decide) rfl rfl (fun G => w_load1 (v := .pl _) rfl (lk rfl rfl) rfl rfl rfl) ?_ | refine aqyp (g := 136) 27 rfl (by decide +kernel) (by decide) rfl rfl (fun G => w_load1 (v := .nsl) rfl (lk rfl rfl) rfl rfl rfl) ?_ | refine aqyp (g := 136) 27 rfl (by decide +kernel) (by decide) rfl rfl (fun G => w_load1 (v := .sl _ _ _ _ _) rfl (lk rfl rfl) rfl (zadd hr) rfl) ?_ | refine aqyp (g := 136) 27 rfl (by decide +kernel) (by decide) rfl rfl (fun G => w_load1 (v := .sl _ _ _ _ _) rfl (lk rfl rfl) rfl (zadd hr1) rfl) ?_ | refine aqyp (g := 136) 27 rfl (by decide +kernel) (by decide) rfl rfl (fun G => w_load1 (v := .sl _ _ _ _ _) rfl (lk rfl rfl) rfl (zadd hr2) rfl) ?_ | refine aqyp (g := 136) 27 rfl (by decide +kernel) (by decide) rfl rfl (fun G => w_load1 (v := .pl _) rfl (lk rfl rfl) rfl (zadd hr) rfl) ?_ | refine aqyp (g := 136) 27 rfl (by decide +kernel) (by decide) rfl rfl (fun G => w_load1 (v := .pl _) rfl (lk rfl rfl) rfl (zadd hr1) rfl) ?_ | refine aqyp (g := 136) 27 rfl (by decide +kernel) (by decide) rfl rfl (fun G => w_load1 (v := .pl _) rfl (lk rfl rfl) rfl (zadd hr2) rfl) ?_ | refine aqyp (g := 136) 27 rfl (by decide +kernel) (by decide) rfl rfl (fun G => w_load1 (v := .nsl) rfl (lk rfl rfl) rfl (zadd hr) rfl) ?_ | refine aqyp (g := 136) 27 rfl (by decide +kernel) (by decide) rfl rfl (fun G => w_load1 (v := .nsl) rfl (lk rfl rfl) rfl (zadd hr1) rfl) ?_ | refine aqyp (g := 136) 27 rfl (by decide +kernel) (by decide) rfl rfl (fun G => w_load1 (v := .nsl) rfl (lk rfl rfl) rfl (zadd hr2) rfl) ?_ | refine aqyp (g := 136) 27 rfl (by decide +kernel) (by decide) rfl rfl (fun G => o_load1p (v := .sl _ _ _ _ _) rfl hr rfl) ?_ | refine aqyp (g := 136) 27 rfl (by decide +kernel) (by decide) rfl rfl (fun G => o_load1p (v := .sl _ _ _ _ _) rfl hr1 rfl) ?_ | refine aqyp (g := 136) 27 rfl (by decide +kernel) (by decide) rfl rfl (fun G => o_load1p (v := .sl _ _ _ _ _) rfl hr2 rfl) ?_ | refine aqyp (g := 136) 27 rfl (by decide +kernel) (by decide) rfl rfl (fun G => o_load1p (v := .pl _) rfl hr rfl) ?_ | refine aqyp (g := 136) 27 rfl (by decide +kernel) (by decide) rfl rfl (fun G => o_load1p (v := .pl _) rfl hr1 rfl) ?_ | refine aqyp (g := 136) 27 rfl (by decide +kernel) (by decide) rfl rfl (fun G => o_load1p (v := .pl _) rfl hr2 rfl) ?_ | refine aqyp (g := 136) 27 rfl (by decide +kernel) (by decide) rfl rfl (fun G => o_load1p (v := .nsl) rfl hr rfl) ?_ | refine aqyp (g := 136) 27 rfl (by decide +kernel) (by decide) rfl rfl (fun G => o_load1p (v := .nsl) rfl hr1 rfl) ?_ | refine aqyp (g := 136) 27 rfl (by decide +kernel) (by decide) rfl rfl (fun G => o_load1p (v := .nsl) rfl hr2 rfl) ?_ | refine aqyp (g := 136) 27 rfl (by decide +kernel) (by decide) rfl rfl (fun G => w_load1 (v := .sl _ _ _ _ _) rfl (lkF hF) rfl rfl rfl) ?_ | refine aqyp (g := 136) 27 rfl (by decide +kernel) (by decide) rfl rfl (fun G => w_load1 (v := .pl _) rfl (lkF hF) rfl rfl rfl) ?_ | refine aqyp (g := 136) 27 rfl (by decide +kernel) (by decide) rfl rfl (fun G => w_load1 (v := .nsl) rfl (lkF hF) rfl rfl rfl) ?_
                first | refine aqyp (g := 136) 28 rfl (by decide +kernel) (by decide) rfl rfl (fun G => o_lenp rfl) ?_ | refine aqyp (g := 136) 28 rfl (by decide +kernel) (by decide) rfl rfl (fun G => w_lens rfl (lk rfl rfl) rfl) ?_ | refine aqyp (g := 136) 28 rfl (by decide +kernel) (by decide) rfl rfl (fun G => o_lenn rfl) ?_ | refine aqyp (g := 136) 28 rfl (by decide +kernel) (by decide) rfl rfl (fun G => o_lenStr rfl) ?_ | refine aqyp (g := 136) 28 rfl (by decide +kernel) (by decide) rfl rfl (fun G => w_lens rfl (lkF hF) rfl) ?_
                refine aqy0 (g := 136) 29 rfl (by decide +kernel) (by decide) rfl rfl (fun _ => o_sub (r := ((h.things.length - 1 : Nat) : Int)) rfl rfl (by rw [List.length_map, show (h.things.length : Int) - 1 = ((h.things.length - 1 : Nat) : Int) by omega]; exact wrap64_ok (by omega) (by omega))) ?_
                refine aqyp (g := 136) 30 rfl (by decide +kernel) (by decide) rfl rfl (fun G => w_indexAddrpN rfl rfl hrx rfl) ?_
                refine aqyp (g := 136) 31 rfl (by decide +kernel) (by decide) rfl rfl (fun G => o_load1p (v := .int _ _) rfl hrx rfl) ?_
                first | refine aqyp (g := 136) 32 rfl (by decide +kernel) (by decide) rfl rfl (fun G => w_fieldAddr rfl (lk rfl rfl) rfl (by decide)) ?_ | refine aqyp (g := 136) 32 rfl (by decide +kernel) (by decide) rfl rfl (fun G => w_fieldAddrp rfl (by decide)) ?_ | refine aqyp (g := 136) 32 rfl (by decide +kernel) (by decide) rfl rfl (fun G => w_fieldAddr rfl (lkF hF) rfl (by decide)) ?_
                first | refine aqyp (g := 136) 33 rfl (by decide +kernel) (by decide) rfl rfl (fun G => w_load1 (v := .sl _ _ _ _ _) rfl (lk rfl rfl) rfl rfl rfl) ?_ | refine aqyp (g := 136) 33 rfl (by decide +kernel) (by decide) rfl rfl (fun G => w_load1 (v := .pl _) rfl (lk rfl rfl) rfl rfl rfl) ?_ | refine aqyp (g := 136) 33 rfl (by decide +kernel) (by decide) rfl rfl (fun G => w_load1 (v := .nsl) rfl (lk rfl rfl) rfl rfl rfl) ?_ | refine aqyp (g := 136) 33 rfl (by decide +kernel) (by decide) rfl rfl (fun G => w_load1 (v := .sl _ _ _ _ _) rfl (lk rfl rfl) rfl (zadd hr) rfl) ?_ | refine aqyp (g := 136) 33 rfl (by decide +kernel) (by decide) rfl rfl (fun G => w_load1 (v := .sl _ _ _ _ _) rfl (lk rfl rfl) rfl (zadd hr1) rfl) ?_ | refine aqyp (g := 136) 33 rfl (by decide +kernel) (by decide) rfl rfl (fun G => w_load1 (v := .sl _ _ _ _ _) rfl (lk rfl rfl) rfl (zadd hr2) rfl) ?_ | refine aqyp (g := 136) 33 rfl (by decide +kernel) (by decide) rfl rfl (fun G => w_load1 (v := .pl _) rfl (lk rfl rfl) rfl (zadd hr) rfl) ?_ | refine aqyp (g := 136) 33 rfl (by decide +kernel) (by decide) rfl rfl (fun G => w_load1 (v := .pl _) rfl (lk rfl rfl) rfl (zadd hr1) rfl) ?_ | refine aqyp (g := 136) 33 rfl (by decide +kernel) (by decide) rfl rfl (fun G => w_load1 (v := .pl _) rfl (lk rfl rfl) rfl (zadd hr2) rfl) ?_ | refine aqyp (g := 136) 33 rfl (by decide +kernel) (by decide) rfl rfl (fun G => w_load1 (v := .nsl) rfl (lk rfl rfl) rfl (zadd hr) rfl) ?_ | refine aqyp (g := 136) 33 rfl (by decide +kernel) (by decide) rfl rfl (fun G => w_load1 (v := .nsl) rfl (lk rfl rfl) rfl (zadd hr1) rfl) ?_ | refine aqyp (g := 136) 33 rfl (by decide +kernel) (by decide) rfl rfl (fun G => w_load1 (v := .nsl) rfl (lk rfl rfl) rfl (zadd hr2) rfl) ?_ | refine aqyp (g := 136) 33 rfl (by decide +kernel) (by decide) rfl rfl (fun G => o_load1p (v := .sl _ _ _ _ _) rfl hr rfl) ?_ | refine aqyp (g := 136) 33 rfl (by decide +kernel) (by decide) rfl rfl (fun G => o_load1p (v := .sl _ _ _ _ _) rfl hr1 rfl) ?_ | refine aqyp (g := 136) 33 rfl (by decide +kernel) (by decide) rfl rfl (fun G => o_load1p (v := .sl _ _ _ _ _) rfl hr2 rfl) ?_ | refine aqyp (g := 136) 33 rfl (by decide +kernel) (by decide) rfl rfl (fun G => o_load1p (v := .pl _) rfl hr rfl) ?_ | refine aqyp (g := 136) 33 rfl (by decide +kernel) (by decide) rfl rfl (fun G => o_load1p (v := .pl _) rfl hr1 rfl) ?_ | refine aqyp (g := 136) 33 rfl (by decide +kernel) (by decide) rfl rfl (fun G => o_load1p (v := .pl _) rfl hr2 rfl) ?_ | refine aqyp (g := 136) 33 rfl (by decide +kernel) (by decide) rfl rfl (fun G => o_load1p (v := .nsl) rfl hr rfl) ?_ | refine aqyp (g := 136) 33 rfl (by decide +kernel) (by decide) rfl rfl (fun G => o_load1p (v := .nsl) rfl hr1 rfl) ?_ | refine aqyp (g := 136) 33 rfl (by decide +kernel) (by decide) rfl rfl (fun G => o_load1p (v := .nsl) rfl hr2 rfl) ?_ | refine aqyp (g := 136) 33 rfl (by decide +kernel) (by decide) rfl rfl (fun G => w_load1 (v := .sl _ _ _ _ _) rfl (lkF hF) rfl rfl rfl) ?_ | refine aqyp (g := 136) 33 rfl (by decide +kernel) (by decide) rfl rfl (fun G => w_load1 (v := .pl _) rfl (lkF hF) rfl rfl rfl) ?_ | refine aqyp (g := 136) 33 rfl (by decide +kernel) (by decide) rfl rfl (fun G => w_load1 (v := .nsl) rfl (lkF hF) rfl rfl rfl) ?_
                first | refine aqyp (g := 136) 34 rfl (by decide +kernel) (by decide) rfl rfl (fun G => o_lenp rfl) ?_ | refine aqyp (g := 136) 34 rfl (by decide +kernel) (by decide) rfl rfl (fun G => w_lens rfl (lk rfl rfl) rfl) ?_ | refine aqyp (g := 136) 34 rfl (by decide +kernel) (by decide) rfl rfl (fun G => o_lenn rfl) ?_ | refine aqyp (g := 136) 34 rfl (by decide +kernel) (by decide) rfl rfl (fun G => o_lenStr rfl) ?_ | refine aqyp (g := 136) 34 rfl (by decide +kernel) (by decide) rfl rfl (fun G => w_lens rfl (lkF hF) rfl) ?_
                refine aqy0 (g := 136) 35 rfl (by decide +kernel) (by decide) rfl rfl (fun _ => o_ge rfl rfl) ?_
                refine Zas ?_
                exact Ziq
        refine Z1 ?_
        refine aw_cond rfl (fun hc => ?_) (fun hc => ?_)
        · have hbad : itoldB i k = false := by simpa only [Bool.not_eq_true'] using hc
          refine Zh ?_
          rw [show itold i = false by rw [itold, allI_false hlt hbad, Bool.false_and]]
          exact Zd
        · have hgood : itoldB i k = true := by simpa only [Bool.not_eq_false'] using hc
          refine Z2f ?_
          refine ⟨k + 1, by omega, ⟨by omega, fun m hm => ?_⟩, by rw [hstep]; exact (by repeat (first | exact Sub.nil | refine Sub.cons (by first | rfl | (simp [get]; done)) ?_)), Fit.loc hB rfl (by repeat (first | exact EBel.nil | refine EBel.cons (by first | rfl | (simp [AV.bel, AV.bels, Lid]; done) | (simp [AV.bel, AV.bels, Lid]; omega)) ?_)) (hbel _)⟩
          rcases Nat.lt_or_eq_of_le (Nat.le_of_lt_succ hm) with h | h
          · exact hno0 m h
          · subst h; exact hgood
      · have hh' : heldHit i.table j.id = false := by simpa using hh
        rw [if_neg hh]
        have hbad : itoldB i k = false := by rw [hB2, hh']; simp
        refine Z1n ?_
        refine aw_cond rfl (fun hc => ?_) (fun hc => ?_)
        · refine Zh ?_
          rw [show itold i = false by rw [itold, allI_false hlt hbad, Bool.false_and]]
          exact Zd
        · exfalso; simp at hc
    · have h2 : j.state ≠ 2 := by simpa using hc
      rw [decide_eq_true h2, Bool.true_or] at hB2
      rw [if_neg (by simpa using h2), Nat.add_zero] at hstep
      refine Z2f ?_
      refine ⟨k + 1, by omega, ⟨by omega, fun m hm => ?_⟩, by rw [hstep]; exact (by repeat (first | exact Sub.nil | refine Sub.cons (by first | rfl | (simp [get]; done)) ?_)), Fit.loc hB rfl (by repeat (first | exact EBel.nil | refine EBel.cons (by first | rfl | (simp [AV.bel, AV.bels, Lid]; done) | (simp [AV.bel, AV.bels, Lid]; omega)) ?_)) (hbel _)⟩
      rcases Nat.lt_or_eq_of_le (Nat.le_of_lt_succ hm) with h | h
      · exact hno0 m h
      · subst h; exact hB2
  · have : k = i.jobs.length := by simp at hc; omega
    subst this
    refine Z59 ?_
    refine Z12 ?_
    rw [List.take_length, show itold i = decide (runs i.jobs = i.table.length) by rw [itold, allI_true hno, Bool.true_and]; rfl]
    exact Zhx
end Go.Av

namespace Go.Av
open Go.Proofs
set_option maxRecDepth 10000
set_option linter.unusedSimpArgs false
set_option linter.unusedVariables false

theorem worker_usable (w : Inst) (id : Nat) (H : Heap) (hw : IW w) (hid : H[id]? = some ⟨0, 9, [eInst w]⟩) : ACT Tryz.prog KD 67 [.pt id 0 0 0] H (Ret (.pl ((iusable w).map eInt)) H) := by
  have hF := hid
  have w1 := hw.graph
  have w4 := hw.health
  have w5 := hw.lease
  have hbl := hbelow_le w.graph w.health 0
  refine ACT.body (N := 20) [.tmp 2] Tryz.func67 rfl rfl rfl (Nat.le_of_ble_eq_true rfl) fun B hB => ?_
  refine Z40 ?_
  refine Zb ?_
  refine Z9w ?_
  refine Zir ?_
  first | refine aqp 1 rfl (by decide +kernel) (by decide) (fun G => w_nilCheck rfl (lk rfl rfl) rfl) ?_ | refine aqp 1 rfl (by decide +kernel) (by decide) (fun G => w_nilCheck rfl (lkF hF) rfl) ?_ | refine aqp 1 rfl (by decide +kernel) (by decide) (fun G => o_nilCheckp rfl) ?_
  refine Zi5 ?_
  first | refine aqp 3 rfl (by decide +kernel) (by decide) (fun G => w_fieldAddr rfl (lk rfl rfl) rfl (by decide)) ?_ | refine aqp 3 rfl (by decide +kernel) (by decide) (fun G => w_fieldAddrp rfl (by decide)) ?_ | refine aqp 3 rfl (by decide +kernel) (by decide) (fun G => w_fieldAddr rfl (lkF hF) rfl (by decide)) ?_
  first | refine aqp 4 rfl (by decide +kernel) (by decide) (fun G => w_load1 (v := .sl _ _ _ _ _) rfl (lk rfl rfl) rfl rfl rfl) ?_ | refine aqp 4 rfl (by decide +kernel) (by decide) (fun G => w_load1 (v := .pl _) rfl (lk rfl rfl) rfl rfl rfl) ?_ | refine aqp 4 rfl (by decide +kernel) (by decide) (fun G => w_load1 (v := .nsl) rfl (lk rfl rfl) rfl rfl rfl) ?_ | refine aqp 4 rfl (by decide +kernel) (by decide) (fun G => w_load1 (v := .sl _ _ _ _ _) rfl (lk rfl rfl) rfl (zadd hr) rfl) ?_ | refine aqp 4 rfl (by decide +kernel) (by decide) (fun G => w_load1 (v := .sl _ _ _ _ _) rfl (lk rfl rfl) rfl (zadd hr1) rfl) ?_ | refine aqp 4 rfl (by decide +kernel) (by decide) (fun G => w_load1 (v := .sl _ _ _ _ _) rfl (lk rfl rfl) rfl (zadd hr2) rfl) ?_ | refine aqp 4 rfl (by decide +kernel) (by decide) (fun G => w_load1 (v := .pl _) rfl (lk rfl rfl) rfl (zadd hr) rfl) ?_ | refine aqp 4 rfl (by decide +kernel) (by decide) (fun G => w_load1 (v := .pl _) rfl (lk rfl rfl) rfl (zadd hr1) rfl) ?_ | refine aqp 4 rfl (by decide +kernel) (by decide) (fun G => w_load1 (v := .pl _) rfl (lk rfl rfl) rfl (zadd hr2) rfl) ?_ | refine aqp 4 rfl (by decide +kernel) (by decide) (fun G => w_load1 (v := .nsl) rfl (lk rfl rfl) rfl (zadd hr) rfl) ?_ | refine aqp 4 rfl (by decide +kernel) (by decide) (fun G => w_load1 (v := .nsl) rfl (lk rfl rfl) rfl (zadd hr1) rfl) ?_ | refine aqp 4 rfl (by decide +kernel) (by decide) (fun G => w_load1 (v := .nsl) rfl (lk rfl rfl) rfl (zadd hr2) rfl) ?_ | refine aqp 4 rfl (by decide +kernel) (by decide) (fun G => o_load1p (v := .sl _ _ _ _ _) rfl hr rfl) ?_ | refine aqp 4 rfl (by decide +kernel) (by decide) (fun G => o_load1p (v := .sl _ _ _ _ _) rfl hr1 rfl) ?_ | refine aqp 4 rfl (by decide +kernel) (by decide) (fun G => o_load1p (v := .sl _ _ _ _ _) rfl hr2 rfl) ?_ | refine aqp 4 rfl (by decide +kernel) (by decide) (fun G => o_load1p (v := .pl _) rfl hr rfl) ?_ | refine aqp 4 rfl (by decide +kernel) (by decide) (fun G => o_load1p (v := .pl _) rfl hr1 rfl) ?_ | refine aqp 4 rfl (by decide +kernel) (by decide) (fun G => o_load1p (v := .pl _) rfl hr2 rfl) ?_ | refine aqp 4 rfl (by decide +kernel) (by decide) (fun G => o_load1p (v := .nsl) rfl hr rfl) ?_ | refine aqp 4 rfl (by decide +kernel) (by decide) (fun G => o_load1p (v := .nsl) rfl hr1 rfl) ?_ | refine aqp 4 rfl (by decide +kernel) (by decide) (fun G => o_load1p (v := .nsl) rfl hr2 rfl) ?_ | refine aqp 4 rfl (by decide +kernel) (by decide) (fun G => w_load1 (v := .sl _ _ _ _ _) rfl (lkF hF) rfl rfl rfl) ?_ | refine aqp 4 rfl (by decide +kernel) (by decide) (fun G => w_load1 (v := .pl _) rfl (lkF hF) rfl rfl rfl) ?_ | refine aqp 4 rfl (by decide +kernel) (by decide) (fun G => w_load1 (v := .nsl) rfl (lkF hF) rfl rfl rfl) ?_
  first | refine aq0 5 rfl (by decide +kernel) (by decide) (fun _ => o_move (v := .pt _ _ _ _) rfl) ?_ | refine aq0 5 rfl (by decide +kernel) (by decide) (fun _ => o_move (v := .pp _ _ _) rfl) ?_ | refine aq0 5 rfl (by decide +kernel) (by decide) (fun _ => o_move (v := .nptr) rfl) ?_
  first | refine aqp 6 rfl (by decide +kernel) (by decide) (fun G => w_nilCheck rfl (lk rfl rfl) rfl) ?_ | refine aqp 6 rfl (by decide +kernel) (by decide) (fun G => w_nilCheck rfl (lkF hF) rfl) ?_ | refine aqp 6 rfl (by decide +kernel) (by decide) (fun G => o_nilCheckp rfl) ?_
  refine Zbl ?_
  refine Zis ?_
  first | refine aqp 9 rfl (by decide +kernel) (by decide) (fun G => w_load1 (v := .sl _ _ _ _ _) rfl (lk rfl rfl) rfl rfl rfl) ?_ | refine aqp 9 rfl (by decide +kernel) (by decide) (fun G => w_load1 (v := .pl _) rfl (lk rfl rfl) rfl rfl rfl) ?_ | refine aqp 9 rfl (by decide +kernel) (by decide) (fun G => w_load1 (v := .nsl) rfl (lk rfl rfl) rfl rfl rfl) ?_ | refine aqp 9 rfl (by decide +kernel) (by decide) (fun G => w_load1 (v := .sl _ _ _ _ _) rfl (lk rfl rfl) rfl (zadd hr) rfl) ?_ | refine aqp 9 rfl (by decide +kernel) (by decide) (fun G => w_load1 (v := .sl _ _ _ _ _) rfl (lk rfl rfl) rfl (zadd hr1) rfl) ?_ | refine aqp 9 rfl (by decide +kernel) (by decide) (fun G => w_load1 (v := .sl _ _ _ _ _) rfl (lk rfl rfl) rfl (zadd hr2) rfl) ?_ | refine aqp 9 rfl (by decide +kernel) (by decide) (fun G => w_load1 (v := .pl _) rfl (lk rfl rfl) rfl (zadd hr) rfl) ?_ | refine aqp 9 rfl (by decide +kernel) (by decide) (fun G => w_load1 (v := .pl _) rfl (lk rfl rfl) rfl (zadd hr1) rfl) ?_ | refine aqp 9 rfl (by decide +kernel) (by decide) (fun G => w_load1 (v := .pl _) rfl (lk rfl rfl) rfl (zadd hr2) rfl) ?_ | refine aqp 9 rfl (by decide +kernel) (by decide) (fun G => w_load1 (v := .nsl) rfl (lk rfl rfl) rfl (zadd hr) rfl) ?_ | refine aqp 9 rfl (by decide +kernel) (by decide) (fun G => w_load1 (v := .nsl) rfl (lk rfl rfl) rfl (zadd hr1) rfl) ?_ | refine aqp 9 rfl (by decide +kernel) (by decide) (fun G => w_load1 (v := .nsl) rfl (lk rfl rfl) rfl (zadd hr2) rfl) ?_ | refine aqp 9 rfl (by decide +kernel) (by decide) (fun G => o_load1p (v := .sl _ _ _ _ _) rfl hr rfl) ?_ | refine aqp 9 rfl (by decide +kernel) (by decide) (fun G => o_load1p (v := .sl _ _ _ _ _) rfl hr1 rfl) ?_ | refine aqp 9 rfl (by decide +kernel) (by decide) (fun G => o_load1p (v := .sl _ _ _ _ _) rfl hr2 rfl) ?_ | refine aqp 9 rfl (by decide +kernel) (by decide) (fun G => o_load1p (v := .pl _) rfl hr rfl) ?_ | refine aqp 9 rfl (by decide +kernel) (by decide) (fun G => o_load1p (v := .pl _) rfl hr1 rfl) ?_ | refine aqp 9 rfl (by decide +kernel) (by decide) (fun G => o_load1p (v := .pl _) rfl hr2 rfl) ?_ | refine aqp 9 rfl (by decide +kernel) (by decide) (fun G => o_load1p (v := .nsl) rfl hr rfl) ?_ | refine aqp 9 rfl (by decide +kernel) (by decide) (fun G => o_load1p (v := .nsl) rfl hr1 rfl) ?_ | refine aqp 9 rfl (by decide +kernel) (by decide) (fun G => o_load1p (v := .nsl) rfl hr2 rfl) ?_ | refine aqp 9 rfl (by decide +kernel) (by decide) (fun G => w_load1 (v := .sl _ _ _ _ _) rfl (lkF hF) rfl rfl rfl) ?_ | refine aqp 9 rfl (by decide +kernel) (by decide) (fun G => w_load1 (v := .pl _) rfl (lkF hF) rfl rfl rfl) ?_ | refine aqp 9 rfl (by decide +kernel) (by decide) (fun G => w_load1 (v := .nsl) rfl (lkF hF) rfl rfl rfl) ?_
  first | refine aq0 10 rfl (by decide +kernel) (by decide) (fun _ => o_move (v := .pt _ _ _ _) rfl) ?_ | refine aq0 10 rfl (by decide +kernel) (by decide) (fun _ => o_move (v := .pp _ _ _) rfl) ?_ | refine aq0 10 rfl (by decide +kernel) (by decide) (fun _ => o_move (v := .nptr) rfl) ?_
  first | refine aqp 11 rfl (by decide +kernel) (by decide) (fun G => w_nilCheck rfl (lk rfl rfl) rfl) ?_ | refine aqp 11 rfl (by decide +kernel) (by decide) (fun G => w_nilCheck rfl (lkF hF) rfl) ?_ | refine aqp 11 rfl (by decide +kernel) (by decide) (fun G => o_nilCheckp rfl) ?_
  refine Zit ?_
  refine Ziu ?_
  first | refine aqp 14 rfl (by decide +kernel) (by decide) (fun G => w_load1 (v := .sl _ _ _ _ _) rfl (lk rfl rfl) rfl rfl rfl) ?_ | refine aqp 14 rfl (by decide +kernel) (by decide) (fun G => w_load1 (v := .pl _) rfl (lk rfl rfl) rfl rfl rfl) ?_ | refine aqp 14 rfl (by decide +kernel) (by decide) (fun G => w_load1 (v := .nsl) rfl (lk rfl rfl) rfl rfl rfl) ?_ | refine aqp 14 rfl (by decide +kernel) (by decide) (fun G => w_load1 (v := .sl _ _ _ _ _) rfl (lk rfl rfl) rfl (zadd hr) rfl) ?_ | refine aqp 14 rfl (by decide +kernel) (by decide) (fun G => w_load1 (v := .sl _ _ _ _ _) rfl (lk rfl rfl) rfl (zadd hr1) rfl) ?_ | refine aqp 14 rfl (by decide +kernel) (by decide) (fun G => w_load1 (v := .sl _ _ _ _ _) rfl (lk rfl rfl) rfl (zadd hr2) rfl) ?_ | refine aqp 14 rfl (by decide +kernel) (by decide) (fun G => w_load1 (v := .pl _) rfl (lk rfl rfl) rfl (zadd hr) rfl) ?_ | refine aqp 14 rfl (by decide +kernel) (by decide) (fun G => w_load1 (v := .pl _) rfl (lk rfl rfl) rfl (zadd hr1) rfl) ?_ | refine aqp 14 rfl (by decide +kernel) (by decide) (fun G => w_load1 (v := .pl _) rfl (lk rfl rfl) rfl (zadd hr2) rfl) ?_ | refine aqp 14 rfl (by decide +kernel) (by decide) (fun G => w_load1 (v := .nsl) rfl (lk rfl rfl) rfl (zadd hr) rfl) ?_ | refine aqp 14 rfl (by decide +kernel) (by decide) (fun G => w_load1 (v := .nsl) rfl (lk rfl rfl) rfl (zadd hr1) rfl) ?_ | refine aqp 14 rfl (by decide +kernel) (by decide) (fun G => w_load1 (v := .nsl) rfl (lk rfl rfl) rfl (zadd hr2) rfl) ?_ | refine aqp 14 rfl (by decide +kernel) (by decide) (fun G => o_load1p (v := .sl _ _ _ _ _) rfl hr rfl) ?_ | refine aqp 14 rfl (by decide +kernel) (by decide) (fun G => o_load1p (v := .sl _ _ _ _ _) rfl hr1 rfl) ?_ | refine aqp 14 rfl (by decide +kernel) (by decide) (fun G => o_load1p (v := .sl _ _ _ _ _) rfl hr2 rfl) ?_ | refine aqp 14 rfl (by decide +kernel) (by decide) (fun G => o_load1p (v := .pl _) rfl hr rfl) ?_ | refine aqp 14 rfl (by decide +kernel) (by decide) (fun G => o_load1p (v := .pl _) rfl hr1 rfl) ?_ | refine aqp 14 rfl (by decide +kernel) (by decide) (fun G => o_load1p (v := .pl _) rfl hr2 rfl) ?_ | refine aqp 14 rfl (by decide +kernel) (by decide) (fun G => o_load1p (v := .nsl) rfl hr rfl) ?_ | refine aqp 14 rfl (by decide +kernel) (by decide) (fun G => o_load1p (v := .nsl) rfl hr1 rfl) ?_ | refine aqp 14 rfl (by decide +kernel) (by decide) (fun G => o_load1p (v := .nsl) rfl hr2 rfl) ?_ | refine aqp 14 rfl (by decide +kernel) (by decide) (fun G => w_load1 (v := .sl _ _ _ _ _) rfl (lkF hF) rfl rfl rfl) ?_ | refine aqp 14 rfl (by decide +kernel) (by decide) (fun G => w_load1 (v := .pl _) rfl (lkF hF) rfl rfl rfl) ?_ | refine aqp 14 rfl (by decide +kernel) (by decide) (fun G => w_load1 (v := .nsl) rfl (lkF hF) rfl rfl rfl) ?_
  refine aq02 15 rfl (by decide +kernel) (by decide) (fun _ => V2.call (health_Usable _ _ _ (by omega) (by omega)) rfl) ?_
  refine aq02 16 rfl (by decide +kernel) (by decide) (fun _ => V2.callT (set_Meet w.lease (hbelow w.graph w.health 0) (by omega) (by omega) _) rfl rfl) ?_
  first | refine aq0 17 rfl (by decide +kernel) (by decide) (fun _ => o_assign (v := .sl _ _ _ _ _) rfl) ?_ | refine aq0 17 rfl (by decide +kernel) (by decide) (fun _ => o_assign (v := .pl _) rfl) ?_ | refine aq0 17 rfl (by decide +kernel) (by decide) (fun _ => o_assign (v := .nsl) rfl) ?_
  refine Z1k ?_
  exact Z1z
set_option maxHeartbeats 0 in
theorem inst_Free (i : Inst) (H : Heap) (hw : IW i) : ACT Tryz.prog KD 24 [.agg (eInst i)] H (Ret (.pl ((ifree i).map eInt)) H) := by
  have w3 := hw.table
  have hul := iusable_le i
  have hbl := heldBusy_le i.table i.now (plus i.now 1)
  refine ACT.body (N := 30) [.tmp 2] Tryz.func24 rfl rfl rfl (Nat.le_of_ble_eq_true rfl) fun B hB => ?_
  refine Zh5 ?_
  refine Z89 ?_
  refine Ziv ?_
  refine Ziw ?_
  refine Z3u ?_
  refine aw_cond rfl (fun hc => ?_) (fun hc => ?_)
  · have hno : iright i = false := by simpa only [Bool.not_eq_true'] using hc
    rw [show ifree i = [] by rw [ifree, hno]; rfl]
    refine Z43 ?_
    refine aw_nslpl 2 rfl ?_
    exact aw_ret (e_done hB (r_tmp rfl .nil) rfl rfl)
  have hyes : iright i = true := by simpa only [Bool.not_eq_false'] using hc
  rw [show ifree i = sless (iusable i) (heldBusy i.table i.now (plus i.now 1)) by rw [ifree, hyes]; rfl]
  refine Z2 ?_
  refine Ziv ?_
  refine Zix ?_
  refine Zh4 ?_
  refine Ziy ?_
  refine Zb ?_
  refine Z7o ?_
  refine Z1f ?_
  refine Zir ?_
  refine aqp2 1 rfl (by decide +kernel) (by decide) (fun G => V2.callT (worker_usable i _ _ hw (lk rfl rfl)) rfl rfl) ?_
  first | refine aq0 2 rfl (by decide +kernel) (by decide) (fun _ => o_move (v := .pt _ _ _ _) rfl) ?_ | refine aq0 2 rfl (by decide +kernel) (by decide) (fun _ => o_move (v := .pp _ _ _) rfl) ?_ | refine aq0 2 rfl (by decide +kernel) (by decide) (fun _ => o_move (v := .nptr) rfl) ?_
  first | refine aqp 3 rfl (by decide +kernel) (by decide) (fun G => w_nilCheck rfl (lk rfl rfl) rfl) ?_ | refine aqp 3 rfl (by decide +kernel) (by decide) (fun G => w_nilCheck rfl (lkF hF) rfl) ?_ | refine aqp 3 rfl (by decide +kernel) (by decide) (fun G => o_nilCheckp rfl) ?_
  refine Ziz ?_
  refine Zj0 ?_
  first | refine aqp 6 rfl (by decide +kernel) (by decide) (fun G => w_load1 (v := .sl _ _ _ _ _) rfl (lk rfl rfl) rfl rfl rfl) ?_ | refine aqp 6 rfl (by decide +kernel) (by decide) (fun G => w_load1 (v := .pl _) rfl (lk rfl rfl) rfl rfl rfl) ?_ | refine aqp 6 rfl (by decide +kernel) (by decide) (fun G => w_load1 (v := .nsl) rfl (lk rfl rfl) rfl rfl rfl) ?_ | refine aqp 6 rfl (by decide +kernel) (by decide) (fun G => w_load1 (v := .sl _ _ _ _ _) rfl (lk rfl rfl) rfl (zadd hr) rfl) ?_ | refine aqp 6 rfl (by decide +kernel) (by decide) (fun G => w_load1 (v := .sl _ _ _ _ _) rfl (lk rfl rfl) rfl (zadd hr1) rfl) ?_ | refine aqp 6 rfl (by decide +kernel) (by decide) (fun G => w_load1 (v := .sl _ _ _ _ _) rfl (lk rfl rfl) rfl (zadd hr2) rfl) ?_ | refine aqp 6 rfl (by decide +kernel) (by decide) (fun G => w_load1 (v := .pl _) rfl (lk rfl rfl) rfl (zadd hr) rfl) ?_ | refine aqp 6 rfl (by decide +kernel) (by decide) (fun G => w_load1 (v := .pl _) rfl (lk rfl rfl) rfl (zadd hr1) rfl) ?_ | refine aqp 6 rfl (by decide +kernel) (by decide) (fun G => w_load1 (v := .pl _) rfl (lk rfl rfl) rfl (zadd hr2) rfl) ?_ | refine aqp 6 rfl (by decide +kernel) (by decide) (fun G => w_load1 (v := .nsl) rfl (lk rfl rfl) rfl (zadd hr) rfl) ?_ | refine aqp 6 rfl (by decide +kernel) (by decide) (fun G => w_load1 (v := .nsl) rfl (lk rfl rfl) rfl (zadd hr1) rfl) ?_ | refine aqp 6 rfl (by decide +kernel) (by decide) (fun G => w_load1 (v := .nsl) rfl (lk rfl rfl) rfl (zadd hr2) rfl) ?_ | refine aqp 6 rfl (by decide +kernel) (by decide) (fun G => o_load1p (v := .sl _ _ _ _ _) rfl hr rfl) ?_ | refine aqp 6 rfl (by decide +kernel) (by decide) (fun G => o_load1p (v := .sl _ _ _ _ _) rfl hr1 rfl) ?_ | refine aqp 6 rfl (by decide +kernel) (by decide) (fun G => o_load1p (v := .sl _ _ _ _ _) rfl hr2 rfl) ?_ | refine aqp 6 rfl (by decide +kernel) (by decide) (fun G => o_load1p (v := .pl _) rfl hr rfl) ?_ | refine aqp 6 rfl (by decide +kernel) (by decide) (fun G => o_load1p (v := .pl _) rfl hr1 rfl) ?_ | refine aqp 6 rfl (by decide +kernel) (by decide) (fun G => o_load1p (v := .pl _) rfl hr2 rfl) ?_ | refine aqp 6 rfl (by decide +kernel) (by decide) (fun G => o_load1p (v := .nsl) rfl hr rfl) ?_ | refine aqp 6 rfl (by decide +kernel) (by decide) (fun G => o_load1p (v := .nsl) rfl hr1 rfl) ?_ | refine aqp 6 rfl (by decide +kernel) (by decide) (fun G => o_load1p (v := .nsl) rfl hr2 rfl) ?_ | refine aqp 6 rfl (by decide +kernel) (by decide) (fun G => w_load1 (v := .sl _ _ _ _ _) rfl (lkF hF) rfl rfl rfl) ?_ | refine aqp 6 rfl (by decide +kernel) (by decide) (fun G => w_load1 (v := .pl _) rfl (lkF hF) rfl rfl rfl) ?_ | refine aqp 6 rfl (by decide +kernel) (by decide) (fun G => w_load1 (v := .nsl) rfl (lkF hF) rfl rfl rfl) ?_
  first | refine aq0 7 rfl (by decide +kernel) (by decide) (fun _ => o_move (v := .pt _ _ _ _) rfl) ?_ | refine aq0 7 rfl (by decide +kernel) (by decide) (fun _ => o_move (v := .pp _ _ _) rfl) ?_ | refine aq0 7 rfl (by decide +kernel) (by decide) (fun _ => o_move (v := .nptr) rfl) ?_
  first | refine aqp 8 rfl (by decide +kernel) (by decide) (fun G => w_nilCheck rfl (lk rfl rfl) rfl) ?_ | refine aqp 8 rfl (by decide +kernel) (by decide) (fun G => w_nilCheck rfl (lkF hF) rfl) ?_ | refine aqp 8 rfl (by decide +kernel) (by decide) (fun G => o_nilCheckp rfl) ?_
  first | refine aqp 9 rfl (by decide +kernel) (by decide) (fun G => w_fieldAddr rfl (lk rfl rfl) rfl (by decide)) ?_ | refine aqp 9 rfl (by decide +kernel) (by decide) (fun G => w_fieldAddrp rfl (by decide)) ?_ | refine aqp 9 rfl (by decide +kernel) (by decide) (fun G => w_fieldAddr rfl (lkF hF) rfl (by decide)) ?_
  first | refine aqp 10 rfl (by decide +kernel) (by decide) (fun G => w_fieldAddr rfl (lk rfl rfl) rfl (by decide)) ?_ | refine aqp 10 rfl (by decide +kernel) (by decide) (fun G => w_fieldAddrp rfl (by decide)) ?_ | refine aqp 10 rfl (by decide +kernel) (by decide) (fun G => w_fieldAddr rfl (lkF hF) rfl (by decide)) ?_
  first | refine aqp 11 rfl (by decide +kernel) (by decide) (fun G => w_load1 (v := .int _ _) rfl (lk rfl rfl) rfl rfl rfl) ?_ | refine aqp 11 rfl (by decide +kernel) (by decide) (fun G => w_load1 (v := .int _ _) rfl (lk rfl rfl) rfl (zadd hr) rfl) ?_ | refine aqp 11 rfl (by decide +kernel) (by decide) (fun G => w_load1 (v := .int _ _) rfl (lk rfl rfl) rfl (zadd hr1) rfl) ?_ | refine aqp 11 rfl (by decide +kernel) (by decide) (fun G => w_load1 (v := .int _ _) rfl (lk rfl rfl) rfl (zadd hr2) rfl) ?_ | refine aqp 11 rfl (by decide +kernel) (by decide) (fun G => o_load1p (v := .int _ _) rfl hr rfl) ?_ | refine aqp 11 rfl (by decide +kernel) (by decide) (fun G => o_load1p (v := .int _ _) rfl hr1 rfl) ?_ | refine aqp 11 rfl (by decide +kernel) (by decide) (fun G => o_load1p (v := .int _ _) rfl hr2 rfl) ?_ | refine aqp 11 rfl (by decide +kernel) (by decide) (fun G => w_load1 (v := .int _ _) rfl (lkF hF) rfl rfl rfl) ?_
  first | refine aq0 12 rfl (by decide +kernel) (by decide) (fun _ => o_move (v := .pt _ _ _ _) rfl) ?_ | refine aq0 12 rfl (by decide +kernel) (by decide) (fun _ => o_move (v := .pp _ _ _) rfl) ?_ | refine aq0 12 rfl (by decide +kernel) (by decide) (fun _ => o_move (v := .nptr) rfl) ?_
  first | refine aqp 13 rfl (by decide +kernel) (by decide) (fun G => w_nilCheck rfl (lk rfl rfl) rfl) ?_ | refine aqp 13 rfl (by decide +kernel) (by decide) (fun G => w_nilCheck rfl (lkF hF) rfl) ?_ | refine aqp 13 rfl (by decide +kernel) (by decide) (fun G => o_nilCheckp rfl) ?_
  first | refine aqp 14 rfl (by decide +kernel) (by decide) (fun G => w_fieldAddr rfl (lk rfl rfl) rfl (by decide)) ?_ | refine aqp 14 rfl (by decide +kernel) (by decide) (fun G => w_fieldAddrp rfl (by decide)) ?_ | refine aqp 14 rfl (by decide +kernel) (by decide) (fun G => w_fieldAddr rfl (lkF hF) rfl (by decide)) ?_
  first | refine aqp 15 rfl (by decide +kernel) (by decide) (fun G => w_fieldAddr rfl (lk rfl rfl) rfl (by decide)) ?_ | refine aqp 15 rfl (by decide +kernel) (by decide) (fun G => w_fieldAddrp rfl (by decide)) ?_ | refine aqp 15 rfl (by decide +kernel) (by decide) (fun G => w_fieldAddr rfl (lkF hF) rfl (by decide)) ?_
  first | refine aqp 16 rfl (by decide +kernel) (by decide) (fun G => w_load1 (v := .int _ _) rfl (lk rfl rfl) rfl rfl rfl) ?_ | refine aqp 16 rfl (by decide +kernel) (by decide) (fun G => w_load1 (v := .int _ _) rfl (lk rfl rfl) rfl (zadd hr) rfl) ?_ | refine aqp 16 rfl (by decide +kernel) (by decide) (fun G => w_load1 (v := .int _ _) rfl (lk rfl rfl) rfl (zadd hr1) rfl) ?_ | refine aqp 16 rfl (by decide +kernel) (by decide) (fun G => w_load1 (v := .int _ _) rfl (lk rfl rfl) rfl (zadd hr2) rfl) ?_ | refine aqp 16 rfl (by decide +kernel) (by decide) (fun G => o_load1p (v := .int _ _) rfl hr rfl) ?_ | refine aqp 16 rfl (by decide +kernel) (by decide) (fun G => o_load1p (v := .int _ _) rfl hr1 rfl) ?_ | refine aqp 16 rfl (by decide +kernel) (by decide) (fun G => o_load1p (v := .int _ _) rfl hr2 rfl) ?_ | refine aqp 16 rfl (by decide +kernel) (by decide) (fun G => w_load1 (v := .int _ _) rfl (lkF hF) rfl rfl rfl) ?_
  refine aq02 17 rfl (by decide +kernel) (by decide) (fun _ => V2.call (when_Plus _ _ _) rfl) ?_
  refine aq02 18 rfl (by decide +kernel) (by decide) (fun _ => V2.callT (held_Busy i.table i.now (plus i.now 1) _ w3) rfl rfl) ?_
  refine aq02 19 rfl (by decide +kernel) (by decide) (fun _ => V2.callT (set_Less (iusable i) (heldBusy i.table i.now (plus i.now 1)) (by omega) (by omega) _) rfl rfl) ?_
  first | refine aq0 20 rfl (by decide +kernel) (by decide) (fun _ => o_assign (v := .sl _ _ _ _ _) rfl) ?_ | refine aq0 20 rfl (by decide +kernel) (by decide) (fun _ => o_assign (v := .pl _) rfl) ?_ | refine aq0 20 rfl (by decide +kernel) (by decide) (fun _ => o_assign (v := .nsl) rfl) ?_
  refine Z1k ?_
  exact Z1z
set_option maxHeartbeats 0 in
theorem inst_New (g : List Thing) (p d : Int) (H : Heap) (hl : g.length ≤ 1000000) : AC Tryz.prog 18 [.pl (g.map eThing), .int .i64 p, .int .i64 d] H (Ret (.tup [.agg (eInst (inew g p d).1), .int .i64 (inew g p d).2]) H) := by
  refine AC.body (N := 27) [.cell 6 27, .tmp 7] Tryz.func18 rfl rfl rfl (Nat.le_of_ble_eq_true rfl) fun B hB => ?_
  refine Z2 ?_
  refine Zj1 ?_
  refine Zc ?_
  refine aw_out 16 (.bool (!gright g || !ipolicy p d)) ?_ ?_
  · refine Z45 ?_
    refine ao_ret (graph_Right _ _ (by omega)) rfl (by decide) ?_
    refine Z22 ?_
    refine ao_split rfl rfl (fun hg3 => ?_) (fun hg3 => ?_)
    · refine Z4h ?_
      exact Zb9
    · refine Z2s ?_
      refine Zhy ?_
      refine Z26 ?_
      exact Zb9
  refine Z1 ?_
  refine aw_cond rfl (fun hc => ?_) (fun hc => ?_)
  · have hno : inew g p d = (inst0, 1) := by rw [inew, if_pos hc]
    rw [hno]
    refine Z2 ?_
    refine Zix ?_
    refine Zj2 ?_
    refine Zc ?_
    exact Z6k
  have hyes : inew g p d = (⟨g, List.replicate g.length 0, gunder g 0, 4611686018427387904, [], [], 0, p, d⟩, 0) := by rw [inew, if_neg (by simp [hc])]
  have hg : gright g = true := by cases h : gright g <;> simp_all
  rw [hyes]
  refine Z8c ?_
  refine ao_ret (slices_CloneT _ _ (by omega)) rfl (by decide) ?_
  refine Z45 ?_
  refine ao_ret (health_New _ _ (by omega)) rfl (by decide) ?_
  refine Z45 ?_
  refine ao_ret (graph_Under _ _ _ (by omega)) rfl (by decide) ?_
  refine Z2r ?_
  refine Zix ?_
  refine Zj2 ?_
  refine Z3 ?_
  refine Z6 ?_
  rw [if_pos hg]
  refine Z1 ?_
  exact Z6k
end Go.Av

/-
  A REGION THAT DRAWS: an operation that is bound to the turning one by another one is taken first.
-/
namespace Go.Av
section
variable {P : Program} {N : Nat} {B : Base} {ops : Array Oper} {a : Option Nat} {C : Heap → Prop} {F : Env → Heap → Prop} {Q : Post}
variable {op : Op} {ty : TypeId} {pos : String} {after : Array Edge}
/-- i stands ahead of m, by way of operations that have not come up. -/
inductive Anc (ops : Array Oper) (listed : Array Bool) (i : Nat) : Nat → Prop
  | here : Anc ops listed i i
  | step {m : Nat} {om : Oper} {e : Edge} : listed.getD m true = false → ops[m]? = some om → e ∈ om.after → Region.binds .any e = true → Anc ops listed i e.on → Anc ops listed i m
def Wait2 (ops : Array Oper) (a : Option Nat) (i : Nat) (listed : Array Bool) : Prop := ∀ a', a = some a' → ∀ oa, ops[a']? = some oa → ∃ e ∈ oa.after, Region.binds .any e = true ∧ Anc ops listed i e.on
theorem listed_no {listed : Array Bool} {m : Nat} (h1 : listed.getD m false = true) (h2 : listed.getD m true = false) : False := by
  rcases Nat.lt_or_ge m listed.size with h' | h'
  · simp [h'] at h1 h2; rw [h1] at h2; cases h2
  · simp [Array.getElem?_eq_none h'] at h1
theorem Anc.put {listed : Array Bool} {i j m : Nat} {oj : Oper} (hoj : ops[j]? = some oj) (hall : ∀ e ∈ oj.after, Region.binds .any e = true → listed.getD e.on false = true) (hnot : ∀ e ∈ oj.after, Region.binds .any e = true → e.on ≠ i) (h : Anc ops listed i m) : Anc ops (listed.setIfInBounds j true) i m := by
  induction h with
  | here => exact .here
  | @step m om e hm hom he hb h ih =>
    refine .step ?_ hom he hb ih
    have : j ≠ m := by
      rintro rfl
      rw [hoj] at hom
      obtain rfl := Option.some.inj hom
      have h1 := hall e he hb
      have h2 := hnot e he hb
      cases h with
      | here => exact h2 rfl
      | step h3 => exact listed_no h1 h3
    rw [getD_set_ne true this]; exact hm
/-- Taken first: what binds it to the one that turns stands between. -/
theorem aa_first_aux2 {i : Nat} {oi : Oper} {v : AV} (hi : ops[i]? = some oi) (hdi : ∀ t, oi.dst = some t → DN t N) (hai : a ≠ some i) :
    ∀ (fuel : Nat) (listed : Array Bool) (env : Env) (H : Heap), Wait2 ops a i listed → listed.size = ops.size →
      (∀ j oj, ops[j]? = some oj → j ≠ i → listed.getD j true = false → (∀ e ∈ oj.after, Region.binds .any e = true → e.on ≠ i) → oi.apart ops oj = true) →
      i ∈ Region.ready .any ops listed → Yet a listed → Quiet P N ops C oi env v →
      AAny P N B ops a C F fuel (listed.setIfInBounds i true) (Av.put env oi.dst v) H → AAny P N B ops a C F (fuel + 1) listed env H := by
  have hset : ∀ (listed : Array Bool) (j : Nat), a ≠ some j → Yet a (listed.setIfInBounds j true) = Yet a listed := fun listed j hj => by
    unfold Yet
    cases a with
    | none => rfl
    | some a => simp only; rw [getD_set_ne true (fun e => hj (by rw [e]))]
  intro fuel
  induction fuel with
  | zero =>
    intro listed env H _ hsz _ hr ha hq h
    have hC : C H := h.1 (by rw [hset _ _ hai]; exact ha)
    refine ⟨fun _ => hC, fun h0 => (by rw [h0] at hr; cases hr), fun j hj => ?_⟩
    by_cases hji : j = i
    · subst hji; exact hq.at_ hi hdi hC h
    · have := ready_mono hj hji
      rw [h.2.1] at this
      cases this
  | succ fuel ih =>
    intro listed env H hwait hsz hfree hr ha hq h
    have hC : C H := h.1 (by rw [hset _ _ hai]; exact ha)
    refine ⟨fun _ => hC, fun h0 => (by rw [h0] at hr; cases hr), fun j hj => ?_⟩
    by_cases hji : j = i
    · subst hji; exact hq.at_ hi hdi hC h
    · have h1 := h.2.2 j (ready_mono hj hji)
      obtain ⟨hjun, oj, hoj, hall⟩ := mem_ready.1 hj
      have hnot : ∀ e ∈ oj.after, Region.binds .any e = true → e.on ≠ i := fun e he hb heq => by
        have h1 := hall e he hb
        have h0 := (mem_ready.1 hr).1
        rw [heq] at h1
        rcases Nat.lt_or_ge i listed.size with h' | h'
        · simp [h'] at h0 h1; rw [h0] at h1; cases h1
        · simp [Array.getElem?_eq_none h'] at h1
      have hja : a ≠ some j := by
        rintro rfl
        obtain ⟨e, he, hb, hm⟩ := hwait j rfl oj hoj
        generalize hx : e.on = x at hm
        cases hm with
        | here => exact hnot e he hb hx
        | step h3 => exact listed_no (hall e he hb) (by rw [hx]; exact h3)
      have hwait' : Wait2 ops a i (listed.setIfInBounds j true) := by
        intro a' ha' oa hoa
        obtain ⟨e, he, hb, hm⟩ := hwait a' ha' oa hoa
        exact ⟨e, he, hb, hm.put hoj hall hnot⟩
      have hap := hfree j oj hoj hji hjun hnot
      obtain ⟨p1, p2, p3⟩ := Oper.apart_spec hap
      have hfree' : ∀ k ok, ops[k]? = some ok → k ≠ i → (listed.setIfInBounds j true).getD k true = false →
          (∀ e ∈ ok.after, Region.binds .any e = true → e.on ≠ i) → oi.apart ops ok = true := fun k ok hk hki hun hno => by
        refine hfree k ok hk hki ?_ hno
        by_cases hjk : j = k
        · subst hjk; exact hjun
        · rw [getD_set_ne true hjk] at hun; exact hun
      obtain ⟨o, ho, hd, h2⟩ := h1
      rw [hoj] at ho
      obtain rfl := Option.some.inj ho
      have step : ∀ x H', AAny P N B ops a C F fuel ((listed.setIfInBounds i true).setIfInBounds j true) (Av.put (Av.put env oi.dst v) oj.dst x) H' → AAny P N B ops a C F (fuel + 1) (listed.setIfInBounds j true) (Av.put env oj.dst x) H' := by
        intro x H' hx
        refine ih (listed.setIfInBounds j true) (Av.put env oj.dst x) H' hwait' (by simpa using hsz) hfree' (ready_mono hr (Ne.symm hji)) (by rw [hset _ _ hja]; exact ha) (hq.put p3 fun t ht => (hd t ht).2) ?_
        rw [Array.setIfInBounds_comm _ _ hji]
        exact AAny.eqv _ _ _ _ _ (Eqv.comm env v x p2) hx
      refine ⟨oj, hoj, hd, ?_⟩
      rcases h2 with ⟨k1, V, k2, k3⟩ | ⟨k1, k2⟩
      · exact .inl ⟨k1.put p1, V, by rw [renv_put ops oj env oi.dst v p1 fun t ht => (hdi t ht).2] at k2; exact k2, fun x H' hx => step x H' (k3 x H' hx)⟩
      · exact .inr ⟨k1.put p1, step _ _ k2⟩

def ancB (ops : Array Oper) (listed : Array Bool) (i : Nat) : Nat → List Nat → Bool
  | m, [] => m == i
  | m, x :: l => !(listed.getD m true) && (match ops[m]? with
      | some om => om.after.toList.any fun e => Region.binds .any e && e.on == x
      | none => false) && ancB ops listed i x l
theorem ancB_spec {listed : Array Bool} {i : Nat} : ∀ (l : List Nat) (m : Nat), ancB ops listed i m l = true → Anc ops listed i m
  | [], m, h => by simp only [ancB, beq_iff_eq] at h; subst h; exact .here
  | x :: l, m, h => by
    simp only [ancB, Bool.and_eq_true, Bool.not_eq_true'] at h
    obtain ⟨⟨h1, h2⟩, h3⟩ := h
    cases hm : ops[m]? with
    | none => rw [hm] at h2; cases h2
    | some om =>
      rw [hm] at h2
      simp only [List.any_eq_true, Bool.and_eq_true, beq_iff_eq] at h2
      obtain ⟨e, he, hb, ho⟩ := h2
      subst ho
      exact .step h1 hm (by simpa using he) hb (ancB_spec l _ h3)
def firstB2 (ops : Array Oper) (listed : Array Bool) (a : Nat) (l : List Nat) (i : Nat) : Bool :=
  (Region.ready .any ops listed).contains i && Region.free .any ops listed i && decide (listed.size = ops.size) &&
    (i != a && !(listed.getD a true) && ancB ops listed i a l)
theorem aqpz {fuel : Nat} {listed : Array Bool} {env : Env} {H H0 : Heap} {v : AV} {d a : Nat} {L0 : Heap} (l : List Nat) (i : Nat) (hi : ops[i]? = some ⟨some d, op, ty, pos, after, none⟩) (hB : firstB2 ops listed a l i = true) (hd : DN d N) (h1 : ∀ G, V1 P N op ty (renv ⟨some d, op, ty, pos, after, none⟩ env) (H0 ++ (L0 ++ G)) v)
    (h : AAny P N B ops (some a) (Pre H0 L0) F fuel (listed.setIfInBounds i true) ((d, v) :: env) H) : AAny P N B ops (some a) (Pre H0 L0) F (fuel + 1) listed env H := by
  simp only [firstB2, Bool.and_eq_true, decide_eq_true_eq, bne_iff_ne, Bool.not_eq_true'] at hB
  obtain ⟨⟨⟨h2, h3⟩, h5⟩, ⟨h6, h7⟩, h8⟩ := hB
  refine aa_first_aux2 hi (by rintro _ ⟨⟩; exact hd) (fun e => h6 (Option.some.inj e).symm) fuel listed env H ?_ h5 (Region.free_spec hi h3) (by simpa using h2) h7 (.inl ⟨rfl, by rintro H ⟨G, rfl⟩; exact (h1 G).toV2 _ _ _ _⟩) h
  intro a' ha oa hoa
  obtain rfl := Option.some.inj ha
  cases ancB_spec _ _ h8 with
  | here => exact absurd rfl h6
  | step h9 h10 h11 h12 h13 =>
    rw [hoa] at h10
    obtain rfl := Option.some.inj h10
    exact ⟨_, h11, h12, h13⟩
end
end Go.Av

namespace Go.Av
open Go.Proofs
set_option maxRecDepth 10000
set_option linter.unusedSimpArgs false
set_option linter.unusedVariables false

theorem ref23_clamp (n : Int) (H : Heap) : AC Tryz.prog 48 [.int .i64 n] H (Ret (.int .i64 (snear n)) H) := by
  refine AC.body (N := 8) [.tmp 2] Tryz.func48 rfl rfl rfl (Nat.le_of_ble_eq_true rfl) fun B hB => ?_
  refine Z2g ?_
  refine Z1e ?_
  refine aw_cond rfl (fun hc => ?_) (fun hc => ?_)
  · have h : n < 0 := by simpa using hc
    refine Zz ?_
    rw [show snear n = 0 by rw [snear]; omega]
    exact Zd
  have h0 : ¬ n < 0 := by simpa using hc
  refine Z10 ?_
  refine Z2k ?_
  refine aw_cond rfl (fun hc => ?_) (fun hc => ?_)
  · have h : 1099511627776 < n := by simpa using hc
    refine Zz ?_
    rw [show snear n = 1099511627776 by rw [snear]; omega]
    exact Zd
  · have h : ¬ 1099511627776 < n := by simpa using hc
    refine Z1u ?_
    rw [show snear n = n by rw [snear]; omega]
    exact Zd
theorem snear_in (n : Int) : 0 ≤ snear n ∧ snear n ≤ 1099511627776 := by rw [snear]; omega
/-- The place of the k-th of a block of five, and what it becomes. -/
def rP (f h : Nat → Int) (k a b c d : Nat) (m : Nat) : Nat → Int := fun j => if j < 5 then (if j < k + a then splus f h j else 0) else if j < 10 then (if j < 5 + k + b then splus f h j else 0) else if j < 15 then (if j < 10 + k + c then splus f h j else 0) else if j < 20 then (if j < 15 + k + d then splus f h j else 0) else if j < 20 + m then splus f h j else 0
theorem rP_zero (f h : Nat → Int) : ∀ j, j < 27 → rP f h 0 0 0 0 0 0 j = 0 := by
  intro j hj
  unfold rP
  (repeat' split) <;> first | rfl | omega
theorem rP_all (f h : Nat → Int) : ∀ j, j < 27 → rP f h 5 0 0 0 0 7 j = splus f h j := by
  intro j hj
  unfold rP
  (repeat' split) <;> first | rfl | omega
theorem rP_a (f h : Nat → Int) {k : Nat} (hk : k < 5) (m : Nat) : ∀ j, j < 27 → (if j = k then splus f h k else rP f h k 0 0 0 0 m j) = rP f h k 1 0 0 0 m j := by
  intro j hj
  by_cases e : j = k
  · subst e; rw [if_pos rfl]; unfold rP; (repeat' split) <;> first | rfl | omega
  · rw [if_neg e]; unfold rP; (repeat' split) <;> first | rfl | omega
theorem rP_b (f h : Nat → Int) {k : Nat} (hk : k < 5) (m : Nat) : ∀ j, j < 27 → (if j = 5 + k then splus f h (5 + k) else rP f h k 1 0 0 0 m j) = rP f h k 1 1 0 0 m j := by
  intro j hj
  by_cases e : j = 5 + k
  · subst e; rw [if_pos rfl]; unfold rP; (repeat' split) <;> first | rfl | omega
  · rw [if_neg e]; unfold rP; (repeat' split) <;> first | rfl | omega
theorem rP_c (f h : Nat → Int) {k : Nat} (hk : k < 5) (m : Nat) : ∀ j, j < 27 → (if j = 10 + k then splus f h (10 + k) else rP f h k 1 1 0 0 m j) = rP f h k 1 1 1 0 m j := by
  intro j hj
  by_cases e : j = 10 + k
  · subst e; rw [if_pos rfl]; unfold rP; (repeat' split) <;> first | rfl | omega
  · rw [if_neg e]; unfold rP; (repeat' split) <;> first | rfl | omega
theorem rP_d (f h : Nat → Int) {k : Nat} (hk : k < 5) (m : Nat) : ∀ j, j < 27 → (if j = 15 + k then splus f h (15 + k) else rP f h k 1 1 1 0 m j) = rP f h (k + 1) 0 0 0 0 m j := by
  intro j hj
  by_cases e : j = 15 + k
  · subst e; rw [if_pos rfl]; unfold rP; (repeat' split) <;> first | rfl | omega
  · rw [if_neg e]; unfold rP; (repeat' split) <;> first | rfl | omega
theorem rP_m (f h : Nat → Int) {k : Nat} (hk : k < 7) : ∀ j, j < 27 → (if j = 20 + k then splus f h (20 + k) else rP f h 5 0 0 0 0 k j) = rP f h 5 0 0 0 0 (k + 1) j := by
  intro j hj
  by_cases e : j = 20 + k
  · subst e; rw [if_pos rfl]; unfold rP; (repeat' split) <;> first | rfl | omega
  · rw [if_neg e]; unfold rP; (repeat' split) <;> first | rfl | omega
theorem rset {f f' : Nat → Int} {c : Nat} {v : Int} (hc : c < 27) (h : ∀ j, j < 27 → (if j = c then v else f j) = f' j) : (eStat f).take c ++ [AV.int .i64 v] ++ (eStat f).drop (c + 1) = eStat f' := by
  rw [eStat_set _ hc]
  exact eStat_congr fun j hj => h j hj
set_option maxHeartbeats 0 in
theorem ref23_Plus (f h : Nat → Int) (H : Heap) : AC Tryz.prog 13 [.agg (eStat f), .agg (eStat h)] H (Ret (.agg (eStat (splus f h))) H) := by
  refine AC.body (N := 92) [.cell 4 31] Tryz.func13 rfl rfl rfl (Nat.le_of_ble_eq_true rfl) fun B hB => ?_
  refine Z2 ?_
  refine Zj3 ?_
  refine Zj3 ?_
  refine Zj5 ?_
  refine Zj5 ?_
  refine Z1d ?_
  refine aw_loop (G := Nat) (fun k => k ≤ 5) (fun k => [(2, .pt (Lid H.length 0) 0 0 0), (3, .pt (Lid H.length 1) 0 0 0), (4, .pt (Lid H.length 2) 0 0 0), (5, .pt (Lid H.length 3) 0 0 0), (6, .int .i64 (k : Int))]) (fun k => H ++ [⟨0, 27, [eStat f]⟩, ⟨0, 27, [eStat h]⟩, ⟨0, 27, [eStat snone]⟩, ⟨0, 27, [eStat (rP f h k 0 0 0 0 0)]⟩]) (fun k => 5 - k) 0 (Nat.zero_le _) (by repeat (first | exact Sub.nil | refine Sub.cons (by first | rfl | (simp [get]; done)) ?_)) (.inl (by rw [eStat_congr (rP_zero f h)]; rfl)) ?_
  intro k hk
  refine Z1n ?_
  refine aw_cond rfl (fun hc => ?_) (fun hc => ?_)
  · have hlt : k < 5 := by simp at hc; omega
    have i1 := snear_in (f k)
    have i2 := snear_in (h k)
    have i3 := snear_in (f (5 + k))
    have i4 := snear_in (h (5 + k))
    have i5 := snear_in (f (10 + k))
    have i6 := snear_in (h (10 + k))
    have i7 := snear_in (f (15 + k))
    have i8 := snear_in (h (15 + k))
    have fa : (eStat f)[0 + 0 + k * 1]? = some (.int .i64 (f k)) := by rw [show 0 + 0 + k * 1 = k by omega]; exact eStat_get _ (by omega)
    have ha : (eStat h)[0 + 0 + k * 1]? = some (.int .i64 (h k)) := by rw [show 0 + 0 + k * 1 = k by omega]; exact eStat_get _ (by omega)
    have fb : (eStat f)[0 + 5 + k * 1]? = some (.int .i64 (f (5 + k))) := by rw [show 0 + 5 + k * 1 = 5 + k by omega]; exact eStat_get _ (by omega)
    have hb : (eStat h)[0 + 5 + k * 1]? = some (.int .i64 (h (5 + k))) := by rw [show 0 + 5 + k * 1 = 5 + k by omega]; exact eStat_get _ (by omega)
    have fc : (eStat f)[0 + 10 + k * 1]? = some (.int .i64 (f (10 + k))) := by rw [show 0 + 10 + k * 1 = 10 + k by omega]; exact eStat_get _ (by omega)
    have hcc : (eStat h)[0 + 10 + k * 1]? = some (.int .i64 (h (10 + k))) := by rw [show 0 + 10 + k * 1 = 10 + k by omega]; exact eStat_get _ (by omega)
    have fd : (eStat f)[0 + 15 + k * 1]? = some (.int .i64 (f (15 + k))) := by rw [show 0 + 15 + k * 1 = 15 + k by omega]; exact eStat_get _ (by omega)
    have hd : (eStat h)[0 + 15 + k * 1]? = some (.int .i64 (h (15 + k))) := by rw [show 0 + 15 + k * 1 = 15 + k by omega]; exact eStat_get _ (by omega)
    have sa : (eStat (rP f h k 0 0 0 0 0)).take (0 + 0 + k * 1) ++ [AV.int .i64 (splus f h k)] ++ (eStat (rP f h k 0 0 0 0 0)).drop (0 + 0 + k * 1 + 1) = eStat (rP f h k 1 0 0 0 0) := by rw [show 0 + 0 + k * 1 = k by omega]; exact rset (by omega) (rP_a f h hlt 0)
    have sb : (eStat (rP f h k 1 0 0 0 0)).take (0 + 5 + k * 1) ++ [AV.int .i64 (splus f h (5 + k))] ++ (eStat (rP f h k 1 0 0 0 0)).drop (0 + 5 + k * 1 + 1) = eStat (rP f h k 1 1 0 0 0) := by rw [show 0 + 5 + k * 1 = 5 + k by omega]; exact rset (by omega) (rP_b f h hlt 0)
    have sc : (eStat (rP f h k 1 1 0 0 0)).take (0 + 10 + k * 1) ++ [AV.int .i64 (splus f h (10 + k))] ++ (eStat (rP f h k 1 1 0 0 0)).drop (0 + 10 + k * 1 + 1) = eStat (rP f h k 1 1 1 0 0) := by rw [show 0 + 10 + k * 1 = 10 + k by omega]; exact rset (by omega) (rP_c f h hlt 0)
    have sd : (eStat (rP f h k 1 1 1 0 0)).take (0 + 15 + k * 1) ++ [AV.int .i64 (splus f h (15 + k))] ++ (eStat (rP f h k 1 1 1 0 0)).drop (0 + 15 + k * 1 + 1) = eStat (rP f h (k + 1) 0 0 0 0 0) := by rw [show 0 + 15 + k * 1 = 15 + k by omega]; exact rset (by omega) (rP_d f h hlt 0)
    refine Z1 ?_
    refine Zj6 ?_
    refine Zj9 ?_
    refine Zja ?_
    refine Zjb ?_
    refine Zjc ?_
    refine Zbl ?_
    refine Zjd ?_
    refine Zje ?_
    refine Zjf ?_
    refine aq0 11 rfl (by decide +kernel) (by decide) (fun _ => o_add (r := snear (f k) + snear (h k)) rfl rfl (wrap64_ok (by omega) (by omega))) ?_
    refine Zjg ?_
    refine Zjh ?_
    refine Zji ?_
    refine aqs 15 rfl (by decide +kernel) (by first | exact fun _ => trivial | exact fun _ => ⟨_, rfl⟩ | exact fun _ => ⟨_, rfl, rfl⟩ | exact fun _ => ⟨_, rfl, rfl, rfl⟩ | exact yet_done (by decide +kernel)) (by rintro _ ⟨⟩) (w_storeP (sz := 1) (v := .int .i64 _) (r' := eStat (rP f h k 1 0 0 0 0)) rfl rfl rfl rfl rfl rfl rfl rfl (by show _ ≤ 27; omega) sa) ?_
    refine Z1l ?_
    refine Zj6 ?_
    refine Zj9 ?_
    refine aqp 4 rfl (by decide +kernel) (by decide) (fun G => w_load1 (v := .int .i64 _) rfl (lk rfl rfl) rfl rfl fb) ?_
    refine Zjb ?_
    refine Zjc ?_
    refine Zbl ?_
    refine Zjd ?_
    refine aqp 9 rfl (by decide +kernel) (by decide) (fun G => w_load1 (v := .int .i64 _) rfl (lk rfl rfl) rfl rfl hb) ?_
    refine Zjf ?_
    refine aq0 11 rfl (by decide +kernel) (by decide) (fun _ => o_add (r := snear (f (5 + k)) + snear (h (5 + k))) rfl rfl (wrap64_ok (by omega) (by omega))) ?_
    refine Zjg ?_
    refine Zjh ?_
    refine Zji ?_
    refine aqs 15 rfl (by decide +kernel) (by first | exact fun _ => trivial | exact fun _ => ⟨_, rfl⟩ | exact fun _ => ⟨_, rfl, rfl⟩ | exact fun _ => ⟨_, rfl, rfl, rfl⟩ | exact yet_done (by decide +kernel)) (by rintro _ ⟨⟩) (w_storeP (sz := 1) (v := .int .i64 _) (r' := eStat (rP f h k 1 1 0 0 0)) rfl rfl rfl rfl rfl rfl rfl rfl (by show _ ≤ 27; omega) sb) ?_
    refine Z1l ?_
    refine Zj6 ?_
    refine Zj9 ?_
    refine aqp 4 rfl (by decide +kernel) (by decide) (fun G => w_load1 (v := .int .i64 _) rfl (lk rfl rfl) rfl rfl fc) ?_
    refine Zjb ?_
    refine Zjc ?_
    refine Zbl ?_
    refine Zjd ?_
    refine aqp 9 rfl (by decide +kernel) (by decide) (fun G => w_load1 (v := .int .i64 _) rfl (lk rfl rfl) rfl rfl hcc) ?_
    refine Zjf ?_
    refine aq0 11 rfl (by decide +kernel) (by decide) (fun _ => o_add (r := snear (f (10 + k)) + snear (h (10 + k))) rfl rfl (wrap64_ok (by omega) (by omega))) ?_
    refine Zjg ?_
    refine Zjh ?_
    refine Zji ?_
    refine aqs 15 rfl (by decide +kernel) (by first | exact fun _ => trivial | exact fun _ => ⟨_, rfl⟩ | exact fun _ => ⟨_, rfl, rfl⟩ | exact fun _ => ⟨_, rfl, rfl, rfl⟩ | exact yet_done (by decide +kernel)) (by rintro _ ⟨⟩) (w_storeP (sz := 1) (v := .int .i64 _) (r' := eStat (rP f h k 1 1 1 0 0)) rfl rfl rfl rfl rfl rfl rfl rfl (by show _ ≤ 27; omega) sc) ?_
    refine Z1l ?_
    refine Zj6 ?_
    refine Zj9 ?_
    refine aqp 4 rfl (by decide +kernel) (by decide) (fun G => w_load1 (v := .int .i64 _) rfl (lk rfl rfl) rfl rfl fd) ?_
    refine Zjb ?_
    refine Zjc ?_
    refine Zbl ?_
    refine Zjd ?_
    refine aqp 9 rfl (by decide +kernel) (by decide) (fun G => w_load1 (v := .int .i64 _) rfl (lk rfl rfl) rfl rfl hd) ?_
    refine Zjf ?_
    refine aq0 11 rfl (by decide +kernel) (by decide) (fun _ => o_add (r := snear (f (15 + k)) + snear (h (15 + k))) rfl rfl (wrap64_ok (by omega) (by omega))) ?_
    refine Zjg ?_
    refine Zjh ?_
    refine Zji ?_
    refine aqs 15 rfl (by decide +kernel) (by first | exact fun _ => trivial | exact fun _ => ⟨_, rfl⟩ | exact fun _ => ⟨_, rfl, rfl⟩ | exact fun _ => ⟨_, rfl, rfl, rfl⟩ | exact yet_done (by decide +kernel)) (by rintro _ ⟨⟩) (w_storeP (sz := 1) (v := .int .i64 _) (r' := eStat (rP f h (k + 1) 0 0 0 0 0)) rfl rfl rfl rfl rfl rfl rfl rfl (by show _ ≤ 27; omega) sd) ?_
    refine Z1k ?_
    refine Z2f ?_
    exact ⟨k + 1, by omega, by omega, (by repeat (first | exact Sub.nil | refine Sub.cons (by first | rfl | (simp [get]; done)) ?_)), .refl _ _⟩
  · have : k = 5 := by simp at hc; omega
    subst this
    refine Z58 ?_
    refine aw_loop (G := Nat) (fun k => k ≤ 7) (fun k => [(2, .pt (Lid H.length 0) 0 0 0), (3, .pt (Lid H.length 1) 0 0 0), (4, .pt (Lid H.length 2) 0 0 0), (5, .pt (Lid H.length 3) 0 0 0), (7, .int .i64 (k : Int))]) (fun k => H ++ [⟨0, 27, [eStat f]⟩, ⟨0, 27, [eStat h]⟩, ⟨0, 27, [eStat snone]⟩, ⟨0, 27, [eStat (rP f h 5 0 0 0 0 k)]⟩]) (fun k => 7 - k) 0 (Nat.zero_le _) (by repeat (first | exact Sub.nil | refine Sub.cons (by first | rfl | (simp [get]; done)) ?_)) (.inl rfl) ?_
    intro k hk
    refine Z1n ?_
    refine aw_cond rfl (fun hc => ?_) (fun hc => ?_)
    · have hlt : k < 7 := by simp at hc; omega
      have i1 := snear_in (f (20 + k))
      have i2 := snear_in (h (20 + k))
      have fa : (eStat f)[0 + 20 + k * 1]? = some (.int .i64 (f (20 + k))) := by rw [show 0 + 20 + k * 1 = 20 + k by omega]; exact eStat_get _ (by omega)
      have ha : (eStat h)[0 + 20 + k * 1]? = some (.int .i64 (h (20 + k))) := by rw [show 0 + 20 + k * 1 = 20 + k by omega]; exact eStat_get _ (by omega)
      have sa : (eStat (rP f h 5 0 0 0 0 k)).take (0 + 20 + k * 1) ++ [AV.int .i64 (splus f h (20 + k))] ++ (eStat (rP f h 5 0 0 0 0 k)).drop (0 + 20 + k * 1 + 1) = eStat (rP f h 5 0 0 0 0 (k + 1)) := by rw [show 0 + 20 + k * 1 = 20 + k by omega]; exact rset (by omega) (rP_m f h hlt)
      refine Z1 ?_
      refine Zj6 ?_
      refine Zj9 ?_
      refine Zja ?_
      refine Zjb ?_
      refine Zjc ?_
      refine Zbl ?_
      refine Zjd ?_
      refine Zje ?_
      refine Zjf ?_
      refine aq0 11 rfl (by decide +kernel) (by decide) (fun _ => o_add (r := snear (f (20 + k)) + snear (h (20 + k))) rfl rfl (wrap64_ok (by omega) (by omega))) ?_
      refine Zjg ?_
      refine Zjh ?_
      refine Zji ?_
      refine aqs 15 rfl (by decide +kernel) (by first | exact fun _ => trivial | exact fun _ => ⟨_, rfl⟩ | exact fun _ => ⟨_, rfl, rfl⟩ | exact fun _ => ⟨_, rfl, rfl, rfl⟩ | exact yet_done (by decide +kernel)) (by rintro _ ⟨⟩) (w_storeP (sz := 1) (v := .int .i64 _) (r' := eStat (rP f h 5 0 0 0 0 (k + 1))) rfl rfl rfl rfl rfl rfl rfl rfl (by show _ ≤ 27; omega) sa) ?_
      refine Z1k ?_
      refine Z2f ?_
      exact ⟨k + 1, by omega, by omega, (by repeat (first | exact Sub.nil | refine Sub.cons (by first | rfl | (simp [get]; done)) ?_)), .refl _ _⟩
    · have : k = 7 := by simp at hc; omega
      subst this
      rw [eStat_congr (rP_all f h)]
      refine Zjk ?_
      refine Zjl ?_
      exact Zbe
theorem rstep {f f' : Nat → Int} {c : Nat} (hc : c < 27) (h : ∀ j, j < 27 → f' j = if j = c then f j + 1 else f j) : (eStat f).take c ++ [AV.int .i64 (f c + 1)] ++ (eStat f).drop (c + 1) = eStat f' := rset hc fun j hj => by
  rw [h j hj]
  split
  · rename_i e; rw [e]
  · rfl
set_option maxHeartbeats 0 in
theorem ref23_Of (i : Inst) (H : Heap) (hw : IW i) (ht : TagsW i) : AC Tryz.prog 12 [.agg (eInst i)] H (Ret (.agg (eStat (istat i))) H) := by
  have w1 := hw.graph
  have w2 := hw.jobs
  have w3 := hw.table
  have w5 := hw.lease
  have t1 := ht.graph
  have w6 := w3.1
  have hbel : ∀ (b : Nat) (f : Nat → Int), ∀ o ∈ [AObj.mk 0 9 [eInst i], AObj.mk 0 27 [eStat snone], AObj.mk 0 27 [eStat f]], ∀ r ∈ o.rows, AV.bels b r = true := by
    intro b f o ho r hr
    simp only [List.mem_cons, List.not_mem_nil, or_false] at ho
    rcases ho with rfl | rfl | rfl <;> (simp only [List.mem_singleton] at hr; subst hr; rfl)
  refine AC.body (N := 100) [.cell 2 31] Tryz.func12 rfl rfl rfl (Nat.le_of_ble_eq_true rfl) fun B hB => ?_
  refine Zh5 ?_
  refine Zj5 ?_
  refine Zj5 ?_
  refine Ziv ?_
  refine ao_ret (ref16_Right _ _ (by assumption) (by assumption)) rfl (by decide) ?_
  refine Z3u ?_
  refine aw_cond rfl (fun hc => ?_) (fun hc => ?_)
  · have hno : iright i = false := by simpa only [Bool.not_eq_true'] using hc
    rw [show istat i = snone by rw [istat, hno]; rfl]
    refine Zjk ?_
    refine Zjl ?_
    exact Zbe
  have hyes : iright i = true := by simpa only [Bool.not_eq_false'] using hc
  have hg := iright_graph hyes
  have hh := iright_health hyes
  have hl := iright_lease hyes
  have htr := iright_table hyes
  have hjr := iright_jobs hyes
  clear hc
  refine Z58 ?_
  refine aw_loop (G := Nat) (fun n => n ≤ i.graph.length) (fun n => [(1, .pt (Lid H.length 0) 0 0 0), (2, .pt (Lid H.length 1) 0 0 0), (3, .pt (Lid H.length 2) 0 0 0), (4, .int .i64 (n : Int))]) (fun n => H ++ [⟨0, 9, [eInst i]⟩, ⟨0, 27, [eStat snone]⟩, ⟨0, 27, [eStat (rOf i n 0)]⟩]) (fun n => i.graph.length - n) 0 (Nat.zero_le _) (by repeat (first | exact Sub.nil | refine Sub.cons (by first | rfl | (simp [get]; done)) ?_)) (.inl (by rw [eStat_congr (fun j _ => rOf_zero i j)]; rfl)) ?_
  intro n hn
  have hle := rOf_le i n 0
  refine Z59 ?_
  refine Z1e ?_
  refine aw_cond rfl (fun hc => ?_) (fun hc => ?_)
  · have hlt : n < i.graph.length := by simpa using hc
    obtain ⟨t, ht', htl⟩ := get_in hlt
    have hr := map_get eThing ht'
    have hk := gright_kind hg ht'
    obtain ⟨c, hcc⟩ : ∃ c : Nat, t.kind = (c : Int) := ⟨t.kind.toNat, by omega⟩
    have hc5 : c < 5 := by omega
    have hka : kindAt i.graph n = (c : Int) := by rw [kindAt, ht']; exact hcc
    clear hc
    refine Zi3 ?_
    refine Zdg ?_
    refine Z2u ?_
    refine Zdh ?_
    refine Z3 ?_
    refine Z6 ?_
    clear hr
    refine Z1p ?_
    refine Z1d ?_
    refine aw_loop (G := Nat) (fun m => m ≤ i.table.length) (fun m => [(1, .pt (Lid H.length 0) 0 0 0), (2, .pt (Lid H.length 1) 0 0 0), (3, .pt (Lid H.length 2) 0 0 0), (4, .int .i64 (n : Int)), (5, .int .i64 t.kind), (6, .bool ((i.table.take m).any fun h => inl h.things n)), (7, .int .i64 (m : Int))]) (fun m => H ++ [⟨0, 9, [eInst i]⟩, ⟨0, 27, [eStat snone]⟩, ⟨0, 27, [eStat (rOf i n 0)]⟩]) (fun m => i.table.length - m) 0 (Nat.zero_le _) (by repeat (first | exact Sub.nil | refine Sub.cons (by first | rfl | (simp [get]; done)) ?_)) (.inl rfl) ?_
    intro m hm
    refine Z59 ?_
    refine Z1e ?_
    refine aw_cond rfl (fun hc => ?_) (fun hc => ?_)
    · have hlm : m < i.table.length := by simpa using hc
      obtain ⟨x, hx, hxl⟩ := get_in hlm
      have hrx := map_get eHeld hx
      have hxw := w3.2 x hxl
      have hsx := hmay_sok ((held_iff.1 htr).2.1 x hxl)
      have hany : (i.table.take (m + 1)).any (fun h => inl h.things n) = ((i.table.take m).any (fun h => inl h.things n) || inl x.things n) := by rw [take_snoc_get hx, List.any_append]; simp
      clear hc
      refine Zi3 ?_
      refine Zjm ?_
      refine Z2u ?_
      refine ao1 (by decide) (o_load1p (v := .pl _) rfl hrx rfl) ?_
      refine Za ?_
      refine Zjn ?_
      refine Z6 ?_
      rw [hsx, Bool.true_and]
      refine Z1 ?_
      refine aw_cond rfl (fun hc => ?_) (fun hc => ?_)
      · refine Z1s ?_
        refine Z2e ?_
        exact ⟨m + 1, by omega, by omega, by rw [hany, hc, Bool.or_true]; exact (by repeat (first | exact Sub.nil | refine Sub.cons (by first | rfl | (simp [get]; done)) ?_)), .inl rfl⟩
      · refine Z2f ?_
        exact ⟨m + 1, by omega, by omega, by rw [hany, hc, Bool.or_false]; exact (by repeat (first | exact Sub.nil | refine Sub.cons (by first | rfl | (simp [get]; done)) ?_)), .inl rfl⟩
    · have : m = i.table.length := by simp at hc; omega
      subst this
      clear hc
      rw [List.take_length, show (i.table.any fun h => inl h.things n) = hbB i n from rfl]
      refine Z2 ?_
      refine Zj ?_
      refine Zb ?_
      refine aw_cond rfl (fun hc => ?_) (fun hc => ?_)
      · have hst := rOf_held (m := 0) hka hc5 hc
        have hcell : (eStat (rOf i n 0))[0 + 5 + c * 1]? = some (.int .i64 (rOf i n 0 (5 + c))) := by rw [show 0 + 5 + c * 1 = 5 + c by omega]; exact eStat_get _ (by omega)
        have hset : (eStat (rOf i n 0)).take (0 + 5 + c * 1) ++ [AV.int .i64 (rOf i n 0 (5 + c) + 1)] ++ (eStat (rOf i n 0)).drop (0 + 5 + c * 1 + 1) = eStat (rOf i (n + 1) 0) := by rw [show 0 + 5 + c * 1 = 5 + c by omega]; exact rstep (by omega) fun j _ => hst j
        have hb := hle (5 + c)
        refine Z6q ?_
        refine Zbg ?_
        refine Zbh ?_
        refine ao1 (by decide) (o_add (r := rOf i n 0 (5 + c) + 1) rfl rfl (wrap64_ok (by omega) (by omega))) ?_
        refine Z2u ?_
        refine Zbg ?_
        refine Zjo ?_
        refine Z14 ?_
        refine Z2e ?_
        exact ⟨n + 1, by omega, by omega, (by repeat (first | exact Sub.nil | refine Sub.cons (by first | rfl | (simp [get]; done)) ?_)), .inl rfl⟩
      have hnb := hc
      clear hc
      refine Z1 ?_
      refine aw_out 61 (.bool (inl i.lease n && decide (wW i.graph i.health n = 0))) ?_ ?_
      · refine Zi2 ?_
        refine Zjn ?_
        refine Zj ?_
        refine ao_split rfl rfl (fun hg4 => ?_) (fun hg4 => ?_)
        · refine Z72 ?_
          refine Zl ?_
          refine ao_y rfl rfl (by decide) (V2.call (ref06_Worst _ _ _ _ (by assumption) (by assumption) (by assumption)) rfl) ?_
          refine Z3p ?_
          refine Zn ?_
          exact Zjp
        · refine Z29 ?_
          refine Z1x ?_
          refine Zn ?_
          exact Zjp
      refine Z1 ?_
      refine aw_cond rfl (fun hc => ?_) (fun hc => ?_)
      · have hst := rOf_free (m := 0) hka hc5 hnb hc
        have hcell : (eStat (rOf i n 0))[0 + 0 + c * 1]? = some (.int .i64 (rOf i n 0 c)) := by rw [show 0 + 0 + c * 1 = c by omega]; exact eStat_get _ (by omega)
        have hset : (eStat (rOf i n 0)).take (0 + 0 + c * 1) ++ [AV.int .i64 (rOf i n 0 c + 1)] ++ (eStat (rOf i n 0)).drop (0 + 0 + c * 1 + 1) = eStat (rOf i (n + 1) 0) := by rw [show 0 + 0 + c * 1 = c by omega]; exact rstep (by omega) fun j _ => hst j
        have hb := hle c
        refine Z6q ?_
        refine Zbg ?_
        refine Zbh ?_
        refine ao1 (by decide) (o_add (r := rOf i n 0 c + 1) rfl rfl (wrap64_ok (by omega) (by omega))) ?_
        refine Z2u ?_
        refine Zbg ?_
        refine Zjo ?_
        refine Z14 ?_
        refine Z2e ?_
        exact ⟨n + 1, by omega, by omega, (by repeat (first | exact Sub.nil | refine Sub.cons (by first | rfl | (simp [get]; done)) ?_)), .inl rfl⟩
      have hnf := hc
      clear hc
      refine Zi3 ?_
      refine Zjn ?_
      refine Z6 ?_
      rw [hl, Bool.true_and]
      refine Z1 ?_
      refine aw_cond rfl (fun hc => ?_) (fun hc => ?_)
      · have hst := rOf_gone (m := 0) hka hc5 hnb hnf hc
        have hcell : (eStat (rOf i n 0))[0 + 10 + c * 1]? = some (.int .i64 (rOf i n 0 (10 + c))) := by rw [show 0 + 10 + c * 1 = 10 + c by omega]; exact eStat_get _ (by omega)
        have hset : (eStat (rOf i n 0)).take (0 + 10 + c * 1) ++ [AV.int .i64 (rOf i n 0 (10 + c) + 1)] ++ (eStat (rOf i n 0)).drop (0 + 10 + c * 1 + 1) = eStat (rOf i (n + 1) 0) := by rw [show 0 + 10 + c * 1 = 10 + c by omega]; exact rstep (by omega) fun j _ => hst j
        have hb := hle (10 + c)
        refine Z6q ?_
        refine Zbg ?_
        refine Zbh ?_
        refine ao1 (by decide) (o_add (r := rOf i n 0 (10 + c) + 1) rfl rfl (wrap64_ok (by omega) (by omega))) ?_
        refine Z2u ?_
        refine Zbg ?_
        refine Zjo ?_
        refine Z14 ?_
        refine Z2e ?_
        exact ⟨n + 1, by omega, by omega, (by repeat (first | exact Sub.nil | refine Sub.cons (by first | rfl | (simp [get]; done)) ?_)), .inl rfl⟩
      · have hst := rOf_none (m := 0) hnb hc
        refine Z2f ?_
        exact ⟨n + 1, by omega, by omega, (by repeat (first | exact Sub.nil | refine Sub.cons (by first | rfl | (simp [get]; done)) ?_)), .inl (by rw [eStat_congr fun j _ => hst j])⟩
  · have : n = i.graph.length := by simp at hc; omega
    subst this
    clear hc
    refine Z58 ?_
    refine aw_loop (G := Nat) (fun m => m ≤ i.jobs.length) (fun m => [(1, .pt (Lid H.length 0) 0 0 0), (2, .pt (Lid H.length 1) 0 0 0), (3, .pt (Lid H.length 2) 0 0 0), (8, .int .i64 (m : Int))]) (fun m => H ++ [⟨0, 9, [eInst i]⟩, ⟨0, 27, [eStat snone]⟩, ⟨0, 27, [eStat (rOf i i.graph.length m)]⟩]) (fun m => i.jobs.length - m) 0 (Nat.zero_le _) (by repeat (first | exact Sub.nil | refine Sub.cons (by first | rfl | (simp [get]; done)) ?_)) (.inl rfl) ?_
    intro m hm
    have hle2 := rOf_le i i.graph.length m
    refine Z59 ?_
    refine Z1e ?_
    refine aw_cond rfl (fun hc => ?_) (fun hc => ?_)
    · have hlm : m < i.jobs.length := by simpa using hc
      obtain ⟨x, hx, hxl⟩ := get_in hlm
      have hrx := map_get eJob hx
      obtain ⟨c, hcc, hc7⟩ : ∃ c : Nat, x.state = c ∧ c < 7 := ⟨x.state.toNat, by have := jright_state ((jobs_iff.1 hjr).2.1 x hxl); omega, by have := jright_state ((jobs_iff.1 hjr).2.1 x hxl); omega⟩
      have hst := rOf_job (n := i.graph.length) hx hcc hc7
      have hcell : (eStat (rOf i i.graph.length m))[0 + 20 + c * 1]? = some (.int .i64 (rOf i i.graph.length m (20 + c))) := by rw [show 0 + 20 + c * 1 = 20 + c by omega]; exact eStat_get _ (by omega)
      have hset : (eStat (rOf i i.graph.length m)).take (0 + 20 + c * 1) ++ [AV.int .i64 (rOf i i.graph.length m (20 + c) + 1)] ++ (eStat (rOf i i.graph.length m)).drop (0 + 20 + c * 1 + 1) = eStat (rOf i i.graph.length (m + 1)) := by rw [show 0 + 20 + c * 1 = 20 + c by omega]; exact rstep (by omega) fun j hj => hst j hj
      have hb := hle2 (20 + c)
      clear hc
      refine Zi3 ?_
      refine Zjm ?_
      refine Z2u ?_
      refine ao1 (by decide) (o_load1p (v := .int _ _) rfl hrx rfl) ?_
      refine Z2u ?_
      refine Zgx ?_
      refine Zbh ?_
      refine ao1 (by decide) (o_add (r := rOf i i.graph.length m (20 + c) + 1) rfl rfl (wrap64_ok (by omega) (by omega))) ?_
      refine Z2u ?_
      refine Zgx ?_
      refine ao2 (by rintro _ ⟨⟩) (w_storeP (sz := 1) (v := .int .i64 _) (r' := eStat (rOf i i.graph.length (m + 1))) rfl rfl rfl rfl rfl rfl rfl rfl (by show _ ≤ 27; omega) hset) ?_
      refine Z14 ?_
      refine Z2e ?_
      exact ⟨m + 1, by omega, by omega, (by repeat (first | exact Sub.nil | refine Sub.cons (by first | rfl | (simp [get]; done)) ?_)), .inl rfl⟩
    · have : m = i.jobs.length := by simp at hc; omega
      subst this
      rw [eStat_congr (rOf_istat hyes)]
      refine Zjk ?_
      refine Zjl ?_
      exact Zbe
end Go.Av

namespace Go.Av
open Go.Proofs
set_option maxRecDepth 10000
set_option linter.unusedSimpArgs false
set_option linter.unusedVariables false

theorem stat_near (n : Int) (H : Heap) : AC Tryz.prog 38 [.int .i64 n] H (Ret (.int .i64 (snear n)) H) := by
  refine AC.body (N := 6) [.tmp 2] Tryz.func38 rfl rfl rfl (Nat.le_of_ble_eq_true rfl) fun B hB => ?_
  refine Z2g ?_
  refine ao1 (by decide) (o_min (r := min n 1099511627776) rfl rfl rfl) ?_
  refine ao1 (by decide) (o_max (r := snear n) rfl rfl rfl) ?_
  exact Ze
theorem stat_Jobs (f : Nat → Int) (H : Heap) : AC Tryz.prog 15 [.agg (eStat f)] H (Ret (.int .i64 (sjobs f)) H) := by
  refine AC.body (N := 16) [.tmp 2] Tryz.func15 rfl rfl rfl (Nat.le_of_ble_eq_true rfl) fun B hB => ?_
  refine Z2 ?_
  refine Zj3 ?_
  refine Z1a ?_
  refine Z1a ?_
  refine Z2u ?_
  refine Z3t ?_
  refine Z4c ?_
  refine aw_loop (G := Nat) (fun k => k ≤ 7) (fun k => [(3, .int .i64 (sjobsL f k)), (7, .agg (eK7 fun j => f (20 + j))), (8, .int .i64 (k : Int))]) (fun _ => H ++ [⟨0, 27, [eStat f]⟩]) (fun k => 7 - k) 0 (Nat.zero_le _) (by repeat (first | exact Sub.nil | refine Sub.cons (by first | rfl | (simp [get]; done)) ?_)) (Fit.refl _ _) ?_
  intro k hk
  refine Z4d ?_
  refine aw_cond rfl (fun hc => ?_) (fun hc => ?_)
  · have hlt : k < 7 := by simp at hc; omega
    have hcell : (eK7 fun j => f (20 + j))[((k : Nat) : Int).toNat * 1]? = some (.int .i64 (f (20 + k))) := by show (eK7 _)[k * 1]? = _; rw [Nat.mul_one]; exact eK7_get _ hlt
    refine Z2 ?_
    refine ao1 (by decide) (o_index1 (sz := 1) (v := .int .i64 _) rfl rfl (by omega) (by omega) hcell) ?_
    refine Z15 ?_
    refine Za ?_
    refine ao1 (by decide) (o_add (r := sjobsL f (k + 1)) rfl rfl rfl) ?_
    refine Z1a ?_
    refine Z4k ?_
    exact ⟨k + 1, by omega, by omega, (by repeat (first | exact Sub.nil | refine Sub.cons (by first | rfl | (simp [get]; done)) ?_)), .refl _ _⟩
  · have : k = 7 := by simp at hc; omega
    subst this
    refine Z10 ?_
    exact Ze
set_option maxHeartbeats 0 in
theorem stat_Kinds (f : Nat → Int) (H : Heap) : AC Tryz.prog 14 [.agg (eStat f)] H (Ret (.agg (eK5 (skinds f))) H) := by
  refine AC.body (N := 31) [.cell 2 28] Tryz.func14 rfl rfl rfl (Nat.le_of_ble_eq_true rfl) fun B hB => ?_
  refine Z2 ?_
  refine Zj3 ?_
  refine Zb7 ?_
  refine Z7 ?_
  refine Zb7 ?_
  refine Z14 ?_
  refine Z1c ?_
  refine aw_loop (G := Nat) (fun k => k ≤ 5) (fun k => [(1, .pt (Lid H.length 0) 0 0 0), (2, .pt (Lid H.length 1) 0 0 0), (3, .pt (Lid H.length 2) 0 0 0), (5, .int .i64 (k : Int))]) (fun k => H ++ [⟨0, 27, [eStat f]⟩, ⟨0, 5, [eK5 (fun _ => 0)]⟩, ⟨0, 5, [eK5 (fun j => if j < k then skinds f j else 0)]⟩]) (fun k => 5 - k) 0 (Nat.zero_le _) (by repeat (first | exact Sub.nil | refine Sub.cons (by first | rfl | (simp [get]; done)) ?_)) (Fit.refl _ _) ?_
  intro k hk
  refine Z4d ?_
  refine aw_cond rfl (fun hc => ?_) (fun hc => ?_)
  · have hlt : k < 5 := by simp at hc; omega
    have h0 : (eStat f)[0 + 0 + k * 1]? = some (.int .i64 (f k)) := by rw [show 0 + 0 + k * 1 = k by omega]; exact eStat_get _ (by omega)
    have h1 : (eStat f)[0 + 5 + k * 1]? = some (.int .i64 (f (5 + k))) := by rw [show 0 + 5 + k * 1 = 5 + k by omega]; exact eStat_get _ (by omega)
    have h2 : (eStat f)[0 + 10 + k * 1]? = some (.int .i64 (f (10 + k))) := by rw [show 0 + 10 + k * 1 = 10 + k by omega]; exact eStat_get _ (by omega)
    have h3 : (eStat f)[0 + 15 + k * 1]? = some (.int .i64 (f (15 + k))) := by rw [show 0 + 15 + k * 1 = 15 + k by omega]; exact eStat_get _ (by omega)
    have hset : (eK5 (fun j => if j < k then skinds f j else 0)).take (0 + k * 1) ++ [AV.int .i64 (skinds f k)] ++ (eK5 (fun j => if j < k then skinds f j else 0)).drop (0 + k * 1 + 1) = eK5 (fun j => if j < k + 1 then skinds f j else 0) := by
      rw [Nat.zero_add, Nat.mul_one, eK5_set _ hlt]
      refine eK5_congr fun j _ => ?_
      by_cases e : j = k
      · subst e; simp
      · rw [if_neg e]
        by_cases e2 : j < k
        · rw [if_pos e2, if_pos (by omega)]
        · rw [if_neg e2, if_neg (by omega)]
    refine Z1u ?_
    refine aw_drawP mixed (some 21) 3 ?_
    refine Zj9 ?_
    refine aqp 4 rfl (by decide +kernel) (by decide) (fun G => w_load1 (v := .int .i64 _) rfl (lk rfl rfl) rfl rfl h0) ?_
    refine Z1m ?_
    first | refine aqp 6 rfl (by decide +kernel) (by decide) (fun G => w_fieldAddr rfl (lk rfl rfl) rfl (by decide)) ?_ | refine aqp 6 rfl (by decide +kernel) (by decide) (fun G => w_fieldAddrp rfl (by decide)) ?_ | refine aqp 6 rfl (by decide +kernel) (by decide) (fun G => w_fieldAddr rfl (lkF hF) rfl (by decide)) ?_
    refine aqp 7 rfl (by decide +kernel) (by decide) (fun G => w_indexArrN rfl (lk rfl rfl) rfl rfl hlt) ?_
    refine aqp 8 rfl (by decide +kernel) (by decide) (fun G => w_load1 (v := .int .i64 _) rfl (lk rfl rfl) rfl rfl h1) ?_
    refine aq0 9 rfl (by decide +kernel) (by decide) (fun _ => o_add rfl rfl rfl) ?_
    refine aq0 10 rfl (by decide +kernel) (by decide) (fun _ => o_move (v := .int _ _) rfl) ?_
    refine Zjq ?_
    refine aqp 12 rfl (by decide +kernel) (by decide) (fun G => w_indexArrN rfl (lk rfl rfl) rfl rfl hlt) ?_
    refine aqp 13 rfl (by decide +kernel) (by decide) (fun G => w_load1 (v := .int .i64 _) rfl (lk rfl rfl) rfl rfl h2) ?_
    refine aq0 14 rfl (by decide +kernel) (by decide) (fun _ => o_add rfl rfl rfl) ?_
    refine aq0 15 rfl (by decide +kernel) (by decide) (fun _ => o_move (v := .int _ _) rfl) ?_
    first | refine aqp 16 rfl (by decide +kernel) (by decide) (fun G => w_fieldAddr rfl (lk rfl rfl) rfl (by decide)) ?_ | refine aqp 16 rfl (by decide +kernel) (by decide) (fun G => w_fieldAddrp rfl (by decide)) ?_ | refine aqp 16 rfl (by decide +kernel) (by decide) (fun G => w_fieldAddr rfl (lkF hF) rfl (by decide)) ?_
    refine aqp 17 rfl (by decide +kernel) (by decide) (fun G => w_indexArrN rfl (lk rfl rfl) rfl rfl hlt) ?_
    refine aqp 18 rfl (by decide +kernel) (by decide) (fun G => w_load1 (v := .int .i64 _) rfl (lk rfl rfl) rfl rfl h3) ?_
    refine aq0 19 rfl (by decide +kernel) (by decide) (fun _ => o_add (r := skinds f k) rfl rfl rfl) ?_
    refine aqp 20 rfl (by decide +kernel) (by decide) (fun G => w_indexArrN rfl (lk rfl rfl) rfl rfl hlt) ?_
    refine aqs 21 rfl (by decide +kernel) (by first | exact fun _ => trivial | exact fun _ => ⟨_, rfl⟩ | exact fun _ => ⟨_, rfl, rfl⟩ | exact fun _ => ⟨_, rfl, rfl, rfl⟩ | exact yet_done (by decide +kernel)) (by rintro _ ⟨⟩) (w_storeP (sz := 1) (v := .int .i64 _) (r' := eK5 (fun j => if j < k + 1 then skinds f j else 0)) rfl rfl rfl rfl rfl rfl rfl rfl (by show _ ≤ 5; omega) hset) ?_
    refine Z1k ?_
    refine Z7a ?_
    exact ⟨k + 1, by omega, by omega, (by repeat (first | exact Sub.nil | refine Sub.cons (by first | rfl | (simp [get]; done)) ?_)), .refl _ _⟩
  · have : k = 5 := by simp at hc; omega
    subst this
    rw [show eK5 (fun j => if j < 5 then skinds f j else 0) = eK5 (skinds f) from eK5_congr fun j hj => if_pos hj]
    refine Z2 ?_
    refine Zbb ?_
    refine Zbc ?_
    exact Zbe
end Go.Av

namespace Go.Av
open Go.Proofs
set_option maxRecDepth 10000
set_option linter.unusedSimpArgs false
set_option linter.unusedVariables false

set_option maxHeartbeats 0 in
theorem stat_numbers (f : Nat → Int) (id : Nat) (H : Heap) (hid : H[id]? = some ⟨0, 27, [eStat f]⟩) : AC Tryz.prog 37 [.pt id 0 0 0] H (Ret (.sl (Lid H.length 0) 27 0 27 27) (H ++ [⟨27, 1, numRows id 27⟩])) := by
  have hF := hid
  have hlt0 : id < H.length := (List.getElem?_eq_some_iff.1 hid).1
  refine AC.body (N := 51) [.tmp 2] Tryz.func37 rfl rfl rfl (Nat.le_of_ble_eq_true rfl) fun B hB => ?_
  refine Z41 ?_
  refine Z8a ?_
  refine aw_ghostL (k := 0) 3 1 rfl (by decide) rfl ?_
  refine Z1 ?_
  refine aw_drawP mixed (some 12) 1 ?_
  refine Z1f ?_
  refine Zir ?_
  first | refine aqpz [2, 1] 1 rfl (by decide +kernel) (by decide) (fun G => w_nilCheck rfl (lk rfl rfl) rfl) ?_ | refine aqpz [2, 1] 1 rfl (by decide +kernel) (by decide) (fun G => w_nilCheck rfl (lkF hF) rfl) ?_ | refine aqpz [2, 1] 1 rfl (by decide +kernel) (by decide) (fun G => o_nilCheckp rfl) ?_
  refine Zi5 ?_
  first | refine aq0 3 rfl (by decide +kernel) (by decide) (fun _ => o_move (v := .pt _ _ _ _) rfl) ?_ | refine aq0 3 rfl (by decide +kernel) (by decide) (fun _ => o_move (v := .pp _ _ _) rfl) ?_ | refine aq0 3 rfl (by decide +kernel) (by decide) (fun _ => o_move (v := .nptr) rfl) ?_
  first | refine aqpz [5, 4] 4 rfl (by decide +kernel) (by decide) (fun G => w_nilCheck rfl (lk rfl rfl) rfl) ?_ | refine aqpz [5, 4] 4 rfl (by decide +kernel) (by decide) (fun G => w_nilCheck rfl (lkF hF) rfl) ?_ | refine aqpz [5, 4] 4 rfl (by decide +kernel) (by decide) (fun G => o_nilCheckp rfl) ?_
  refine Zj0 ?_
  first | refine aq0 6 rfl (by decide +kernel) (by decide) (fun _ => o_move (v := .pt _ _ _ _) rfl) ?_ | refine aq0 6 rfl (by decide +kernel) (by decide) (fun _ => o_move (v := .pp _ _ _) rfl) ?_ | refine aq0 6 rfl (by decide +kernel) (by decide) (fun _ => o_move (v := .nptr) rfl) ?_
  first | refine aqpz [8, 7] 7 rfl (by decide +kernel) (by decide) (fun G => w_nilCheck rfl (lk rfl rfl) rfl) ?_ | refine aqpz [8, 7] 7 rfl (by decide +kernel) (by decide) (fun G => w_nilCheck rfl (lkF hF) rfl) ?_ | refine aqpz [8, 7] 7 rfl (by decide +kernel) (by decide) (fun G => o_nilCheckp rfl) ?_
  refine Zis ?_
  first | refine aq0 9 rfl (by decide +kernel) (by decide) (fun _ => o_move (v := .pt _ _ _ _) rfl) ?_ | refine aq0 9 rfl (by decide +kernel) (by decide) (fun _ => o_move (v := .pp _ _ _) rfl) ?_ | refine aq0 9 rfl (by decide +kernel) (by decide) (fun _ => o_move (v := .nptr) rfl) ?_
  first | refine aqpz [11, 10] 10 rfl (by decide +kernel) (by decide) (fun G => w_nilCheck rfl (lk rfl rfl) rfl) ?_ | refine aqpz [11, 10] 10 rfl (by decide +kernel) (by decide) (fun G => w_nilCheck rfl (lkF hF) rfl) ?_ | refine aqpz [11, 10] 10 rfl (by decide +kernel) (by decide) (fun G => o_nilCheckp rfl) ?_
  refine Zjq ?_
  refine aq0 14 rfl (by decide +kernel) (by decide) (fun _ => o_move (v := .int _ _) rfl) ?_
  refine aqs 12 rfl (by decide +kernel) (by first | exact fun _ => trivial | exact fun _ => ⟨_, rfl⟩ | exact fun _ => ⟨_, rfl, rfl⟩ | exact fun _ => ⟨_, rfl, rfl, rfl⟩ | exact yet_done (by decide +kernel)) (by rintro _ ⟨⟩; decide) (o_buildSliceL (rows := [[_], [_], [_], [_]]) rfl (by decide) (by decide) (by decide) rfl rfl (by simp) rfl) ?_
  refine aqs 13 rfl (by decide +kernel) (by first | exact fun _ => trivial | exact fun _ => ⟨_, rfl⟩ | exact fun _ => ⟨_, rfl, rfl⟩ | exact fun _ => ⟨_, rfl, rfl, rfl⟩ | exact yet_done (by decide +kernel)) (by rintro _ ⟨⟩; decide) (V1.toV2 (w_lens rfl (lk rfl rfl) rfl)) ?_
  refine Z1k ?_
  refine Z1b ?_
  refine aw_loop (G := Nat) (fun i => i ≤ 4) (fun i => [(0, .pt id 0 0 0), (3, .sl (Lid H.length 0) (5 * i) 0 (5 * i) (5 * i)), (20, .sl (Lid H.length 1) 0 0 4 4), (21, .int .i64 4), (22, .int .i64 (i : Int))]) (fun i => H ++ [⟨5 * i, 1, numRows id (5 * i)⟩, ⟨0, 1, arrRows id⟩]) (fun i => 4 - i) 0 (Nat.zero_le _) (by repeat (first | exact Sub.nil | refine Sub.cons (by first | rfl | (simp [get]; done)) ?_)) (.inl rfl) ?_
  intro i hi
  have hbel : ∀ (b m : Nat), id < b → ∀ o ∈ [AObj.mk m 1 (numRows id m), AObj.mk 0 1 (arrRows id)], ∀ r ∈ o.rows, AV.bels b r = true := by
    intro b m hb o ho r hr
    simp only [List.mem_cons, List.not_mem_nil, or_false] at ho
    rcases ho with rfl | rfl
    · exact numRows_bel hb _ r hr
    · exact arrRows_bel hb r hr
  refine Z4d ?_
  refine aw_cond rfl (fun hc => ?_) (fun hc => ?_)
  · have hlt : i < 4 := by simp at hc; omega
    have hr : (arrRows id)[0 + i]? = some [.pt id 0 0 (5 * i)] := by rw [Nat.zero_add]; exact arrRows_get (id := id) hlt
    refine Z2 ?_
    refine Zb2 ?_
    refine ao1 (by decide) (w_load1 (v := .pt _ _ _ _) rfl (lk rfl rfl) rfl hr rfl) ?_
    refine Ziy ?_
    refine Z14 ?_
    refine Z1c ?_
    refine aw_loop (G := Nat) (fun k => k ≤ 5) (fun k => [(0, .pt id 0 0 0), (3, .sl (Lid H.length 0) (5 * i + k) 0 (5 * i + k) (5 * i + k)), (5, .pt id 0 0 (5 * i)), (20, .sl (Lid H.length 1) 0 0 4 4), (21, .int .i64 4), (22, .int .i64 (i : Int)), (26, .int .i64 (k : Int))]) (fun k => H ++ [⟨5 * i + k, 1, numRows id (5 * i + k)⟩, ⟨0, 1, arrRows id⟩]) (fun k => 5 - k) 0 (Nat.zero_le _) (by repeat (first | exact Sub.nil | refine Sub.cons (by first | rfl | (simp [get]; done)) ?_)) (.inl rfl) ?_
    intro k hk
    refine Z4d ?_
    refine aw_cond rfl (fun hc => ?_) (fun hc => ?_)
    · have hltk : k < 5 := by simp at hc; omega
      have hap : (numRows id (5 * i + k)).take (5 * i + k) ++ [[AV.pt id 0 0 (5 * i + k * 1)]] = numRows id (5 * i + (k + 1)) := by
        rw [List.take_of_length_le (by rw [numRows_len]; exact Nat.le_refl _), ← Nat.add_assoc, numRows_succ, Nat.mul_one]
      refine Z10 ?_
      refine Z1a ?_
      refine Z45 ?_
      refine Zjr ?_
      refine Za ?_
      refine Zjs ?_
      refine Zjt ?_
      refine Zju ?_
      refine ao2 (by rintro _ ⟨⟩; decide) (w_append rfl rfl rfl rfl rfl (w_srcs (ys := [[.pt id 0 0 (5 * i + k * 1)]]) rfl rfl rfl rfl rfl rfl rfl) rfl (by show _ ≤ (numRows id (5 * i + k)).length; rw [numRows_len]; exact Nat.le_refl _) (by show 0 < 1; decide) (by simp; omega) (by simp; omega)) ?_
      refine Z8g ?_
      rw [hap]
      refine Z7a ?_
      exact ⟨k + 1, by omega, by omega, (by repeat (first | exact Sub.nil | refine Sub.cons (by first | rfl | (simp [get]; done)) ?_)), Fit.loc hB rfl (by repeat (first | exact EBel.nil | refine EBel.cons (by first | rfl | (simp [AV.bel, Lid]; done) | (simp [AV.bel, Lid]; omega)) ?_)) (hbel _ _ (by simp; omega))⟩
    · have : k = 5 := by simp at hc; omega
      subst this
      refine Z7a ?_
      exact ⟨i + 1, by omega, by omega, by rw [show 5 * (i + 1) = 5 * i + 5 by omega]; exact (by repeat (first | exact Sub.nil | refine Sub.cons (by first | rfl | (simp [get]; done)) ?_)), .inl (by rw [show 5 * (i + 1) = 5 * i + 5 by omega])⟩
  · have : i = 4 := by simp at hc; omega
    subst this
    refine Z10 ?_
    refine Z1c ?_
    refine aw_loop (G := Nat) (fun k => k ≤ 7) (fun k => [(0, .pt id 0 0 0), (3, .sl (Lid H.length 0) (20 + k) 0 (20 + k) (20 + k)), (38, .int .i64 (k : Int))]) (fun k => H ++ [⟨20 + k, 1, numRows id (20 + k)⟩, ⟨0, 1, arrRows id⟩]) (fun k => 7 - k) 0 (Nat.zero_le _) (by repeat (first | exact Sub.nil | refine Sub.cons (by first | rfl | (simp [get]; done)) ?_)) (.inl rfl) ?_
    intro k hk
    refine Z4d ?_
    refine aw_cond rfl (fun hc => ?_) (fun hc => ?_)
    · have hltk : k < 7 := by simp at hc; omega
      have hap : (numRows id (20 + k)).take (20 + k) ++ [[AV.pt id 0 0 (0 + 20 + k * 1)]] = numRows id (20 + (k + 1)) := by
        rw [List.take_of_length_le (by rw [numRows_len]; exact Nat.le_refl _), ← Nat.add_assoc, numRows_succ, Nat.mul_one, Nat.zero_add]
      refine Z10 ?_
      refine Z1a ?_
      refine Z45 ?_
      refine Zjr ?_
      refine Za ?_
      refine Zjs ?_
      refine Z2u ?_
      refine Zjt ?_
      refine Zju ?_
      refine ao2 (by rintro _ ⟨⟩; decide) (w_append rfl rfl rfl rfl rfl (w_srcs (ys := [[.pt id 0 0 (0 + 20 + k * 1)]]) rfl rfl rfl rfl rfl rfl rfl) rfl (by show _ ≤ (numRows id (20 + k)).length; rw [numRows_len]; exact Nat.le_refl _) (by show 0 < 1; decide) (by simp; omega) (by simp; omega)) ?_
      refine Z8g ?_
      rw [hap]
      refine Z7a ?_
      exact ⟨k + 1, by omega, by omega, (by repeat (first | exact Sub.nil | refine Sub.cons (by first | rfl | (simp [get]; done)) ?_)), Fit.loc hB rfl (by repeat (first | exact EBel.nil | refine EBel.cons (by first | rfl | (simp [AV.bel, Lid]; done) | (simp [AV.bel, Lid]; omega)) ?_)) (hbel _ _ (by simp; omega))⟩
    · have : k = 7 := by simp at hc; omega
      subst this
      refine Z8c ?_
      refine Z46 ?_
      exact e_keep (K := [⟨27, 1, numRows id 27⟩]) (G := [⟨0, 1, arrRows id⟩]) hB (r_tmp rfl .nil) rfl rfl (by simp [AV.bel, Lid]) (by intro o ho r hr; simp only [List.mem_singleton] at ho; subst ho; exact numRows_bel (by simp; omega) _ r hr)
end Go.Av

namespace Go.Av
open Go.Proofs
set_option maxRecDepth 10000
set_option linter.unusedSimpArgs false
set_option linter.unusedVariables false

set_option maxHeartbeats 0 in
theorem stat_Plus (f h : Nat → Int) (H : Heap) : AC Tryz.prog 10 [.agg (eStat f), .agg (eStat h)] H (Ret (.agg (eStat (splus f h))) H) := by
  refine AC.body (N := 33) [.cell 4 31] Tryz.func10 rfl rfl rfl (Nat.le_of_ble_eq_true rfl) fun B hB => ?_
  refine Z2 ?_
  refine Zj3 ?_
  refine Zj3 ?_
  refine Zj5 ?_
  refine ao2 (by rintro _ ⟨⟩; decide) (V2.callo (stat_numbers h _ _ (lk rfl rfl)) rfl rfl) ?_
  refine Z89 ?_
  refine ao2 (by rintro _ ⟨⟩; decide) (V2.callo (stat_numbers f _ _ (lk rfl rfl)) rfl rfl) ?_
  refine Z9s ?_
  refine aw_loop (G := Nat) (fun i => i ≤ 27) (fun i => [(2, .pt (Lid H.length 0) 0 0 0), (4, .pt (Lid H.length 2) 0 0 0), (5, .sl (Lid H.length 3) 27 0 27 27), (9, .sl (Lid H.length 4) 27 0 27 27), (10, .int .i64 27), (11, .int .i64 (i : Int))]) (fun i => H ++ [⟨0, 27, [eStat (splusN f h i)]⟩, ⟨0, 27, [eStat h]⟩, ⟨0, 27, [eStat snone]⟩, ⟨27, 1, numRows (Lid H.length 1) 27⟩, ⟨27, 1, numRows (Lid H.length 0) 27⟩]) (fun i => 27 - i) 0 (Nat.zero_le _) (by repeat (first | exact Sub.nil | refine Sub.cons (by first | rfl | (simp [get]; done)) ?_)) (.inl rfl) ?_
  intro i hi
  refine Z4d ?_
  refine aw_cond rfl (fun hc => ?_) (fun hc => ?_)
  · have hlt : i < 27 := by simp at hc; omega
    have hra : (numRows (Lid H.length 0) 27)[0 + i]? = some [.pt (Lid H.length 0) 0 0 i] := by rw [Nat.zero_add]; exact numRows_get hlt
    have hrb : (numRows (Lid H.length 1) 27)[0 + i]? = some [.pt (Lid H.length 1) 0 0 i] := by rw [Nat.zero_add]; exact numRows_get hlt
    have ha : (eStat (splusN f h i))[i]? = some (.int .i64 (f i)) := by rw [eStat_get _ hlt, splusN, if_neg (Nat.lt_irrefl _)]
    have hb : (eStat h)[i]? = some (.int .i64 (h i)) := eStat_get _ hlt
    have n1 : 0 ≤ snear (f i) ∧ snear (f i) ≤ 1099511627776 := by simp only [snear]; omega
    have n2 : 0 ≤ snear (h i) ∧ snear (h i) ≤ 1099511627776 := by simp only [snear]; omega
    have hset : (eStat (splusN f h i)).take i ++ [AV.int .i64 (splus f h i)] ++ (eStat (splusN f h i)).drop (i + 1) = eStat (splusN f h (i + 1)) := by
      rw [eStat_set _ hlt]
      refine eStat_congr fun j _ => ?_
      simp only [splusN]
      by_cases e : j = i
      · subst e; simp
      · rw [if_neg e]
        by_cases e2 : j < i
        · rw [if_pos e2, if_pos (by omega)]
        · rw [if_neg e2, if_neg (by omega)]
    refine Z10 ?_
    refine Zb2 ?_
    refine ao1 (by decide) (w_load1 (v := .pt _ _ _ _) rfl (lk rfl rfl) rfl hra rfl) ?_
    refine Z3 ?_
    refine Ziy ?_
    refine Zb ?_
    refine aw_drawP mixed (some 15) 5 ?_
    refine Z1f ?_
    refine Zir ?_
    first | refine aq0 1 rfl (by decide +kernel) (by decide) (fun _ => o_move (v := .pt _ _ _ _) rfl) ?_ | refine aq0 1 rfl (by decide +kernel) (by decide) (fun _ => o_move (v := .pp _ _ _) rfl) ?_ | refine aq0 1 rfl (by decide +kernel) (by decide) (fun _ => o_move (v := .nptr) rfl) ?_
    first | refine aqp 2 rfl (by decide +kernel) (by decide) (fun G => w_nilCheck rfl (lk rfl rfl) rfl) ?_ | refine aqp 2 rfl (by decide +kernel) (by decide) (fun G => w_nilCheck rfl (lkF hF) rfl) ?_ | refine aqp 2 rfl (by decide +kernel) (by decide) (fun G => o_nilCheckp rfl) ?_
    refine aqp 3 rfl (by decide +kernel) (by decide) (fun G => w_load1 (v := .int .i64 _) rfl (lk rfl rfl) rfl rfl ha) ?_
    refine aq02 4 rfl (by decide +kernel) (by decide) (fun _ => V2.call (stat_near _ _) rfl) ?_
    refine Zjv ?_
    refine Zjc ?_
    refine aqp 7 rfl (by decide +kernel) (by decide) (fun G => w_indexAddrN rfl (lk rfl rfl) rfl rfl rfl (by omega)) ?_
    refine aqp 8 rfl (by decide +kernel) (by decide) (fun G => w_load1 (v := .pt _ _ _ _) rfl (lk rfl rfl) rfl hrb rfl) ?_
    first | refine aqp 9 rfl (by decide +kernel) (by decide) (fun G => w_nilCheck rfl (lk rfl rfl) rfl) ?_ | refine aqp 9 rfl (by decide +kernel) (by decide) (fun G => w_nilCheck rfl (lkF hF) rfl) ?_ | refine aqp 9 rfl (by decide +kernel) (by decide) (fun G => o_nilCheckp rfl) ?_
    refine aqp 10 rfl (by decide +kernel) (by decide) (fun G => w_load1 (v := .int .i64 _) rfl (lk rfl rfl) rfl rfl hb) ?_
    refine aq02 11 rfl (by decide +kernel) (by decide) (fun _ => V2.call (stat_near _ _) rfl) ?_
    refine aq0 12 rfl (by decide +kernel) (by decide) (fun _ => o_add (r := snear (f i) + snear (h i)) rfl rfl (wrap64_ok (by omega) (by omega))) ?_
    refine aq02 13 rfl (by decide +kernel) (by decide) (fun _ => V2.call (stat_near _ _) rfl) ?_
    first | refine aqp 14 rfl (by decide +kernel) (by decide) (fun G => w_nilCheck rfl (lk rfl rfl) rfl) ?_ | refine aqp 14 rfl (by decide +kernel) (by decide) (fun G => w_nilCheck rfl (lkF hF) rfl) ?_ | refine aqp 14 rfl (by decide +kernel) (by decide) (fun G => o_nilCheckp rfl) ?_
    refine aqs 15 rfl (by decide +kernel) (by first | exact fun _ => trivial | exact fun _ => ⟨_, rfl⟩ | exact fun _ => ⟨_, rfl, rfl⟩ | exact fun _ => ⟨_, rfl, rfl, rfl⟩ | exact yet_done (by decide +kernel)) (by rintro _ ⟨⟩) (w_storeP (sz := 1) (v := .int .i64 _) (r' := eStat (splusN f h (i + 1))) rfl rfl rfl rfl rfl rfl rfl rfl (by show _ ≤ 27; omega) hset) ?_
    refine Z1k ?_
    refine Z7a ?_
    exact ⟨i + 1, by omega, by omega, (by repeat (first | exact Sub.nil | refine Sub.cons (by first | rfl | (simp [get]; done)) ?_)), .refl _ _⟩
  · have : i = 27 := by simp at hc; omega
    subst this
    rw [show eStat (splusN f h 27) = eStat (splus f h) from eStat_congr fun j hj => by rw [splusN, if_pos hj]]
    refine Zjk ?_
    refine Zjl ?_
    exact Zbe
theorem stat_Of_1 (i : Inst) (l : List Int) (id : Nat) (H : Heap) (hw : IW i) (hl : l.length ≤ 1000000) (hg : gright i.graph = true) (hs : sok l = true) (hid : H[id]? = some ⟨0, 9, [eInst i]⟩) : AC Tryz.prog 42 [.pl (l.map eInt), .pt id 0 0 0] H (Ret (.agg (eK5 (kfun i.graph l))) H) := by
  have hF := hid
  have w1 := hw.graph
  have ck := fun H => graph_Kinds i.graph l H (by omega) (by omega)
  rw [gkinds_yes hg hs] at ck
  refine AC.body (N := 8) [.cell 3 28] Tryz.func42 rfl rfl rfl (Nat.le_of_ble_eq_true rfl) fun B hB => ?_
  refine Z2 ?_
  refine Zb7 ?_
  refine Z7 ?_
  refine Z4a ?_
  refine Z45 ?_
  refine ao2 (by rintro _ ⟨⟩; decide) (V2.call (ck _) rfl) ?_
  refine Zbc ?_
  exact Zbe
set_option maxHeartbeats 0 in
theorem stat_Of (i : Inst) (H : Heap) (hw : IW i) : ACT Tryz.prog KD 11 [.agg (eInst i)] H (Ret (.agg (eStat (istat i))) H) := by
  have w1 := hw.graph
  have w3 := hw.table
  have w4 := hw.health
  have w5 := hw.lease
  have w6 := hw.jobs
  have hfl := ifree_le i
  have hbl := heldBusy_le i.table i.now (plus i.now 1)
  have hbl2 := hbelow_le i.graph i.health 0
  refine ACT.body (N := 43) [.cell 2 31] Tryz.func11 rfl rfl rfl (Nat.le_of_ble_eq_true rfl) fun B hB => ?_
  refine Zh5 ?_
  refine Zj5 ?_
  refine Ziv ?_
  refine Ziw ?_
  refine Z3u ?_
  refine aw_cond rfl (fun hc => ?_) (fun hc => ?_)
  · have hno : iright i = false := by simpa only [Bool.not_eq_true'] using hc
    rw [show istat i = snone by rw [istat, hno]; rfl]
    refine Z2 ?_
    refine ao1 (by decide) (V1.up (o_build (cs := [.int _ _, .int _ _, .int _ _, .int _ _, .int _ _, .int _ _, .int _ _, .int _ _, .int _ _, .int _ _, .int _ _, .int _ _, .int _ _, .int _ _, .int _ _, .int _ _, .int _ _, .int _ _, .int _ _, .int _ _, .int _ _, .int _ _, .int _ _, .int _ _, .int _ _, .int _ _, .int _ _]) rfl)) ?_
    refine Zjw ?_
    exact Zbe
  have hyes : iright i = true := by simpa only [Bool.not_eq_false'] using hc
  have hg := iright_graph hyes
  have hj := iright_jobs hyes
  have s1 : sok (ifree i) = true := by rw [ifree, hyes, if_neg (by decide)]; exact sok_setop _ _ _
  have s2 : sok (heldBusy i.table i.now (plus i.now 1)) = true := sok_heldBusy _ _ _
  have cj := fun H => queue_Counts i.jobs H w6
  rw [counts_yes hj] at cj
  rw [show istat i = statS i.graph (ifree i) (ibusy i) (sless (sless i.lease (hbelow i.graph i.health 0)) (ibusy i)) i.jobs by rw [istat, hyes]; rfl]
  clear hc
  refine Z1 ?_
  refine Z9w ?_
  refine Z5a ?_
  refine Z5b ?_
  refine Zi5 ?_
  refine Zi6 ?_
  refine Ziz ?_
  first | refine aqp 5 rfl (by decide +kernel) (by decide) (fun G => w_load1 (v := .int _ _) rfl (lk rfl rfl) rfl rfl rfl) ?_ | refine aqp 5 rfl (by decide +kernel) (by decide) (fun G => w_load1 (v := .int _ _) rfl (lk rfl rfl) rfl (zadd hr) rfl) ?_ | refine aqp 5 rfl (by decide +kernel) (by decide) (fun G => w_load1 (v := .int _ _) rfl (lk rfl rfl) rfl (zadd hr1) rfl) ?_ | refine aqp 5 rfl (by decide +kernel) (by decide) (fun G => w_load1 (v := .int _ _) rfl (lk rfl rfl) rfl (zadd hr2) rfl) ?_ | refine aqp 5 rfl (by decide +kernel) (by decide) (fun G => o_load1p (v := .int _ _) rfl hr rfl) ?_ | refine aqp 5 rfl (by decide +kernel) (by decide) (fun G => o_load1p (v := .int _ _) rfl hr1 rfl) ?_ | refine aqp 5 rfl (by decide +kernel) (by decide) (fun G => o_load1p (v := .int _ _) rfl hr2 rfl) ?_ | refine aqp 5 rfl (by decide +kernel) (by decide) (fun G => w_load1 (v := .int _ _) rfl (lkF hF) rfl rfl rfl) ?_
  refine aq02 6 rfl (by decide +kernel) (by decide) (fun _ => V2.call (when_Plus _ _ _) rfl) ?_
  refine aq02 7 rfl (by decide +kernel) (by decide) (fun _ => V2.callT (held_Busy i.table i.now (plus i.now 1) _ w3) rfl rfl) ?_
  refine Zjx ?_
  refine Z1l ?_
  refine Z9w ?_
  refine Z5a ?_
  refine Z5b ?_
  refine Zi5 ?_
  first | refine aqp 3 rfl (by decide +kernel) (by decide) (fun G => w_load1 (v := .sl _ _ _ _ _) rfl (lk rfl rfl) rfl rfl rfl) ?_ | refine aqp 3 rfl (by decide +kernel) (by decide) (fun G => w_load1 (v := .pl _) rfl (lk rfl rfl) rfl rfl rfl) ?_ | refine aqp 3 rfl (by decide +kernel) (by decide) (fun G => w_load1 (v := .nsl) rfl (lk rfl rfl) rfl rfl rfl) ?_ | refine aqp 3 rfl (by decide +kernel) (by decide) (fun G => w_load1 (v := .sl _ _ _ _ _) rfl (lk rfl rfl) rfl (zadd hr) rfl) ?_ | refine aqp 3 rfl (by decide +kernel) (by decide) (fun G => w_load1 (v := .sl _ _ _ _ _) rfl (lk rfl rfl) rfl (zadd hr1) rfl) ?_ | refine aqp 3 rfl (by decide +kernel) (by decide) (fun G => w_load1 (v := .sl _ _ _ _ _) rfl (lk rfl rfl) rfl (zadd hr2) rfl) ?_ | refine aqp 3 rfl (by decide +kernel) (by decide) (fun G => w_load1 (v := .pl _) rfl (lk rfl rfl) rfl (zadd hr) rfl) ?_ | refine aqp 3 rfl (by decide +kernel) (by decide) (fun G => w_load1 (v := .pl _) rfl (lk rfl rfl) rfl (zadd hr1) rfl) ?_ | refine aqp 3 rfl (by decide +kernel) (by decide) (fun G => w_load1 (v := .pl _) rfl (lk rfl rfl) rfl (zadd hr2) rfl) ?_ | refine aqp 3 rfl (by decide +kernel) (by decide) (fun G => w_load1 (v := .nsl) rfl (lk rfl rfl) rfl (zadd hr) rfl) ?_ | refine aqp 3 rfl (by decide +kernel) (by decide) (fun G => w_load1 (v := .nsl) rfl (lk rfl rfl) rfl (zadd hr1) rfl) ?_ | refine aqp 3 rfl (by decide +kernel) (by decide) (fun G => w_load1 (v := .nsl) rfl (lk rfl rfl) rfl (zadd hr2) rfl) ?_ | refine aqp 3 rfl (by decide +kernel) (by decide) (fun G => o_load1p (v := .sl _ _ _ _ _) rfl hr rfl) ?_ | refine aqp 3 rfl (by decide +kernel) (by decide) (fun G => o_load1p (v := .sl _ _ _ _ _) rfl hr1 rfl) ?_ | refine aqp 3 rfl (by decide +kernel) (by decide) (fun G => o_load1p (v := .sl _ _ _ _ _) rfl hr2 rfl) ?_ | refine aqp 3 rfl (by decide +kernel) (by decide) (fun G => o_load1p (v := .pl _) rfl hr rfl) ?_ | refine aqp 3 rfl (by decide +kernel) (by decide) (fun G => o_load1p (v := .pl _) rfl hr1 rfl) ?_ | refine aqp 3 rfl (by decide +kernel) (by decide) (fun G => o_load1p (v := .pl _) rfl hr2 rfl) ?_ | refine aqp 3 rfl (by decide +kernel) (by decide) (fun G => o_load1p (v := .nsl) rfl hr rfl) ?_ | refine aqp 3 rfl (by decide +kernel) (by decide) (fun G => o_load1p (v := .nsl) rfl hr1 rfl) ?_ | refine aqp 3 rfl (by decide +kernel) (by decide) (fun G => o_load1p (v := .nsl) rfl hr2 rfl) ?_ | refine aqp 3 rfl (by decide +kernel) (by decide) (fun G => w_load1 (v := .sl _ _ _ _ _) rfl (lkF hF) rfl rfl rfl) ?_ | refine aqp 3 rfl (by decide +kernel) (by decide) (fun G => w_load1 (v := .pl _) rfl (lkF hF) rfl rfl rfl) ?_ | refine aqp 3 rfl (by decide +kernel) (by decide) (fun G => w_load1 (v := .nsl) rfl (lkF hF) rfl rfl rfl) ?_
  refine Ziz ?_
  first | refine aqp 5 rfl (by decide +kernel) (by decide) (fun G => w_load1 (v := .sl _ _ _ _ _) rfl (lk rfl rfl) rfl rfl rfl) ?_ | refine aqp 5 rfl (by decide +kernel) (by decide) (fun G => w_load1 (v := .pl _) rfl (lk rfl rfl) rfl rfl rfl) ?_ | refine aqp 5 rfl (by decide +kernel) (by decide) (fun G => w_load1 (v := .nsl) rfl (lk rfl rfl) rfl rfl rfl) ?_ | refine aqp 5 rfl (by decide +kernel) (by decide) (fun G => w_load1 (v := .sl _ _ _ _ _) rfl (lk rfl rfl) rfl (zadd hr) rfl) ?_ | refine aqp 5 rfl (by decide +kernel) (by decide) (fun G => w_load1 (v := .sl _ _ _ _ _) rfl (lk rfl rfl) rfl (zadd hr1) rfl) ?_ | refine aqp 5 rfl (by decide +kernel) (by decide) (fun G => w_load1 (v := .sl _ _ _ _ _) rfl (lk rfl rfl) rfl (zadd hr2) rfl) ?_ | refine aqp 5 rfl (by decide +kernel) (by decide) (fun G => w_load1 (v := .pl _) rfl (lk rfl rfl) rfl (zadd hr) rfl) ?_ | refine aqp 5 rfl (by decide +kernel) (by decide) (fun G => w_load1 (v := .pl _) rfl (lk rfl rfl) rfl (zadd hr1) rfl) ?_ | refine aqp 5 rfl (by decide +kernel) (by decide) (fun G => w_load1 (v := .pl _) rfl (lk rfl rfl) rfl (zadd hr2) rfl) ?_ | refine aqp 5 rfl (by decide +kernel) (by decide) (fun G => w_load1 (v := .nsl) rfl (lk rfl rfl) rfl (zadd hr) rfl) ?_ | refine aqp 5 rfl (by decide +kernel) (by decide) (fun G => w_load1 (v := .nsl) rfl (lk rfl rfl) rfl (zadd hr1) rfl) ?_ | refine aqp 5 rfl (by decide +kernel) (by decide) (fun G => w_load1 (v := .nsl) rfl (lk rfl rfl) rfl (zadd hr2) rfl) ?_ | refine aqp 5 rfl (by decide +kernel) (by decide) (fun G => o_load1p (v := .sl _ _ _ _ _) rfl hr rfl) ?_ | refine aqp 5 rfl (by decide +kernel) (by decide) (fun G => o_load1p (v := .sl _ _ _ _ _) rfl hr1 rfl) ?_ | refine aqp 5 rfl (by decide +kernel) (by decide) (fun G => o_load1p (v := .sl _ _ _ _ _) rfl hr2 rfl) ?_ | refine aqp 5 rfl (by decide +kernel) (by decide) (fun G => o_load1p (v := .pl _) rfl hr rfl) ?_ | refine aqp 5 rfl (by decide +kernel) (by decide) (fun G => o_load1p (v := .pl _) rfl hr1 rfl) ?_ | refine aqp 5 rfl (by decide +kernel) (by decide) (fun G => o_load1p (v := .pl _) rfl hr2 rfl) ?_ | refine aqp 5 rfl (by decide +kernel) (by decide) (fun G => o_load1p (v := .nsl) rfl hr rfl) ?_ | refine aqp 5 rfl (by decide +kernel) (by decide) (fun G => o_load1p (v := .nsl) rfl hr1 rfl) ?_ | refine aqp 5 rfl (by decide +kernel) (by decide) (fun G => o_load1p (v := .nsl) rfl hr2 rfl) ?_ | refine aqp 5 rfl (by decide +kernel) (by decide) (fun G => w_load1 (v := .sl _ _ _ _ _) rfl (lkF hF) rfl rfl rfl) ?_ | refine aqp 5 rfl (by decide +kernel) (by decide) (fun G => w_load1 (v := .pl _) rfl (lkF hF) rfl rfl rfl) ?_ | refine aqp 5 rfl (by decide +kernel) (by decide) (fun G => w_load1 (v := .nsl) rfl (lkF hF) rfl rfl rfl) ?_
  refine aq02 6 rfl (by decide +kernel) (by decide) (fun _ => V2.call (health_Usable _ _ _ (by omega) (by omega)) rfl) ?_
  refine aq02 7 rfl (by decide +kernel) (by decide) (fun _ => V2.callT (set_Less i.lease (hbelow i.graph i.health 0) (by omega) (by omega) _) rfl rfl) ?_
  refine Zjx ?_
  refine Z1k ?_
  refine Z2 ?_
  refine ao1 (by decide) (o_makeFunc (vs := []) (us := [_]) rfl rfl) ?_
  first | refine ao1 (by decide) (o_assign (v := .fn _ _ _) rfl) ?_ | refine ao1 (by decide) (o_assign (v := .nfn) rfl) ?_
  refine Z6 ?_
  have hl3 : (sless i.lease (hbelow i.graph i.health 0)).length ≤ 256 := setop_len _ _ _
  have hl4 : (sless (sless i.lease (hbelow i.graph i.health 0)) (heldBusy i.table i.now (plus i.now 1))).length ≤ 256 := setop_len _ _ _
  refine Z1 ?_
  refine aw_drawP mixed (some 16) 1 ?_
  refine Z1f ?_
  first | refine aq0 0 rfl (by decide +kernel) (by decide) (fun _ => o_move (v := .fn _ _ _) rfl) ?_ | refine aq0 0 rfl (by decide +kernel) (by decide) (fun _ => o_move (v := .nfn) rfl) ?_
  first | refine aqp 1 rfl (by decide +kernel) (by decide) (fun G => w_loadR rfl (lk rfl rfl) rfl rfl rfl) ?_ | refine aqp 1 rfl (by decide +kernel) (by decide) (fun G => w_loadR rfl (lk rfl rfl) rfl (zadd hr) rfl) ?_ | refine aqp 1 rfl (by decide +kernel) (by decide) (fun G => w_loadR rfl (lk rfl rfl) rfl (zadd hr1) rfl) ?_ | refine aqp 1 rfl (by decide +kernel) (by decide) (fun G => w_loadR rfl (lk rfl rfl) rfl (zadd hr2) rfl) ?_ | refine aqp 1 rfl (by decide +kernel) (by decide) (fun G => w_loadRp rfl hr rfl) ?_ | refine aqp 1 rfl (by decide +kernel) (by decide) (fun G => w_loadRp rfl hr1 rfl) ?_ | refine aqp 1 rfl (by decide +kernel) (by decide) (fun G => w_loadRp rfl hr2 rfl) ?_ | refine aqp 1 rfl (by decide +kernel) (by decide) (fun G => w_loadN (cs := [_, _, _, _, _, _, _, _, _]) rfl (lk rfl rfl) rfl rfl rfl rfl) ?_ | refine aqp 1 rfl (by decide +kernel) (by decide) (fun G => o_loadNp (cs := [_, _, _, _, _, _, _, _, _]) rfl hr rfl rfl) ?_ | refine aqp 1 rfl (by decide +kernel) (by decide) (fun G => o_loadNp (cs := [_, _, _, _, _, _, _, _, _]) rfl hr1 rfl rfl) ?_ | refine aqp 1 rfl (by decide +kernel) (by decide) (fun G => o_loadNp (cs := [_, _, _, _, _, _, _, _, _]) rfl hr2 rfl rfl) ?_ | refine aqp 1 rfl (by decide +kernel) (by decide) (fun G => w_loadR rfl (lkF hF) rfl rfl rfl) ?_ | refine aqp 1 rfl (by decide +kernel) (by decide) (fun G => w_loadN (cs := [_, _, _, _, _, _, _, _, _]) rfl (lkF hF) rfl rfl rfl rfl) ?_
  refine aq02 2 rfl (by decide +kernel) (by decide) (fun _ => V2.callT (inst_Free i _ hw) rfl rfl) ?_
  refine aqp2 3 rfl (by decide +kernel) (by decide) (fun G => V2.callv (stat_Of_1 i (ifree i) _ _ hw (by omega) hg s1 (lk rfl rfl)) rfl rfl) ?_
  first | refine aq0 4 rfl (by decide +kernel) (by decide) (fun _ => o_move (v := .fn _ _ _) rfl) ?_ | refine aq0 4 rfl (by decide +kernel) (by decide) (fun _ => o_move (v := .nfn) rfl) ?_
  refine Zjv ?_
  refine aqp2 6 rfl (by decide +kernel) (by decide) (fun G => V2.callv (stat_Of_1 i (heldBusy i.table i.now (plus i.now 1)) _ _ hw (by omega) hg s2 (lk rfl rfl)) rfl rfl) ?_
  first | refine aq0 7 rfl (by decide +kernel) (by decide) (fun _ => o_move (v := .fn _ _ _) rfl) ?_ | refine aq0 7 rfl (by decide +kernel) (by decide) (fun _ => o_move (v := .nfn) rfl) ?_
  first | refine aq0 8 rfl (by decide +kernel) (by decide) (fun _ => o_move (v := .sl _ _ _ _ _) rfl) ?_ | refine aq0 8 rfl (by decide +kernel) (by decide) (fun _ => o_move (v := .pl _) rfl) ?_ | refine aq0 8 rfl (by decide +kernel) (by decide) (fun _ => o_move (v := .nsl) rfl) ?_
  first | refine aq0 9 rfl (by decide +kernel) (by decide) (fun _ => o_move (v := .sl _ _ _ _ _) rfl) ?_ | refine aq0 9 rfl (by decide +kernel) (by decide) (fun _ => o_move (v := .pl _) rfl) ?_ | refine aq0 9 rfl (by decide +kernel) (by decide) (fun _ => o_move (v := .nsl) rfl) ?_
  refine aq02 10 rfl (by decide +kernel) (by decide) (fun _ => V2.callT (set_Less (sless i.lease (hbelow i.graph i.health 0)) (heldBusy i.table i.now (plus i.now 1)) (by omega) (by omega) _) rfl rfl) ?_
  refine aqp2 11 rfl (by decide +kernel) (by decide) (fun G => V2.callv (stat_Of_1 i (sless (sless i.lease (hbelow i.graph i.health 0)) (heldBusy i.table i.now (plus i.now 1))) _ _ hw (by omega) hg (sok_setop _ _ _) (lk rfl rfl)) rfl rfl) ?_
  refine Zit ?_
  first | refine aqp 13 rfl (by decide +kernel) (by decide) (fun G => w_load1 (v := .sl _ _ _ _ _) rfl (lk rfl rfl) rfl rfl rfl) ?_ | refine aqp 13 rfl (by decide +kernel) (by decide) (fun G => w_load1 (v := .pl _) rfl (lk rfl rfl) rfl rfl rfl) ?_ | refine aqp 13 rfl (by decide +kernel) (by decide) (fun G => w_load1 (v := .nsl) rfl (lk rfl rfl) rfl rfl rfl) ?_ | refine aqp 13 rfl (by decide +kernel) (by decide) (fun G => w_load1 (v := .sl _ _ _ _ _) rfl (lk rfl rfl) rfl (zadd hr) rfl) ?_ | refine aqp 13 rfl (by decide +kernel) (by decide) (fun G => w_load1 (v := .sl _ _ _ _ _) rfl (lk rfl rfl) rfl (zadd hr1) rfl) ?_ | refine aqp 13 rfl (by decide +kernel) (by decide) (fun G => w_load1 (v := .sl _ _ _ _ _) rfl (lk rfl rfl) rfl (zadd hr2) rfl) ?_ | refine aqp 13 rfl (by decide +kernel) (by decide) (fun G => w_load1 (v := .pl _) rfl (lk rfl rfl) rfl (zadd hr) rfl) ?_ | refine aqp 13 rfl (by decide +kernel) (by decide) (fun G => w_load1 (v := .pl _) rfl (lk rfl rfl) rfl (zadd hr1) rfl) ?_ | refine aqp 13 rfl (by decide +kernel) (by decide) (fun G => w_load1 (v := .pl _) rfl (lk rfl rfl) rfl (zadd hr2) rfl) ?_ | refine aqp 13 rfl (by decide +kernel) (by decide) (fun G => w_load1 (v := .nsl) rfl (lk rfl rfl) rfl (zadd hr) rfl) ?_ | refine aqp 13 rfl (by decide +kernel) (by decide) (fun G => w_load1 (v := .nsl) rfl (lk rfl rfl) rfl (zadd hr1) rfl) ?_ | refine aqp 13 rfl (by decide +kernel) (by decide) (fun G => w_load1 (v := .nsl) rfl (lk rfl rfl) rfl (zadd hr2) rfl) ?_ | refine aqp 13 rfl (by decide +kernel) (by decide) (fun G => o_load1p (v := .sl _ _ _ _ _) rfl hr rfl) ?_ | refine aqp 13 rfl (by decide +kernel) (by decide) (fun G => o_load1p (v := .sl _ _ _ _ _) rfl hr1 rfl) ?_ | refine aqp 13 rfl (by decide +kernel) (by decide) (fun G => o_load1p (v := .sl _ _ _ _ _) rfl hr2 rfl) ?_ | refine aqp 13 rfl (by decide +kernel) (by decide) (fun G => o_load1p (v := .pl _) rfl hr rfl) ?_ | refine aqp 13 rfl (by decide +kernel) (by decide) (fun G => o_load1p (v := .pl _) rfl hr1 rfl) ?_ | refine aqp 13 rfl (by decide +kernel) (by decide) (fun G => o_load1p (v := .pl _) rfl hr2 rfl) ?_ | refine aqp 13 rfl (by decide +kernel) (by decide) (fun G => o_load1p (v := .nsl) rfl hr rfl) ?_ | refine aqp 13 rfl (by decide +kernel) (by decide) (fun G => o_load1p (v := .nsl) rfl hr1 rfl) ?_ | refine aqp 13 rfl (by decide +kernel) (by decide) (fun G => o_load1p (v := .nsl) rfl hr2 rfl) ?_ | refine aqp 13 rfl (by decide +kernel) (by decide) (fun G => w_load1 (v := .sl _ _ _ _ _) rfl (lkF hF) rfl rfl rfl) ?_ | refine aqp 13 rfl (by decide +kernel) (by decide) (fun G => w_load1 (v := .pl _) rfl (lkF hF) rfl rfl rfl) ?_ | refine aqp 13 rfl (by decide +kernel) (by decide) (fun G => w_load1 (v := .nsl) rfl (lkF hF) rfl rfl rfl) ?_
  refine aq02 14 rfl (by decide +kernel) (by decide) (fun _ => V2.call (cj _) rfl) ?_
  refine aq0 15 rfl (by decide +kernel) (by decide) (fun _ => V1.up (o_build (cs := eStat (statS i.graph (ifree i) (ibusy i) (sless (sless i.lease (hbelow i.graph i.health 0)) (ibusy i)) i.jobs)) rfl)) ?_
  refine aqs 16 rfl (by decide +kernel) (by first | exact fun _ => trivial | exact fun _ => ⟨_, rfl⟩ | exact fun _ => ⟨_, rfl, rfl⟩ | exact fun _ => ⟨_, rfl, rfl, rfl⟩ | exact yet_done (by decide +kernel)) (by rintro _ ⟨⟩) (w_storeW (sz := 27) rfl rfl rfl rfl rfl rfl rfl rfl (Nat.le_of_ble_eq_true rfl)) ?_
  refine Z1l ?_
  exact Zbd
end Go.Av

namespace Go.Av
open Go.Proofs
set_option maxRecDepth 10000
set_option linter.unusedSimpArgs false
set_option linter.unusedVariables false

def uL (l : List Int) : List Value := l.map fun i => .int .i64 i
theorem uL_flat (l : List Int) : (l.map (AV.int .i64)).map flatv = (uL l).map some := by simp [uL, flatv]
theorem eqK5_run (a0 a1 a2 a3 a4 b0 b1 b2 b3 b4 : Int) (d : Nat) (w : World) : (Op.equalIn (d + 2) 28 (.agg #[.int .i64 a0, .int .i64 a1, .int .i64 a2, .int .i64 a3, .int .i64 a4]) (.agg #[.int .i64 b0, .int .i64 b1, .int .i64 b2, .int .i64 b3, .int .i64 b4])).run Tryz.prog w = .ok (decide ([a0, a1, a2, a3, a4] = [b0, b1, b2, b3, b4])) w := by
  have hu : Tryz.prog.underlying 28 = some (.array 5 3) := by kernel_rfl
  have hs : (Tryz.prog.info? 3).isSome = true := by kernel_rfl
  obtain ⟨i, hi⟩ := Option.isSome_iff_exists.1 hs
  have hc : Tryz.prog.cellsOf 3 = 1 := by kernel_rfl
  rw [show d + 2 = (d + 1) + 1 from rfl, run_equalIn_array w (d + 1) _ _ hu hi]
  have u3 := Tryz.underlying3
  have a3' := Tryz.isAgg3
  have z3 := Tryz.sizeOf3
  simp only [show List.range 5 = [0, 1, 2, 3, 4] from rfl, Op.eqItems, hc]
  go_simp
  (repeat' split) <;> simp_all
theorem eqK7_run (a0 a1 a2 a3 a4 a5 a6 b0 b1 b2 b3 b4 b5 b6 : Int) (d : Nat) (w : World) : (Op.equalIn (d + 2) 29 (.agg #[.int .i64 a0, .int .i64 a1, .int .i64 a2, .int .i64 a3, .int .i64 a4, .int .i64 a5, .int .i64 a6]) (.agg #[.int .i64 b0, .int .i64 b1, .int .i64 b2, .int .i64 b3, .int .i64 b4, .int .i64 b5, .int .i64 b6])).run Tryz.prog w = .ok (decide ([a0, a1, a2, a3, a4, a5, a6] = [b0, b1, b2, b3, b4, b5, b6])) w := by
  have hu : Tryz.prog.underlying 29 = some (.array 7 3) := by kernel_rfl
  have hs : (Tryz.prog.info? 3).isSome = true := by kernel_rfl
  obtain ⟨i, hi⟩ := Option.isSome_iff_exists.1 hs
  have hc : Tryz.prog.cellsOf 3 = 1 := by kernel_rfl
  rw [show d + 2 = (d + 1) + 1 from rfl, run_equalIn_array w (d + 1) _ _ hu hi]
  have u3 := Tryz.underlying3
  have a3' := Tryz.isAgg3
  have z3 := Tryz.sizeOf3
  simp only [show List.range 7 = [0, 1, 2, 3, 4, 5, 6] from rfl, Op.eqItems, hc]
  go_simp
  (repeat' split) <;> simp_all
def uK5 (f : Nat → Int) : List Value := [.int .i64 (f 0), .int .i64 (f 1), .int .i64 (f 2), .int .i64 (f 3), .int .i64 (f 4)]
def uStat (f : Nat → Int) : List Value := [.int .i64 (f 0), .int .i64 (f 1), .int .i64 (f 2), .int .i64 (f 3), .int .i64 (f 4), .int .i64 (f 5), .int .i64 (f 6), .int .i64 (f 7), .int .i64 (f 8), .int .i64 (f 9), .int .i64 (f 10), .int .i64 (f 11), .int .i64 (f 12), .int .i64 (f 13), .int .i64 (f 14), .int .i64 (f 15), .int .i64 (f 16), .int .i64 (f 17), .int .i64 (f 18), .int .i64 (f 19), .int .i64 (f 20), .int .i64 (f 21), .int .i64 (f 22), .int .i64 (f 23), .int .i64 (f 24), .int .i64 (f 25), .int .i64 (f 26)]
def sL (f : Nat → Int) : List Int := [f 0, f 1, f 2, f 3, f 4, f 5, f 6, f 7, f 8, f 9, f 10, f 11, f 12, f 13, f 14, f 15, f 16, f 17, f 18, f 19, f 20, f 21, f 22, f 23, f 24, f 25, f 26]
theorem eqStat_run (f h : Nat → Int) (w : World) : (Op.equalIn 10000 31 (.agg (uStat f).toArray) (.agg (uStat h).toArray)).run Tryz.prog w = .ok (decide (sL f = sL h)) w := by
  have hS : Tryz.prog.underlying 31 = some (.struct (Tryz.prog.fieldsOf 31)) := by kernel_rfl
  have hp : Tryz.prog.stoodInHeld 31 = false := by kernel_rfl
  rw [show (10000 : Nat) = 9999 + 1 from rfl, run_equalIn_agg w 9999 31 _ _ hS hp]
  have u3 := Tryz.underlying28
  have a3 := Tryz.isAgg28
  have z3 := Tryz.sizeOf28
  have u4 := Tryz.underlying29
  have a4 := Tryz.isAgg29
  have z4 := Tryz.sizeOf29
  simp only [uStat, Program.fieldsOf, Tryz.underlying31]
  go_simp
  have e5 := fun (a0 a1 a2 a3 a4 b0 b1 b2 b3 b4 : Int) (w : World) => eqK5_run a0 a1 a2 a3 a4 b0 b1 b2 b3 b4 9997 w
  have e7 := fun (a0 a1 a2 a3 a4 a5 a6 b0 b1 b2 b3 b4 b5 b6 : Int) (w : World) => eqK7_run a0 a1 a2 a3 a4 a5 a6 b0 b1 b2 b3 b4 b5 b6 9997 w
  rw [show decide (sL f = sL h) = (decide ([f 0, f 1, f 2, f 3, f 4] = [h 0, h 1, h 2, h 3, h 4]) && (decide ([f 5, f 6, f 7, f 8, f 9] = [h 5, h 6, h 7, h 8, h 9]) && (decide ([f 10, f 11, f 12, f 13, f 14] = [h 10, h 11, h 12, h 13, h 14]) && (decide ([f 15, f 16, f 17, f 18, f 19] = [h 15, h 16, h 17, h 18, h 19]) && decide ([f 20, f 21, f 22, f 23, f 24, f 25, f 26] = [h 20, h 21, h 22, h 23, h 24, h 25, h 26]))))) by rw [Bool.eq_iff_iff]; simp [sL, and_assoc]]
  simp only [Nat.reduceAdd] at e5 e7
  simp only [e5, e7, Result.andThen_ok]
  generalize decide ([f 0, f 1, f 2, f 3, f 4] = [h 0, h 1, h 2, h 3, h 4]) = c1
  generalize decide ([f 5, f 6, f 7, f 8, f 9] = [h 5, h 6, h 7, h 8, h 9]) = c2
  generalize decide ([f 10, f 11, f 12, f 13, f 14] = [h 10, h 11, h 12, h 13, h 14]) = c3
  generalize decide ([f 15, f 16, f 17, f 18, f 19] = [h 15, h 16, h 17, h 18, h 19]) = c4
  generalize decide ([f 20, f 21, f 22, f 23, f 24, f 25, f 26] = [h 20, h 21, h 22, h 23, h 24, h 25, h 26]) = c5
  cases c1 <;> cases c2 <;> cases c3 <;> cases c4 <;> cases c5 <;> rfl
theorem stat_flat (f : Nat → Int) : (eStat f).map flatv = (uStat f).map some := rfl
theorem K5_flat (f : Nat → Int) : (eK5 f).map flatv = (uK5 f).map some := rfl
theorem eqK5_runF (f h : Nat → Int) (w : World) : (Op.equalIn 10000 28 (.agg (uK5 f).toArray) (.agg (uK5 h).toArray)).run Tryz.prog w = .ok (decide ([f 0, f 1, f 2, f 3, f 4] = [h 0, h 1, h 2, h 3, h 4])) w := eqK5_run _ _ _ _ _ _ _ _ _ _ 9998 w
end Go.Av

namespace Go.Av
open Go.Proofs
set_option maxRecDepth 10000
set_option linter.unusedSimpArgs false
set_option linter.unusedVariables false

def shortJ (l : List Job) : Bool := decide (l.length ≤ 14) && allI (fun k => decide ((jobAt l k).needs.length ≤ 20)) l.length
def shortH (l : List Held) : Bool := decide (l.length ≤ 30) && allI (fun k => decide ((heldAt l k).things.length ≤ 60)) l.length
def shortI (i : Inst) : Bool := decide (i.graph.length ≤ 40) && decide (i.health.length ≤ 60) && decide (i.lease.length ≤ 60) && shortJ i.jobs && shortH i.table
theorem shortI_ok {i : Inst} (h : shortI i = true) : IW i := by
  simp only [shortI, shortJ, shortH, Bool.and_eq_true, decide_eq_true_eq] at h
  refine ⟨by omega, by omega, by omega, by omega, by omega, fun x hx => ?_⟩
  obtain ⟨k, hk⟩ := List.mem_iff_getElem?.1 hx
  have := allI_get h.2.2 (List.getElem?_eq_some_iff.1 hk).1
  rw [heldAt_get hk, decide_eq_true_eq] at this
  omega
theorem ref12_Short (l : List Job) (H : Heap) : AC Tryz.prog 35 [.pl (l.map eJob)] H (Ret (.bool (shortJ l)) H) := by
  refine AC.body (N := 20) [.tmp 2] Tryz.func35 rfl rfl rfl (Nat.le_of_ble_eq_true rfl) fun B hB => ?_
  refine Zbs ?_
  refine aw_cond rfl (fun hc => ?_) (fun hc => ?_)
  · have h14 : ¬ l.length ≤ 14 := by simp at hc; omega
    refine Zh ?_
    rw [show shortJ l = false by rw [shortJ, decide_eq_false h14, Bool.false_and]]
    exact Zd
  have h14 : l.length ≤ 14 := by simp at hc; omega
  rw [show shortJ l = allI (fun k => decide ((jobAt l k).needs.length ≤ 20)) l.length by rw [shortJ, decide_eq_true h14, Bool.true_and]]
  refine Z58 ?_
  refine aw_loop (G := Nat) (fun k => k ≤ l.length ∧ ∀ m, m < k → decide ((jobAt l m).needs.length ≤ 20) = true) (fun k => [(0, .pl (l.map eJob)), (3, .int .i64 (k : Int))]) (fun _ => H ++ []) (fun k => l.length - k) 0 ⟨Nat.zero_le _, fun m hm => by omega⟩ (by repeat (first | exact Sub.nil | refine Sub.cons (by first | rfl | (simp [get]; done)) ?_)) (Fit.refl _ _) ?_
  rintro k ⟨hk, hno⟩
  refine Z6w ?_
  refine aw_cond rfl (fun hc => ?_) (fun hc => ?_)
  · have hlt : k < l.length := by simpa using hc
    obtain ⟨x, hx, hxl⟩ := get_in hlt
    have hr := map_get eJob hx
    have hat := jobAt_get hx
    refine Zd2 ?_
    refine Z4b ?_
    refine Z2k ?_
    refine aw_cond rfl (fun hc => ?_) (fun hc => ?_)
    · refine Zh ?_
      rw [allI_false hlt (by rw [hat]; simp at hc; exact decide_eq_false (by omega))]
      exact Zd
    · have hgood : decide ((jobAt l k).needs.length ≤ 20) = true := by rw [hat]; simp at hc; exact decide_eq_true (by omega)
      refine Z2f ?_
      refine ⟨k + 1, by omega, ⟨by omega, fun m hm => ?_⟩, (by repeat (first | exact Sub.nil | refine Sub.cons (by first | rfl | (simp [get]; done)) ?_)), .refl _ _⟩
      rcases Nat.lt_or_eq_of_le (Nat.le_of_lt_succ hm) with h | h
      · exact hno m h
      · subst h; exact hgood
  · have : k = l.length := by simp at hc; omega
    subst this
    refine Zh ?_
    rw [allI_true hno]
    exact Zd
theorem ref10_Short (l : List Held) (H : Heap) : AC Tryz.prog 36 [.pl (l.map eHeld)] H (Ret (.bool (shortH l)) H) := by
  refine AC.body (N := 20) [.tmp 2] Tryz.func36 rfl rfl rfl (Nat.le_of_ble_eq_true rfl) fun B hB => ?_
  refine Zbs ?_
  refine aw_cond rfl (fun hc => ?_) (fun hc => ?_)
  · have h14 : ¬ l.length ≤ 30 := by simp at hc; omega
    refine Zh ?_
    rw [show shortH l = false by rw [shortH, decide_eq_false h14, Bool.false_and]]
    exact Zd
  have h14 : l.length ≤ 30 := by simp at hc; omega
  rw [show shortH l = allI (fun k => decide ((heldAt l k).things.length ≤ 60)) l.length by rw [shortH, decide_eq_true h14, Bool.true_and]]
  refine Z58 ?_
  refine aw_loop (G := Nat) (fun k => k ≤ l.length ∧ ∀ m, m < k → decide ((heldAt l m).things.length ≤ 60) = true) (fun k => [(0, .pl (l.map eHeld)), (3, .int .i64 (k : Int))]) (fun _ => H ++ []) (fun k => l.length - k) 0 ⟨Nat.zero_le _, fun m hm => by omega⟩ (by repeat (first | exact Sub.nil | refine Sub.cons (by first | rfl | (simp [get]; done)) ?_)) (Fit.refl _ _) ?_
  rintro k ⟨hk, hno⟩
  refine Z6w ?_
  refine aw_cond rfl (fun hc => ?_) (fun hc => ?_)
  · have hlt : k < l.length := by simpa using hc
    obtain ⟨x, hx, hxl⟩ := get_in hlt
    have hr := map_get eHeld hx
    have hat := heldAt_get hx
    refine Zd2 ?_
    refine Z4b ?_
    refine Z2k ?_
    refine aw_cond rfl (fun hc => ?_) (fun hc => ?_)
    · refine Zh ?_
      rw [allI_false hlt (by rw [hat]; simp at hc; exact decide_eq_false (by omega))]
      exact Zd
    · have hgood : decide ((heldAt l k).things.length ≤ 60) = true := by rw [hat]; simp at hc; exact decide_eq_true (by omega)
      refine Z2f ?_
      refine ⟨k + 1, by omega, ⟨by omega, fun m hm => ?_⟩, (by repeat (first | exact Sub.nil | refine Sub.cons (by first | rfl | (simp [get]; done)) ?_)), .refl _ _⟩
      rcases Nat.lt_or_eq_of_le (Nat.le_of_lt_succ hm) with h | h
      · exact hno m h
      · subst h; exact hgood
  · have : k = l.length := by simp at hc; omega
    subst this
    refine Zh ?_
    rw [allI_true hno]
    exact Zd
theorem ref16_Short (i : Inst) (H : Heap) : AC Tryz.prog 9 [.agg (eInst i)] H (Ret (.bool (shortI i)) H) := by
  refine AC.body (N := 29) [.tmp 2] Tryz.func9 rfl rfl rfl (Nat.le_of_ble_eq_true rfl) fun B hB => ?_
  refine Zh5 ?_
  refine Zg ?_
  refine aw_out 2 (.bool (shortI i)) ?_ ?_
  · refine Z4b ?_
    refine Zk ?_
    refine ao_split rfl rfl (fun hg4 => ?_) (fun hg4 => ?_)
    · refine Z55 ?_
      refine Z56 ?_
      refine Zx ?_
      refine Z31 ?_
      refine ao_split rfl rfl (fun hg10 => ?_) (fun hg10 => ?_)
      · refine Z55 ?_
        refine Z56 ?_
        refine Zx ?_
        refine Z31 ?_
        refine ao_split rfl rfl (fun hg16 => ?_) (fun hg16 => ?_)
        · refine Z55 ?_
          refine ao_y rfl rfl (by decide) (V2.call (ref12_Short _ _) rfl) ?_
          refine Z31 ?_
          refine ao_split rfl rfl (fun hg21 => ?_) (fun hg21 => ?_)
          · refine Z55 ?_
            refine ao_y rfl rfl (by decide) (V2.call (ref10_Short _ _) rfl) ?_
            refine Zo ?_
            exact Zjy
          · refine Z1y ?_
            exact Zjy
        · refine Z34 ?_
          exact Zjy
      · refine Z29 ?_
        refine Z31 ?_
        refine Z34 ?_
        exact Zjy
    · refine Z29 ?_
      refine Z31 ?_
      refine Z29 ?_
      refine Z31 ?_
      refine Z34 ?_
      exact Zjy
  exact Z1z
end Go.Av

namespace Go.Av
open Go.Proofs
set_option maxRecDepth 10000
set_option linter.unusedSimpArgs false
set_option linter.unusedVariables false

def g4 : List Thing := [⟨0, -1, ByteArray.empty⟩, ⟨2, 0, ByteArray.empty⟩, ⟨3, 1, ByteArray.empty⟩, ⟨3, 1, ByteArray.empty⟩]
def i4 : Inst := (inew g4 1 0).1
theorem i4_ok : (inew g4 1 0).2 = 0 := by decide +kernel
theorem i4_w : IW i4 := by
  refine ⟨?_, ?_, ?_, ?_, ?_, ?_⟩
  · decide +kernel
  · decide +kernel
  · decide +kernel
  · decide +kernel
  · decide +kernel
  · intro h hh
    have : i4.table = [] := by decide +kernel
    rw [this] at hh; cases hh
theorem i4_free : [istat i4 0, istat i4 1, istat i4 2, istat i4 3, istat i4 4] = [1, 0, 1, 2, 0] := by decide +kernel
theorem i4_twice : [skinds (splus (istat i4) (istat i4)) 0, skinds (splus (istat i4) (istat i4)) 1, skinds (splus (istat i4) (istat i4)) 2, skinds (splus (istat i4) (istat i4)) 3, skinds (splus (istat i4) (istat i4)) 4] = [2, 0, 2, 4, 0] := by decide +kernel
set_option maxHeartbeats 0 in
theorem law23_awake (H : Heap) : ACT Tryz.prog KD 8 [] H (Ret (.bool true) H) := by
  have cn := fun H => inst_New g4 1 0 H (by decide)
  rw [i4_ok, show (inew g4 1 0).1 = i4 from rfl] at cn
  have w4 := i4_w
  refine ACT.body (N := 33) [.tmp 0] Tryz.func8 rfl rfl rfl (Nat.le_of_ble_eq_true rfl) fun B hB => ?_
  refine Z1p ?_
  refine Zjz ?_
  refine Zjz ?_
  refine Zjz ?_
  refine Zjz ?_
  refine ao2 (by rintro _ ⟨⟩; decide) (g_litL (g4.map eThing) rfl (by decide) (by decide) (by decide) rfl rfl (by simp [g4]) rfl (by simp [g4, AV.bels, AV.bel])) ?_
  refine Z89 ?_
  refine Z45 ?_
  refine ao2 (by rintro _ ⟨⟩; decide) (V2.call (cn _) rfl) ?_
  refine Z7d ?_
  refine Z13 ?_
  refine Zj1 ?_
  refine Zj2 ?_
  refine Z1a ?_
  refine Ziv ?_
  refine ao2 (by rintro _ ⟨⟩; decide) (V2.callT (stat_Of i4 _ w4) rfl rfl) ?_
  refine Zj4 ?_
  refine Zjw ?_
  refine Zb ?_
  refine aw_out 0 (.bool true) ?_ ?_
  · refine Z64 ?_
    refine ao_split rfl rfl (fun hg2 => ?_) (fun hg2 => ?_)
    · refine Z2x ?_
      first | refine ao_y1 rfl rfl (by decide) (w_loadR rfl (lk rfl rfl) rfl rfl rfl) ?_ | refine ao_y1 rfl rfl (by decide) (w_loadR rfl (lk rfl rfl) rfl (zadd hr) rfl) ?_ | refine ao_y1 rfl rfl (by decide) (w_loadR rfl (lk rfl rfl) rfl (zadd hr1) rfl) ?_ | refine ao_y1 rfl rfl (by decide) (w_loadR rfl (lk rfl rfl) rfl (zadd hr2) rfl) ?_ | refine ao_y1 rfl rfl (by decide) (w_loadRp rfl hr rfl) ?_ | refine ao_y1 rfl rfl (by decide) (w_loadRp rfl hr1 rfl) ?_ | refine ao_y1 rfl rfl (by decide) (w_loadRp rfl hr2 rfl) ?_ | refine ao_y1 rfl rfl (by decide) (w_loadN (cs := [_, _, _, _, _]) rfl (lk rfl rfl) rfl rfl rfl rfl) ?_ | refine ao_y1 rfl rfl (by decide) (o_loadNp (cs := [_, _, _, _, _]) rfl hr rfl rfl) ?_ | refine ao_y1 rfl rfl (by decide) (o_loadNp (cs := [_, _, _, _, _]) rfl hr1 rfl rfl) ?_ | refine ao_y1 rfl rfl (by decide) (o_loadNp (cs := [_, _, _, _, _]) rfl hr2 rfl rfl) ?_ | refine ao_y1 rfl rfl (by decide) (w_loadR rfl (lkF hF) rfl rfl rfl) ?_ | refine ao_y1 rfl rfl (by decide) (w_loadN (cs := [_, _, _, _, _]) rfl (lkF hF) rfl rfl rfl rfl) ?_
      refine Zk0 ?_
      refine ao_y1 rfl rfl (by decide) (o_eqAgg (us := [.int .i64 (istat i4 0), .int .i64 (istat i4 1), .int .i64 (istat i4 2), .int .i64 (istat i4 3), .int .i64 (istat i4 4)]) (vs := [.int .i64 1, .int .i64 0, .int .i64 1, .int .i64 2, .int .i64 0]) (b := true) rfl rfl rfl rfl (by kernel_rfl) (fun w => (eqK5_run _ _ _ _ _ _ _ _ _ _ 9998 w).trans (by rw [decide_eq_true i4_free]))) ?_
      refine Z31 ?_
      refine ao_split rfl rfl (fun hg8 => ?_) (fun hg8 => ?_)
      · refine Zk1 ?_
        refine Zk1 ?_
        refine ao_y rfl rfl (by decide) (V2.call (stat_Plus (istat i4) (istat i4) _) rfl) ?_
        refine ao_y rfl rfl (by decide) (V2.call (stat_Kinds (splus (istat i4) (istat i4)) _) rfl) ?_
        refine Zk0 ?_
        refine ao_y1 rfl rfl (by decide) (o_eqAgg (us := uK5 (skinds (splus (istat i4) (istat i4)))) (vs := [.int .i64 2, .int .i64 0, .int .i64 2, .int .i64 4, .int .i64 0]) (b := true) rfl rfl rfl rfl (by kernel_rfl) (fun w => (eqK5_run _ _ _ _ _ _ _ _ _ _ 9998 w).trans (by rw [decide_eq_true i4_twice]))) ?_
        refine Zo ?_
        exact Z73
      · refine Z29 ?_
        refine Zt ?_
        exact Z73
    · refine Z29 ?_
      refine Z31 ?_
      refine Z29 ?_
      refine Zt ?_
      exact Z73
  exact Z1z
end Go.Av

namespace Go.Av
open Go.Proofs
set_option maxRecDepth 10000
set_option linter.unusedSimpArgs false
set_option linter.unusedVariables false

set_option maxHeartbeats 0 in
theorem law23_StatRight (i : Inst) (a b : Nat → Int) (ht : TagsW i) (H : Heap) : ACT Tryz.prog KD 3 [.agg (eInst i), .agg (eStat a), .agg (eStat b)] H (Ret (.bool true) H) := by
  refine ACT.body (N := 82) [.tmp 6] Tryz.func3 rfl rfl rfl (Nat.le_of_ble_eq_true rfl) fun B hB => ?_
  refine Zh5 ?_
  refine Zj3 ?_
  refine Zj3 ?_
  refine Z1o ?_
  refine ao2 (by rintro _ ⟨⟩; decide) (V2.callT (law23_awake _) rfl rfl) ?_
  refine Z3u ?_
  refine aw_cond rfl (fun hc => ?_) (fun hc => ?_)
  · simp at hc
  refine Z2 ?_
  refine Ziv ?_
  refine ao_ret (ref16_Short _ _) rfl (by decide) ?_
  refine Z3u ?_
  refine aw_cond rfl (fun hc => ?_) (fun hc => ?_)
  · exact Z4l
  have hsh : shortI i = true := by simpa only [Bool.not_eq_false'] using hc
  have hw := shortI_ok hsh
  have cO := fun H => stat_Of i H hw
  have cR := fun H => ref23_Of i H hw ht
  clear hc hsh
  generalize istat i = s at cO cR
  have e1 : sL (splus a b) = sL (splus b a) := by rw [splus_comm]
  refine Zjk ?_
  refine Zjj ?_
  refine ao_ret (stat_Plus _ _ _) rfl (by decide) ?_
  refine Zj4 ?_
  refine Zjw ?_
  refine Zb ?_
  refine aw_of_out 38 (.bool false) ?_ ?_
  · refine aw_drawP mixed none 4 ?_
    refine Z1f ?_
    first | refine aqp 0 rfl (by decide +kernel) (by decide) (fun G => w_loadR rfl (lk rfl rfl) rfl rfl rfl) ?_ | refine aqp 0 rfl (by decide +kernel) (by decide) (fun G => w_loadR rfl (lk rfl rfl) rfl (zadd hr) rfl) ?_ | refine aqp 0 rfl (by decide +kernel) (by decide) (fun G => w_loadR rfl (lk rfl rfl) rfl (zadd hr1) rfl) ?_ | refine aqp 0 rfl (by decide +kernel) (by decide) (fun G => w_loadR rfl (lk rfl rfl) rfl (zadd hr2) rfl) ?_ | refine aqp 0 rfl (by decide +kernel) (by decide) (fun G => w_loadRp rfl hr rfl) ?_ | refine aqp 0 rfl (by decide +kernel) (by decide) (fun G => w_loadRp rfl hr1 rfl) ?_ | refine aqp 0 rfl (by decide +kernel) (by decide) (fun G => w_loadRp rfl hr2 rfl) ?_ | refine aqp 0 rfl (by decide +kernel) (by decide) (fun G => w_loadN (cs := [_, _, _, _, _, _, _, _, _]) rfl (lk rfl rfl) rfl rfl rfl rfl) ?_ | refine aqp 0 rfl (by decide +kernel) (by decide) (fun G => o_loadNp (cs := [_, _, _, _, _, _, _, _, _]) rfl hr rfl rfl) ?_ | refine aqp 0 rfl (by decide +kernel) (by decide) (fun G => o_loadNp (cs := [_, _, _, _, _, _, _, _, _]) rfl hr1 rfl rfl) ?_ | refine aqp 0 rfl (by decide +kernel) (by decide) (fun G => o_loadNp (cs := [_, _, _, _, _, _, _, _, _]) rfl hr2 rfl rfl) ?_ | refine aqp 0 rfl (by decide +kernel) (by decide) (fun G => w_loadR rfl (lkF hF) rfl rfl rfl) ?_ | refine aqp 0 rfl (by decide +kernel) (by decide) (fun G => w_loadN (cs := [_, _, _, _, _, _, _, _, _]) rfl (lkF hF) rfl rfl rfl rfl) ?_
    refine aq02 1 rfl (by decide +kernel) (by decide) (fun _ => V2.callT (cO _) rfl rfl) ?_
    first | refine aqp 2 rfl (by decide +kernel) (by decide) (fun G => w_loadR rfl (lk rfl rfl) rfl rfl rfl) ?_ | refine aqp 2 rfl (by decide +kernel) (by decide) (fun G => w_loadR rfl (lk rfl rfl) rfl (zadd hr) rfl) ?_ | refine aqp 2 rfl (by decide +kernel) (by decide) (fun G => w_loadR rfl (lk rfl rfl) rfl (zadd hr1) rfl) ?_ | refine aqp 2 rfl (by decide +kernel) (by decide) (fun G => w_loadR rfl (lk rfl rfl) rfl (zadd hr2) rfl) ?_ | refine aqp 2 rfl (by decide +kernel) (by decide) (fun G => w_loadRp rfl hr rfl) ?_ | refine aqp 2 rfl (by decide +kernel) (by decide) (fun G => w_loadRp rfl hr1 rfl) ?_ | refine aqp 2 rfl (by decide +kernel) (by decide) (fun G => w_loadRp rfl hr2 rfl) ?_ | refine aqp 2 rfl (by decide +kernel) (by decide) (fun G => w_loadN (cs := [_, _, _, _, _, _, _, _, _]) rfl (lk rfl rfl) rfl rfl rfl rfl) ?_ | refine aqp 2 rfl (by decide +kernel) (by decide) (fun G => o_loadNp (cs := [_, _, _, _, _, _, _, _, _]) rfl hr rfl rfl) ?_ | refine aqp 2 rfl (by decide +kernel) (by decide) (fun G => o_loadNp (cs := [_, _, _, _, _, _, _, _, _]) rfl hr1 rfl rfl) ?_ | refine aqp 2 rfl (by decide +kernel) (by decide) (fun G => o_loadNp (cs := [_, _, _, _, _, _, _, _, _]) rfl hr2 rfl rfl) ?_ | refine aqp 2 rfl (by decide +kernel) (by decide) (fun G => w_loadR rfl (lkF hF) rfl rfl rfl) ?_ | refine aqp 2 rfl (by decide +kernel) (by decide) (fun G => w_loadN (cs := [_, _, _, _, _, _, _, _, _]) rfl (lkF hF) rfl rfl rfl rfl) ?_
    refine aq02 3 rfl (by decide +kernel) (by decide) (fun _ => V2.call (cR _) rfl) ?_
    refine aq0 4 rfl (by decide +kernel) (by decide) (fun _ => o_neAgg (us := uStat s) (vs := uStat s) (b := true) rfl rfl (stat_flat _) (stat_flat _) (by kernel_rfl) (fun w => (eqStat_run _ _ w).trans (by rw [decide_eq_true rfl]))) ?_
    refine Z8j ?_
    refine aq_split (g := 25) rfl (fun hg5 => ?_) (fun hg5 => ?_)
    · refine aqn0 (g := 25) 6 rfl (by decide +kernel) (by decide) rfl rfl rfl ?_
      refine Zew ?_
      refine Zex ?_
      refine Zey ?_
      refine Zez ?_
      refine Z8k ?_
      refine Z8l ?_
      refine Zk2 ?_
      refine Zk3 ?_
      refine Zk4 ?_
      refine Zk5 ?_
      refine Zk6 ?_
      refine Zhh ?_
      exact Zk7
    · first | refine aqyp (g := 25) 6 rfl (by decide +kernel) (by decide) rfl rfl (fun G => w_loadR rfl (lk rfl rfl) rfl rfl rfl) ?_ | refine aqyp (g := 25) 6 rfl (by decide +kernel) (by decide) rfl rfl (fun G => w_loadR rfl (lk rfl rfl) rfl (zadd hr) rfl) ?_ | refine aqyp (g := 25) 6 rfl (by decide +kernel) (by decide) rfl rfl (fun G => w_loadR rfl (lk rfl rfl) rfl (zadd hr1) rfl) ?_ | refine aqyp (g := 25) 6 rfl (by decide +kernel) (by decide) rfl rfl (fun G => w_loadR rfl (lk rfl rfl) rfl (zadd hr2) rfl) ?_ | refine aqyp (g := 25) 6 rfl (by decide +kernel) (by decide) rfl rfl (fun G => w_loadRp rfl hr rfl) ?_ | refine aqyp (g := 25) 6 rfl (by decide +kernel) (by decide) rfl rfl (fun G => w_loadRp rfl hr1 rfl) ?_ | refine aqyp (g := 25) 6 rfl (by decide +kernel) (by decide) rfl rfl (fun G => w_loadRp rfl hr2 rfl) ?_ | refine aqyp (g := 25) 6 rfl (by decide +kernel) (by decide) rfl rfl (fun G => w_loadN (cs := [_, _, _, _, _, _, _, _, _, _, _, _, _, _, _, _, _, _, _, _, _, _, _, _, _, _, _]) rfl (lk rfl rfl) rfl rfl rfl rfl) ?_ | refine aqyp (g := 25) 6 rfl (by decide +kernel) (by decide) rfl rfl (fun G => o_loadNp (cs := [_, _, _, _, _, _, _, _, _, _, _, _, _, _, _, _, _, _, _, _, _, _, _, _, _, _, _]) rfl hr rfl rfl) ?_ | refine aqyp (g := 25) 6 rfl (by decide +kernel) (by decide) rfl rfl (fun G => o_loadNp (cs := [_, _, _, _, _, _, _, _, _, _, _, _, _, _, _, _, _, _, _, _, _, _, _, _, _, _, _]) rfl hr1 rfl rfl) ?_ | refine aqyp (g := 25) 6 rfl (by decide +kernel) (by decide) rfl rfl (fun G => o_loadNp (cs := [_, _, _, _, _, _, _, _, _, _, _, _, _, _, _, _, _, _, _, _, _, _, _, _, _, _, _]) rfl hr2 rfl rfl) ?_ | refine aqyp (g := 25) 6 rfl (by decide +kernel) (by decide) rfl rfl (fun G => w_loadR rfl (lkF hF) rfl rfl rfl) ?_ | refine aqyp (g := 25) 6 rfl (by decide +kernel) (by decide) rfl rfl (fun G => w_loadN (cs := [_, _, _, _, _, _, _, _, _, _, _, _, _, _, _, _, _, _, _, _, _, _, _, _, _, _, _]) rfl (lkF hF) rfl rfl rfl rfl) ?_
      first | refine aqyp (g := 25) 7 rfl (by decide +kernel) (by decide) rfl rfl (fun G => w_loadR rfl (lk rfl rfl) rfl rfl rfl) ?_ | refine aqyp (g := 25) 7 rfl (by decide +kernel) (by decide) rfl rfl (fun G => w_loadR rfl (lk rfl rfl) rfl (zadd hr) rfl) ?_ | refine aqyp (g := 25) 7 rfl (by decide +kernel) (by decide) rfl rfl (fun G => w_loadR rfl (lk rfl rfl) rfl (zadd hr1) rfl) ?_ | refine aqyp (g := 25) 7 rfl (by decide +kernel) (by decide) rfl rfl (fun G => w_loadR rfl (lk rfl rfl) rfl (zadd hr2) rfl) ?_ | refine aqyp (g := 25) 7 rfl (by decide +kernel) (by decide) rfl rfl (fun G => w_loadRp rfl hr rfl) ?_ | refine aqyp (g := 25) 7 rfl (by decide +kernel) (by decide) rfl rfl (fun G => w_loadRp rfl hr1 rfl) ?_ | refine aqyp (g := 25) 7 rfl (by decide +kernel) (by decide) rfl rfl (fun G => w_loadRp rfl hr2 rfl) ?_ | refine aqyp (g := 25) 7 rfl (by decide +kernel) (by decide) rfl rfl (fun G => w_loadN (cs := [_, _, _, _, _, _, _, _, _, _, _, _, _, _, _, _, _, _, _, _, _, _, _, _, _, _, _]) rfl (lk rfl rfl) rfl rfl rfl rfl) ?_ | refine aqyp (g := 25) 7 rfl (by decide +kernel) (by decide) rfl rfl (fun G => o_loadNp (cs := [_, _, _, _, _, _, _, _, _, _, _, _, _, _, _, _, _, _, _, _, _, _, _, _, _, _, _]) rfl hr rfl rfl) ?_ | refine aqyp (g := 25) 7 rfl (by decide +kernel) (by decide) rfl rfl (fun G => o_loadNp (cs := [_, _, _, _, _, _, _, _, _, _, _, _, _, _, _, _, _, _, _, _, _, _, _, _, _, _, _]) rfl hr1 rfl rfl) ?_ | refine aqyp (g := 25) 7 rfl (by decide +kernel) (by decide) rfl rfl (fun G => o_loadNp (cs := [_, _, _, _, _, _, _, _, _, _, _, _, _, _, _, _, _, _, _, _, _, _, _, _, _, _, _]) rfl hr2 rfl rfl) ?_ | refine aqyp (g := 25) 7 rfl (by decide +kernel) (by decide) rfl rfl (fun G => w_loadR rfl (lkF hF) rfl rfl rfl) ?_ | refine aqyp (g := 25) 7 rfl (by decide +kernel) (by decide) rfl rfl (fun G => w_loadN (cs := [_, _, _, _, _, _, _, _, _, _, _, _, _, _, _, _, _, _, _, _, _, _, _, _, _, _, _]) rfl (lkF hF) rfl rfl rfl rfl) ?_
      first | refine aqyp (g := 25) 8 rfl (by decide +kernel) (by decide) rfl rfl (fun G => w_loadR rfl (lk rfl rfl) rfl rfl rfl) ?_ | refine aqyp (g := 25) 8 rfl (by decide +kernel) (by decide) rfl rfl (fun G => w_loadR rfl (lk rfl rfl) rfl (zadd hr) rfl) ?_ | refine aqyp (g := 25) 8 rfl (by decide +kernel) (by decide) rfl rfl (fun G => w_loadR rfl (lk rfl rfl) rfl (zadd hr1) rfl) ?_ | refine aqyp (g := 25) 8 rfl (by decide +kernel) (by decide) rfl rfl (fun G => w_loadR rfl (lk rfl rfl) rfl (zadd hr2) rfl) ?_ | refine aqyp (g := 25) 8 rfl (by decide +kernel) (by decide) rfl rfl (fun G => w_loadRp rfl hr rfl) ?_ | refine aqyp (g := 25) 8 rfl (by decide +kernel) (by decide) rfl rfl (fun G => w_loadRp rfl hr1 rfl) ?_ | refine aqyp (g := 25) 8 rfl (by decide +kernel) (by decide) rfl rfl (fun G => w_loadRp rfl hr2 rfl) ?_ | refine aqyp (g := 25) 8 rfl (by decide +kernel) (by decide) rfl rfl (fun G => w_loadN (cs := [_, _, _, _, _, _, _, _, _, _, _, _, _, _, _, _, _, _, _, _, _, _, _, _, _, _, _]) rfl (lk rfl rfl) rfl rfl rfl rfl) ?_ | refine aqyp (g := 25) 8 rfl (by decide +kernel) (by decide) rfl rfl (fun G => o_loadNp (cs := [_, _, _, _, _, _, _, _, _, _, _, _, _, _, _, _, _, _, _, _, _, _, _, _, _, _, _]) rfl hr rfl rfl) ?_ | refine aqyp (g := 25) 8 rfl (by decide +kernel) (by decide) rfl rfl (fun G => o_loadNp (cs := [_, _, _, _, _, _, _, _, _, _, _, _, _, _, _, _, _, _, _, _, _, _, _, _, _, _, _]) rfl hr1 rfl rfl) ?_ | refine aqyp (g := 25) 8 rfl (by decide +kernel) (by decide) rfl rfl (fun G => o_loadNp (cs := [_, _, _, _, _, _, _, _, _, _, _, _, _, _, _, _, _, _, _, _, _, _, _, _, _, _, _]) rfl hr2 rfl rfl) ?_ | refine aqyp (g := 25) 8 rfl (by decide +kernel) (by decide) rfl rfl (fun G => w_loadR rfl (lkF hF) rfl rfl rfl) ?_ | refine aqyp (g := 25) 8 rfl (by decide +kernel) (by decide) rfl rfl (fun G => w_loadN (cs := [_, _, _, _, _, _, _, _, _, _, _, _, _, _, _, _, _, _, _, _, _, _, _, _, _, _, _]) rfl (lkF hF) rfl rfl rfl rfl) ?_
      refine aqy02 (g := 25) 9 rfl (by decide +kernel) (by decide) rfl rfl (fun _ => V2.call (ref23_Plus a b _) rfl) ?_
      refine aqy0 (g := 25) 10 rfl (by decide +kernel) (by decide) rfl rfl (fun _ => o_neAgg (us := uStat (splus a b)) (vs := uStat (splus a b)) (b := true) rfl rfl (stat_flat _) (stat_flat _) (by kernel_rfl) (fun w => (eqStat_run _ _ w).trans (by rw [decide_eq_true rfl]))) ?_
      refine Z8k ?_
      refine Z8l ?_
      refine aq_split (g := 32) rfl (fun hg12 => ?_) (fun hg12 => ?_)
      · refine Zk2 ?_
        refine Zk3 ?_
        refine Zk4 ?_
        refine Zk5 ?_
        refine Zk6 ?_
        refine Zhh ?_
        exact Zk7
      · first | refine aqyp (g := 32) 13 rfl (by decide +kernel) (by decide) rfl rfl (fun G => w_loadR rfl (lk rfl rfl) rfl rfl rfl) ?_ | refine aqyp (g := 32) 13 rfl (by decide +kernel) (by decide) rfl rfl (fun G => w_loadR rfl (lk rfl rfl) rfl (zadd hr) rfl) ?_ | refine aqyp (g := 32) 13 rfl (by decide +kernel) (by decide) rfl rfl (fun G => w_loadR rfl (lk rfl rfl) rfl (zadd hr1) rfl) ?_ | refine aqyp (g := 32) 13 rfl (by decide +kernel) (by decide) rfl rfl (fun G => w_loadR rfl (lk rfl rfl) rfl (zadd hr2) rfl) ?_ | refine aqyp (g := 32) 13 rfl (by decide +kernel) (by decide) rfl rfl (fun G => w_loadRp rfl hr rfl) ?_ | refine aqyp (g := 32) 13 rfl (by decide +kernel) (by decide) rfl rfl (fun G => w_loadRp rfl hr1 rfl) ?_ | refine aqyp (g := 32) 13 rfl (by decide +kernel) (by decide) rfl rfl (fun G => w_loadRp rfl hr2 rfl) ?_ | refine aqyp (g := 32) 13 rfl (by decide +kernel) (by decide) rfl rfl (fun G => w_loadN (cs := [_, _, _, _, _, _, _, _, _, _, _, _, _, _, _, _, _, _, _, _, _, _, _, _, _, _, _]) rfl (lk rfl rfl) rfl rfl rfl rfl) ?_ | refine aqyp (g := 32) 13 rfl (by decide +kernel) (by decide) rfl rfl (fun G => o_loadNp (cs := [_, _, _, _, _, _, _, _, _, _, _, _, _, _, _, _, _, _, _, _, _, _, _, _, _, _, _]) rfl hr rfl rfl) ?_ | refine aqyp (g := 32) 13 rfl (by decide +kernel) (by decide) rfl rfl (fun G => o_loadNp (cs := [_, _, _, _, _, _, _, _, _, _, _, _, _, _, _, _, _, _, _, _, _, _, _, _, _, _, _]) rfl hr1 rfl rfl) ?_ | refine aqyp (g := 32) 13 rfl (by decide +kernel) (by decide) rfl rfl (fun G => o_loadNp (cs := [_, _, _, _, _, _, _, _, _, _, _, _, _, _, _, _, _, _, _, _, _, _, _, _, _, _, _]) rfl hr2 rfl rfl) ?_ | refine aqyp (g := 32) 13 rfl (by decide +kernel) (by decide) rfl rfl (fun G => w_loadR rfl (lkF hF) rfl rfl rfl) ?_ | refine aqyp (g := 32) 13 rfl (by decide +kernel) (by decide) rfl rfl (fun G => w_loadN (cs := [_, _, _, _, _, _, _, _, _, _, _, _, _, _, _, _, _, _, _, _, _, _, _, _, _, _, _]) rfl (lkF hF) rfl rfl rfl rfl) ?_
        first | refine aqyp (g := 32) 14 rfl (by decide +kernel) (by decide) rfl rfl (fun G => w_loadR rfl (lk rfl rfl) rfl rfl rfl) ?_ | refine aqyp (g := 32) 14 rfl (by decide +kernel) (by decide) rfl rfl (fun G => w_loadR rfl (lk rfl rfl) rfl (zadd hr) rfl) ?_ | refine aqyp (g := 32) 14 rfl (by decide +kernel) (by decide) rfl rfl (fun G => w_loadR rfl (lk rfl rfl) rfl (zadd hr1) rfl) ?_ | refine aqyp (g := 32) 14 rfl (by decide +kernel) (by decide) rfl rfl (fun G => w_loadR rfl (lk rfl rfl) rfl (zadd hr2) rfl) ?_ | refine aqyp (g := 32) 14 rfl (by decide +kernel) (by decide) rfl rfl (fun G => w_loadRp rfl hr rfl) ?_ | refine aqyp (g := 32) 14 rfl (by decide +kernel) (by decide) rfl rfl (fun G => w_loadRp rfl hr1 rfl) ?_ | refine aqyp (g := 32) 14 rfl (by decide +kernel) (by decide) rfl rfl (fun G => w_loadRp rfl hr2 rfl) ?_ | refine aqyp (g := 32) 14 rfl (by decide +kernel) (by decide) rfl rfl (fun G => w_loadN (cs := [_, _, _, _, _, _, _, _, _, _, _, _, _, _, _, _, _, _, _, _, _, _, _, _, _, _, _]) rfl (lk rfl rfl) rfl rfl rfl rfl) ?_ | refine aqyp (g := 32) 14 rfl (by decide +kernel) (by decide) rfl rfl (fun G => o_loadNp (cs := [_, _, _, _, _, _, _, _, _, _, _, _, _, _, _, _, _, _, _, _, _, _, _, _, _, _, _]) rfl hr rfl rfl) ?_ | refine aqyp (g := 32) 14 rfl (by decide +kernel) (by decide) rfl rfl (fun G => o_loadNp (cs := [_, _, _, _, _, _, _, _, _, _, _, _, _, _, _, _, _, _, _, _, _, _, _, _, _, _, _]) rfl hr1 rfl rfl) ?_ | refine aqyp (g := 32) 14 rfl (by decide +kernel) (by decide) rfl rfl (fun G => o_loadNp (cs := [_, _, _, _, _, _, _, _, _, _, _, _, _, _, _, _, _, _, _, _, _, _, _, _, _, _, _]) rfl hr2 rfl rfl) ?_ | refine aqyp (g := 32) 14 rfl (by decide +kernel) (by decide) rfl rfl (fun G => w_loadR rfl (lkF hF) rfl rfl rfl) ?_ | refine aqyp (g := 32) 14 rfl (by decide +kernel) (by decide) rfl rfl (fun G => w_loadN (cs := [_, _, _, _, _, _, _, _, _, _, _, _, _, _, _, _, _, _, _, _, _, _, _, _, _, _, _]) rfl (lkF hF) rfl rfl rfl rfl) ?_
        first | refine aqyp (g := 32) 15 rfl (by decide +kernel) (by decide) rfl rfl (fun G => w_loadR rfl (lk rfl rfl) rfl rfl rfl) ?_ | refine aqyp (g := 32) 15 rfl (by decide +kernel) (by decide) rfl rfl (fun G => w_loadR rfl (lk rfl rfl) rfl (zadd hr) rfl) ?_ | refine aqyp (g := 32) 15 rfl (by decide +kernel) (by decide) rfl rfl (fun G => w_loadR rfl (lk rfl rfl) rfl (zadd hr1) rfl) ?_ | refine aqyp (g := 32) 15 rfl (by decide +kernel) (by decide) rfl rfl (fun G => w_loadR rfl (lk rfl rfl) rfl (zadd hr2) rfl) ?_ | refine aqyp (g := 32) 15 rfl (by decide +kernel) (by decide) rfl rfl (fun G => w_loadRp rfl hr rfl) ?_ | refine aqyp (g := 32) 15 rfl (by decide +kernel) (by decide) rfl rfl (fun G => w_loadRp rfl hr1 rfl) ?_ | refine aqyp (g := 32) 15 rfl (by decide +kernel) (by decide) rfl rfl (fun G => w_loadRp rfl hr2 rfl) ?_ | refine aqyp (g := 32) 15 rfl (by decide +kernel) (by decide) rfl rfl (fun G => w_loadN (cs := [_, _, _, _, _, _, _, _, _, _, _, _, _, _, _, _, _, _, _, _, _, _, _, _, _, _, _]) rfl (lk rfl rfl) rfl rfl rfl rfl) ?_ | refine aqyp (g := 32) 15 rfl (by decide +kernel) (by decide) rfl rfl (fun G => o_loadNp (cs := [_, _, _, _, _, _, _, _, _, _, _, _, _, _, _, _, _, _, _, _, _, _, _, _, _, _, _]) rfl hr rfl rfl) ?_ | refine aqyp (g := 32) 15 rfl (by decide +kernel) (by decide) rfl rfl (fun G => o_loadNp (cs := [_, _, _, _, _, _, _, _, _, _, _, _, _, _, _, _, _, _, _, _, _, _, _, _, _, _, _]) rfl hr1 rfl rfl) ?_ | refine aqyp (g := 32) 15 rfl (by decide +kernel) (by decide) rfl rfl (fun G => o_loadNp (cs := [_, _, _, _, _, _, _, _, _, _, _, _, _, _, _, _, _, _, _, _, _, _, _, _, _, _, _]) rfl hr2 rfl rfl) ?_ | refine aqyp (g := 32) 15 rfl (by decide +kernel) (by decide) rfl rfl (fun G => w_loadR rfl (lkF hF) rfl rfl rfl) ?_ | refine aqyp (g := 32) 15 rfl (by decide +kernel) (by decide) rfl rfl (fun G => w_loadN (cs := [_, _, _, _, _, _, _, _, _, _, _, _, _, _, _, _, _, _, _, _, _, _, _, _, _, _, _]) rfl (lkF hF) rfl rfl rfl rfl) ?_
        refine aqy02 (g := 32) 16 rfl (by decide +kernel) (by decide) rfl rfl (fun _ => V2.call (stat_Plus b a _) rfl) ?_
        refine aqy0 (g := 32) 17 rfl (by decide +kernel) (by decide) rfl rfl (fun _ => o_neAgg (us := uStat (splus a b)) (vs := uStat (splus b a)) (b := true) rfl rfl (stat_flat _) (stat_flat _) (by kernel_rfl) (fun w => (eqStat_run _ _ w).trans (by rw [decide_eq_true e1]))) ?_
        refine Zhh ?_
        exact Zk7
  refine Z1 ?_
  refine aw_cond rfl (fun hc => ?_) (fun hc => ?_)
  · simp at hc
  clear hc cO cR
  refine Zjk ?_
  refine ao_ret (stat_Kinds _ _) rfl (by decide) ?_
  refine Zb7 ?_
  first | refine ao2 (by rintro _ ⟨⟩) (w_storeW (sz := 5) rfl rfl rfl rfl rfl rfl rfl rfl (Nat.le_of_ble_eq_true rfl)) ?_ | refine ao2 (by rintro _ ⟨⟩) (w_storeFP (sz := 5) (v := .agg _) (r' := [_, _, _, _, _]) rfl hF rfl rfl rfl rfl rfl (Nat.le_of_ble_eq_true rfl) rfl) ?_ | refine ao2 (by rintro _ ⟨⟩) (w_storeFP (sz := 5) (v := .agg _) (r' := [_, _, _, _, _]) rfl hF1 rfl rfl rfl rfl rfl (Nat.le_of_ble_eq_true rfl) rfl) ?_
  refine Z7 ?_
  refine Z1a ?_
  refine Z1d ?_
  refine aw_loop (G := Nat) (fun k => k ≤ 7) (fun k => [(4, .pt (Lid H.length 1) 0 0 0), (8, .pt (Lid H.length 4) 0 0 0), (9, .int .i64 (sjobsL a k)), (10, .int .i64 (k : Int))]) (fun k => H ++ [⟨0, 9, [eInst i]⟩, ⟨0, 27, [eStat a]⟩, ⟨0, 27, [eStat b]⟩, ⟨0, 27, [eStat (splus a b)]⟩, ⟨0, 5, [eK5 (skinds a)]⟩]) (fun k => 7 - k) 0 (Nat.zero_le _) (by repeat (first | exact Sub.nil | refine Sub.cons (by first | rfl | (simp [get]; done)) ?_)) (.inl rfl) ?_
  intro k hk
  refine Z1n ?_
  refine aw_cond rfl (fun hc => ?_) (fun hc => ?_)
  · have hlt : k < 7 := by simp at hc; omega
    have fa : (eStat a)[0 + 20 + k * 1]? = some (.int .i64 (a (20 + k))) := by rw [show 0 + 20 + k * 1 = 20 + k by omega]; exact eStat_get _ (by omega)
    clear hc
    refine Z2q ?_
    refine Z2u ?_
    refine ao1 (by decide) (w_indexArrN rfl (lk rfl rfl) rfl rfl hlt) ?_
    refine ao1 (by decide) (w_load1 (v := .int .i64 _) rfl (lk rfl rfl) rfl rfl fa) ?_
    refine ao1 (by decide) (o_add (r := sjobsL a (k + 1)) rfl rfl rfl) ?_
    refine Z15 ?_
    refine Z2e ?_
    exact ⟨k + 1, by omega, by omega, (by repeat (first | exact Sub.nil | refine Sub.cons (by first | rfl | (simp [get]; done)) ?_)), .inl rfl⟩
  · have : k = 7 := by simp at hc; omega
    subst this
    clear hc
    refine Z58 ?_
    refine aw_loop (G := Nat) (fun k => k ≤ 5) (fun k => [(4, .pt (Lid H.length 1) 0 0 0), (8, .pt (Lid H.length 4) 0 0 0), (9, .int .i64 (sjobs a)), (11, .int .i64 (k : Int))]) (fun k => H ++ [⟨0, 9, [eInst i]⟩, ⟨0, 27, [eStat a]⟩, ⟨0, 27, [eStat b]⟩, ⟨0, 27, [eStat (splus a b)]⟩, ⟨0, 5, [eK5 (skinds a)]⟩]) (fun k => 5 - k) 0 (Nat.zero_le _) (by repeat (first | exact Sub.nil | refine Sub.cons (by first | rfl | (simp [get]; done)) ?_)) (.inl rfl) ?_
    intro k hk
    refine Z1n ?_
    refine aw_cond rfl (fun hc => ?_) (fun hc => ?_)
    · have hlt : k < 5 := by simp at hc; omega
      have h0 : (eStat a)[0 + 0 + k * 1]? = some (.int .i64 (a k)) := by rw [show 0 + 0 + k * 1 = k by omega]; exact eStat_get _ (by omega)
      have h1 : (eStat a)[0 + 5 + k * 1]? = some (.int .i64 (a (5 + k))) := by rw [show 0 + 5 + k * 1 = 5 + k by omega]; exact eStat_get _ (by omega)
      have h2 : (eStat a)[0 + 10 + k * 1]? = some (.int .i64 (a (10 + k))) := by rw [show 0 + 10 + k * 1 = 10 + k by omega]; exact eStat_get _ (by omega)
      have h3 : (eStat a)[0 + 15 + k * 1]? = some (.int .i64 (a (15 + k))) := by rw [show 0 + 15 + k * 1 = 15 + k by omega]; exact eStat_get _ (by omega)
      have hK : (eK5 (skinds a))[0 + k * 1]? = some (.int .i64 (skinds a k)) := by rw [show 0 + k * 1 = k by omega]; exact eK5_get _ hlt
      clear hc
      refine Z1 ?_
      refine aw_of_out 77 (.bool false) ?_ ?_
      · refine aw_drawP mixed none 5 ?_
        refine Z79 ?_
        refine aqp 1 rfl (by decide +kernel) (by decide) (fun G => w_indexArrN rfl (lk rfl rfl) rfl rfl hlt) ?_
        refine aqp 2 rfl (by decide +kernel) (by decide) (fun G => w_load1 (v := .int .i64 _) rfl (lk rfl rfl) rfl rfl hK) ?_
        refine Zbk ?_
        refine Ziz ?_
        refine aqp 5 rfl (by decide +kernel) (by decide) (fun G => w_indexArrN rfl (lk rfl rfl) rfl rfl hlt) ?_
        refine aqp 6 rfl (by decide +kernel) (by decide) (fun G => w_load1 (v := .int .i64 _) rfl (lk rfl rfl) rfl rfl h0) ?_
        refine aq0 7 rfl (by decide +kernel) (by decide) (fun _ => o_move (v := .int _ _) rfl) ?_
        refine Zis ?_
        refine aqp 9 rfl (by decide +kernel) (by decide) (fun G => w_indexArrN rfl (lk rfl rfl) rfl rfl hlt) ?_
        refine aqp 10 rfl (by decide +kernel) (by decide) (fun G => w_load1 (v := .int .i64 _) rfl (lk rfl rfl) rfl rfl h1) ?_
        refine aq0 11 rfl (by decide +kernel) (by decide) (fun _ => o_add rfl rfl rfl) ?_
        refine aq0 12 rfl (by decide +kernel) (by decide) (fun _ => o_move (v := .int _ _) rfl) ?_
        refine Ziu ?_
        refine Zji ?_
        refine aqp 15 rfl (by decide +kernel) (by decide) (fun G => w_load1 (v := .int .i64 _) rfl (lk rfl rfl) rfl rfl h2) ?_
        refine aq0 16 rfl (by decide +kernel) (by decide) (fun _ => o_add rfl rfl rfl) ?_
        refine aq0 17 rfl (by decide +kernel) (by decide) (fun _ => o_move (v := .int _ _) rfl) ?_
        first | refine aqp 18 rfl (by decide +kernel) (by decide) (fun G => w_fieldAddr rfl (lk rfl rfl) rfl (by decide)) ?_ | refine aqp 18 rfl (by decide +kernel) (by decide) (fun G => w_fieldAddrp rfl (by decide)) ?_ | refine aqp 18 rfl (by decide +kernel) (by decide) (fun G => w_fieldAddr rfl (lkF hF) rfl (by decide)) ?_
        refine aqp 19 rfl (by decide +kernel) (by decide) (fun G => w_indexArrN rfl (lk rfl rfl) rfl rfl hlt) ?_
        refine aqp 20 rfl (by decide +kernel) (by decide) (fun G => w_load1 (v := .int .i64 _) rfl (lk rfl rfl) rfl rfl h3) ?_
        refine aq0 21 rfl (by decide +kernel) (by decide) (fun _ => o_add (r := skinds a k) rfl rfl rfl) ?_
        refine aq0 22 rfl (by decide +kernel) (by decide) (fun _ => o_ne rfl rfl) ?_
        exact aa_done (by decide +kernel) (by first | exact fun _ => trivial | exact fun _ => ⟨_, rfl⟩ | exact fun _ => ⟨_, rfl, rfl⟩ | exact fun _ => ⟨_, rfl, rfl, rfl⟩ | exact yet_done (by decide +kernel)) (Out.mk (by first | rfl | (refine congrArg AV.bool ?_; (clear hB; simp_all))) (by repeat (first | exact SubX.refl _ _ | refine SubX.at ?_ | refine SubX.put rfl ?_ | refine SubX.put_same rfl ?_)))
      refine Z1 ?_
      refine aw_cond rfl (fun hc => ?_) (fun hc => ?_)
      · simp at hc
      clear hc
      refine Z2f ?_
      exact ⟨k + 1, by omega, by omega, (by repeat (first | exact Sub.nil | refine Sub.cons (by first | rfl | (simp [get]; done)) ?_)), .inl rfl⟩
    · have : k = 5 := by simp at hc; omega
      subst this
      refine Zjk ?_
      refine ao_ret (stat_Jobs _ _) rfl (by decide) ?_
      refine Za ?_
      refine Z12 ?_
      exact e_done hB (r_tmp (show _ = AV.bool true from congrArg AV.bool (beq_self_eq_true (sjobs a))) .nil) rfl rfl
end Go.Av

/-
  FROM A CALL's CONTRACT TO A ROW, in a world whose table is known.
-/
namespace Go.Av
open Go.RowKit
theorem act_row {P : Program} {w : World} {K : Know} {f : FuncId} {avs : List AV} {us : List Value} {bb : Bool} (h : ACT P K f avs [] (Ret (.bool bb) [])) (hk : Kn K [] w) (hv : All2 (VR (own []) w []) avs us) : Calls P f us.toArray w fun e w' => e = .returned (.bool bb) ∧ Below w.heap.size w w' := by
  refine (h [] w us.toArray hk ⟨rfl, fun _ _ _ h => by simp at h, fun _ _ _ _ _ h => by simp at h⟩ hv.vrs).mono fun e w' => ?_
  rintro ⟨o, H', S', ⟨rfl, rfl⟩, ho, hh, hx⟩
  cases ho with
  | ret hb =>
    cases hb
    exact ⟨rfl, hx.os, hx.tape, hx.output, hx.stp.size, fun k hk => (hx.stp.old k hk (by rintro ⟨i, s, hs, _⟩; simp at hs)).2⟩
/-- A table of numbers that is laid is known. -/
theorem kn_of_tab {P : Program} {W : World} {name : String} {k : IntKind} {zs : List Int} {g : Nat} {K : Know} (hg : P.globalNamed name = some g) (hz : zs ≠ []) (hK : K = ⟨g, zs.map fun z => Value.int k z⟩) (h : Lib.TabIs P W name k zs) : Kn K [] W := by
  subst hK
  have hc : ∀ j v, (zs.map fun z => Value.int k z)[j]? = some v → W.cell? ⟨g, j, none⟩ = some v := by
    intro j v hj
    have := World.var?_cell hg h j
    rw [this]
    simpa using hj
  have hx : ∃ ty fz, W.heap[g]? = some (Obj.cells (zs.map fun z => Value.int k z).toArray ty fz) := by
    unfold Lib.TabIs World.var? at h
    rw [hg] at h
    simp only [Option.bind_some] at h
    split at h
    · rename_i cs ty fz e
      obtain rfl := Option.some.inj h
      exact ⟨ty, fz, e⟩
    · cases h
  refine ⟨by rintro ⟨i, s, hs, _⟩; simp at hs, ?_, hc, hx⟩
  clear hx
  cases zs with
  | nil => exact absurd rfl hz
  | cons z zs =>
    have h0 := hc 0 _ rfl
    show g < W.heap.size
    rcases Nat.lt_or_ge g W.heap.size with h1 | h1
    · exact h1
    · exfalso
      simp [World.cell?, Array.getElem?_eq_none h1] at h0
end Go.Av

/-
  Schedulers, once they are read; the laid table is known.
-/
namespace Go.Av
open Go.Proofs Go.Proofs.YtcncbmpblkgfjaaGreatDoor
open Go.RowKit
set_option linter.unusedVariables false
set_option maxRecDepth 10000
theorem rows_mapP {α : Type} {e : α → List AV} {p : α → Prop} : ∀ {rows : List (List AV)}, (∀ r ∈ rows, ∃ x : α, r = e x ∧ p x) → ∃ l : List α, rows = l.map e ∧ ∀ x ∈ l, p x
  | [], _ => ⟨[], rfl, (fun _ h => nomatch h)⟩
  | r :: rows, h => by
    obtain ⟨x, rfl, hx⟩ := h r List.mem_cons_self
    obtain ⟨l, rfl, hl⟩ := rows_mapP fun r hr => h r (List.mem_cons_of_mem _ hr)
    refine ⟨x :: l, rfl, fun y hy => ?_⟩
    rcases List.mem_cons.1 hy with rfl | hy
    · exact hx
    · exact hl y hy
theorem thing_dec {r : List AV} (h : RowIs Tryz.prog 5 [3, 3, 9] r) : ∃ x : Thing, r = eThing x ∧ x.tag.size ≤ 9223372036854775807 := by
  obtain ⟨a0, r, rfl, h0, h⟩ := row_cons h
  obtain ⟨a1, r, rfl, h1, h⟩ := row_cons h
  obtain ⟨a2, r, rfl, h2, h⟩ := row_cons h
  obtain rfl := row_nil h
  obtain ⟨i0, rfl, _⟩ := cell_int (UdI.ud (P := Tryz.prog) (t := 3)) h0
  obtain ⟨i1, rfl, _⟩ := cell_int (UdI.ud (P := Tryz.prog) (t := 3)) h1
  obtain ⟨i2, rfl, hs⟩ := cell_str (UdI.ud (P := Tryz.prog) (t := 9)) h2
  exact ⟨⟨i0, i1, i2⟩, rfl, hs⟩
theorem ints_dec6 {a : AV} (h : CellOk Tryz.prog 6 23 a) : ∃ l : List Int, a = .pl (l.map eI) := by
  have hts : cellTys Tryz.prog (5 + 1) 3 = some [3] := by kernel_rfl
  obtain ⟨rows, rfl, _, h3⟩ := cell_sl (SlI.ud (P := Tryz.prog) (t := 23)) hts h
  obtain ⟨l, rfl⟩ := rows_map (e := eI) (rows := rows) fun r hr => by
    have h := h3 r hr
    obtain ⟨a1, r, rfl, h1, h⟩ := row_cons h
    obtain rfl := row_nil h
    obtain ⟨i1, rfl, _⟩ := cell_int (UdI.ud (P := Tryz.prog) (t := 3)) h1
    exact ⟨i1, rfl⟩
  exact ⟨l, rfl⟩
theorem ints_dec5 {a : AV} (h : CellOk Tryz.prog 5 23 a) : ∃ l : List Int, a = .pl (l.map eI) := by
  have hts : cellTys Tryz.prog (4 + 1) 3 = some [3] := by kernel_rfl
  obtain ⟨rows, rfl, _, h3⟩ := cell_sl (SlI.ud (P := Tryz.prog) (t := 23)) hts h
  obtain ⟨l, rfl⟩ := rows_map (e := eI) (rows := rows) fun r hr => by
    have h := h3 r hr
    obtain ⟨a1, r, rfl, h1, h⟩ := row_cons h
    obtain rfl := row_nil h
    obtain ⟨i1, rfl, _⟩ := cell_int (UdI.ud (P := Tryz.prog) (t := 3)) h1
    exact ⟨i1, rfl⟩
  exact ⟨l, rfl⟩
theorem things_dec {a : AV} (h : CellOk Tryz.prog 6 22 a) : ∃ l : List Thing, a = .pl (l.map eThing) ∧ TW l := by
  have hts : cellTys Tryz.prog (5 + 1) 72 = some [3, 3, 9] := by kernel_rfl
  obtain ⟨rows, rfl, _, h3⟩ := cell_sl (SlI.ud (P := Tryz.prog) (t := 22)) hts h
  obtain ⟨l, rfl, hl⟩ := rows_mapP (e := eThing) (rows := rows) fun r hr => thing_dec (h3 r hr)
  exact ⟨l, rfl, hl⟩
theorem job_dec {r : List AV} (h : RowIs Tryz.prog 5 [3, 3, 3, 3, 9, 4, 2, 3, 23, 3, 2, 2, 2] r) : ∃ x : Job, r = eJob x ∧ x.spec.tag.size ≤ 9223372036854775807 := by
  obtain ⟨a0, r, rfl, h0, h⟩ := row_cons h
  obtain ⟨a1, r, rfl, h1, h⟩ := row_cons h
  obtain ⟨a2, r, rfl, h2, h⟩ := row_cons h
  obtain ⟨a3, r, rfl, h3, h⟩ := row_cons h
  obtain ⟨a4, r, rfl, h4, h⟩ := row_cons h
  obtain ⟨a5, r, rfl, h5, h⟩ := row_cons h
  obtain ⟨a6, r, rfl, h6, h⟩ := row_cons h
  obtain ⟨a7, r, rfl, h7, h⟩ := row_cons h
  obtain ⟨a8, r, rfl, h8, h⟩ := row_cons h
  obtain ⟨a9, r, rfl, h9, h⟩ := row_cons h
  obtain ⟨a10, r, rfl, h10, h⟩ := row_cons h
  obtain ⟨a11, r, rfl, h11, h⟩ := row_cons h
  obtain ⟨a12, r, rfl, h12, h⟩ := row_cons h
  obtain rfl := row_nil h
  obtain ⟨i0, rfl, _⟩ := cell_int (UdI.ud (P := Tryz.prog) (t := 3)) h0
  obtain ⟨i1, rfl, _⟩ := cell_int (UdI.ud (P := Tryz.prog) (t := 3)) h1
  obtain ⟨i2, rfl, _⟩ := cell_int (UdI.ud (P := Tryz.prog) (t := 3)) h2
  obtain ⟨i3, rfl, _⟩ := cell_int (UdI.ud (P := Tryz.prog) (t := 3)) h3
  obtain ⟨i4, rfl, hs⟩ := cell_str (UdI.ud (P := Tryz.prog) (t := 9)) h4
  obtain ⟨i5, rfl⟩ := cell_bool (UdI.ud (P := Tryz.prog) (t := 4)) h5
  obtain ⟨i6, rfl, _⟩ := cell_int (UdI.ud (P := Tryz.prog) (t := 2)) h6
  obtain ⟨i7, rfl, _⟩ := cell_int (UdI.ud (P := Tryz.prog) (t := 3)) h7
  obtain ⟨i8, rfl⟩ := ints_dec5 h8
  obtain ⟨i9, rfl, _⟩ := cell_int (UdI.ud (P := Tryz.prog) (t := 3)) h9
  obtain ⟨i10, rfl, _⟩ := cell_int (UdI.ud (P := Tryz.prog) (t := 2)) h10
  obtain ⟨i11, rfl, _⟩ := cell_int (UdI.ud (P := Tryz.prog) (t := 2)) h11
  obtain ⟨i12, rfl, _⟩ := cell_int (UdI.ud (P := Tryz.prog) (t := 2)) h12
  exact ⟨⟨i0, ⟨i1, i2, i3, i4, i5, i6, i7⟩, i8, i9, i10, i11, i12⟩, rfl, hs⟩
theorem held_dec {r : List AV} (h : RowIs Tryz.prog 5 [3, 23, 2, 2] r) : ∃ x : Held, r = eHeld x := by
  obtain ⟨a0, r, rfl, h0, h⟩ := row_cons h
  obtain ⟨a1, r, rfl, h1, h⟩ := row_cons h
  obtain ⟨a2, r, rfl, h2, h⟩ := row_cons h
  obtain ⟨a3, r, rfl, h3, h⟩ := row_cons h
  obtain rfl := row_nil h
  obtain ⟨i0, rfl, _⟩ := cell_int (UdI.ud (P := Tryz.prog) (t := 3)) h0
  obtain ⟨i1, rfl⟩ := ints_dec5 h1
  obtain ⟨i2, rfl, _⟩ := cell_int (UdI.ud (P := Tryz.prog) (t := 2)) h2
  obtain ⟨i3, rfl, _⟩ := cell_int (UdI.ud (P := Tryz.prog) (t := 2)) h3
  exact ⟨⟨i0, i1, i2, i3⟩, rfl⟩
theorem jobs_dec {a : AV} (h : CellOk Tryz.prog 6 24 a) : ∃ l : List Job, a = .pl (l.map eJob) ∧ QT l := by
  have hts : cellTys Tryz.prog (5 + 1) 63 = some [3, 3, 3, 3, 9, 4, 2, 3, 23, 3, 2, 2, 2] := by kernel_rfl
  obtain ⟨rows, rfl, _, h3⟩ := cell_sl (SlI.ud (P := Tryz.prog) (t := 24)) hts h
  obtain ⟨l, rfl, hl⟩ := rows_mapP (e := eJob) (rows := rows) fun r hr => job_dec (h3 r hr)
  exact ⟨l, rfl, hl⟩
theorem helds_dec {a : AV} (h : CellOk Tryz.prog 6 25 a) : ∃ l : List Held, a = .pl (l.map eHeld) := by
  have hts : cellTys Tryz.prog (5 + 1) 60 = some [3, 23, 2, 2] := by kernel_rfl
  obtain ⟨rows, rfl, _, h3⟩ := cell_sl (SlI.ud (P := Tryz.prog) (t := 25)) hts h
  obtain ⟨l, rfl⟩ := rows_map (e := eHeld) (rows := rows) fun r hr => held_dec (h3 r hr)
  exact ⟨l, rfl⟩
theorem inst_dec {r : List AV} (h : RowIs Tryz.prog 6 [22, 23, 23, 2, 24, 25, 2, 3, 3] r) : ∃ x : Inst, r = eInst x ∧ TagsW x := by
  obtain ⟨a0, r, rfl, h0, h⟩ := row_cons h
  obtain ⟨a1, r, rfl, h1, h⟩ := row_cons h
  obtain ⟨a2, r, rfl, h2, h⟩ := row_cons h
  obtain ⟨a3, r, rfl, h3, h⟩ := row_cons h
  obtain ⟨a4, r, rfl, h4, h⟩ := row_cons h
  obtain ⟨a5, r, rfl, h5, h⟩ := row_cons h
  obtain ⟨a6, r, rfl, h6, h⟩ := row_cons h
  obtain ⟨a7, r, rfl, h7, h⟩ := row_cons h
  obtain ⟨a8, r, rfl, h8, h⟩ := row_cons h
  obtain rfl := row_nil h
  obtain ⟨i0, rfl, hg⟩ := things_dec h0
  obtain ⟨i1, rfl⟩ := ints_dec6 h1
  obtain ⟨i2, rfl⟩ := ints_dec6 h2
  obtain ⟨i3, rfl, _⟩ := cell_int (UdI.ud (P := Tryz.prog) (t := 2)) h3
  obtain ⟨i4, rfl, hj⟩ := jobs_dec h4
  obtain ⟨i5, rfl⟩ := helds_dec h5
  obtain ⟨i6, rfl, _⟩ := cell_int (UdI.ud (P := Tryz.prog) (t := 2)) h6
  obtain ⟨i7, rfl, _⟩ := cell_int (UdI.ud (P := Tryz.prog) (t := 3)) h7
  obtain ⟨i8, rfl, _⟩ := cell_int (UdI.ud (P := Tryz.prog) (t := 3)) h8
  exact ⟨⟨i0, i1, i2, i3, i4, i5, i6, i7, i8⟩, rfl, ⟨hg, hj⟩⟩
theorem stat_dec {r : List AV} (h : RowIs Tryz.prog 4 [3, 3, 3, 3, 3, 3, 3, 3, 3, 3, 3, 3, 3, 3, 3, 3, 3, 3, 3, 3, 3, 3, 3, 3, 3, 3, 3] r) : ∃ f : Nat → Int, r = eStat f := by
  obtain ⟨a0, r, rfl, h0, h⟩ := row_cons h
  obtain ⟨a1, r, rfl, h1, h⟩ := row_cons h
  obtain ⟨a2, r, rfl, h2, h⟩ := row_cons h
  obtain ⟨a3, r, rfl, h3, h⟩ := row_cons h
  obtain ⟨a4, r, rfl, h4, h⟩ := row_cons h
  obtain ⟨a5, r, rfl, h5, h⟩ := row_cons h
  obtain ⟨a6, r, rfl, h6, h⟩ := row_cons h
  obtain ⟨a7, r, rfl, h7, h⟩ := row_cons h
  obtain ⟨a8, r, rfl, h8, h⟩ := row_cons h
  obtain ⟨a9, r, rfl, h9, h⟩ := row_cons h
  obtain ⟨a10, r, rfl, h10, h⟩ := row_cons h
  obtain ⟨a11, r, rfl, h11, h⟩ := row_cons h
  obtain ⟨a12, r, rfl, h12, h⟩ := row_cons h
  obtain ⟨a13, r, rfl, h13, h⟩ := row_cons h
  obtain ⟨a14, r, rfl, h14, h⟩ := row_cons h
  obtain ⟨a15, r, rfl, h15, h⟩ := row_cons h
  obtain ⟨a16, r, rfl, h16, h⟩ := row_cons h
  obtain ⟨a17, r, rfl, h17, h⟩ := row_cons h
  obtain ⟨a18, r, rfl, h18, h⟩ := row_cons h
  obtain ⟨a19, r, rfl, h19, h⟩ := row_cons h
  obtain ⟨a20, r, rfl, h20, h⟩ := row_cons h
  obtain ⟨a21, r, rfl, h21, h⟩ := row_cons h
  obtain ⟨a22, r, rfl, h22, h⟩ := row_cons h
  obtain ⟨a23, r, rfl, h23, h⟩ := row_cons h
  obtain ⟨a24, r, rfl, h24, h⟩ := row_cons h
  obtain ⟨a25, r, rfl, h25, h⟩ := row_cons h
  obtain ⟨a26, r, rfl, h26, h⟩ := row_cons h
  obtain rfl := row_nil h
  obtain ⟨i0, rfl, _⟩ := cell_int (UdI.ud (P := Tryz.prog) (t := 3)) h0
  obtain ⟨i1, rfl, _⟩ := cell_int (UdI.ud (P := Tryz.prog) (t := 3)) h1
  obtain ⟨i2, rfl, _⟩ := cell_int (UdI.ud (P := Tryz.prog) (t := 3)) h2
  obtain ⟨i3, rfl, _⟩ := cell_int (UdI.ud (P := Tryz.prog) (t := 3)) h3
  obtain ⟨i4, rfl, _⟩ := cell_int (UdI.ud (P := Tryz.prog) (t := 3)) h4
  obtain ⟨i5, rfl, _⟩ := cell_int (UdI.ud (P := Tryz.prog) (t := 3)) h5
  obtain ⟨i6, rfl, _⟩ := cell_int (UdI.ud (P := Tryz.prog) (t := 3)) h6
  obtain ⟨i7, rfl, _⟩ := cell_int (UdI.ud (P := Tryz.prog) (t := 3)) h7
  obtain ⟨i8, rfl, _⟩ := cell_int (UdI.ud (P := Tryz.prog) (t := 3)) h8
  obtain ⟨i9, rfl, _⟩ := cell_int (UdI.ud (P := Tryz.prog) (t := 3)) h9
  obtain ⟨i10, rfl, _⟩ := cell_int (UdI.ud (P := Tryz.prog) (t := 3)) h10
  obtain ⟨i11, rfl, _⟩ := cell_int (UdI.ud (P := Tryz.prog) (t := 3)) h11
  obtain ⟨i12, rfl, _⟩ := cell_int (UdI.ud (P := Tryz.prog) (t := 3)) h12
  obtain ⟨i13, rfl, _⟩ := cell_int (UdI.ud (P := Tryz.prog) (t := 3)) h13
  obtain ⟨i14, rfl, _⟩ := cell_int (UdI.ud (P := Tryz.prog) (t := 3)) h14
  obtain ⟨i15, rfl, _⟩ := cell_int (UdI.ud (P := Tryz.prog) (t := 3)) h15
  obtain ⟨i16, rfl, _⟩ := cell_int (UdI.ud (P := Tryz.prog) (t := 3)) h16
  obtain ⟨i17, rfl, _⟩ := cell_int (UdI.ud (P := Tryz.prog) (t := 3)) h17
  obtain ⟨i18, rfl, _⟩ := cell_int (UdI.ud (P := Tryz.prog) (t := 3)) h18
  obtain ⟨i19, rfl, _⟩ := cell_int (UdI.ud (P := Tryz.prog) (t := 3)) h19
  obtain ⟨i20, rfl, _⟩ := cell_int (UdI.ud (P := Tryz.prog) (t := 3)) h20
  obtain ⟨i21, rfl, _⟩ := cell_int (UdI.ud (P := Tryz.prog) (t := 3)) h21
  obtain ⟨i22, rfl, _⟩ := cell_int (UdI.ud (P := Tryz.prog) (t := 3)) h22
  obtain ⟨i23, rfl, _⟩ := cell_int (UdI.ud (P := Tryz.prog) (t := 3)) h23
  obtain ⟨i24, rfl, _⟩ := cell_int (UdI.ud (P := Tryz.prog) (t := 3)) h24
  obtain ⟨i25, rfl, _⟩ := cell_int (UdI.ud (P := Tryz.prog) (t := 3)) h25
  obtain ⟨i26, rfl, _⟩ := cell_int (UdI.ud (P := Tryz.prog) (t := 3)) h26
  exact ⟨fun j => [i0, i1, i2, i3, i4, i5, i6, i7, i8, i9, i10, i11, i12, i13, i14, i15, i16, i17, i18, i19, i20, i21, i22, i23, i24, i25, i26].getD j 0, rfl⟩
abbrev laidD : List (String × DataW Unit) := [("math/bits.deBruijn64tab", Rows.laid_math_bits_deBruijn64tab)]
theorem laid_kn {W : World} (h : laidMetH Tryz.prog laidD W) : Kn KD [] W := by
  rw [MakeChecks.laidMetH_plain _ _ _ (by kernel_rfl)] at h
  have hg : Tryz.prog.globalNamed "math/bits.deBruijn64tab" = some 0 := by kernel_rfl
  have h2 : Lib.TabIs Tryz.prog W "math/bits.deBruijn64tab" .u8 (Lib.deBruijn64tab.map fun n : Nat => (n : Int)) :=
    Lib.tabIs_of_head (rest := []) (t := 215) (e := 5) (n := 64) hg (by kernel_rfl) (by kernel_rfl) (by kernel_rfl) (by kernel_rfl) (by kernel_rfl) h
  exact kn_of_tab hg (by decide) (by unfold KD; rw [List.map_map]; rfl) h2
theorem door_met (os : Os) (args : Array Value) : laidMetH Tryz.prog laidD ((World.doorLaid Tryz.prog 400 os).forCall (fun _ _ => 0) ⟨#[], args, []⟩).memory :=
  laidMetH_of_parts3 (fuel := 8) (laidMet_of_run' 8 (by kernel_rfl) (by kernel_rfl)) (by kernel_rfl) (by kernel_rfl)
end Go.Av

