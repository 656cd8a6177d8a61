/- Parts of the proof: rules for an abstract memory, plain laws, and walks through the program. -/
import Derived.Test.YtcncbmpblkgfjaaDoorStatPP0
import Derived.Test.YtcncbmpblkgfjaaDoorStatPP3
import Derived.ChangeKeysEq
import Derived.Test.YtcncbmpblkgfjaaDoorStatPP2
import Derived.Lib.LaidTab
import Derived.LaidMore
import Derived.Handed
import Derived.Test.YtcncbmpblkgfjaaDoorRows
set_option linter.unusedVariables false
set_option linter.unusedSimpArgs false
namespace Go.Av
open Go.Proofs
set_option maxRecDepth 10000
set_option linter.unusedSimpArgs false
set_option linter.unusedVariables false

theorem worker_usable (w : Inst) (id : Nat) (H : Heap) (hw : IW w) (hid : H[id]? = some ⟨0, 9, [eInst w]⟩) : ACT Tryd.prog KD 44 [.pt id 0 0 0] H (Ret (.pl ((iusable w).map eInt)) H) := by
  have hF := hid
  have w1 := hw.graph
  have w4 := hw.health
  have w5 := hw.lease
  have hbl := hbelow_le w.graph w.health 0
  refine ACT.body (N := 20) [.tmp 2] Tryd.func44 rfl rfl rfl (Nat.le_of_ble_eq_true rfl) fun B hB => ?_
  refine Z2n ?_
  refine Zb ?_
  refine Z4z ?_
  refine Zb2 ?_
  first | refine aqp 1 rfl (by decide +kernel) (by decide) (fun G => w_nilCheck rfl (lk rfl rfl) rfl) ?_ | refine aqp 1 rfl (by decide +kernel) (by decide) (fun G => w_nilCheck rfl (lkF hF) rfl) ?_ | refine aqp 1 rfl (by decide +kernel) (by decide) (fun G => o_nilCheckp rfl) ?_
  refine Zb3 ?_
  first | refine aqp 3 rfl (by decide +kernel) (by decide) (fun G => w_fieldAddr rfl (lk rfl rfl) rfl (by decide)) ?_ | refine aqp 3 rfl (by decide +kernel) (by decide) (fun G => w_fieldAddrp rfl (by decide)) ?_ | refine aqp 3 rfl (by decide +kernel) (by decide) (fun G => w_fieldAddr rfl (lkF hF) rfl (by decide)) ?_
  first | refine aqp 4 rfl (by decide +kernel) (by decide) (fun G => w_load1 (v := .sl _ _ _ _ _) rfl (lk rfl rfl) rfl rfl rfl) ?_ | refine aqp 4 rfl (by decide +kernel) (by decide) (fun G => w_load1 (v := .pl _) rfl (lk rfl rfl) rfl rfl rfl) ?_ | refine aqp 4 rfl (by decide +kernel) (by decide) (fun G => w_load1 (v := .nsl) rfl (lk rfl rfl) rfl rfl rfl) ?_ | refine aqp 4 rfl (by decide +kernel) (by decide) (fun G => w_load1 (v := .sl _ _ _ _ _) rfl (lk rfl rfl) rfl (zadd hr) rfl) ?_ | refine aqp 4 rfl (by decide +kernel) (by decide) (fun G => w_load1 (v := .sl _ _ _ _ _) rfl (lk rfl rfl) rfl (zadd hr1) rfl) ?_ | refine aqp 4 rfl (by decide +kernel) (by decide) (fun G => w_load1 (v := .sl _ _ _ _ _) rfl (lk rfl rfl) rfl (zadd hr2) rfl) ?_ | refine aqp 4 rfl (by decide +kernel) (by decide) (fun G => w_load1 (v := .pl _) rfl (lk rfl rfl) rfl (zadd hr) rfl) ?_ | refine aqp 4 rfl (by decide +kernel) (by decide) (fun G => w_load1 (v := .pl _) rfl (lk rfl rfl) rfl (zadd hr1) rfl) ?_ | refine aqp 4 rfl (by decide +kernel) (by decide) (fun G => w_load1 (v := .pl _) rfl (lk rfl rfl) rfl (zadd hr2) rfl) ?_ | refine aqp 4 rfl (by decide +kernel) (by decide) (fun G => w_load1 (v := .nsl) rfl (lk rfl rfl) rfl (zadd hr) rfl) ?_ | refine aqp 4 rfl (by decide +kernel) (by decide) (fun G => w_load1 (v := .nsl) rfl (lk rfl rfl) rfl (zadd hr1) rfl) ?_ | refine aqp 4 rfl (by decide +kernel) (by decide) (fun G => w_load1 (v := .nsl) rfl (lk rfl rfl) rfl (zadd hr2) rfl) ?_ | refine aqp 4 rfl (by decide +kernel) (by decide) (fun G => o_load1p (v := .sl _ _ _ _ _) rfl hr rfl) ?_ | refine aqp 4 rfl (by decide +kernel) (by decide) (fun G => o_load1p (v := .sl _ _ _ _ _) rfl hr1 rfl) ?_ | refine aqp 4 rfl (by decide +kernel) (by decide) (fun G => o_load1p (v := .sl _ _ _ _ _) rfl hr2 rfl) ?_ | refine aqp 4 rfl (by decide +kernel) (by decide) (fun G => o_load1p (v := .pl _) rfl hr rfl) ?_ | refine aqp 4 rfl (by decide +kernel) (by decide) (fun G => o_load1p (v := .pl _) rfl hr1 rfl) ?_ | refine aqp 4 rfl (by decide +kernel) (by decide) (fun G => o_load1p (v := .pl _) rfl hr2 rfl) ?_ | refine aqp 4 rfl (by decide +kernel) (by decide) (fun G => o_load1p (v := .nsl) rfl hr rfl) ?_ | refine aqp 4 rfl (by decide +kernel) (by decide) (fun G => o_load1p (v := .nsl) rfl hr1 rfl) ?_ | refine aqp 4 rfl (by decide +kernel) (by decide) (fun G => o_load1p (v := .nsl) rfl hr2 rfl) ?_ | refine aqp 4 rfl (by decide +kernel) (by decide) (fun G => w_load1 (v := .sl _ _ _ _ _) rfl (lkF hF) rfl rfl rfl) ?_ | refine aqp 4 rfl (by decide +kernel) (by decide) (fun G => w_load1 (v := .pl _) rfl (lkF hF) rfl rfl rfl) ?_ | refine aqp 4 rfl (by decide +kernel) (by decide) (fun G => w_load1 (v := .nsl) rfl (lkF hF) rfl rfl rfl) ?_
  first | refine aq0 5 rfl (by decide +kernel) (by decide) (fun _ => o_move (v := .pt _ _ _ _) rfl) ?_ | refine aq0 5 rfl (by decide +kernel) (by decide) (fun _ => o_move (v := .pp _ _ _) rfl) ?_ | refine aq0 5 rfl (by decide +kernel) (by decide) (fun _ => o_move (v := .nptr) rfl) ?_
  first | refine aqp 6 rfl (by decide +kernel) (by decide) (fun G => w_nilCheck rfl (lk rfl rfl) rfl) ?_ | refine aqp 6 rfl (by decide +kernel) (by decide) (fun G => w_nilCheck rfl (lkF hF) rfl) ?_ | refine aqp 6 rfl (by decide +kernel) (by decide) (fun G => o_nilCheckp rfl) ?_
  refine Z6s ?_
  refine Zb4 ?_
  first | refine aqp 9 rfl (by decide +kernel) (by decide) (fun G => w_load1 (v := .sl _ _ _ _ _) rfl (lk rfl rfl) rfl rfl rfl) ?_ | refine aqp 9 rfl (by decide +kernel) (by decide) (fun G => w_load1 (v := .pl _) rfl (lk rfl rfl) rfl rfl rfl) ?_ | refine aqp 9 rfl (by decide +kernel) (by decide) (fun G => w_load1 (v := .nsl) rfl (lk rfl rfl) rfl rfl rfl) ?_ | refine aqp 9 rfl (by decide +kernel) (by decide) (fun G => w_load1 (v := .sl _ _ _ _ _) rfl (lk rfl rfl) rfl (zadd hr) rfl) ?_ | refine aqp 9 rfl (by decide +kernel) (by decide) (fun G => w_load1 (v := .sl _ _ _ _ _) rfl (lk rfl rfl) rfl (zadd hr1) rfl) ?_ | refine aqp 9 rfl (by decide +kernel) (by decide) (fun G => w_load1 (v := .sl _ _ _ _ _) rfl (lk rfl rfl) rfl (zadd hr2) rfl) ?_ | refine aqp 9 rfl (by decide +kernel) (by decide) (fun G => w_load1 (v := .pl _) rfl (lk rfl rfl) rfl (zadd hr) rfl) ?_ | refine aqp 9 rfl (by decide +kernel) (by decide) (fun G => w_load1 (v := .pl _) rfl (lk rfl rfl) rfl (zadd hr1) rfl) ?_ | refine aqp 9 rfl (by decide +kernel) (by decide) (fun G => w_load1 (v := .pl _) rfl (lk rfl rfl) rfl (zadd hr2) rfl) ?_ | refine aqp 9 rfl (by decide +kernel) (by decide) (fun G => w_load1 (v := .nsl) rfl (lk rfl rfl) rfl (zadd hr) rfl) ?_ | refine aqp 9 rfl (by decide +kernel) (by decide) (fun G => w_load1 (v := .nsl) rfl (lk rfl rfl) rfl (zadd hr1) rfl) ?_ | refine aqp 9 rfl (by decide +kernel) (by decide) (fun G => w_load1 (v := .nsl) rfl (lk rfl rfl) rfl (zadd hr2) rfl) ?_ | refine aqp 9 rfl (by decide +kernel) (by decide) (fun G => o_load1p (v := .sl _ _ _ _ _) rfl hr rfl) ?_ | refine aqp 9 rfl (by decide +kernel) (by decide) (fun G => o_load1p (v := .sl _ _ _ _ _) rfl hr1 rfl) ?_ | refine aqp 9 rfl (by decide +kernel) (by decide) (fun G => o_load1p (v := .sl _ _ _ _ _) rfl hr2 rfl) ?_ | refine aqp 9 rfl (by decide +kernel) (by decide) (fun G => o_load1p (v := .pl _) rfl hr rfl) ?_ | refine aqp 9 rfl (by decide +kernel) (by decide) (fun G => o_load1p (v := .pl _) rfl hr1 rfl) ?_ | refine aqp 9 rfl (by decide +kernel) (by decide) (fun G => o_load1p (v := .pl _) rfl hr2 rfl) ?_ | refine aqp 9 rfl (by decide +kernel) (by decide) (fun G => o_load1p (v := .nsl) rfl hr rfl) ?_ | refine aqp 9 rfl (by decide +kernel) (by decide) (fun G => o_load1p (v := .nsl) rfl hr1 rfl) ?_ | refine aqp 9 rfl (by decide +kernel) (by decide) (fun G => o_load1p (v := .nsl) rfl hr2 rfl) ?_ | refine aqp 9 rfl (by decide +kernel) (by decide) (fun G => w_load1 (v := .sl _ _ _ _ _) rfl (lkF hF) rfl rfl rfl) ?_ | refine aqp 9 rfl (by decide +kernel) (by decide) (fun G => w_load1 (v := .pl _) rfl (lkF hF) rfl rfl rfl) ?_ | refine aqp 9 rfl (by decide +kernel) (by decide) (fun G => w_load1 (v := .nsl) rfl (lkF hF) rfl rfl rfl) ?_
  first | refine aq0 10 rfl (by decide +kernel) (by decide) (fun _ => o_move (v := .pt _ _ _ _) rfl) ?_ | refine aq0 10 rfl (by decide +kernel) (by decide) (fun _ => o_move (v := .pp _ _ _) rfl) ?_ | refine aq0 10 rfl (by decide +kernel) (by decide) (fun _ => o_move (v := .nptr) rfl) ?_
  first | refine aqp 11 rfl (by decide +kernel) (by decide) (fun G => w_nilCheck rfl (lk rfl rfl) rfl) ?_ | refine aqp 11 rfl (by decide +kernel) (by decide) (fun G => w_nilCheck rfl (lkF hF) rfl) ?_ | refine aqp 11 rfl (by decide +kernel) (by decide) (fun G => o_nilCheckp rfl) ?_
  refine Zb5 ?_
  first | refine aqp 13 rfl (by decide +kernel) (by decide) (fun G => w_fieldAddr rfl (lk rfl rfl) rfl (by decide)) ?_ | refine aqp 13 rfl (by decide +kernel) (by decide) (fun G => w_fieldAddrp rfl (by decide)) ?_ | refine aqp 13 rfl (by decide +kernel) (by decide) (fun G => w_fieldAddr rfl (lkF hF) rfl (by decide)) ?_
  first | refine aqp 14 rfl (by decide +kernel) (by decide) (fun G => w_load1 (v := .sl _ _ _ _ _) rfl (lk rfl rfl) rfl rfl rfl) ?_ | refine aqp 14 rfl (by decide +kernel) (by decide) (fun G => w_load1 (v := .pl _) rfl (lk rfl rfl) rfl rfl rfl) ?_ | refine aqp 14 rfl (by decide +kernel) (by decide) (fun G => w_load1 (v := .nsl) rfl (lk rfl rfl) rfl rfl rfl) ?_ | refine aqp 14 rfl (by decide +kernel) (by decide) (fun G => w_load1 (v := .sl _ _ _ _ _) rfl (lk rfl rfl) rfl (zadd hr) rfl) ?_ | refine aqp 14 rfl (by decide +kernel) (by decide) (fun G => w_load1 (v := .sl _ _ _ _ _) rfl (lk rfl rfl) rfl (zadd hr1) rfl) ?_ | refine aqp 14 rfl (by decide +kernel) (by decide) (fun G => w_load1 (v := .sl _ _ _ _ _) rfl (lk rfl rfl) rfl (zadd hr2) rfl) ?_ | refine aqp 14 rfl (by decide +kernel) (by decide) (fun G => w_load1 (v := .pl _) rfl (lk rfl rfl) rfl (zadd hr) rfl) ?_ | refine aqp 14 rfl (by decide +kernel) (by decide) (fun G => w_load1 (v := .pl _) rfl (lk rfl rfl) rfl (zadd hr1) rfl) ?_ | refine aqp 14 rfl (by decide +kernel) (by decide) (fun G => w_load1 (v := .pl _) rfl (lk rfl rfl) rfl (zadd hr2) rfl) ?_ | refine aqp 14 rfl (by decide +kernel) (by decide) (fun G => w_load1 (v := .nsl) rfl (lk rfl rfl) rfl (zadd hr) rfl) ?_ | refine aqp 14 rfl (by decide +kernel) (by decide) (fun G => w_load1 (v := .nsl) rfl (lk rfl rfl) rfl (zadd hr1) rfl) ?_ | refine aqp 14 rfl (by decide +kernel) (by decide) (fun G => w_load1 (v := .nsl) rfl (lk rfl rfl) rfl (zadd hr2) rfl) ?_ | refine aqp 14 rfl (by decide +kernel) (by decide) (fun G => o_load1p (v := .sl _ _ _ _ _) rfl hr rfl) ?_ | refine aqp 14 rfl (by decide +kernel) (by decide) (fun G => o_load1p (v := .sl _ _ _ _ _) rfl hr1 rfl) ?_ | refine aqp 14 rfl (by decide +kernel) (by decide) (fun G => o_load1p (v := .sl _ _ _ _ _) rfl hr2 rfl) ?_ | refine aqp 14 rfl (by decide +kernel) (by decide) (fun G => o_load1p (v := .pl _) rfl hr rfl) ?_ | refine aqp 14 rfl (by decide +kernel) (by decide) (fun G => o_load1p (v := .pl _) rfl hr1 rfl) ?_ | refine aqp 14 rfl (by decide +kernel) (by decide) (fun G => o_load1p (v := .pl _) rfl hr2 rfl) ?_ | refine aqp 14 rfl (by decide +kernel) (by decide) (fun G => o_load1p (v := .nsl) rfl hr rfl) ?_ | refine aqp 14 rfl (by decide +kernel) (by decide) (fun G => o_load1p (v := .nsl) rfl hr1 rfl) ?_ | refine aqp 14 rfl (by decide +kernel) (by decide) (fun G => o_load1p (v := .nsl) rfl hr2 rfl) ?_ | refine aqp 14 rfl (by decide +kernel) (by decide) (fun G => w_load1 (v := .sl _ _ _ _ _) rfl (lkF hF) rfl rfl rfl) ?_ | refine aqp 14 rfl (by decide +kernel) (by decide) (fun G => w_load1 (v := .pl _) rfl (lkF hF) rfl rfl rfl) ?_ | refine aqp 14 rfl (by decide +kernel) (by decide) (fun G => w_load1 (v := .nsl) rfl (lkF hF) rfl rfl rfl) ?_
  refine aq02 15 rfl (by decide +kernel) (by decide) (fun _ => V2.call (health_Usable _ _ _ (by omega) (by omega)) rfl) ?_
  refine aq02 16 rfl (by decide +kernel) (by decide) (fun _ => V2.callT (set_Meet w.lease (hbelow w.graph w.health 0) (by omega) (by omega) _) rfl rfl) ?_
  first | refine aq0 17 rfl (by decide +kernel) (by decide) (fun _ => o_assign (v := .sl _ _ _ _ _) rfl) ?_ | refine aq0 17 rfl (by decide +kernel) (by decide) (fun _ => o_assign (v := .pl _) rfl) ?_ | refine aq0 17 rfl (by decide +kernel) (by decide) (fun _ => o_assign (v := .nsl) rfl) ?_
  refine Z1d ?_
  exact Z1o
set_option maxHeartbeats 0 in
theorem inst_Free (i : Inst) (H : Heap) (hw : IW i) : ACT Tryd.prog KD 22 [.agg (eInst i)] H (Ret (.pl ((ifree i).map eInt)) H) := by
  have w3 := hw.table
  have hul := iusable_le i
  have hbl := heldBusy_le i.table i.now (plus i.now 1)
  refine ACT.body (N := 30) [.tmp 2] Tryd.func22 rfl rfl rfl (Nat.le_of_ble_eq_true rfl) fun B hB => ?_
  refine Za7 ?_
  refine Z4f ?_
  refine Zb6 ?_
  refine Zb7 ?_
  refine Z2k ?_
  refine aw_cond rfl (fun hc => ?_) (fun hc => ?_)
  · have hno : iright i = false := by simpa only [Bool.not_eq_true'] using hc
    rw [show ifree i = [] by rw [ifree, hno]; rfl]
    refine Z2q ?_
    refine aw_nslpl 2 rfl ?_
    exact aw_ret (e_done hB (r_tmp rfl .nil) rfl rfl)
  have hyes : iright i = true := by simpa only [Bool.not_eq_false'] using hc
  rw [show ifree i = sless (iusable i) (heldBusy i.table i.now (plus i.now 1)) by rw [ifree, hyes]; rfl]
  refine Z2 ?_
  refine Zb6 ?_
  refine Zb8 ?_
  refine Za6 ?_
  refine Zb9 ?_
  refine Zb ?_
  refine Z4a ?_
  refine Z19 ?_
  refine Zb2 ?_
  refine aqp2 1 rfl (by decide +kernel) (by decide) (fun G => V2.callT (worker_usable i _ _ hw (lk rfl rfl)) rfl rfl) ?_
  first | refine aq0 2 rfl (by decide +kernel) (by decide) (fun _ => o_move (v := .pt _ _ _ _) rfl) ?_ | refine aq0 2 rfl (by decide +kernel) (by decide) (fun _ => o_move (v := .pp _ _ _) rfl) ?_ | refine aq0 2 rfl (by decide +kernel) (by decide) (fun _ => o_move (v := .nptr) rfl) ?_
  first | refine aqp 3 rfl (by decide +kernel) (by decide) (fun G => w_nilCheck rfl (lk rfl rfl) rfl) ?_ | refine aqp 3 rfl (by decide +kernel) (by decide) (fun G => w_nilCheck rfl (lkF hF) rfl) ?_ | refine aqp 3 rfl (by decide +kernel) (by decide) (fun G => o_nilCheckp rfl) ?_
  refine Zba ?_
  refine Zbb ?_
  first | refine aqp 6 rfl (by decide +kernel) (by decide) (fun G => w_load1 (v := .sl _ _ _ _ _) rfl (lk rfl rfl) rfl rfl rfl) ?_ | refine aqp 6 rfl (by decide +kernel) (by decide) (fun G => w_load1 (v := .pl _) rfl (lk rfl rfl) rfl rfl rfl) ?_ | refine aqp 6 rfl (by decide +kernel) (by decide) (fun G => w_load1 (v := .nsl) rfl (lk rfl rfl) rfl rfl rfl) ?_ | refine aqp 6 rfl (by decide +kernel) (by decide) (fun G => w_load1 (v := .sl _ _ _ _ _) rfl (lk rfl rfl) rfl (zadd hr) rfl) ?_ | refine aqp 6 rfl (by decide +kernel) (by decide) (fun G => w_load1 (v := .sl _ _ _ _ _) rfl (lk rfl rfl) rfl (zadd hr1) rfl) ?_ | refine aqp 6 rfl (by decide +kernel) (by decide) (fun G => w_load1 (v := .sl _ _ _ _ _) rfl (lk rfl rfl) rfl (zadd hr2) rfl) ?_ | refine aqp 6 rfl (by decide +kernel) (by decide) (fun G => w_load1 (v := .pl _) rfl (lk rfl rfl) rfl (zadd hr) rfl) ?_ | refine aqp 6 rfl (by decide +kernel) (by decide) (fun G => w_load1 (v := .pl _) rfl (lk rfl rfl) rfl (zadd hr1) rfl) ?_ | refine aqp 6 rfl (by decide +kernel) (by decide) (fun G => w_load1 (v := .pl _) rfl (lk rfl rfl) rfl (zadd hr2) rfl) ?_ | refine aqp 6 rfl (by decide +kernel) (by decide) (fun G => w_load1 (v := .nsl) rfl (lk rfl rfl) rfl (zadd hr) rfl) ?_ | refine aqp 6 rfl (by decide +kernel) (by decide) (fun G => w_load1 (v := .nsl) rfl (lk rfl rfl) rfl (zadd hr1) rfl) ?_ | refine aqp 6 rfl (by decide +kernel) (by decide) (fun G => w_load1 (v := .nsl) rfl (lk rfl rfl) rfl (zadd hr2) rfl) ?_ | refine aqp 6 rfl (by decide +kernel) (by decide) (fun G => o_load1p (v := .sl _ _ _ _ _) rfl hr rfl) ?_ | refine aqp 6 rfl (by decide +kernel) (by decide) (fun G => o_load1p (v := .sl _ _ _ _ _) rfl hr1 rfl) ?_ | refine aqp 6 rfl (by decide +kernel) (by decide) (fun G => o_load1p (v := .sl _ _ _ _ _) rfl hr2 rfl) ?_ | refine aqp 6 rfl (by decide +kernel) (by decide) (fun G => o_load1p (v := .pl _) rfl hr rfl) ?_ | refine aqp 6 rfl (by decide +kernel) (by decide) (fun G => o_load1p (v := .pl _) rfl hr1 rfl) ?_ | refine aqp 6 rfl (by decide +kernel) (by decide) (fun G => o_load1p (v := .pl _) rfl hr2 rfl) ?_ | refine aqp 6 rfl (by decide +kernel) (by decide) (fun G => o_load1p (v := .nsl) rfl hr rfl) ?_ | refine aqp 6 rfl (by decide +kernel) (by decide) (fun G => o_load1p (v := .nsl) rfl hr1 rfl) ?_ | refine aqp 6 rfl (by decide +kernel) (by decide) (fun G => o_load1p (v := .nsl) rfl hr2 rfl) ?_ | refine aqp 6 rfl (by decide +kernel) (by decide) (fun G => w_load1 (v := .sl _ _ _ _ _) rfl (lkF hF) rfl rfl rfl) ?_ | refine aqp 6 rfl (by decide +kernel) (by decide) (fun G => w_load1 (v := .pl _) rfl (lkF hF) rfl rfl rfl) ?_ | refine aqp 6 rfl (by decide +kernel) (by decide) (fun G => w_load1 (v := .nsl) rfl (lkF hF) rfl rfl rfl) ?_
  first | refine aq0 7 rfl (by decide +kernel) (by decide) (fun _ => o_move (v := .pt _ _ _ _) rfl) ?_ | refine aq0 7 rfl (by decide +kernel) (by decide) (fun _ => o_move (v := .pp _ _ _) rfl) ?_ | refine aq0 7 rfl (by decide +kernel) (by decide) (fun _ => o_move (v := .nptr) rfl) ?_
  first | refine aqp 8 rfl (by decide +kernel) (by decide) (fun G => w_nilCheck rfl (lk rfl rfl) rfl) ?_ | refine aqp 8 rfl (by decide +kernel) (by decide) (fun G => w_nilCheck rfl (lkF hF) rfl) ?_ | refine aqp 8 rfl (by decide +kernel) (by decide) (fun G => o_nilCheckp rfl) ?_
  first | refine aqp 9 rfl (by decide +kernel) (by decide) (fun G => w_fieldAddr rfl (lk rfl rfl) rfl (by decide)) ?_ | refine aqp 9 rfl (by decide +kernel) (by decide) (fun G => w_fieldAddrp rfl (by decide)) ?_ | refine aqp 9 rfl (by decide +kernel) (by decide) (fun G => w_fieldAddr rfl (lkF hF) rfl (by decide)) ?_
  first | refine aqp 10 rfl (by decide +kernel) (by decide) (fun G => w_fieldAddr rfl (lk rfl rfl) rfl (by decide)) ?_ | refine aqp 10 rfl (by decide +kernel) (by decide) (fun G => w_fieldAddrp rfl (by decide)) ?_ | refine aqp 10 rfl (by decide +kernel) (by decide) (fun G => w_fieldAddr rfl (lkF hF) rfl (by decide)) ?_
  first | refine aqp 11 rfl (by decide +kernel) (by decide) (fun G => w_load1 (v := .int _ _) rfl (lk rfl rfl) rfl rfl rfl) ?_ | refine aqp 11 rfl (by decide +kernel) (by decide) (fun G => w_load1 (v := .int _ _) rfl (lk rfl rfl) rfl (zadd hr) rfl) ?_ | refine aqp 11 rfl (by decide +kernel) (by decide) (fun G => w_load1 (v := .int _ _) rfl (lk rfl rfl) rfl (zadd hr1) rfl) ?_ | refine aqp 11 rfl (by decide +kernel) (by decide) (fun G => w_load1 (v := .int _ _) rfl (lk rfl rfl) rfl (zadd hr2) rfl) ?_ | refine aqp 11 rfl (by decide +kernel) (by decide) (fun G => o_load1p (v := .int _ _) rfl hr rfl) ?_ | refine aqp 11 rfl (by decide +kernel) (by decide) (fun G => o_load1p (v := .int _ _) rfl hr1 rfl) ?_ | refine aqp 11 rfl (by decide +kernel) (by decide) (fun G => o_load1p (v := .int _ _) rfl hr2 rfl) ?_ | refine aqp 11 rfl (by decide +kernel) (by decide) (fun G => w_load1 (v := .int _ _) rfl (lkF hF) rfl rfl rfl) ?_
  first | refine aq0 12 rfl (by decide +kernel) (by decide) (fun _ => o_move (v := .pt _ _ _ _) rfl) ?_ | refine aq0 12 rfl (by decide +kernel) (by decide) (fun _ => o_move (v := .pp _ _ _) rfl) ?_ | refine aq0 12 rfl (by decide +kernel) (by decide) (fun _ => o_move (v := .nptr) rfl) ?_
  first | refine aqp 13 rfl (by decide +kernel) (by decide) (fun G => w_nilCheck rfl (lk rfl rfl) rfl) ?_ | refine aqp 13 rfl (by decide +kernel) (by decide) (fun G => w_nilCheck rfl (lkF hF) rfl) ?_ | refine aqp 13 rfl (by decide +kernel) (by decide) (fun G => o_nilCheckp rfl) ?_
  first | refine aqp 14 rfl (by decide +kernel) (by decide) (fun G => w_fieldAddr rfl (lk rfl rfl) rfl (by decide)) ?_ | refine aqp 14 rfl (by decide +kernel) (by decide) (fun G => w_fieldAddrp rfl (by decide)) ?_ | refine aqp 14 rfl (by decide +kernel) (by decide) (fun G => w_fieldAddr rfl (lkF hF) rfl (by decide)) ?_
  first | refine aqp 15 rfl (by decide +kernel) (by decide) (fun G => w_fieldAddr rfl (lk rfl rfl) rfl (by decide)) ?_ | refine aqp 15 rfl (by decide +kernel) (by decide) (fun G => w_fieldAddrp rfl (by decide)) ?_ | refine aqp 15 rfl (by decide +kernel) (by decide) (fun G => w_fieldAddr rfl (lkF hF) rfl (by decide)) ?_
  first | refine aqp 16 rfl (by decide +kernel) (by decide) (fun G => w_load1 (v := .int _ _) rfl (lk rfl rfl) rfl rfl rfl) ?_ | refine aqp 16 rfl (by decide +kernel) (by decide) (fun G => w_load1 (v := .int _ _) rfl (lk rfl rfl) rfl (zadd hr) rfl) ?_ | refine aqp 16 rfl (by decide +kernel) (by decide) (fun G => w_load1 (v := .int _ _) rfl (lk rfl rfl) rfl (zadd hr1) rfl) ?_ | refine aqp 16 rfl (by decide +kernel) (by decide) (fun G => w_load1 (v := .int _ _) rfl (lk rfl rfl) rfl (zadd hr2) rfl) ?_ | refine aqp 16 rfl (by decide +kernel) (by decide) (fun G => o_load1p (v := .int _ _) rfl hr rfl) ?_ | refine aqp 16 rfl (by decide +kernel) (by decide) (fun G => o_load1p (v := .int _ _) rfl hr1 rfl) ?_ | refine aqp 16 rfl (by decide +kernel) (by decide) (fun G => o_load1p (v := .int _ _) rfl hr2 rfl) ?_ | refine aqp 16 rfl (by decide +kernel) (by decide) (fun G => w_load1 (v := .int _ _) rfl (lkF hF) rfl rfl rfl) ?_
  refine aq02 17 rfl (by decide +kernel) (by decide) (fun _ => V2.call (when_Plus _ _ _) rfl) ?_
  refine aq02 18 rfl (by decide +kernel) (by decide) (fun _ => V2.callT (held_Busy i.table i.now (plus i.now 1) _ w3) rfl rfl) ?_
  refine aq02 19 rfl (by decide +kernel) (by decide) (fun _ => V2.callT (set_Less (iusable i) (heldBusy i.table i.now (plus i.now 1)) (by omega) (by omega) _) rfl rfl) ?_
  first | refine aq0 20 rfl (by decide +kernel) (by decide) (fun _ => o_assign (v := .sl _ _ _ _ _) rfl) ?_ | refine aq0 20 rfl (by decide +kernel) (by decide) (fun _ => o_assign (v := .pl _) rfl) ?_ | refine aq0 20 rfl (by decide +kernel) (by decide) (fun _ => o_assign (v := .nsl) rfl) ?_
  refine Z1d ?_
  exact Z1o
set_option maxHeartbeats 0 in
theorem inst_New (g : List Thing) (p d : Int) (H : Heap) (hl : g.length ≤ 1000000) : AC Tryd.prog 15 [.pl (g.map eThing), .int .i64 p, .int .i64 d] H (Ret (.tup [.agg (eInst (inew g p d).1), .int .i64 (inew g p d).2]) H) := by
  refine AC.body (N := 27) [.cell 6 27, .tmp 7] Tryd.func15 rfl rfl rfl (Nat.le_of_ble_eq_true rfl) fun B hB => ?_
  refine Z2 ?_
  refine Zbc ?_
  refine Zc ?_
  refine aw_out 16 (.bool (!gright g || !ipolicy p d)) ?_ ?_
  · refine Z2s ?_
    refine ao_ret (graph_Right _ _ (by omega)) rfl (by decide) ?_
    refine Z13 ?_
    refine Zj ?_
    refine ao_split rfl rfl (fun hg3 => ?_) (fun hg3 => ?_)
    · refine Z33 ?_
      refine Zn ?_
      exact Z6h
    · refine Zl ?_
      refine Zl ?_
      refine Zaz ?_
      refine Z1l ?_
      refine Zn ?_
      exact Z6h
  refine Z1 ?_
  refine aw_cond rfl (fun hc => ?_) (fun hc => ?_)
  · have hno : inew g p d = (inst0, 1) := by rw [inew, if_pos hc]
    rw [hno]
    refine Z2 ?_
    refine Zb8 ?_
    refine Zbd ?_
    refine Zc ?_
    exact Z8m
  have hyes : inew g p d = (⟨g, List.replicate g.length 0, gunder g 0, 4611686018427387904, [], [], 0, p, d⟩, 0) := by rw [inew, if_neg (by simp [hc])]
  have hg : gright g = true := by cases h : gright g <;> simp_all
  rw [hyes]
  refine Z4i ?_
  refine ao_ret (slices_CloneT _ _ (by omega)) rfl (by decide) ?_
  refine Z2s ?_
  refine ao_ret (health_New _ _ (by omega)) rfl (by decide) ?_
  refine Z2s ?_
  refine ao_ret (graph_Under _ _ _ (by omega)) rfl (by decide) ?_
  refine Z1t ?_
  refine Zb8 ?_
  refine Zbd ?_
  refine Z3 ?_
  refine Z5 ?_
  rw [if_pos hg]
  refine Z1 ?_
  exact Z8m
end Go.Av

/-
  THE SCHEDULER's PARTS, plainly: counts.
-/
namespace Go.Av
set_option linter.unusedVariables false
set_option linter.unusedSimpArgs false

abbrev eStat (f : Nat → Int) : List AV := [.int .i64 (f 0), .int .i64 (f 1), .int .i64 (f 2), .int .i64 (f 3), .int .i64 (f 4), .int .i64 (f 5), .int .i64 (f 6), .int .i64 (f 7), .int .i64 (f 8), .int .i64 (f 9), .int .i64 (f 10), .int .i64 (f 11), .int .i64 (f 12), .int .i64 (f 13), .int .i64 (f 14), .int .i64 (f 15), .int .i64 (f 16), .int .i64 (f 17), .int .i64 (f 18), .int .i64 (f 19), .int .i64 (f 20), .int .i64 (f 21), .int .i64 (f 22), .int .i64 (f 23), .int .i64 (f 24), .int .i64 (f 25), .int .i64 (f 26)]
theorem eStat_get (f : Nat → Int) {c : Nat} (h : c < 27) : (eStat f)[c]? = some (.int .i64 (f c)) := by
  rcases c with _ | _ | _ | _ | _ | _ | _ | _ | _ | _ | _ | _ | _ | _ | _ | _ | _ | _ | _ | _ | _ | _ | _ | _ | _ | _ | _ | c <;> first | rfl | omega
theorem eStat_set (f : Nat → Int) {c : Nat} (h : c < 27) (v : Int) : (eStat f).take c ++ [.int .i64 v] ++ (eStat f).drop (c + 1) = eStat (fun j => if j = c then v else f j) := by
  rcases c with _ | _ | _ | _ | _ | _ | _ | _ | _ | _ | _ | _ | _ | _ | _ | _ | _ | _ | _ | _ | _ | _ | _ | _ | _ | _ | _ | c <;> first | rfl | omega
theorem eStat_congr {f h : Nat → Int} (e : ∀ j, j < 27 → f j = h j) : eStat f = eStat h := by
  simp only [eStat, e 0 (by decide), e 1 (by decide), e 2 (by decide), e 3 (by decide), e 4 (by decide), e 5 (by decide), e 6 (by decide), e 7 (by decide), e 8 (by decide), e 9 (by decide), e 10 (by decide), e 11 (by decide), e 12 (by decide), e 13 (by decide), e 14 (by decide), e 15 (by decide), e 16 (by decide), e 17 (by decide), e 18 (by decide), e 19 (by decide), e 20 (by decide), e 21 (by decide), e 22 (by decide), e 23 (by decide), e 24 (by decide), e 25 (by decide), e 26 (by decide)]
def snear (n : Int) : Int := max 0 (min n 1099511627776)
def splus (f h : Nat → Int) : Nat → Int := fun j => snear (snear (f j) + snear (h j))
def skinds (f : Nat → Int) : Nat → Int := fun k => IntKind.i64.wrap (IntKind.i64.wrap (IntKind.i64.wrap (f k + f (5 + k)) + f (10 + k)) + f (15 + k))
def sjobsL (f : Nat → Int) : Nat → Int
  | 0 => 0
  | k + 1 => IntKind.i64.wrap (sjobsL f k + f (20 + k))
def sjobs (f : Nat → Int) : Int := sjobsL f 7
def snone : Nat → Int := fun _ => 0
/-- The counts of a scheduler. -/
def statS (g : List Thing) (a b c : List Int) (l : List Job) : Nat → Int := fun j => if j < 5 then kfun g a j else if j < 10 then kfun g b (j - 5) else if j < 15 then kfun g c (j - 10) else if j < 20 then 0 else sfun l (j - 20)
def ibusy (i : Inst) : List Int := heldBusy i.table i.now (plus i.now 1)
def istat (i : Inst) : Nat → Int := if iright i then statS i.graph (ifree i) (ibusy i) (sless (sless i.lease (hbelow i.graph i.health 0)) (ibusy i)) i.jobs else snone
/-- The first rows of pointers. -/
def numRows (id n : Nat) : List (List AV) := (List.range n).map fun j => [AV.pt id 0 0 j]
theorem numRows_len (id n : Nat) : (numRows id n).length = n := by simp [numRows]
theorem numRows_get {id n j : Nat} (h : j < n) : (numRows id n)[j]? = some [.pt id 0 0 j] := by simp [numRows, h]
theorem numRows_succ (id n : Nat) : numRows id (n + 1) = numRows id n ++ [[.pt id 0 0 n]] := by simp [numRows, List.range_succ]
theorem numRows_bel {k id : Nat} (h : id < k) (n : Nat) : ∀ r ∈ numRows id n, AV.bels k r = true := by
  intro r hr
  simp only [numRows, List.mem_map, List.mem_range] at hr
  obtain ⟨j, _, rfl⟩ := hr
  simp [AV.bels, AV.bel, h]
def arrRows (id : Nat) : List (List AV) := [[.pt id 0 0 0], [.pt id 0 0 5], [.pt id 0 0 10], [.pt id 0 0 15]]
theorem arrRows_get {id j : Nat} (h : j < 4) : (arrRows id)[j]? = some [.pt id 0 0 (5 * j)] := by
  rcases j with _ | _ | _ | _ | j <;> first | rfl | omega
theorem arrRows_bel {k id : Nat} (h : id < k) : ∀ r ∈ arrRows id, AV.bels k r = true := by
  intro r hr
  simp only [arrRows, List.mem_cons, List.not_mem_nil, or_false] at hr
  rcases hr with rfl | rfl | rfl | rfl <;> simp [AV.bels, AV.bel, h]
/-- Put together up to i. -/
def splusN (f h : Nat → Int) (i : Nat) : Nat → Int := fun j => if j < i then splus f h j else f j
end Go.Av

namespace Go.Av
open Go.Proofs
set_option maxRecDepth 10000
set_option linter.unusedSimpArgs false
set_option linter.unusedVariables false

theorem stat_near (n : Int) (H : Heap) : AC Tryd.prog 37 [.int .i64 n] H (Ret (.int .i64 (snear n)) H) := by
  refine AC.body (N := 6) [.tmp 2] Tryd.func37 rfl rfl rfl (Nat.le_of_ble_eq_true rfl) fun B hB => ?_
  refine Z8 ?_
  refine Za ?_
  refine ao1 (by decide) (o_min (r := min n 1099511627776) rfl rfl rfl) ?_
  refine ao1 (by decide) (o_max (r := snear n) rfl rfl rfl) ?_
  exact Ze
theorem stat_Jobs (f : Nat → Int) (H : Heap) : AC Tryd.prog 13 [.agg (eStat f)] H (Ret (.int .i64 (sjobs f)) H) := by
  refine AC.body (N := 16) [.tmp 2] Tryd.func13 rfl rfl rfl (Nat.le_of_ble_eq_true rfl) fun B hB => ?_
  refine Z2 ?_
  refine Zbe ?_
  refine Z7 ?_
  refine Z7 ?_
  refine Z20 ?_
  refine Z2j ?_
  refine Z2y ?_
  refine aw_loop (G := Nat) (fun k => k ≤ 7) (fun k => [(3, .int .i64 (sjobsL f k)), (7, .agg (eK7 fun j => f (20 + j))), (8, .int .i64 (k : Int))]) (fun _ => H ++ [⟨0, 27, [eStat f]⟩]) (fun k => 7 - k) 0 (Nat.zero_le _) (by repeat (first | exact Sub.nil | refine Sub.cons (by first | rfl | (simp [get]; done)) ?_)) (Fit.refl _ _) ?_
  intro k hk
  refine Z30 ?_
  refine aw_cond rfl (fun hc => ?_) (fun hc => ?_)
  · have hlt : k < 7 := by simp at hc; omega
    have hcell : (eK7 fun j => f (20 + j))[((k : Nat) : Int).toNat * 1]? = some (.int .i64 (f (20 + k))) := by show (eK7 _)[k * 1]? = _; rw [Nat.mul_one]; exact eK7_get _ hlt
    refine Z2 ?_
    refine ao1 (by decide) (o_index1 (sz := 1) (v := .int .i64 _) rfl rfl (by omega) (by omega) hcell) ?_
    refine Z7 ?_
    refine Z1t ?_
    refine ao1 (by decide) (o_add (r := sjobsL f (k + 1)) rfl rfl rfl) ?_
    refine Z7 ?_
    refine Z37 ?_
    exact ⟨k + 1, by omega, by omega, (by repeat (first | exact Sub.nil | refine Sub.cons (by first | rfl | (simp [get]; done)) ?_)), .refl _ _⟩
  · have : k = 7 := by simp at hc; omega
    subst this
    refine Zy ?_
    exact Ze
set_option maxHeartbeats 0 in
theorem stat_Kinds (f : Nat → Int) (H : Heap) : AC Tryd.prog 10 [.agg (eStat f)] H (Ret (.agg (eK5 (skinds f))) H) := by
  refine AC.body (N := 31) [.cell 2 30] Tryd.func10 rfl rfl rfl (Nat.le_of_ble_eq_true rfl) fun B hB => ?_
  refine Z2 ?_
  refine Zbe ?_
  refine Z6f ?_
  refine Z6 ?_
  refine Z6f ?_
  refine Z6 ?_
  refine Z2y ?_
  refine aw_loop (G := Nat) (fun k => k ≤ 5) (fun k => [(1, .pt (Lid H.length 0) 0 0 0), (2, .pt (Lid H.length 1) 0 0 0), (3, .pt (Lid H.length 2) 0 0 0), (5, .int .i64 (k : Int))]) (fun k => H ++ [⟨0, 27, [eStat f]⟩, ⟨0, 5, [eK5 (fun _ => 0)]⟩, ⟨0, 5, [eK5 (fun j => if j < k then skinds f j else 0)]⟩]) (fun k => 5 - k) 0 (Nat.zero_le _) (by repeat (first | exact Sub.nil | refine Sub.cons (by first | rfl | (simp [get]; done)) ?_)) (Fit.refl _ _) ?_
  intro k hk
  refine Z30 ?_
  refine aw_cond rfl (fun hc => ?_) (fun hc => ?_)
  · have hlt : k < 5 := by simp at hc; omega
    have h0 : (eStat f)[0 + 0 + k * 1]? = some (.int .i64 (f k)) := by rw [show 0 + 0 + k * 1 = k by omega]; exact eStat_get _ (by omega)
    have h1 : (eStat f)[0 + 5 + k * 1]? = some (.int .i64 (f (5 + k))) := by rw [show 0 + 5 + k * 1 = 5 + k by omega]; exact eStat_get _ (by omega)
    have h2 : (eStat f)[0 + 10 + k * 1]? = some (.int .i64 (f (10 + k))) := by rw [show 0 + 10 + k * 1 = 10 + k by omega]; exact eStat_get _ (by omega)
    have h3 : (eStat f)[0 + 15 + k * 1]? = some (.int .i64 (f (15 + k))) := by rw [show 0 + 15 + k * 1 = 15 + k by omega]; exact eStat_get _ (by omega)
    have hset : (eK5 (fun j => if j < k then skinds f j else 0)).take (0 + k * 1) ++ [AV.int .i64 (skinds f k)] ++ (eK5 (fun j => if j < k then skinds f j else 0)).drop (0 + k * 1 + 1) = eK5 (fun j => if j < k + 1 then skinds f j else 0) := by
      rw [Nat.zero_add, Nat.mul_one, eK5_set _ hlt]
      refine eK5_congr fun j _ => ?_
      by_cases e : j = k
      · subst e; simp
      · rw [if_neg e]
        by_cases e2 : j < k
        · rw [if_pos e2, if_pos (by omega)]
        · rw [if_neg e2, if_neg (by omega)]
    refine Z1k ?_
    refine aw_drawP mixed (some 21) 3 ?_
    refine Z19 ?_
    refine Z3r ?_
    refine Z1b ?_
    refine Zb3 ?_
    refine aqp 3 rfl (by decide +kernel) (by decide) (fun G => w_indexArrN rfl (lk rfl rfl) rfl rfl hlt) ?_
    refine aqp 4 rfl (by decide +kernel) (by decide) (fun G => w_load1 (v := .int .i64 _) rfl (lk rfl rfl) rfl rfl h0) ?_
    refine Z1e ?_
    first | refine aqp 6 rfl (by decide +kernel) (by decide) (fun G => w_fieldAddr rfl (lk rfl rfl) rfl (by decide)) ?_ | refine aqp 6 rfl (by decide +kernel) (by decide) (fun G => w_fieldAddrp rfl (by decide)) ?_ | refine aqp 6 rfl (by decide +kernel) (by decide) (fun G => w_fieldAddr rfl (lkF hF) rfl (by decide)) ?_
    refine aqp 7 rfl (by decide +kernel) (by decide) (fun G => w_indexArrN rfl (lk rfl rfl) rfl rfl hlt) ?_
    refine aqp 8 rfl (by decide +kernel) (by decide) (fun G => w_load1 (v := .int .i64 _) rfl (lk rfl rfl) rfl rfl h1) ?_
    refine aq0 9 rfl (by decide +kernel) (by decide) (fun _ => o_add rfl rfl rfl) ?_
    refine aq0 10 rfl (by decide +kernel) (by decide) (fun _ => o_move (v := .int _ _) rfl) ?_
    refine Zbf ?_
    refine aqp 12 rfl (by decide +kernel) (by decide) (fun G => w_indexArrN rfl (lk rfl rfl) rfl rfl hlt) ?_
    refine aqp 13 rfl (by decide +kernel) (by decide) (fun G => w_load1 (v := .int .i64 _) rfl (lk rfl rfl) rfl rfl h2) ?_
    refine aq0 14 rfl (by decide +kernel) (by decide) (fun _ => o_add rfl rfl rfl) ?_
    refine aq0 15 rfl (by decide +kernel) (by decide) (fun _ => o_move (v := .int _ _) rfl) ?_
    first | refine aqp 16 rfl (by decide +kernel) (by decide) (fun G => w_fieldAddr rfl (lk rfl rfl) rfl (by decide)) ?_ | refine aqp 16 rfl (by decide +kernel) (by decide) (fun G => w_fieldAddrp rfl (by decide)) ?_ | refine aqp 16 rfl (by decide +kernel) (by decide) (fun G => w_fieldAddr rfl (lkF hF) rfl (by decide)) ?_
    refine aqp 17 rfl (by decide +kernel) (by decide) (fun G => w_indexArrN rfl (lk rfl rfl) rfl rfl hlt) ?_
    refine aqp 18 rfl (by decide +kernel) (by decide) (fun G => w_load1 (v := .int .i64 _) rfl (lk rfl rfl) rfl rfl h3) ?_
    refine aq0 19 rfl (by decide +kernel) (by decide) (fun _ => o_add (r := skinds f k) rfl rfl rfl) ?_
    refine aqp 20 rfl (by decide +kernel) (by decide) (fun G => w_indexArrN rfl (lk rfl rfl) rfl rfl hlt) ?_
    refine aqs 21 rfl (by decide +kernel) (by first | exact fun _ => trivial | exact fun _ => ⟨_, rfl⟩ | exact fun _ => ⟨_, rfl, rfl⟩ | exact fun _ => ⟨_, rfl, rfl, rfl⟩ | exact yet_done (by decide +kernel)) (by rintro _ ⟨⟩) (w_storeP (sz := 1) (v := .int .i64 _) (r' := eK5 (fun j => if j < k + 1 then skinds f j else 0)) rfl rfl rfl rfl rfl rfl rfl rfl (by show _ ≤ 5; omega) hset) ?_
    refine Z1d ?_
    refine Z3s ?_
    exact ⟨k + 1, by omega, by omega, (by repeat (first | exact Sub.nil | refine Sub.cons (by first | rfl | (simp [get]; done)) ?_)), .refl _ _⟩
  · have : k = 5 := by simp at hc; omega
    subst this
    rw [show eK5 (fun j => if j < 5 then skinds f j else 0) = eK5 (skinds f) from eK5_congr fun j hj => if_pos hj]
    refine Z2 ?_
    refine Z6j ?_
    refine Z6k ?_
    exact Z6m
end Go.Av

/-
  A REGION THAT DRAWS: an operation that is bound to the turning one by another one is taken first.
-/
namespace Go.Av
section
variable {P : Program} {N : Nat} {B : Base} {ops : Array Oper} {a : Option Nat} {C : Heap → Prop} {F : Env → Heap → Prop} {Q : Post}
variable {op : Op} {ty : TypeId} {pos : String} {after : Array Edge}
/-- i stands ahead of m, by way of operations that have not come up. -/
inductive Anc (ops : Array Oper) (listed : Array Bool) (i : Nat) : Nat → Prop
  | here : Anc ops listed i i
  | step {m : Nat} {om : Oper} {e : Edge} : listed.getD m true = false → ops[m]? = some om → e ∈ om.after → Region.binds .any e = true → Anc ops listed i e.on → Anc ops listed i m
def Wait2 (ops : Array Oper) (a : Option Nat) (i : Nat) (listed : Array Bool) : Prop := ∀ a', a = some a' → ∀ oa, ops[a']? = some oa → ∃ e ∈ oa.after, Region.binds .any e = true ∧ Anc ops listed i e.on
theorem listed_no {listed : Array Bool} {m : Nat} (h1 : listed.getD m false = true) (h2 : listed.getD m true = false) : False := by
  rcases Nat.lt_or_ge m listed.size with h' | h'
  · simp [h'] at h1 h2; rw [h1] at h2; cases h2
  · simp [Array.getElem?_eq_none h'] at h1
theorem Anc.put {listed : Array Bool} {i j m : Nat} {oj : Oper} (hoj : ops[j]? = some oj) (hall : ∀ e ∈ oj.after, Region.binds .any e = true → listed.getD e.on false = true) (hnot : ∀ e ∈ oj.after, Region.binds .any e = true → e.on ≠ i) (h : Anc ops listed i m) : Anc ops (listed.setIfInBounds j true) i m := by
  induction h with
  | here => exact .here
  | @step m om e hm hom he hb h ih =>
    refine .step ?_ hom he hb ih
    have : j ≠ m := by
      rintro rfl
      rw [hoj] at hom
      obtain rfl := Option.some.inj hom
      have h1 := hall e he hb
      have h2 := hnot e he hb
      cases h with
      | here => exact h2 rfl
      | step h3 => exact listed_no h1 h3
    rw [getD_set_ne true this]; exact hm
/-- Taken first: what binds it to the one that turns stands between. -/
theorem aa_first_aux2 {i : Nat} {oi : Oper} {v : AV} (hi : ops[i]? = some oi) (hdi : ∀ t, oi.dst = some t → DN t N) (hai : a ≠ some i) :
    ∀ (fuel : Nat) (listed : Array Bool) (env : Env) (H : Heap), Wait2 ops a i listed → listed.size = ops.size →
      (∀ j oj, ops[j]? = some oj → j ≠ i → listed.getD j true = false → (∀ e ∈ oj.after, Region.binds .any e = true → e.on ≠ i) → oi.apart ops oj = true) →
      i ∈ Region.ready .any ops listed → Yet a listed → Quiet P N ops C oi env v →
      AAny P N B ops a C F fuel (listed.setIfInBounds i true) (Av.put env oi.dst v) H → AAny P N B ops a C F (fuel + 1) listed env H := by
  have hset : ∀ (listed : Array Bool) (j : Nat), a ≠ some j → Yet a (listed.setIfInBounds j true) = Yet a listed := fun listed j hj => by
    unfold Yet
    cases a with
    | none => rfl
    | some a => simp only; rw [getD_set_ne true (fun e => hj (by rw [e]))]
  intro fuel
  induction fuel with
  | zero =>
    intro listed env H _ hsz _ hr ha hq h
    have hC : C H := h.1 (by rw [hset _ _ hai]; exact ha)
    refine ⟨fun _ => hC, fun h0 => (by rw [h0] at hr; cases hr), fun j hj => ?_⟩
    by_cases hji : j = i
    · subst hji; exact hq.at_ hi hdi hC h
    · have := ready_mono hj hji
      rw [h.2.1] at this
      cases this
  | succ fuel ih =>
    intro listed env H hwait hsz hfree hr ha hq h
    have hC : C H := h.1 (by rw [hset _ _ hai]; exact ha)
    refine ⟨fun _ => hC, fun h0 => (by rw [h0] at hr; cases hr), fun j hj => ?_⟩
    by_cases hji : j = i
    · subst hji; exact hq.at_ hi hdi hC h
    · have h1 := h.2.2 j (ready_mono hj hji)
      obtain ⟨hjun, oj, hoj, hall⟩ := mem_ready.1 hj
      have hnot : ∀ e ∈ oj.after, Region.binds .any e = true → e.on ≠ i := fun e he hb heq => by
        have h1 := hall e he hb
        have h0 := (mem_ready.1 hr).1
        rw [heq] at h1
        rcases Nat.lt_or_ge i listed.size with h' | h'
        · simp [h'] at h0 h1; rw [h0] at h1; cases h1
        · simp [Array.getElem?_eq_none h'] at h1
      have hja : a ≠ some j := by
        rintro rfl
        obtain ⟨e, he, hb, hm⟩ := hwait j rfl oj hoj
        generalize hx : e.on = x at hm
        cases hm with
        | here => exact hnot e he hb hx
        | step h3 => exact listed_no (hall e he hb) (by rw [hx]; exact h3)
      have hwait' : Wait2 ops a i (listed.setIfInBounds j true) := by
        intro a' ha' oa hoa
        obtain ⟨e, he, hb, hm⟩ := hwait a' ha' oa hoa
        exact ⟨e, he, hb, hm.put hoj hall hnot⟩
      have hap := hfree j oj hoj hji hjun hnot
      obtain ⟨p1, p2, p3⟩ := Oper.apart_spec hap
      have hfree' : ∀ k ok, ops[k]? = some ok → k ≠ i → (listed.setIfInBounds j true).getD k true = false →
          (∀ e ∈ ok.after, Region.binds .any e = true → e.on ≠ i) → oi.apart ops ok = true := fun k ok hk hki hun hno => by
        refine hfree k ok hk hki ?_ hno
        by_cases hjk : j = k
        · subst hjk; exact hjun
        · rw [getD_set_ne true hjk] at hun; exact hun
      obtain ⟨o, ho, hd, h2⟩ := h1
      rw [hoj] at ho
      obtain rfl := Option.some.inj ho
      have step : ∀ x H', AAny P N B ops a C F fuel ((listed.setIfInBounds i true).setIfInBounds j true) (Av.put (Av.put env oi.dst v) oj.dst x) H' → AAny P N B ops a C F (fuel + 1) (listed.setIfInBounds j true) (Av.put env oj.dst x) H' := by
        intro x H' hx
        refine ih (listed.setIfInBounds j true) (Av.put env oj.dst x) H' hwait' (by simpa using hsz) hfree' (ready_mono hr (Ne.symm hji)) (by rw [hset _ _ hja]; exact ha) (hq.put p3 fun t ht => (hd t ht).2) ?_
        rw [Array.setIfInBounds_comm _ _ hji]
        exact AAny.eqv _ _ _ _ _ (Eqv.comm env v x p2) hx
      refine ⟨oj, hoj, hd, ?_⟩
      rcases h2 with ⟨k1, V, k2, k3⟩ | ⟨k1, k2⟩
      · exact .inl ⟨k1.put p1, V, by rw [renv_put ops oj env oi.dst v p1 fun t ht => (hdi t ht).2] at k2; exact k2, fun x H' hx => step x H' (k3 x H' hx)⟩
      · exact .inr ⟨k1.put p1, step _ _ k2⟩

def ancB (ops : Array Oper) (listed : Array Bool) (i : Nat) : Nat → List Nat → Bool
  | m, [] => m == i
  | m, x :: l => !(listed.getD m true) && (match ops[m]? with
      | some om => om.after.toList.any fun e => Region.binds .any e && e.on == x
      | none => false) && ancB ops listed i x l
theorem ancB_spec {listed : Array Bool} {i : Nat} : ∀ (l : List Nat) (m : Nat), ancB ops listed i m l = true → Anc ops listed i m
  | [], m, h => by simp only [ancB, beq_iff_eq] at h; subst h; exact .here
  | x :: l, m, h => by
    simp only [ancB, Bool.and_eq_true, Bool.not_eq_true'] at h
    obtain ⟨⟨h1, h2⟩, h3⟩ := h
    cases hm : ops[m]? with
    | none => rw [hm] at h2; cases h2
    | some om =>
      rw [hm] at h2
      simp only [List.any_eq_true, Bool.and_eq_true, beq_iff_eq] at h2
      obtain ⟨e, he, hb, ho⟩ := h2
      subst ho
      exact .step h1 hm (by simpa using he) hb (ancB_spec l _ h3)
def firstB2 (ops : Array Oper) (listed : Array Bool) (a : Nat) (l : List Nat) (i : Nat) : Bool :=
  (Region.ready .any ops listed).contains i && Region.free .any ops listed i && decide (listed.size = ops.size) &&
    (i != a && !(listed.getD a true) && ancB ops listed i a l)
theorem aqpz {fuel : Nat} {listed : Array Bool} {env : Env} {H H0 : Heap} {v : AV} {d a : Nat} {L0 : Heap} (l : List Nat) (i : Nat) (hi : ops[i]? = some ⟨some d, op, ty, pos, after, none⟩) (hB : firstB2 ops listed a l i = true) (hd : DN d N) (h1 : ∀ G, V1 P N op ty (renv ⟨some d, op, ty, pos, after, none⟩ env) (H0 ++ (L0 ++ G)) v)
    (h : AAny P N B ops (some a) (Pre H0 L0) F fuel (listed.setIfInBounds i true) ((d, v) :: env) H) : AAny P N B ops (some a) (Pre H0 L0) F (fuel + 1) listed env H := by
  simp only [firstB2, Bool.and_eq_true, decide_eq_true_eq, bne_iff_ne, Bool.not_eq_true'] at hB
  obtain ⟨⟨⟨h2, h3⟩, h5⟩, ⟨h6, h7⟩, h8⟩ := hB
  refine aa_first_aux2 hi (by rintro _ ⟨⟩; exact hd) (fun e => h6 (Option.some.inj e).symm) fuel listed env H ?_ h5 (Region.free_spec hi h3) (by simpa using h2) h7 (.inl ⟨rfl, by rintro H ⟨G, rfl⟩; exact (h1 G).toV2 _ _ _ _⟩) h
  intro a' ha oa hoa
  obtain rfl := Option.some.inj ha
  cases ancB_spec _ _ h8 with
  | here => exact absurd rfl h6
  | step h9 h10 h11 h12 h13 =>
    rw [hoa] at h10
    obtain rfl := Option.some.inj h10
    exact ⟨_, h11, h12, h13⟩
end
end Go.Av

namespace Go.Av
open Go.Proofs
set_option maxRecDepth 10000
set_option linter.unusedSimpArgs false
set_option linter.unusedVariables false

set_option maxHeartbeats 0 in
theorem stat_numbers (f : Nat → Int) (id : Nat) (H : Heap) (hid : H[id]? = some ⟨0, 27, [eStat f]⟩) : AC Tryd.prog 36 [.pt id 0 0 0] H (Ret (.sl (Lid H.length 0) 27 0 27 27) (H ++ [⟨27, 1, numRows id 27⟩])) := by
  have hF := hid
  have hlt0 : id < H.length := (List.getElem?_eq_some_iff.1 hid).1
  refine AC.body (N := 51) [.tmp 2] Tryd.func36 rfl rfl rfl (Nat.le_of_ble_eq_true rfl) fun B hB => ?_
  refine Z2o ?_
  refine Z4g ?_
  refine aw_ghostL (k := 0) 3 1 rfl (by decide) rfl ?_
  refine Z1 ?_
  refine aw_drawP mixed (some 12) 1 ?_
  refine Z19 ?_
  refine Zb2 ?_
  first | refine aqpz [2, 1] 1 rfl (by decide +kernel) (by decide) (fun G => w_nilCheck rfl (lk rfl rfl) rfl) ?_ | refine aqpz [2, 1] 1 rfl (by decide +kernel) (by decide) (fun G => w_nilCheck rfl (lkF hF) rfl) ?_ | refine aqpz [2, 1] 1 rfl (by decide +kernel) (by decide) (fun G => o_nilCheckp rfl) ?_
  refine Zb3 ?_
  first | refine aq0 3 rfl (by decide +kernel) (by decide) (fun _ => o_move (v := .pt _ _ _ _) rfl) ?_ | refine aq0 3 rfl (by decide +kernel) (by decide) (fun _ => o_move (v := .pp _ _ _) rfl) ?_ | refine aq0 3 rfl (by decide +kernel) (by decide) (fun _ => o_move (v := .nptr) rfl) ?_
  first | refine aqpz [5, 4] 4 rfl (by decide +kernel) (by decide) (fun G => w_nilCheck rfl (lk rfl rfl) rfl) ?_ | refine aqpz [5, 4] 4 rfl (by decide +kernel) (by decide) (fun G => w_nilCheck rfl (lkF hF) rfl) ?_ | refine aqpz [5, 4] 4 rfl (by decide +kernel) (by decide) (fun G => o_nilCheckp rfl) ?_
  refine Zbb ?_
  first | refine aq0 6 rfl (by decide +kernel) (by decide) (fun _ => o_move (v := .pt _ _ _ _) rfl) ?_ | refine aq0 6 rfl (by decide +kernel) (by decide) (fun _ => o_move (v := .pp _ _ _) rfl) ?_ | refine aq0 6 rfl (by decide +kernel) (by decide) (fun _ => o_move (v := .nptr) rfl) ?_
  first | refine aqpz [8, 7] 7 rfl (by decide +kernel) (by decide) (fun G => w_nilCheck rfl (lk rfl rfl) rfl) ?_ | refine aqpz [8, 7] 7 rfl (by decide +kernel) (by decide) (fun G => w_nilCheck rfl (lkF hF) rfl) ?_ | refine aqpz [8, 7] 7 rfl (by decide +kernel) (by decide) (fun G => o_nilCheckp rfl) ?_
  refine Zb4 ?_
  first | refine aq0 9 rfl (by decide +kernel) (by decide) (fun _ => o_move (v := .pt _ _ _ _) rfl) ?_ | refine aq0 9 rfl (by decide +kernel) (by decide) (fun _ => o_move (v := .pp _ _ _) rfl) ?_ | refine aq0 9 rfl (by decide +kernel) (by decide) (fun _ => o_move (v := .nptr) rfl) ?_
  first | refine aqpz [11, 10] 10 rfl (by decide +kernel) (by decide) (fun G => w_nilCheck rfl (lk rfl rfl) rfl) ?_ | refine aqpz [11, 10] 10 rfl (by decide +kernel) (by decide) (fun G => w_nilCheck rfl (lkF hF) rfl) ?_ | refine aqpz [11, 10] 10 rfl (by decide +kernel) (by decide) (fun G => o_nilCheckp rfl) ?_
  refine Zbf ?_
  refine aq0 14 rfl (by decide +kernel) (by decide) (fun _ => o_move (v := .int _ _) rfl) ?_
  refine aqs 12 rfl (by decide +kernel) (by first | exact fun _ => trivial | exact fun _ => ⟨_, rfl⟩ | exact fun _ => ⟨_, rfl, rfl⟩ | exact fun _ => ⟨_, rfl, rfl, rfl⟩ | exact yet_done (by decide +kernel)) (by rintro _ ⟨⟩; decide) (o_buildSliceL (rows := [[_], [_], [_], [_]]) rfl (by decide) (by decide) (by decide) rfl rfl (by simp) rfl) ?_
  refine aqs 13 rfl (by decide +kernel) (by first | exact fun _ => trivial | exact fun _ => ⟨_, rfl⟩ | exact fun _ => ⟨_, rfl, rfl⟩ | exact fun _ => ⟨_, rfl, rfl, rfl⟩ | exact yet_done (by decide +kernel)) (by rintro _ ⟨⟩; decide) (V1.toV2 (w_lens rfl (lk rfl rfl) rfl)) ?_
  refine Z1d ?_
  refine Z15 ?_
  refine aw_loop (G := Nat) (fun i => i ≤ 4) (fun i => [(0, .pt id 0 0 0), (3, .sl (Lid H.length 0) (5 * i) 0 (5 * i) (5 * i)), (20, .sl (Lid H.length 1) 0 0 4 4), (21, .int .i64 4), (22, .int .i64 (i : Int))]) (fun i => H ++ [⟨5 * i, 1, numRows id (5 * i)⟩, ⟨0, 1, arrRows id⟩]) (fun i => 4 - i) 0 (Nat.zero_le _) (by repeat (first | exact Sub.nil | refine Sub.cons (by first | rfl | (simp [get]; done)) ?_)) (.inl rfl) ?_
  intro i hi
  have hbel : ∀ (b m : Nat), id < b → ∀ o ∈ [AObj.mk m 1 (numRows id m), AObj.mk 0 1 (arrRows id)], ∀ r ∈ o.rows, AV.bels b r = true := by
    intro b m hb o ho r hr
    simp only [List.mem_cons, List.not_mem_nil, or_false] at ho
    rcases ho with rfl | rfl
    · exact numRows_bel hb _ r hr
    · exact arrRows_bel hb r hr
  refine Z30 ?_
  refine aw_cond rfl (fun hc => ?_) (fun hc => ?_)
  · have hlt : i < 4 := by simp at hc; omega
    have hr : (arrRows id)[0 + i]? = some [.pt id 0 0 (5 * i)] := by rw [Nat.zero_add]; exact arrRows_get (id := id) hlt
    refine Z2 ?_
    refine Z66 ?_
    refine ao1 (by decide) (w_load1 (v := .pt _ _ _ _) rfl (lk rfl rfl) rfl hr rfl) ?_
    refine Zb9 ?_
    refine Z6 ?_
    refine Z2y ?_
    refine aw_loop (G := Nat) (fun k => k ≤ 5) (fun k => [(0, .pt id 0 0 0), (3, .sl (Lid H.length 0) (5 * i + k) 0 (5 * i + k) (5 * i + k)), (5, .pt id 0 0 (5 * i)), (20, .sl (Lid H.length 1) 0 0 4 4), (21, .int .i64 4), (22, .int .i64 (i : Int)), (26, .int .i64 (k : Int))]) (fun k => H ++ [⟨5 * i + k, 1, numRows id (5 * i + k)⟩, ⟨0, 1, arrRows id⟩]) (fun k => 5 - k) 0 (Nat.zero_le _) (by repeat (first | exact Sub.nil | refine Sub.cons (by first | rfl | (simp [get]; done)) ?_)) (.inl rfl) ?_
    intro k hk
    refine Z30 ?_
    refine aw_cond rfl (fun hc => ?_) (fun hc => ?_)
    · have hltk : k < 5 := by simp at hc; omega
      have hap : (numRows id (5 * i + k)).take (5 * i + k) ++ [[AV.pt id 0 0 (5 * i + k * 1)]] = numRows id (5 * i + (k + 1)) := by
        rw [List.take_of_length_le (by rw [numRows_len]; exact Nat.le_refl _), ← Nat.add_assoc, numRows_succ, Nat.mul_one]
      refine Zy ?_
      refine Z7 ?_
      refine Z2s ?_
      refine Zbg ?_
      refine Za ?_
      refine Zbh ?_
      refine Zbi ?_
      refine Zbj ?_
      refine ao2 (by rintro _ ⟨⟩; decide) (w_append rfl rfl rfl rfl rfl (w_srcs (ys := [[.pt id 0 0 (5 * i + k * 1)]]) rfl rfl rfl rfl rfl rfl rfl) rfl (by show _ ≤ (numRows id (5 * i + k)).length; rw [numRows_len]; exact Nat.le_refl _) (by show 0 < 1; decide) (by simp; omega) (by simp; omega)) ?_
      refine Z4m ?_
      rw [hap]
      refine Z3s ?_
      exact ⟨k + 1, by omega, by omega, (by repeat (first | exact Sub.nil | refine Sub.cons (by first | rfl | (simp [get]; done)) ?_)), Fit.loc hB rfl (by repeat (first | exact EBel.nil | refine EBel.cons (by first | rfl | (simp [AV.bel, Lid]; done) | (simp [AV.bel, Lid]; omega)) ?_)) (hbel _ _ (by simp; omega))⟩
    · have : k = 5 := by simp at hc; omega
      subst this
      refine Z3s ?_
      exact ⟨i + 1, by omega, by omega, by rw [show 5 * (i + 1) = 5 * i + 5 by omega]; exact (by repeat (first | exact Sub.nil | refine Sub.cons (by first | rfl | (simp [get]; done)) ?_)), .inl (by rw [show 5 * (i + 1) = 5 * i + 5 by omega])⟩
  · have : i = 4 := by simp at hc; omega
    subst this
    refine Zy ?_
    refine Z16 ?_
    refine aw_loop (G := Nat) (fun k => k ≤ 7) (fun k => [(0, .pt id 0 0 0), (3, .sl (Lid H.length 0) (20 + k) 0 (20 + k) (20 + k)), (38, .int .i64 (k : Int))]) (fun k => H ++ [⟨20 + k, 1, numRows id (20 + k)⟩, ⟨0, 1, arrRows id⟩]) (fun k => 7 - k) 0 (Nat.zero_le _) (by repeat (first | exact Sub.nil | refine Sub.cons (by first | rfl | (simp [get]; done)) ?_)) (.inl rfl) ?_
    intro k hk
    refine Z30 ?_
    refine aw_cond rfl (fun hc => ?_) (fun hc => ?_)
    · have hltk : k < 7 := by simp at hc; omega
      have hap : (numRows id (20 + k)).take (20 + k) ++ [[AV.pt id 0 0 (0 + 20 + k * 1)]] = numRows id (20 + (k + 1)) := by
        rw [List.take_of_length_le (by rw [numRows_len]; exact Nat.le_refl _), ← Nat.add_assoc, numRows_succ, Nat.mul_one, Nat.zero_add]
      refine Zy ?_
      refine Z7 ?_
      refine Z2s ?_
      refine Zbg ?_
      refine Za ?_
      refine Zbh ?_
      refine Z20 ?_
      refine Zbi ?_
      refine Zbj ?_
      refine ao2 (by rintro _ ⟨⟩; decide) (w_append rfl rfl rfl rfl rfl (w_srcs (ys := [[.pt id 0 0 (0 + 20 + k * 1)]]) rfl rfl rfl rfl rfl rfl rfl) rfl (by show _ ≤ (numRows id (20 + k)).length; rw [numRows_len]; exact Nat.le_refl _) (by show 0 < 1; decide) (by simp; omega) (by simp; omega)) ?_
      refine Z4m ?_
      rw [hap]
      refine Z3s ?_
      exact ⟨k + 1, by omega, by omega, (by repeat (first | exact Sub.nil | refine Sub.cons (by first | rfl | (simp [get]; done)) ?_)), Fit.loc hB rfl (by repeat (first | exact EBel.nil | refine EBel.cons (by first | rfl | (simp [AV.bel, Lid]; done) | (simp [AV.bel, Lid]; omega)) ?_)) (hbel _ _ (by simp; omega))⟩
    · have : k = 7 := by simp at hc; omega
      subst this
      refine Z4i ?_
      refine Z2t ?_
      exact e_keep (K := [⟨27, 1, numRows id 27⟩]) (G := [⟨0, 1, arrRows id⟩]) hB (r_tmp rfl .nil) rfl rfl (by simp [AV.bel, Lid]) (by intro o ho r hr; simp only [List.mem_singleton] at ho; subst ho; exact numRows_bel (by simp; omega) _ r hr)
end Go.Av

namespace Go.Av
open Go.Proofs
set_option maxRecDepth 10000
set_option linter.unusedSimpArgs false
set_option linter.unusedVariables false

set_option maxHeartbeats 0 in
theorem stat_Plus (f h : Nat → Int) (H : Heap) : AC Tryd.prog 14 [.agg (eStat f), .agg (eStat h)] H (Ret (.agg (eStat (splus f h))) H) := by
  refine AC.body (N := 33) [.cell 4 33] Tryd.func14 rfl rfl rfl (Nat.le_of_ble_eq_true rfl) fun B hB => ?_
  refine Z2 ?_
  refine Zbe ?_
  refine Zbe ?_
  refine Zbk ?_
  refine Z6 ?_
  refine ao2 (by rintro _ ⟨⟩; decide) (V2.callo (stat_numbers h _ _ (lk rfl rfl)) rfl rfl) ?_
  refine Z4f ?_
  refine ao2 (by rintro _ ⟨⟩; decide) (V2.callo (stat_numbers f _ _ (lk rfl rfl)) rfl rfl) ?_
  refine Z2z ?_
  refine aw_loop (G := Nat) (fun i => i ≤ 27) (fun i => [(2, .pt (Lid H.length 0) 0 0 0), (4, .pt (Lid H.length 2) 0 0 0), (5, .sl (Lid H.length 3) 27 0 27 27), (9, .sl (Lid H.length 4) 27 0 27 27), (10, .int .i64 27), (11, .int .i64 (i : Int))]) (fun i => H ++ [⟨0, 27, [eStat (splusN f h i)]⟩, ⟨0, 27, [eStat h]⟩, ⟨0, 27, [eStat snone]⟩, ⟨27, 1, numRows (Lid H.length 1) 27⟩, ⟨27, 1, numRows (Lid H.length 0) 27⟩]) (fun i => 27 - i) 0 (Nat.zero_le _) (by repeat (first | exact Sub.nil | refine Sub.cons (by first | rfl | (simp [get]; done)) ?_)) (.inl rfl) ?_
  intro i hi
  refine Z30 ?_
  refine aw_cond rfl (fun hc => ?_) (fun hc => ?_)
  · have hlt : i < 27 := by simp at hc; omega
    have hra : (numRows (Lid H.length 0) 27)[0 + i]? = some [.pt (Lid H.length 0) 0 0 i] := by rw [Nat.zero_add]; exact numRows_get hlt
    have hrb : (numRows (Lid H.length 1) 27)[0 + i]? = some [.pt (Lid H.length 1) 0 0 i] := by rw [Nat.zero_add]; exact numRows_get hlt
    have ha : (eStat (splusN f h i))[i]? = some (.int .i64 (f i)) := by rw [eStat_get _ hlt, splusN, if_neg (Nat.lt_irrefl _)]
    have hb : (eStat h)[i]? = some (.int .i64 (h i)) := eStat_get _ hlt
    have n1 : 0 ≤ snear (f i) ∧ snear (f i) ≤ 1099511627776 := by simp only [snear]; omega
    have n2 : 0 ≤ snear (h i) ∧ snear (h i) ≤ 1099511627776 := by simp only [snear]; omega
    have hset : (eStat (splusN f h i)).take i ++ [AV.int .i64 (splus f h i)] ++ (eStat (splusN f h i)).drop (i + 1) = eStat (splusN f h (i + 1)) := by
      rw [eStat_set _ hlt]
      refine eStat_congr fun j _ => ?_
      simp only [splusN]
      by_cases e : j = i
      · subst e; simp
      · rw [if_neg e]
        by_cases e2 : j < i
        · rw [if_pos e2, if_pos (by omega)]
        · rw [if_neg e2, if_neg (by omega)]
    refine Zy ?_
    refine Z66 ?_
    refine ao1 (by decide) (w_load1 (v := .pt _ _ _ _) rfl (lk rfl rfl) rfl hra rfl) ?_
    refine Z3 ?_
    refine Zb9 ?_
    refine Zb ?_
    refine aw_drawP mixed (some 15) 5 ?_
    refine Z19 ?_
    refine Zb2 ?_
    first | refine aq0 1 rfl (by decide +kernel) (by decide) (fun _ => o_move (v := .pt _ _ _ _) rfl) ?_ | refine aq0 1 rfl (by decide +kernel) (by decide) (fun _ => o_move (v := .pp _ _ _) rfl) ?_ | refine aq0 1 rfl (by decide +kernel) (by decide) (fun _ => o_move (v := .nptr) rfl) ?_
    first | refine aqp 2 rfl (by decide +kernel) (by decide) (fun G => w_nilCheck rfl (lk rfl rfl) rfl) ?_ | refine aqp 2 rfl (by decide +kernel) (by decide) (fun G => w_nilCheck rfl (lkF hF) rfl) ?_ | refine aqp 2 rfl (by decide +kernel) (by decide) (fun G => o_nilCheckp rfl) ?_
    refine aqp 3 rfl (by decide +kernel) (by decide) (fun G => w_load1 (v := .int .i64 _) rfl (lk rfl rfl) rfl rfl ha) ?_
    refine aq02 4 rfl (by decide +kernel) (by decide) (fun _ => V2.call (stat_near _ _) rfl) ?_
    refine Zbl ?_
    refine Zbm ?_
    refine aqp 7 rfl (by decide +kernel) (by decide) (fun G => w_indexAddrN rfl (lk rfl rfl) rfl rfl rfl (by omega)) ?_
    refine aqp 8 rfl (by decide +kernel) (by decide) (fun G => w_load1 (v := .pt _ _ _ _) rfl (lk rfl rfl) rfl hrb rfl) ?_
    first | refine aqp 9 rfl (by decide +kernel) (by decide) (fun G => w_nilCheck rfl (lk rfl rfl) rfl) ?_ | refine aqp 9 rfl (by decide +kernel) (by decide) (fun G => w_nilCheck rfl (lkF hF) rfl) ?_ | refine aqp 9 rfl (by decide +kernel) (by decide) (fun G => o_nilCheckp rfl) ?_
    refine aqp 10 rfl (by decide +kernel) (by decide) (fun G => w_load1 (v := .int .i64 _) rfl (lk rfl rfl) rfl rfl hb) ?_
    refine aq02 11 rfl (by decide +kernel) (by decide) (fun _ => V2.call (stat_near _ _) rfl) ?_
    refine aq0 12 rfl (by decide +kernel) (by decide) (fun _ => o_add (r := snear (f i) + snear (h i)) rfl rfl (wrap64_ok (by omega) (by omega))) ?_
    refine aq02 13 rfl (by decide +kernel) (by decide) (fun _ => V2.call (stat_near _ _) rfl) ?_
    first | refine aqp 14 rfl (by decide +kernel) (by decide) (fun G => w_nilCheck rfl (lk rfl rfl) rfl) ?_ | refine aqp 14 rfl (by decide +kernel) (by decide) (fun G => w_nilCheck rfl (lkF hF) rfl) ?_ | refine aqp 14 rfl (by decide +kernel) (by decide) (fun G => o_nilCheckp rfl) ?_
    refine aqs 15 rfl (by decide +kernel) (by first | exact fun _ => trivial | exact fun _ => ⟨_, rfl⟩ | exact fun _ => ⟨_, rfl, rfl⟩ | exact fun _ => ⟨_, rfl, rfl, rfl⟩ | exact yet_done (by decide +kernel)) (by rintro _ ⟨⟩) (w_storeP (sz := 1) (v := .int .i64 _) (r' := eStat (splusN f h (i + 1))) rfl rfl rfl rfl rfl rfl rfl rfl (by show _ ≤ 27; omega) hset) ?_
    refine Z1d ?_
    refine Z3s ?_
    exact ⟨i + 1, by omega, by omega, (by repeat (first | exact Sub.nil | refine Sub.cons (by first | rfl | (simp [get]; done)) ?_)), .refl _ _⟩
  · have : i = 27 := by simp at hc; omega
    subst this
    rw [show eStat (splusN f h 27) = eStat (splus f h) from eStat_congr fun j hj => by rw [splusN, if_pos hj]]
    refine Z2 ?_
    refine Zbn ?_
    refine ao2 (by rintro _ ⟨⟩) (w_storeW (sz := 27) rfl rfl rfl rfl rfl rfl rfl rfl (Nat.le_of_ble_eq_true rfl)) ?_
    exact Z6m
theorem stat_Of_1 (i : Inst) (l : List Int) (id : Nat) (H : Heap) (hw : IW i) (hl : l.length ≤ 1000000) (hg : gright i.graph = true) (hs : sok l = true) (hid : H[id]? = some ⟨0, 9, [eInst i]⟩) : AC Tryd.prog 21 [.pl (l.map eInt), .pt id 0 0 0] H (Ret (.agg (eK5 (kfun i.graph l))) H) := by
  have hF := hid
  have w1 := hw.graph
  have ck := fun H => graph_Kinds i.graph l H (by omega) (by omega)
  rw [gkinds_yes hg hs] at ck
  refine AC.body (N := 8) [.cell 3 30] Tryd.func21 rfl rfl rfl (Nat.le_of_ble_eq_true rfl) fun B hB => ?_
  refine Z2 ?_
  refine Z6f ?_
  refine Z6 ?_
  refine Z2w ?_
  refine Z2s ?_
  refine ao2 (by rintro _ ⟨⟩; decide) (V2.call (ck _) rfl) ?_
  refine Z6k ?_
  exact Z6m
set_option maxHeartbeats 0 in
theorem stat_Of (i : Inst) (H : Heap) (hw : IW i) : ACT Tryd.prog KD 7 [.agg (eInst i)] H (Ret (.agg (eStat (istat i))) H) := by
  have w1 := hw.graph
  have w3 := hw.table
  have w4 := hw.health
  have w5 := hw.lease
  have w6 := hw.jobs
  have hfl := ifree_le i
  have hbl := heldBusy_le i.table i.now (plus i.now 1)
  have hbl2 := hbelow_le i.graph i.health 0
  refine ACT.body (N := 43) [.cell 2 33] Tryd.func7 rfl rfl rfl (Nat.le_of_ble_eq_true rfl) fun B hB => ?_
  refine Za7 ?_
  refine Zbk ?_
  refine Z6 ?_
  refine Zb6 ?_
  refine Zb7 ?_
  refine Z2k ?_
  refine aw_cond rfl (fun hc => ?_) (fun hc => ?_)
  · have hno : iright i = false := by simpa only [Bool.not_eq_true'] using hc
    rw [show istat i = snone by rw [istat, hno]; rfl]
    refine Z2 ?_
    refine ao1 (by decide) (V1.up (o_build (cs := [.int _ _, .int _ _, .int _ _, .int _ _, .int _ _, .int _ _, .int _ _, .int _ _, .int _ _, .int _ _, .int _ _, .int _ _, .int _ _, .int _ _, .int _ _, .int _ _, .int _ _, .int _ _, .int _ _, .int _ _, .int _ _, .int _ _, .int _ _, .int _ _, .int _ _, .int _ _, .int _ _]) rfl)) ?_
    refine Zbo ?_
    exact Z6m
  have hyes : iright i = true := by simpa only [Bool.not_eq_false'] using hc
  have hg := iright_graph hyes
  have hj := iright_jobs hyes
  have s1 : sok (ifree i) = true := by rw [ifree, hyes, if_neg (by decide)]; exact sok_setop _ _ _
  have s2 : sok (heldBusy i.table i.now (plus i.now 1)) = true := sok_heldBusy _ _ _
  have cj := fun H => queue_Counts i.jobs H w6
  rw [counts_yes hj] at cj
  rw [show istat i = statS i.graph (ifree i) (ibusy i) (sless (sless i.lease (hbelow i.graph i.health 0)) (ibusy i)) i.jobs by rw [istat, hyes]; rfl]
  clear hc
  refine Z1 ?_
  refine Z4z ?_
  refine Z50 ?_
  refine Zbp ?_
  refine Zb3 ?_
  first | refine aqp 3 rfl (by decide +kernel) (by decide) (fun G => w_load1 (v := .int _ _) rfl (lk rfl rfl) rfl rfl rfl) ?_ | refine aqp 3 rfl (by decide +kernel) (by decide) (fun G => w_load1 (v := .int _ _) rfl (lk rfl rfl) rfl (zadd hr) rfl) ?_ | refine aqp 3 rfl (by decide +kernel) (by decide) (fun G => w_load1 (v := .int _ _) rfl (lk rfl rfl) rfl (zadd hr1) rfl) ?_ | refine aqp 3 rfl (by decide +kernel) (by decide) (fun G => w_load1 (v := .int _ _) rfl (lk rfl rfl) rfl (zadd hr2) rfl) ?_ | refine aqp 3 rfl (by decide +kernel) (by decide) (fun G => o_load1p (v := .int _ _) rfl hr rfl) ?_ | refine aqp 3 rfl (by decide +kernel) (by decide) (fun G => o_load1p (v := .int _ _) rfl hr1 rfl) ?_ | refine aqp 3 rfl (by decide +kernel) (by decide) (fun G => o_load1p (v := .int _ _) rfl hr2 rfl) ?_ | refine aqp 3 rfl (by decide +kernel) (by decide) (fun G => w_load1 (v := .int _ _) rfl (lkF hF) rfl rfl rfl) ?_
  refine Zba ?_
  first | refine aqp 5 rfl (by decide +kernel) (by decide) (fun G => w_load1 (v := .int _ _) rfl (lk rfl rfl) rfl rfl rfl) ?_ | refine aqp 5 rfl (by decide +kernel) (by decide) (fun G => w_load1 (v := .int _ _) rfl (lk rfl rfl) rfl (zadd hr) rfl) ?_ | refine aqp 5 rfl (by decide +kernel) (by decide) (fun G => w_load1 (v := .int _ _) rfl (lk rfl rfl) rfl (zadd hr1) rfl) ?_ | refine aqp 5 rfl (by decide +kernel) (by decide) (fun G => w_load1 (v := .int _ _) rfl (lk rfl rfl) rfl (zadd hr2) rfl) ?_ | refine aqp 5 rfl (by decide +kernel) (by decide) (fun G => o_load1p (v := .int _ _) rfl hr rfl) ?_ | refine aqp 5 rfl (by decide +kernel) (by decide) (fun G => o_load1p (v := .int _ _) rfl hr1 rfl) ?_ | refine aqp 5 rfl (by decide +kernel) (by decide) (fun G => o_load1p (v := .int _ _) rfl hr2 rfl) ?_ | refine aqp 5 rfl (by decide +kernel) (by decide) (fun G => w_load1 (v := .int _ _) rfl (lkF hF) rfl rfl rfl) ?_
  refine aq02 6 rfl (by decide +kernel) (by decide) (fun _ => V2.call (when_Plus _ _ _) rfl) ?_
  refine aq02 7 rfl (by decide +kernel) (by decide) (fun _ => V2.callT (held_Busy i.table i.now (plus i.now 1) _ w3) rfl rfl) ?_
  refine Zbq ?_
  refine Z1d ?_
  refine Z1 ?_
  refine Z4z ?_
  refine Z50 ?_
  refine Zbp ?_
  refine Zb3 ?_
  refine Zbr ?_
  refine Zba ?_
  refine Zbs ?_
  refine aq02 6 rfl (by decide +kernel) (by decide) (fun _ => V2.call (health_Usable _ _ _ (by omega) (by omega)) rfl) ?_
  refine aq02 7 rfl (by decide +kernel) (by decide) (fun _ => V2.callT (set_Less i.lease (hbelow i.graph i.health 0) (by omega) (by omega) _) rfl rfl) ?_
  refine Zbq ?_
  refine Z1d ?_
  refine Z2 ?_
  refine ao1 (by decide) (o_makeFunc (vs := []) (us := [_]) rfl rfl) ?_
  first | refine ao1 (by decide) (o_assign (v := .fn _ _ _) rfl) ?_ | refine ao1 (by decide) (o_assign (v := .nfn) rfl) ?_
  refine Z5 ?_
  have hl3 : (sless i.lease (hbelow i.graph i.health 0)).length ≤ 256 := setop_len _ _ _
  have hl4 : (sless (sless i.lease (hbelow i.graph i.health 0)) (heldBusy i.table i.now (plus i.now 1))).length ≤ 256 := setop_len _ _ _
  refine Z1 ?_
  refine aw_drawP mixed (some 16) 1 ?_
  refine Z19 ?_
  first | refine aq0 0 rfl (by decide +kernel) (by decide) (fun _ => o_move (v := .fn _ _ _) rfl) ?_ | refine aq0 0 rfl (by decide +kernel) (by decide) (fun _ => o_move (v := .nfn) rfl) ?_
  first | refine aqp 1 rfl (by decide +kernel) (by decide) (fun G => w_loadR rfl (lk rfl rfl) rfl rfl rfl) ?_ | refine aqp 1 rfl (by decide +kernel) (by decide) (fun G => w_loadR rfl (lk rfl rfl) rfl (zadd hr) rfl) ?_ | refine aqp 1 rfl (by decide +kernel) (by decide) (fun G => w_loadR rfl (lk rfl rfl) rfl (zadd hr1) rfl) ?_ | refine aqp 1 rfl (by decide +kernel) (by decide) (fun G => w_loadR rfl (lk rfl rfl) rfl (zadd hr2) rfl) ?_ | refine aqp 1 rfl (by decide +kernel) (by decide) (fun G => w_loadRp rfl hr rfl) ?_ | refine aqp 1 rfl (by decide +kernel) (by decide) (fun G => w_loadRp rfl hr1 rfl) ?_ | refine aqp 1 rfl (by decide +kernel) (by decide) (fun G => w_loadRp rfl hr2 rfl) ?_ | refine aqp 1 rfl (by decide +kernel) (by decide) (fun G => w_loadN (cs := [_, _, _, _, _, _, _, _, _]) rfl (lk rfl rfl) rfl rfl rfl rfl) ?_ | refine aqp 1 rfl (by decide +kernel) (by decide) (fun G => o_loadNp (cs := [_, _, _, _, _, _, _, _, _]) rfl hr rfl rfl) ?_ | refine aqp 1 rfl (by decide +kernel) (by decide) (fun G => o_loadNp (cs := [_, _, _, _, _, _, _, _, _]) rfl hr1 rfl rfl) ?_ | refine aqp 1 rfl (by decide +kernel) (by decide) (fun G => o_loadNp (cs := [_, _, _, _, _, _, _, _, _]) rfl hr2 rfl rfl) ?_ | refine aqp 1 rfl (by decide +kernel) (by decide) (fun G => w_loadR rfl (lkF hF) rfl rfl rfl) ?_ | refine aqp 1 rfl (by decide +kernel) (by decide) (fun G => w_loadN (cs := [_, _, _, _, _, _, _, _, _]) rfl (lkF hF) rfl rfl rfl rfl) ?_
  refine aq02 2 rfl (by decide +kernel) (by decide) (fun _ => V2.callT (inst_Free i _ hw) rfl rfl) ?_
  refine aqp2 3 rfl (by decide +kernel) (by decide) (fun G => V2.callv (stat_Of_1 i (ifree i) _ _ hw (by omega) hg s1 (lk rfl rfl)) rfl rfl) ?_
  first | refine aq0 4 rfl (by decide +kernel) (by decide) (fun _ => o_move (v := .fn _ _ _) rfl) ?_ | refine aq0 4 rfl (by decide +kernel) (by decide) (fun _ => o_move (v := .nfn) rfl) ?_
  refine Zbl ?_
  refine aqp2 6 rfl (by decide +kernel) (by decide) (fun G => V2.callv (stat_Of_1 i (heldBusy i.table i.now (plus i.now 1)) _ _ hw (by omega) hg s2 (lk rfl rfl)) rfl rfl) ?_
  first | refine aq0 7 rfl (by decide +kernel) (by decide) (fun _ => o_move (v := .fn _ _ _) rfl) ?_ | refine aq0 7 rfl (by decide +kernel) (by decide) (fun _ => o_move (v := .nfn) rfl) ?_
  first | refine aq0 8 rfl (by decide +kernel) (by decide) (fun _ => o_move (v := .sl _ _ _ _ _) rfl) ?_ | refine aq0 8 rfl (by decide +kernel) (by decide) (fun _ => o_move (v := .pl _) rfl) ?_ | refine aq0 8 rfl (by decide +kernel) (by decide) (fun _ => o_move (v := .nsl) rfl) ?_
  first | refine aq0 9 rfl (by decide +kernel) (by decide) (fun _ => o_move (v := .sl _ _ _ _ _) rfl) ?_ | refine aq0 9 rfl (by decide +kernel) (by decide) (fun _ => o_move (v := .pl _) rfl) ?_ | refine aq0 9 rfl (by decide +kernel) (by decide) (fun _ => o_move (v := .nsl) rfl) ?_
  refine aq02 10 rfl (by decide +kernel) (by decide) (fun _ => V2.callT (set_Less (sless i.lease (hbelow i.graph i.health 0)) (heldBusy i.table i.now (plus i.now 1)) (by omega) (by omega) _) rfl rfl) ?_
  refine aqp2 11 rfl (by decide +kernel) (by decide) (fun G => V2.callv (stat_Of_1 i (sless (sless i.lease (hbelow i.graph i.health 0)) (heldBusy i.table i.now (plus i.now 1))) _ _ hw (by omega) hg (sok_setop _ _ _) (lk rfl rfl)) rfl rfl) ?_
  refine Zb5 ?_
  first | refine aqp 13 rfl (by decide +kernel) (by decide) (fun G => w_load1 (v := .sl _ _ _ _ _) rfl (lk rfl rfl) rfl rfl rfl) ?_ | refine aqp 13 rfl (by decide +kernel) (by decide) (fun G => w_load1 (v := .pl _) rfl (lk rfl rfl) rfl rfl rfl) ?_ | refine aqp 13 rfl (by decide +kernel) (by decide) (fun G => w_load1 (v := .nsl) rfl (lk rfl rfl) rfl rfl rfl) ?_ | refine aqp 13 rfl (by decide +kernel) (by decide) (fun G => w_load1 (v := .sl _ _ _ _ _) rfl (lk rfl rfl) rfl (zadd hr) rfl) ?_ | refine aqp 13 rfl (by decide +kernel) (by decide) (fun G => w_load1 (v := .sl _ _ _ _ _) rfl (lk rfl rfl) rfl (zadd hr1) rfl) ?_ | refine aqp 13 rfl (by decide +kernel) (by decide) (fun G => w_load1 (v := .sl _ _ _ _ _) rfl (lk rfl rfl) rfl (zadd hr2) rfl) ?_ | refine aqp 13 rfl (by decide +kernel) (by decide) (fun G => w_load1 (v := .pl _) rfl (lk rfl rfl) rfl (zadd hr) rfl) ?_ | refine aqp 13 rfl (by decide +kernel) (by decide) (fun G => w_load1 (v := .pl _) rfl (lk rfl rfl) rfl (zadd hr1) rfl) ?_ | refine aqp 13 rfl (by decide +kernel) (by decide) (fun G => w_load1 (v := .pl _) rfl (lk rfl rfl) rfl (zadd hr2) rfl) ?_ | refine aqp 13 rfl (by decide +kernel) (by decide) (fun G => w_load1 (v := .nsl) rfl (lk rfl rfl) rfl (zadd hr) rfl) ?_ | refine aqp 13 rfl (by decide +kernel) (by decide) (fun G => w_load1 (v := .nsl) rfl (lk rfl rfl) rfl (zadd hr1) rfl) ?_ | refine aqp 13 rfl (by decide +kernel) (by decide) (fun G => w_load1 (v := .nsl) rfl (lk rfl rfl) rfl (zadd hr2) rfl) ?_ | refine aqp 13 rfl (by decide +kernel) (by decide) (fun G => o_load1p (v := .sl _ _ _ _ _) rfl hr rfl) ?_ | refine aqp 13 rfl (by decide +kernel) (by decide) (fun G => o_load1p (v := .sl _ _ _ _ _) rfl hr1 rfl) ?_ | refine aqp 13 rfl (by decide +kernel) (by decide) (fun G => o_load1p (v := .sl _ _ _ _ _) rfl hr2 rfl) ?_ | refine aqp 13 rfl (by decide +kernel) (by decide) (fun G => o_load1p (v := .pl _) rfl hr rfl) ?_ | refine aqp 13 rfl (by decide +kernel) (by decide) (fun G => o_load1p (v := .pl _) rfl hr1 rfl) ?_ | refine aqp 13 rfl (by decide +kernel) (by decide) (fun G => o_load1p (v := .pl _) rfl hr2 rfl) ?_ | refine aqp 13 rfl (by decide +kernel) (by decide) (fun G => o_load1p (v := .nsl) rfl hr rfl) ?_ | refine aqp 13 rfl (by decide +kernel) (by decide) (fun G => o_load1p (v := .nsl) rfl hr1 rfl) ?_ | refine aqp 13 rfl (by decide +kernel) (by decide) (fun G => o_load1p (v := .nsl) rfl hr2 rfl) ?_ | refine aqp 13 rfl (by decide +kernel) (by decide) (fun G => w_load1 (v := .sl _ _ _ _ _) rfl (lkF hF) rfl rfl rfl) ?_ | refine aqp 13 rfl (by decide +kernel) (by decide) (fun G => w_load1 (v := .pl _) rfl (lkF hF) rfl rfl rfl) ?_ | refine aqp 13 rfl (by decide +kernel) (by decide) (fun G => w_load1 (v := .nsl) rfl (lkF hF) rfl rfl rfl) ?_
  refine aq02 14 rfl (by decide +kernel) (by decide) (fun _ => V2.call (cj _) rfl) ?_
  refine aq0 15 rfl (by decide +kernel) (by decide) (fun _ => V1.up (o_build (cs := eStat (statS i.graph (ifree i) (ibusy i) (sless (sless i.lease (hbelow i.graph i.health 0)) (ibusy i)) i.jobs)) rfl)) ?_
  refine aqs 16 rfl (by decide +kernel) (by first | exact fun _ => trivial | exact fun _ => ⟨_, rfl⟩ | exact fun _ => ⟨_, rfl, rfl⟩ | exact fun _ => ⟨_, rfl, rfl, rfl⟩ | exact yet_done (by decide +kernel)) (by rintro _ ⟨⟩) (w_storeW (sz := 27) rfl rfl rfl rfl rfl rfl rfl rfl (Nat.le_of_ble_eq_true rfl)) ?_
  refine Z1d ?_
  refine Z1 ?_
  exact Z6l
end Go.Av

namespace Go.Av
open Go.Proofs
set_option maxRecDepth 10000
set_option linter.unusedSimpArgs false
set_option linter.unusedVariables false

def uL (l : List Int) : List Value := l.map fun i => .int .i64 i
theorem uL_flat (l : List Int) : (l.map (AV.int .i64)).map flatv = (uL l).map some := by simp [uL, flatv]
theorem eqK5_run (a0 a1 a2 a3 a4 b0 b1 b2 b3 b4 : Int) (d : Nat) (w : World) : (Op.equalIn (d + 2) 30 (.agg #[.int .i64 a0, .int .i64 a1, .int .i64 a2, .int .i64 a3, .int .i64 a4]) (.agg #[.int .i64 b0, .int .i64 b1, .int .i64 b2, .int .i64 b3, .int .i64 b4])).run Tryd.prog w = .ok (decide ([a0, a1, a2, a3, a4] = [b0, b1, b2, b3, b4])) w := by
  have hu : Tryd.prog.underlying 30 = some (.array 5 3) := by kernel_rfl
  have hs : (Tryd.prog.info? 3).isSome = true := by kernel_rfl
  obtain ⟨i, hi⟩ := Option.isSome_iff_exists.1 hs
  have hc : Tryd.prog.cellsOf 3 = 1 := by kernel_rfl
  rw [show d + 2 = (d + 1) + 1 from rfl, run_equalIn_array w (d + 1) _ _ hu hi]
  have u3 := Tryd.underlying3
  have a3' := Tryd.isAgg3
  have z3 := Tryd.sizeOf3
  simp only [show List.range 5 = [0, 1, 2, 3, 4] from rfl, Op.eqItems, hc]
  go_simp
  (repeat' split) <;> simp_all
theorem eqK7_run (a0 a1 a2 a3 a4 a5 a6 b0 b1 b2 b3 b4 b5 b6 : Int) (d : Nat) (w : World) : (Op.equalIn (d + 2) 31 (.agg #[.int .i64 a0, .int .i64 a1, .int .i64 a2, .int .i64 a3, .int .i64 a4, .int .i64 a5, .int .i64 a6]) (.agg #[.int .i64 b0, .int .i64 b1, .int .i64 b2, .int .i64 b3, .int .i64 b4, .int .i64 b5, .int .i64 b6])).run Tryd.prog w = .ok (decide ([a0, a1, a2, a3, a4, a5, a6] = [b0, b1, b2, b3, b4, b5, b6])) w := by
  have hu : Tryd.prog.underlying 31 = some (.array 7 3) := by kernel_rfl
  have hs : (Tryd.prog.info? 3).isSome = true := by kernel_rfl
  obtain ⟨i, hi⟩ := Option.isSome_iff_exists.1 hs
  have hc : Tryd.prog.cellsOf 3 = 1 := by kernel_rfl
  rw [show d + 2 = (d + 1) + 1 from rfl, run_equalIn_array w (d + 1) _ _ hu hi]
  have u3 := Tryd.underlying3
  have a3' := Tryd.isAgg3
  have z3 := Tryd.sizeOf3
  simp only [show List.range 7 = [0, 1, 2, 3, 4, 5, 6] from rfl, Op.eqItems, hc]
  go_simp
  (repeat' split) <;> simp_all
def uK5 (f : Nat → Int) : List Value := [.int .i64 (f 0), .int .i64 (f 1), .int .i64 (f 2), .int .i64 (f 3), .int .i64 (f 4)]
def uStat (f : Nat → Int) : List Value := [.int .i64 (f 0), .int .i64 (f 1), .int .i64 (f 2), .int .i64 (f 3), .int .i64 (f 4), .int .i64 (f 5), .int .i64 (f 6), .int .i64 (f 7), .int .i64 (f 8), .int .i64 (f 9), .int .i64 (f 10), .int .i64 (f 11), .int .i64 (f 12), .int .i64 (f 13), .int .i64 (f 14), .int .i64 (f 15), .int .i64 (f 16), .int .i64 (f 17), .int .i64 (f 18), .int .i64 (f 19), .int .i64 (f 20), .int .i64 (f 21), .int .i64 (f 22), .int .i64 (f 23), .int .i64 (f 24), .int .i64 (f 25), .int .i64 (f 26)]
def sL (f : Nat → Int) : List Int := [f 0, f 1, f 2, f 3, f 4, f 5, f 6, f 7, f 8, f 9, f 10, f 11, f 12, f 13, f 14, f 15, f 16, f 17, f 18, f 19, f 20, f 21, f 22, f 23, f 24, f 25, f 26]
theorem eqStat_run (f h : Nat → Int) (w : World) : (Op.equalIn 10000 33 (.agg (uStat f).toArray) (.agg (uStat h).toArray)).run Tryd.prog w = .ok (decide (sL f = sL h)) w := by
  have hS : Tryd.prog.underlying 33 = some (.struct (Tryd.prog.fieldsOf 33)) := by kernel_rfl
  have hp : Tryd.prog.stoodInHeld 33 = false := by kernel_rfl
  rw [show (10000 : Nat) = 9999 + 1 from rfl, run_equalIn_agg w 9999 33 _ _ hS hp]
  have u3 := Tryd.underlying30
  have a3 := Tryd.isAgg30
  have z3 := Tryd.sizeOf30
  have u4 := Tryd.underlying31
  have a4 := Tryd.isAgg31
  have z4 := Tryd.sizeOf31
  simp only [uStat, Program.fieldsOf, Tryd.underlying33]
  go_simp
  have e5 := fun (a0 a1 a2 a3 a4 b0 b1 b2 b3 b4 : Int) (w : World) => eqK5_run a0 a1 a2 a3 a4 b0 b1 b2 b3 b4 9997 w
  have e7 := fun (a0 a1 a2 a3 a4 a5 a6 b0 b1 b2 b3 b4 b5 b6 : Int) (w : World) => eqK7_run a0 a1 a2 a3 a4 a5 a6 b0 b1 b2 b3 b4 b5 b6 9997 w
  rw [show decide (sL f = sL h) = (decide ([f 0, f 1, f 2, f 3, f 4] = [h 0, h 1, h 2, h 3, h 4]) && (decide ([f 5, f 6, f 7, f 8, f 9] = [h 5, h 6, h 7, h 8, h 9]) && (decide ([f 10, f 11, f 12, f 13, f 14] = [h 10, h 11, h 12, h 13, h 14]) && (decide ([f 15, f 16, f 17, f 18, f 19] = [h 15, h 16, h 17, h 18, h 19]) && decide ([f 20, f 21, f 22, f 23, f 24, f 25, f 26] = [h 20, h 21, h 22, h 23, h 24, h 25, h 26]))))) by rw [Bool.eq_iff_iff]; simp [sL, and_assoc]]
  simp only [Nat.reduceAdd] at e5 e7
  simp only [e5, e7, Result.andThen_ok]
  generalize decide ([f 0, f 1, f 2, f 3, f 4] = [h 0, h 1, h 2, h 3, h 4]) = c1
  generalize decide ([f 5, f 6, f 7, f 8, f 9] = [h 5, h 6, h 7, h 8, h 9]) = c2
  generalize decide ([f 10, f 11, f 12, f 13, f 14] = [h 10, h 11, h 12, h 13, h 14]) = c3
  generalize decide ([f 15, f 16, f 17, f 18, f 19] = [h 15, h 16, h 17, h 18, h 19]) = c4
  generalize decide ([f 20, f 21, f 22, f 23, f 24, f 25, f 26] = [h 20, h 21, h 22, h 23, h 24, h 25, h 26]) = c5
  cases c1 <;> cases c2 <;> cases c3 <;> cases c4 <;> cases c5 <;> rfl
theorem stat_flat (f : Nat → Int) : (eStat f).map flatv = (uStat f).map some := rfl
theorem K5_flat (f : Nat → Int) : (eK5 f).map flatv = (uK5 f).map some := rfl
theorem eqK5_runF (f h : Nat → Int) (w : World) : (Op.equalIn 10000 30 (.agg (uK5 f).toArray) (.agg (uK5 h).toArray)).run Tryd.prog w = .ok (decide ([f 0, f 1, f 2, f 3, f 4] = [h 0, h 1, h 2, h 3, h 4])) w := eqK5_run _ _ _ _ _ _ _ _ _ _ 9998 w
end Go.Av

/-
  THE LAWS OF COUNTS, plainly, on no program.
-/
namespace Go.Av
set_option linter.unusedVariables false
set_option linter.unusedSimpArgs false

/-! ### counts are put together -/
theorem splus_none2 (f : Nat → Int) (j : Nat) : splus (splus f snone) snone j = splus f snone j := by simp only [splus, snear, snone]; omega
theorem splus_assoc (f g h : Nat → Int) (j : Nat) : splus (splus f g) h j = splus f (splus g h) j := by simp only [splus, snear]; omega
def sp (x y z : Int) : Nat → Int := fun j => if j = 0 then x else if j = 1 then y else if j = 20 then z else 0
def sq (x y z : Int) : Nat → Int := fun j => if j = 5 then y else if j = 6 then z else if j = 15 then x else if j = 21 then x else 0
theorem snear_id {n : Int} (h0 : 0 ≤ n) (h1 : n ≤ 65535) : snear n = n := by simp only [snear]; omega
theorem sp_in {x y z : Int} (hx : 0 ≤ x ∧ x ≤ 65535) (hy : 0 ≤ y ∧ y ≤ 65535) (hz : 0 ≤ z ∧ z ≤ 65535) (j : Nat) : 0 ≤ sp x y z j ∧ sp x y z j ≤ 65535 := by
  unfold sp; (repeat' split) <;> omega
theorem sq_in {x y z : Int} (hx : 0 ≤ x ∧ x ≤ 65535) (hy : 0 ≤ y ∧ y ≤ 65535) (hz : 0 ≤ z ∧ z ≤ 65535) (j : Nat) : 0 ≤ sq x y z j ∧ sq x y z j ≤ 65535 := by
  unfold sq; (repeat' split) <;> omega
theorem splus_small {f h : Nat → Int} {j : Nat} (hf : 0 ≤ f j ∧ f j ≤ 65535) (hh : 0 ≤ h j ∧ h j ≤ 65535) : splus f h j = f j + h j := by simp only [splus, snear]; omega
theorem sp_none {x y z : Int} (hx : 0 ≤ x ∧ x ≤ 65535) (hy : 0 ≤ y ∧ y ≤ 65535) (hz : 0 ≤ z ∧ z ≤ 65535) (j : Nat) : splus (sp x y z) snone j = sp x y z j := by
  rw [splus_small (sp_in hx hy hz j) ⟨by show (0 : Int) ≤ 0; decide, by show (0 : Int) ≤ 65535; decide⟩]; simp [snone]
theorem skinds_small {f : Nat → Int} {k : Nat} (h : ∀ j, 0 ≤ f j ∧ f j ≤ 1000000) : skinds f k = f k + f (5 + k) + f (10 + k) + f (15 + k) := by
  have h1 := h k
  have h2 := h (5 + k)
  have h3 := h (10 + k)
  have h4 := h (15 + k)
  unfold skinds
  rw [wrap64_ok (n := f k + f (5 + k)) (by omega) (by omega), wrap64_ok (n := f k + f (5 + k) + f (10 + k)) (by omega) (by omega), wrap64_ok (by omega) (by omega)]
theorem sjobs_small {f : Nat → Int} (h : ∀ j, 0 ≤ f j ∧ f j ≤ 1000000) : sjobs f = f 20 + f 21 + f 22 + f 23 + f 24 + f 25 + f 26 := by
  have h0 := h 20
  have h1 := h 21
  have h2 := h 22
  have h3 := h 23
  have h4 := h 24
  have h5 := h 25
  have h6 := h 26
  simp only [sjobs, sjobsL, Nat.reduceAdd]
  rw [wrap64_ok (n := 0 + f 20) (by omega) (by omega), wrap64_ok (n := 0 + f 20 + f 21) (by omega) (by omega), wrap64_ok (n := 0 + f 20 + f 21 + f 22) (by omega) (by omega), wrap64_ok (n := 0 + f 20 + f 21 + f 22 + f 23) (by omega) (by omega), wrap64_ok (n := 0 + f 20 + f 21 + f 22 + f 23 + f 24) (by omega) (by omega), wrap64_ok (n := 0 + f 20 + f 21 + f 22 + f 23 + f 24 + f 25) (by omega) (by omega), wrap64_ok (by omega) (by omega)]
  omega
theorem sums_jobs {x y z : Int} (hx : 0 ≤ x ∧ x ≤ 65535) (hy : 0 ≤ y ∧ y ≤ 65535) (hz : 0 ≤ z ∧ z ≤ 65535) : sjobs (splus (sp x y z) (sq x y z)) = sjobs (sp x y z) + sjobs (sq x y z) := by
  have hp := sp_in hx hy hz
  have hq := sq_in hx hy hz
  rw [sjobs_small (f := sp x y z) (fun j => ⟨(hp j).1, by have := (hp j).2; omega⟩), sjobs_small (f := sq x y z) (fun j => ⟨(hq j).1, by have := (hq j).2; omega⟩), sjobs_small (f := splus _ _) (fun j => by have h1 := hp j; have h2 := hq j; rw [splus_small h1 h2]; omega)]
  simp only [splus_small (hp _) (hq _)]
  omega
theorem sums_kinds {x y z : Int} (hx : 0 ≤ x ∧ x ≤ 65535) (hy : 0 ≤ y ∧ y ≤ 65535) (hz : 0 ≤ z ∧ z ≤ 65535) (k : Nat) : skinds (splus (sp x y z) (sq x y z)) k = skinds (sp x y z) k + skinds (sq x y z) k := by
  have hp := sp_in hx hy hz
  have hq := sq_in hx hy hz
  rw [skinds_small (f := sp x y z) (fun j => ⟨(hp j).1, by have := (hp j).2; omega⟩), skinds_small (f := sq x y z) (fun j => ⟨(hq j).1, by have := (hq j).2; omega⟩), skinds_small (f := splus _ _) (fun j => by have h1 := hp j; have h2 := hq j; rw [splus_small h1 h2]; omega)]
  simp only [splus_small (hp _) (hq _)]
  omega

/-! ### each thing of a lease is counted once -/
def cn (p : Nat → Bool) : Nat := (List.range 256).countP p
theorem countP_add (a b c u : Nat → Bool) : ∀ l : List Nat, (∀ n ∈ l, (if a n then 1 else 0) + (if b n then 1 else 0) + (if c n then 1 else 0) = if u n then (1 : Nat) else 0) → l.countP a + l.countP b + l.countP c = l.countP u
  | [], _ => rfl
  | x :: l, h => by
    have h1 := h x List.mem_cons_self
    have h2 := countP_add a b c u l fun n hn => h n (List.mem_cons_of_mem _ hn)
    simp only [List.countP_cons]
    omega
theorem kcnt_set {g : List Thing} {l : List Int} (h : sok l = true) (c : Int) : kcnt g l c = (cn fun n => inl l n && kin g c (n : Int) : Nat) := by
  have e : l = setl (inl l) := sok_ext h (sok_setl _) fun n => by
    rw [inl_setl]
    cases hn : inl l n with
    | false => simp
    | true => simp [inl_256 h hn]
  rw [kcnt_kin, cn]
  conv => lhs; rw [e]
  rw [setl, List.filter_map, List.length_map, List.filter_filter, ← List.countP_eq_length_filter]
  congr 1
  refine List.countP_congr fun n _ => ?_
  simp [Function.comp, Bool.and_comm]
theorem nd_sub {α : Type} [DecidableEq α] : ∀ (R T : List α), R.Nodup → (∀ x ∈ R, x ∈ T) → T.length ≤ R.length → ∀ y ∈ T, y ∈ R
  | [], T, _, _, hl, y, hy => by
    cases T with
    | nil => cases hy
    | cons a t => simp at hl
  | x :: R, T, hnd, hs, hl, y, hy => by
    have hx := hs x List.mem_cons_self
    rw [List.nodup_cons] at hnd
    by_cases e : y = x
    · rw [e]; exact List.mem_cons_self
    · refine List.mem_cons_of_mem _ (nd_sub R (T.erase x) hnd.2 (fun z hz => ?_) ?_ y ((List.mem_erase_of_ne e).2 hy))
      · have hzx : z ≠ x := fun h => hnd.1 (h ▸ hz)
        exact (List.mem_erase_of_ne hzx).2 (hs z (List.mem_cons_of_mem _ hz))
      · have := List.length_erase_of_mem hx
        simp only [List.length_cons] at hl
        omega
/-- What is held is held by a job that runs now. -/
theorem table_now {i : Inst} (h : iright i = true) : ∀ x ∈ i.table, ∃ j ∈ i.jobs, j.state = 2 ∧ j.id = x.id ∧ x.frm = j.frm ∧ x.frm ≤ i.now ∧ i.now < x.to ∧ x.to = sEnds j.spec j.frm ∧ ithings i.graph x.things = true := by
  have ht := iright_table h
  have hj := iright_jobs h
  have htold : itold i = true := by simp only [iright, Bool.and_eq_true] at h; exact h.2
  rw [itold, Bool.and_eq_true, decide_eq_true_eq] at htold
  obtain ⟨hall, hlen⟩ := htold
  have hrun : ∀ j ∈ i.jobs, j.state = 2 → ∃ x ∈ i.table, x.id = j.id ∧ x.frm = j.frm ∧ x.frm ≤ i.now ∧ i.now < x.to ∧ x.to = sEnds j.spec j.frm ∧ ithings i.graph x.things = true := by
    intro j hjm hst
    obtain ⟨k, hk⟩ := List.mem_iff_getElem?.1 hjm
    have hb := allI_get hall (List.getElem?_eq_some_iff.1 hk).1
    rw [itoldB_get hk] at hb
    simp only [Bool.and_eq_true, Bool.or_eq_true, decide_eq_true_eq, hst, ne_eq, not_true_eq_false, false_or] at hb
    obtain ⟨⟨h1, h2⟩, ⟨⟨⟨⟨h3, h4⟩, h5⟩, h6⟩, h7⟩⟩ := hb
    have hget : ∃ x ∈ i.table, x.id = j.id := by
      unfold heldGet at h3
      split at h3
      · rename_i hh
        rw [Bool.and_eq_true] at hh
        exact (heldHit_iff (held_iff.1 ht).2.2.1).1 hh.2
      · cases h3
    obtain ⟨x, hx, hid⟩ := hget
    have he := heldGet_eq ht hx
    rw [hid] at he
    rw [he] at h4 h5 h6 h7
    exact ⟨x, hx, hid, h4, by simp only at h4; omega, h6, h5, h7⟩
  intro x hx
  have hp := (held_iff.1 ht).2.2.1
  have hpj := jobsR_sorted hj
  have hsub := nd_sub ((i.jobs.filter fun j => decide (j.state = 2)).map (·.id)) (i.table.map (·.id)) ?_ ?_ ?_ x.id (List.mem_map.2 ⟨x, hx, rfl⟩)
  · obtain ⟨j, hjm, hid⟩ := List.mem_map.1 hsub
    rw [List.mem_filter, decide_eq_true_eq] at hjm
    obtain ⟨y, hy, hyid, r⟩ := hrun j hjm.1 hjm.2
    have : y = x := key_inj (f := Held.id) hp hy hx (by rw [hyid, hid])
    subst this
    exact ⟨j, hjm.1, hjm.2, hid, r⟩
  · exact (keys_sorted (f := Job.id) (hpj.sublist (List.filter_sublist))).imp fun h => by omega
  · intro n hn
    obtain ⟨j, hjm, rfl⟩ := List.mem_map.1 hn
    rw [List.mem_filter, decide_eq_true_eq] at hjm
    obtain ⟨y, hy, hyid, r⟩ := hrun j hjm.1 hjm.2
    exact List.mem_map.2 ⟨y, hy, hyid⟩
  · rw [List.length_map, List.length_map, hlen]; exact Nat.le_refl _
theorem tm_iff {t : Int} : tm t = true ↔ 0 ≤ t ∧ t ≤ 4611686018427387904 := by simp [tm]
theorem busyL_congr {a b a' b' : Int} : ∀ (l : List Held), (∀ h ∈ l, meets h.frm h.to a b = meets h.frm h.to a' b') → busyL l a b = busyL l a' b' := by
  intro l h
  unfold busyL
  generalize ([] : List Int) = out
  induction l generalizing out with
  | nil => rfl
  | cons x l ih =>
    rw [List.foldl_cons, List.foldl_cons, h x List.mem_cons_self]
    exact ih (fun y hy => h y (List.mem_cons_of_mem _ hy)) _
theorem busy_now {i : Inst} (h : iright i = true) : ibusy i = heldBusy i.table i.now 4611686018427387904 := by
  have ht := iright_table h
  rw [ibusy, heldBusy, heldBusy, ht, if_pos rfl, if_pos rfl]
  refine busyL_congr _ fun x hx => ?_
  obtain ⟨j, _, _, _, _, h1, h2, _⟩ := table_now h x hx
  have hm := (held_iff.1 ht).2.1 x hx
  simp only [hmay, Bool.and_eq_true, tm_iff, decide_eq_true_eq] at hm
  have hn : 0 ≤ i.now ∧ i.now ≤ 4611686018427387904 := by simp only [iright, Bool.and_eq_true, tm_iff] at h; exact h.1.1.1.1.2
  rw [meets, meets, decide_eq_true (by simp only [plus, near]; omega), decide_eq_true (by omega)]
theorem ithings_ok {g : List Thing} {l : List Int} (h : ithings g l = true) : sok l = true := by rw [ithings, Bool.and_eq_true] at h; exact h.1
theorem iright_lease {i : Inst} (h : iright i = true) : sok i.lease = true := by
  simp only [iright, Bool.and_eq_true] at h; exact ithings_ok h.1.1.1.1.1.1.2
theorem hbelow_sok (g : List Thing) (h : List Int) (m : Int) : sok (hbelow g h m) = true := by
  rw [hbelow]
  split
  · rename_i hh
    exact idx_sok _ (gright_len (hright_parts hh).1).2
  · rfl
theorem istat_small {i : Inst} (h : iright i = true) : ∀ j, 0 ≤ istat i j ∧ istat i j ≤ 1000000 := by
  have hs : istat i = statS i.graph (ifree i) (ibusy i) (sless (sless i.lease (hbelow i.graph i.health 0)) (ibusy i)) i.jobs := by rw [istat, if_pos h]
  intro j
  rw [hs]
  have k1 := fun c => kcnt_le i.graph (ifree i) c
  have k2 := fun c => kcnt_le i.graph (ibusy i) c
  have k3 := fun c => kcnt_le i.graph (sless (sless i.lease (hbelow i.graph i.health 0)) (ibusy i)) c
  have n1 := ifree_le i
  have n2 := heldBusy_le i.table i.now (plus i.now 1)
  have n3 : (sless (sless i.lease (hbelow i.graph i.health 0)) (ibusy i)).length ≤ 256 := setop_len _ _ _
  have k4 := fun c => stcnt_le i.jobs c
  have n4 := (jobs_iff.1 (iright_jobs h)).1
  unfold statS kfun sfun
  have n2' : (ibusy i).length ≤ 256 := n2
  split
  · have := k1 (j : Int); omega
  · split
    · have := k2 ((j - 5 : Nat) : Int); omega
    · split
      · have := k3 ((j - 10 : Nat) : Int); omega
      · split
        · omega
        · have := k4 ((j - 20 : Nat) : Int); omega
theorem lease_kinds {i : Inst} (h : iright i = true) (k : Nat) (hk : k < 5) : skinds (istat i) k = kfun i.graph (sjoin i.lease (heldBusy i.table i.now 4611686018427387904)) k := by
  have sl := iright_lease h
  have sg := hbelow_sok i.graph i.health 0
  have sb : sok (ibusy i) = true := sok_heldBusy _ _ _
  have hs : istat i = statS i.graph (ifree i) (ibusy i) (sless (sless i.lease (hbelow i.graph i.health 0)) (ibusy i)) i.jobs := by rw [istat, if_pos h]
  have hfree : ifree i = sless (smeet i.lease (hbelow i.graph i.health 0)) (ibusy i) := by rw [ifree, h]; rfl
  have small := istat_small h
  rw [skinds_small small, hs]
  have e1 : statS i.graph (ifree i) (ibusy i) (sless (sless i.lease (hbelow i.graph i.health 0)) (ibusy i)) i.jobs k = kfun i.graph (ifree i) k := by rw [statS, if_pos hk]
  have e2 : statS i.graph (ifree i) (ibusy i) (sless (sless i.lease (hbelow i.graph i.health 0)) (ibusy i)) i.jobs (5 + k) = kfun i.graph (ibusy i) k := by rw [statS, if_neg (by omega), if_pos (by omega), Nat.add_sub_cancel_left]
  have e3 : statS i.graph (ifree i) (ibusy i) (sless (sless i.lease (hbelow i.graph i.health 0)) (ibusy i)) i.jobs (10 + k) = kfun i.graph (sless (sless i.lease (hbelow i.graph i.health 0)) (ibusy i)) k := by rw [statS, if_neg (by omega), if_neg (by omega), if_pos (by omega), Nat.add_sub_cancel_left]
  have e4 : statS i.graph (ifree i) (ibusy i) (sless (sless i.lease (hbelow i.graph i.health 0)) (ibusy i)) i.jobs (15 + k) = 0 := by rw [statS, if_neg (by omega), if_neg (by omega), if_neg (by omega), if_pos (by omega)]
  rw [e1, e2, e3, e4, ← busy_now h, Int.add_zero, hfree]
  unfold kfun
  rw [kcnt_set (sok_setop _ _ _), kcnt_set sb, kcnt_set (sok_setop _ _ _), kcnt_set (sok_setop _ _ _)]
  rw [← Int.natCast_add, ← Int.natCast_add]
  congr 1
  refine countP_add _ _ _ _ _ fun n _ => ?_
  rw [in_less (sok_setop _ _ _) sb, in_meet sl sg, in_less (sok_setop _ _ _) sb, in_less sl sg, in_join sl sb]
  cases inl i.lease n <;> cases inl (hbelow i.graph i.health 0) n <;> cases inl (ibusy i) n <;> cases kin i.graph (k : Int) (n : Int) <;> rfl
theorem states_sum : ∀ l : List Job, (∀ j ∈ l, 0 ≤ j.state ∧ j.state ≤ 6) → stcnt l 0 + stcnt l 1 + stcnt l 2 + stcnt l 3 + stcnt l 4 + stcnt l 5 + stcnt l 6 = (l.length : Int)
  | [], _ => rfl
  | j :: l, h => by
    have h1 := h j List.mem_cons_self
    have h2 := states_sum l fun x hx => h x (List.mem_cons_of_mem _ hx)
    have hc : ∀ c : Int, stcnt (j :: l) c = stcnt l c + if j.state = c then 1 else 0 := by
      intro c
      rw [stcnt, stcnt, List.filter_cons]
      by_cases e : j.state = c <;> simp [e]
    simp only [hc, List.length_cons]
    have : j.state = 0 ∨ j.state = 1 ∨ j.state = 2 ∨ j.state = 3 ∨ j.state = 4 ∨ j.state = 5 ∨ j.state = 6 := by omega
    rcases this with e | e | e | e | e | e | e <;> rw [e] <;> simp <;> omega
theorem lease_jobs {i : Inst} (h : iright i = true) : sjobs (istat i) = (i.jobs.length : Int) := by
  have hj := iright_jobs h
  rw [sjobs_small (istat_small h), istat, if_pos h]
  have e : ∀ c : Nat, statS i.graph (ifree i) (ibusy i) (sless (sless i.lease (hbelow i.graph i.health 0)) (ibusy i)) i.jobs (20 + c) = stcnt i.jobs (c : Int) := by
    intro c
    rw [statS, if_neg (by omega), if_neg (by omega), if_neg (by omega), if_neg (by omega), Nat.add_sub_cancel_left]; rfl
  rw [show statS _ _ _ _ i.jobs 20 = _ from e 0, show statS _ _ _ _ i.jobs 21 = _ from e 1, show statS _ _ _ _ i.jobs 22 = _ from e 2, show statS _ _ _ _ i.jobs 23 = _ from e 3, show statS _ _ _ _ i.jobs 24 = _ from e 4, show statS _ _ _ _ i.jobs 25 = _ from e 5, show statS _ _ _ _ i.jobs 26 = _ from e 6]
  exact states_sum i.jobs fun j hjm => jright_state ((jobs_iff.1 hj).2.1 j hjm)
theorem lease_away {i : Inst} (h : iright i = true) (k : Nat) (hk : k < 5) : istat i (15 + k) = 0 := by
  rw [istat, if_pos h, statS, if_neg (by omega), if_neg (by omega), if_neg (by omega), if_pos (by omega)]
end Go.Av

namespace Go.Av
open Go.Proofs
set_option maxRecDepth 10000
set_option linter.unusedSimpArgs false
set_option linter.unusedVariables false

def shortJ (l : List Job) : Bool := decide (l.length ≤ 14) && allI (fun k => decide ((jobAt l k).needs.length ≤ 20)) l.length
def shortH (l : List Held) : Bool := decide (l.length ≤ 30) && allI (fun k => decide ((heldAt l k).things.length ≤ 60)) l.length
def shortI (i : Inst) : Bool := decide (i.graph.length ≤ 40) && decide (i.health.length ≤ 60) && decide (i.lease.length ≤ 60) && shortJ i.jobs && shortH i.table
theorem shortI_ok {i : Inst} (h : shortI i = true) : IW i := by
  simp only [shortI, shortJ, shortH, Bool.and_eq_true, decide_eq_true_eq] at h
  refine ⟨by omega, by omega, by omega, by omega, by omega, fun x hx => ?_⟩
  obtain ⟨k, hk⟩ := List.mem_iff_getElem?.1 hx
  have := allI_get h.2.2 (List.getElem?_eq_some_iff.1 hk).1
  rw [heldAt_get hk, decide_eq_true_eq] at this
  omega
theorem ref12_Short (l : List Job) (H : Heap) : AC Tryd.prog 16 [.pl (l.map eJob)] H (Ret (.bool (shortJ l)) H) := by
  refine AC.body (N := 20) [.tmp 2] Tryd.func16 rfl rfl rfl (Nat.le_of_ble_eq_true rfl) fun B hB => ?_
  refine Z3u ?_
  refine Z2x ?_
  refine aw_cond rfl (fun hc => ?_) (fun hc => ?_)
  · have h14 : ¬ l.length ≤ 14 := by simp at hc; omega
    refine Zh ?_
    rw [show shortJ l = false by rw [shortJ, decide_eq_false h14, Bool.false_and]]
    exact Zd
  have h14 : l.length ≤ 14 := by simp at hc; omega
  rw [show shortJ l = allI (fun k => decide ((jobAt l k).needs.length ≤ 20)) l.length by rw [shortJ, decide_eq_true h14, Bool.true_and]]
  refine Z1i ?_
  refine Z16 ?_
  refine aw_loop (G := Nat) (fun k => k ≤ l.length ∧ ∀ m, m < k → decide ((jobAt l m).needs.length ≤ 20) = true) (fun k => [(0, .pl (l.map eJob)), (3, .int .i64 (k : Int))]) (fun _ => H ++ []) (fun k => l.length - k) 0 ⟨Nat.zero_le _, fun m hm => by omega⟩ (by repeat (first | exact Sub.nil | refine Sub.cons (by first | rfl | (simp [get]; done)) ?_)) (Fit.refl _ _) ?_
  rintro k ⟨hk, hno⟩
  refine Zy ?_
  refine Z2s ?_
  refine Z14 ?_
  refine Z17 ?_
  refine aw_cond rfl (fun hc => ?_) (fun hc => ?_)
  · have hlt : k < l.length := by simpa using hc
    obtain ⟨x, hx, hxl⟩ := get_in hlt
    have hr := map_get eJob hx
    have hat := jobAt_get hx
    refine Z4j ?_
    refine Z31 ?_
    refine Z2w ?_
    refine Z2x ?_
    refine aw_cond rfl (fun hc => ?_) (fun hc => ?_)
    · refine Zh ?_
      rw [allI_false hlt (by rw [hat]; simp at hc; exact decide_eq_false (by omega))]
      exact Zd
    · have hgood : decide ((jobAt l k).needs.length ≤ 20) = true := by rw [hat]; simp at hc; exact decide_eq_true (by omega)
      refine Zy ?_
      refine Z1r ?_
      refine Zc ?_
      refine ⟨k + 1, by omega, ⟨by omega, fun m hm => ?_⟩, (by repeat (first | exact Sub.nil | refine Sub.cons (by first | rfl | (simp [get]; done)) ?_)), .refl _ _⟩
      rcases Nat.lt_or_eq_of_le (Nat.le_of_lt_succ hm) with h | h
      · exact hno m h
      · subst h; exact hgood
  · have : k = l.length := by simp at hc; omega
    subst this
    refine Zh ?_
    rw [allI_true hno]
    exact Zd
theorem ref10_Short (l : List Held) (H : Heap) : AC Tryd.prog 17 [.pl (l.map eHeld)] H (Ret (.bool (shortH l)) H) := by
  refine AC.body (N := 20) [.tmp 2] Tryd.func17 rfl rfl rfl (Nat.le_of_ble_eq_true rfl) fun B hB => ?_
  refine Z3u ?_
  refine Z2x ?_
  refine aw_cond rfl (fun hc => ?_) (fun hc => ?_)
  · have h14 : ¬ l.length ≤ 30 := by simp at hc; omega
    refine Zh ?_
    rw [show shortH l = false by rw [shortH, decide_eq_false h14, Bool.false_and]]
    exact Zd
  have h14 : l.length ≤ 30 := by simp at hc; omega
  rw [show shortH l = allI (fun k => decide ((heldAt l k).things.length ≤ 60)) l.length by rw [shortH, decide_eq_true h14, Bool.true_and]]
  refine Z1i ?_
  refine Z16 ?_
  refine aw_loop (G := Nat) (fun k => k ≤ l.length ∧ ∀ m, m < k → decide ((heldAt l m).things.length ≤ 60) = true) (fun k => [(0, .pl (l.map eHeld)), (3, .int .i64 (k : Int))]) (fun _ => H ++ []) (fun k => l.length - k) 0 ⟨Nat.zero_le _, fun m hm => by omega⟩ (by repeat (first | exact Sub.nil | refine Sub.cons (by first | rfl | (simp [get]; done)) ?_)) (Fit.refl _ _) ?_
  rintro k ⟨hk, hno⟩
  refine Zy ?_
  refine Z2s ?_
  refine Z14 ?_
  refine Z17 ?_
  refine aw_cond rfl (fun hc => ?_) (fun hc => ?_)
  · have hlt : k < l.length := by simpa using hc
    obtain ⟨x, hx, hxl⟩ := get_in hlt
    have hr := map_get eHeld hx
    have hat := heldAt_get hx
    refine Z4j ?_
    refine Z31 ?_
    refine Z2w ?_
    refine Z2x ?_
    refine aw_cond rfl (fun hc => ?_) (fun hc => ?_)
    · refine Zh ?_
      rw [allI_false hlt (by rw [hat]; simp at hc; exact decide_eq_false (by omega))]
      exact Zd
    · have hgood : decide ((heldAt l k).things.length ≤ 60) = true := by rw [hat]; simp at hc; exact decide_eq_true (by omega)
      refine Zy ?_
      refine Z1r ?_
      refine Zc ?_
      refine ⟨k + 1, by omega, ⟨by omega, fun m hm => ?_⟩, (by repeat (first | exact Sub.nil | refine Sub.cons (by first | rfl | (simp [get]; done)) ?_)), .refl _ _⟩
      rcases Nat.lt_or_eq_of_le (Nat.le_of_lt_succ hm) with h | h
      · exact hno m h
      · subst h; exact hgood
  · have : k = l.length := by simp at hc; omega
    subst this
    refine Zh ?_
    rw [allI_true hno]
    exact Zd
theorem ref16_Short (i : Inst) (H : Heap) : AC Tryd.prog 6 [.agg (eInst i)] H (Ret (.bool (shortI i)) H) := by
  refine AC.body (N := 29) [.tmp 2] Tryd.func6 rfl rfl rfl (Nat.le_of_ble_eq_true rfl) fun B hB => ?_
  refine Za7 ?_
  refine Zg ?_
  refine aw_out 2 (.bool (shortI i)) ?_ ?_
  · refine Z2w ?_
    refine Z14 ?_
    refine Zk ?_
    refine ao_split rfl rfl (fun hg4 => ?_) (fun hg4 => ?_)
    · refine Z6v ?_
      refine Z4t ?_
      refine Zw ?_
      refine Z27 ?_
      refine ao_split rfl rfl (fun hg10 => ?_) (fun hg10 => ?_)
      · refine Z6v ?_
        refine Z4t ?_
        refine Zw ?_
        refine Z27 ?_
        refine ao_split rfl rfl (fun hg16 => ?_) (fun hg16 => ?_)
        · refine Z6v ?_
          refine ao_y rfl rfl (by decide) (V2.call (ref12_Short _ _) rfl) ?_
          refine Z27 ?_
          refine ao_split rfl rfl (fun hg21 => ?_) (fun hg21 => ?_)
          · refine Z6v ?_
            refine ao_y rfl rfl (by decide) (V2.call (ref10_Short _ _) rfl) ?_
            refine Zo ?_
            exact Zbt
          · refine Z1n ?_
            exact Zbt
        · refine Z2a ?_
          exact Zbt
      · refine Z3c ?_
        refine Z27 ?_
        refine Z2a ?_
        exact Zbt
    · refine Z3c ?_
      refine Z27 ?_
      refine Z3c ?_
      refine Z27 ?_
      refine Z2a ?_
      exact Zbt
  exact Z1o
end Go.Av

namespace Go.Av
open Go.Proofs
set_option maxRecDepth 10000
set_option linter.unusedSimpArgs false
set_option linter.unusedVariables false

def g4 : List Thing := [⟨0, -1, ByteArray.empty⟩, ⟨2, 0, ByteArray.empty⟩, ⟨3, 1, ByteArray.empty⟩, ⟨3, 1, ByteArray.empty⟩]
def i4 : Inst := (inew g4 1 0).1
theorem i4_ok : (inew g4 1 0).2 = 0 := by decide +kernel
theorem i4_w : IW i4 := by
  refine ⟨?_, ?_, ?_, ?_, ?_, ?_⟩
  · decide +kernel
  · decide +kernel
  · decide +kernel
  · decide +kernel
  · decide +kernel
  · intro h hh
    have : i4.table = [] := by decide +kernel
    rw [this] at hh; cases hh
theorem i4_free : [istat i4 0, istat i4 1, istat i4 2, istat i4 3, istat i4 4] = [1, 0, 1, 2, 0] := by decide +kernel
theorem i4_twice : [skinds (splus (istat i4) (istat i4)) 0, skinds (splus (istat i4) (istat i4)) 1, skinds (splus (istat i4) (istat i4)) 2, skinds (splus (istat i4) (istat i4)) 3, skinds (splus (istat i4) (istat i4)) 4] = [2, 0, 2, 4, 0] := by decide +kernel
set_option maxHeartbeats 0 in
theorem law23_awake (H : Heap) : ACT Tryd.prog KD 5 [] H (Ret (.bool true) H) := by
  have cn := fun H => inst_New g4 1 0 H (by decide)
  rw [i4_ok, show (inew g4 1 0).1 = i4 from rfl] at cn
  have w4 := i4_w
  refine ACT.body (N := 33) [.tmp 0] Tryd.func5 rfl rfl rfl (Nat.le_of_ble_eq_true rfl) fun B hB => ?_
  refine Z1g ?_
  refine Zbu ?_
  refine Zbu ?_
  refine Zbu ?_
  refine Zbu ?_
  refine ao2 (by rintro _ ⟨⟩; decide) (g_litL (g4.map eThing) rfl (by decide) (by decide) (by decide) rfl rfl (by simp [g4]) rfl (by simp [g4, AV.bels, AV.bel])) ?_
  refine Z4f ?_
  refine Z2s ?_
  refine ao2 (by rintro _ ⟨⟩; decide) (V2.call (cn _) rfl) ?_
  refine Z3y ?_
  refine Z11 ?_
  refine Zbc ?_
  refine Zbd ?_
  refine Z7 ?_
  refine Zb6 ?_
  refine ao2 (by rintro _ ⟨⟩; decide) (V2.callT (stat_Of i4 _ w4) rfl rfl) ?_
  refine Zbk ?_
  refine Zbo ?_
  refine Zb ?_
  refine aw_out 0 (.bool true) ?_ ?_
  · refine Za ?_
    refine Zz ?_
    refine Zj ?_
    refine ao_split rfl rfl (fun hg2 => ?_) (fun hg2 => ?_)
    · refine Z23 ?_
      first | refine ao_y1 rfl rfl (by decide) (w_loadR rfl (lk rfl rfl) rfl rfl rfl) ?_ | refine ao_y1 rfl rfl (by decide) (w_loadR rfl (lk rfl rfl) rfl (zadd hr) rfl) ?_ | refine ao_y1 rfl rfl (by decide) (w_loadR rfl (lk rfl rfl) rfl (zadd hr1) rfl) ?_ | refine ao_y1 rfl rfl (by decide) (w_loadR rfl (lk rfl rfl) rfl (zadd hr2) rfl) ?_ | refine ao_y1 rfl rfl (by decide) (w_loadRp rfl hr rfl) ?_ | refine ao_y1 rfl rfl (by decide) (w_loadRp rfl hr1 rfl) ?_ | refine ao_y1 rfl rfl (by decide) (w_loadRp rfl hr2 rfl) ?_ | refine ao_y1 rfl rfl (by decide) (w_loadN (cs := [_, _, _, _, _]) rfl (lk rfl rfl) rfl rfl rfl rfl) ?_ | refine ao_y1 rfl rfl (by decide) (o_loadNp (cs := [_, _, _, _, _]) rfl hr rfl rfl) ?_ | refine ao_y1 rfl rfl (by decide) (o_loadNp (cs := [_, _, _, _, _]) rfl hr1 rfl rfl) ?_ | refine ao_y1 rfl rfl (by decide) (o_loadNp (cs := [_, _, _, _, _]) rfl hr2 rfl rfl) ?_ | refine ao_y1 rfl rfl (by decide) (w_loadR rfl (lkF hF) rfl rfl rfl) ?_ | refine ao_y1 rfl rfl (by decide) (w_loadN (cs := [_, _, _, _, _]) rfl (lkF hF) rfl rfl rfl rfl) ?_
      refine Zbv ?_
      refine ao_y1 rfl rfl (by decide) (o_eqAgg (us := [.int .i64 (istat i4 0), .int .i64 (istat i4 1), .int .i64 (istat i4 2), .int .i64 (istat i4 3), .int .i64 (istat i4 4)]) (vs := [.int .i64 1, .int .i64 0, .int .i64 1, .int .i64 2, .int .i64 0]) (b := true) rfl rfl rfl rfl (by kernel_rfl) (fun w => (eqK5_run _ _ _ _ _ _ _ _ _ _ 9998 w).trans (by rw [decide_eq_true i4_free]))) ?_
      refine Z27 ?_
      refine ao_split rfl rfl (fun hg8 => ?_) (fun hg8 => ?_)
      · refine Zbw ?_
        refine Zbw ?_
        refine ao_y rfl rfl (by decide) (V2.call (stat_Plus (istat i4) (istat i4) _) rfl) ?_
        refine ao_y rfl rfl (by decide) (V2.call (stat_Kinds (splus (istat i4) (istat i4)) _) rfl) ?_
        refine Zbv ?_
        refine ao_y1 rfl rfl (by decide) (o_eqAgg (us := uK5 (skinds (splus (istat i4) (istat i4)))) (vs := [.int .i64 2, .int .i64 0, .int .i64 2, .int .i64 4, .int .i64 0]) (b := true) rfl rfl rfl rfl (by kernel_rfl) (fun w => (eqK5_run _ _ _ _ _ _ _ _ _ _ 9998 w).trans (by rw [decide_eq_true i4_twice]))) ?_
        refine Zo ?_
        exact Zbx
      · refine Z3c ?_
        refine Zt ?_
        exact Zbx
    · refine Z3c ?_
      refine Z27 ?_
      refine Z3c ?_
      refine Zt ?_
      exact Zbx
  exact Z1o
end Go.Av

namespace Go.Av
open Go.Proofs
set_option maxRecDepth 10000
set_option linter.unusedSimpArgs false
set_option linter.unusedVariables false

set_option maxHeartbeats 0 in
theorem law23_StatLease (i : Inst) (H : Heap) : ACT Tryd.prog KD 3 [.agg (eInst i)] H (Ret (.bool true) H) := by
  refine ACT.body (N := 47) [.tmp 2] Tryd.func3 rfl rfl rfl (Nat.le_of_ble_eq_true rfl) fun B hB => ?_
  refine Za7 ?_
  refine Z1f ?_
  refine Zby ?_
  refine Z2k ?_
  refine aw_cond rfl (fun hc => ?_) (fun hc => ?_)
  · simp at hc
  refine Z2 ?_
  refine Zb6 ?_
  refine ao_ret (ref16_Short _ _) rfl (by decide) ?_
  refine Z2k ?_
  refine aw_cond rfl (fun hc => ?_) (fun hc => ?_)
  · refine Zh ?_
    exact Zd
  have hsh : shortI i = true := by simpa only [Bool.not_eq_false'] using hc
  have hw := shortI_ok hsh
  have w1 := hw.graph
  have w3 := hw.table
  have w5 := hw.lease
  clear hc
  refine Z2 ?_
  refine Zb6 ?_
  refine ao2 (by rintro _ ⟨⟩; decide) (V2.callT (stat_Of i _ hw) rfl rfl) ?_
  refine Zbk ?_
  refine Zbo ?_
  refine Z6 ?_
  refine Zb6 ?_
  refine Zb7 ?_
  refine Z2k ?_
  refine aw_cond rfl (fun hc => ?_) (fun hc => ?_)
  · have hno : iright i = false := by simpa only [Bool.not_eq_true'] using hc
    have hs : istat i = snone := by rw [istat, hno]; rfl
    rw [hs]
    refine Z2 ?_
    refine Zbn ?_
    refine Zbz ?_
    refine ao1 (by decide) (o_eqAgg (us := uStat snone) (vs := uStat snone) (b := true) rfl rfl (stat_flat _) (stat_flat _) (by kernel_rfl) (fun w => (eqStat_run _ _ w).trans (by rw [decide_eq_true rfl]))) ?_
    refine Zg ?_
    exact Zd
  have hyes : iright i = true := by simpa only [Bool.not_eq_false'] using hc
  have hg := iright_graph hyes
  have sj : sok (sjoin i.lease (heldBusy i.table i.now 4611686018427387904)) = true := sok_setop _ _ _
  have hbl := heldBusy_le i.table i.now 4611686018427387904
  have hjl : (sjoin i.lease (heldBusy i.table i.now 4611686018427387904)).length ≤ 256 := setop_len _ _ _
  have ck := fun H => graph_Kinds i.graph (sjoin i.lease (heldBusy i.table i.now 4611686018427387904)) H (by omega) (by omega)
  rw [gkinds_yes hg sj] at ck
  have hK : [skinds (istat i) 0, skinds (istat i) 1, skinds (istat i) 2, skinds (istat i) 3, skinds (istat i) 4] = [kfun i.graph (sjoin i.lease (heldBusy i.table i.now 4611686018427387904)) 0, kfun i.graph (sjoin i.lease (heldBusy i.table i.now 4611686018427387904)) 1, kfun i.graph (sjoin i.lease (heldBusy i.table i.now 4611686018427387904)) 2, kfun i.graph (sjoin i.lease (heldBusy i.table i.now 4611686018427387904)) 3, kfun i.graph (sjoin i.lease (heldBusy i.table i.now 4611686018427387904)) 4] := by
    rw [lease_kinds hyes 0 (by decide), lease_kinds hyes 1 (by decide), lease_kinds hyes 2 (by decide), lease_kinds hyes 3 (by decide), lease_kinds hyes 4 (by decide)]
  have hJ := lease_jobs hyes
  have hA : [istat i 15, istat i 16, istat i 17, istat i 18, istat i 19] = [0, 0, 0, 0, 0] := by
    rw [show istat i 15 = 0 from lease_away hyes 0 (by decide), show istat i 16 = 0 from lease_away hyes 1 (by decide), show istat i 17 = 0 from lease_away hyes 2 (by decide), show istat i 18 = 0 from lease_away hyes 3 (by decide), show istat i 19 = 0 from lease_away hyes 4 (by decide)]
  clear hc
  generalize hst : istat i = s at hK hJ hA ⊢
  refine Z2 ?_
  refine Z2w ?_
  refine Z22 ?_
  refine ao2 (by rintro _ ⟨⟩; decide) (V2.callT (held_Busy i.table i.now 4611686018427387904 _ w3) rfl rfl) ?_
  refine Z4m ?_
  generalize heldBusy i.table i.now 4611686018427387904 = busy at *
  refine Z1 ?_
  refine aw_of_out 2 (.bool true) ?_ ?_
  · refine Z4a ?_
    refine Z19 ?_
    refine Zc0 ?_
    refine aq02 1 rfl (by decide +kernel) (by decide) (fun _ => V2.call (stat_Kinds s _) rfl) ?_
    refine Zb3 ?_
    refine Zbr ?_
    refine Zba ?_
    refine Zbs ?_
    refine Z6r ?_
    refine aq02 7 rfl (by decide +kernel) (by decide) (fun _ => V2.callT (set_Join i.lease busy (by omega) (by omega) _) rfl rfl) ?_
    refine aq02 8 rfl (by decide +kernel) (by decide) (fun _ => V2.call (ck _) rfl) ?_
    refine aq0 9 rfl (by decide +kernel) (by decide) (fun _ => o_eqAgg (us := uK5 (skinds s)) (vs := uK5 (kfun i.graph (sjoin i.lease busy))) (b := true) rfl rfl rfl rfl (by kernel_rfl) (fun w => (eqK5_runF _ _ w).trans (by rw [decide_eq_true hK]))) ?_
    refine aq0 10 rfl (by decide +kernel) (by decide) (fun _ => o_move (v := .bool _) rfl) ?_
    refine aq_split (g := 33) rfl (fun hg10 => ?_) (fun hg10 => ?_)
    · first | refine aqyp (g := 33) 11 rfl (by decide +kernel) (by decide) rfl rfl (fun G => w_loadR rfl (lk rfl rfl) rfl rfl rfl) ?_ | refine aqyp (g := 33) 11 rfl (by decide +kernel) (by decide) rfl rfl (fun G => w_loadR rfl (lk rfl rfl) rfl (zadd hr) rfl) ?_ | refine aqyp (g := 33) 11 rfl (by decide +kernel) (by decide) rfl rfl (fun G => w_loadR rfl (lk rfl rfl) rfl (zadd hr1) rfl) ?_ | refine aqyp (g := 33) 11 rfl (by decide +kernel) (by decide) rfl rfl (fun G => w_loadR rfl (lk rfl rfl) rfl (zadd hr2) rfl) ?_ | refine aqyp (g := 33) 11 rfl (by decide +kernel) (by decide) rfl rfl (fun G => w_loadRp rfl hr rfl) ?_ | refine aqyp (g := 33) 11 rfl (by decide +kernel) (by decide) rfl rfl (fun G => w_loadRp rfl hr1 rfl) ?_ | refine aqyp (g := 33) 11 rfl (by decide +kernel) (by decide) rfl rfl (fun G => w_loadRp rfl hr2 rfl) ?_ | refine aqyp (g := 33) 11 rfl (by decide +kernel) (by decide) rfl rfl (fun G => w_loadN (cs := [_, _, _, _, _, _, _, _, _, _, _, _, _, _, _, _, _, _, _, _, _, _, _, _, _, _, _]) rfl (lk rfl rfl) rfl rfl rfl rfl) ?_ | refine aqyp (g := 33) 11 rfl (by decide +kernel) (by decide) rfl rfl (fun G => o_loadNp (cs := [_, _, _, _, _, _, _, _, _, _, _, _, _, _, _, _, _, _, _, _, _, _, _, _, _, _, _]) rfl hr rfl rfl) ?_ | refine aqyp (g := 33) 11 rfl (by decide +kernel) (by decide) rfl rfl (fun G => o_loadNp (cs := [_, _, _, _, _, _, _, _, _, _, _, _, _, _, _, _, _, _, _, _, _, _, _, _, _, _, _]) rfl hr1 rfl rfl) ?_ | refine aqyp (g := 33) 11 rfl (by decide +kernel) (by decide) rfl rfl (fun G => o_loadNp (cs := [_, _, _, _, _, _, _, _, _, _, _, _, _, _, _, _, _, _, _, _, _, _, _, _, _, _, _]) rfl hr2 rfl rfl) ?_ | refine aqyp (g := 33) 11 rfl (by decide +kernel) (by decide) rfl rfl (fun G => w_loadR rfl (lkF hF) rfl rfl rfl) ?_ | refine aqyp (g := 33) 11 rfl (by decide +kernel) (by decide) rfl rfl (fun G => w_loadN (cs := [_, _, _, _, _, _, _, _, _, _, _, _, _, _, _, _, _, _, _, _, _, _, _, _, _, _, _]) rfl (lkF hF) rfl rfl rfl rfl) ?_
      refine aqy02 (g := 33) 12 rfl (by decide +kernel) (by decide) rfl rfl (fun _ => V2.call (stat_Jobs s _) rfl) ?_
      first | refine aqyp (g := 33) 13 rfl (by decide +kernel) (by decide) rfl rfl (fun G => w_fieldAddr rfl (lk rfl rfl) rfl (by decide)) ?_ | refine aqyp (g := 33) 13 rfl (by decide +kernel) (by decide) rfl rfl (fun G => w_fieldAddrp rfl (by decide)) ?_ | refine aqyp (g := 33) 13 rfl (by decide +kernel) (by decide) rfl rfl (fun G => w_fieldAddr rfl (lkF hF) rfl (by decide)) ?_
      first | refine aqyp (g := 33) 14 rfl (by decide +kernel) (by decide) rfl rfl (fun G => w_load1 (v := .sl _ _ _ _ _) rfl (lk rfl rfl) rfl rfl rfl) ?_ | refine aqyp (g := 33) 14 rfl (by decide +kernel) (by decide) rfl rfl (fun G => w_load1 (v := .pl _) rfl (lk rfl rfl) rfl rfl rfl) ?_ | refine aqyp (g := 33) 14 rfl (by decide +kernel) (by decide) rfl rfl (fun G => w_load1 (v := .nsl) rfl (lk rfl rfl) rfl rfl rfl) ?_ | refine aqyp (g := 33) 14 rfl (by decide +kernel) (by decide) rfl rfl (fun G => w_load1 (v := .sl _ _ _ _ _) rfl (lk rfl rfl) rfl (zadd hr) rfl) ?_ | refine aqyp (g := 33) 14 rfl (by decide +kernel) (by decide) rfl rfl (fun G => w_load1 (v := .sl _ _ _ _ _) rfl (lk rfl rfl) rfl (zadd hr1) rfl) ?_ | refine aqyp (g := 33) 14 rfl (by decide +kernel) (by decide) rfl rfl (fun G => w_load1 (v := .sl _ _ _ _ _) rfl (lk rfl rfl) rfl (zadd hr2) rfl) ?_ | refine aqyp (g := 33) 14 rfl (by decide +kernel) (by decide) rfl rfl (fun G => w_load1 (v := .pl _) rfl (lk rfl rfl) rfl (zadd hr) rfl) ?_ | refine aqyp (g := 33) 14 rfl (by decide +kernel) (by decide) rfl rfl (fun G => w_load1 (v := .pl _) rfl (lk rfl rfl) rfl (zadd hr1) rfl) ?_ | refine aqyp (g := 33) 14 rfl (by decide +kernel) (by decide) rfl rfl (fun G => w_load1 (v := .pl _) rfl (lk rfl rfl) rfl (zadd hr2) rfl) ?_ | refine aqyp (g := 33) 14 rfl (by decide +kernel) (by decide) rfl rfl (fun G => w_load1 (v := .nsl) rfl (lk rfl rfl) rfl (zadd hr) rfl) ?_ | refine aqyp (g := 33) 14 rfl (by decide +kernel) (by decide) rfl rfl (fun G => w_load1 (v := .nsl) rfl (lk rfl rfl) rfl (zadd hr1) rfl) ?_ | refine aqyp (g := 33) 14 rfl (by decide +kernel) (by decide) rfl rfl (fun G => w_load1 (v := .nsl) rfl (lk rfl rfl) rfl (zadd hr2) rfl) ?_ | refine aqyp (g := 33) 14 rfl (by decide +kernel) (by decide) rfl rfl (fun G => o_load1p (v := .sl _ _ _ _ _) rfl hr rfl) ?_ | refine aqyp (g := 33) 14 rfl (by decide +kernel) (by decide) rfl rfl (fun G => o_load1p (v := .sl _ _ _ _ _) rfl hr1 rfl) ?_ | refine aqyp (g := 33) 14 rfl (by decide +kernel) (by decide) rfl rfl (fun G => o_load1p (v := .sl _ _ _ _ _) rfl hr2 rfl) ?_ | refine aqyp (g := 33) 14 rfl (by decide +kernel) (by decide) rfl rfl (fun G => o_load1p (v := .pl _) rfl hr rfl) ?_ | refine aqyp (g := 33) 14 rfl (by decide +kernel) (by decide) rfl rfl (fun G => o_load1p (v := .pl _) rfl hr1 rfl) ?_ | refine aqyp (g := 33) 14 rfl (by decide +kernel) (by decide) rfl rfl (fun G => o_load1p (v := .pl _) rfl hr2 rfl) ?_ | refine aqyp (g := 33) 14 rfl (by decide +kernel) (by decide) rfl rfl (fun G => o_load1p (v := .nsl) rfl hr rfl) ?_ | refine aqyp (g := 33) 14 rfl (by decide +kernel) (by decide) rfl rfl (fun G => o_load1p (v := .nsl) rfl hr1 rfl) ?_ | refine aqyp (g := 33) 14 rfl (by decide +kernel) (by decide) rfl rfl (fun G => o_load1p (v := .nsl) rfl hr2 rfl) ?_ | refine aqyp (g := 33) 14 rfl (by decide +kernel) (by decide) rfl rfl (fun G => w_load1 (v := .sl _ _ _ _ _) rfl (lkF hF) rfl rfl rfl) ?_ | refine aqyp (g := 33) 14 rfl (by decide +kernel) (by decide) rfl rfl (fun G => w_load1 (v := .pl _) rfl (lkF hF) rfl rfl rfl) ?_ | refine aqyp (g := 33) 14 rfl (by decide +kernel) (by decide) rfl rfl (fun G => w_load1 (v := .nsl) rfl (lkF hF) rfl rfl rfl) ?_
      first | refine aqyp (g := 33) 15 rfl (by decide +kernel) (by decide) rfl rfl (fun G => o_lenp rfl) ?_ | refine aqyp (g := 33) 15 rfl (by decide +kernel) (by decide) rfl rfl (fun G => w_lens rfl (lk rfl rfl) rfl) ?_ | refine aqyp (g := 33) 15 rfl (by decide +kernel) (by decide) rfl rfl (fun G => o_lenn rfl) ?_ | refine aqyp (g := 33) 15 rfl (by decide +kernel) (by decide) rfl rfl (fun G => o_lenStr rfl) ?_ | refine aqyp (g := 33) 15 rfl (by decide +kernel) (by decide) rfl rfl (fun G => w_lens rfl (lkF hF) rfl) ?_
      refine aqy0 (g := 33) 16 rfl (by decide +kernel) (by decide) rfl rfl (fun _ => o_eq rfl rfl) ?_
      refine Z7h ?_
      refine aq_split (g := 41) rfl (fun hg18 => ?_) (fun hg18 => ?_)
      · first | refine aqyp (g := 41) 19 rfl (by decide +kernel) (by decide) rfl rfl (fun G => w_fieldAddr rfl (lk rfl rfl) rfl (by decide)) ?_ | refine aqyp (g := 41) 19 rfl (by decide +kernel) (by decide) rfl rfl (fun G => w_fieldAddrp rfl (by decide)) ?_ | refine aqyp (g := 41) 19 rfl (by decide +kernel) (by decide) rfl rfl (fun G => w_fieldAddr rfl (lkF hF) rfl (by decide)) ?_
        first | refine aqyp (g := 41) 20 rfl (by decide +kernel) (by decide) rfl rfl (fun G => w_loadR rfl (lk rfl rfl) rfl rfl rfl) ?_ | refine aqyp (g := 41) 20 rfl (by decide +kernel) (by decide) rfl rfl (fun G => w_loadR rfl (lk rfl rfl) rfl (zadd hr) rfl) ?_ | refine aqyp (g := 41) 20 rfl (by decide +kernel) (by decide) rfl rfl (fun G => w_loadR rfl (lk rfl rfl) rfl (zadd hr1) rfl) ?_ | refine aqyp (g := 41) 20 rfl (by decide +kernel) (by decide) rfl rfl (fun G => w_loadR rfl (lk rfl rfl) rfl (zadd hr2) rfl) ?_ | refine aqyp (g := 41) 20 rfl (by decide +kernel) (by decide) rfl rfl (fun G => w_loadRp rfl hr rfl) ?_ | refine aqyp (g := 41) 20 rfl (by decide +kernel) (by decide) rfl rfl (fun G => w_loadRp rfl hr1 rfl) ?_ | refine aqyp (g := 41) 20 rfl (by decide +kernel) (by decide) rfl rfl (fun G => w_loadRp rfl hr2 rfl) ?_ | refine aqyp (g := 41) 20 rfl (by decide +kernel) (by decide) rfl rfl (fun G => w_loadN (cs := [_, _, _, _, _]) rfl (lk rfl rfl) rfl rfl rfl rfl) ?_ | refine aqyp (g := 41) 20 rfl (by decide +kernel) (by decide) rfl rfl (fun G => o_loadNp (cs := [_, _, _, _, _]) rfl hr rfl rfl) ?_ | refine aqyp (g := 41) 20 rfl (by decide +kernel) (by decide) rfl rfl (fun G => o_loadNp (cs := [_, _, _, _, _]) rfl hr1 rfl rfl) ?_ | refine aqyp (g := 41) 20 rfl (by decide +kernel) (by decide) rfl rfl (fun G => o_loadNp (cs := [_, _, _, _, _]) rfl hr2 rfl rfl) ?_ | refine aqyp (g := 41) 20 rfl (by decide +kernel) (by decide) rfl rfl (fun G => w_loadR rfl (lkF hF) rfl rfl rfl) ?_ | refine aqyp (g := 41) 20 rfl (by decide +kernel) (by decide) rfl rfl (fun G => w_loadN (cs := [_, _, _, _, _]) rfl (lkF hF) rfl rfl rfl rfl) ?_
        refine aqy0 (g := 41) 21 rfl (by decide +kernel) (by decide) rfl rfl (fun _ => V1.up (o_buildArr (cs := [.int _ _, .int _ _, .int _ _, .int _ _, .int _ _]) rfl)) ?_
        refine aqy0 (g := 41) 22 rfl (by decide +kernel) (by decide) rfl rfl (fun _ => o_eqAgg (us := [.int .i64 (s 15), .int .i64 (s 16), .int .i64 (s 17), .int .i64 (s 18), .int .i64 (s 19)]) (vs := [.int .i64 0, .int .i64 0, .int .i64 0, .int .i64 0, .int .i64 0]) (b := true) rfl rfl rfl rfl (by kernel_rfl) (fun w => (eqK5_run _ _ _ _ _ _ _ _ _ _ 9998 w).trans (by rw [decide_eq_true hA]))) ?_
        refine Zc1 ?_
        refine Zc2 ?_
        exact Zc3
      · refine Zc4 ?_
        refine Zc5 ?_
        refine Zc6 ?_
        refine Zc7 ?_
        refine Zc1 ?_
        refine Zc2 ?_
        exact Zc3
    · refine aqn0 (g := 33) 11 rfl (by decide +kernel) (by decide) rfl rfl rfl ?_
      refine aqn0 (g := 33) 12 rfl (by decide +kernel) (by decide) rfl rfl rfl ?_
      refine aqn0 (g := 33) 13 rfl (by decide +kernel) (by decide) rfl rfl rfl ?_
      refine aqn0 (g := 33) 14 rfl (by decide +kernel) (by decide) rfl rfl rfl ?_
      refine aqn0 (g := 33) 15 rfl (by decide +kernel) (by decide) rfl rfl rfl ?_
      refine aqn0 (g := 33) 16 rfl (by decide +kernel) (by decide) rfl rfl rfl ?_
      refine Z7h ?_
      refine Zc4 ?_
      refine Zc5 ?_
      refine Zc6 ?_
      refine Zc7 ?_
      refine Zc1 ?_
      refine Zc2 ?_
      exact Zc3
  exact Z1o
end Go.Av

namespace Go.Av
open Go.Proofs
set_option maxRecDepth 10000
set_option linter.unusedSimpArgs false
set_option linter.unusedVariables false

theorem sL_congr {f h : Nat → Int} (e : ∀ j, j < 27 → f j = h j) : sL f = sL h := by
  simp only [sL, e 0 (by decide), e 1 (by decide), e 2 (by decide), e 3 (by decide), e 4 (by decide), e 5 (by decide), e 6 (by decide), e 7 (by decide), e 8 (by decide), e 9 (by decide), e 10 (by decide), e 11 (by decide), e 12 (by decide), e 13 (by decide), e 14 (by decide), e 15 (by decide), e 16 (by decide), e 17 (by decide), e 18 (by decide), e 19 (by decide), e 20 (by decide), e 21 (by decide), e 22 (by decide), e 23 (by decide), e 24 (by decide), e 25 (by decide), e 26 (by decide)]
theorem get_app {L G : Heap} {k : Nat} {o : AObj} (h : L[k]? = some o) : (L ++ G)[k]? = some o := by
  rw [List.getElem?_append_left (List.getElem?_eq_some_iff.1 h).1]; exact h
theorem get_behind (L : Heap) {s : Heap} {k : Nat} {o : AObj} (h : s[k]? = some o) : (L ++ s)[L.length + k]? = some o := by
  rw [List.getElem?_append_right (Nat.le_add_right _ _), Nat.add_sub_cancel_left]; exact h
/-- Three rows in whatever order. -/
structure G3 where
  s : List AObj
  a : Nat
  b : Nat
  c : Nat
set_option maxHeartbeats 0 in
theorem law23_StatSums (a b c : Nat → Int) (x y z : Int) (hx : 0 ≤ x ∧ x ≤ 65535) (hy : 0 ≤ y ∧ y ≤ 65535) (hz : 0 ≤ z ∧ z ≤ 65535) (H : Heap) : ACT Tryd.prog KD 4 [.agg (eStat a), .agg (eStat b), .agg (eStat c), .int .u16 x, .int .u16 y, .int .u16 z] H (Ret (.bool true) H) := by
  have cx : IntKind.i64.wrap x = x := wrap64_ok (by omega) (by omega)
  have cy : IntKind.i64.wrap y = y := wrap64_ok (by omega) (by omega)
  have cz : IntKind.i64.wrap z = z := wrap64_ok (by omega) (by omega)
  have e1 : sL (splus (splus a snone) snone) = sL (splus a snone) := sL_congr fun j _ => splus_none2 a j
  have e2 : sL (splus (sp x y z) snone) = sL (sp x y z) := sL_congr fun j _ => sp_none hx hy hz j
  have e3 := sums_jobs hx hy hz
  have e4 := sums_kinds hx hy hz
  have e5 : sL (splus (splus a b) c) = sL (splus a (splus b c)) := sL_congr fun j _ => splus_assoc a b c j
  have hp := sp_in hx hy hz
  have hq := sq_in hx hy hz
  have jp : 0 ≤ sjobs (sp x y z) ∧ sjobs (sp x y z) ≤ 1000000 := by
    rw [sjobs_small fun j => ⟨(hp j).1, by have := (hp j).2; omega⟩]
    have := hp 20; have := hp 21; have := hp 22; have := hp 23; have := hp 24; have := hp 25; have := hp 26
    omega
  have jq : 0 ≤ sjobs (sq x y z) ∧ sjobs (sq x y z) ≤ 1000000 := by
    rw [sjobs_small fun j => ⟨(hq j).1, by have := (hq j).2; omega⟩]
    have := hq 20; have := hq 21; have := hq 22; have := hq 23; have := hq 24; have := hq 25; have := hq 26
    omega
  have kp : ∀ k, 0 ≤ skinds (sp x y z) k ∧ skinds (sp x y z) k ≤ 1000000 := by
    intro k
    rw [skinds_small fun j => ⟨(hp j).1, by have := (hp j).2; omega⟩]
    have := hp k; have := hp (5 + k); have := hp (10 + k); have := hp (15 + k)
    omega
  have kq : ∀ k, 0 ≤ skinds (sq x y z) k ∧ skinds (sq x y z) k ≤ 1000000 := by
    intro k
    rw [skinds_small fun j => ⟨(hq j).1, by have := (hq j).2; omega⟩]
    have := hq k; have := hq (5 + k); have := hq (10 + k); have := hq (15 + k)
    omega
  clear hp hq
  refine ACT.body (N := 104) [.tmp 12] Tryd.func4 rfl rfl rfl (Nat.le_of_ble_eq_true rfl) fun B hB => ?_
  refine Zc9 ?_
  refine Zbe ?_
  refine Zbe ?_
  refine Zbe ?_
  refine Z41 ?_
  refine Zc9 ?_
  refine Zby ?_
  refine Z13 ?_
  refine Z5 ?_
  refine Zc8 ?_
  refine aw_cond rfl (fun hc => ?_) (fun hc => ?_)
  · simp at hc
  refine Zc9 ?_
  refine Zbz ?_
  refine Zbk ?_
  refine Zbo ?_
  refine Z5 ?_
  refine Zc8 ?_
  refine aw_drawP mixed none 4 ?_
  refine Z19 ?_
  refine Zc0 ?_
  refine Zca ?_
  refine aq02 2 rfl (by decide +kernel) (by decide) (fun _ => V2.call (stat_Plus a snone _) rfl) ?_
  refine Zcb ?_
  refine aq02 4 rfl (by decide +kernel) (by decide) (fun _ => V2.call (stat_Plus (splus a snone) snone _) rfl) ?_
  refine Zcc ?_
  refine Zcd ?_
  refine aq02 7 rfl (by decide +kernel) (by decide) (fun _ => V2.call (stat_Plus a snone _) rfl) ?_
  refine aq0 8 rfl (by decide +kernel) (by decide) (fun _ => o_neAgg (us := uStat (splus (splus a snone) snone)) (vs := uStat (splus a snone)) (b := true) rfl rfl (stat_flat _) (stat_flat _) (by kernel_rfl) (fun w => (eqStat_run _ _ w).trans (by rw [decide_eq_true e1]))) ?_
  refine Z1d ?_
  refine Zc8 ?_
  refine aw_cond rfl (fun hc => ?_) (fun hc => ?_)
  · simp at hc
  refine Zc9 ?_
  refine Za ?_
  refine Zce ?_
  refine Za ?_
  refine Zcf ?_
  refine Zcg ?_
  refine Za ?_
  refine Zch ?_
  refine Zci ?_
  refine ao1 (by decide) (V1.up (o_build (cs := eStat (sp x y z)) rfl)) ?_
  refine Zbk ?_
  refine Zbo ?_
  refine Z5 ?_
  refine Zc9 ?_
  refine Za ?_
  refine Zcf ?_
  refine Za ?_
  refine Zch ?_
  refine Zcg ?_
  refine Za ?_
  refine Zce ?_
  refine Zcg ?_
  refine Za ?_
  refine Zce ?_
  refine Zci ?_
  refine ao1 (by decide) (V1.up (o_build (cs := eStat (sq x y z)) rfl)) ?_
  refine Zbk ?_
  refine Zbo ?_
  refine Z5 ?_
  generalize sp x y z = p at *
  generalize sq x y z = q at *
  refine Zc8 ?_
  refine aw_of_out 69 (.bool false) ?_ ?_
  · refine Zcj ?_
    refine Z19 ?_
    refine Zc0 ?_
    refine Zca ?_
    refine aq02 2 rfl (by decide +kernel) (by decide) (fun _ => V2.call (stat_Plus p snone _) rfl) ?_
    refine Zcb ?_
    refine aq0 4 rfl (by decide +kernel) (by decide) (fun _ => o_neAgg (us := uStat (splus p snone)) (vs := uStat p) (b := true) rfl rfl (stat_flat _) (stat_flat _) (by kernel_rfl) (fun w => (eqStat_run _ _ w).trans (by rw [decide_eq_true e2]))) ?_
    refine aq0 5 rfl (by decide +kernel) (by decide) (fun _ => o_move (v := .bool _) rfl) ?_
    refine aq_split (g := 58) rfl (fun hg5 => ?_) (fun hg5 => ?_)
    · refine aqn0 (g := 58) 6 rfl (by decide +kernel) (by decide) rfl rfl rfl ?_
      refine aqn0 (g := 58) 7 rfl (by decide +kernel) (by decide) rfl rfl rfl ?_
      refine aqn0 (g := 58) 8 rfl (by decide +kernel) (by decide) rfl rfl rfl ?_
      refine aqn0 (g := 58) 9 rfl (by decide +kernel) (by decide) rfl rfl rfl ?_
      refine aqn0 (g := 58) 10 rfl (by decide +kernel) (by decide) rfl rfl rfl ?_
      refine aqn0 (g := 58) 11 rfl (by decide +kernel) (by decide) rfl rfl rfl ?_
      refine aqn0 (g := 58) 12 rfl (by decide +kernel) (by decide) rfl rfl rfl ?_
      refine aqn0 (g := 58) 13 rfl (by decide +kernel) (by decide) rfl rfl rfl ?_
      refine aqn0 (g := 58) 14 rfl (by decide +kernel) (by decide) rfl rfl rfl ?_
      refine aqn0 (g := 58) 15 rfl (by decide +kernel) (by decide) rfl rfl rfl ?_
      refine Zck ?_
      exact Zcl
    · first | refine aqyp (g := 58) 6 rfl (by decide +kernel) (by decide) rfl rfl (fun G => w_loadR rfl (lk rfl rfl) rfl rfl rfl) ?_ | refine aqyp (g := 58) 6 rfl (by decide +kernel) (by decide) rfl rfl (fun G => w_loadR rfl (lk rfl rfl) rfl (zadd hr) rfl) ?_ | refine aqyp (g := 58) 6 rfl (by decide +kernel) (by decide) rfl rfl (fun G => w_loadR rfl (lk rfl rfl) rfl (zadd hr1) rfl) ?_ | refine aqyp (g := 58) 6 rfl (by decide +kernel) (by decide) rfl rfl (fun G => w_loadR rfl (lk rfl rfl) rfl (zadd hr2) rfl) ?_ | refine aqyp (g := 58) 6 rfl (by decide +kernel) (by decide) rfl rfl (fun G => w_loadRp rfl hr rfl) ?_ | refine aqyp (g := 58) 6 rfl (by decide +kernel) (by decide) rfl rfl (fun G => w_loadRp rfl hr1 rfl) ?_ | refine aqyp (g := 58) 6 rfl (by decide +kernel) (by decide) rfl rfl (fun G => w_loadRp rfl hr2 rfl) ?_ | refine aqyp (g := 58) 6 rfl (by decide +kernel) (by decide) rfl rfl (fun G => w_loadN (cs := [_, _, _, _, _, _, _, _, _, _, _, _, _, _, _, _, _, _, _, _, _, _, _, _, _, _, _]) rfl (lk rfl rfl) rfl rfl rfl rfl) ?_ | refine aqyp (g := 58) 6 rfl (by decide +kernel) (by decide) rfl rfl (fun G => o_loadNp (cs := [_, _, _, _, _, _, _, _, _, _, _, _, _, _, _, _, _, _, _, _, _, _, _, _, _, _, _]) rfl hr rfl rfl) ?_ | refine aqyp (g := 58) 6 rfl (by decide +kernel) (by decide) rfl rfl (fun G => o_loadNp (cs := [_, _, _, _, _, _, _, _, _, _, _, _, _, _, _, _, _, _, _, _, _, _, _, _, _, _, _]) rfl hr1 rfl rfl) ?_ | refine aqyp (g := 58) 6 rfl (by decide +kernel) (by decide) rfl rfl (fun G => o_loadNp (cs := [_, _, _, _, _, _, _, _, _, _, _, _, _, _, _, _, _, _, _, _, _, _, _, _, _, _, _]) rfl hr2 rfl rfl) ?_ | refine aqyp (g := 58) 6 rfl (by decide +kernel) (by decide) rfl rfl (fun G => w_loadR rfl (lkF hF) rfl rfl rfl) ?_ | refine aqyp (g := 58) 6 rfl (by decide +kernel) (by decide) rfl rfl (fun G => w_loadN (cs := [_, _, _, _, _, _, _, _, _, _, _, _, _, _, _, _, _, _, _, _, _, _, _, _, _, _, _]) rfl (lkF hF) rfl rfl rfl rfl) ?_
      first | refine aqyp (g := 58) 7 rfl (by decide +kernel) (by decide) rfl rfl (fun G => w_loadR rfl (lk rfl rfl) rfl rfl rfl) ?_ | refine aqyp (g := 58) 7 rfl (by decide +kernel) (by decide) rfl rfl (fun G => w_loadR rfl (lk rfl rfl) rfl (zadd hr) rfl) ?_ | refine aqyp (g := 58) 7 rfl (by decide +kernel) (by decide) rfl rfl (fun G => w_loadR rfl (lk rfl rfl) rfl (zadd hr1) rfl) ?_ | refine aqyp (g := 58) 7 rfl (by decide +kernel) (by decide) rfl rfl (fun G => w_loadR rfl (lk rfl rfl) rfl (zadd hr2) rfl) ?_ | refine aqyp (g := 58) 7 rfl (by decide +kernel) (by decide) rfl rfl (fun G => w_loadRp rfl hr rfl) ?_ | refine aqyp (g := 58) 7 rfl (by decide +kernel) (by decide) rfl rfl (fun G => w_loadRp rfl hr1 rfl) ?_ | refine aqyp (g := 58) 7 rfl (by decide +kernel) (by decide) rfl rfl (fun G => w_loadRp rfl hr2 rfl) ?_ | refine aqyp (g := 58) 7 rfl (by decide +kernel) (by decide) rfl rfl (fun G => w_loadN (cs := [_, _, _, _, _, _, _, _, _, _, _, _, _, _, _, _, _, _, _, _, _, _, _, _, _, _, _]) rfl (lk rfl rfl) rfl rfl rfl rfl) ?_ | refine aqyp (g := 58) 7 rfl (by decide +kernel) (by decide) rfl rfl (fun G => o_loadNp (cs := [_, _, _, _, _, _, _, _, _, _, _, _, _, _, _, _, _, _, _, _, _, _, _, _, _, _, _]) rfl hr rfl rfl) ?_ | refine aqyp (g := 58) 7 rfl (by decide +kernel) (by decide) rfl rfl (fun G => o_loadNp (cs := [_, _, _, _, _, _, _, _, _, _, _, _, _, _, _, _, _, _, _, _, _, _, _, _, _, _, _]) rfl hr1 rfl rfl) ?_ | refine aqyp (g := 58) 7 rfl (by decide +kernel) (by decide) rfl rfl (fun G => o_loadNp (cs := [_, _, _, _, _, _, _, _, _, _, _, _, _, _, _, _, _, _, _, _, _, _, _, _, _, _, _]) rfl hr2 rfl rfl) ?_ | refine aqyp (g := 58) 7 rfl (by decide +kernel) (by decide) rfl rfl (fun G => w_loadR rfl (lkF hF) rfl rfl rfl) ?_ | refine aqyp (g := 58) 7 rfl (by decide +kernel) (by decide) rfl rfl (fun G => w_loadN (cs := [_, _, _, _, _, _, _, _, _, _, _, _, _, _, _, _, _, _, _, _, _, _, _, _, _, _, _]) rfl (lkF hF) rfl rfl rfl rfl) ?_
      refine aqy02 (g := 58) 8 rfl (by decide +kernel) (by decide) rfl rfl (fun _ => V2.call (stat_Plus p q _) rfl) ?_
      refine aqy02 (g := 58) 9 rfl (by decide +kernel) (by decide) rfl rfl (fun _ => V2.call (stat_Jobs (splus p q) _) rfl) ?_
      first | refine aqyp (g := 58) 10 rfl (by decide +kernel) (by decide) rfl rfl (fun G => w_loadR rfl (lk rfl rfl) rfl rfl rfl) ?_ | refine aqyp (g := 58) 10 rfl (by decide +kernel) (by decide) rfl rfl (fun G => w_loadR rfl (lk rfl rfl) rfl (zadd hr) rfl) ?_ | refine aqyp (g := 58) 10 rfl (by decide +kernel) (by decide) rfl rfl (fun G => w_loadR rfl (lk rfl rfl) rfl (zadd hr1) rfl) ?_ | refine aqyp (g := 58) 10 rfl (by decide +kernel) (by decide) rfl rfl (fun G => w_loadR rfl (lk rfl rfl) rfl (zadd hr2) rfl) ?_ | refine aqyp (g := 58) 10 rfl (by decide +kernel) (by decide) rfl rfl (fun G => w_loadRp rfl hr rfl) ?_ | refine aqyp (g := 58) 10 rfl (by decide +kernel) (by decide) rfl rfl (fun G => w_loadRp rfl hr1 rfl) ?_ | refine aqyp (g := 58) 10 rfl (by decide +kernel) (by decide) rfl rfl (fun G => w_loadRp rfl hr2 rfl) ?_ | refine aqyp (g := 58) 10 rfl (by decide +kernel) (by decide) rfl rfl (fun G => w_loadN (cs := [_, _, _, _, _, _, _, _, _, _, _, _, _, _, _, _, _, _, _, _, _, _, _, _, _, _, _]) rfl (lk rfl rfl) rfl rfl rfl rfl) ?_ | refine aqyp (g := 58) 10 rfl (by decide +kernel) (by decide) rfl rfl (fun G => o_loadNp (cs := [_, _, _, _, _, _, _, _, _, _, _, _, _, _, _, _, _, _, _, _, _, _, _, _, _, _, _]) rfl hr rfl rfl) ?_ | refine aqyp (g := 58) 10 rfl (by decide +kernel) (by decide) rfl rfl (fun G => o_loadNp (cs := [_, _, _, _, _, _, _, _, _, _, _, _, _, _, _, _, _, _, _, _, _, _, _, _, _, _, _]) rfl hr1 rfl rfl) ?_ | refine aqyp (g := 58) 10 rfl (by decide +kernel) (by decide) rfl rfl (fun G => o_loadNp (cs := [_, _, _, _, _, _, _, _, _, _, _, _, _, _, _, _, _, _, _, _, _, _, _, _, _, _, _]) rfl hr2 rfl rfl) ?_ | refine aqyp (g := 58) 10 rfl (by decide +kernel) (by decide) rfl rfl (fun G => w_loadR rfl (lkF hF) rfl rfl rfl) ?_ | refine aqyp (g := 58) 10 rfl (by decide +kernel) (by decide) rfl rfl (fun G => w_loadN (cs := [_, _, _, _, _, _, _, _, _, _, _, _, _, _, _, _, _, _, _, _, _, _, _, _, _, _, _]) rfl (lkF hF) rfl rfl rfl rfl) ?_
      refine aqy02 (g := 58) 11 rfl (by decide +kernel) (by decide) rfl rfl (fun _ => V2.call (stat_Jobs p _) rfl) ?_
      first | refine aqyp (g := 58) 12 rfl (by decide +kernel) (by decide) rfl rfl (fun G => w_loadR rfl (lk rfl rfl) rfl rfl rfl) ?_ | refine aqyp (g := 58) 12 rfl (by decide +kernel) (by decide) rfl rfl (fun G => w_loadR rfl (lk rfl rfl) rfl (zadd hr) rfl) ?_ | refine aqyp (g := 58) 12 rfl (by decide +kernel) (by decide) rfl rfl (fun G => w_loadR rfl (lk rfl rfl) rfl (zadd hr1) rfl) ?_ | refine aqyp (g := 58) 12 rfl (by decide +kernel) (by decide) rfl rfl (fun G => w_loadR rfl (lk rfl rfl) rfl (zadd hr2) rfl) ?_ | refine aqyp (g := 58) 12 rfl (by decide +kernel) (by decide) rfl rfl (fun G => w_loadRp rfl hr rfl) ?_ | refine aqyp (g := 58) 12 rfl (by decide +kernel) (by decide) rfl rfl (fun G => w_loadRp rfl hr1 rfl) ?_ | refine aqyp (g := 58) 12 rfl (by decide +kernel) (by decide) rfl rfl (fun G => w_loadRp rfl hr2 rfl) ?_ | refine aqyp (g := 58) 12 rfl (by decide +kernel) (by decide) rfl rfl (fun G => w_loadN (cs := [_, _, _, _, _, _, _, _, _, _, _, _, _, _, _, _, _, _, _, _, _, _, _, _, _, _, _]) rfl (lk rfl rfl) rfl rfl rfl rfl) ?_ | refine aqyp (g := 58) 12 rfl (by decide +kernel) (by decide) rfl rfl (fun G => o_loadNp (cs := [_, _, _, _, _, _, _, _, _, _, _, _, _, _, _, _, _, _, _, _, _, _, _, _, _, _, _]) rfl hr rfl rfl) ?_ | refine aqyp (g := 58) 12 rfl (by decide +kernel) (by decide) rfl rfl (fun G => o_loadNp (cs := [_, _, _, _, _, _, _, _, _, _, _, _, _, _, _, _, _, _, _, _, _, _, _, _, _, _, _]) rfl hr1 rfl rfl) ?_ | refine aqyp (g := 58) 12 rfl (by decide +kernel) (by decide) rfl rfl (fun G => o_loadNp (cs := [_, _, _, _, _, _, _, _, _, _, _, _, _, _, _, _, _, _, _, _, _, _, _, _, _, _, _]) rfl hr2 rfl rfl) ?_ | refine aqyp (g := 58) 12 rfl (by decide +kernel) (by decide) rfl rfl (fun G => w_loadR rfl (lkF hF) rfl rfl rfl) ?_ | refine aqyp (g := 58) 12 rfl (by decide +kernel) (by decide) rfl rfl (fun G => w_loadN (cs := [_, _, _, _, _, _, _, _, _, _, _, _, _, _, _, _, _, _, _, _, _, _, _, _, _, _, _]) rfl (lkF hF) rfl rfl rfl rfl) ?_
      refine aqy02 (g := 58) 13 rfl (by decide +kernel) (by decide) rfl rfl (fun _ => V2.call (stat_Jobs q _) rfl) ?_
      refine aqy0 (g := 58) 14 rfl (by decide +kernel) (by decide) rfl rfl (fun _ => o_add (r := sjobs p + sjobs q) rfl rfl (wrap64_ok (by omega) (by omega))) ?_
      refine aqy0 (g := 58) 15 rfl (by decide +kernel) (by decide) rfl rfl (fun _ => o_ne rfl rfl) ?_
      refine Zck ?_
      exact Zcl
  refine Zc8 ?_
  refine aw_cond rfl (fun hc => ?_) (fun hc => ?_)
  · simp at hc
  refine Zc8 ?_
  refine aw_joinG (G := G3) (fun g => g.s.length = 3 ∧ g.s[g.a]? = some ⟨0, 5, [eK5 (skinds (splus p q))]⟩ ∧ g.s[g.b]? = some ⟨0, 5, [eK5 (skinds p)]⟩ ∧ g.s[g.c]? = some ⟨0, 5, [eK5 (skinds q)]⟩) (fun g => [(6, .pt (Lid H.length 0) 0 0 0), (7, .pt (Lid H.length 1) 0 0 0), (8, .pt (Lid H.length 2) 0 0 0), (16, .pt (Lid H.length (6 + g.a)) 0 0 0), (17, .pt (Lid H.length (6 + g.b)) 0 0 0), (18, .pt (Lid H.length (6 + g.c)) 0 0 0)]) (fun g => H ++ ([⟨0, 27, [eStat a]⟩, ⟨0, 27, [eStat b]⟩, ⟨0, 27, [eStat c]⟩, ⟨0, 27, [eStat snone]⟩, ⟨0, 27, [eStat p]⟩, ⟨0, 27, [eStat q]⟩] ++ g.s)) ?_ ?_
  · refine Zc8 ?_
    refine Zcj ?_
    refine Z19 ?_
    refine Zc0 ?_
    refine Zca ?_
    refine aq02 2 rfl (by decide +kernel) (by decide) (fun _ => V2.call (stat_Plus p q _) rfl) ?_
    refine aq02 3 rfl (by decide +kernel) (by decide) (fun _ => V2.call (stat_Kinds (splus p q) _) rfl) ?_
    first | refine aqp 4 rfl (by decide +kernel) (by decide) (fun G => w_loadR rfl (lk rfl rfl) rfl rfl rfl) ?_ | refine aqp 4 rfl (by decide +kernel) (by decide) (fun G => w_loadR rfl (lk rfl rfl) rfl (zadd hr) rfl) ?_ | refine aqp 4 rfl (by decide +kernel) (by decide) (fun G => w_loadR rfl (lk rfl rfl) rfl (zadd hr1) rfl) ?_ | refine aqp 4 rfl (by decide +kernel) (by decide) (fun G => w_loadR rfl (lk rfl rfl) rfl (zadd hr2) rfl) ?_ | refine aqp 4 rfl (by decide +kernel) (by decide) (fun G => w_loadRp rfl hr rfl) ?_ | refine aqp 4 rfl (by decide +kernel) (by decide) (fun G => w_loadRp rfl hr1 rfl) ?_ | refine aqp 4 rfl (by decide +kernel) (by decide) (fun G => w_loadRp rfl hr2 rfl) ?_ | refine aqp 4 rfl (by decide +kernel) (by decide) (fun G => w_loadN (cs := [_, _, _, _, _, _, _, _, _, _, _, _, _, _, _, _, _, _, _, _, _, _, _, _, _, _, _]) rfl (lk rfl rfl) rfl rfl rfl rfl) ?_ | refine aqp 4 rfl (by decide +kernel) (by decide) (fun G => o_loadNp (cs := [_, _, _, _, _, _, _, _, _, _, _, _, _, _, _, _, _, _, _, _, _, _, _, _, _, _, _]) rfl hr rfl rfl) ?_ | refine aqp 4 rfl (by decide +kernel) (by decide) (fun G => o_loadNp (cs := [_, _, _, _, _, _, _, _, _, _, _, _, _, _, _, _, _, _, _, _, _, _, _, _, _, _, _]) rfl hr1 rfl rfl) ?_ | refine aqp 4 rfl (by decide +kernel) (by decide) (fun G => o_loadNp (cs := [_, _, _, _, _, _, _, _, _, _, _, _, _, _, _, _, _, _, _, _, _, _, _, _, _, _, _]) rfl hr2 rfl rfl) ?_ | refine aqp 4 rfl (by decide +kernel) (by decide) (fun G => w_loadR rfl (lkF hF) rfl rfl rfl) ?_ | refine aqp 4 rfl (by decide +kernel) (by decide) (fun G => w_loadN (cs := [_, _, _, _, _, _, _, _, _, _, _, _, _, _, _, _, _, _, _, _, _, _, _, _, _, _, _]) rfl (lkF hF) rfl rfl rfl rfl) ?_
    refine aq02 5 rfl (by decide +kernel) (by decide) (fun _ => V2.call (stat_Kinds p _) rfl) ?_
    refine Zcd ?_
    refine aq02 7 rfl (by decide +kernel) (by decide) (fun _ => V2.call (stat_Kinds q _) rfl) ?_
    refine aa_all [8, 9, 10] (by decide +kernel) (by simp) (by first | exact fun _ => trivial | exact fun _ => ⟨_, rfl⟩ | exact fun _ => ⟨_, rfl, rfl⟩ | exact fun _ => ⟨_, rfl, rfl, rfl⟩ | exact yet_done (by decide +kernel)) ?_
    simp only [List.forall_mem_cons, List.not_mem_nil, false_implies, implies_true, and_true]
    refine ⟨?_, ?_, ?_⟩
    · refine Zcm ?_
      refine aa_all [9, 10] (by decide +kernel) (by simp) (by first | exact fun _ => trivial | exact fun _ => ⟨_, rfl⟩ | exact fun _ => ⟨_, rfl, rfl⟩ | exact fun _ => ⟨_, rfl, rfl, rfl⟩ | exact yet_done (by decide +kernel)) ?_
      simp only [List.forall_mem_cons, List.not_mem_nil, false_implies, implies_true, and_true]
      refine ⟨?_, ?_⟩
      · refine Zcm ?_
        refine Zcn ?_
        refine Zcq ?_
        first | exact joinG_nrm ⟨[_, _, _], 0, 1, 2⟩ ⟨rfl, rfl, rfl, rfl⟩ (by repeat (first | exact Sub.nil | refine Sub.cons (by first | rfl | (simp [get]; done)) ?_)) (.inl rfl) | exact joinG_nrm ⟨[_, _, _], 0, 2, 1⟩ ⟨rfl, rfl, rfl, rfl⟩ (by repeat (first | exact Sub.nil | refine Sub.cons (by first | rfl | (simp [get]; done)) ?_)) (.inl rfl) | exact joinG_nrm ⟨[_, _, _], 1, 0, 2⟩ ⟨rfl, rfl, rfl, rfl⟩ (by repeat (first | exact Sub.nil | refine Sub.cons (by first | rfl | (simp [get]; done)) ?_)) (.inl rfl) | exact joinG_nrm ⟨[_, _, _], 1, 2, 0⟩ ⟨rfl, rfl, rfl, rfl⟩ (by repeat (first | exact Sub.nil | refine Sub.cons (by first | rfl | (simp [get]; done)) ?_)) (.inl rfl) | exact joinG_nrm ⟨[_, _, _], 2, 0, 1⟩ ⟨rfl, rfl, rfl, rfl⟩ (by repeat (first | exact Sub.nil | refine Sub.cons (by first | rfl | (simp [get]; done)) ?_)) (.inl rfl) | exact joinG_nrm ⟨[_, _, _], 2, 1, 0⟩ ⟨rfl, rfl, rfl, rfl⟩ (by repeat (first | exact Sub.nil | refine Sub.cons (by first | rfl | (simp [get]; done)) ?_)) (.inl rfl)
      · refine Zcm ?_
        refine Zcr ?_
        refine Zcq ?_
        first | exact joinG_nrm ⟨[_, _, _], 0, 1, 2⟩ ⟨rfl, rfl, rfl, rfl⟩ (by repeat (first | exact Sub.nil | refine Sub.cons (by first | rfl | (simp [get]; done)) ?_)) (.inl rfl) | exact joinG_nrm ⟨[_, _, _], 0, 2, 1⟩ ⟨rfl, rfl, rfl, rfl⟩ (by repeat (first | exact Sub.nil | refine Sub.cons (by first | rfl | (simp [get]; done)) ?_)) (.inl rfl) | exact joinG_nrm ⟨[_, _, _], 1, 0, 2⟩ ⟨rfl, rfl, rfl, rfl⟩ (by repeat (first | exact Sub.nil | refine Sub.cons (by first | rfl | (simp [get]; done)) ?_)) (.inl rfl) | exact joinG_nrm ⟨[_, _, _], 1, 2, 0⟩ ⟨rfl, rfl, rfl, rfl⟩ (by repeat (first | exact Sub.nil | refine Sub.cons (by first | rfl | (simp [get]; done)) ?_)) (.inl rfl) | exact joinG_nrm ⟨[_, _, _], 2, 0, 1⟩ ⟨rfl, rfl, rfl, rfl⟩ (by repeat (first | exact Sub.nil | refine Sub.cons (by first | rfl | (simp [get]; done)) ?_)) (.inl rfl) | exact joinG_nrm ⟨[_, _, _], 2, 1, 0⟩ ⟨rfl, rfl, rfl, rfl⟩ (by repeat (first | exact Sub.nil | refine Sub.cons (by first | rfl | (simp [get]; done)) ?_)) (.inl rfl)
    · refine Zcm ?_
      refine aa_all [8, 10] (by decide +kernel) (by simp) (by first | exact fun _ => trivial | exact fun _ => ⟨_, rfl⟩ | exact fun _ => ⟨_, rfl, rfl⟩ | exact fun _ => ⟨_, rfl, rfl, rfl⟩ | exact yet_done (by decide +kernel)) ?_
      simp only [List.forall_mem_cons, List.not_mem_nil, false_implies, implies_true, and_true]
      refine ⟨?_, ?_⟩
      · refine Zcm ?_
        refine Zcn ?_
        refine Zcq ?_
        first | exact joinG_nrm ⟨[_, _, _], 0, 1, 2⟩ ⟨rfl, rfl, rfl, rfl⟩ (by repeat (first | exact Sub.nil | refine Sub.cons (by first | rfl | (simp [get]; done)) ?_)) (.inl rfl) | exact joinG_nrm ⟨[_, _, _], 0, 2, 1⟩ ⟨rfl, rfl, rfl, rfl⟩ (by repeat (first | exact Sub.nil | refine Sub.cons (by first | rfl | (simp [get]; done)) ?_)) (.inl rfl) | exact joinG_nrm ⟨[_, _, _], 1, 0, 2⟩ ⟨rfl, rfl, rfl, rfl⟩ (by repeat (first | exact Sub.nil | refine Sub.cons (by first | rfl | (simp [get]; done)) ?_)) (.inl rfl) | exact joinG_nrm ⟨[_, _, _], 1, 2, 0⟩ ⟨rfl, rfl, rfl, rfl⟩ (by repeat (first | exact Sub.nil | refine Sub.cons (by first | rfl | (simp [get]; done)) ?_)) (.inl rfl) | exact joinG_nrm ⟨[_, _, _], 2, 0, 1⟩ ⟨rfl, rfl, rfl, rfl⟩ (by repeat (first | exact Sub.nil | refine Sub.cons (by first | rfl | (simp [get]; done)) ?_)) (.inl rfl) | exact joinG_nrm ⟨[_, _, _], 2, 1, 0⟩ ⟨rfl, rfl, rfl, rfl⟩ (by repeat (first | exact Sub.nil | refine Sub.cons (by first | rfl | (simp [get]; done)) ?_)) (.inl rfl)
      · refine Zcm ?_
        refine Zcs ?_
        refine Zcq ?_
        first | exact joinG_nrm ⟨[_, _, _], 0, 1, 2⟩ ⟨rfl, rfl, rfl, rfl⟩ (by repeat (first | exact Sub.nil | refine Sub.cons (by first | rfl | (simp [get]; done)) ?_)) (.inl rfl) | exact joinG_nrm ⟨[_, _, _], 0, 2, 1⟩ ⟨rfl, rfl, rfl, rfl⟩ (by repeat (first | exact Sub.nil | refine Sub.cons (by first | rfl | (simp [get]; done)) ?_)) (.inl rfl) | exact joinG_nrm ⟨[_, _, _], 1, 0, 2⟩ ⟨rfl, rfl, rfl, rfl⟩ (by repeat (first | exact Sub.nil | refine Sub.cons (by first | rfl | (simp [get]; done)) ?_)) (.inl rfl) | exact joinG_nrm ⟨[_, _, _], 1, 2, 0⟩ ⟨rfl, rfl, rfl, rfl⟩ (by repeat (first | exact Sub.nil | refine Sub.cons (by first | rfl | (simp [get]; done)) ?_)) (.inl rfl) | exact joinG_nrm ⟨[_, _, _], 2, 0, 1⟩ ⟨rfl, rfl, rfl, rfl⟩ (by repeat (first | exact Sub.nil | refine Sub.cons (by first | rfl | (simp [get]; done)) ?_)) (.inl rfl) | exact joinG_nrm ⟨[_, _, _], 2, 1, 0⟩ ⟨rfl, rfl, rfl, rfl⟩ (by repeat (first | exact Sub.nil | refine Sub.cons (by first | rfl | (simp [get]; done)) ?_)) (.inl rfl)
    · refine Zcm ?_
      refine aa_all [8, 9] (by decide +kernel) (by simp) (by first | exact fun _ => trivial | exact fun _ => ⟨_, rfl⟩ | exact fun _ => ⟨_, rfl, rfl⟩ | exact fun _ => ⟨_, rfl, rfl, rfl⟩ | exact yet_done (by decide +kernel)) ?_
      simp only [List.forall_mem_cons, List.not_mem_nil, false_implies, implies_true, and_true]
      refine ⟨?_, ?_⟩
      · refine Zcm ?_
        refine Zcr ?_
        refine Zcq ?_
        first | exact joinG_nrm ⟨[_, _, _], 0, 1, 2⟩ ⟨rfl, rfl, rfl, rfl⟩ (by repeat (first | exact Sub.nil | refine Sub.cons (by first | rfl | (simp [get]; done)) ?_)) (.inl rfl) | exact joinG_nrm ⟨[_, _, _], 0, 2, 1⟩ ⟨rfl, rfl, rfl, rfl⟩ (by repeat (first | exact Sub.nil | refine Sub.cons (by first | rfl | (simp [get]; done)) ?_)) (.inl rfl) | exact joinG_nrm ⟨[_, _, _], 1, 0, 2⟩ ⟨rfl, rfl, rfl, rfl⟩ (by repeat (first | exact Sub.nil | refine Sub.cons (by first | rfl | (simp [get]; done)) ?_)) (.inl rfl) | exact joinG_nrm ⟨[_, _, _], 1, 2, 0⟩ ⟨rfl, rfl, rfl, rfl⟩ (by repeat (first | exact Sub.nil | refine Sub.cons (by first | rfl | (simp [get]; done)) ?_)) (.inl rfl) | exact joinG_nrm ⟨[_, _, _], 2, 0, 1⟩ ⟨rfl, rfl, rfl, rfl⟩ (by repeat (first | exact Sub.nil | refine Sub.cons (by first | rfl | (simp [get]; done)) ?_)) (.inl rfl) | exact joinG_nrm ⟨[_, _, _], 2, 1, 0⟩ ⟨rfl, rfl, rfl, rfl⟩ (by repeat (first | exact Sub.nil | refine Sub.cons (by first | rfl | (simp [get]; done)) ?_)) (.inl rfl)
      · refine Zcm ?_
        refine Zcs ?_
        refine Zcq ?_
        first | exact joinG_nrm ⟨[_, _, _], 0, 1, 2⟩ ⟨rfl, rfl, rfl, rfl⟩ (by repeat (first | exact Sub.nil | refine Sub.cons (by first | rfl | (simp [get]; done)) ?_)) (.inl rfl) | exact joinG_nrm ⟨[_, _, _], 0, 2, 1⟩ ⟨rfl, rfl, rfl, rfl⟩ (by repeat (first | exact Sub.nil | refine Sub.cons (by first | rfl | (simp [get]; done)) ?_)) (.inl rfl) | exact joinG_nrm ⟨[_, _, _], 1, 0, 2⟩ ⟨rfl, rfl, rfl, rfl⟩ (by repeat (first | exact Sub.nil | refine Sub.cons (by first | rfl | (simp [get]; done)) ?_)) (.inl rfl) | exact joinG_nrm ⟨[_, _, _], 1, 2, 0⟩ ⟨rfl, rfl, rfl, rfl⟩ (by repeat (first | exact Sub.nil | refine Sub.cons (by first | rfl | (simp [get]; done)) ?_)) (.inl rfl) | exact joinG_nrm ⟨[_, _, _], 2, 0, 1⟩ ⟨rfl, rfl, rfl, rfl⟩ (by repeat (first | exact Sub.nil | refine Sub.cons (by first | rfl | (simp [get]; done)) ?_)) (.inl rfl) | exact joinG_nrm ⟨[_, _, _], 2, 1, 0⟩ ⟨rfl, rfl, rfl, rfl⟩ (by repeat (first | exact Sub.nil | refine Sub.cons (by first | rfl | (simp [get]; done)) ?_)) (.inl rfl)
  rintro ⟨s, ia, ib, ic⟩ ⟨hs3, hsa, hsb, hsc⟩
  simp only at hs3 hsa hsb hsc ⊢
  obtain ⟨s0, s1, s2, rfl⟩ : ∃ s0 s1 s2, s = [s0, s1, s2] := by
    rcases s with _ | ⟨s0, _ | ⟨s1, _ | ⟨s2, _ | ⟨s3, s⟩⟩⟩⟩
    · simp at hs3
    · simp at hs3
    · simp at hs3
    · exact ⟨s0, s1, s2, rfl⟩
    · simp at hs3
  have hA := get_behind [⟨0, 27, [eStat a]⟩, ⟨0, 27, [eStat b]⟩, ⟨0, 27, [eStat c]⟩, ⟨0, 27, [eStat snone]⟩, ⟨0, 27, [eStat p]⟩, ⟨0, 27, [eStat q]⟩] hsa
  have hB' := get_behind [⟨0, 27, [eStat a]⟩, ⟨0, 27, [eStat b]⟩, ⟨0, 27, [eStat c]⟩, ⟨0, 27, [eStat snone]⟩, ⟨0, 27, [eStat p]⟩, ⟨0, 27, [eStat q]⟩] hsb
  have hC := get_behind [⟨0, 27, [eStat a]⟩, ⟨0, 27, [eStat b]⟩, ⟨0, 27, [eStat c]⟩, ⟨0, 27, [eStat snone]⟩, ⟨0, 27, [eStat p]⟩, ⟨0, 27, [eStat q]⟩] hsc
  simp only [List.length_cons, List.length_nil, Nat.zero_add, Nat.reduceAdd, List.cons_append, List.nil_append] at hA hB' hC ⊢
  refine Zc9 ?_
  refine Z3 ?_
  refine Z5 ?_
  repeat (first | refine joinG_ret ?_ | refine joinG_brk ?_ | refine join_ret ?_ | refine join_brk ?_ | refine then_nrm ?_ | refine blk_nrm ?_ | refine then_brk ?_ | refine blk_hit ?_ | refine blk_miss rfl ?_ | refine then_ret ?_ | refine blk_ret ?_ | refine aw_seq ?_ | refine aw_block ?_ | refine aw_skip ?_ | refine aw_exit ?_ | refine aw_scope ?_)
  refine aw_loop (G := Nat) (fun i => i ≤ 5) (fun i => [(6, .pt (Lid H.length 0) 0 0 0), (7, .pt (Lid H.length 1) 0 0 0), (8, .pt (Lid H.length 2) 0 0 0), (16, .pt (Lid H.length (6 + ia)) 0 0 0), (17, .pt (Lid H.length (6 + ib)) 0 0 0), (18, .pt (Lid H.length (6 + ic)) 0 0 0), (19, .int .i64 (i : Int))]) (fun _ => H ++ [⟨0, 27, [eStat a]⟩, ⟨0, 27, [eStat b]⟩, ⟨0, 27, [eStat c]⟩, ⟨0, 27, [eStat snone]⟩, ⟨0, 27, [eStat p]⟩, ⟨0, 27, [eStat q]⟩, s0, s1, s2]) (fun i => 5 - i) 0 (Nat.zero_le _) (by repeat (first | exact Sub.nil | refine Sub.cons (by first | rfl | (simp [get]; done)) ?_)) (Fit.refl _ _) ?_
  intro i hi
  refine Zc9 ?_
  refine Za ?_
  refine Zu ?_
  refine Z5 ?_
  refine Zc8 ?_
  refine aw_cond rfl (fun hc => ?_) (fun hc => ?_)
  · have hlt : i < 5 := by simp at hc; omega
    have c1 : (eK5 (skinds (splus p q)))[0 + i * 1]? = some (.int .i64 (skinds (splus p q) i)) := by rw [Nat.zero_add, Nat.mul_one]; exact eK5_get _ hlt
    have c2 : (eK5 (skinds p))[0 + i * 1]? = some (.int .i64 (skinds p i)) := by rw [Nat.zero_add, Nat.mul_one]; exact eK5_get _ hlt
    have c3 : (eK5 (skinds q))[0 + i * 1]? = some (.int .i64 (skinds q i)) := by rw [Nat.zero_add, Nat.mul_one]; exact eK5_get _ hlt
    have k1 := kp i
    have k2 := kq i
    refine Zc8 ?_
    refine aw_of_out 92 (.bool false) ?_ ?_
    · refine aw_drawP mixed none 9 ?_
      refine Z19 ?_
      refine Z3r ?_
      refine aqp 1 rfl (by decide +kernel) (by decide) (fun G => w_indexArrN rfl (lk rfl (get_app hA)) rfl rfl hlt) ?_
      refine aqp 2 rfl (by decide +kernel) (by decide) (fun G => w_load1 (v := .int .i64 _) rfl (lk rfl (get_app hA)) rfl rfl c1) ?_
      refine Z6q ?_
      refine aqp 4 rfl (by decide +kernel) (by decide) (fun G => w_indexArrN rfl (lk rfl (get_app hB')) rfl rfl hlt) ?_
      refine aqp 5 rfl (by decide +kernel) (by decide) (fun G => w_load1 (v := .int .i64 _) rfl (lk rfl (get_app hB')) rfl rfl c2) ?_
      refine Zbm ?_
      refine aqp 7 rfl (by decide +kernel) (by decide) (fun G => w_indexArrN rfl (lk rfl (get_app hC)) rfl rfl hlt) ?_
      refine aqp 8 rfl (by decide +kernel) (by decide) (fun G => w_load1 (v := .int .i64 _) rfl (lk rfl (get_app hC)) rfl rfl c3) ?_
      refine aq0 9 rfl (by decide +kernel) (by decide) (fun _ => o_add (r := skinds p i + skinds q i) rfl rfl (wrap64_ok (by omega) (by omega))) ?_
      refine aq0 10 rfl (by decide +kernel) (by decide) (fun _ => o_ne rfl rfl) ?_
      exact aa_done (by decide +kernel) (by first | exact fun _ => trivial | exact fun _ => ⟨_, rfl⟩ | exact fun _ => ⟨_, rfl, rfl⟩ | exact fun _ => ⟨_, rfl, rfl, rfl⟩ | exact yet_done (by decide +kernel)) (Out.mk (by first | rfl | (refine congrArg AV.bool ?_; (rw [e4]; simp))) (by repeat (first | exact SubX.refl _ _ | refine SubX.at ?_ | refine SubX.put rfl ?_ | refine SubX.put_same rfl ?_)))
    refine Zc8 ?_
    refine aw_cond rfl (fun hc => ?_) (fun hc => ?_)
    · cases hc
    · refine Zc9 ?_
      refine Za ?_
      refine Z1r ?_
      refine Z3 ?_
      refine Z5 ?_
      refine Zc8 ?_
      exact ⟨i + 1, by omega, by omega, (by repeat (first | exact Sub.nil | refine Sub.cons (by first | rfl | (simp [get]; done)) ?_)), .refl _ _⟩
  · have : i = 5 := by simp at hc; omega
    subst this
    refine Zc8 ?_
    refine aw_of_out 12 (.bool true) ?_ ?_
    · refine Za9 ?_
      refine Z19 ?_
      refine Zc0 ?_
      refine Zca ?_
      refine aq02 2 rfl (by decide +kernel) (by decide) (fun _ => V2.call (stat_Plus a b _) rfl) ?_
      refine Zcb ?_
      refine aq02 4 rfl (by decide +kernel) (by decide) (fun _ => V2.call (stat_Plus (splus a b) c _) rfl) ?_
      refine Zcc ?_
      refine Zcd ?_
      first | refine aqp 7 rfl (by decide +kernel) (by decide) (fun G => w_loadR rfl (lk rfl rfl) rfl rfl rfl) ?_ | refine aqp 7 rfl (by decide +kernel) (by decide) (fun G => w_loadR rfl (lk rfl rfl) rfl (zadd hr) rfl) ?_ | refine aqp 7 rfl (by decide +kernel) (by decide) (fun G => w_loadR rfl (lk rfl rfl) rfl (zadd hr1) rfl) ?_ | refine aqp 7 rfl (by decide +kernel) (by decide) (fun G => w_loadR rfl (lk rfl rfl) rfl (zadd hr2) rfl) ?_ | refine aqp 7 rfl (by decide +kernel) (by decide) (fun G => w_loadRp rfl hr rfl) ?_ | refine aqp 7 rfl (by decide +kernel) (by decide) (fun G => w_loadRp rfl hr1 rfl) ?_ | refine aqp 7 rfl (by decide +kernel) (by decide) (fun G => w_loadRp rfl hr2 rfl) ?_ | refine aqp 7 rfl (by decide +kernel) (by decide) (fun G => w_loadN (cs := [_, _, _, _, _, _, _, _, _, _, _, _, _, _, _, _, _, _, _, _, _, _, _, _, _, _, _]) rfl (lk rfl rfl) rfl rfl rfl rfl) ?_ | refine aqp 7 rfl (by decide +kernel) (by decide) (fun G => o_loadNp (cs := [_, _, _, _, _, _, _, _, _, _, _, _, _, _, _, _, _, _, _, _, _, _, _, _, _, _, _]) rfl hr rfl rfl) ?_ | refine aqp 7 rfl (by decide +kernel) (by decide) (fun G => o_loadNp (cs := [_, _, _, _, _, _, _, _, _, _, _, _, _, _, _, _, _, _, _, _, _, _, _, _, _, _, _]) rfl hr1 rfl rfl) ?_ | refine aqp 7 rfl (by decide +kernel) (by decide) (fun G => o_loadNp (cs := [_, _, _, _, _, _, _, _, _, _, _, _, _, _, _, _, _, _, _, _, _, _, _, _, _, _, _]) rfl hr2 rfl rfl) ?_ | refine aqp 7 rfl (by decide +kernel) (by decide) (fun G => w_loadR rfl (lkF hF) rfl rfl rfl) ?_ | refine aqp 7 rfl (by decide +kernel) (by decide) (fun G => w_loadN (cs := [_, _, _, _, _, _, _, _, _, _, _, _, _, _, _, _, _, _, _, _, _, _, _, _, _, _, _]) rfl (lkF hF) rfl rfl rfl rfl) ?_
      refine aq02 8 rfl (by decide +kernel) (by decide) (fun _ => V2.call (stat_Plus b c _) rfl) ?_
      refine aq02 9 rfl (by decide +kernel) (by decide) (fun _ => V2.call (stat_Plus a (splus b c) _) rfl) ?_
      refine aq0 10 rfl (by decide +kernel) (by decide) (fun _ => o_eqAgg (us := uStat (splus (splus a b) c)) (vs := uStat (splus a (splus b c))) (b := true) rfl rfl (stat_flat _) (stat_flat _) (by kernel_rfl) (fun w => (eqStat_run _ _ w).trans (by rw [decide_eq_true e5]))) ?_
      refine Z4d ?_
      exact aa_done (by decide +kernel) (by first | exact fun _ => trivial | exact fun _ => ⟨_, rfl⟩ | exact fun _ => ⟨_, rfl, rfl⟩ | exact fun _ => ⟨_, rfl, rfl, rfl⟩ | exact yet_done (by decide +kernel)) (Out.mk (by first | rfl | (refine congrArg AV.bool ?_; first | (refine Bool.eq_iff_iff.mpr ?_; simp only [Bool.and_eq_true, Bool.or_eq_true, Bool.not_eq_true', decide_eq_true_eq, decide_eq_false_iff_not, beq_iff_eq, bne_iff_ne, beq_eq_false_iff_ne, Bool.false_eq_true, Bool.true_eq_false, Bool.and_eq_false_iff, Bool.or_eq_false_iff, List.length_map, false_iff, true_iff, iff_true, iff_false] at *; omega) | (simp_all; done) | (simp_all; omega) | (simp_all; intros; omega) | (simp only [List.length_map] at *; simp_all; done) | (simp only [List.length_map] at *; simp_all; intros; omega) | grind)) (by repeat (first | exact SubX.refl _ _ | refine SubX.at ?_ | refine SubX.put rfl ?_ | refine SubX.put_same rfl ?_)))
    refine Zc8 ?_
    exact Zd
end Go.Av

/-
  FROM A CALL's CONTRACT TO A ROW, in a world whose table is known.
-/
namespace Go.Av
open Go.RowKit
theorem act_row {P : Program} {w : World} {K : Know} {f : FuncId} {avs : List AV} {us : List Value} {bb : Bool} (h : ACT P K f avs [] (Ret (.bool bb) [])) (hk : Kn K [] w) (hv : All2 (VR (own []) w []) avs us) : Calls P f us.toArray w fun e w' => e = .returned (.bool bb) ∧ Below w.heap.size w w' := by
  refine (h [] w us.toArray hk ⟨rfl, fun _ _ _ h => by simp at h, fun _ _ _ _ _ h => by simp at h⟩ hv.vrs).mono fun e w' => ?_
  rintro ⟨o, H', S', ⟨rfl, rfl⟩, ho, hh, hx⟩
  cases ho with
  | ret hb =>
    cases hb
    exact ⟨rfl, hx.os, hx.tape, hx.output, hx.stp.size, fun k hk => (hx.stp.old k hk (by rintro ⟨i, s, hs, _⟩; simp at hs)).2⟩
/-- A table of numbers that is laid is known. -/
theorem kn_of_tab {P : Program} {W : World} {name : String} {k : IntKind} {zs : List Int} {g : Nat} {K : Know} (hg : P.globalNamed name = some g) (hz : zs ≠ []) (hK : K = ⟨g, zs.map fun z => Value.int k z⟩) (h : Lib.TabIs P W name k zs) : Kn K [] W := by
  subst hK
  have hc : ∀ j v, (zs.map fun z => Value.int k z)[j]? = some v → W.cell? ⟨g, j, none⟩ = some v := by
    intro j v hj
    have := World.var?_cell hg h j
    rw [this]
    simpa using hj
  have hx : ∃ ty fz, W.heap[g]? = some (Obj.cells (zs.map fun z => Value.int k z).toArray ty fz) := by
    unfold Lib.TabIs World.var? at h
    rw [hg] at h
    simp only [Option.bind_some] at h
    split at h
    · rename_i cs ty fz e
      obtain rfl := Option.some.inj h
      exact ⟨ty, fz, e⟩
    · cases h
  refine ⟨by rintro ⟨i, s, hs, _⟩; simp at hs, ?_, hc, hx⟩
  clear hx
  cases zs with
  | nil => exact absurd rfl hz
  | cons z zs =>
    have h0 := hc 0 _ rfl
    show g < W.heap.size
    rcases Nat.lt_or_ge g W.heap.size with h1 | h1
    · exact h1
    · exfalso
      simp [World.cell?, Array.getElem?_eq_none h1] at h0
end Go.Av

/-
  Schedulers, once they are read; the laid table is known.
-/
namespace Go.Av
open Go.Proofs Go.Proofs.YtcncbmpblkgfjaaDoor
open Go.RowKit
set_option linter.unusedVariables false
set_option maxRecDepth 10000
theorem thing_dec {r : List AV} (h : RowIs Tryd.prog 5 [3, 3, 9] r) : ∃ x : Thing, r = eThing x := by
  obtain ⟨a0, r, rfl, h0, h⟩ := row_cons h
  obtain ⟨a1, r, rfl, h1, h⟩ := row_cons h
  obtain ⟨a2, r, rfl, h2, h⟩ := row_cons h
  obtain rfl := row_nil h
  obtain ⟨i0, rfl, _⟩ := cell_int (UdI.ud (P := Tryd.prog) (t := 3)) h0
  obtain ⟨i1, rfl, _⟩ := cell_int (UdI.ud (P := Tryd.prog) (t := 3)) h1
  obtain ⟨i2, rfl, _⟩ := cell_str (UdI.ud (P := Tryd.prog) (t := 9)) h2
  exact ⟨⟨i0, i1, i2⟩, rfl⟩
theorem ints_dec6 {a : AV} (h : CellOk Tryd.prog 6 23 a) : ∃ l : List Int, a = .pl (l.map eI) := by
  have hts : cellTys Tryd.prog (5 + 1) 3 = some [3] := by kernel_rfl
  obtain ⟨rows, rfl, _, h3⟩ := cell_sl (SlI.ud (P := Tryd.prog) (t := 23)) hts h
  obtain ⟨l, rfl⟩ := rows_map (e := eI) (rows := rows) fun r hr => by
    have h := h3 r hr
    obtain ⟨a1, r, rfl, h1, h⟩ := row_cons h
    obtain rfl := row_nil h
    obtain ⟨i1, rfl, _⟩ := cell_int (UdI.ud (P := Tryd.prog) (t := 3)) h1
    exact ⟨i1, rfl⟩
  exact ⟨l, rfl⟩
theorem ints_dec5 {a : AV} (h : CellOk Tryd.prog 5 23 a) : ∃ l : List Int, a = .pl (l.map eI) := by
  have hts : cellTys Tryd.prog (4 + 1) 3 = some [3] := by kernel_rfl
  obtain ⟨rows, rfl, _, h3⟩ := cell_sl (SlI.ud (P := Tryd.prog) (t := 23)) hts h
  obtain ⟨l, rfl⟩ := rows_map (e := eI) (rows := rows) fun r hr => by
    have h := h3 r hr
    obtain ⟨a1, r, rfl, h1, h⟩ := row_cons h
    obtain rfl := row_nil h
    obtain ⟨i1, rfl, _⟩ := cell_int (UdI.ud (P := Tryd.prog) (t := 3)) h1
    exact ⟨i1, rfl⟩
  exact ⟨l, rfl⟩
theorem things_dec {a : AV} (h : CellOk Tryd.prog 6 22 a) : ∃ l : List Thing, a = .pl (l.map eThing) := by
  have hts : cellTys Tryd.prog (5 + 1) 44 = some [3, 3, 9] := by kernel_rfl
  obtain ⟨rows, rfl, _, h3⟩ := cell_sl (SlI.ud (P := Tryd.prog) (t := 22)) hts h
  obtain ⟨l, rfl⟩ := rows_map (e := eThing) (rows := rows) fun r hr => thing_dec (h3 r hr)
  exact ⟨l, rfl⟩
theorem job_dec {r : List AV} (h : RowIs Tryd.prog 5 [3, 3, 3, 3, 9, 4, 2, 3, 23, 3, 2, 2, 2] r) : ∃ x : Job, r = eJob x := by
  obtain ⟨a0, r, rfl, h0, h⟩ := row_cons h
  obtain ⟨a1, r, rfl, h1, h⟩ := row_cons h
  obtain ⟨a2, r, rfl, h2, h⟩ := row_cons h
  obtain ⟨a3, r, rfl, h3, h⟩ := row_cons h
  obtain ⟨a4, r, rfl, h4, h⟩ := row_cons h
  obtain ⟨a5, r, rfl, h5, h⟩ := row_cons h
  obtain ⟨a6, r, rfl, h6, h⟩ := row_cons h
  obtain ⟨a7, r, rfl, h7, h⟩ := row_cons h
  obtain ⟨a8, r, rfl, h8, h⟩ := row_cons h
  obtain ⟨a9, r, rfl, h9, h⟩ := row_cons h
  obtain ⟨a10, r, rfl, h10, h⟩ := row_cons h
  obtain ⟨a11, r, rfl, h11, h⟩ := row_cons h
  obtain ⟨a12, r, rfl, h12, h⟩ := row_cons h
  obtain rfl := row_nil h
  obtain ⟨i0, rfl, _⟩ := cell_int (UdI.ud (P := Tryd.prog) (t := 3)) h0
  obtain ⟨i1, rfl, _⟩ := cell_int (UdI.ud (P := Tryd.prog) (t := 3)) h1
  obtain ⟨i2, rfl, _⟩ := cell_int (UdI.ud (P := Tryd.prog) (t := 3)) h2
  obtain ⟨i3, rfl, _⟩ := cell_int (UdI.ud (P := Tryd.prog) (t := 3)) h3
  obtain ⟨i4, rfl, _⟩ := cell_str (UdI.ud (P := Tryd.prog) (t := 9)) h4
  obtain ⟨i5, rfl⟩ := cell_bool (UdI.ud (P := Tryd.prog) (t := 4)) h5
  obtain ⟨i6, rfl, _⟩ := cell_int (UdI.ud (P := Tryd.prog) (t := 2)) h6
  obtain ⟨i7, rfl, _⟩ := cell_int (UdI.ud (P := Tryd.prog) (t := 3)) h7
  obtain ⟨i8, rfl⟩ := ints_dec5 h8
  obtain ⟨i9, rfl, _⟩ := cell_int (UdI.ud (P := Tryd.prog) (t := 3)) h9
  obtain ⟨i10, rfl, _⟩ := cell_int (UdI.ud (P := Tryd.prog) (t := 2)) h10
  obtain ⟨i11, rfl, _⟩ := cell_int (UdI.ud (P := Tryd.prog) (t := 2)) h11
  obtain ⟨i12, rfl, _⟩ := cell_int (UdI.ud (P := Tryd.prog) (t := 2)) h12
  exact ⟨⟨i0, ⟨i1, i2, i3, i4, i5, i6, i7⟩, i8, i9, i10, i11, i12⟩, rfl⟩
theorem held_dec {r : List AV} (h : RowIs Tryd.prog 5 [3, 23, 2, 2] r) : ∃ x : Held, r = eHeld x := by
  obtain ⟨a0, r, rfl, h0, h⟩ := row_cons h
  obtain ⟨a1, r, rfl, h1, h⟩ := row_cons h
  obtain ⟨a2, r, rfl, h2, h⟩ := row_cons h
  obtain ⟨a3, r, rfl, h3, h⟩ := row_cons h
  obtain rfl := row_nil h
  obtain ⟨i0, rfl, _⟩ := cell_int (UdI.ud (P := Tryd.prog) (t := 3)) h0
  obtain ⟨i1, rfl⟩ := ints_dec5 h1
  obtain ⟨i2, rfl, _⟩ := cell_int (UdI.ud (P := Tryd.prog) (t := 2)) h2
  obtain ⟨i3, rfl, _⟩ := cell_int (UdI.ud (P := Tryd.prog) (t := 2)) h3
  exact ⟨⟨i0, i1, i2, i3⟩, rfl⟩
theorem jobs_dec {a : AV} (h : CellOk Tryd.prog 6 24 a) : ∃ l : List Job, a = .pl (l.map eJob) := by
  have hts : cellTys Tryd.prog (5 + 1) 77 = some [3, 3, 3, 3, 9, 4, 2, 3, 23, 3, 2, 2, 2] := by kernel_rfl
  obtain ⟨rows, rfl, _, h3⟩ := cell_sl (SlI.ud (P := Tryd.prog) (t := 24)) hts h
  obtain ⟨l, rfl⟩ := rows_map (e := eJob) (rows := rows) fun r hr => job_dec (h3 r hr)
  exact ⟨l, rfl⟩
theorem helds_dec {a : AV} (h : CellOk Tryd.prog 6 25 a) : ∃ l : List Held, a = .pl (l.map eHeld) := by
  have hts : cellTys Tryd.prog (5 + 1) 59 = some [3, 23, 2, 2] := by kernel_rfl
  obtain ⟨rows, rfl, _, h3⟩ := cell_sl (SlI.ud (P := Tryd.prog) (t := 25)) hts h
  obtain ⟨l, rfl⟩ := rows_map (e := eHeld) (rows := rows) fun r hr => held_dec (h3 r hr)
  exact ⟨l, rfl⟩
theorem inst_dec {r : List AV} (h : RowIs Tryd.prog 6 [22, 23, 23, 2, 24, 25, 2, 3, 3] r) : ∃ x : Inst, r = eInst x := by
  obtain ⟨a0, r, rfl, h0, h⟩ := row_cons h
  obtain ⟨a1, r, rfl, h1, h⟩ := row_cons h
  obtain ⟨a2, r, rfl, h2, h⟩ := row_cons h
  obtain ⟨a3, r, rfl, h3, h⟩ := row_cons h
  obtain ⟨a4, r, rfl, h4, h⟩ := row_cons h
  obtain ⟨a5, r, rfl, h5, h⟩ := row_cons h
  obtain ⟨a6, r, rfl, h6, h⟩ := row_cons h
  obtain ⟨a7, r, rfl, h7, h⟩ := row_cons h
  obtain ⟨a8, r, rfl, h8, h⟩ := row_cons h
  obtain rfl := row_nil h
  obtain ⟨i0, rfl⟩ := things_dec h0
  obtain ⟨i1, rfl⟩ := ints_dec6 h1
  obtain ⟨i2, rfl⟩ := ints_dec6 h2
  obtain ⟨i3, rfl, _⟩ := cell_int (UdI.ud (P := Tryd.prog) (t := 2)) h3
  obtain ⟨i4, rfl⟩ := jobs_dec h4
  obtain ⟨i5, rfl⟩ := helds_dec h5
  obtain ⟨i6, rfl, _⟩ := cell_int (UdI.ud (P := Tryd.prog) (t := 2)) h6
  obtain ⟨i7, rfl, _⟩ := cell_int (UdI.ud (P := Tryd.prog) (t := 3)) h7
  obtain ⟨i8, rfl, _⟩ := cell_int (UdI.ud (P := Tryd.prog) (t := 3)) h8
  exact ⟨⟨i0, i1, i2, i3, i4, i5, i6, i7, i8⟩, rfl⟩
theorem stat_dec {r : List AV} (h : RowIs Tryd.prog 4 [3, 3, 3, 3, 3, 3, 3, 3, 3, 3, 3, 3, 3, 3, 3, 3, 3, 3, 3, 3, 3, 3, 3, 3, 3, 3, 3] r) : ∃ f : Nat → Int, r = eStat f := by
  obtain ⟨a0, r, rfl, h0, h⟩ := row_cons h
  obtain ⟨a1, r, rfl, h1, h⟩ := row_cons h
  obtain ⟨a2, r, rfl, h2, h⟩ := row_cons h
  obtain ⟨a3, r, rfl, h3, h⟩ := row_cons h
  obtain ⟨a4, r, rfl, h4, h⟩ := row_cons h
  obtain ⟨a5, r, rfl, h5, h⟩ := row_cons h
  obtain ⟨a6, r, rfl, h6, h⟩ := row_cons h
  obtain ⟨a7, r, rfl, h7, h⟩ := row_cons h
  obtain ⟨a8, r, rfl, h8, h⟩ := row_cons h
  obtain ⟨a9, r, rfl, h9, h⟩ := row_cons h
  obtain ⟨a10, r, rfl, h10, h⟩ := row_cons h
  obtain ⟨a11, r, rfl, h11, h⟩ := row_cons h
  obtain ⟨a12, r, rfl, h12, h⟩ := row_cons h
  obtain ⟨a13, r, rfl, h13, h⟩ := row_cons h
  obtain ⟨a14, r, rfl, h14, h⟩ := row_cons h
  obtain ⟨a15, r, rfl, h15, h⟩ := row_cons h
  obtain ⟨a16, r, rfl, h16, h⟩ := row_cons h
  obtain ⟨a17, r, rfl, h17, h⟩ := row_cons h
  obtain ⟨a18, r, rfl, h18, h⟩ := row_cons h
  obtain ⟨a19, r, rfl, h19, h⟩ := row_cons h
  obtain ⟨a20, r, rfl, h20, h⟩ := row_cons h
  obtain ⟨a21, r, rfl, h21, h⟩ := row_cons h
  obtain ⟨a22, r, rfl, h22, h⟩ := row_cons h
  obtain ⟨a23, r, rfl, h23, h⟩ := row_cons h
  obtain ⟨a24, r, rfl, h24, h⟩ := row_cons h
  obtain ⟨a25, r, rfl, h25, h⟩ := row_cons h
  obtain ⟨a26, r, rfl, h26, h⟩ := row_cons h
  obtain rfl := row_nil h
  obtain ⟨i0, rfl, _⟩ := cell_int (UdI.ud (P := Tryd.prog) (t := 3)) h0
  obtain ⟨i1, rfl, _⟩ := cell_int (UdI.ud (P := Tryd.prog) (t := 3)) h1
  obtain ⟨i2, rfl, _⟩ := cell_int (UdI.ud (P := Tryd.prog) (t := 3)) h2
  obtain ⟨i3, rfl, _⟩ := cell_int (UdI.ud (P := Tryd.prog) (t := 3)) h3
  obtain ⟨i4, rfl, _⟩ := cell_int (UdI.ud (P := Tryd.prog) (t := 3)) h4
  obtain ⟨i5, rfl, _⟩ := cell_int (UdI.ud (P := Tryd.prog) (t := 3)) h5
  obtain ⟨i6, rfl, _⟩ := cell_int (UdI.ud (P := Tryd.prog) (t := 3)) h6
  obtain ⟨i7, rfl, _⟩ := cell_int (UdI.ud (P := Tryd.prog) (t := 3)) h7
  obtain ⟨i8, rfl, _⟩ := cell_int (UdI.ud (P := Tryd.prog) (t := 3)) h8
  obtain ⟨i9, rfl, _⟩ := cell_int (UdI.ud (P := Tryd.prog) (t := 3)) h9
  obtain ⟨i10, rfl, _⟩ := cell_int (UdI.ud (P := Tryd.prog) (t := 3)) h10
  obtain ⟨i11, rfl, _⟩ := cell_int (UdI.ud (P := Tryd.prog) (t := 3)) h11
  obtain ⟨i12, rfl, _⟩ := cell_int (UdI.ud (P := Tryd.prog) (t := 3)) h12
  obtain ⟨i13, rfl, _⟩ := cell_int (UdI.ud (P := Tryd.prog) (t := 3)) h13
  obtain ⟨i14, rfl, _⟩ := cell_int (UdI.ud (P := Tryd.prog) (t := 3)) h14
  obtain ⟨i15, rfl, _⟩ := cell_int (UdI.ud (P := Tryd.prog) (t := 3)) h15
  obtain ⟨i16, rfl, _⟩ := cell_int (UdI.ud (P := Tryd.prog) (t := 3)) h16
  obtain ⟨i17, rfl, _⟩ := cell_int (UdI.ud (P := Tryd.prog) (t := 3)) h17
  obtain ⟨i18, rfl, _⟩ := cell_int (UdI.ud (P := Tryd.prog) (t := 3)) h18
  obtain ⟨i19, rfl, _⟩ := cell_int (UdI.ud (P := Tryd.prog) (t := 3)) h19
  obtain ⟨i20, rfl, _⟩ := cell_int (UdI.ud (P := Tryd.prog) (t := 3)) h20
  obtain ⟨i21, rfl, _⟩ := cell_int (UdI.ud (P := Tryd.prog) (t := 3)) h21
  obtain ⟨i22, rfl, _⟩ := cell_int (UdI.ud (P := Tryd.prog) (t := 3)) h22
  obtain ⟨i23, rfl, _⟩ := cell_int (UdI.ud (P := Tryd.prog) (t := 3)) h23
  obtain ⟨i24, rfl, _⟩ := cell_int (UdI.ud (P := Tryd.prog) (t := 3)) h24
  obtain ⟨i25, rfl, _⟩ := cell_int (UdI.ud (P := Tryd.prog) (t := 3)) h25
  obtain ⟨i26, rfl, _⟩ := cell_int (UdI.ud (P := Tryd.prog) (t := 3)) h26
  exact ⟨fun j => [i0, i1, i2, i3, i4, i5, i6, i7, i8, i9, i10, i11, i12, i13, i14, i15, i16, i17, i18, i19, i20, i21, i22, i23, i24, i25, i26].getD j 0, rfl⟩
abbrev laidD : List (String × DataW Unit) := [("math/bits.deBruijn64tab", Rows.laid_math_bits_deBruijn64tab)]
theorem laid_kn {W : World} (h : laidMetH Tryd.prog laidD W) : Kn KD [] W := by
  rw [MakeChecks.laidMetH_plain _ _ _ (by kernel_rfl)] at h
  have hg : Tryd.prog.globalNamed "math/bits.deBruijn64tab" = some 0 := by kernel_rfl
  have h2 : Lib.TabIs Tryd.prog W "math/bits.deBruijn64tab" .u8 (Lib.deBruijn64tab.map fun n : Nat => (n : Int)) :=
    Lib.tabIs_of_head (rest := []) (t := 127) (e := 5) (n := 64) hg (by kernel_rfl) (by kernel_rfl) (by kernel_rfl) (by kernel_rfl) (by kernel_rfl) h
  exact kn_of_tab hg (by decide) (by unfold KD; rw [List.map_map]; rfl) h2
theorem door_met (os : Os) (args : Array Value) : laidMetH Tryd.prog laidD ((World.doorLaid Tryd.prog 400 os).forCall (fun _ _ => 0) ⟨#[], args, []⟩).memory :=
  laidMetH_of_parts3 (fuel := 8) (laidMet_of_run' 8 (by kernel_rfl) (by kernel_rfl)) (by kernel_rfl) (by kernel_rfl)
end Go.Av

