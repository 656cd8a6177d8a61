/- Parts of the proof: rules for an abstract memory, plain laws, and walks through the program. -/
import Derived.Test.YtmalnbmneloogaaOnceP0
import Derived.Test.YtmalnbmneloogaaOnceP2
import Derived.DataReads
import Derived.ChangeOld
import Derived.WalkKit
import Derived.ProofKit
import Derived.OpenShut
import Derived.ShutString
import Derived.Below
import Derived.SizedLaws
import Derived.Carry
set_option linter.unusedVariables false
set_option linter.unusedSimpArgs false
namespace Go.Av
open Go.Proofs
set_option maxRecDepth 10000
set_option linter.unusedSimpArgs false
set_option linter.unusedVariables false


structure Come where
  p : Pipe
  w : List UInt8
  ok : Bool
  deriving DecidableEq
def pleft (p : Pipe) (x : Packet) : List Packet := p.out.filter fun y => decide (x.ack < y.seq)
def pCome (p : Pipe) (x : Packet) : Come :=
  if !pright p || !fine x || x.epoch != p.epoch then ⟨p, [], false⟩
  else if x.seq == p.want && decide (p.want < 1073741824) then ⟨⟨p.epoch, pleft p x, p.next, p.want + 1⟩, x.body, true⟩ else ⟨⟨p.epoch, pleft p x, p.next, p.want⟩, [], false⟩
theorem pright_seq {p : Pipe} (h : pright p = true) : ∀ y ∈ p.out, y.seq ≤ p.next - 1 := by
  intro y hy
  obtain ⟨j, hj⟩ := List.mem_iff_getElem?.1 hy
  have := ((pright_iff p).1 h).2 j y hj
  have hl := (List.getElem?_eq_some_iff.1 hj).1
  simp only [pok, Bool.and_eq_true, beq_iff_eq] at this
  omega
theorem pleft_min {p : Pipe} (h : pright p = true) (x : Packet) : (p.out.filter fun y => !decide (y.seq ≤ min x.ack (p.next - 1))) = pleft p x := by
  unfold pleft
  refine List.filter_congr fun y hy => ?_
  have := pright_seq h y hy
  rw [Bool.eq_iff_iff]
  simp only [Bool.not_eq_true', decide_eq_false_iff_not, decide_eq_true_eq]
  omega

theorem pipe_Come (p : Pipe) (x : Packet) (H : Heap) (hl : p.out.length ≤ 1000000) (hw : ∀ x ∈ p.out, x.body.length ≤ 140737488355328) (hb : x.body.length ≤ 140737488355328) :
    AC Try.prog 28 [.agg (ePipe p), .agg (ePacket x)] H (Ret (.tup [.agg (ePipe (pCome p x).p), .pl ((pCome p x).w.map brow), .bool (pCome p x).ok]) H) := by
  refine AC.body (N := 58) [.cell 4 54, .tmp 5, .tmp 6] Try.func28 rfl rfl rfl (Nat.le_of_ble_eq_true rfl) fun B hB => ?_
  refine Z44 ?_
  refine Zi ?_
  refine Z3z ?_
  refine Z5d ?_
  refine Z41 ?_
  refine Z4u ?_
  refine Zj ?_
  refine Z42 ?_
  refine Z3w ?_
  refine aw_out 26 (.bool (!pright p || !fine x || x.epoch != p.epoch)) ?_ ?_
  · refine Z1b ?_
    refine Z4w ?_
    refine Z1g ?_
    refine Z8 ?_
    refine ao_split rfl rfl (fun hg3 => ?_) (fun hg3 => ?_)
    · refine Z4a ?_
      refine Z5e ?_
      exact Z4r
    · refine Z5f ?_
      refine ao_y rfl rfl (by decide) (V2.call (pipe_Fine _ _) rfl) ?_
      refine Z25 ?_
      refine Zq ?_
      refine ao_split rfl rfl (fun hg8 => ?_) (fun hg8 => ?_)
      · refine Z5e ?_
        exact Z4r
      · refine Zo ?_
        refine Z4g ?_
        exact Z4r
  refine Z3q ?_
  refine aw_cond rfl (fun hc => ?_) (fun hc => ?_)
  · refine Z4x ?_
    refine Z5d ?_
    refine Z3s ?_
    refine aw_freezeC (ys := p.out.map ePacket) (i := 0) (j := 1) 2 rfl rfl rfl rfl rfl (by decide) rfl rfl (by rw [List.drop_zero]; exact take_map_len' _ _) (by simp) (packets_bel 0 _) ?_
    refine aw_nslpl 5 rfl ?_
    refine aw_ret ?_
    rw [show pCome p x = ⟨p, [], false⟩ by rw [pCome, if_pos hc]]
    exact Z5g
  have hc0 := hc
  have hp : pright p = true := by simp at hc; exact hc.1.1
  have hf := pright_facts hp
  have hfx : fine x = true := by simp at hc; exact hc.1.2
  have hfx' := hfx
  simp only [fine, Bool.and_eq_true, decide_eq_true_eq] at hfx'
  refine Z4m ?_
  refine Zl ?_
  refine Z59 ?_
  refine ao1 (by decide) (o_min rfl rfl rfl) ?_
  refine ao2 (by rintro _ ⟨⟩; decide) (o_allocL (sz := 1) rfl (by decide) rfl) ?_
  first | refine ao2 (by rintro _ ⟨⟩) (w_storeP (sz := 1) (v := .int _ _) (r' := [_]) rfl rfl rfl rfl rfl rfl rfl rfl (Nat.le_of_ble_eq_true rfl) rfl) ?_ | refine ao2 (by rintro _ ⟨⟩) (w_storeFP (sz := 1) (v := .int _ _) (r' := [_]) rfl hF rfl rfl rfl rfl rfl (Nat.le_of_ble_eq_true rfl) rfl) ?_ | refine ao2 (by rintro _ ⟨⟩) (w_storeFP (sz := 1) (v := .int _ _) (r' := [_]) rfl hF1 rfl rfl rfl rfl rfl (Nat.le_of_ble_eq_true rfl) rfl) ?_
  refine Z3 ?_
  refine Z41 ?_
  refine ao1 (by decide) (o_makeFunc (vs := []) (us := [_]) rfl rfl) ?_
  refine ao2 (by rintro _ ⟨⟩; decide) (V2.callo3 (slices_DeleteFunc_pipe p.out (min x.ack (p.next - 1)) _ _ _ _ hl (lk rfl rfl) (lk rfl rfl) (by unfold Lid; omega)) rfl rfl) ?_
  refine Zj ?_
  refine Z42 ?_
  refine Z3 ?_
  simp only [pleft_min hp x]
  refine Z3q ?_
  refine aw_out 48 (.bool (!(x.seq == p.want && decide (p.want < 1073741824)))) ?_ ?_
  · refine Zl ?_
    refine Zl ?_
    refine Z2m ?_
    refine Z8 ?_
    refine ao_split rfl rfl (fun hg5 => ?_) (fun hg5 => ?_)
    · refine Z2j ?_
      exact Z4r
    · refine Z3o ?_
      exact Z4r
  refine Z3q ?_
  refine aw_cond rfl (fun hc => ?_) (fun hc => ?_)
  · refine Z4x ?_
    refine Z5d ?_
    refine Z3s ?_
    refine Z5h ?_
    refine aw_nslpl 5 rfl ?_
    refine aw_ret ?_
    rw [show pCome p x = ⟨⟨p.epoch, pleft p x, p.next, p.want⟩, [], false⟩ by rw [pCome, if_neg (by simpa using hc0), if_neg (by intro h; rw [h] at hc; cases hc)]]
    exact Z5g
  · have hc1 : (x.seq == p.want && decide (p.want < 1073741824)) = true := by simpa using hc
    refine Z4m ?_
    refine Z1w ?_
    refine Zj ?_
    refine Z53 ?_
    refine Z3w ?_
    refine Z5i ?_
    refine Z5j ?_
    refine Z5k ?_
    refine Z5l ?_
    refine aq02 3 rfl (by decide +kernel) (by decide) (fun _ => V2.call (bytes_Clone x.body _ hb) rfl) ?_
    first | refine aqs 4 rfl (by decide +kernel) (by first | exact fun _ => trivial | exact fun _ => ⟨_, rfl⟩ | exact fun _ => ⟨_, rfl, rfl⟩ | exact yet_done (by decide +kernel)) (by rintro _ ⟨⟩) (w_storeP (sz := 4) (v := .agg _) (r' := _) rfl rfl rfl rfl rfl rfl rfl rfl (Nat.le_of_ble_eq_true rfl) rfl) ?_ | refine aqs 4 rfl (by decide +kernel) (by first | exact fun _ => trivial | exact fun _ => ⟨_, rfl⟩ | exact fun _ => ⟨_, rfl, rfl⟩ | exact yet_done (by decide +kernel)) (by rintro _ ⟨⟩) (w_storeFP (sz := 4) (v := .agg _) (r' := [_, _, _, _]) rfl hF rfl rfl rfl rfl rfl (Nat.le_of_ble_eq_true rfl) rfl) ?_ | refine aqs 4 rfl (by decide +kernel) (by first | exact fun _ => trivial | exact fun _ => ⟨_, rfl⟩ | exact fun _ => ⟨_, rfl, rfl⟩ | exact yet_done (by decide +kernel)) (by rintro _ ⟨⟩) (w_storeFP (sz := 4) (v := .agg _) (r' := [_, _, _, _]) rfl hF1 rfl rfl rfl rfl rfl (Nat.le_of_ble_eq_true rfl) rfl) ?_
    first | refine aq0 5 rfl (by decide +kernel) (by decide) (fun _ => o_assign (v := .sl _ _ _ _ _) rfl) ?_ | refine aq0 5 rfl (by decide +kernel) (by decide) (fun _ => o_assign (v := .pl _) rfl) ?_ | refine aq0 5 rfl (by decide +kernel) (by decide) (fun _ => o_assign (v := .nsl) rfl) ?_
    refine aq0 6 rfl (by decide +kernel) (by decide) (fun _ => o_assign (v := .bool _) rfl) ?_
    refine Z2d ?_
    refine Z3s ?_
    refine Z5h ?_
    refine aw_ret ?_
    rw [show pCome p x = ⟨⟨p.epoch, pleft p x, p.next, p.want + 1⟩, x.body, true⟩ by rw [pCome, if_neg (by simpa using hc0), if_pos hc1]]
    exact Z5g

theorem ref17_Come (p : Pipe) (x : Packet) (H : Heap) (hl : p.out.length ≤ 1000000) :
    AC Try.prog 29 [.agg (ePipe p), .agg (ePacket x)] H (Ret (.tup [.agg (ePipe (pCome p x).p), .pl ((pCome p x).w.map brow), .bool (pCome p x).ok]) H) := by
  refine AC.body (N := 69) [.cell 4 54, .tmp 5, .tmp 6] Try.func29 rfl rfl rfl (Nat.le_of_ble_eq_true rfl) fun B hB => ?_
  refine Z44 ?_
  refine Zi ?_
  refine Z3z ?_
  refine Z1h ?_
  refine Z45 ?_
  refine aw_out 23 (.bool (!pright p || !fine x || x.epoch != p.epoch)) ?_ ?_
  · refine Z1b ?_
    refine Z56 ?_
    refine Z1g ?_
    refine Z8 ?_
    refine ao_split rfl rfl (fun hg3 => ?_) (fun hg3 => ?_)
    · refine Z4a ?_
      refine Z5e ?_
      exact Z4r
    · refine Z5f ?_
      refine ao_y rfl rfl (by decide) (V2.call (ref17_Fine _ _) rfl) ?_
      refine Z25 ?_
      refine Zq ?_
      refine ao_split rfl rfl (fun hg8 => ?_) (fun hg8 => ?_)
      · refine Z5e ?_
        exact Z4r
      · refine Zo ?_
        refine Z4g ?_
        exact Z4r
  refine Z3q ?_
  refine aw_cond rfl (fun hc => ?_) (fun hc => ?_)
  · refine Z4x ?_
    refine Z5d ?_
    refine Z3s ?_
    refine aw_nslpl 5 rfl ?_
    refine aw_ret ?_
    rw [show pCome p x = ⟨p, [], false⟩ by rw [pCome, if_pos hc]]
    exact Z5g
  have hc0 := hc
  have hp : pright p = true := by simp at hc; exact hc.1.1
  have hf := pright_facts hp
  refine Z3r ?_
  refine Z3t ?_
  refine aw_ghostL (k := 3) 7 4 rfl (by decide) rfl ?_
  refine Z3r ?_
  refine Z4n ?_
  refine aw_loop (G := Nat) (fun k => k ≤ p.out.length) (fun k => [(2, .pt (Lid H.length 0) 0 0 0), (3, .pt (Lid H.length 1) 0 0 0), (4, .pt (Lid H.length 2) 0 0 0), (7, .sl (Lid H.length 3) ((p.out.take k).filter fun y => decide (x.ack < y.seq)).length 0 ((p.out.take k).filter fun y => decide (x.ack < y.seq)).length ((p.out.take k).filter fun y => decide (x.ack < y.seq)).length), (8, .int .i64 (k : Int))]) (fun k => H ++ [⟨0, 4, [ePipe p]⟩, ⟨0, 4, [ePacket x]⟩, ⟨0, 4, [[.int .i64 0, .nsl, .int .i64 0, .int .i64 0]]⟩, ⟨((p.out.take k).filter fun y => decide (x.ack < y.seq)).length, 4, ((p.out.take k).filter fun y => decide (x.ack < y.seq)).map ePacket⟩]) (fun k => p.out.length - k) 0 (Nat.zero_le _) (by repeat (first | exact Sub.nil | refine Sub.cons (by first | rfl | (simp [get]; done)) ?_)) (Fit.refl _ _) ?_
  intro k hk
  refine Z49 ?_
  refine Z1m ?_
  refine Z1q ?_
  refine Z3y ?_
  refine aw_cond rfl (fun hc => ?_) (fun hc => ?_)
  · have hlt : k < p.out.length := by simp at hc; omega
    obtain ⟨y, hy, hyl⟩ := get_in hlt
    have hr := map_get ePacket hy
    have hkl : ((p.out.take k).filter fun y => decide (x.ack < y.seq)).length ≤ 1000000 := Nat.le_trans (List.length_filter_le _ _) (by simp; omega)
    refine Z3q ?_
    refine aw_drawP mixed none 4 ?_
    refine Z29 ?_
    refine Z5m ?_
    first | refine aqp 1 rfl (by decide +kernel) (by decide) (fun G => w_load1 (v := .sl _ _ _ _ _) rfl (lk rfl rfl) rfl rfl rfl) ?_ | refine aqp 1 rfl (by decide +kernel) (by decide) (fun G => w_load1 (v := .pl _) rfl (lk rfl rfl) rfl rfl rfl) ?_ | refine aqp 1 rfl (by decide +kernel) (by decide) (fun G => w_load1 (v := .nsl) rfl (lk rfl rfl) rfl rfl rfl) ?_ | refine aqp 1 rfl (by decide +kernel) (by decide) (fun G => w_load1 (v := .sl _ _ _ _ _) rfl (lk rfl rfl) rfl (zadd hr) rfl) ?_ | refine aqp 1 rfl (by decide +kernel) (by decide) (fun G => w_load1 (v := .sl _ _ _ _ _) rfl (lk rfl rfl) rfl (zadd hr1) rfl) ?_ | refine aqp 1 rfl (by decide +kernel) (by decide) (fun G => w_load1 (v := .sl _ _ _ _ _) rfl (lk rfl rfl) rfl (zadd hr2) rfl) ?_ | refine aqp 1 rfl (by decide +kernel) (by decide) (fun G => w_load1 (v := .pl _) rfl (lk rfl rfl) rfl (zadd hr) rfl) ?_ | refine aqp 1 rfl (by decide +kernel) (by decide) (fun G => w_load1 (v := .pl _) rfl (lk rfl rfl) rfl (zadd hr1) rfl) ?_ | refine aqp 1 rfl (by decide +kernel) (by decide) (fun G => w_load1 (v := .pl _) rfl (lk rfl rfl) rfl (zadd hr2) rfl) ?_ | refine aqp 1 rfl (by decide +kernel) (by decide) (fun G => w_load1 (v := .nsl) rfl (lk rfl rfl) rfl (zadd hr) rfl) ?_ | refine aqp 1 rfl (by decide +kernel) (by decide) (fun G => w_load1 (v := .nsl) rfl (lk rfl rfl) rfl (zadd hr1) rfl) ?_ | refine aqp 1 rfl (by decide +kernel) (by decide) (fun G => w_load1 (v := .nsl) rfl (lk rfl rfl) rfl (zadd hr2) rfl) ?_ | refine aqp 1 rfl (by decide +kernel) (by decide) (fun G => o_load1p (v := .sl _ _ _ _ _) rfl hr rfl) ?_ | refine aqp 1 rfl (by decide +kernel) (by decide) (fun G => o_load1p (v := .sl _ _ _ _ _) rfl hr1 rfl) ?_ | refine aqp 1 rfl (by decide +kernel) (by decide) (fun G => o_load1p (v := .sl _ _ _ _ _) rfl hr2 rfl) ?_ | refine aqp 1 rfl (by decide +kernel) (by decide) (fun G => o_load1p (v := .pl _) rfl hr rfl) ?_ | refine aqp 1 rfl (by decide +kernel) (by decide) (fun G => o_load1p (v := .pl _) rfl hr1 rfl) ?_ | refine aqp 1 rfl (by decide +kernel) (by decide) (fun G => o_load1p (v := .pl _) rfl hr2 rfl) ?_ | refine aqp 1 rfl (by decide +kernel) (by decide) (fun G => o_load1p (v := .nsl) rfl hr rfl) ?_ | refine aqp 1 rfl (by decide +kernel) (by decide) (fun G => o_load1p (v := .nsl) rfl hr1 rfl) ?_ | refine aqp 1 rfl (by decide +kernel) (by decide) (fun G => o_load1p (v := .nsl) rfl hr2 rfl) ?_ | refine aqp 1 rfl (by decide +kernel) (by decide) (fun G => w_load1 (v := .sl _ _ _ _ _) rfl (lkF hF) rfl rfl rfl) ?_ | refine aqp 1 rfl (by decide +kernel) (by decide) (fun G => w_load1 (v := .pl _) rfl (lkF hF) rfl rfl rfl) ?_ | refine aqp 1 rfl (by decide +kernel) (by decide) (fun G => w_load1 (v := .nsl) rfl (lkF hF) rfl rfl rfl) ?_
    refine Z2f ?_
    first | refine aqp 3 rfl (by decide +kernel) (by decide) (fun G => w_indexAddrpN rfl rfl hr rfl) ?_ | refine aqp 3 rfl (by decide +kernel) (by decide) (fun G => w_indexAddrpN rfl rfl hr1 rfl) ?_ | refine aqp 3 rfl (by decide +kernel) (by decide) (fun G => w_indexAddrpN rfl rfl hr2 rfl) ?_ | refine aqp 3 rfl (by decide +kernel) (by decide) (fun G => w_indexAddrN rfl (lk rfl rfl) rfl rfl rfl (by omega)) ?_ | refine aqp 3 rfl (by decide +kernel) (by decide) (fun G => w_indexAddrp rfl rfl (by omega) hr rfl) ?_ | refine aqp 3 rfl (by decide +kernel) (by decide) (fun G => w_indexAddrp rfl rfl (by omega) hr1 rfl) ?_ | refine aqp 3 rfl (by decide +kernel) (by decide) (fun G => w_indexAddrp rfl rfl (by omega) hr2 rfl) ?_ | refine aqp 3 rfl (by decide +kernel) (by decide) (fun G => w_indexAddr rfl (lk rfl rfl) rfl rfl rfl (by omega) (by omega)) ?_
    refine Z5n ?_
    first | refine aqp 5 rfl (by decide +kernel) (by decide) (fun G => w_load1 (v := .int _ _) rfl (lk rfl rfl) rfl rfl rfl) ?_ | refine aqp 5 rfl (by decide +kernel) (by decide) (fun G => w_load1 (v := .int _ _) rfl (lk rfl rfl) rfl (zadd hr) rfl) ?_ | refine aqp 5 rfl (by decide +kernel) (by decide) (fun G => w_load1 (v := .int _ _) rfl (lk rfl rfl) rfl (zadd hr1) rfl) ?_ | refine aqp 5 rfl (by decide +kernel) (by decide) (fun G => w_load1 (v := .int _ _) rfl (lk rfl rfl) rfl (zadd hr2) rfl) ?_ | refine aqp 5 rfl (by decide +kernel) (by decide) (fun G => o_load1p (v := .int _ _) rfl hr rfl) ?_ | refine aqp 5 rfl (by decide +kernel) (by decide) (fun G => o_load1p (v := .int _ _) rfl hr1 rfl) ?_ | refine aqp 5 rfl (by decide +kernel) (by decide) (fun G => o_load1p (v := .int _ _) rfl hr2 rfl) ?_ | refine aqp 5 rfl (by decide +kernel) (by decide) (fun G => w_load1 (v := .int _ _) rfl (lkF hF) rfl rfl rfl) ?_
    refine Z5o ?_
    first | refine aqp 7 rfl (by decide +kernel) (by decide) (fun G => w_load1 (v := .int _ _) rfl (lk rfl rfl) rfl rfl rfl) ?_ | refine aqp 7 rfl (by decide +kernel) (by decide) (fun G => w_load1 (v := .int _ _) rfl (lk rfl rfl) rfl (zadd hr) rfl) ?_ | refine aqp 7 rfl (by decide +kernel) (by decide) (fun G => w_load1 (v := .int _ _) rfl (lk rfl rfl) rfl (zadd hr1) rfl) ?_ | refine aqp 7 rfl (by decide +kernel) (by decide) (fun G => w_load1 (v := .int _ _) rfl (lk rfl rfl) rfl (zadd hr2) rfl) ?_ | refine aqp 7 rfl (by decide +kernel) (by decide) (fun G => o_load1p (v := .int _ _) rfl hr rfl) ?_ | refine aqp 7 rfl (by decide +kernel) (by decide) (fun G => o_load1p (v := .int _ _) rfl hr1 rfl) ?_ | refine aqp 7 rfl (by decide +kernel) (by decide) (fun G => o_load1p (v := .int _ _) rfl hr2 rfl) ?_ | refine aqp 7 rfl (by decide +kernel) (by decide) (fun G => w_load1 (v := .int _ _) rfl (lkF hF) rfl rfl rfl) ?_
    refine aq0 8 rfl (by decide +kernel) (by decide) (fun _ => o_gt rfl rfl) ?_
    refine Z2d ?_
    refine Z3q ?_
    refine aw_cond rfl (fun hc => ?_) (fun hc => ?_)
    · have e : (p.out.take (k + 1)).filter (fun y => decide (x.ack < y.seq)) = ((p.out.take k).filter fun y => decide (x.ack < y.seq)) ++ [y] := by
        rw [take_snoc_get hy, List.filter_append]; simp [hc]
      refine Z3u ?_
      refine Z1m ?_
      refine Z6 ?_
      refine Z1t ?_
      refine Z1b ?_
      refine Z43 ?_
      refine Z1v ?_
      refine Z1i ?_
      refine Z4t ?_
      rw [take_map_len']
      refine ⟨k + 1, by omega, by omega, ?_, ?_⟩
      · rw [e, List.length_append]; exact (by repeat (first | exact Sub.nil | refine Sub.cons (by first | rfl | (simp [get]; done)) ?_))
      · rw [e, List.map_append, List.length_append]
        refine Fit.loc hB rfl (by repeat (first | exact EBel.nil | refine EBel.cons (by first | rfl | (simp [AV.bel, AV.bels, Lid]; done) | (simp [AV.bel, AV.bels, Lid]; omega)) ?_)) ?_
        intro o ho r hr
        simp only [List.mem_cons, List.not_mem_nil, or_false] at ho
        rcases ho with rfl | rfl | rfl | rfl
        · simp only [List.mem_singleton] at hr; subst hr; rfl
        · simp only [List.mem_singleton] at hr; subst hr; rfl
        · simp only [List.mem_singleton] at hr; subst hr; rfl
        · rw [← List.map_append] at hr; exact packets_bel _ _ r hr
    · have e : (p.out.take (k + 1)).filter (fun y => decide (x.ack < y.seq)) = ((p.out.take k).filter fun y => decide (x.ack < y.seq)) := by
        rw [take_snoc_get hy, List.filter_append]; simp
        simpa using hc
      refine Z4t ?_
      refine ⟨k + 1, by omega, by omega, ?_, ?_⟩
      · rw [e]; exact (by repeat (first | exact Sub.nil | refine Sub.cons (by first | rfl | (simp [get]; done)) ?_))
      · rw [e]; exact Fit.refl _ _
  · have : k = p.out.length := by simp at hc; omega
    subst this
    rw [List.take_length]
    rw [show (p.out.filter fun y => decide (x.ack < y.seq)) = pleft p x from rfl]
    refine Z3u ?_
    refine Zj ?_
    refine Z42 ?_
    refine Z3w ?_
    refine aw_out 60 (.bool (x.seq == p.want && decide (p.want < 1073741824))) ?_ ?_
    · refine Zl ?_
      refine Zl ?_
      refine Z28 ?_
      refine Z8 ?_
      refine ao_split rfl rfl (fun hg5 => ?_) (fun hg5 => ?_)
      · refine Zo ?_
        refine Z1d ?_
        exact Z4r
      · refine Z18 ?_
        exact Z4r
    refine Z3q ?_
    refine aw_cond rfl (fun hc => ?_) (fun hc => ?_)
    · refine Z4m ?_
      refine Z1w ?_
      refine Zj ?_
      refine Z53 ?_
      refine Z3w ?_
      refine Z5i ?_
      refine Z5j ?_
      refine Z5k ?_
      refine Z5l ?_
      first | refine aqs 3 rfl (by decide +kernel) (by first | exact fun _ => trivial | exact fun _ => ⟨_, rfl⟩ | exact fun _ => ⟨_, rfl, rfl⟩ | exact yet_done (by decide +kernel)) (by rintro _ ⟨⟩) (w_storeP (sz := 4) (v := .agg _) (r' := _) rfl rfl rfl rfl rfl rfl rfl rfl (Nat.le_of_ble_eq_true rfl) rfl) ?_ | refine aqs 3 rfl (by decide +kernel) (by first | exact fun _ => trivial | exact fun _ => ⟨_, rfl⟩ | exact fun _ => ⟨_, rfl, rfl⟩ | exact yet_done (by decide +kernel)) (by rintro _ ⟨⟩) (w_storeFP (sz := 4) (v := .agg _) (r' := [_, _, _, _]) rfl hF rfl rfl rfl rfl rfl (Nat.le_of_ble_eq_true rfl) rfl) ?_ | refine aqs 3 rfl (by decide +kernel) (by first | exact fun _ => trivial | exact fun _ => ⟨_, rfl⟩ | exact fun _ => ⟨_, rfl, rfl⟩ | exact yet_done (by decide +kernel)) (by rintro _ ⟨⟩) (w_storeFP (sz := 4) (v := .agg _) (r' := [_, _, _, _]) rfl hF1 rfl rfl rfl rfl rfl (Nat.le_of_ble_eq_true rfl) rfl) ?_
      first | refine aq0 4 rfl (by decide +kernel) (by decide) (fun _ => o_assign (v := .sl _ _ _ _ _) rfl) ?_ | refine aq0 4 rfl (by decide +kernel) (by decide) (fun _ => o_assign (v := .pl _) rfl) ?_ | refine aq0 4 rfl (by decide +kernel) (by decide) (fun _ => o_assign (v := .nsl) rfl) ?_
      refine aq0 5 rfl (by decide +kernel) (by decide) (fun _ => o_assign (v := .bool _) rfl) ?_
      refine Z2d ?_
      refine Z3s ?_
      refine Z5h ?_
      refine aw_ret ?_
      rw [show pCome p x = ⟨⟨p.epoch, pleft p x, p.next, p.want + 1⟩, x.body, true⟩ by rw [pCome, if_neg (by simpa using hc0), if_pos hc]]
      exact Z5g
    · refine Z4x ?_
      refine Z5d ?_
      refine Z3s ?_
      refine Z5h ?_
      refine aw_nslpl 5 rfl ?_
      refine aw_ret ?_
      rw [show pCome p x = ⟨⟨p.epoch, pleft p x, p.next, p.want⟩, [], false⟩ by rw [pCome, if_neg (by simpa using hc0), if_neg (by intro h; rw [h] at hc; cases hc)]]
      exact Z5g
end Go.Av

namespace Go.Av
open Go.Proofs
set_option maxRecDepth 10000
set_option linter.unusedSimpArgs false
set_option linter.unusedVariables false


def k1 : Packet := ⟨3, 1, 0, [97]⟩
set_option maxHeartbeats 0 in
theorem law17_awake (H : Heap) : AC Try.prog 24 [] H (Ret (.bool true) H) := by
  have c1 := fun H => pipe_Say ⟨3, [], 1, 1⟩ [97] H (by simp) (by simp) (by simp)
  have c2 := fun H => pipe_Goes ⟨3, [k1], 2, 1⟩ H (by simp) (by simp [k1])
  have c3 := fun H => pipe_Come ⟨3, [], 1, 1⟩ k1 H (by simp) (by simp) (by simp [k1])
  have c4 := fun H => pipe_Goes ⟨3, [], 1, 2⟩ H (by simp) (by simp)
  have c5 := fun H => pipe_Right ⟨3, [], 1, 2⟩ H
  have c0 := fun H => pipe_New 3 H
  rw [show pNew 3 = (⟨3, [], 1, 1⟩, 0) by decide] at c0
  rw [show pSay ⟨3, [], 1, 1⟩ [97] = (⟨3, [k1], 2, 1⟩, 0) by decide] at c1
  rw [show pGoes ⟨3, [k1], 2, 1⟩ = [k1] by decide] at c2
  rw [show pCome ⟨3, [], 1, 1⟩ k1 = ⟨⟨3, [], 1, 2⟩, [97], true⟩ by decide] at c3
  rw [show pGoes ⟨3, [], 1, 2⟩ = [⟨3, 0, 1, []⟩] by decide] at c4
  rw [show pright ⟨3, [], 1, 2⟩ = true by decide] at c5
  refine AC.body (N := 89) [.tmp 0] Try.func24 rfl rfl rfl (Nat.le_of_ble_eq_true rfl) fun B hB => ?_
  refine Z3r ?_
  refine Z4 ?_
  refine Z3r ?_
  refine Z5p ?_
  refine Z5u ?_
  refine Z1y ?_
  refine Z3r ?_
  refine Z5p ?_
  refine Z5u ?_
  refine Z55 ?_
  refine ao_litb [97] rfl (by decide) (by decide) rfl rfl (by decide) (by decide) ?_
  skip
  refine ao2 (by rintro _ ⟨⟩; decide) (V2.callu (c1 _) rfl) ?_
  refine Z5r ?_
  refine Z5s ?_
  refine Z55 ?_
  refine Z5v ?_
  refine Z1i ?_
  have hr := map_get ePacket (show ([k1] : List Packet)[0]? = some k1 from rfl)
  have hr1 := map_get ePacket (show ([⟨3, 0, 1, []⟩] : List Packet)[0]? = some ⟨3, 0, 1, []⟩ from rfl)
  refine Z3q ?_
  refine aw_out 48 (.bool false) ?_ ?_
  · refine Z6 ?_
    refine Z2m ?_
    refine Z8 ?_
    refine ao_split rfl rfl (fun hg2 => ?_) (fun hg2 => ?_)
    · refine Zx ?_
      refine Zq ?_
      refine Zx ?_
      refine Zq ?_
      refine Z4a ?_
      refine Z5e ?_
      refine Zb ?_
      exact Z5w
    · refine Z4o ?_
      refine Zq ?_
      refine ao_split rfl rfl (fun hg6 => ?_) (fun hg6 => ?_)
      · refine Zx ?_
        refine Zq ?_
        refine Z4a ?_
        refine Z5e ?_
        refine Zb ?_
        exact Z5w
      · refine Z4o ?_
        refine Zq ?_
        refine ao_split rfl rfl (fun hg10 => ?_) (fun hg10 => ?_)
        · refine Z4a ?_
          refine Z5e ?_
          refine Zb ?_
          exact Z5w
        · refine Z24 ?_
          refine Zs ?_
          refine Z4f ?_
          refine Zq ?_
          refine ao_split rfl rfl (fun hg15 => ?_) (fun hg15 => ?_)
          · refine Z5e ?_
            refine Zb ?_
            exact Z5w
          · refine Z24 ?_
            refine Z4q ?_
            refine Z4g ?_
            refine Zb ?_
            exact Z5w
  refine Z3q ?_
  refine aw_cond rfl (fun hc => ?_) (fun hc => ?_)
  · simp at hc
  refine Z3q ?_
  refine aw_drawP mixed (some 9) 2 ?_
  refine Z5j ?_
  refine Z5x ?_
  refine Z2o ?_
  refine Z2g ?_
  refine aq02 4 rfl (by decide +kernel) (by decide) (fun _ => V2.call (c3 _) rfl) ?_
  refine Z5y ?_
  refine Z5z ?_
  refine Z60 ?_
  refine Z61 ?_
  first | refine aqs 9 rfl (by decide +kernel) (by first | exact fun _ => trivial | exact fun _ => ⟨_, rfl⟩ | exact fun _ => ⟨_, rfl, rfl⟩ | exact yet_done (by decide +kernel)) (by rintro _ ⟨⟩) (w_storeW (sz := 4) rfl rfl rfl rfl rfl rfl rfl rfl (Nat.le_of_ble_eq_true rfl)) ?_ | refine aqs 9 rfl (by decide +kernel) (by first | exact fun _ => trivial | exact fun _ => ⟨_, rfl⟩ | exact fun _ => ⟨_, rfl, rfl⟩ | exact yet_done (by decide +kernel)) (by rintro _ ⟨⟩) (w_storeFP (sz := 4) (v := .agg _) (r' := [_, _, _, _]) rfl hF rfl rfl rfl rfl rfl (Nat.le_of_ble_eq_true rfl) rfl) ?_ | refine aqs 9 rfl (by decide +kernel) (by first | exact fun _ => trivial | exact fun _ => ⟨_, rfl⟩ | exact fun _ => ⟨_, rfl, rfl⟩ | exact yet_done (by decide +kernel)) (by rintro _ ⟨⟩) (w_storeFP (sz := 4) (v := .agg _) (r' := [_, _, _, _]) rfl hF1 rfl rfl rfl rfl rfl (Nat.le_of_ble_eq_true rfl) rfl) ?_
  first | refine aq0 10 rfl (by decide +kernel) (by decide) (fun _ => o_assign (v := .sl _ _ _ _ _) rfl) ?_ | refine aq0 10 rfl (by decide +kernel) (by decide) (fun _ => o_assign (v := .pl _) rfl) ?_ | refine aq0 10 rfl (by decide +kernel) (by decide) (fun _ => o_assign (v := .nsl) rfl) ?_
  refine aq0 11 rfl (by decide +kernel) (by decide) (fun _ => o_assign (v := .bool _) rfl) ?_
  refine Z2d ?_
  refine Z4v ?_
  refine Z62 ?_
  refine Z1h ?_
  refine Z3w ?_
  refine aw_out 0 (.bool true) ?_ ?_
  · refine Z8 ?_
    refine Z8 ?_
    refine ao_split rfl rfl (fun hg1 => ?_) (fun hg1 => ?_)
    · refine Z24 ?_
      first | refine ao_y1 rfl rfl (by decide) (o_bytesStr rfl) ?_ | refine ao_y1 rfl rfl (by decide) (o_bytesStr_nsl rfl) ?_
      refine ao_y1 rfl rfl (by decide) (o_seqd rfl rfl) ?_
      refine Zq ?_
      refine ao_split rfl rfl (fun hg6 => ?_) (fun hg6 => ?_)
      · refine Z24 ?_
        refine Zs ?_
        refine Z11 ?_
        refine Zq ?_
        refine ao_split rfl rfl (fun hg11 => ?_) (fun hg11 => ?_)
        · refine Z24 ?_
          refine Z4q ?_
          refine Z3o ?_
          refine Zq ?_
          refine ao_split rfl rfl (fun hg18 => ?_) (fun hg18 => ?_)
          · refine Z24 ?_
            refine Z4q ?_
            refine Z3o ?_
            refine Zq ?_
            refine ao_split rfl rfl (fun hg25 => ?_) (fun hg25 => ?_)
            · refine Z5f ?_
              refine ao_y rfl rfl (by decide) (V2.call (c5 _) rfl) ?_
              exact Z64
            · refine Zg ?_
              exact Z64
          · refine Zg ?_
            refine Z19 ?_
            exact Z64
        · refine Zg ?_
          refine Z19 ?_
          refine Z19 ?_
          exact Z64
      · refine Z19 ?_
        refine Z19 ?_
        refine Z19 ?_
        exact Z64
    · refine Z18 ?_
      refine Zq ?_
      refine Z19 ?_
      refine Z19 ?_
      refine Z19 ?_
      exact Z64
  refine Z3q ?_
  exact Zh

set_option maxHeartbeats 0 in
theorem law17_PipeRight (p : Pipe) (b : List UInt8) (x : Packet) (e : Int) (H : Heap) : AC Try.prog 6 [.agg (ePipe p), .pl (b.map brow), .agg (ePacket x), .int .i64 e] H (Ret (.bool true) H) := by
  refine AC.body (N := 157) [.tmp 8] Try.func6 rfl rfl rfl (Nat.le_of_ble_eq_true rfl) fun B hB => ?_
  refine Z44 ?_
  refine Zi ?_
  refine Z4 ?_
  refine Z3r ?_
  refine Z65 ?_
  refine Z4h ?_
  refine aw_cond rfl (fun hc => ?_) (fun hc => ?_)
  · simp at hc
  refine Z3q ?_
  refine aw_out 36 (.bool (!pshort p || decide (5000 < (b.length : Int)) || decide (5000 < (x.body.length : Int)))) ?_ ?_
  · refine Z1b ?_
    refine ao_ret (ref17_Short _ _) rfl (by decide) ?_
    refine Z1g ?_
    refine Z8 ?_
    refine ao_split rfl rfl (fun hg3 => ?_) (fun hg3 => ?_)
    · refine Z4c ?_
      exact Z4p
    · refine Z24 ?_
      refine Zs ?_
      refine Zu ?_
      refine Zq ?_
      refine ao_split rfl rfl (fun hg8 => ?_) (fun hg8 => ?_)
      · refine Z4b ?_
        exact Z4p
      · refine Z3p ?_
        exact Z4r
  refine Z3q ?_
  refine aw_cond rfl (fun hc => ?_) (fun hc => ?_)
  · refine Z48 ?_
    exact Zh
  simp at hc
  obtain ⟨⟨hs, hb5⟩, hx5⟩ := hc
  obtain ⟨hl3, hw2⟩ := pshort_facts hs
  have hl : p.out.length ≤ 1000000 := by omega
  have hw : ∀ w ∈ p.out, w.body.length ≤ 140737488355328 := fun w h => Nat.le_trans (hw2 w h) (by decide)
  have hb : b.length ≤ 140737488355328 := by omega
  have hx : x.body.length ≤ 140737488355328 := by omega
  have l1 : (pSay p b).1.out.length ≤ 1000000 := by unfold pSay; (repeat' split) <;> simp <;> omega
  have l2 : (pCome p x).p.out.length ≤ 1000000 := by
    have : (pleft p x).length ≤ 1000000 := Nat.le_trans (List.length_filter_le _ _) hl
    unfold pCome; (repeat' split) <;> simp <;> omega
  have l3 : (pGoes p).length ≤ 1000000 := by unfold pGoes; (repeat' split) <;> simp <;> omega
  refine Z4v ?_
  refine Z1k ?_
  refine ao2 (by rintro _ ⟨⟩; decide) (V2.call (pipe_Say p b _ hl hw hb) rfl) ?_
  refine Z5u ?_
  refine Z55 ?_
  refine Z1k ?_
  refine ao2 (by rintro _ ⟨⟩; decide) (V2.call (ref17_Say p b _ hl hb) rfl) ?_
  refine Z5u ?_
  refine Z55 ?_
  refine Z1b ?_
  refine ao2 (by rintro _ ⟨⟩; decide) (V2.call (pipe_Come p x _ hl hw hx) rfl) ?_
  refine Z5q ?_
  refine Z66 ?_
  refine Z67 ?_
  refine Z5t ?_
  refine Z5d ?_
  refine Z4v ?_
  refine Z1b ?_
  refine ao2 (by rintro _ ⟨⟩; decide) (V2.call (ref17_Come p x _ hl) rfl) ?_
  refine Z5q ?_
  refine Z66 ?_
  refine Z67 ?_
  refine Z5t ?_
  refine Z5d ?_
  obtain ⟨n, g, hn, hcond⟩ : ∃ n g, pNew e = (n, g) ∧ (0 ≤ e ∧ e ≤ 1073741824 ∧ n = ⟨e, [], 1, 1⟩ ∧ g = 0 ∨ (decide (0 ≤ e) && decide (e ≤ 1073741824)) = false ∧ g = 1) := by
    by_cases he : 0 ≤ e ∧ e ≤ 1073741824
    · exact ⟨_, _, by rw [pNew, if_pos he], .inl ⟨he.1, he.2, rfl, rfl⟩⟩
    · exact ⟨_, _, by rw [pNew, if_neg he], .inr ⟨by simpa using he, rfl⟩⟩
  have c0 := fun H => pipe_New e H
  rw [hn] at c0
  refine Z49 ?_
  refine Z5p ?_
  refine Z5u ?_
  refine Z4j ?_
  refine aw_out 110 (.bool false) ?_ ?_
  · refine Z6 ?_
    refine Z28 ?_
    refine Z6 ?_
    refine Z7 ?_
    refine Z8 ?_
    refine ao_split rfl rfl (fun hg4 => ?_) (fun hg4 => ?_)
    · refine Z9 ?_
      refine Za ?_
      refine Zb ?_
      refine Z68 ?_
      refine Z8 ?_
      refine ao_split rfl rfl (fun hg9 => ?_) (fun hg9 => ?_)
      · refine Z2j ?_
        refine Z14 ?_
        refine Z14 ?_
        refine Z14 ?_
        refine Z14 ?_
        refine Z14 ?_
        refine Zw ?_
        refine Zq ?_
        exact Z6c
      · refine Z9 ?_
        refine Z11 ?_
        refine Zv ?_
        refine ao_split rfl rfl (fun hg12 => ?_) (fun hg12 => ?_)
        · refine Zo ?_
          refine Z6d ?_
          refine ao_split rfl rfl (fun hg17 => ?_) (fun hg17 => ?_)
          · refine Z6f ?_
            refine Z6f ?_
            exact Z6j
          · refine Z4g ?_
            refine Z6e ?_
            refine ao_split rfl rfl (fun hg22 => ?_) (fun hg22 => ?_)
            · refine Z6f ?_
              exact Z6j
            · refine Z4g ?_
              refine Z6e ?_
              refine ao_split rfl rfl (fun hg27 => ?_) (fun hg27 => ?_)
              · exact Z6j
              · refine Zt ?_
                refine Z4f ?_
                refine Z6h ?_
                refine ao_split rfl rfl (fun hg35 => ?_) (fun hg35 => ?_)
                · exact Z6c
                · refine Z6d ?_
                  refine ao_split rfl rfl (fun hg38 => ?_) (fun hg38 => ?_)
                  · refine Z4o ?_
                    exact Z6k
                  · refine Zg ?_
                    exact Z6k
        · refine Zg ?_
          refine Z18 ?_
          refine Z13 ?_
          refine Z12 ?_
          refine Zg ?_
          refine Z13 ?_
          refine Z12 ?_
          refine Z16 ?_
          refine Z6g ?_
          refine Z6d ?_
          refine ao_split rfl rfl (fun hg38 => ?_) (fun hg38 => ?_)
          · refine Z4o ?_
            exact Z6k
          · refine Zg ?_
            exact Z6k
    · refine Zg ?_
      refine Zb ?_
      refine Z68 ?_
      refine Z8 ?_
      refine ao_split rfl rfl (fun hg9 => ?_) (fun hg9 => ?_)
      · refine Z2j ?_
        refine Z14 ?_
        refine Z14 ?_
        refine Z14 ?_
        refine Z14 ?_
        refine Z14 ?_
        refine Zw ?_
        refine Zq ?_
        exact Z6c
      · refine Z9 ?_
        refine Z11 ?_
        refine Zv ?_
        refine ao_split rfl rfl (fun hg12 => ?_) (fun hg12 => ?_)
        · refine Zo ?_
          refine Z6d ?_
          refine ao_split rfl rfl (fun hg17 => ?_) (fun hg17 => ?_)
          · refine Z6f ?_
            refine Z6f ?_
            exact Z6j
          · refine Z4g ?_
            refine Z6e ?_
            refine ao_split rfl rfl (fun hg22 => ?_) (fun hg22 => ?_)
            · refine Z6f ?_
              exact Z6j
            · refine Z4g ?_
              refine Z6e ?_
              refine ao_split rfl rfl (fun hg27 => ?_) (fun hg27 => ?_)
              · exact Z6j
              · refine Zt ?_
                refine Z4f ?_
                refine Z6h ?_
                refine ao_split rfl rfl (fun hg35 => ?_) (fun hg35 => ?_)
                · exact Z6c
                · refine Z6d ?_
                  refine ao_split rfl rfl (fun hg38 => ?_) (fun hg38 => ?_)
                  · refine Z4o ?_
                    exact Z6k
                  · refine Zg ?_
                    exact Z6k
        · refine Zg ?_
          refine Z18 ?_
          refine Z13 ?_
          refine Z12 ?_
          refine Zg ?_
          refine Z13 ?_
          refine Z12 ?_
          refine Z16 ?_
          refine Z6g ?_
          refine Z6d ?_
          refine ao_split rfl rfl (fun hg38 => ?_) (fun hg38 => ?_)
          · refine Z4o ?_
            exact Z6k
          · refine Zg ?_
            exact Z6k
  refine Z3q ?_
  refine aw_cond rfl (fun hc => ?_) (fun hc => ?_)
  · simp at hc
  refine Z3q ?_
  refine aw_of_out 8 (.bool true) ?_ ?_
  · refine Z2e ?_
    refine Z5j ?_
    refine aq02 1 rfl (by decide +kernel) (by decide) (fun _ => V2.call (pipe_Right _ _) rfl) ?_
    refine Z6l ?_
    refine aq02 3 rfl (by decide +kernel) (by decide) (fun _ => V2.call (ref17_Right _ _) rfl) ?_
    refine aq0 4 rfl (by decide +kernel) (by decide) (fun _ => o_beq rfl rfl) ?_
    refine aq0 5 rfl (by decide +kernel) (by decide) (fun _ => o_move (v := .bool _) rfl) ?_
    refine aq_split (g := 116) rfl (fun hg5 => ?_) (fun hg5 => ?_)
    · first | refine aqyp (g := 116) 6 rfl (by decide +kernel) (by decide) rfl rfl (fun G => w_loadR rfl (lk rfl rfl) rfl rfl rfl) ?_ | refine aqyp (g := 116) 6 rfl (by decide +kernel) (by decide) rfl rfl (fun G => w_loadR rfl (lk rfl rfl) rfl (zadd hr) rfl) ?_ | refine aqyp (g := 116) 6 rfl (by decide +kernel) (by decide) rfl rfl (fun G => w_loadR rfl (lk rfl rfl) rfl (zadd hr1) rfl) ?_ | refine aqyp (g := 116) 6 rfl (by decide +kernel) (by decide) rfl rfl (fun G => w_loadR rfl (lk rfl rfl) rfl (zadd hr2) rfl) ?_ | refine aqyp (g := 116) 6 rfl (by decide +kernel) (by decide) rfl rfl (fun G => w_loadRp rfl hr rfl) ?_ | refine aqyp (g := 116) 6 rfl (by decide +kernel) (by decide) rfl rfl (fun G => w_loadRp rfl hr1 rfl) ?_ | refine aqyp (g := 116) 6 rfl (by decide +kernel) (by decide) rfl rfl (fun G => w_loadRp rfl hr2 rfl) ?_ | refine aqyp (g := 116) 6 rfl (by decide +kernel) (by decide) rfl rfl (fun G => w_loadN (cs := [_, _, _, _]) rfl (lk rfl rfl) rfl rfl rfl rfl) ?_ | refine aqyp (g := 116) 6 rfl (by decide +kernel) (by decide) rfl rfl (fun G => o_loadNp (cs := [_, _, _, _]) rfl hr rfl rfl) ?_ | refine aqyp (g := 116) 6 rfl (by decide +kernel) (by decide) rfl rfl (fun G => o_loadNp (cs := [_, _, _, _]) rfl hr1 rfl rfl) ?_ | refine aqyp (g := 116) 6 rfl (by decide +kernel) (by decide) rfl rfl (fun G => o_loadNp (cs := [_, _, _, _]) rfl hr2 rfl rfl) ?_ | refine aqyp (g := 116) 6 rfl (by decide +kernel) (by decide) rfl rfl (fun G => w_loadR rfl (lkF hF) rfl rfl rfl) ?_ | refine aqyp (g := 116) 6 rfl (by decide +kernel) (by decide) rfl rfl (fun G => w_loadN (cs := [_, _, _, _]) rfl (lkF hF) rfl rfl rfl rfl) ?_
      refine aqy02 (g := 116) 7 rfl (by decide +kernel) (by decide) rfl rfl (fun _ => V2.call (pipe_Fine _ _) rfl) ?_
      first | refine aqyp (g := 116) 8 rfl (by decide +kernel) (by decide) rfl rfl (fun G => w_loadR rfl (lk rfl rfl) rfl rfl rfl) ?_ | refine aqyp (g := 116) 8 rfl (by decide +kernel) (by decide) rfl rfl (fun G => w_loadR rfl (lk rfl rfl) rfl (zadd hr) rfl) ?_ | refine aqyp (g := 116) 8 rfl (by decide +kernel) (by decide) rfl rfl (fun G => w_loadR rfl (lk rfl rfl) rfl (zadd hr1) rfl) ?_ | refine aqyp (g := 116) 8 rfl (by decide +kernel) (by decide) rfl rfl (fun G => w_loadR rfl (lk rfl rfl) rfl (zadd hr2) rfl) ?_ | refine aqyp (g := 116) 8 rfl (by decide +kernel) (by decide) rfl rfl (fun G => w_loadRp rfl hr rfl) ?_ | refine aqyp (g := 116) 8 rfl (by decide +kernel) (by decide) rfl rfl (fun G => w_loadRp rfl hr1 rfl) ?_ | refine aqyp (g := 116) 8 rfl (by decide +kernel) (by decide) rfl rfl (fun G => w_loadRp rfl hr2 rfl) ?_ | refine aqyp (g := 116) 8 rfl (by decide +kernel) (by decide) rfl rfl (fun G => w_loadN (cs := [_, _, _, _]) rfl (lk rfl rfl) rfl rfl rfl rfl) ?_ | refine aqyp (g := 116) 8 rfl (by decide +kernel) (by decide) rfl rfl (fun G => o_loadNp (cs := [_, _, _, _]) rfl hr rfl rfl) ?_ | refine aqyp (g := 116) 8 rfl (by decide +kernel) (by decide) rfl rfl (fun G => o_loadNp (cs := [_, _, _, _]) rfl hr1 rfl rfl) ?_ | refine aqyp (g := 116) 8 rfl (by decide +kernel) (by decide) rfl rfl (fun G => o_loadNp (cs := [_, _, _, _]) rfl hr2 rfl rfl) ?_ | refine aqyp (g := 116) 8 rfl (by decide +kernel) (by decide) rfl rfl (fun G => w_loadR rfl (lkF hF) rfl rfl rfl) ?_ | refine aqyp (g := 116) 8 rfl (by decide +kernel) (by decide) rfl rfl (fun G => w_loadN (cs := [_, _, _, _]) rfl (lkF hF) rfl rfl rfl rfl) ?_
      refine aqy02 (g := 116) 9 rfl (by decide +kernel) (by decide) rfl rfl (fun _ => V2.call (ref17_Fine _ _) rfl) ?_
      refine aqy0 (g := 116) 10 rfl (by decide +kernel) (by decide) rfl rfl (fun _ => o_beq rfl rfl) ?_
      refine Z6m ?_
      refine Z6n ?_
      refine aq_split (g := 123) rfl (fun hg12 => ?_) (fun hg12 => ?_)
      · first | refine aqyp (g := 123) 13 rfl (by decide +kernel) (by decide) rfl rfl (fun G => w_loadR rfl (lk rfl rfl) rfl rfl rfl) ?_ | refine aqyp (g := 123) 13 rfl (by decide +kernel) (by decide) rfl rfl (fun G => w_loadR rfl (lk rfl rfl) rfl (zadd hr) rfl) ?_ | refine aqyp (g := 123) 13 rfl (by decide +kernel) (by decide) rfl rfl (fun G => w_loadR rfl (lk rfl rfl) rfl (zadd hr1) rfl) ?_ | refine aqyp (g := 123) 13 rfl (by decide +kernel) (by decide) rfl rfl (fun G => w_loadR rfl (lk rfl rfl) rfl (zadd hr2) rfl) ?_ | refine aqyp (g := 123) 13 rfl (by decide +kernel) (by decide) rfl rfl (fun G => w_loadRp rfl hr rfl) ?_ | refine aqyp (g := 123) 13 rfl (by decide +kernel) (by decide) rfl rfl (fun G => w_loadRp rfl hr1 rfl) ?_ | refine aqyp (g := 123) 13 rfl (by decide +kernel) (by decide) rfl rfl (fun G => w_loadRp rfl hr2 rfl) ?_ | refine aqyp (g := 123) 13 rfl (by decide +kernel) (by decide) rfl rfl (fun G => w_loadN (cs := [_, _, _, _]) rfl (lk rfl rfl) rfl rfl rfl rfl) ?_ | refine aqyp (g := 123) 13 rfl (by decide +kernel) (by decide) rfl rfl (fun G => o_loadNp (cs := [_, _, _, _]) rfl hr rfl rfl) ?_ | refine aqyp (g := 123) 13 rfl (by decide +kernel) (by decide) rfl rfl (fun G => o_loadNp (cs := [_, _, _, _]) rfl hr1 rfl rfl) ?_ | refine aqyp (g := 123) 13 rfl (by decide +kernel) (by decide) rfl rfl (fun G => o_loadNp (cs := [_, _, _, _]) rfl hr2 rfl rfl) ?_ | refine aqyp (g := 123) 13 rfl (by decide +kernel) (by decide) rfl rfl (fun G => w_loadR rfl (lkF hF) rfl rfl rfl) ?_ | refine aqyp (g := 123) 13 rfl (by decide +kernel) (by decide) rfl rfl (fun G => w_loadN (cs := [_, _, _, _]) rfl (lkF hF) rfl rfl rfl rfl) ?_
        first | refine aqyp (g := 123) 14 rfl (by decide +kernel) (by decide) rfl rfl (fun G => w_loadR rfl (lk rfl rfl) rfl rfl rfl) ?_ | refine aqyp (g := 123) 14 rfl (by decide +kernel) (by decide) rfl rfl (fun G => w_loadR rfl (lk rfl rfl) rfl (zadd hr) rfl) ?_ | refine aqyp (g := 123) 14 rfl (by decide +kernel) (by decide) rfl rfl (fun G => w_loadR rfl (lk rfl rfl) rfl (zadd hr1) rfl) ?_ | refine aqyp (g := 123) 14 rfl (by decide +kernel) (by decide) rfl rfl (fun G => w_loadR rfl (lk rfl rfl) rfl (zadd hr2) rfl) ?_ | refine aqyp (g := 123) 14 rfl (by decide +kernel) (by decide) rfl rfl (fun G => w_loadRp rfl hr rfl) ?_ | refine aqyp (g := 123) 14 rfl (by decide +kernel) (by decide) rfl rfl (fun G => w_loadRp rfl hr1 rfl) ?_ | refine aqyp (g := 123) 14 rfl (by decide +kernel) (by decide) rfl rfl (fun G => w_loadRp rfl hr2 rfl) ?_ | refine aqyp (g := 123) 14 rfl (by decide +kernel) (by decide) rfl rfl (fun G => w_loadN (cs := [_, _, _, _]) rfl (lk rfl rfl) rfl rfl rfl rfl) ?_ | refine aqyp (g := 123) 14 rfl (by decide +kernel) (by decide) rfl rfl (fun G => o_loadNp (cs := [_, _, _, _]) rfl hr rfl rfl) ?_ | refine aqyp (g := 123) 14 rfl (by decide +kernel) (by decide) rfl rfl (fun G => o_loadNp (cs := [_, _, _, _]) rfl hr1 rfl rfl) ?_ | refine aqyp (g := 123) 14 rfl (by decide +kernel) (by decide) rfl rfl (fun G => o_loadNp (cs := [_, _, _, _]) rfl hr2 rfl rfl) ?_ | refine aqyp (g := 123) 14 rfl (by decide +kernel) (by decide) rfl rfl (fun G => w_loadR rfl (lkF hF) rfl rfl rfl) ?_ | refine aqyp (g := 123) 14 rfl (by decide +kernel) (by decide) rfl rfl (fun G => w_loadN (cs := [_, _, _, _]) rfl (lkF hF) rfl rfl rfl rfl) ?_
        refine aqy02 (g := 123) 15 rfl (by decide +kernel) (by decide) rfl rfl (fun _ => V2.call (ref17_Same _ _ _ l1) rfl) ?_
        refine Z6o ?_
        refine Z6p ?_
        refine aq_split (g := 128) rfl (fun hg17 => ?_) (fun hg17 => ?_)
        · refine aqy0 (g := 128) 18 rfl (by decide +kernel) (by decide) rfl rfl (fun _ => o_move (v := .int _ _) rfl) ?_
          refine aqy0 (g := 128) 19 rfl (by decide +kernel) (by decide) rfl rfl (fun _ => o_move (v := .int _ _) rfl) ?_
          refine aqy0 (g := 128) 20 rfl (by decide +kernel) (by decide) rfl rfl (fun _ => o_eq rfl rfl) ?_
          refine Z6q ?_
          refine Z6r ?_
          refine aq_split (g := 133) rfl (fun hg22 => ?_) (fun hg22 => ?_)
          · first | refine aqyp (g := 133) 23 rfl (by decide +kernel) (by decide) rfl rfl (fun G => w_loadR rfl (lk rfl rfl) rfl rfl rfl) ?_ | refine aqyp (g := 133) 23 rfl (by decide +kernel) (by decide) rfl rfl (fun G => w_loadR rfl (lk rfl rfl) rfl (zadd hr) rfl) ?_ | refine aqyp (g := 133) 23 rfl (by decide +kernel) (by decide) rfl rfl (fun G => w_loadR rfl (lk rfl rfl) rfl (zadd hr1) rfl) ?_ | refine aqyp (g := 133) 23 rfl (by decide +kernel) (by decide) rfl rfl (fun G => w_loadR rfl (lk rfl rfl) rfl (zadd hr2) rfl) ?_ | refine aqyp (g := 133) 23 rfl (by decide +kernel) (by decide) rfl rfl (fun G => w_loadRp rfl hr rfl) ?_ | refine aqyp (g := 133) 23 rfl (by decide +kernel) (by decide) rfl rfl (fun G => w_loadRp rfl hr1 rfl) ?_ | refine aqyp (g := 133) 23 rfl (by decide +kernel) (by decide) rfl rfl (fun G => w_loadRp rfl hr2 rfl) ?_ | refine aqyp (g := 133) 23 rfl (by decide +kernel) (by decide) rfl rfl (fun G => w_loadN (cs := [_, _, _, _]) rfl (lk rfl rfl) rfl rfl rfl rfl) ?_ | refine aqyp (g := 133) 23 rfl (by decide +kernel) (by decide) rfl rfl (fun G => o_loadNp (cs := [_, _, _, _]) rfl hr rfl rfl) ?_ | refine aqyp (g := 133) 23 rfl (by decide +kernel) (by decide) rfl rfl (fun G => o_loadNp (cs := [_, _, _, _]) rfl hr1 rfl rfl) ?_ | refine aqyp (g := 133) 23 rfl (by decide +kernel) (by decide) rfl rfl (fun G => o_loadNp (cs := [_, _, _, _]) rfl hr2 rfl rfl) ?_ | refine aqyp (g := 133) 23 rfl (by decide +kernel) (by decide) rfl rfl (fun G => w_loadR rfl (lkF hF) rfl rfl rfl) ?_ | refine aqyp (g := 133) 23 rfl (by decide +kernel) (by decide) rfl rfl (fun G => w_loadN (cs := [_, _, _, _]) rfl (lkF hF) rfl rfl rfl rfl) ?_
            first | refine aqyp (g := 133) 24 rfl (by decide +kernel) (by decide) rfl rfl (fun G => w_loadR rfl (lk rfl rfl) rfl rfl rfl) ?_ | refine aqyp (g := 133) 24 rfl (by decide +kernel) (by decide) rfl rfl (fun G => w_loadR rfl (lk rfl rfl) rfl (zadd hr) rfl) ?_ | refine aqyp (g := 133) 24 rfl (by decide +kernel) (by decide) rfl rfl (fun G => w_loadR rfl (lk rfl rfl) rfl (zadd hr1) rfl) ?_ | refine aqyp (g := 133) 24 rfl (by decide +kernel) (by decide) rfl rfl (fun G => w_loadR rfl (lk rfl rfl) rfl (zadd hr2) rfl) ?_ | refine aqyp (g := 133) 24 rfl (by decide +kernel) (by decide) rfl rfl (fun G => w_loadRp rfl hr rfl) ?_ | refine aqyp (g := 133) 24 rfl (by decide +kernel) (by decide) rfl rfl (fun G => w_loadRp rfl hr1 rfl) ?_ | refine aqyp (g := 133) 24 rfl (by decide +kernel) (by decide) rfl rfl (fun G => w_loadRp rfl hr2 rfl) ?_ | refine aqyp (g := 133) 24 rfl (by decide +kernel) (by decide) rfl rfl (fun G => w_loadN (cs := [_, _, _, _]) rfl (lk rfl rfl) rfl rfl rfl rfl) ?_ | refine aqyp (g := 133) 24 rfl (by decide +kernel) (by decide) rfl rfl (fun G => o_loadNp (cs := [_, _, _, _]) rfl hr rfl rfl) ?_ | refine aqyp (g := 133) 24 rfl (by decide +kernel) (by decide) rfl rfl (fun G => o_loadNp (cs := [_, _, _, _]) rfl hr1 rfl rfl) ?_ | refine aqyp (g := 133) 24 rfl (by decide +kernel) (by decide) rfl rfl (fun G => o_loadNp (cs := [_, _, _, _]) rfl hr2 rfl rfl) ?_ | refine aqyp (g := 133) 24 rfl (by decide +kernel) (by decide) rfl rfl (fun G => w_loadR rfl (lkF hF) rfl rfl rfl) ?_ | refine aqyp (g := 133) 24 rfl (by decide +kernel) (by decide) rfl rfl (fun G => w_loadN (cs := [_, _, _, _]) rfl (lkF hF) rfl rfl rfl rfl) ?_
            refine aqy02 (g := 133) 25 rfl (by decide +kernel) (by decide) rfl rfl (fun _ => V2.call (ref17_Same _ _ _ l2) rfl) ?_
            refine Z6s ?_
            refine Z6t ?_
            refine aq_split (g := 138) rfl (fun hg27 => ?_) (fun hg27 => ?_)
            · first | refine aqy0 (g := 138) 28 rfl (by decide +kernel) (by decide) rfl rfl (fun _ => o_move (v := .sl _ _ _ _ _) rfl) ?_ | refine aqy0 (g := 138) 28 rfl (by decide +kernel) (by decide) rfl rfl (fun _ => o_move (v := .pl _) rfl) ?_ | refine aqy0 (g := 138) 28 rfl (by decide +kernel) (by decide) rfl rfl (fun _ => o_move (v := .nsl) rfl) ?_
              first | refine aqy0 (g := 138) 29 rfl (by decide +kernel) (by decide) rfl rfl (fun _ => o_bytesStr rfl) ?_ | refine aqy0 (g := 138) 29 rfl (by decide +kernel) (by decide) rfl rfl (fun _ => o_bytesStr_nsl rfl) ?_
              first | refine aqy0 (g := 138) 30 rfl (by decide +kernel) (by decide) rfl rfl (fun _ => o_move (v := .sl _ _ _ _ _) rfl) ?_ | refine aqy0 (g := 138) 30 rfl (by decide +kernel) (by decide) rfl rfl (fun _ => o_move (v := .pl _) rfl) ?_ | refine aqy0 (g := 138) 30 rfl (by decide +kernel) (by decide) rfl rfl (fun _ => o_move (v := .nsl) rfl) ?_
              first | refine aqy0 (g := 138) 31 rfl (by decide +kernel) (by decide) rfl rfl (fun _ => o_bytesStr rfl) ?_ | refine aqy0 (g := 138) 31 rfl (by decide +kernel) (by decide) rfl rfl (fun _ => o_bytesStr_nsl rfl) ?_
              refine aqy0 (g := 138) 32 rfl (by decide +kernel) (by decide) rfl rfl (fun _ => o_seqd rfl rfl) ?_
              refine Z6u ?_
              refine aq_split (g := 145) rfl (fun hg34 => ?_) (fun hg34 => ?_)
              · refine aqy0 (g := 145) 35 rfl (by decide +kernel) (by decide) rfl rfl (fun _ => o_move (v := .bool _) rfl) ?_
                refine aqy0 (g := 145) 36 rfl (by decide +kernel) (by decide) rfl rfl (fun _ => o_move (v := .bool _) rfl) ?_
                refine aqy0 (g := 145) 37 rfl (by decide +kernel) (by decide) rfl rfl (fun _ => o_beq rfl rfl) ?_
                refine Z6v ?_
                refine aq_split (g := 150) rfl (fun hg39 => ?_) (fun hg39 => ?_)
                · first | refine aqyp (g := 150) 40 rfl (by decide +kernel) (by decide) rfl rfl (fun G => w_loadR rfl (lk rfl rfl) rfl rfl rfl) ?_ | refine aqyp (g := 150) 40 rfl (by decide +kernel) (by decide) rfl rfl (fun G => w_loadR rfl (lk rfl rfl) rfl (zadd hr) rfl) ?_ | refine aqyp (g := 150) 40 rfl (by decide +kernel) (by decide) rfl rfl (fun G => w_loadR rfl (lk rfl rfl) rfl (zadd hr1) rfl) ?_ | refine aqyp (g := 150) 40 rfl (by decide +kernel) (by decide) rfl rfl (fun G => w_loadR rfl (lk rfl rfl) rfl (zadd hr2) rfl) ?_ | refine aqyp (g := 150) 40 rfl (by decide +kernel) (by decide) rfl rfl (fun G => w_loadRp rfl hr rfl) ?_ | refine aqyp (g := 150) 40 rfl (by decide +kernel) (by decide) rfl rfl (fun G => w_loadRp rfl hr1 rfl) ?_ | refine aqyp (g := 150) 40 rfl (by decide +kernel) (by decide) rfl rfl (fun G => w_loadRp rfl hr2 rfl) ?_ | refine aqyp (g := 150) 40 rfl (by decide +kernel) (by decide) rfl rfl (fun G => w_loadN (cs := [_, _, _, _]) rfl (lk rfl rfl) rfl rfl rfl rfl) ?_ | refine aqyp (g := 150) 40 rfl (by decide +kernel) (by decide) rfl rfl (fun G => o_loadNp (cs := [_, _, _, _]) rfl hr rfl rfl) ?_ | refine aqyp (g := 150) 40 rfl (by decide +kernel) (by decide) rfl rfl (fun G => o_loadNp (cs := [_, _, _, _]) rfl hr1 rfl rfl) ?_ | refine aqyp (g := 150) 40 rfl (by decide +kernel) (by decide) rfl rfl (fun G => o_loadNp (cs := [_, _, _, _]) rfl hr2 rfl rfl) ?_ | refine aqyp (g := 150) 40 rfl (by decide +kernel) (by decide) rfl rfl (fun G => w_loadR rfl (lkF hF) rfl rfl rfl) ?_ | refine aqyp (g := 150) 40 rfl (by decide +kernel) (by decide) rfl rfl (fun G => w_loadN (cs := [_, _, _, _]) rfl (lkF hF) rfl rfl rfl rfl) ?_
                  refine aqy02 (g := 150) 41 rfl (by decide +kernel) (by decide) rfl rfl (fun _ => V2.call (pipe_Goes p _ hl hw) rfl) ?_
                  first | refine aqyp (g := 150) 42 rfl (by decide +kernel) (by decide) rfl rfl (fun G => w_loadR rfl (lk rfl rfl) rfl rfl rfl) ?_ | refine aqyp (g := 150) 42 rfl (by decide +kernel) (by decide) rfl rfl (fun G => w_loadR rfl (lk rfl rfl) rfl (zadd hr) rfl) ?_ | refine aqyp (g := 150) 42 rfl (by decide +kernel) (by decide) rfl rfl (fun G => w_loadR rfl (lk rfl rfl) rfl (zadd hr1) rfl) ?_ | refine aqyp (g := 150) 42 rfl (by decide +kernel) (by decide) rfl rfl (fun G => w_loadR rfl (lk rfl rfl) rfl (zadd hr2) rfl) ?_ | refine aqyp (g := 150) 42 rfl (by decide +kernel) (by decide) rfl rfl (fun G => w_loadRp rfl hr rfl) ?_ | refine aqyp (g := 150) 42 rfl (by decide +kernel) (by decide) rfl rfl (fun G => w_loadRp rfl hr1 rfl) ?_ | refine aqyp (g := 150) 42 rfl (by decide +kernel) (by decide) rfl rfl (fun G => w_loadRp rfl hr2 rfl) ?_ | refine aqyp (g := 150) 42 rfl (by decide +kernel) (by decide) rfl rfl (fun G => w_loadN (cs := [_, _, _, _]) rfl (lk rfl rfl) rfl rfl rfl rfl) ?_ | refine aqyp (g := 150) 42 rfl (by decide +kernel) (by decide) rfl rfl (fun G => o_loadNp (cs := [_, _, _, _]) rfl hr rfl rfl) ?_ | refine aqyp (g := 150) 42 rfl (by decide +kernel) (by decide) rfl rfl (fun G => o_loadNp (cs := [_, _, _, _]) rfl hr1 rfl rfl) ?_ | refine aqyp (g := 150) 42 rfl (by decide +kernel) (by decide) rfl rfl (fun G => o_loadNp (cs := [_, _, _, _]) rfl hr2 rfl rfl) ?_ | refine aqyp (g := 150) 42 rfl (by decide +kernel) (by decide) rfl rfl (fun G => w_loadR rfl (lkF hF) rfl rfl rfl) ?_ | refine aqyp (g := 150) 42 rfl (by decide +kernel) (by decide) rfl rfl (fun G => w_loadN (cs := [_, _, _, _]) rfl (lkF hF) rfl rfl rfl rfl) ?_
                  refine aqy02 (g := 150) 43 rfl (by decide +kernel) (by decide) rfl rfl (fun _ => V2.call (ref17_Goes p _ hl) rfl) ?_
                  refine aqy02 (g := 150) 44 rfl (by decide +kernel) (by decide) rfl rfl (fun _ => V2.call (ref17_Packets _ _ _ l3) rfl) ?_
                  exact Z6x
                · exact Z72
              · exact Z76
            · refine Z77 ?_
              refine Z78 ?_
              refine Z79 ?_
              refine Z7a ?_
              refine Z7b ?_
              refine Z6u ?_
              exact Z76
          · refine Z7c ?_
            refine Z7d ?_
            refine Z7e ?_
            refine Z6s ?_
            refine Z6t ?_
            refine Z77 ?_
            refine Z78 ?_
            refine Z79 ?_
            refine Z7a ?_
            refine Z7b ?_
            refine Z6u ?_
            exact Z76
        · refine Z7f ?_
          refine Z7g ?_
          refine Z7h ?_
          refine Z6q ?_
          refine Z6r ?_
          refine Z7c ?_
          refine Z7d ?_
          refine Z7e ?_
          refine Z6s ?_
          refine Z6t ?_
          refine Z77 ?_
          refine Z78 ?_
          refine Z79 ?_
          refine Z7a ?_
          refine Z7b ?_
          refine Z6u ?_
          exact Z76
      · refine Z7i ?_
        refine Z7j ?_
        refine Z7k ?_
        refine Z6o ?_
        refine Z6p ?_
        refine Z7f ?_
        refine Z7g ?_
        refine Z7h ?_
        refine Z6q ?_
        refine Z6r ?_
        refine Z7c ?_
        refine Z7d ?_
        refine Z7e ?_
        refine Z6s ?_
        refine Z6t ?_
        refine Z77 ?_
        refine Z78 ?_
        refine Z79 ?_
        refine Z7a ?_
        refine Z7b ?_
        refine Z6u ?_
        exact Z76
    · refine aqn0 (g := 116) 6 rfl (by decide +kernel) (by decide) rfl rfl rfl ?_
      refine aqn0 (g := 116) 7 rfl (by decide +kernel) (by decide) rfl rfl rfl ?_
      refine aqn0 (g := 116) 8 rfl (by decide +kernel) (by decide) rfl rfl rfl ?_
      refine aqn0 (g := 116) 9 rfl (by decide +kernel) (by decide) rfl rfl rfl ?_
      refine aqn0 (g := 116) 10 rfl (by decide +kernel) (by decide) rfl rfl rfl ?_
      refine Z6m ?_
      refine Z6n ?_
      refine Z7i ?_
      refine Z7j ?_
      refine Z7k ?_
      refine Z6o ?_
      refine Z6p ?_
      refine Z7f ?_
      refine Z7g ?_
      refine Z7h ?_
      refine Z6q ?_
      refine Z6r ?_
      refine Z7c ?_
      refine Z7d ?_
      refine Z7e ?_
      refine Z6s ?_
      refine Z6t ?_
      refine Z77 ?_
      refine Z78 ?_
      refine Z79 ?_
      refine Z7a ?_
      refine Z7b ?_
      refine Z6u ?_
      exact Z76
  refine Z3q ?_
  exact Zh
end Go.Av

namespace Go.Av
open Go.Proofs
set_option maxRecDepth 10000
set_option linter.unusedSimpArgs false
set_option linter.unusedVariables false


/-- An end that has said the same word again and again: `s` were acknowledged, `k` wait. -/
def pp (e : Int) (b : List UInt8) (s k : Nat) (w : Int) : Pipe := ⟨e, (List.range k).map fun j => ⟨e, ((s + 1 + j : Nat) : Int), 0, b⟩, ((s + k + 1 : Nat) : Int), w⟩
theorem pp_len (e : Int) (b : List UInt8) (s k : Nat) (w : Int) : (pp e b s k w).out.length = k := by simp [pp]
theorem pp_get {e : Int} {b : List UInt8} {s k j : Nat} {w : Int} {x : Packet} (h : (pp e b s k w).out[j]? = some x) : j < k ∧ x = ⟨e, ((s + 1 + j : Nat) : Int), 0, b⟩ := by
  simp only [pp, List.getElem?_map] at h
  by_cases hj : j < k
  · rw [List.getElem?_range hj] at h
    exact ⟨hj, (Option.some.inj h).symm⟩
  · rw [List.getElem?_eq_none (by simp; omega)] at h
    cases h
theorem pp_right {e : Int} {b : List UInt8} {s k : Nat} {w : Int} (he : 0 ≤ e ∧ e ≤ 65535) (hb : b.length ≤ 4096) (hs : s ≤ 100) (hk : k ≤ 16) (hw : 1 ≤ w ∧ w ≤ 1000) : pright (pp e b s k w) = true := by
  rw [pright_iff]
  refine ⟨?_, fun j x hx => ?_⟩
  · simp only [phead, pp_len, Bool.and_eq_true, decide_eq_true_eq]
    simp only [pp]
    omega
  · obtain ⟨h1, rfl⟩ := pp_get hx
    simp only [pok, pp_len, Bool.and_eq_true, beq_iff_eq, decide_eq_true_eq]
    simp only [pp]
    refine ⟨⟨⟨?_, ?_⟩, ?_⟩, ?_⟩ <;> first | trivial | omega
theorem pp_say {e : Int} {b : List UInt8} {s k : Nat} {w : Int} (he : 0 ≤ e ∧ e ≤ 65535) (hb : b.length ≤ 4096) (hs : s ≤ 100) (hk : k ≤ 16) (hw : 1 ≤ w ∧ w ≤ 1000) : pSay (pp e b s k w) b = if k < 16 then (pp e b s (k + 1) w, 0) else (pp e b s k w, 5) := by
  rw [pSay, if_neg (by simp [pp_right he hb hs hk hw]), if_neg (by omega), pp_len]
  by_cases h : k < 16
  · rw [if_neg (by omega), if_neg (by simp only [pp]; omega), if_pos h]
    simp only [pp, List.range_succ, List.map_append, List.map_cons, List.map_nil]
    simp
    omega
  · rw [if_pos (by omega), if_neg h]
theorem pp_new {e : Int} (b : List UInt8) (he : 0 ≤ e ∧ e ≤ 65535) : pNew e = (pp e b 0 0 1, 0) := by rw [pNew, if_pos (by omega)]; rfl
theorem pp_left (e : Int) (b : List UInt8) (m : Nat) (x : Packet) (hx : x.ack = m) : pleft (pp e b 0 16 1) x = (pp e b (min m 16) (16 - min m 16) 1).out := by
  have h16 : (16 : Nat) = min m 16 + (16 - min m 16) := by omega
  simp only [pleft, pp, hx]
  conv => lhs; rw [h16, List.range_add]
  rw [List.map_append, List.filter_append]
  rw [show ((List.range (min m 16)).map fun j => (⟨e, ((0 + 1 + j : Nat) : Int), 0, b⟩ : Packet)).filter (fun y => decide ((m : Int) < y.seq)) = [] by
    rw [List.filter_eq_nil_iff]
    intro y hy
    simp only [List.mem_map, List.mem_range] at hy
    obtain ⟨j, hj, rfl⟩ := hy
    simp only [decide_eq_true_eq]
    omega]
  rw [List.nil_append, List.map_map]
  by_cases hm : m ≤ 16
  · rw [List.filter_eq_self.2]
    · refine List.map_congr_left fun j _ => ?_
      simp
      omega
    · intro y hy
      simp only [List.mem_map, List.mem_range] at hy
      obtain ⟨j, hj, rfl⟩ := hy
      simp only [Function.comp, decide_eq_true_eq]
      omega
  · rw [show 16 - min m 16 = 0 by omega]; rfl
theorem pp_come {e : Int} {b : List UInt8} {m : Nat} (he : 0 ≤ e ∧ e ≤ 65535) (hb : b.length ≤ 4096) (hm : m ≤ 100) : pCome (pp e b 0 16 1) ⟨e, 0, (m : Int), []⟩ = ⟨pp e b (min m 16) (16 - min m 16) 1, [], false⟩ := by
  rw [pCome, if_neg (by
    rw [pp_right he hb (by omega) (by omega) (by omega)]
    simp [fine, pp]
    omega), if_neg (by simp [pp]), pp_left e b m _ rfl]
  simp only [pp]
  congr 3
  omega
theorem pp_goes {e : Int} {b : List UInt8} {s k : Nat} {w : Int} (he : 0 ≤ e ∧ e ≤ 65535) (hb : b.length ≤ 4096) (hs : s ≤ 100) (hk : k ≤ 16) (hk0 : 0 < k) (hw : 1 ≤ w ∧ w ≤ 1000) : pGoes (pp e b s k w) = (pp e b s k w).out.map (ackd (pp e b s k w)) := by
  rw [pGoes, if_neg (by simp [pp_right he hb hs hk hw]), if_neg (by intro h; have := congrArg List.length h; rw [pp_len] at this; simp at this; omega)]
/-- What the other end hears of the first word. -/
theorem pp_first {a b : Int} {word : List UInt8} {w : Int} (ha : 0 ≤ a ∧ a ≤ 65535) (hb : 0 ≤ b ∧ b ≤ 65535) (hw : word.length ≤ 4096) (h1 : 1 ≤ w ∧ w ≤ 2) :
    pCome (pp b [] 0 0 w) ⟨a, 1, 0, word⟩ = if a = b ∧ w = 1 then ⟨pp b [] 0 0 2, word, true⟩ else ⟨pp b [] 0 0 w, [], false⟩ := by
  have hr := pp_right (b := []) (s := 0) (k := 0) (w := w) hb (by simp) (by omega) (by omega) (by omega)
  have hf : fine ⟨a, 1, 0, word⟩ = true := by simp [fine]; omega
  rw [pCome, hr, hf]
  by_cases e : a = b
  · subst e
    rw [if_neg (by simp [pp])]
    by_cases h : w = 1
    · subst h; rw [if_pos (by simp [pp]), if_pos ⟨rfl, rfl⟩]; rfl
    · rw [if_neg (by simp [pp]; omega), if_neg (fun k => h k.2)]; rfl
  · rw [if_pos (by simp [pp, e]), if_neg (fun k => e k.1)]

set_option maxHeartbeats 0 in
theorem law17_PipeEpochs (a b t : Int) (word : List UInt8) (ha : 0 ≤ a ∧ a ≤ 65535) (hb : 0 ≤ b ∧ b ≤ 65535) (ht : 0 ≤ t ∧ t ≤ 255) (H : Heap) : AC Try.prog 8 [.int .u16 a, .int .u16 b, .pl (word.map brow), .int .u8 t] H (Ret (.bool true) H) := by
  refine AC.body (N := 88) [.tmp 8] Try.func8 rfl rfl rfl (Nat.le_of_ble_eq_true rfl) fun B hB => ?_
  refine Z3r ?_
  refine Z4 ?_
  refine Z3r ?_
  refine Z65 ?_
  refine Z4h ?_
  refine aw_cond rfl (fun hc => ?_) (fun hc => ?_)
  · simp at hc
  refine Z3v ?_
  refine Z50 ?_
  refine Z3w ?_
  refine aw_cond rfl (fun hc => ?_) (fun hc => ?_)
  · refine Z48 ?_
    exact Zh
  have hwl : word.length ≤ 4096 := by simp at hc; omega
  have c1 := fun H => pipe_New a H
  have c2 := fun H => pipe_New b H
  rw [pp_new word ha] at c1
  rw [pp_new [] hb] at c2
  have c3 := fun H => pipe_Say (pp a word 0 0 1) word H (by rw [pp_len]; omega) (by intro x hx; simp [pp] at hx) (by omega)
  rw [pp_say ha hwl (by omega) (by omega) (by omega), if_pos (by omega)] at c3
  have c4 := fun H => pipe_Goes (pp a word 0 (0 + 1) 1) H (by rw [pp_len]; omega) (by intro x hx; simp [pp] at hx; subst hx; simp; omega)
  rw [pp_goes ha hwl (by omega) (by omega) (by omega) (by omega), show (pp a word 0 (0 + 1) 1).out.map (ackd (pp a word 0 (0 + 1) 1)) = [⟨a, 1, 0, word⟩] from rfl] at c4
  refine Z49 ?_
  refine Z7l ?_
  refine ao2 (by rintro _ ⟨⟩; decide) (V2.call (c1 _) rfl) ?_
  refine Z5u ?_
  refine Z1y ?_
  refine Z49 ?_
  refine Z7l ?_
  refine Z5v ?_
  refine Z5u ?_
  refine Z55 ?_
  refine Z1k ?_
  refine ao2 (by rintro _ ⟨⟩; decide) (V2.call (c3 _) rfl) ?_
  refine Z5r ?_
  refine Z5s ?_
  refine Z55 ?_
  refine Z62 ?_
  refine Z1h ?_
  refine Z3w ?_
  refine aw_out 51 (.bool false) ?_ ?_
  · refine Z6 ?_
    refine Z2m ?_
    refine Z8 ?_
    refine ao_split rfl rfl (fun hg2 => ?_) (fun hg2 => ?_)
    · refine Z2j ?_
      refine Zb ?_
      exact Z63
    · refine Z24 ?_
      refine Zs ?_
      refine Z4f ?_
      refine Zb ?_
      exact Z63
  refine Z3q ?_
  refine aw_cond rfl (fun hc => ?_) (fun hc => ?_)
  · simp at hc
  obtain ⟨m, hm, hm8⟩ : ∃ m : Nat, t.tmod 9 = (m : Int) ∧ m ≤ 8 := ⟨(t.tmod 9).toNat, by rw [Int.tmod_eq_emod_of_nonneg ht.1]; omega, by rw [Int.tmod_eq_emod_of_nonneg ht.1]; omega⟩
  refine Z3r ?_
  refine Z1y ?_
  refine Z3r ?_
  refine Z4n ?_
  have hr := map_get ePacket (show ([⟨a, 1, 0, word⟩] : List Packet)[0]? = some ⟨a, 1, 0, word⟩ from rfl)
  refine aw_loop (G := Nat) (fun k => k ≤ m + 1) (fun k => [(0, .int .u16 a), (1, .int .u16 b), (2, .pl (word.map brow)), (3, .int .u8 t), (11, .pt (Lid H.length 1) 0 0 0), (14, .pl ([(⟨a, 1, 0, word⟩ : Packet)].map ePacket)), (15, .int .i64 (if 0 < k ∧ a = b then 1 else 0)), (16, .int .i64 (k : Int))]) (fun k => H ++ [⟨0, 4, [ePipe (pp a word 0 (0 + 1) 1)]⟩, ⟨0, 4, [ePipe (pp b [] 0 0 (if 0 < k ∧ a = b then 2 else 1))]⟩]) (fun k => m + 1 - k) 0 (Nat.zero_le _) (by repeat (first | exact Sub.nil | refine Sub.cons (by first | rfl | (simp [get]; done)) ?_)) (Fit.refl _ _) ?_
  intro k hk
  refine Z49 ?_
  refine Z6 ?_
  refine ao1 (by decide) (o_rem rfl rfl (by omega) hm) ?_
  refine Z7l ?_
  refine Z23 ?_
  refine Z3w ?_
  refine aw_cond rfl (fun hc => ?_) (fun hc => ?_)
  · have hkm : k ≤ m := by simp at hc; omega
    have c5 := fun H => pipe_Come (pp b [] 0 0 (if 0 < k ∧ a = b then 2 else 1)) ⟨a, 1, 0, word⟩ H (by rw [pp_len]; omega) (by intro x hx; simp [pp] at hx) (by simp; omega)
    rw [pp_first ha hb hwl (by split <;> omega)] at c5
    by_cases h : a = b ∧ k = 0
    · obtain ⟨h1, rfl⟩ := h
      rw [if_neg (show ¬(0 < 0 ∧ a = b) by omega)] at c5 ⊢
      rw [if_pos ⟨h1, rfl⟩] at c5
      refine Z3q ?_
      refine Z5i ?_
      refine Z5j ?_
      refine Z5x ?_
      refine Z2o ?_
      refine Z2g ?_
      refine Z7m ?_
      refine Z5y ?_
      refine Z5z ?_
      refine Z60 ?_
      refine Z61 ?_
      refine Z7n ?_
      refine Z7o ?_
      refine Z7p ?_
      refine Z7q ?_
      refine Z2d ?_
      refine Z3r ?_
      refine Z8 ?_
      refine Z3w ?_
      refine aw_cond rfl (fun hc => ?_) (fun hc => ?_)
      · refine Z4s ?_
        refine Z1y ?_
        refine Z3u ?_
        refine Z7r ?_
        refine Z1k ?_
        refine Z7r ?_
        refine ao1 (by decide) (o_sned rfl rfl) ?_
        refine Z3w ?_
        refine aw_cond rfl (fun hc => ?_) (fun hc => ?_)
        · simp at hc
        refine Z4v ?_
        refine Z5s ?_
        refine Z3 ?_
        refine Z4t ?_
        have ht1 : (0 < 1 ∧ a = b) = True := by simp [h1]
        refine ⟨1, by omega, by omega, ?_, ?_⟩
        · simp only [ht1, if_true]; exact (by repeat (first | exact Sub.nil | refine Sub.cons (by first | rfl | (simp [get]; done)) ?_))
        · simp only [ht1, if_true]
          refine Fit.loc hB rfl (by repeat (first | exact EBel.nil | refine EBel.cons (by first | rfl | (simp [AV.bel, AV.bels, Lid]; done) | (simp [AV.bel, AV.bels, Lid]; omega)) ?_)) ?_
          intro o ho r hr
          simp only [List.mem_cons, List.not_mem_nil, or_false] at ho
          rcases ho with rfl | rfl <;> (simp only [List.mem_singleton] at hr; subst hr; rfl)
      · simp at hc
    · rw [if_neg (show ¬(a = b ∧ (if 0 < k ∧ a = b then (2 : Int) else 1) = 1) by rintro ⟨h1, h2⟩; rw [if_pos (by omega)] at h2; omega)] at c5
      have c6 := fun H => ref17_Same (pp b [] 0 0 (if 0 < k ∧ a = b then 2 else 1)) (pp b [] 0 0 (if 0 < k ∧ a = b then 2 else 1)) H (by rw [pp_len]; omega)
      rw [show decide (pp b [] 0 0 (if 0 < k ∧ a = b then 2 else 1) = pp b [] 0 0 (if 0 < k ∧ a = b then 2 else 1)) = true from decide_eq_true rfl] at c6
      have hn : (0 < k + 1 ∧ a = b) = (0 < k ∧ a = b) := by rw [eq_iff_iff]; omega
      refine Z3q ?_
      refine Z5i ?_
      refine Z5j ?_
      refine Z5x ?_
      refine Z2o ?_
      refine Z2g ?_
      refine Z7m ?_
      refine Z5y ?_
      refine Z5z ?_
      refine Z60 ?_
      refine Z61 ?_
      refine Z7n ?_
      refine Z7o ?_
      refine Z7p ?_
      refine Z7q ?_
      refine Z2d ?_
      refine Z3r ?_
      refine Z8 ?_
      refine Z3w ?_
      refine aw_cond rfl (fun hc => ?_) (fun hc => ?_)
      · simp at hc
      · refine Z4v ?_
        refine Z1b ?_
        refine ao2 (by rintro _ ⟨⟩; decide) (V2.call (c6 _) rfl) ?_
        refine Z4h ?_
        refine aw_cond rfl (fun hc => ?_) (fun hc => ?_)
        · simp at hc
        refine Z4v ?_
        refine Z5s ?_
        refine Z3 ?_
        refine Z4t ?_
        refine ⟨k + 1, by omega, by omega, ?_, ?_⟩
        · simp only [hn]; exact (by repeat (first | exact Sub.nil | refine Sub.cons (by first | rfl | (simp [get]; done)) ?_))
        · simp only [hn]
          refine Fit.loc hB rfl (by repeat (first | exact EBel.nil | refine EBel.cons (by first | rfl | (simp [AV.bel, AV.bels, Lid]; done) | (simp [AV.bel, AV.bels, Lid]; omega)) ?_)) ?_
          intro o ho r hr
          simp only [List.mem_cons, List.not_mem_nil, or_false] at ho
          rcases ho with rfl | rfl <;> (simp only [List.mem_singleton] at hr; subst hr; rfl)
  · have : k = m + 1 := by simp at hc; omega
    subst this
    refine Z49 ?_
    refine Z6 ?_
    refine Z2m ?_
    refine Z3w ?_
    refine aw_cond rfl (fun hc => ?_) (fun hc => ?_)
    · have hab : a ≠ b := by simpa using hc
      rw [if_neg (fun k => hab k.2)]
      refine Z49 ?_
      refine Z28 ?_
      refine Z45 ?_
      exact Zh
    · have hab : a = b := by simpa using hc
      rw [if_pos ⟨by omega, hab⟩]
      refine Z49 ?_
      refine Z28 ?_
      refine Z45 ?_
      exact Zh
end Go.Av

/-
  TWO ENDS OF A PIPE, plainly: what is said, on its way, and told.
-/
namespace Go.Av
set_option linter.unusedVariables false
abbrev Word := List UInt8
/-- What an end has said and not heard of: words from k on. -/
def outs (e : Int) (s : List Word) (k : Nat) : List Packet := (List.range (s.length - k)).map fun j : Nat => ⟨e, (k : Int) + 1 + (j : Int), 0, s.getD (k + j) []⟩
theorem outs_len (e : Int) (s : List Word) (k : Nat) : (outs e s k).length = s.length - k := by simp [outs]
theorem outs_get {e : Int} {s : List Word} {k j : Nat} {x : Packet} (h : (outs e s k)[j]? = some x) : k + j < s.length ∧ x = ⟨e, (k : Int) + 1 + (j : Int), 0, s.getD (k + j) []⟩ := by
  obtain ⟨h1, h2⟩ := List.getElem?_eq_some_iff.1 h
  rw [outs_len] at h1
  refine ⟨by omega, ?_⟩
  rw [← h2]
  simp [outs]
theorem outs_nil {e : Int} {s : List Word} {k : Nat} : outs e s k = [] ↔ s.length ≤ k := by
  rw [← List.length_eq_zero_iff, outs_len]; omega
theorem outs_say {e : Int} {s : List Word} {k : Nat} (hk : k ≤ s.length) (b : Word) : outs e (s ++ [b]) k = outs e s k ++ [⟨e, (s.length : Int) + 1, 0, b⟩] := by
  unfold outs
  rw [List.length_append, show s.length + [b].length - k = (s.length - k) + 1 by simp; omega, List.range_succ, List.map_append]
  congr 1
  · refine List.map_congr_left fun j hj => ?_
    rw [List.mem_range] at hj
    simp only [List.getD_eq_getElem?_getD]
    rw [List.getElem?_append_left (by omega)]
  · simp only [List.map_cons, List.map_nil, List.getD_eq_getElem?_getD]
    rw [show k + (s.length - k) = s.length by omega]
    simp
    omega
theorem outs_drop {e : Int} {s : List Word} {k m : Nat} : (outs e s k).filter (fun y => decide ((m : Int) < y.seq)) = outs e s (max k m) := by
  by_cases h : m ≤ k
  · rw [Nat.max_eq_left h, List.filter_eq_self]
    intro y hy
    obtain ⟨j, hj⟩ := List.mem_iff_getElem?.1 hy
    obtain ⟨_, rfl⟩ := outs_get hj
    simp; omega
  · rw [Nat.max_eq_right (by omega)]
    unfold outs
    rw [List.filter_map]
    have hr : List.range (s.length - k) = List.range (min (m - k) (s.length - k)) ++ (List.range (s.length - m)).map (fun j => (m - k) + j) := by
      apply List.ext_getElem
      · simp; omega
      · intro i h1 h2
        simp only [List.getElem_range, List.getElem_append, List.length_range, List.getElem_map]
        split <;> simp at * <;> omega
    rw [hr, List.filter_append, List.map_append]
    have e1 : (List.range (min (m - k) (s.length - k))).filter ((fun y : Packet => decide ((m : Int) < y.seq)) ∘ fun j : Nat => (⟨e, (k : Int) + 1 + (j : Int), 0, s.getD (k + j) []⟩ : Packet)) = [] := by
      rw [List.filter_eq_nil_iff]
      intro j hj
      rw [List.mem_range] at hj
      simp; omega
    rw [e1, List.map_nil, List.nil_append, List.filter_map, List.map_map, List.filter_eq_self.2]
    · refine List.map_congr_left fun j hj => ?_
      simp only [Function.comp_apply]
      rw [show k + (m - k + j) = m + j by omega]
      simp; omega
    · intro j hj
      simp; omega
/-- One direction: a sends, b hears; w is on its way, s was said, t was told; ta was told to a. -/
structure Dir (e : Int) (a b : Pipe) (w : List Packet) (s t ta : List Word) (k : Nat) : Prop where
  e0 : 0 ≤ e ∧ e ≤ 1073741824
  ae : a.epoch = e
  an : a.next = (s.length : Int) + 1
  bw : b.want = (t.length : Int) + 1
  ao : a.out = outs e s k
  kt : k ≤ t.length
  ts : t = s.take t.length
  tl : t.length ≤ s.length
  k16 : s.length - k ≤ 16
  sm : s.length ≤ 1000
  sb : ∀ x ∈ s, x.length ≤ 100
  pk : ∀ x ∈ w, x.epoch = e ∧ (∃ m : Nat, x.ack = m ∧ m ≤ ta.length) ∧ ((x.seq = 0 ∧ x.body = []) ∨ ∃ j : Nat, s[j]? = some x.body ∧ x.seq = (j : Int) + 1)
theorem Dir.right {e : Int} {a b : Pipe} {w w' : List Packet} {s t ta s' : List Word} {k k' : Nat} (h : Dir e a b w s t ta k) (h' : Dir e b a w' s' ta t k') : pright a = true := by
  have hw := h'.bw
  have hsm := h'.sm
  have htl := h'.tl
  have hol : a.out.length = s.length - k := by rw [h.ao, outs_len]
  have h16 := h.k16
  have := h.sm
  have := h.kt
  have := h.tl
  rw [pright_iff]
  constructor
  · simp only [phead, Bool.and_eq_true, decide_eq_true_eq, h.ae, h.an, hw, hol]
    have := h.e0
    omega
  · intro j x hx
    rw [h.ao] at hx
    obtain ⟨h1, rfl⟩ := outs_get hx
    have hb : (s.getD (k + j) []).length ≤ 100 := by
      rw [List.getD_eq_getElem?_getD, List.getElem?_eq_getElem h1]
      exact h.sb _ (List.getElem_mem _)
    simp only [pok, Bool.and_eq_true, decide_eq_true_eq, beq_iff_eq, h.ae, h.an, hol]
    refine ⟨⟨⟨by omega, trivial⟩, trivial⟩, by omega⟩
section
variable {e : Int} {a b : Pipe} {w w' : List Packet} {s t ta s' : List Word} {k k' : Nat}
/-- a says a word, and may. -/
theorem Dir.say (h : Dir e a b w s t ta k) (h' : Dir e b a w' s' ta t k') {x : Word} (hx : x.length ≤ 100) (hm : s.length < 1000) :
    (pSay a x).2 = 5 ∧ (pSay a x).1 = a ∨ (pSay a x).2 = 0 ∧ Dir e (pSay a x).1 b w (s ++ [x]) t ta k ∧ Dir e b (pSay a x).1 w' s' ta t k' := by
  have hr := h.right h'
  have hol : a.out.length = s.length - k := by rw [h.ao, outs_len]
  have := h.an
  have := h.kt
  have := h.tl
  unfold pSay
  rw [hr, if_neg (by simp), if_neg (by omega)]
  by_cases h16 : a.out.length = 16
  · rw [if_pos h16]; exact .inl ⟨rfl, rfl⟩
  · rw [if_neg h16, if_neg (by omega)]
    refine .inr ⟨rfl, ⟨h.e0, h.ae, ?_, h.bw, ?_, h.kt, ?_, ?_, ?_, ?_, ?_, ?_⟩, ⟨h'.e0, h'.ae, h'.an, h'.bw, h'.ao, h'.kt, h'.ts, h'.tl, h'.k16, h'.sm, h'.sb, h'.pk⟩⟩
    · simp; omega
    · simp only
      rw [outs_say (by omega), h.ao, h.ae, h.an]
    · rw [List.take_append_of_le_length h.tl]; exact h.ts
    · simp; omega
    · simp only [List.length_append, List.length_cons, List.length_nil]; have := h.k16; omega
    · simp; omega
    · intro y hy
      rcases List.mem_append.1 hy with hy | hy
      · exact h.sb y hy
      · simp only [List.mem_singleton] at hy; subst hy; exact hx
    · intro y hy
      obtain ⟨h1, h2, h3⟩ := h.pk y hy
      refine ⟨h1, h2, h3.imp id ?_⟩
      rintro ⟨j, hj, hs⟩
      exact ⟨j, by rw [List.getElem?_append_left (List.getElem?_eq_some_iff.1 hj).1]; exact hj, hs⟩
theorem goes_pk (h : Dir e a b w s t ta k) (h' : Dir e b a w' s' ta t k') : ∀ x ∈ pGoes a, x.epoch = e ∧ (∃ m : Nat, x.ack = m ∧ m ≤ ta.length) ∧ ((x.seq = 0 ∧ x.body = []) ∨ ∃ j : Nat, s[j]? = some x.body ∧ x.seq = (j : Int) + 1) := by
  have hr := h.right h'
  have hw := h'.bw
  intro x hx
  unfold pGoes at hx
  rw [hr, if_neg (by simp)] at hx
  split at hx
  · simp only [List.mem_singleton] at hx
    subst hx
    exact ⟨h.ae, ⟨ta.length, by simp only; omega, Nat.le_refl _⟩, .inl ⟨rfl, rfl⟩⟩
  · obtain ⟨y, hy, rfl⟩ := List.mem_map.1 hx
    rw [h.ao] at hy
    obtain ⟨j, hj⟩ := List.mem_iff_getElem?.1 hy
    obtain ⟨h1, rfl⟩ := outs_get hj
    refine ⟨rfl, ⟨ta.length, by simp only; omega, Nat.le_refl _⟩, .inr ⟨k + j, ?_, by simp only; omega⟩⟩
    simp only
    rw [List.getD_eq_getElem?_getD, List.getElem?_eq_getElem h1]; rfl
/-- What is on its way may become less, or more of the same. -/
theorem Dir.way (h : Dir e a b w s t ta k) {v : List Packet} (hv : ∀ x ∈ v, x ∈ w ∨ x ∈ pGoes a) (h' : Dir e b a w' s' ta t k') : Dir e a b v s t ta k :=
  ⟨h.e0, h.ae, h.an, h.bw, h.ao, h.kt, h.ts, h.tl, h.k16, h.sm, h.sb, fun x hx => (hv x hx).elim (h.pk x) (goes_pk h h' x)⟩
/-- A packet of a's comes to b. -/
theorem Dir.come (h : Dir e a b w s t ta k) (h' : Dir e b a w' s' ta t k') {x : Packet} (hx : x ∈ w) :
    ∃ (t' : List Word) (m : Nat), x.ack = m ∧ Dir e a (pCome b x).p w s t' ta k ∧ Dir e (pCome b x).p a w' s' ta t' (max k' m) ∧ ((pCome b x).ok = true ∧ t' = t ++ [(pCome b x).w] ∨ (pCome b x).ok = false ∧ t' = t) ∧ (∀ j : Nat, s[j]? = some x.body → x.seq = (j : Int) + 1 → j ≤ t.length → j + 1 ≤ t'.length) ∧ t.length ≤ t'.length := by
  have hr := h'.right h
  obtain ⟨h1, ⟨m, h2, hm⟩, h3⟩ := h.pk x hx
  have hbw := h.bw
  have hsm := h.sm
  have htl := h.tl
  have htl' := h'.tl
  have hsm' := h'.sm
  have hfine : fine x = true := by
    have hb : x.body.length ≤ 100 ∧ 0 ≤ x.seq ∧ x.seq ≤ 1000 ∧ (0 < x.seq ∨ x.body.length = 0) := by
      rcases h3 with ⟨h4, h5⟩ | ⟨j, h4, h5⟩
      · rw [h5]; simp; omega
      · have := (List.getElem?_eq_some_iff.1 h4).1
        exact ⟨h.sb _ (List.mem_of_getElem? h4), by omega, by omega, .inl (by omega)⟩
    have := h.e0
    simp only [fine, Bool.and_eq_true, Bool.or_eq_true, decide_eq_true_eq, beq_iff_eq, h1, h2]
    omega
  have hleft : pleft b x = outs e s' (max k' m) := by
    unfold pleft
    rw [h'.ao, h2]; exact outs_drop
  have hmt : max k' m ≤ ta.length := by have := h'.kt; omega
  unfold pCome
  rw [hr, hfine, if_neg (by simp [h1, h'.ae])]
  by_cases hc : x.seq = b.want
  · rw [if_pos (by simp [hc]; omega)]
    obtain ⟨j, hj, hjs⟩ : ∃ j : Nat, s[j]? = some x.body ∧ x.seq = (j : Int) + 1 := by
      rcases h3 with ⟨h4, h5⟩ | h3
      · omega
      · exact h3
    have hjt : j = t.length := by omega
    subst hjt
    have hjl := (List.getElem?_eq_some_iff.1 hj).1
    have htake : t ++ [x.body] = s.take (t.length + 1) := by rw [List.take_add_one, hj, ← h.ts]; rfl
    refine ⟨t ++ [x.body], m, h2, ⟨h.e0, h.ae, h.an, ?_, h.ao, ?_, ?_, ?_, h.k16, h.sm, h.sb, h.pk⟩, ⟨h'.e0, h'.ae, h'.an, h'.bw, hleft, hmt, h'.ts, h'.tl, ?_, h'.sm, h'.sb, ?_⟩, .inl ⟨rfl, rfl⟩, ?_, by simp⟩
    · simp; omega
    · have := h.kt; simp; omega
    · rw [List.length_append]; exact htake
    · simp; omega
    · have := h'.k16; omega
    · intro y hy
      obtain ⟨p1, ⟨q, p2, p3⟩, p4⟩ := h'.pk y hy
      exact ⟨p1, ⟨q, p2, by simp; omega⟩, p4⟩
    · intro i _ hi hit; simp; omega
  · rw [if_neg (by simp [hc])]
    refine ⟨t, m, h2, ⟨h.e0, h.ae, h.an, h.bw, h.ao, h.kt, h.ts, h.tl, h.k16, h.sm, h.sb, h.pk⟩, ⟨h'.e0, h'.ae, h'.an, h'.bw, hleft, hmt, h'.ts, h'.tl, ?_, h'.sm, h'.sb, h'.pk⟩, .inr ⟨rfl, rfl⟩, ?_, Nat.le_refl _⟩
    · have := h'.k16; omega
    · intro i _ hi hit; omega
end
end Go.Av
namespace Go.Av
/-- All that goes from a comes to b, in order: what is left of it. -/
structure Drain (e : Int) (a b : Pipe) (L : List Packet) (w' : List Packet) (s t ta s' : List Word) (k k' : Nat) : Prop where
  d : Dir e a b L s t ta k
  d' : Dir e b a w' s' ta t k'
  j : ∃ j : Nat, L = (pGoes a).drop j ∧ j ≤ (pGoes a).length ∧ k + min j (s.length - k) ≤ t.length ∧ (0 < j → ta.length ≤ k')
theorem goes_len {e : Int} {a b : Pipe} {w w' : List Packet} {s t ta s' : List Word} {k k' : Nat} (h : Dir e a b w s t ta k) (h' : Dir e b a w' s' ta t k') : (pGoes a).length = if s.length ≤ k then 1 else s.length - k := by
  have hr := h.right h'
  unfold pGoes
  rw [hr, if_neg (by simp), h.ao]
  by_cases hk : s.length ≤ k
  · rw [if_pos (outs_nil.2 hk), if_pos hk]; rfl
  · rw [if_neg (fun e => hk (outs_nil.1 e)), if_neg hk, List.length_map, outs_len]
theorem goesP_get {e : Int} {a b : Pipe} {w w' : List Packet} {s t ta s' : List Word} {k k' j : Nat} {x : Packet} (h : Dir e a b w s t ta k) (h' : Dir e b a w' s' ta t k') (hx : (pGoes a)[j]? = some x) : x.ack = (ta.length : Int) ∧ (s.length ≤ k ∨ (s[k + j]? = some x.body ∧ x.seq = ((k + j : Nat) : Int) + 1)) := by
  have hr := h.right h'
  have hw := h'.bw
  unfold pGoes at hx
  rw [hr, if_neg (by simp), h.ao] at hx
  split at hx
  · rename_i hn
    have hm := List.mem_of_getElem? hx
    simp only [List.mem_singleton] at hm
    subst hm
    exact ⟨by simp only; omega, .inl (outs_nil.1 hn)⟩
  · rw [List.getElem?_map] at hx
    cases hy : (outs e s k)[j]? with
    | none => simp [hy] at hx
    | some y =>
      obtain ⟨h1, rfl⟩ := outs_get hy
      simp only [hy, Option.map_some, Option.some.injEq] at hx
      subst hx
      refine ⟨by simp only; omega, .inr ⟨?_, by simp only; omega⟩⟩
      simp only
      rw [List.getD_eq_getElem?_getD, List.getElem?_eq_getElem h1]; rfl
theorem Drain.start {e : Int} {a b : Pipe} {w w' : List Packet} {s t ta s' : List Word} {k k' : Nat} (h : Dir e a b w s t ta k) (h' : Dir e b a w' s' ta t k') : Drain e a b (pGoes a) w' s t ta s' k k' :=
  ⟨h.way (fun x hx => .inr hx) h', h', 0, rfl, Nat.zero_le _, by have := h.kt; simpa using this, fun h => absurd h (Nat.lt_irrefl _)⟩
theorem Drain.step {e : Int} {a b : Pipe} {x : Packet} {L w' : List Packet} {s t ta s' : List Word} {k k' : Nat} (h : Drain e a b (x :: L) w' s t ta s' k k') :
    ∃ (t' : List Word) (k2 : Nat), Drain e a (pCome b x).p L w' s t' ta s' k k2 ∧ ((pCome b x).ok = true ∧ t' = t ++ [(pCome b x).w] ∨ (pCome b x).ok = false ∧ t' = t) ∧ t.length ≤ t'.length ∧ k' ≤ k2 := by
  obtain ⟨d, d', j, hL, hjl, hj, hk'⟩ := h
  have hx : (pGoes a)[j]? = some x := by
    have := congrArg (·[0]?) hL
    simpa using this.symm
  obtain ⟨g1, g2⟩ := goesP_get d d' hx
  obtain ⟨t', m, hm, c1, c2, c3, c4, c5⟩ := d.come d' (List.mem_cons_self ..)
  have hmt : m = ta.length := by omega
  refine ⟨t', max k' m, ⟨c1.way (fun y hy => .inl (List.mem_cons_of_mem _ hy)) c2, c2, j + 1, ?_, (List.getElem?_eq_some_iff.1 hx).1, ?_, fun _ => by omega⟩, c3, c5, by omega⟩
  · have := congrArg (List.drop 1) hL
    simpa [List.drop_drop, Nat.add_comm] using this
  · rcases g2 with g2 | ⟨g2, g3⟩
    · omega
    · have hl := (List.getElem?_eq_some_iff.1 g2).1
      have := c4 (k + j) g2 g3
      omega
theorem Drain.fin {e : Int} {a b : Pipe} {w' : List Packet} {s t ta s' : List Word} {k k' : Nat} (h : Drain e a b [] w' s t ta s' k k') : t = s ∧ ta.length ≤ k' := by
  obtain ⟨d, d', j, hL, hjl, hj, hk'⟩ := h
  have hn := goes_len d d'
  have hjj : j = (pGoes a).length := by
    have := congrArg List.length hL
    simp at this; omega
  have h1 := d.kt
  have h2 := d.tl
  have hpos : 0 < j := by rw [hjj, hn]; split <;> omega
  refine ⟨?_, hk' hpos⟩
  have : t.length = s.length := by
    by_cases hk : s.length ≤ k
    · omega
    · rw [if_neg hk] at hn; omega
  rw [d.ts, this, List.take_length]
end Go.Av

/-
  TWO ENDS OF A PIPE, plainly: what is done between them, and that all comes in the end.
-/
namespace Go.Av
set_option linter.unusedVariables false
structure Two where
  p0 : Pipe
  p1 : Pipe
  w0 : List Packet
  w1 : List Packet
  s0 : List Word
  s1 : List Word
  t0 : List Word
  t1 : List Word
def Two.swap (t : Two) : Two := ⟨t.p1, t.p0, t.w1, t.w0, t.s1, t.s0, t.t1, t.t0⟩
def pk0 : Packet := ⟨0, 0, 0, []⟩
def Two.x (t : Two) (at_ : Nat) : Packet := t.w0.getD (at_ % t.w0.length) pk0
/-- What the first side does. -/
def doF (t : Two) (kind at_ : Nat) (word : Word) : Two :=
  if kind = 0 then { t with p0 := (pSay t.p0 word).1, s0 := if (pSay t.p0 word).2 = 0 then t.s0 ++ [word] else t.s0 }
  else if kind = 1 then { t with w0 := if t.w0.length < 100 then t.w0 ++ pGoes t.p0 else t.w0 }
  else if t.w0.length = 0 then t
  else if kind = 4 then { t with w0 := t.w0 ++ [t.x at_] }
  else if kind = 2 then { t with w0 := t.w0.eraseIdx (at_ % t.w0.length), p1 := (pCome t.p1 (t.x at_)).p, t1 := if (pCome t.p1 (t.x at_)).ok then t.t1 ++ [(pCome t.p1 (t.x at_)).w] else t.t1 }
  else { t with w0 := t.w0.eraseIdx (at_ % t.w0.length) }
def doP (t : Two) (kind : Nat) (side : Bool) (at_ : Nat) (word : Word) : Two := if side then (doF t.swap kind at_ word).swap else doF t kind at_ word
structure TI (e : Int) (t : Two) (n : Nat) (k k' : Nat) : Prop where
  d : Dir e t.p0 t.p1 t.w0 t.s0 t.t1 t.t0 k
  d' : Dir e t.p1 t.p0 t.w1 t.s1 t.t0 t.t1 k'
  n0 : t.s0.length ≤ n
  n1 : t.s1.length ≤ n
  l0 : t.w0.length ≤ 116 + n
  l1 : t.w1.length ≤ 116 + n
theorem TI.swap {e : Int} {t : Two} {n k k' : Nat} (h : TI e t n k k') : TI e t.swap n k' k := ⟨h.d', h.d, h.n1, h.n0, h.l1, h.l0⟩
theorem goes_le {p : Pipe} (h : pright p = true) : 0 < (pGoes p).length ∧ (pGoes p).length ≤ 16 := by
  have := (pright_facts h).2.2.2.2.2.2.1
  unfold pGoes
  rw [h, if_neg (by decide)]
  split
  · exact ⟨by simp, by simp⟩
  · rename_i hn
    rw [List.length_map]
    exact ⟨List.length_pos_iff.2 hn, this⟩
theorem x_mem {t : Two} {at_ : Nat} (h : t.w0.length ≠ 0) : t.x at_ ∈ t.w0 := by
  have := Nat.mod_lt at_ (show 0 < t.w0.length by omega)
  rw [Two.x, List.getD_eq_getElem?_getD, List.getElem?_eq_getElem this, Option.getD_some]
  exact List.getElem_mem this
theorem doF_ti {e : Int} {t : Two} {n k k' : Nat} (h : TI e t n k k') (hn : n < 1000) {kind at_ : Nat} {word : Word} (hw : word.length ≤ 100) : ∃ j j', TI e (doF t kind at_ word) (n + 1) j j' := by
  have hr := h.d.right h.d'
  have h0 := h.n0
  have h1 := h.n1
  have hl0 := h.l0
  have hl1 := h.l1
  unfold doF
  split
  · rcases h.d.say h.d' hw (by omega) with ⟨e1, e2⟩ | ⟨e1, e2, e3⟩
    · refine ⟨k, k', ?_⟩
      rw [e1, if_neg (by decide), e2]
      exact ⟨h.d, h.d', by simp only; omega, by simp only; omega, by simp only; omega, by simp only; omega⟩
    · refine ⟨k, k', ?_⟩
      rw [e1, if_pos rfl]
      exact ⟨e2, e3, by simp; omega, by simp only; omega, by simp only; omega, by simp only; omega⟩
  split
  · refine ⟨k, k', ?_⟩
    split
    · have := (goes_le hr).2
      exact ⟨h.d.way (fun x hx => by rcases List.mem_append.1 hx with h | h; exact .inl h; exact .inr h) h.d', h.d', by simp only; omega, by simp only; omega, by simp only [List.length_append]; omega, by simp only; omega⟩
    · exact ⟨h.d, h.d', by simp only; omega, by simp only; omega, by simp only; omega, by simp only; omega⟩
  split
  · exact ⟨k, k', h.d, h.d', by omega, by omega, by omega, by omega⟩
  rename_i hne
  have hx := x_mem (at_ := at_) hne
  have hsub : ∀ x ∈ t.w0.eraseIdx (at_ % t.w0.length), x ∈ t.w0 := fun x hx => (List.eraseIdx_sublist _ _).subset hx
  have hlen := (List.eraseIdx_sublist t.w0 (at_ % t.w0.length)).length_le
  split
  · exact ⟨k, k', h.d.way (fun x hx' => by
      rcases List.mem_append.1 hx' with h | h
      · exact .inl h
      · rw [List.mem_singleton] at h; subst h; exact .inl hx) h.d', h.d', by simp only; omega, by simp only; omega, by simp; omega, by simp only; omega⟩
  split
  · obtain ⟨t', m, _, c1, c2, c3, _, _⟩ := h.d.come h.d' hx
    refine ⟨k, max k' m, ?_⟩
    have ht : (if (pCome t.p1 (t.x at_)).ok then t.t1 ++ [(pCome t.p1 (t.x at_)).w] else t.t1) = t' := by
      rcases c3 with ⟨a, b⟩ | ⟨a, b⟩
      · rw [a, if_pos rfl, b]
      · rw [a, if_neg (by decide), b]
    rw [ht]
    exact ⟨c1.way (fun x hx' => .inl (hsub x hx')) c2, c2, by simp only; omega, by simp only; omega, by simp only; omega, by simp only; omega⟩
  · exact ⟨k, k', h.d.way (fun x hx' => .inl (hsub x hx')) h.d', h.d', by simp only; omega, by simp only; omega, by simp only; omega, by simp only; omega⟩
theorem doP_ti {e : Int} {t : Two} {n k k' : Nat} (h : TI e t n k k') (hn : n < 1000) {kind at_ : Nat} {side : Bool} {word : Word} (hw : word.length ≤ 100) : ∃ j j', TI e (doP t kind side at_ word) (n + 1) j j' := by
  unfold doP
  split
  · obtain ⟨j, j', hj⟩ := doF_ti h.swap hn (kind := kind) (at_ := at_) hw
    exact ⟨j', j, hj.swap⟩
  · exact doF_ti h hn hw
/-! ### all comes -/
/-- Nothing is on its way; c drains are done. -/
structure Still (e : Int) (t : Two) (n c : Nat) (k k' : Nat) : Prop where
  i : TI e t n k k'
  w0 : t.w0 = []
  w1 : t.w1 = []
  a : 1 ≤ c → t.t1 = t.s0
  b : 2 ≤ c → t.t0 = t.s1 ∧ t.t1.length ≤ k
  c : 3 ≤ c → t.t0.length ≤ k'
/-- The first side's packets come, one by one. -/
structure Draining (e : Int) (t : Two) (n c : Nat) (k k' : Nat) : Prop where
  i : TI e t n k k'
  d : Drain e t.p0 t.p1 t.w0 t.w1 t.s0 t.t1 t.t0 t.s1 k k'
  w1 : t.w1 = []
  a : 1 ≤ c → t.t1 = t.s0
  b : 2 ≤ c → t.t0 = t.s1 ∧ t.t1.length ≤ k
  c : 3 ≤ c → t.t0.length ≤ k'
theorem Still.goes {e : Int} {t : Two} {n c k k' : Nat} (h : Still e t n c k k') : Draining e (doF t 1 0 []) n c k k' := by
  have hr := h.i.d.right h.i.d'
  have hg := (goes_le hr).2
  have e1 : doF t 1 0 [] = { t with w0 := pGoes t.p0 } := by
    unfold doF
    rw [if_neg (by decide), if_pos rfl, h.w0, if_pos (by decide), List.nil_append]
  rw [e1]
  have hd := Drain.start h.i.d h.i.d'
  exact ⟨⟨hd.d, hd.d', h.i.n0, h.i.n1, by simp only; omega, h.i.l1⟩, hd, h.w1, h.a, h.b, h.c⟩
theorem Draining.step {e : Int} {t : Two} {n c k k' : Nat} (h : Draining e t n c k k') (hne : t.w0.length ≠ 0) : ∃ j', Draining e (doF t 2 0 []) n c k j' ∧ (doF t 2 0 []).w0.length < t.w0.length := by
  obtain ⟨p0, p1, w0, w1, s0, s1, t0, t1⟩ := t
  cases w0 with
  | nil => exact absurd rfl hne
  | cons x L =>
    have e1 : doF ⟨p0, p1, x :: L, w1, s0, s1, t0, t1⟩ 2 0 [] = ⟨p0, (pCome p1 x).p, L, w1, s0, s1, t0, if (pCome p1 x).ok then t1 ++ [(pCome p1 x).w] else t1⟩ := by
      unfold doF Two.x
      simp
    obtain ⟨t', k2, hd, c3, hle, hk⟩ := Drain.step h.d
    have ht : (if (pCome p1 x).ok then t1 ++ [(pCome p1 x).w] else t1) = t' := by
      rcases c3 with ⟨a, b⟩ | ⟨a, b⟩
      · rw [a, if_pos rfl, b]
      · rw [a, if_neg (by decide), b]
    rw [e1, ht]
    have hi := h.i
    have hl0 : (x :: L).length ≤ 116 + n := hi.l0
    have full : t1 = s0 → t' = s0 := fun e0 => by
      have h1 := hd.d.ts
      have h2 := hd.d.tl
      subst e0
      simp only at h1 h2 hle
      rw [h1, show t'.length = t1.length by omega, List.take_length]
    refine ⟨k2, ⟨⟨hd.d, hd.d', hi.n0, hi.n1, by simp only [List.length_cons] at hl0 ⊢; omega, hi.l1⟩, hd, h.w1, fun hc => full (h.a hc), fun hc => ⟨(h.b hc).1, ?_⟩, fun hc => ?_⟩, by simp⟩
    · have hb := (h.b hc).2
      have ha := h.a (by omega)
      simp only at hb ha ⊢
      rw [full ha, ← ha]; exact hb
    · have := h.c hc
      simp only at this ⊢
      omega
theorem Draining.fin {e : Int} {t : Two} {n c k k' : Nat} (h : Draining e t n c k k') (h0 : t.w0.length = 0) : Still e t n c k k' ∧ t.t1 = t.s0 ∧ t.t0.length ≤ k' := by
  have hw := List.eq_nil_of_length_eq_zero h0
  have hd := h.d
  rw [hw] at hd
  have hf := hd.fin
  exact ⟨⟨h.i, hw, h.w1, h.a, h.b, h.c⟩, hf⟩
theorem Draining.done {e : Int} {t : Two} {n c k k' : Nat} (h : Draining e t n c k k') (h0 : t.w0.length = 0) (hc : c % 2 = 0) : Still e t n (c + 1) k k' := by
  obtain ⟨hs, h1, h2⟩ := h.fin h0
  exact ⟨hs.i, hs.w0, hs.w1, fun _ => h1, fun h => hs.b (by omega), fun _ => h2⟩
/-- The second side's packets come, one by one. -/
structure Draining' (e : Int) (t : Two) (n c : Nat) (k k' : Nat) : Prop where
  i : TI e t n k k'
  d : Drain e t.p1 t.p0 t.w1 t.w0 t.s1 t.t0 t.t1 t.s0 k' k
  w0 : t.w0 = []
  a : 1 ≤ c → t.t1 = t.s0
  b : 2 ≤ c → t.t0 = t.s1 ∧ t.t1.length ≤ k
  c : 3 ≤ c → t.t0.length ≤ k'
theorem Still.goes' {e : Int} {t : Two} {n c k k' : Nat} (h : Still e t n c k k') : Draining' e (doP t 1 true 0 []) n c k k' := by
  have hr := h.i.d'.right h.i.d
  have hg := (goes_le hr).2
  have e1 : doP t 1 true 0 [] = { t with w1 := pGoes t.p1 } := by
    unfold doP doF
    rw [if_pos rfl, if_neg (by decide), if_pos rfl]
    show Two.swap _ = _
    rw [show t.swap.w0 = [] from h.w1, if_pos (by decide), List.nil_append]
    rfl
  rw [e1]
  have hd := Drain.start h.i.d' h.i.d
  exact ⟨⟨hd.d', hd.d, h.i.n0, h.i.n1, h.i.l0, by simp only; omega⟩, hd, h.w0, h.a, h.b, h.c⟩
theorem Draining'.step {e : Int} {t : Two} {n c k k' : Nat} (h : Draining' e t n c k k') (hne : t.w1.length ≠ 0) : ∃ j, Draining' e (doP t 2 true 0 []) n c j k' ∧ (doP t 2 true 0 []).w1.length < t.w1.length := by
  obtain ⟨p0, p1, w0, w1, s0, s1, t0, t1⟩ := t
  cases w1 with
  | nil => exact absurd rfl hne
  | cons x L =>
    have e1 : doP ⟨p0, p1, w0, x :: L, s0, s1, t0, t1⟩ 2 true 0 [] = ⟨(pCome p0 x).p, p1, w0, L, s0, s1, if (pCome p0 x).ok then t0 ++ [(pCome p0 x).w] else t0, t1⟩ := by
      unfold doP doF Two.x Two.swap
      simp
    obtain ⟨t', k2, hd, c3, hle, hk⟩ := Drain.step h.d
    have ht : (if (pCome p0 x).ok then t0 ++ [(pCome p0 x).w] else t0) = t' := by
      rcases c3 with ⟨a, b⟩ | ⟨a, b⟩
      · rw [a, if_pos rfl, b]
      · rw [a, if_neg (by decide), b]
    rw [e1, ht]
    have hi := h.i
    have hl1 : (x :: L).length ≤ 116 + n := hi.l1
    have full : t0 = s1 → t' = s1 := fun e0 => by
      have h1 := hd.d.ts
      have h2 := hd.d.tl
      subst e0
      simp only at h1 h2 hle
      rw [h1, show t'.length = t0.length by omega, List.take_length]
    refine ⟨k2, ⟨⟨hd.d', hd.d, hi.n0, hi.n1, hi.l0, by simp only [List.length_cons] at hl1 ⊢; omega⟩, hd, h.w0, h.a, fun hc => ⟨full (h.b hc).1, ?_⟩, fun hc => ?_⟩, by simp⟩
    · have hb := (h.b hc).2
      simp only at hb ⊢
      omega
    · have h1 := h.c hc
      have h2 := (h.b (by omega)).1
      simp only at h1 h2 ⊢
      rw [full h2, ← h2]; exact h1
theorem Draining'.done {e : Int} {t : Two} {n c k k' : Nat} (h : Draining' e t n c k k') (h0 : t.w1.length = 0) (hc : c % 2 = 1) : Still e t n (c + 1) k k' := by
  have hw := List.eq_nil_of_length_eq_zero h0
  have hd := h.d
  rw [hw] at hd
  have hf := hd.fin
  exact ⟨h.i, h.w0, hw, fun _ => h.a (by omega), fun _ => ⟨hf.1, hf.2⟩, fun h3 => h.c (by omega)⟩
/-- In the end each has been told all. -/
theorem Still.all {e : Int} {t : Two} {n k k' : Nat} (h : Still e t n 6 k k') : t.t0.length = t.s1.length ∧ t.t1.length = t.s0.length ∧ t.p0.out.length = 0 ∧ t.p1.out.length = 0 := by
  have h1 := h.a (by decide)
  have h2 := h.b (by decide)
  have h3 := h.c (by decide)
  refine ⟨by rw [h2.1], by rw [h1], ?_, ?_⟩
  · rw [h.i.d.ao, outs_len, ← h1]; omega
  · rw [h.i.d'.ao, outs_len, ← h2.1]; omega
/-- What was told is a beginning of what was said. -/
def begins (a b : List Word) : Bool := decide (a = b.take a.length)
theorem TI.begins {e : Int} {t : Two} {n k k' : Nat} (h : TI e t n k k') : begins t.t0 t.s1 = true ∧ begins t.t1 t.s0 = true := ⟨decide_eq_true h.d'.ts, decide_eq_true h.d.ts⟩
end Go.Av

/-
  A cell of a row that is told otherwise: nothing yet becomes a row of its own; a new row takes an old one's name.
-/
namespace Go.Av
open Go
set_option linter.unusedVariables false
section
variable {P : Program} {N : Nat} {env : Env} {H : Heap}
/-- A cell that holds nothing yet: an empty row of its own from then on. -/
theorem CR.ghostC {B : Base} {S : List Slot} {a : Act} {w : World} {k i j sz : Nat} {q : AObj} {r : List AV} (h : CR N env H S a w) (hx : Ext B.S B.w S w) (hk : H[k]? = some q) (hr : q.rows[i]? = some r) (hj : r[j]? = some .nsl) (hp : 0 < sz) :
    ∃ S', CR N env ((H ++ [(⟨0, sz, []⟩ : AObj)]).set k { q with rows := q.rows.set i (r.set j (.sl H.length 0 0 0 0)) }) S' a w ∧ Ext B.S B.w S' w := by
  obtain ⟨s, hs, ok⟩ := h.heap.slot hk
  have hil := (List.getElem?_eq_some_iff.1 hr).1
  cases hpl : s.place with
  | none => rw [ok.nope hpl] at hil; simp at hil
  | some b =>
    obtain ⟨arr, ty, h1, h2, h3⟩ := ok.lies b hpl
    obtain ⟨k1, k2⟩ := h3 i r hr
    obtain ⟨_, u, hu, hv⟩ := k2 j _ hj
    have hc : CR 1 [(0, .nsl)] H S { tmps := #[u], defers := [] } w := ⟨h.heap, fun t => by
      cases t with
      | zero => exact hv
      | succ t => exact .junk, rfl, rfl⟩
    obtain ⟨S', hc', hx'⟩ := hc.ghost (B := ⟨S, w⟩) (t := 0) (Ext.refl S w) rfl hp
    have hv2 := hc'.env 0
    rw [get_put_same] at hv2
    have hk' : (H ++ [(⟨0, sz, []⟩ : AObj)])[k]? = some q := by rw [List.getElem?_append_left (List.getElem?_eq_some_iff.1 hk).1]; exact hk
    obtain ⟨s', hs', ok'⟩ := hc'.heap.slot hk'
    obtain ⟨s2, hs2, hg, he⟩ := hx'.slots k s hs
    rw [hs'] at hs2
    obtain rfl := Option.some.inj hs2
    have hpl' : s'.place = some b := (he (by rw [← ok'.gen, ok.gen])).2.trans hpl
    have hh := hc'.heap.retell (v2 := .sl H.length 0 0 0 0) hk' hs' hpl' h1 hr (List.getElem?_eq_some_iff.1 hj).1 hu rfl hv2
    exact ⟨S', ⟨hh, fun t => (h.env t).ext hx', h.size, h.defers⟩, hx.trans hx'⟩
theorem aw_ghostC {B : Base} {Q : Post} {c : Code} {L : Heap} {H0 : Heap} {n k i j sz : Nat} {q : AObj} {r : List AV} (k' : Nat) (hk' : k' = k) (hk : L[k]? = some q) (hr : q.rows[i]? = some r) (hj : r[j]? = some .nsl) (hn : H0.length = n) (hp : 0 < sz)
    (h : AWp P N B c Q env (H0 ++ (L.set k { q with rows := q.rows.set i (r.set j (.sl (Lid n L.length) 0 0 0 0)) } ++ [⟨0, sz, []⟩]))) : AWp P N B c Q env (H0 ++ L) := fun S a w hc hb => by
  obtain ⟨S', hc', hb'⟩ := hc.ghostC (k := Lid n k) (sz := sz) hb (lk hn hk) hr hj hp
  have hkl := (List.getElem?_eq_some_iff.1 hk).1
  have e : ((H0 ++ L) ++ [(⟨0, sz, []⟩ : AObj)]).set (Lid n k) { q with rows := q.rows.set i (r.set j (.sl (H0 ++ L).length 0 0 0 0)) } = H0 ++ (L.set k { q with rows := q.rows.set i (r.set j (.sl (Lid n L.length) 0 0 0 0)) } ++ [⟨0, sz, []⟩]) := by
    rw [List.append_assoc, show (H0 ++ L).length = Lid n L.length by rw [List.length_append, hn]; rfl, st hn, List.set_append_left _ _ hkl]
  rw [e] at hc'
  exact h S' a w hc' hb'
theorem HRel.rehome {S : List Slot} {w : World} {x y off len cap : Nat} {o q : AObj} {u : Value} (hh : HRel H S w) (hx : H[x]? = some o) (hy : H[y]? = some q) (hne : x ≠ y) (hv : VR (own S) w S (.sl x o.gen off len cap) u) :
    ∃ S', HRel ((H.set y ⟨q.gen + 1, o.sz, o.rows⟩).set x ⟨o.gen + 1, o.sz, []⟩) S' w ∧ Ext S w S' w ∧ VR (own S') w S' (.sl y (q.gen + 1) off len cap) u := by
  obtain ⟨s, hs, ok⟩ := hh.slot hx
  obtain ⟨t, ht, okt⟩ := hh.slot hy
  have hxl : x < S.length := (List.getElem?_eq_some_iff.1 hs).1
  have hyl : y < S.length := (List.getElem?_eq_some_iff.1 ht).1
  have hxH : x < H.length := (List.getElem?_eq_some_iff.1 hx).1
  have hyH : y < H.length := (List.getElem?_eq_some_iff.1 hy).1
  let S' := (S.set y ⟨t.gen + 1, s.sz, s.place⟩).set x ⟨s.gen + 1, s.sz, none⟩
  have gx : S'[x]? = some ⟨s.gen + 1, s.sz, none⟩ := List.getElem?_set_self (by simpa using hxl)
  have gy : S'[y]? = some ⟨t.gen + 1, s.sz, s.place⟩ := by
    show ((S.set y _).set x _)[y]? = _
    rw [List.getElem?_set_ne hne, List.getElem?_set_self hyl]
  have go : ∀ i, i ≠ x → i ≠ y → S'[i]? = S[i]? := fun i h1 h2 => by
    show ((S.set y _).set x _)[i]? = _
    rw [List.getElem?_set_ne (Ne.symm h1), List.getElem?_set_ne (Ne.symm h2)]
  -- whose place it is
  have hold : ∀ {i : Nat} {si : Slot} {b : Nat}, S'[i]? = some si → si.place = some b → ∃ (i' : Nat) (si' : Slot), S[i']? = some si' ∧ si'.place = some b ∧ (i' = x ∧ i = y ∨ i' = i ∧ i ≠ y) := by
    intro i si b hi hb
    by_cases e : i = x
    · subst e; rw [gx] at hi; obtain rfl := Option.some.inj hi; cases hb
    · by_cases e2 : i = y
      · subst e2; rw [gy] at hi; obtain rfl := Option.some.inj hi
        exact ⟨x, s, hs, hb, .inl ⟨rfl, rfl⟩⟩
      · rw [go i e e2] at hi
        exact ⟨i, si, hi, hb, .inr ⟨rfl, e2⟩⟩
  have hx2 : Ext S w S' w := by
    refine ⟨rfl, rfl, rfl, ⟨Nat.le_refl _, fun b _ ho => ⟨?_, rfl⟩, fun _ arr _ h => ⟨arr, h, rfl⟩⟩, fun id s0 h0 => ?_⟩
    · rintro ⟨i, si, hi, hpi⟩
      obtain ⟨i', si', h1, h2, _⟩ := hold hi hpi
      exact ho ⟨i', si', h1, h2⟩
    · by_cases e : id = x
      · subst e; rw [hs] at h0; obtain rfl := Option.some.inj h0
        exact ⟨_, gx, by simp, fun e => by simp at e⟩
      · by_cases e2 : id = y
        · subst e2; rw [ht] at h0; obtain rfl := Option.some.inj h0
          exact ⟨_, gy, by simp, fun e => by simp at e⟩
        · exact ⟨s0, by rw [go id e e2]; exact h0, Nat.le_refl _, fun _ => ⟨rfl, rfl⟩⟩
  refine ⟨S', ⟨by simp [S', hh.len], fun id o' s' ho' hs' => ?_, fun i j si sj b hi hj hbi hbj => ?_⟩, hx2, ?_⟩
  · by_cases e : id = x
    · subst e
      rw [gx] at hs'
      rw [List.getElem?_set_self (by simpa using hxH)] at ho'
      obtain rfl := Option.some.inj hs'
      obtain rfl := Option.some.inj ho'
      exact ⟨by simp [ok.gen], ok.sz, ok.pos, fun _ => rfl, fun b hb => by cases hb⟩
    · rw [List.getElem?_set_ne (Ne.symm e)] at ho'
      by_cases e2 : id = y
      · subst e2
        rw [gy] at hs'
        rw [List.getElem?_set_self hyH] at ho'
        obtain rfl := Option.some.inj hs'
        obtain rfl := Option.some.inj ho'
        refine ⟨by simp [okt.gen], ok.sz, ok.pos, ok.nope, fun b hb => ?_⟩
        obtain ⟨arr, ty, h1, h2⟩ := ok.row hb
        exact ⟨arr, ty, h1, (h2.mono hx2.stp hx2.slots).1, (h2.mono hx2.stp hx2.slots).2⟩
      · rw [List.getElem?_set_ne (Ne.symm e2)] at ho'
        rw [go id e e2] at hs'
        have ok' := hh.obj id o' s' ho' hs'
        refine ⟨ok'.gen, ok'.sz, ok'.pos, ok'.nope, fun b hb => ?_⟩
        obtain ⟨arr, ty, h1, h2⟩ := ok'.row hb
        exact ⟨arr, ty, h1, (h2.mono hx2.stp hx2.slots).1, (h2.mono hx2.stp hx2.slots).2⟩
  · obtain ⟨i', si', a1, a2, a3⟩ := hold hi hbi
    obtain ⟨j', sj', b1, b2, b3⟩ := hold hj hbj
    have := hh.inj i' j' si' sj' b a1 b1 a2 b2
    subst this
    rcases a3 with ⟨h1, h2⟩ | ⟨h1, h2⟩ <;> rcases b3 with ⟨h3, h4⟩ | ⟨h3, h4⟩
    · rw [h2, h4]
    · subst h1; subst h3
      rw [gx] at hj
      obtain rfl := Option.some.inj hj
      cases hbj
    · subst h1; subst h3
      rw [gx] at hi
      obtain rfl := Option.some.inj hi
      cases hbi
    · rw [← h1, ← h3]
  · cases hv with
    | sl s' hs' hg h1 hsl =>
      rw [hs] at hs'
      obtain rfl := Option.some.inj hs'
      refine .sl ⟨t.gen + 1, s.sz, s.place⟩ gy (by simp [okt.gen]) h1 fun _ => ?_
      obtain ⟨c, hc1, hc2, hsl⟩ := hsl ok.gen.symm
      exact ⟨c, hc1, hc2, hsl⟩
/-- A new row takes an old one's name, in the cell that leads to it. -/
theorem CR.takeC {B : Base} {S : List Slot} {a : Act} {w : World} {k i j x y off len cap : Nat} {o p q : AObj} {r : List AV} (h : CR N env H S a w) (hx : Ext B.S B.w S w) (hk : H[k]? = some q) (hr : q.rows[i]? = some r) (hj : r[j]? = some (.sl x o.gen off len cap)) (h1 : x ≠ k) (h2 : y ≠ k) (hne : x ≠ y)
    (hox : H[x]? = some o) (hoy : H[y]? = some p) :
    ∃ S', CR N env (((H.set y ⟨p.gen + 1, o.sz, o.rows⟩).set x ⟨o.gen + 1, o.sz, []⟩).set k { q with rows := q.rows.set i (r.set j (.sl y (p.gen + 1) off len cap)) }) S' a w ∧ Ext B.S B.w S' w := by
  obtain ⟨s, hs, ok⟩ := h.heap.slot hk
  have hil := (List.getElem?_eq_some_iff.1 hr).1
  cases hpl : s.place with
  | none => rw [ok.nope hpl] at hil; simp at hil
  | some b =>
    obtain ⟨arr, ty, k0, _, h3⟩ := ok.lies b hpl
    obtain ⟨k1, k2⟩ := h3 i r hr
    obtain ⟨_, u, hu, hv⟩ := k2 j _ hj
    obtain ⟨S', hh', hx', hv2⟩ := h.heap.rehome hox hoy hne hv
    have hk' : ((H.set y ⟨p.gen + 1, o.sz, o.rows⟩).set x ⟨o.gen + 1, o.sz, []⟩)[k]? = some q := by rw [List.getElem?_set_ne h1, List.getElem?_set_ne h2]; exact hk
    obtain ⟨s', hs', ok'⟩ := hh'.slot hk'
    obtain ⟨s2, hs2, hg, he⟩ := hx'.slots k s hs
    rw [hs'] at hs2
    obtain rfl := Option.some.inj hs2
    have hpl' : s'.place = some b := (he (by rw [← ok'.gen, ok.gen])).2.trans hpl
    have hh := hh'.retell (v2 := .sl y (p.gen + 1) off len cap) hk' hs' hpl' k0 hr (List.getElem?_eq_some_iff.1 hj).1 hu rfl hv2
    exact ⟨S', ⟨hh, fun t => (h.env t).ext hx', h.size, h.defers⟩, hx.trans hx'⟩
theorem aw_takeC {B : Base} {Q : Post} {c : Code} {k i j x y g off len cap : Nat} {o p q : AObj} {r : List AV} (hk : H[k]? = some q) (hr : q.rows[i]? = some r) (hj : r[j]? = some (.sl x g off len cap)) (h1 : x ≠ k) (h2 : y ≠ k) (hne : x ≠ y)
    (hox : H[x]? = some o) (hg : o.gen = g) (hoy : H[y]? = some p)
    (h : AWp P N B c Q env (((H.set y ⟨p.gen + 1, o.sz, o.rows⟩).set x ⟨o.gen + 1, o.sz, []⟩).set k { q with rows := q.rows.set i (r.set j (.sl y (p.gen + 1) off len cap)) })) : AWp P N B c Q env H := fun S a w hc hb => by
  subst hg
  obtain ⟨S', hc', hb'⟩ := hc.takeC hb hk hr hj h1 h2 hne hox hoy
  exact h S' a w hc' hb'
end
end Go.Av

/-
  A REGION THAT DRAWS: two rows of the call's own are as1 they were.
-/
namespace Go.Av
def AtR2 (H0 L0 : Heap) (k1 k2 : Nat) (H : Heap) : Prop := ∃ G : Heap, H = H0 ++ G ∧ G[k1]? = L0[k1]? ∧ G[k2]? = L0[k2]?
section
variable {P : Program} {N : Nat} {B : Base} {ops : Array Oper} {a : Option Nat} {C : Heap → Prop} {F : Env → Heap → Prop} {Q : Post}
variable {fuel : Nat} {listed : Array Bool} {env : Env} {H H0 L : Heap} {op : Op} {ty : TypeId} {pos : String} {after : Array Edge} {v : AV} {id : Nat} {l : List Oper}
theorem aw_draw2 (hm : P.follows .mixedOrders = true) (a : Option Nat) (k1 k2 : Nat) (h : AAny P N B l.toArray a (AtR2 H0 L k1 k2) (Q .nrm) l.length (Array.replicate l.length false) env (H0 ++ L)) : AWp P N B (.region id l.toArray true) Q env (H0 ++ L) := aw_draw hm a _ h
theorem aqr2 {d k1 k2 : Nat} {L0 : Heap} (i : Nat) (hi : ops[i]? = some ⟨some d, op, ty, pos, after, none⟩) (hB : firstB ops listed a i = true) (hd : DN d N) (h1 : ∀ G : Heap, G[k1]? = L0[k1]? → G[k2]? = L0[k2]? → V1 P N op ty (renv ⟨some d, op, ty, pos, after, none⟩ env) (H0 ++ G) v)
    (h : AAny P N B ops a (AtR2 H0 L0 k1 k2) F fuel (listed.setIfInBounds i true) ((d, v) :: env) H) : AAny P N B ops a (AtR2 H0 L0 k1 k2) F (fuel + 1) listed env H :=
  aq1 i hi hB hd (by rintro _ ⟨G, rfl, hG1, hG2⟩; exact h1 G hG1 hG2) h
theorem aqyr2 {d j g k1 k2 : Nat} {want : Bool} {L0 : Heap} (i : Nat) (hi : ops[i]? = some ⟨some d, op, ty, pos, after, some (j, want)⟩) (hB : firstB ops listed a i = true) (hd : DN d N) (hj : (ops[j]?).bind (·.dst) = some g) (hb : get env g = .bool want)
    (h1 : ∀ G : Heap, G[k1]? = L0[k1]? → G[k2]? = L0[k2]? → V1 P N op ty (renv ⟨some d, op, ty, pos, after, some (j, want)⟩ env) (H0 ++ G) v)
    (h : AAny P N B ops a (AtR2 H0 L0 k1 k2) F fuel (listed.setIfInBounds i true) ((d, v) :: env) H) : AAny P N B ops a (AtR2 H0 L0 k1 k2) F (fuel + 1) listed env H :=
  aqy1 i hi hB hd hj hb (by rintro _ ⟨G, rfl, hG1, hG2⟩; exact h1 G hG1 hG2) h
end
end Go.Av

/-
  A REGION THAT DRAWS: an operation that is bound to the turning one by another one is taken first.
-/
namespace Go.Av
section
variable {P : Program} {N : Nat} {B : Base} {ops : Array Oper} {a : Option Nat} {C : Heap → Prop} {F : Env → Heap → Prop} {Q : Post}
variable {op : Op} {ty : TypeId} {pos : String} {after : Array Edge}
/-- i stands ahead of m, by way of operations that have not come up. -/
inductive Anc (ops : Array Oper) (listed : Array Bool) (i : Nat) : Nat → Prop
  | here : Anc ops listed i i
  | step {m : Nat} {om : Oper} {e : Edge} : listed.getD m true = false → ops[m]? = some om → e ∈ om.after → Region.binds .any e = true → Anc ops listed i e.on → Anc ops listed i m
def Wait2 (ops : Array Oper) (a : Option Nat) (i : Nat) (listed : Array Bool) : Prop := ∀ a', a = some a' → ∀ oa, ops[a']? = some oa → ∃ e ∈ oa.after, Region.binds .any e = true ∧ Anc ops listed i e.on
theorem listed_no {listed : Array Bool} {m : Nat} (h1 : listed.getD m false = true) (h2 : listed.getD m true = false) : False := by
  rcases Nat.lt_or_ge m listed.size with h' | h'
  · simp [h'] at h1 h2; rw [h1] at h2; cases h2
  · simp [Array.getElem?_eq_none h'] at h1
theorem Anc.put {listed : Array Bool} {i j m : Nat} {oj : Oper} (hoj : ops[j]? = some oj) (hall : ∀ e ∈ oj.after, Region.binds .any e = true → listed.getD e.on false = true) (hnot : ∀ e ∈ oj.after, Region.binds .any e = true → e.on ≠ i) (h : Anc ops listed i m) : Anc ops (listed.setIfInBounds j true) i m := by
  induction h with
  | here => exact .here
  | @step m om e hm hom he hb h ih =>
    refine .step ?_ hom he hb ih
    have : j ≠ m := by
      rintro rfl
      rw [hoj] at hom
      obtain rfl := Option.some.inj hom
      have h1 := hall e he hb
      have h2 := hnot e he hb
      cases h with
      | here => exact h2 rfl
      | step h3 => exact listed_no h1 h3
    rw [getD_set_ne true this]; exact hm
/-- Taken first: what binds it to the one that turns stands between. -/
theorem aa_first_aux2 {i : Nat} {oi : Oper} {v : AV} (hi : ops[i]? = some oi) (hdi : ∀ t, oi.dst = some t → DN t N) (hai : a ≠ some i) :
    ∀ (fuel : Nat) (listed : Array Bool) (env : Env) (H : Heap), Wait2 ops a i listed → listed.size = ops.size →
      (∀ j oj, ops[j]? = some oj → j ≠ i → listed.getD j true = false → (∀ e ∈ oj.after, Region.binds .any e = true → e.on ≠ i) → oi.apart ops oj = true) →
      i ∈ Region.ready .any ops listed → Yet a listed → Quiet P N ops C oi env v →
      AAny P N B ops a C F fuel (listed.setIfInBounds i true) (Av.put env oi.dst v) H → AAny P N B ops a C F (fuel + 1) listed env H := by
  have hset : ∀ (listed : Array Bool) (j : Nat), a ≠ some j → Yet a (listed.setIfInBounds j true) = Yet a listed := fun listed j hj => by
    unfold Yet
    cases a with
    | none => rfl
    | some a => simp only; rw [getD_set_ne true (fun e => hj (by rw [e]))]
  intro fuel
  induction fuel with
  | zero =>
    intro listed env H _ hsz _ hr ha hq h
    have hC : C H := h.1 (by rw [hset _ _ hai]; exact ha)
    refine ⟨fun _ => hC, fun h0 => (by rw [h0] at hr; cases hr), fun j hj => ?_⟩
    by_cases hji : j = i
    · subst hji; exact hq.at_ hi hdi hC h
    · have := ready_mono hj hji
      rw [h.2.1] at this
      cases this
  | succ fuel ih =>
    intro listed env H hwait hsz hfree hr ha hq h
    have hC : C H := h.1 (by rw [hset _ _ hai]; exact ha)
    refine ⟨fun _ => hC, fun h0 => (by rw [h0] at hr; cases hr), fun j hj => ?_⟩
    by_cases hji : j = i
    · subst hji; exact hq.at_ hi hdi hC h
    · have h1 := h.2.2 j (ready_mono hj hji)
      obtain ⟨hjun, oj, hoj, hall⟩ := mem_ready.1 hj
      have hnot : ∀ e ∈ oj.after, Region.binds .any e = true → e.on ≠ i := fun e he hb heq => by
        have h1 := hall e he hb
        have h0 := (mem_ready.1 hr).1
        rw [heq] at h1
        rcases Nat.lt_or_ge i listed.size with h' | h'
        · simp [h'] at h0 h1; rw [h0] at h1; cases h1
        · simp [Array.getElem?_eq_none h'] at h1
      have hja : a ≠ some j := by
        rintro rfl
        obtain ⟨e, he, hb, hm⟩ := hwait j rfl oj hoj
        generalize hx : e.on = x at hm
        cases hm with
        | here => exact hnot e he hb hx
        | step h3 => exact listed_no (hall e he hb) (by rw [hx]; exact h3)
      have hwait' : Wait2 ops a i (listed.setIfInBounds j true) := by
        intro a' ha' oa hoa
        obtain ⟨e, he, hb, hm⟩ := hwait a' ha' oa hoa
        exact ⟨e, he, hb, hm.put hoj hall hnot⟩
      have hap := hfree j oj hoj hji hjun hnot
      obtain ⟨p1, p2, p3⟩ := Oper.apart_spec hap
      have hfree' : ∀ k ok, ops[k]? = some ok → k ≠ i → (listed.setIfInBounds j true).getD k true = false →
          (∀ e ∈ ok.after, Region.binds .any e = true → e.on ≠ i) → oi.apart ops ok = true := fun k ok hk hki hun hno => by
        refine hfree k ok hk hki ?_ hno
        by_cases hjk : j = k
        · subst hjk; exact hjun
        · rw [getD_set_ne true hjk] at hun; exact hun
      obtain ⟨o, ho, hd, h2⟩ := h1
      rw [hoj] at ho
      obtain rfl := Option.some.inj ho
      have step : ∀ x H', AAny P N B ops a C F fuel ((listed.setIfInBounds i true).setIfInBounds j true) (Av.put (Av.put env oi.dst v) oj.dst x) H' → AAny P N B ops a C F (fuel + 1) (listed.setIfInBounds j true) (Av.put env oj.dst x) H' := by
        intro x H' hx
        refine ih (listed.setIfInBounds j true) (Av.put env oj.dst x) H' hwait' (by simpa using hsz) hfree' (ready_mono hr (Ne.symm hji)) (by rw [hset _ _ hja]; exact ha) (hq.put p3 fun t ht => (hd t ht).2) ?_
        rw [Array.setIfInBounds_comm _ _ hji]
        exact AAny.eqv _ _ _ _ _ (Eqv.comm env v x p2) hx
      refine ⟨oj, hoj, hd, ?_⟩
      rcases h2 with ⟨k1, V, k2, k3⟩ | ⟨k1, k2⟩
      · exact .inl ⟨k1.put p1, V, by rw [renv_put ops oj env oi.dst v p1 fun t ht => (hdi t ht).2] at k2; exact k2, fun x H' hx => step x H' (k3 x H' hx)⟩
      · exact .inr ⟨k1.put p1, step _ _ k2⟩

def ancB (ops : Array Oper) (listed : Array Bool) (i : Nat) : Nat → List Nat → Bool
  | m, [] => m == i
  | m, x :: l => !(listed.getD m true) && (match ops[m]? with
      | some om => om.after.toList.any fun e => Region.binds .any e && e.on == x
      | none => false) && ancB ops listed i x l
theorem ancB_spec {listed : Array Bool} {i : Nat} : ∀ (l : List Nat) (m : Nat), ancB ops listed i m l = true → Anc ops listed i m
  | [], m, h => by simp only [ancB, beq_iff_eq] at h; subst h; exact .here
  | x :: l, m, h => by
    simp only [ancB, Bool.and_eq_true, Bool.not_eq_true'] at h
    obtain ⟨⟨h1, h2⟩, h3⟩ := h
    cases hm : ops[m]? with
    | none => rw [hm] at h2; cases h2
    | some om =>
      rw [hm] at h2
      simp only [List.any_eq_true, Bool.and_eq_true, beq_iff_eq] at h2
      obtain ⟨e, he, hb, ho⟩ := h2
      subst ho
      exact .step h1 hm (by simpa using he) hb (ancB_spec l _ h3)
def firstB2 (ops : Array Oper) (listed : Array Bool) (a : Nat) (l : List Nat) (i : Nat) : Bool :=
  (Region.ready .any ops listed).contains i && Region.free .any ops listed i && decide (listed.size = ops.size) &&
    (i != a && !(listed.getD a true) && ancB ops listed i a l)
theorem aqpz {fuel : Nat} {listed : Array Bool} {env : Env} {H H0 : Heap} {v : AV} {d a : Nat} {L0 : Heap} (l : List Nat) (i : Nat) (hi : ops[i]? = some ⟨some d, op, ty, pos, after, none⟩) (hB : firstB2 ops listed a l i = true) (hd : DN d N) (h1 : ∀ G, V1 P N op ty (renv ⟨some d, op, ty, pos, after, none⟩ env) (H0 ++ (L0 ++ G)) v)
    (h : AAny P N B ops (some a) (Pre H0 L0) F fuel (listed.setIfInBounds i true) ((d, v) :: env) H) : AAny P N B ops (some a) (Pre H0 L0) F (fuel + 1) listed env H := by
  simp only [firstB2, Bool.and_eq_true, decide_eq_true_eq, bne_iff_ne, Bool.not_eq_true'] at hB
  obtain ⟨⟨⟨h2, h3⟩, h5⟩, ⟨h6, h7⟩, h8⟩ := hB
  refine aa_first_aux2 hi (by rintro _ ⟨⟩; exact hd) (fun e => h6 (Option.some.inj e).symm) fuel listed env H ?_ h5 (Region.free_spec hi h3) (by simpa using h2) h7 (.inl ⟨rfl, by rintro H ⟨G, rfl⟩; exact (h1 G).toV2 _ _ _ _⟩) h
  intro a' ha oa hoa
  obtain rfl := Option.some.inj ha
  cases ancB_spec _ _ h8 with
  | here => exact absurd rfl h6
  | step h9 h10 h11 h12 h13 =>
    rw [hoa] at h10
    obtain rfl := Option.some.inj h10
    exact ⟨_, h11, h12, h13⟩
end
end Go.Av

/-
  Drawn regions in which a row that was there before is turned midway: what is read of one other row stays.
-/
namespace Go.Av
open Go
set_option linter.unusedVariables false
variable {P : Program} {N : Nat} {B : Base} {ops : Array Oper} {a : Option Nat} {C : Heap → Prop} {F : Env → Heap → Prop} {Q : Post}
variable {fuel : Nat} {listed : Array Bool} {env : Env} {H H0 L : Heap} {op : Op} {ty : TypeId} {pos : String} {after : Array Edge} {v : AV} {id : Nat} {l : List Oper}
def PreM (p : Nat) (o : AObj) (n : Nat) (L0 H : Heap) : Prop := ∃ M G, H = M ++ (L0 ++ G) ∧ M.length = n ∧ M[p]? = some o
theorem aw_drawM (hm : P.follows .mixedOrders = true) (a : Option Nat) (k : Nat) {p : Nat} {o : AObj} (hp : H0[p]? = some o) (h : AAny P N B l.toArray a (PreM p o H0.length (L.take k)) (Q .nrm) l.length (Array.replicate l.length false) env (H0 ++ L)) : AWp P N B (.region id l.toArray true) Q env (H0 ++ L) := aw_draw hm a _ h
theorem aqm {d p n : Nat} {o : AObj} {L0 : Heap} (i : Nat) (hi : ops[i]? = some ⟨some d, op, ty, pos, after, none⟩) (hB : firstB ops listed a i = true) (hd : DN d N) (h1 : ∀ M G, M.length = n → M[p]? = some o → V1 P N op ty (renv ⟨some d, op, ty, pos, after, none⟩ env) (M ++ (L0 ++ G)) v)
    (h : AAny P N B ops a (PreM p o n L0) F fuel (listed.setIfInBounds i true) ((d, v) :: env) H) : AAny P N B ops a (PreM p o n L0) F (fuel + 1) listed env H :=
  aq1 i hi hB hd (by rintro _ ⟨M, G, rfl, hn, hp⟩; exact h1 M G hn hp) h
theorem aqmz {d p n a : Nat} {o : AObj} {L0 : Heap} (l : List Nat) (i : Nat) (hi : ops[i]? = some ⟨some d, op, ty, pos, after, none⟩) (hB : firstB2 ops listed a l i = true) (hd : DN d N) (h1 : ∀ M G, M.length = n → M[p]? = some o → V1 P N op ty (renv ⟨some d, op, ty, pos, after, none⟩ env) (M ++ (L0 ++ G)) v)
    (h : AAny P N B ops (some a) (PreM p o n L0) F fuel (listed.setIfInBounds i true) ((d, v) :: env) H) : AAny P N B ops (some a) (PreM p o n L0) F (fuel + 1) listed env H := by
  simp only [firstB2, Bool.and_eq_true, decide_eq_true_eq, bne_iff_ne, Bool.not_eq_true'] at hB
  obtain ⟨⟨⟨h2, h3⟩, h5⟩, ⟨h6, h7⟩, h8⟩ := hB
  refine aa_first_aux2 hi (by rintro _ ⟨⟩; exact hd) (fun e => h6 (Option.some.inj e).symm) fuel listed env H ?_ h5 (Region.free_spec hi h3) (by simpa using h2) h7 (.inl ⟨rfl, by rintro H ⟨M, G, rfl, hn, hp⟩; exact (h1 M G hn hp).toV2 _ _ _ _⟩) h
  intro a' ha oa hoa
  obtain rfl := Option.some.inj ha
  cases ancB_spec _ _ h8 with
  | here => exact absurd rfl h6
  | step h9 h10 h11 h12 h13 =>
    rw [hoa] at h10
    obtain rfl := Option.some.inj h10
    exact ⟨_, h11, h12, h13⟩
end Go.Av

namespace Go.Av
open Go.Proofs
set_option maxRecDepth 10000
set_option linter.unusedSimpArgs false
set_option linter.unusedVariables false

abbrev eWd (b : Word) : List AV := [.pl (b.map brow)]
structure G6 where
  w0 : Nat
  w1 : Nat
  s0 : Nat
  s1 : Nat
  t0 : Nat
  t1 : Nat
def G6.swap (g : G6) : G6 := ⟨g.w1, g.w0, g.s1, g.s0, g.t1, g.t0⟩
/-- How often the rows have moved. -/
def gF (g : G6) (t : Two) (kind at_ : Nat) (word : Word) : G6 :=
  if kind = 0 then { g with s0 := if (pSay t.p0 word).2 = 0 then g.s0 + 1 else g.s0 }
  else if kind = 1 then { g with w0 := if t.w0.length < 100 then g.w0 + 1 else g.w0 }
  else if t.w0.length = 0 then g
  else if kind = 4 then { g with w0 := g.w0 + 1 }
  else if kind = 2 then { g with w0 := g.w0 + 1, t1 := if (pCome t.p1 (t.x at_)).ok then g.t1 + 1 else g.t1 }
  else { g with w0 := g.w0 + 1 }
def gP (g : G6) (t : Two) (kind : Nat) (side : Bool) (at_ : Nat) (word : Word) : G6 := if side then (gF g.swap t.swap kind at_ word).swap else gF g t kind at_ word
abbrev eTwo (n : Nat) (t : Two) (g : G6) : List AV := [.int .i64 t.p0.epoch, .pl (t.p0.out.map ePacket), .int .i64 t.p0.next, .int .i64 t.p0.want, .int .i64 t.p1.epoch, .pl (t.p1.out.map ePacket), .int .i64 t.p1.next, .int .i64 t.p1.want,
  .sl (n + 1) g.w0 0 t.w0.length t.w0.length, .sl (n + 2) g.w1 0 t.w1.length t.w1.length, .sl (n + 3) g.s0 0 t.s0.length t.s0.length, .sl (n + 4) g.s1 0 t.s1.length t.s1.length, .sl (n + 5) g.t0 0 t.t0.length t.t0.length, .sl (n + 6) g.t1 0 t.t1.length t.t1.length]
def Two.up0 (t : Two) (x : Pipe) : Two := ⟨x, t.p1, t.w0, t.w1, t.s0, t.s1, t.t0, t.t1⟩
def Two.up1 (t : Two) (x : Pipe) : Two := ⟨t.p0, x, t.w0, t.w1, t.s0, t.s1, t.t0, t.t1⟩
def Two.uw0 (t : Two) (x : List Packet) : Two := ⟨t.p0, t.p1, x, t.w1, t.s0, t.s1, t.t0, t.t1⟩
def G6.uw0 (g : G6) (x : Nat) : G6 := ⟨x, g.w1, g.s0, g.s1, g.t0, g.t1⟩
def Two.uw1 (t : Two) (x : List Packet) : Two := ⟨t.p0, t.p1, t.w0, x, t.s0, t.s1, t.t0, t.t1⟩
def G6.uw1 (g : G6) (x : Nat) : G6 := ⟨g.w0, x, g.s0, g.s1, g.t0, g.t1⟩
def Two.us0 (t : Two) (x : List Word) : Two := ⟨t.p0, t.p1, t.w0, t.w1, x, t.s1, t.t0, t.t1⟩
def G6.us0 (g : G6) (x : Nat) : G6 := ⟨g.w0, g.w1, x, g.s1, g.t0, g.t1⟩
def Two.us1 (t : Two) (x : List Word) : Two := ⟨t.p0, t.p1, t.w0, t.w1, t.s0, x, t.t0, t.t1⟩
def G6.us1 (g : G6) (x : Nat) : G6 := ⟨g.w0, g.w1, g.s0, x, g.t0, g.t1⟩
def Two.ut0 (t : Two) (x : List Word) : Two := ⟨t.p0, t.p1, t.w0, t.w1, t.s0, t.s1, x, t.t1⟩
def G6.ut0 (g : G6) (x : Nat) : G6 := ⟨g.w0, g.w1, g.s0, g.s1, x, g.t1⟩
def Two.ut1 (t : Two) (x : List Word) : Two := ⟨t.p0, t.p1, t.w0, t.w1, t.s0, t.s1, t.t0, x⟩
def G6.ut1 (g : G6) (x : Nat) : G6 := ⟨g.w0, g.w1, g.s0, g.s1, g.t0, x⟩
abbrev eTwoW0 (n : Nat) (t : Two) (g : G6) (c : AV) : List AV := [.int .i64 t.p0.epoch, .pl (t.p0.out.map ePacket), .int .i64 t.p0.next, .int .i64 t.p0.want, .int .i64 t.p1.epoch, .pl (t.p1.out.map ePacket), .int .i64 t.p1.next, .int .i64 t.p1.want, c, .sl (n + 2) g.w1 0 t.w1.length t.w1.length, .sl (n + 3) g.s0 0 t.s0.length t.s0.length, .sl (n + 4) g.s1 0 t.s1.length t.s1.length, .sl (n + 5) g.t0 0 t.t0.length t.t0.length, .sl (n + 6) g.t1 0 t.t1.length t.t1.length]
abbrev eTwoW1 (n : Nat) (t : Two) (g : G6) (c : AV) : List AV := [.int .i64 t.p0.epoch, .pl (t.p0.out.map ePacket), .int .i64 t.p0.next, .int .i64 t.p0.want, .int .i64 t.p1.epoch, .pl (t.p1.out.map ePacket), .int .i64 t.p1.next, .int .i64 t.p1.want, .sl (n + 1) g.w0 0 t.w0.length t.w0.length, c, .sl (n + 3) g.s0 0 t.s0.length t.s0.length, .sl (n + 4) g.s1 0 t.s1.length t.s1.length, .sl (n + 5) g.t0 0 t.t0.length t.t0.length, .sl (n + 6) g.t1 0 t.t1.length t.t1.length]
/-- Seven rows in memory. -/
def HT (A C : Heap) (o0 o1 o2 o3 o4 o5 o6 : AObj) : Heap := A ++ (o0 :: o1 :: o2 :: o3 :: o4 :: o5 :: o6 :: C)
abbrev oTwo (n : Nat) (t : Two) (g : G6) : AObj := ⟨0, 14, [eTwo n t g]⟩
abbrev oW (g : Nat) (l : List Packet) : AObj := ⟨g, 4, l.map ePacket⟩
abbrev oS (g : Nat) (l : List Word) : AObj := ⟨g, 1, l.map eWd⟩
def HTwo (A C : Heap) (t : Two) (g : G6) : Heap := HT A C (oTwo A.length t g) (oW g.w0 t.w0) (oW g.w1 t.w1) (oS g.s0 t.s0) (oS g.s1 t.s1) (oS g.t0 t.t0) (oS g.t1 t.t1)
section
variable {A C : Heap} {o0 o1 o2 o3 o4 o5 o6 x : AObj}
theorem HT_len : (HT A C o0 o1 o2 o3 o4 o5 o6).length = A.length + 7 + C.length := by simp [HT]; omega
theorem HT_get0 : (HT A C o0 o1 o2 o3 o4 o5 o6)[A.length]? = some o0 := by rw [HT, List.getElem?_append_right (by omega)]; rw [Nat.sub_self]; rfl
theorem HT_set0 : (HT A C o0 o1 o2 o3 o4 o5 o6).set (A.length) x = HT A C x o1 o2 o3 o4 o5 o6 := by rw [HT, List.set_append_right _ _ (by omega)]; rw [Nat.sub_self]; rfl
theorem HT_get1 : (HT A C o0 o1 o2 o3 o4 o5 o6)[A.length + 1]? = some o1 := by rw [HT, List.getElem?_append_right (by omega)]; rw [Nat.add_sub_cancel_left]; rfl
theorem HT_set1 : (HT A C o0 o1 o2 o3 o4 o5 o6).set (A.length + 1) x = HT A C o0 x o2 o3 o4 o5 o6 := by rw [HT, List.set_append_right _ _ (by omega)]; rw [Nat.add_sub_cancel_left]; rfl
theorem HT_get2 : (HT A C o0 o1 o2 o3 o4 o5 o6)[A.length + 2]? = some o2 := by rw [HT, List.getElem?_append_right (by omega)]; rw [Nat.add_sub_cancel_left]; rfl
theorem HT_set2 : (HT A C o0 o1 o2 o3 o4 o5 o6).set (A.length + 2) x = HT A C o0 o1 x o3 o4 o5 o6 := by rw [HT, List.set_append_right _ _ (by omega)]; rw [Nat.add_sub_cancel_left]; rfl
theorem HT_get3 : (HT A C o0 o1 o2 o3 o4 o5 o6)[A.length + 3]? = some o3 := by rw [HT, List.getElem?_append_right (by omega)]; rw [Nat.add_sub_cancel_left]; rfl
theorem HT_set3 : (HT A C o0 o1 o2 o3 o4 o5 o6).set (A.length + 3) x = HT A C o0 o1 o2 x o4 o5 o6 := by rw [HT, List.set_append_right _ _ (by omega)]; rw [Nat.add_sub_cancel_left]; rfl
theorem HT_get4 : (HT A C o0 o1 o2 o3 o4 o5 o6)[A.length + 4]? = some o4 := by rw [HT, List.getElem?_append_right (by omega)]; rw [Nat.add_sub_cancel_left]; rfl
theorem HT_set4 : (HT A C o0 o1 o2 o3 o4 o5 o6).set (A.length + 4) x = HT A C o0 o1 o2 o3 x o5 o6 := by rw [HT, List.set_append_right _ _ (by omega)]; rw [Nat.add_sub_cancel_left]; rfl
theorem HT_get5 : (HT A C o0 o1 o2 o3 o4 o5 o6)[A.length + 5]? = some o5 := by rw [HT, List.getElem?_append_right (by omega)]; rw [Nat.add_sub_cancel_left]; rfl
theorem HT_set5 : (HT A C o0 o1 o2 o3 o4 o5 o6).set (A.length + 5) x = HT A C o0 o1 o2 o3 o4 x o6 := by rw [HT, List.set_append_right _ _ (by omega)]; rw [Nat.add_sub_cancel_left]; rfl
theorem HT_get6 : (HT A C o0 o1 o2 o3 o4 o5 o6)[A.length + 6]? = some o6 := by rw [HT, List.getElem?_append_right (by omega)]; rw [Nat.add_sub_cancel_left]; rfl
theorem HT_set6 : (HT A C o0 o1 o2 o3 o4 o5 o6).set (A.length + 6) x = HT A C o0 o1 o2 o3 o4 o5 x := by rw [HT, List.set_append_right _ _ (by omega)]; rw [Nat.add_sub_cancel_left]; rfl
end
theorem wds_len (l : List Word) : ∀ r ∈ l.map eWd, r.length = 1 := rows_len (e := eWd) (n := 1) (fun _ => rfl) l
theorem wds_bel (n : Nat) (l : List Word) : ∀ r ∈ l.map eWd, AV.bels n r = true := rows_bel (e := eWd) (fun _ => rfl) l
theorem two_bel {n m : Nat} (t : Two) (g : G6) (h : n + 6 < m) : ∀ r ∈ (oTwo n t g).rows, AV.bels m r = true := by
  intro r hr
  simp only [oTwo, List.mem_singleton] at hr
  subst hr
  simp [AV.bels, AV.bel]
  omega
theorem HTwo_len {A C : Heap} {t : Two} {g : G6} : (HTwo A C t g).length = A.length + 7 + C.length := HT_len
theorem HTwo_bel {A C : Heap} {t t' : Two} {g g' : G6} {n : Nat} (h : HBel n (HTwo A C t g)) (hn : A.length + 6 < n) : HBel n (HTwo A C t' g') := by
  intro o ho
  have ho' : o ∈ A ∨ o = oTwo A.length t' g' ∨ o = oW g'.w0 t'.w0 ∨ o = oW g'.w1 t'.w1 ∨ o = oS g'.s0 t'.s0 ∨ o = oS g'.s1 t'.s1 ∨ o = oS g'.t0 t'.t0 ∨ o = oS g'.t1 t'.t1 ∨ o ∈ C := by simpa [HTwo, HT] using ho
  rcases ho' with e | rfl | rfl | rfl | rfl | rfl | rfl | rfl | e
  · exact h o (by simp [HTwo, HT, e])
  · exact two_bel t' g' hn
  · exact packets_bel _ _
  · exact packets_bel _ _
  · exact wds_bel _ _
  · exact wds_bel _ _
  · exact wds_bel _ _
  · exact wds_bel _ _
  · exact h o (by simp [HTwo, HT, e])
theorem e_doneT {P : Program} {env : Env} {L A C : Heap} {B : Base} {rs : List ResultVar} {args : List AV} {M : Heap} {t t' : Two} {g g' : G6} (hM' : M = HTwo A C t' g') (hB : Begun B (HTwo A C t g) args) (h : ResVs P env (M ++ L) rs []) : Ends P B rs (Ret (.tup []) (HTwo A C t' g')) .ret env (M ++ L) := by
  subst hM'
  exact e_doneF hB h rfl rfl (by rw [HTwo_len, HTwo_len]) (HTwo_bel hB.heap (by rw [HTwo_len]; omega))
theorem aw_base {P : Program} {N : Nat} {B : Base} {Q : Post} {env : Env} {c : Code} {M L : Heap} (M' : Heap) (e : M = M') (h : AWp P N B c Q env (M' ++ L)) : AWp P N B c Q env (M ++ L) := by
  subst e; exact h
theorem aw_heap {P : Program} {N : Nat} {B : Base} {Q : Post} {env : Env} {c : Code} {M : Heap} (M' : Heap) (e : M = M') (h : AWp P N B c Q env M') : AWp P N B c Q env M := by
  subst e; exact h
/-- What a walk asks of the state. -/
structure TB (t : Two) : Prop where
  r0 : pright t.p0 = true
  r1 : pright t.p1 = true
  b0 : ∀ x ∈ t.p0.out, x.body.length ≤ 10000
  b1 : ∀ x ∈ t.p1.out, x.body.length ≤ 10000
  c0 : ∀ x ∈ t.w0, x.body.length ≤ 10000
  c1 : ∀ x ∈ t.w1, x.body.length ≤ 10000
  lw0 : t.w0.length ≤ 10000
  lw1 : t.w1.length ≤ 10000
  ls0 : t.s0.length ≤ 10000
  ls1 : t.s1.length ≤ 10000
  lt0 : t.t0.length ≤ 10000
  lt1 : t.t1.length ≤ 10000
abbrev eDo (kind : Nat) (side : Bool) (at_ : Nat) (word : Word) : List AV := [.int .u8 (kind : Int), .bool side, .int .u8 (at_ : Int), .pl (word.map brow)]
set_option maxHeartbeats 0 in
theorem two_do0 (t : Two) (g : G6) (kind at_ : Nat) (word : Word) (A C : Heap) (ht : TB t) (hkd : kind < 256) (ha : at_ < 256) (hw : word.length ≤ 10000) :
    AC Try.prog 39 [.pt A.length 0 0 0, .agg (eDo kind false at_ word)] (HTwo A C t g) (Ret (.tup []) (HTwo A C (doP t (kind % 5) false at_ word) (gP g t (kind % 5) false at_ word))) := by
  obtain ⟨hr0, hr1, hb0, hb1, hc0, hc1, lw0, lw1, ls0, ls1, lt0, lt1⟩ := ht
  have ho0 := (pright_facts hr0).2.2.2.2.2.2.1
  have ho1 := (pright_facts hr1).2.2.2.2.2.2.1
  have hF : (HTwo A C t g)[A.length]? = some ⟨0, 14, [eTwo A.length t g]⟩ := HT_get0
  have hW : (HTwo A C t g)[A.length + 1]? = some ⟨g.w0, 4, t.w0.map ePacket⟩ := HT_get1
  have hS : (HTwo A C t g)[A.length + 3]? = some ⟨g.s0, 1, t.s0.map eWd⟩ := HT_get3
  have hT : (HTwo A C t g)[A.length + 6]? = some ⟨g.t1, 1, t.t1.map eWd⟩ := HT_get6
  have hlen : (HTwo A C t g).length = A.length + 7 + C.length := HT_len
  have hm6 : A.length + 6 < (HTwo A C t g).length := by omega
  refine AC.body (N := 195) [] Try.func39 rfl rfl rfl (Nat.le_of_ble_eq_true rfl) fun B hB => ?_
  refine Z7t ?_
  refine Zi ?_
  refine Z3 ?_
  refine Z7u ?_
  refine Z7t ?_
  refine Zj ?_
  refine Z7v ?_
  refine Z7w ?_
  refine aw_cond rfl (fun hc => ?_) (fun hc => ?_)
  · cases hc
  clear hc
  refine Z7x ?_
  refine Z7y ?_
  refine Z3 ?_
  have hq5 : kind % 5 < 5 := Nat.mod_lt _ (by decide)
  generalize hkq : kind % 5 = q at hq5 ⊢
  have hrem : ((kind : Nat) : Int).tmod 5 = (q : Int) := by rw [Int.tmod_eq_emod_of_nonneg (by omega)]; omega
  refine Z7t ?_
  refine Z28 ?_
  refine Z7z ?_
  refine aw_cond rfl (fun hc => ?_) (fun hc => ?_)
  · have hq : q = 0 := by simp at hc; omega
    subst hq
    clear hc
    have c1 := fun H => pipe_Say t.p0 word H (by omega) (fun x hx => by have := hb0 x hx; omega) (by omega)
    have hd : doP t 0 false at_ word = (t.up0 (pSay t.p0 word).1).us0 (if (pSay t.p0 word).2 = 0 then t.s0 ++ [word] else t.s0) := by by_cases hz : (pSay t.p0 word).2 = 0 <;> simp [doP, doF, Two.swap, Two.up0, Two.us0, hz]
    have hg : gP g t 0 false at_ word = g.us0 (if (pSay t.p0 word).2 = 0 then g.s0 + 1 else g.s0) := by by_cases hz : (pSay t.p0 word).2 = 0 <;> simp [gP, gF, Two.swap, G6.swap, G6.us0, hz]
    rw [hd, hg]
    generalize pSay t.p0 word = r at c1 ⊢
    obtain ⟨p', e⟩ := r
    simp only at c1 ⊢
    refine Z7s ?_
    refine Z80 ?_
    refine Z82 ?_
    refine Z83 ?_
    refine Z2p ?_
    refine Z84 ?_
    refine aqp 5 rfl (by decide +kernel) (by decide) (fun G => w_loadN (cs := ePipe t.p0) rfl (lkF hF) rfl rfl rfl rfl) ?_
    refine Z5o ?_
    refine Z85 ?_
    refine Z86 ?_
    refine Z87 ?_
    refine Z88 ?_
    refine Z89 ?_
    refine Z8a ?_
    refine Z8b ?_
    refine Z8c ?_
    refine Z8e ?_
    refine Z8f ?_
    refine Z82 ?_
    refine Z6l ?_
    refine Z8g ?_
    refine Z8h ?_
    refine Z8i ?_
    refine aqs 6 rfl (by decide +kernel) (by first | exact fun _ => trivial | exact fun _ => ⟨_, rfl⟩ | exact fun _ => ⟨_, rfl, rfl⟩ | exact fun _ => ⟨_, rfl, rfl, rfl⟩ | exact yet_done (by decide +kernel)) (by rintro _ ⟨⟩) (w_storeFP (v := .agg (ePipe p')) (r' := eTwo A.length (t.up0 p') g) rfl hF rfl rfl rfl rfl rfl (Nat.le_of_ble_eq_true rfl) rfl) ?_
    refine Z8d ?_
    try simp only [List.set_cons_zero]
    have hF2 : ((HTwo A C t g).set A.length ⟨0, 14, [eTwo A.length (t.up0 p') g]⟩)[A.length]? = some ⟨0, 14, [eTwo A.length (t.up0 p') g]⟩ := List.getElem?_set_self (by omega)
    have hS2 : ((HTwo A C t g).set A.length ⟨0, 14, [eTwo A.length (t.up0 p') g]⟩)[A.length + 3]? = some ⟨g.s0, 1, t.s0.map eWd⟩ := by rw [List.getElem?_set_ne (by omega)]; exact hS
    refine Z8j ?_
    refine Z8k ?_
    refine aw_cond rfl (fun hc => ?_) (fun hc => ?_)
    · have he : e = 0 := by simpa using hc
      subst he
      clear hc
      rw [if_pos rfl, if_pos rfl]
      have hF := hF2
      have hF3 : (((HTwo A C t g).set A.length ⟨0, 14, [eTwo A.length (t.up0 p') g]⟩).set (A.length + 3) ⟨g.s0 + 1, 1, (t.s0.map eWd).take t.s0.length ++ [eWd word]⟩)[A.length]? = some ⟨0, 14, [eTwo A.length (t.up0 p') g]⟩ := by rw [List.getElem?_set_ne (by omega)]; exact hF2
      refine Z7s ?_
      refine Z8l ?_
      refine Z8q ?_
      refine aqm 7 rfl (by decide +kernel) (by decide) (fun M G hn hp => w_load1 (v := .sl (A.length + 3) g.s0 0 t.s0.length t.s0.length) rfl (lkF hp) rfl rfl rfl) ?_
      refine Z8r ?_
      refine Z8s ?_
      refine Z8t ?_
      refine Z8u ?_
      refine Z8v ?_
      refine aqs 11 rfl (by decide +kernel) (by first | exact fun _ => ⟨_, _, rfl, rfl, hF⟩ | exact fun _ => ⟨_, _, rfl, by simp, hF3⟩ | exact fun _ => trivial | exact fun _ => ⟨_, rfl⟩ | exact fun _ => ⟨_, rfl, rfl⟩ | exact fun _ => ⟨_, rfl, rfl, rfl⟩ | exact yet_done (by decide +kernel)) (by rintro _ ⟨⟩; decide) (w_appendF (t.s0.length + 1) rfl hS2 rfl rfl (Src.pl (ys := [eWd word]) rfl (wds_len [word])) rfl (by first | (simp; done) | (simp; omega)) (by first | (simp; done) | (simp; omega)) (by first | (simp; done) | (simp; omega)) (by first | (simp; done) | (simp; omega))) ?_
      refine Z8w ?_
      refine aqs 15 rfl (by decide +kernel) (by first | exact fun _ => ⟨_, _, rfl, rfl, hF⟩ | exact fun _ => ⟨_, _, rfl, by simp, hF3⟩ | exact fun _ => trivial | exact fun _ => ⟨_, rfl⟩ | exact fun _ => ⟨_, rfl, rfl⟩ | exact fun _ => ⟨_, rfl, rfl, rfl⟩ | exact yet_done (by decide +kernel)) (by rintro _ ⟨⟩) (w_storeFP (v := .sl _ _ _ _ _) (r' := eTwo A.length ((t.up0 p').us0 (t.s0 ++ [word])) (g.us0 (g.s0 + 1))) rfl hF3 rfl rfl rfl rfl rfl (Nat.le_of_ble_eq_true rfl) (by simp [Two.us0, G6.us0, Two.up0, AV.cells])) ?_
      refine Z8x ?_
      try simp only [List.set_cons_zero]
      refine Z7s ?_
      refine e_doneT ?_ hB .nil
      unfold HTwo
      rw [HT_set0, HT_set3, HT_set0, List.take_of_length_le (by simp)]
      simp [Two.us0, G6.us0, Two.up0, oS, oW, oTwo]
    · have he : ¬ e = 0 := by simpa using hc
      clear hc
      rw [if_neg he, if_neg he]
      refine Z7s ?_
      refine e_doneT ?_ hB .nil
      unfold HTwo
      rw [HT_set0]
      rfl
  have hq0 : q ≠ 0 := by simp at hc; omega
  clear hc
  refine Z7t ?_
  refine Z28 ?_
  refine Z7z ?_
  refine aw_cond rfl (fun hc => ?_) (fun hc => ?_)
  · have hq : q = 1 := by simp at hc; omega
    subst hq
    clear hc
    have hgl := goes_le hr0
    have c1 := fun H => pipe_Goes t.p0 H (by omega) (fun x hx => by have := hb0 x hx; omega)
    have hd : doP t 1 false at_ word = t.uw0 (if t.w0.length < 100 then t.w0 ++ pGoes t.p0 else t.w0) := by by_cases hz : t.w0.length < 100 <;> simp [doP, doF, Two.swap, Two.uw0, hz]
    have hg : gP g t 1 false at_ word = g.uw0 (if t.w0.length < 100 then g.w0 + 1 else g.w0) := by by_cases hz : t.w0.length < 100 <;> simp [gP, gF, Two.swap, G6.swap, G6.uw0, hz]
    rw [hd, hg]
    generalize pGoes t.p0 = r at c1 hgl ⊢
    refine Z93 ?_
    refine Z94 ?_
    refine Z1s ?_
    refine Z7w ?_
    refine aw_cond rfl (fun hc => ?_) (fun hc => ?_)
    · have h100 : t.w0.length < 100 := by simp at hc; omega
      clear hc
      rw [if_pos h100, if_pos h100]
      have hF3 : ((HTwo A C t g).set (A.length + 1) ⟨g.w0 + 1, 4, (t.w0.map ePacket).take t.w0.length ++ r.map ePacket⟩)[A.length]? = some ⟨0, 14, [eTwo A.length t g]⟩ := by rw [List.getElem?_set_ne (by omega)]; exact hF
      refine Z7s ?_
      refine Z95 ?_
      refine Z8q ?_
      refine Z96 ?_
      refine Z97 ?_
      refine Z98 ?_
      refine Z99 ?_
      refine Z9a ?_
      refine Z9b ?_
      refine aqm 13 rfl (by decide +kernel) (by decide) (fun M G hn hp => w_loadN (cs := ePipe t.p0) rfl (lkF hp) rfl rfl rfl rfl) ?_
      refine Z9c ?_
      refine Z9d ?_
      refine Z9e ?_
      refine aqs 15 rfl (by decide +kernel) (by first | exact fun _ => ⟨_, _, rfl, rfl, hF⟩ | exact fun _ => ⟨_, _, rfl, by simp, hF3⟩ | exact fun _ => trivial | exact fun _ => ⟨_, rfl⟩ | exact fun _ => ⟨_, rfl, rfl⟩ | exact fun _ => ⟨_, rfl, rfl, rfl⟩ | exact yet_done (by decide +kernel)) (by rintro _ ⟨⟩; decide) (w_appendF (t.w0.length + r.length) rfl hW rfl rfl (Src.pl (ys := r.map ePacket) rfl (packets_len r)) rfl (by first | (simp; done) | (simp; omega)) (by first | (simp; done) | (simp; omega)) (by first | (simp; done) | (simp; omega)) (by first | (simp; done) | (simp; omega))) ?_
      refine Z9f ?_
      refine aqs 19 rfl (by decide +kernel) (by first | exact fun _ => ⟨_, _, rfl, rfl, hF⟩ | exact fun _ => ⟨_, _, rfl, by simp, hF3⟩ | exact fun _ => trivial | exact fun _ => ⟨_, rfl⟩ | exact fun _ => ⟨_, rfl, rfl⟩ | exact fun _ => ⟨_, rfl, rfl, rfl⟩ | exact yet_done (by decide +kernel)) (by rintro _ ⟨⟩) (w_storeFP (v := .sl _ _ _ _ _) (r' := eTwo A.length (t.uw0 (t.w0 ++ r)) (g.uw0 (g.w0 + 1))) rfl hF3 rfl rfl rfl rfl rfl (Nat.le_of_ble_eq_true rfl) (by simp [Two.uw0, G6.uw0, AV.cells])) ?_
      refine Z8x ?_
      try simp only [List.set_cons_zero]
      refine Z7s ?_
      refine e_doneT ?_ hB .nil
      unfold HTwo
      rw [HT_set1, HT_set0, List.take_of_length_le (by simp)]
      simp [Two.uw0, G6.uw0, oS, oW, oTwo]
    · have h100 : ¬ t.w0.length < 100 := by simp at hc; omega
      rw [if_neg h100, if_neg h100]
      refine Z7s ?_
      exact e_doneT rfl hB .nil
  have hq1 : q ≠ 1 := by simp at hc; omega
  clear hc
  refine Z93 ?_
  refine Z94 ?_
  refine Z8k ?_
  refine aw_cond rfl (fun hc => ?_) (fun hc => ?_)
  · have h0 : t.w0.length = 0 := by simpa using hc
    have hd : doP t q false at_ word = t := by simp [doP, doF, Two.swap, hq0, hq1, h0]
    have hg : gP g t q false at_ word = g := by simp [gP, gF, Two.swap, G6.swap, hq0, hq1, h0]
    rw [hd, hg]
    refine Z7s ?_
    exact e_doneT rfl hB .nil
  have h0 : t.w0.length ≠ 0 := by simpa using hc
  clear hc
  have hmod : at_ % t.w0.length < t.w0.length := Nat.mod_lt _ (by omega)
  have hamod : ((at_ : Nat) : Int).tmod (t.w0.length : Int) = ((at_ % t.w0.length : Nat) : Int) := by rw [Int.tmod_eq_emod_of_nonneg (by omega)]; omega
  refine Z7s ?_
  refine Z80 ?_
  refine Z29 ?_
  refine Z5m ?_
  refine Z9g ?_
  refine Z9h ?_
  refine Z9i ?_
  refine Z9j ?_
  refine Z5o ?_
  refine Z9k ?_
  refine Z9l ?_
  refine Z9m ?_
  refine Z9n ?_
  refine Z9o ?_
  refine Z8d ?_
  obtain ⟨x, hx, hxl⟩ := get_in hmod
  have hr := map_get ePacket hx
  have hbx := hc0 x hxl
  refine Z93 ?_
  refine Z6 ?_
  refine Z9p ?_
  refine Z9q ?_
  refine Z5t ?_
  refine Z3 ?_
  refine Z7x ?_
  refine Z9r ?_
  refine Z8k ?_
  refine aw_cond rfl (fun hc => ?_) (fun hc => ?_)
  · have hq : q = 4 := by simp at hc; omega
    subst hq
    clear hc
    have hd : doP t 4 false at_ word = t.uw0 (t.w0 ++ [x]) := by simp [doP, doF, Two.swap, Two.uw0, Two.x, h0, List.getD_eq_getElem?_getD, hx]
    have hg : gP g t 4 false at_ word = g.uw0 (g.w0 + 1) := by simp [gP, gF, Two.swap, G6.swap, G6.uw0, h0]
    rw [hd, hg]
    have hF3 : ((HTwo A C t g).set (A.length + 1) ⟨g.w0 + 1, 4, (t.w0.map ePacket).take t.w0.length ++ [ePacket x]⟩)[A.length]? = some ⟨0, 14, [eTwo A.length t g]⟩ := by rw [List.getElem?_set_ne (by omega)]; exact hF
    refine Z7s ?_
    refine Z9s ?_
    refine Z8q ?_
    refine Z96 ?_
    refine Z9t ?_
    refine Z9u ?_
    refine Z9v ?_
    refine Z9w ?_
    refine aqs 10 rfl (by decide +kernel) (by first | exact fun _ => ⟨_, _, rfl, rfl, hF⟩ | exact fun _ => ⟨_, _, rfl, by simp, hF3⟩ | exact fun _ => trivial | exact fun _ => ⟨_, rfl⟩ | exact fun _ => ⟨_, rfl, rfl⟩ | exact fun _ => ⟨_, rfl, rfl, rfl⟩ | exact yet_done (by decide +kernel)) (by rintro _ ⟨⟩; decide) (w_appendF (t.w0.length + 1) rfl hW rfl rfl (Src.pl (ys := [ePacket x]) rfl (packets_len [x])) rfl (by first | (simp; done) | (simp; omega)) (by first | (simp; done) | (simp; omega)) (by first | (simp; done) | (simp; omega)) (by first | (simp; done) | (simp; omega))) ?_
    refine Z9x ?_
    refine aqs 14 rfl (by decide +kernel) (by first | exact fun _ => ⟨_, _, rfl, rfl, hF⟩ | exact fun _ => ⟨_, _, rfl, by simp, hF3⟩ | exact fun _ => trivial | exact fun _ => ⟨_, rfl⟩ | exact fun _ => ⟨_, rfl, rfl⟩ | exact fun _ => ⟨_, rfl, rfl, rfl⟩ | exact yet_done (by decide +kernel)) (by rintro _ ⟨⟩) (w_storeFP (v := .sl _ _ _ _ _) (r' := eTwo A.length (t.uw0 (t.w0 ++ [x])) (g.uw0 (g.w0 + 1))) rfl hF3 rfl rfl rfl rfl rfl (Nat.le_of_ble_eq_true rfl) (by simp [Two.uw0, G6.uw0, AV.cells])) ?_
    refine Z8x ?_
    try simp only [List.set_cons_zero]
    refine Z7s ?_
    refine e_doneT ?_ hB .nil
    unfold HTwo
    rw [HT_set1, HT_set0, List.take_of_length_le (by simp)]
    simp [Two.uw0, G6.uw0, oS, oW, oTwo]
  have hq4 : q ≠ 4 := by simp at hc; omega
  clear hc
  generalize hat : at_ % t.w0.length = a at hmod hx hr hamod
  have ex : (t.w0.take a).map ePacket ++ (t.w0.drop (a + 1)).map ePacket = (t.w0.eraseIdx a).map ePacket := by rw [List.eraseIdx_eq_take_drop_succ, List.map_append]
  have l1 : (((t.w0.map ePacket).drop 0).take a) = (t.w0.take a).map ePacket := by rw [List.drop_zero, List.map_take]
  have l2 : (((t.w0.map ePacket).drop (a + 1)).take (t.w0.length - (a + 1))) = (t.w0.drop (a + 1)).map ePacket := by rw [List.map_drop, List.take_of_length_le (by simp)]
  refine Z7s ?_
  refine Z9y ?_
  refine Z82 ?_
  refine Z9z ?_
  refine Z9i ?_
  refine Z9j ?_
  refine Z5o ?_
  refine Z9k ?_
  refine Z9l ?_
  refine Z98 ?_
  refine Za0 ?_
  refine Za1 ?_
  refine Za2 ?_
  refine Za3 ?_
  refine Za4 ?_
  refine Za5 ?_
  refine Za6 ?_
  refine Za7 ?_
  refine Za8 ?_
  refine aqp 20 rfl (by decide +kernel) (by decide) (fun G => w_slices (l := a + 1) (h := t.w0.length) rfl (lkF hW) rfl rfl (.some rfl rfl) .none (by omega) (by omega)) ?_
  refine Za9 ?_
  refine Zaa ?_
  refine aqs 11 rfl (by decide +kernel) (by first | exact fun _ => trivial | exact fun _ => ⟨_, rfl⟩ | exact fun _ => ⟨_, rfl, rfl⟩ | exact fun _ => ⟨_, rfl, rfl, rfl⟩ | exact yet_done (by decide +kernel)) (by rintro _ ⟨⟩; decide) (g_append_nsl rfl (Src.sl (o := ⟨g.w0, 4, t.w0.map ePacket⟩) rfl (lkF hW) rfl l1 (by simp; omega)) rfl (by show 0 < 4; decide) (by simp; omega) (by simp; omega) rfl) ?_
  refine aqs 21 rfl (by decide +kernel) (by first | exact fun _ => trivial | exact fun _ => ⟨_, rfl⟩ | exact fun _ => ⟨_, rfl, rfl⟩ | exact fun _ => ⟨_, rfl, rfl, rfl⟩ | exact yet_done (by decide +kernel)) (by rintro _ ⟨⟩; decide) (g_append rfl rfl rfl rfl rfl (Src.sl (o := ⟨g.w0, 4, t.w0.map ePacket⟩) rfl (lkF hW) rfl (by first | exact l2 | simpa using l2) (by simp)) rfl (by first | (simp; done) | (simp; omega)) (by first | (simp; done) | (simp; omega)) (by first | (simp; done) | (simp; omega))) ?_
  refine Zab ?_
  refine aqs 25 rfl (by decide +kernel) (by first | exact fun _ => trivial | exact fun _ => ⟨_, rfl⟩ | exact fun _ => ⟨_, rfl, rfl⟩ | exact fun _ => ⟨_, rfl, rfl, rfl⟩ | exact yet_done (by decide +kernel)) (by rintro _ ⟨⟩) (w_storeFP (v := .sl _ _ _ _ _) (r' := eTwoW0 A.length t g _) rfl hF rfl rfl rfl rfl rfl (Nat.le_of_ble_eq_true rfl) rfl) ?_
  refine Z8d ?_
  refine Zac ?_
  have hW2 : ((HTwo A C t g).set A.length ⟨0, 14, [eTwoW0 A.length t g (.sl (Lid (HTwo A C t g).length 2) 1 0 (((t.w0.take a).map ePacket).length + ((t.w0.map ePacket).drop (a + 1)).length) (((t.w0.take a).map ePacket).length + ((t.w0.map ePacket).drop (a + 1)).length))]⟩)[A.length + 1]? = some ⟨g.w0, 4, t.w0.map ePacket⟩ := by rw [List.getElem?_set_ne (by omega)]; exact hW
  refine aw_takeC (k := A.length) (i := 0) (j := 8) (x := Lid (HTwo A C t g).length 2) (y := A.length + 1) (lkF (List.getElem?_set_self (by omega))) rfl rfl (by unfold Lid; omega) (by omega) (by unfold Lid; omega) (lk (by simp) rfl) rfl (lkF hW2) ?_
  refine aw_heap (HTwo A C (t.uw0 (t.w0.eraseIdx a)) (g.uw0 (g.w0 + 1)) ++ [⟨0, 4, [eDo kind false at_ word]⟩, ⟨0, 4, [ePacket x]⟩, ⟨2, 4, []⟩]) ?_ ?_
  · rw [stF hW2, st (by simp), List.set_append_left _ _ (by simp only [List.length_set]; omega)]
    have el : ((t.w0.take a).map ePacket).length + ((t.w0.map ePacket).drop (a + 1)).length = (t.w0.eraseIdx a).length := by rw [List.length_eraseIdx, if_pos hmod]; simp; omega
    have er : ((t.w0.take a).map ePacket).take ((t.w0.take a).map ePacket).length ++ (t.w0.map ePacket).drop (a + 1) = (t.w0.eraseIdx a).map ePacket := by rw [List.take_of_length_le (Nat.le_refl _), ← List.map_drop, ex]
    rw [el, er]
    unfold HTwo
    rw [HT_set0, HT_set1, HT_set0]
    rfl
  rw [show (HTwo A C t g).length = (HTwo A C (t.uw0 (t.w0.eraseIdx a)) (g.uw0 (g.w0 + 1))).length by rw [HTwo_len, HTwo_len]]
  have hd3 : q ≠ 2 → doP t q false at_ word = t.uw0 (t.w0.eraseIdx a) ∧ gP g t q false at_ word = g.uw0 (g.w0 + 1) := fun h2 => by
    constructor
    · simp [doP, doF, Two.swap, Two.uw0, hq0, hq1, hq4, h2, h0, hat]
    · simp [gP, gF, Two.swap, G6.swap, G6.uw0, hq0, hq1, hq4, h2, h0]
  have hdx : (t).x at_ = x := by simp [Two.x, Two.swap, hat, List.getD_eq_getElem?_getD, hx]
  have hd2 : doP t 2 false at_ word = ((t.uw0 (t.w0.eraseIdx a)).up1 (pCome t.p1 x).p).ut1 (if (pCome t.p1 x).ok then t.t1 ++ [(pCome t.p1 x).w] else t.t1) := by
    unfold doP doF
    by_cases hz : (pCome t.p1 x).ok = true <;> simp [Two.swap, Two.uw0, Two.up1, Two.ut1, h0, hat] <;> simp [Two.x, hat, List.getD_eq_getElem?_getD, hx, hz]
  have hg2 : gP g t 2 false at_ word = (g.uw0 (g.w0 + 1)).ut1 (if (pCome t.p1 x).ok then g.t1 + 1 else g.t1) := by
    unfold gP gF
    by_cases hz : (pCome t.p1 x).ok = true <;> simp [Two.swap, G6.swap, G6.uw0, G6.ut1, h0] <;> simp [Two.x, hat, List.getD_eq_getElem?_getD, hx, hz]
  have hF : (HTwo A C (t.uw0 (t.w0.eraseIdx a)) (g.uw0 (g.w0 + 1)))[A.length]? = some ⟨0, 14, [eTwo A.length (t.uw0 (t.w0.eraseIdx a)) (g.uw0 (g.w0 + 1))]⟩ := HT_get0
  refine Z7x ?_
  refine Z9r ?_
  refine Z8k ?_
  refine aw_cond rfl (fun hc => ?_) (fun hc => ?_)
  · have hq : q = 2 := by simp at hc; omega
    subst hq
    clear hc
    have c2 := fun H => pipe_Come t.p1 x H (by omega) (fun x hx => by have := hb1 x hx; omega) (by omega)
    rw [hd2, hg2]
    generalize pCome t.p1 x = r at c2 ⊢
    obtain ⟨p', w', ok⟩ := r
    simp only at c2 ⊢
    refine Z7s ?_
    refine Zad ?_
    refine Z82 ?_
    refine Zae ?_
    refine Zaf ?_
    refine Z5n ?_
    refine Z8i ?_
    refine aqp 6 rfl (by decide +kernel) (by decide) (fun G => w_loadN (cs := ePipe t.p1) rfl (lkF hF) rfl rfl rfl rfl) ?_
    refine Zag ?_
    refine Zah ?_
    refine Z87 ?_
    refine Z88 ?_
    refine Zai ?_
    refine Zaj ?_
    refine Zak ?_
    refine Zal ?_
    refine Zam ?_
    refine Zan ?_
    refine Z8e ?_
    refine Zao ?_
    refine Z82 ?_
    refine Zae ?_
    refine Z2g ?_
    refine Zap ?_
    refine Zaq ?_
    refine Zar ?_
    refine aqs 7 rfl (by decide +kernel) (by first | exact fun _ => trivial | exact fun _ => ⟨_, rfl⟩ | exact fun _ => ⟨_, rfl, rfl⟩ | exact fun _ => ⟨_, rfl, rfl, rfl⟩ | exact yet_done (by decide +kernel)) (by rintro _ ⟨⟩) (w_storeFP (v := .agg (ePipe p')) (r' := eTwo A.length ((t.uw0 (t.w0.eraseIdx a)).up1 p') (g.uw0 (g.w0 + 1))) rfl hF rfl rfl rfl rfl rfl (Nat.le_of_ble_eq_true rfl) rfl) ?_
    refine Z8d ?_
    refine Zac ?_
    refine aw_base (HTwo A C ((t.uw0 (t.w0.eraseIdx a)).up1 p') (g.uw0 (g.w0 + 1))) (by unfold HTwo; rw [HT_set0]; rfl) ?_
    rw [show (HTwo A C (t.uw0 (t.w0.eraseIdx a)) (g.uw0 (g.w0 + 1))).length = (HTwo A C ((t.uw0 (t.w0.eraseIdx a)).up1 p') (g.uw0 (g.w0 + 1))).length by rw [HTwo_len, HTwo_len]]
    have hF : (HTwo A C ((t.uw0 (t.w0.eraseIdx a)).up1 p') (g.uw0 (g.w0 + 1)))[A.length]? = some ⟨0, 14, [eTwo A.length ((t.uw0 (t.w0.eraseIdx a)).up1 p') (g.uw0 (g.w0 + 1))]⟩ := HT_get0
    have hT : (HTwo A C ((t.uw0 (t.w0.eraseIdx a)).up1 p') (g.uw0 (g.w0 + 1)))[A.length + 6]? = some ⟨g.t1, 1, t.t1.map eWd⟩ := HT_get6
    refine Z7t ?_
    refine Z8 ?_
    refine Z7w ?_
    refine aw_cond rfl (fun hc => ?_) (fun hc => ?_)
    · subst hc
      rw [if_pos rfl, if_pos rfl]
      have hF3 : ((HTwo A C ((t.uw0 (t.w0.eraseIdx a)).up1 p') (g.uw0 (g.w0 + 1))).set (A.length + 6) ⟨g.t1 + 1, 1, (t.t1.map eWd).take t.t1.length ++ [eWd w']⟩)[A.length]? = some ⟨0, 14, [eTwo A.length ((t.uw0 (t.w0.eraseIdx a)).up1 p') (g.uw0 (g.w0 + 1))]⟩ := by rw [List.getElem?_set_ne (by omega)]; exact hF
      refine Z7s ?_
      refine Zas ?_
      refine Z82 ?_
      refine Zae ?_
      refine Z9i ?_
      refine aq0 5 rfl (by decide +kernel) (by decide) (fun _ => o_sub (r := (1 : Int)) rfl rfl (by decide)) ?_
      refine Zat ?_
      refine Zau ?_
      refine Zav ?_
      refine aqm 9 rfl (by decide +kernel) (by decide) (fun M G hn hp => w_load1 (v := .sl (A.length + 6) g.t1 0 t.t1.length t.t1.length) rfl (lkF hp) rfl rfl rfl) ?_
      refine Zaw ?_
      refine Zax ?_
      refine Zay ?_
      refine Zaz ?_
      refine aqs 12 rfl (by decide +kernel) (by first | exact fun _ => ⟨_, _, rfl, rfl, hF⟩ | exact fun _ => ⟨_, _, rfl, by simp, hF3⟩ | exact fun _ => trivial | exact fun _ => ⟨_, rfl⟩ | exact fun _ => ⟨_, rfl, rfl⟩ | exact fun _ => ⟨_, rfl, rfl, rfl⟩ | exact yet_done (by decide +kernel)) (by rintro _ ⟨⟩; decide) (w_appendF (t.t1.length + 1) rfl hT rfl rfl (Src.pl (ys := [eWd w']) rfl (wds_len [w'])) rfl (by first | (simp; done) | (simp; omega)) (by first | (simp; done) | (simp; omega)) (by first | (simp; done) | (simp; omega)) (by first | (simp; done) | (simp; omega))) ?_
      refine Zb0 ?_
      refine aqs 16 rfl (by decide +kernel) (by first | exact fun _ => ⟨_, _, rfl, rfl, hF⟩ | exact fun _ => ⟨_, _, rfl, by simp, hF3⟩ | exact fun _ => trivial | exact fun _ => ⟨_, rfl⟩ | exact fun _ => ⟨_, rfl, rfl⟩ | exact fun _ => ⟨_, rfl, rfl, rfl⟩ | exact yet_done (by decide +kernel)) (by rintro _ ⟨⟩) (w_storeFP (v := .sl _ _ _ _ _) (r' := eTwo A.length (((t.uw0 (t.w0.eraseIdx a)).up1 p').ut1 (t.t1 ++ [w'])) ((g.uw0 (g.w0 + 1)).ut1 (g.t1 + 1))) rfl hF3 rfl rfl rfl rfl rfl (Nat.le_of_ble_eq_true rfl) (by simp [Two.uw0, G6.uw0, Two.up1, Two.ut1, G6.ut1, AV.cells])) ?_
      refine Z8x ?_
      try simp only [List.set_cons_zero]
      refine Z7s ?_
      refine e_doneT ?_ hB .nil
      unfold HTwo
      rw [HT_set6, HT_set0, List.take_of_length_le (by simp)]
      simp [Two.uw0, G6.uw0, Two.up1, Two.ut1, G6.ut1, oS, oW, oTwo]
    · subst hc
      rw [if_neg (by decide), if_neg (by decide)]
      refine Z7s ?_
      exact e_doneT rfl hB .nil
  · have hq2 : q ≠ 2 := by simp at hc; omega
    rw [(hd3 hq2).1, (hd3 hq2).2]
    refine Z7s ?_
    exact e_doneT rfl hB .nil
set_option maxHeartbeats 0 in
theorem two_do1 (t : Two) (g : G6) (kind at_ : Nat) (word : Word) (A C : Heap) (ht : TB t) (hkd : kind < 256) (ha : at_ < 256) (hw : word.length ≤ 10000) :
    AC Try.prog 39 [.pt A.length 0 0 0, .agg (eDo kind true at_ word)] (HTwo A C t g) (Ret (.tup []) (HTwo A C (doP t (kind % 5) true at_ word) (gP g t (kind % 5) true at_ word))) := by
  obtain ⟨hr0, hr1, hb0, hb1, hc0, hc1, lw0, lw1, ls0, ls1, lt0, lt1⟩ := ht
  have ho0 := (pright_facts hr0).2.2.2.2.2.2.1
  have ho1 := (pright_facts hr1).2.2.2.2.2.2.1
  have hF : (HTwo A C t g)[A.length]? = some ⟨0, 14, [eTwo A.length t g]⟩ := HT_get0
  have hW : (HTwo A C t g)[A.length + 2]? = some ⟨g.w1, 4, t.w1.map ePacket⟩ := HT_get2
  have hS : (HTwo A C t g)[A.length + 4]? = some ⟨g.s1, 1, t.s1.map eWd⟩ := HT_get4
  have hT : (HTwo A C t g)[A.length + 5]? = some ⟨g.t0, 1, t.t0.map eWd⟩ := HT_get5
  have hlen : (HTwo A C t g).length = A.length + 7 + C.length := HT_len
  have hm6 : A.length + 6 < (HTwo A C t g).length := by omega
  refine AC.body (N := 195) [] Try.func39 rfl rfl rfl (Nat.le_of_ble_eq_true rfl) fun B hB => ?_
  refine Z7t ?_
  refine Zi ?_
  refine Z3 ?_
  refine Z7u ?_
  refine Z7t ?_
  refine Zj ?_
  refine Z7v ?_
  refine Z7w ?_
  refine aw_cond rfl (fun hc => ?_) (fun hc => ?_)
  rotate_left
  · cases hc
  refine Z7u ?_
  clear hc
  refine Z7x ?_
  refine Z7y ?_
  refine Z3 ?_
  have hq5 : kind % 5 < 5 := Nat.mod_lt _ (by decide)
  generalize hkq : kind % 5 = q at hq5 ⊢
  have hrem : ((kind : Nat) : Int).tmod 5 = (q : Int) := by rw [Int.tmod_eq_emod_of_nonneg (by omega)]; omega
  refine Z7t ?_
  refine Z28 ?_
  refine Z7z ?_
  refine aw_cond rfl (fun hc => ?_) (fun hc => ?_)
  · have hq : q = 0 := by simp at hc; omega
    subst hq
    clear hc
    have c1 := fun H => pipe_Say t.p1 word H (by omega) (fun x hx => by have := hb1 x hx; omega) (by omega)
    have hd : doP t 0 true at_ word = (t.up1 (pSay t.p1 word).1).us1 (if (pSay t.p1 word).2 = 0 then t.s1 ++ [word] else t.s1) := by by_cases hz : (pSay t.p1 word).2 = 0 <;> simp [doP, doF, Two.swap, Two.up1, Two.us1, hz]
    have hg : gP g t 0 true at_ word = g.us1 (if (pSay t.p1 word).2 = 0 then g.s1 + 1 else g.s1) := by by_cases hz : (pSay t.p1 word).2 = 0 <;> simp [gP, gF, Two.swap, G6.swap, G6.us1, hz]
    rw [hd, hg]
    generalize pSay t.p1 word = r at c1 ⊢
    obtain ⟨p', e⟩ := r
    simp only at c1 ⊢
    refine Z7s ?_
    refine Z80 ?_
    refine Z82 ?_
    refine Z83 ?_
    refine Z2p ?_
    refine Z84 ?_
    refine aqp 5 rfl (by decide +kernel) (by decide) (fun G => w_loadN (cs := ePipe t.p1) rfl (lkF hF) rfl rfl rfl rfl) ?_
    refine Z5o ?_
    refine Z85 ?_
    refine Z86 ?_
    refine Z87 ?_
    refine Z88 ?_
    refine Z89 ?_
    refine Z8a ?_
    refine Z8b ?_
    refine Z8c ?_
    refine Z8e ?_
    refine Z8f ?_
    refine Z82 ?_
    refine Z6l ?_
    refine Z8g ?_
    refine Z8h ?_
    refine Z8i ?_
    refine aqs 6 rfl (by decide +kernel) (by first | exact fun _ => trivial | exact fun _ => ⟨_, rfl⟩ | exact fun _ => ⟨_, rfl, rfl⟩ | exact fun _ => ⟨_, rfl, rfl, rfl⟩ | exact yet_done (by decide +kernel)) (by rintro _ ⟨⟩) (w_storeFP (v := .agg (ePipe p')) (r' := eTwo A.length (t.up1 p') g) rfl hF rfl rfl rfl rfl rfl (Nat.le_of_ble_eq_true rfl) rfl) ?_
    refine Z8d ?_
    try simp only [List.set_cons_zero]
    have hF2 : ((HTwo A C t g).set A.length ⟨0, 14, [eTwo A.length (t.up1 p') g]⟩)[A.length]? = some ⟨0, 14, [eTwo A.length (t.up1 p') g]⟩ := List.getElem?_set_self (by omega)
    have hS2 : ((HTwo A C t g).set A.length ⟨0, 14, [eTwo A.length (t.up1 p') g]⟩)[A.length + 4]? = some ⟨g.s1, 1, t.s1.map eWd⟩ := by rw [List.getElem?_set_ne (by omega)]; exact hS
    refine Z8j ?_
    refine Z8k ?_
    refine aw_cond rfl (fun hc => ?_) (fun hc => ?_)
    · have he : e = 0 := by simpa using hc
      subst he
      clear hc
      rw [if_pos rfl, if_pos rfl]
      have hF := hF2
      have hF3 : (((HTwo A C t g).set A.length ⟨0, 14, [eTwo A.length (t.up1 p') g]⟩).set (A.length + 4) ⟨g.s1 + 1, 1, (t.s1.map eWd).take t.s1.length ++ [eWd word]⟩)[A.length]? = some ⟨0, 14, [eTwo A.length (t.up1 p') g]⟩ := by rw [List.getElem?_set_ne (by omega)]; exact hF2
      refine Z7s ?_
      refine Z8l ?_
      refine Z8q ?_
      refine aqm 7 rfl (by decide +kernel) (by decide) (fun M G hn hp => w_load1 (v := .sl (A.length + 4) g.s1 0 t.s1.length t.s1.length) rfl (lkF hp) rfl rfl rfl) ?_
      refine Z8r ?_
      refine Z8s ?_
      refine Z8t ?_
      refine Z8u ?_
      refine Z8v ?_
      refine aqs 11 rfl (by decide +kernel) (by first | exact fun _ => ⟨_, _, rfl, rfl, hF⟩ | exact fun _ => ⟨_, _, rfl, by simp, hF3⟩ | exact fun _ => trivial | exact fun _ => ⟨_, rfl⟩ | exact fun _ => ⟨_, rfl, rfl⟩ | exact fun _ => ⟨_, rfl, rfl, rfl⟩ | exact yet_done (by decide +kernel)) (by rintro _ ⟨⟩; decide) (w_appendF (t.s1.length + 1) rfl hS2 rfl rfl (Src.pl (ys := [eWd word]) rfl (wds_len [word])) rfl (by first | (simp; done) | (simp; omega)) (by first | (simp; done) | (simp; omega)) (by first | (simp; done) | (simp; omega)) (by first | (simp; done) | (simp; omega))) ?_
      refine Z8w ?_
      refine aqs 15 rfl (by decide +kernel) (by first | exact fun _ => ⟨_, _, rfl, rfl, hF⟩ | exact fun _ => ⟨_, _, rfl, by simp, hF3⟩ | exact fun _ => trivial | exact fun _ => ⟨_, rfl⟩ | exact fun _ => ⟨_, rfl, rfl⟩ | exact fun _ => ⟨_, rfl, rfl, rfl⟩ | exact yet_done (by decide +kernel)) (by rintro _ ⟨⟩) (w_storeFP (v := .sl _ _ _ _ _) (r' := eTwo A.length ((t.up1 p').us1 (t.s1 ++ [word])) (g.us1 (g.s1 + 1))) rfl hF3 rfl rfl rfl rfl rfl (Nat.le_of_ble_eq_true rfl) (by simp [Two.us1, G6.us1, Two.up1, AV.cells])) ?_
      refine Z8x ?_
      try simp only [List.set_cons_zero]
      refine Z7s ?_
      refine e_doneT ?_ hB .nil
      unfold HTwo
      rw [HT_set0, HT_set4, HT_set0, List.take_of_length_le (by simp)]
      simp [Two.us1, G6.us1, Two.up1, oS, oW, oTwo]
    · have he : ¬ e = 0 := by simpa using hc
      clear hc
      rw [if_neg he, if_neg he]
      refine Z7s ?_
      refine e_doneT ?_ hB .nil
      unfold HTwo
      rw [HT_set0]
      rfl
  have hq0 : q ≠ 0 := by simp at hc; omega
  clear hc
  refine Z7t ?_
  refine Z28 ?_
  refine Z7z ?_
  refine aw_cond rfl (fun hc => ?_) (fun hc => ?_)
  · have hq : q = 1 := by simp at hc; omega
    subst hq
    clear hc
    have hgl := goes_le hr1
    have c1 := fun H => pipe_Goes t.p1 H (by omega) (fun x hx => by have := hb1 x hx; omega)
    have hd : doP t 1 true at_ word = t.uw1 (if t.w1.length < 100 then t.w1 ++ pGoes t.p1 else t.w1) := by by_cases hz : t.w1.length < 100 <;> simp [doP, doF, Two.swap, Two.uw1, hz]
    have hg : gP g t 1 true at_ word = g.uw1 (if t.w1.length < 100 then g.w1 + 1 else g.w1) := by by_cases hz : t.w1.length < 100 <;> simp [gP, gF, Two.swap, G6.swap, G6.uw1, hz]
    rw [hd, hg]
    generalize pGoes t.p1 = r at c1 hgl ⊢
    refine Z93 ?_
    refine Z94 ?_
    refine Z1s ?_
    refine Z7w ?_
    refine aw_cond rfl (fun hc => ?_) (fun hc => ?_)
    · have h100 : t.w1.length < 100 := by simp at hc; omega
      clear hc
      rw [if_pos h100, if_pos h100]
      have hF3 : ((HTwo A C t g).set (A.length + 2) ⟨g.w1 + 1, 4, (t.w1.map ePacket).take t.w1.length ++ r.map ePacket⟩)[A.length]? = some ⟨0, 14, [eTwo A.length t g]⟩ := by rw [List.getElem?_set_ne (by omega)]; exact hF
      refine Z7s ?_
      refine Z95 ?_
      refine Z8q ?_
      refine Z96 ?_
      refine Z97 ?_
      refine Z98 ?_
      refine Z99 ?_
      refine Z9a ?_
      refine Z9b ?_
      refine aqm 13 rfl (by decide +kernel) (by decide) (fun M G hn hp => w_loadN (cs := ePipe t.p1) rfl (lkF hp) rfl rfl rfl rfl) ?_
      refine Z9c ?_
      refine Z9d ?_
      refine Z9e ?_
      refine aqs 15 rfl (by decide +kernel) (by first | exact fun _ => ⟨_, _, rfl, rfl, hF⟩ | exact fun _ => ⟨_, _, rfl, by simp, hF3⟩ | exact fun _ => trivial | exact fun _ => ⟨_, rfl⟩ | exact fun _ => ⟨_, rfl, rfl⟩ | exact fun _ => ⟨_, rfl, rfl, rfl⟩ | exact yet_done (by decide +kernel)) (by rintro _ ⟨⟩; decide) (w_appendF (t.w1.length + r.length) rfl hW rfl rfl (Src.pl (ys := r.map ePacket) rfl (packets_len r)) rfl (by first | (simp; done) | (simp; omega)) (by first | (simp; done) | (simp; omega)) (by first | (simp; done) | (simp; omega)) (by first | (simp; done) | (simp; omega))) ?_
      refine Z9f ?_
      refine aqs 19 rfl (by decide +kernel) (by first | exact fun _ => ⟨_, _, rfl, rfl, hF⟩ | exact fun _ => ⟨_, _, rfl, by simp, hF3⟩ | exact fun _ => trivial | exact fun _ => ⟨_, rfl⟩ | exact fun _ => ⟨_, rfl, rfl⟩ | exact fun _ => ⟨_, rfl, rfl, rfl⟩ | exact yet_done (by decide +kernel)) (by rintro _ ⟨⟩) (w_storeFP (v := .sl _ _ _ _ _) (r' := eTwo A.length (t.uw1 (t.w1 ++ r)) (g.uw1 (g.w1 + 1))) rfl hF3 rfl rfl rfl rfl rfl (Nat.le_of_ble_eq_true rfl) (by simp [Two.uw1, G6.uw1, AV.cells])) ?_
      refine Z8x ?_
      try simp only [List.set_cons_zero]
      refine Z7s ?_
      refine e_doneT ?_ hB .nil
      unfold HTwo
      rw [HT_set2, HT_set0, List.take_of_length_le (by simp)]
      simp [Two.uw1, G6.uw1, oS, oW, oTwo]
    · have h100 : ¬ t.w1.length < 100 := by simp at hc; omega
      rw [if_neg h100, if_neg h100]
      refine Z7s ?_
      exact e_doneT rfl hB .nil
  have hq1 : q ≠ 1 := by simp at hc; omega
  clear hc
  refine Z93 ?_
  refine Z94 ?_
  refine Z8k ?_
  refine aw_cond rfl (fun hc => ?_) (fun hc => ?_)
  · have h0 : t.w1.length = 0 := by simpa using hc
    have hd : doP t q true at_ word = t := by simp [doP, doF, Two.swap, hq0, hq1, h0]
    have hg : gP g t q true at_ word = g := by simp [gP, gF, Two.swap, G6.swap, hq0, hq1, h0]
    rw [hd, hg]
    refine Z7s ?_
    exact e_doneT rfl hB .nil
  have h0 : t.w1.length ≠ 0 := by simpa using hc
  clear hc
  have hmod : at_ % t.w1.length < t.w1.length := Nat.mod_lt _ (by omega)
  have hamod : ((at_ : Nat) : Int).tmod (t.w1.length : Int) = ((at_ % t.w1.length : Nat) : Int) := by rw [Int.tmod_eq_emod_of_nonneg (by omega)]; omega
  refine Z7s ?_
  refine Z80 ?_
  refine Z29 ?_
  refine Z5m ?_
  refine Z9g ?_
  refine Z9h ?_
  refine Z9i ?_
  refine Z9j ?_
  refine Z5o ?_
  refine Z9k ?_
  refine Z9l ?_
  refine Z9m ?_
  refine Z9n ?_
  refine Z9o ?_
  refine Z8d ?_
  obtain ⟨x, hx, hxl⟩ := get_in hmod
  have hr := map_get ePacket hx
  have hbx := hc1 x hxl
  refine Z93 ?_
  refine Z6 ?_
  refine Z9p ?_
  refine Z9q ?_
  refine Z5t ?_
  refine Z3 ?_
  refine Z7x ?_
  refine Z9r ?_
  refine Z8k ?_
  refine aw_cond rfl (fun hc => ?_) (fun hc => ?_)
  · have hq : q = 4 := by simp at hc; omega
    subst hq
    clear hc
    have hd : doP t 4 true at_ word = t.uw1 (t.w1 ++ [x]) := by simp [doP, doF, Two.swap, Two.uw1, Two.x, h0, List.getD_eq_getElem?_getD, hx]
    have hg : gP g t 4 true at_ word = g.uw1 (g.w1 + 1) := by simp [gP, gF, Two.swap, G6.swap, G6.uw1, h0]
    rw [hd, hg]
    have hF3 : ((HTwo A C t g).set (A.length + 2) ⟨g.w1 + 1, 4, (t.w1.map ePacket).take t.w1.length ++ [ePacket x]⟩)[A.length]? = some ⟨0, 14, [eTwo A.length t g]⟩ := by rw [List.getElem?_set_ne (by omega)]; exact hF
    refine Z7s ?_
    refine Z9s ?_
    refine Z8q ?_
    refine Z96 ?_
    refine Z9t ?_
    refine Z9u ?_
    refine Z9v ?_
    refine Z9w ?_
    refine aqs 10 rfl (by decide +kernel) (by first | exact fun _ => ⟨_, _, rfl, rfl, hF⟩ | exact fun _ => ⟨_, _, rfl, by simp, hF3⟩ | exact fun _ => trivial | exact fun _ => ⟨_, rfl⟩ | exact fun _ => ⟨_, rfl, rfl⟩ | exact fun _ => ⟨_, rfl, rfl, rfl⟩ | exact yet_done (by decide +kernel)) (by rintro _ ⟨⟩; decide) (w_appendF (t.w1.length + 1) rfl hW rfl rfl (Src.pl (ys := [ePacket x]) rfl (packets_len [x])) rfl (by first | (simp; done) | (simp; omega)) (by first | (simp; done) | (simp; omega)) (by first | (simp; done) | (simp; omega)) (by first | (simp; done) | (simp; omega))) ?_
    refine Z9x ?_
    refine aqs 14 rfl (by decide +kernel) (by first | exact fun _ => ⟨_, _, rfl, rfl, hF⟩ | exact fun _ => ⟨_, _, rfl, by simp, hF3⟩ | exact fun _ => trivial | exact fun _ => ⟨_, rfl⟩ | exact fun _ => ⟨_, rfl, rfl⟩ | exact fun _ => ⟨_, rfl, rfl, rfl⟩ | exact yet_done (by decide +kernel)) (by rintro _ ⟨⟩) (w_storeFP (v := .sl _ _ _ _ _) (r' := eTwo A.length (t.uw1 (t.w1 ++ [x])) (g.uw1 (g.w1 + 1))) rfl hF3 rfl rfl rfl rfl rfl (Nat.le_of_ble_eq_true rfl) (by simp [Two.uw1, G6.uw1, AV.cells])) ?_
    refine Z8x ?_
    try simp only [List.set_cons_zero]
    refine Z7s ?_
    refine e_doneT ?_ hB .nil
    unfold HTwo
    rw [HT_set2, HT_set0, List.take_of_length_le (by simp)]
    simp [Two.uw1, G6.uw1, oS, oW, oTwo]
  have hq4 : q ≠ 4 := by simp at hc; omega
  clear hc
  generalize hat : at_ % t.w1.length = a at hmod hx hr hamod
  have ex : (t.w1.take a).map ePacket ++ (t.w1.drop (a + 1)).map ePacket = (t.w1.eraseIdx a).map ePacket := by rw [List.eraseIdx_eq_take_drop_succ, List.map_append]
  have l1 : (((t.w1.map ePacket).drop 0).take a) = (t.w1.take a).map ePacket := by rw [List.drop_zero, List.map_take]
  have l2 : (((t.w1.map ePacket).drop (a + 1)).take (t.w1.length - (a + 1))) = (t.w1.drop (a + 1)).map ePacket := by rw [List.map_drop, List.take_of_length_le (by simp)]
  refine Z7s ?_
  refine Z9y ?_
  refine Z82 ?_
  refine Z9z ?_
  refine Z9i ?_
  refine Z9j ?_
  refine Z5o ?_
  refine Z9k ?_
  refine Z9l ?_
  refine Z98 ?_
  refine Za0 ?_
  refine Za1 ?_
  refine Za2 ?_
  refine Za3 ?_
  refine Za4 ?_
  refine Za5 ?_
  refine Za6 ?_
  refine Za7 ?_
  refine Za8 ?_
  refine aqp 20 rfl (by decide +kernel) (by decide) (fun G => w_slices (l := a + 1) (h := t.w1.length) rfl (lkF hW) rfl rfl (.some rfl rfl) .none (by omega) (by omega)) ?_
  refine Za9 ?_
  refine Zaa ?_
  refine aqs 11 rfl (by decide +kernel) (by first | exact fun _ => trivial | exact fun _ => ⟨_, rfl⟩ | exact fun _ => ⟨_, rfl, rfl⟩ | exact fun _ => ⟨_, rfl, rfl, rfl⟩ | exact yet_done (by decide +kernel)) (by rintro _ ⟨⟩; decide) (g_append_nsl rfl (Src.sl (o := ⟨g.w1, 4, t.w1.map ePacket⟩) rfl (lkF hW) rfl l1 (by simp; omega)) rfl (by show 0 < 4; decide) (by simp; omega) (by simp; omega) rfl) ?_
  refine aqs 21 rfl (by decide +kernel) (by first | exact fun _ => trivial | exact fun _ => ⟨_, rfl⟩ | exact fun _ => ⟨_, rfl, rfl⟩ | exact fun _ => ⟨_, rfl, rfl, rfl⟩ | exact yet_done (by decide +kernel)) (by rintro _ ⟨⟩; decide) (g_append rfl rfl rfl rfl rfl (Src.sl (o := ⟨g.w1, 4, t.w1.map ePacket⟩) rfl (lkF hW) rfl (by first | exact l2 | simpa using l2) (by simp)) rfl (by first | (simp; done) | (simp; omega)) (by first | (simp; done) | (simp; omega)) (by first | (simp; done) | (simp; omega))) ?_
  refine Zab ?_
  refine aqs 25 rfl (by decide +kernel) (by first | exact fun _ => trivial | exact fun _ => ⟨_, rfl⟩ | exact fun _ => ⟨_, rfl, rfl⟩ | exact fun _ => ⟨_, rfl, rfl, rfl⟩ | exact yet_done (by decide +kernel)) (by rintro _ ⟨⟩) (w_storeFP (v := .sl _ _ _ _ _) (r' := eTwoW1 A.length t g _) rfl hF rfl rfl rfl rfl rfl (Nat.le_of_ble_eq_true rfl) rfl) ?_
  refine Z8d ?_
  refine Zac ?_
  have hW2 : ((HTwo A C t g).set A.length ⟨0, 14, [eTwoW1 A.length t g (.sl (Lid (HTwo A C t g).length 2) 1 0 (((t.w1.take a).map ePacket).length + ((t.w1.map ePacket).drop (a + 1)).length) (((t.w1.take a).map ePacket).length + ((t.w1.map ePacket).drop (a + 1)).length))]⟩)[A.length + 2]? = some ⟨g.w1, 4, t.w1.map ePacket⟩ := by rw [List.getElem?_set_ne (by omega)]; exact hW
  refine aw_takeC (k := A.length) (i := 0) (j := 9) (x := Lid (HTwo A C t g).length 2) (y := A.length + 2) (lkF (List.getElem?_set_self (by omega))) rfl rfl (by unfold Lid; omega) (by omega) (by unfold Lid; omega) (lk (by simp) rfl) rfl (lkF hW2) ?_
  refine aw_heap (HTwo A C (t.uw1 (t.w1.eraseIdx a)) (g.uw1 (g.w1 + 1)) ++ [⟨0, 4, [eDo kind true at_ word]⟩, ⟨0, 4, [ePacket x]⟩, ⟨2, 4, []⟩]) ?_ ?_
  · rw [stF hW2, st (by simp), List.set_append_left _ _ (by simp only [List.length_set]; omega)]
    have el : ((t.w1.take a).map ePacket).length + ((t.w1.map ePacket).drop (a + 1)).length = (t.w1.eraseIdx a).length := by rw [List.length_eraseIdx, if_pos hmod]; simp; omega
    have er : ((t.w1.take a).map ePacket).take ((t.w1.take a).map ePacket).length ++ (t.w1.map ePacket).drop (a + 1) = (t.w1.eraseIdx a).map ePacket := by rw [List.take_of_length_le (Nat.le_refl _), ← List.map_drop, ex]
    rw [el, er]
    unfold HTwo
    rw [HT_set0, HT_set2, HT_set0]
    rfl
  rw [show (HTwo A C t g).length = (HTwo A C (t.uw1 (t.w1.eraseIdx a)) (g.uw1 (g.w1 + 1))).length by rw [HTwo_len, HTwo_len]]
  have hd3 : q ≠ 2 → doP t q true at_ word = t.uw1 (t.w1.eraseIdx a) ∧ gP g t q true at_ word = g.uw1 (g.w1 + 1) := fun h2 => by
    constructor
    · simp [doP, doF, Two.swap, Two.uw1, hq0, hq1, hq4, h2, h0, hat]
    · simp [gP, gF, Two.swap, G6.swap, G6.uw1, hq0, hq1, hq4, h2, h0]
  have hdx : (t.swap).x at_ = x := by simp [Two.x, Two.swap, hat, List.getD_eq_getElem?_getD, hx]
  have hd2 : doP t 2 true at_ word = ((t.uw1 (t.w1.eraseIdx a)).up0 (pCome t.p0 x).p).ut0 (if (pCome t.p0 x).ok then t.t0 ++ [(pCome t.p0 x).w] else t.t0) := by
    unfold doP doF
    by_cases hz : (pCome t.p0 x).ok = true <;> simp [Two.swap, Two.uw1, Two.up0, Two.ut0, h0, hat] <;> simp [Two.x, hat, List.getD_eq_getElem?_getD, hx, hz]
  have hg2 : gP g t 2 true at_ word = (g.uw1 (g.w1 + 1)).ut0 (if (pCome t.p0 x).ok then g.t0 + 1 else g.t0) := by
    unfold gP gF
    by_cases hz : (pCome t.p0 x).ok = true <;> simp [Two.swap, G6.swap, G6.uw1, G6.ut0, h0] <;> simp [Two.x, hat, List.getD_eq_getElem?_getD, hx, hz]
  have hF : (HTwo A C (t.uw1 (t.w1.eraseIdx a)) (g.uw1 (g.w1 + 1)))[A.length]? = some ⟨0, 14, [eTwo A.length (t.uw1 (t.w1.eraseIdx a)) (g.uw1 (g.w1 + 1))]⟩ := HT_get0
  refine Z7x ?_
  refine Z9r ?_
  refine Z8k ?_
  refine aw_cond rfl (fun hc => ?_) (fun hc => ?_)
  · have hq : q = 2 := by simp at hc; omega
    subst hq
    clear hc
    have c2 := fun H => pipe_Come t.p0 x H (by omega) (fun x hx => by have := hb0 x hx; omega) (by omega)
    rw [hd2, hg2]
    generalize pCome t.p0 x = r at c2 ⊢
    obtain ⟨p', w', ok⟩ := r
    simp only at c2 ⊢
    refine Z7s ?_
    refine Zad ?_
    refine Z82 ?_
    refine Zb1 ?_
    refine Zaf ?_
    refine Z5n ?_
    refine Z8i ?_
    refine aqp 6 rfl (by decide +kernel) (by decide) (fun G => w_loadN (cs := ePipe t.p0) rfl (lkF hF) rfl rfl rfl rfl) ?_
    refine Zag ?_
    refine Zah ?_
    refine Z87 ?_
    refine Z88 ?_
    refine Zai ?_
    refine Zaj ?_
    refine Zak ?_
    refine Zal ?_
    refine Zam ?_
    refine Zan ?_
    refine Z8e ?_
    refine Zao ?_
    refine Z82 ?_
    refine Zb1 ?_
    refine Z2g ?_
    refine Zap ?_
    refine Zaq ?_
    refine Zar ?_
    refine aqs 7 rfl (by decide +kernel) (by first | exact fun _ => trivial | exact fun _ => ⟨_, rfl⟩ | exact fun _ => ⟨_, rfl, rfl⟩ | exact fun _ => ⟨_, rfl, rfl, rfl⟩ | exact yet_done (by decide +kernel)) (by rintro _ ⟨⟩) (w_storeFP (v := .agg (ePipe p')) (r' := eTwo A.length ((t.uw1 (t.w1.eraseIdx a)).up0 p') (g.uw1 (g.w1 + 1))) rfl hF rfl rfl rfl rfl rfl (Nat.le_of_ble_eq_true rfl) rfl) ?_
    refine Z8d ?_
    refine Zac ?_
    refine aw_base (HTwo A C ((t.uw1 (t.w1.eraseIdx a)).up0 p') (g.uw1 (g.w1 + 1))) (by unfold HTwo; rw [HT_set0]; rfl) ?_
    rw [show (HTwo A C (t.uw1 (t.w1.eraseIdx a)) (g.uw1 (g.w1 + 1))).length = (HTwo A C ((t.uw1 (t.w1.eraseIdx a)).up0 p') (g.uw1 (g.w1 + 1))).length by rw [HTwo_len, HTwo_len]]
    have hF : (HTwo A C ((t.uw1 (t.w1.eraseIdx a)).up0 p') (g.uw1 (g.w1 + 1)))[A.length]? = some ⟨0, 14, [eTwo A.length ((t.uw1 (t.w1.eraseIdx a)).up0 p') (g.uw1 (g.w1 + 1))]⟩ := HT_get0
    have hT : (HTwo A C ((t.uw1 (t.w1.eraseIdx a)).up0 p') (g.uw1 (g.w1 + 1)))[A.length + 5]? = some ⟨g.t0, 1, t.t0.map eWd⟩ := HT_get5
    refine Z7t ?_
    refine Z8 ?_
    refine Z7w ?_
    refine aw_cond rfl (fun hc => ?_) (fun hc => ?_)
    · subst hc
      rw [if_pos rfl, if_pos rfl]
      have hF3 : ((HTwo A C ((t.uw1 (t.w1.eraseIdx a)).up0 p') (g.uw1 (g.w1 + 1))).set (A.length + 5) ⟨g.t0 + 1, 1, (t.t0.map eWd).take t.t0.length ++ [eWd w']⟩)[A.length]? = some ⟨0, 14, [eTwo A.length ((t.uw1 (t.w1.eraseIdx a)).up0 p') (g.uw1 (g.w1 + 1))]⟩ := by rw [List.getElem?_set_ne (by omega)]; exact hF
      refine Z7s ?_
      refine Zas ?_
      refine Z82 ?_
      refine Zb1 ?_
      refine Z9i ?_
      refine aq0 5 rfl (by decide +kernel) (by decide) (fun _ => o_sub (r := (0 : Int)) rfl rfl (by decide)) ?_
      refine Zat ?_
      refine Zau ?_
      refine Zav ?_
      refine aqm 9 rfl (by decide +kernel) (by decide) (fun M G hn hp => w_load1 (v := .sl (A.length + 5) g.t0 0 t.t0.length t.t0.length) rfl (lkF hp) rfl rfl rfl) ?_
      refine Zaw ?_
      refine Zax ?_
      refine Zay ?_
      refine Zaz ?_
      refine aqs 12 rfl (by decide +kernel) (by first | exact fun _ => ⟨_, _, rfl, rfl, hF⟩ | exact fun _ => ⟨_, _, rfl, by simp, hF3⟩ | exact fun _ => trivial | exact fun _ => ⟨_, rfl⟩ | exact fun _ => ⟨_, rfl, rfl⟩ | exact fun _ => ⟨_, rfl, rfl, rfl⟩ | exact yet_done (by decide +kernel)) (by rintro _ ⟨⟩; decide) (w_appendF (t.t0.length + 1) rfl hT rfl rfl (Src.pl (ys := [eWd w']) rfl (wds_len [w'])) rfl (by first | (simp; done) | (simp; omega)) (by first | (simp; done) | (simp; omega)) (by first | (simp; done) | (simp; omega)) (by first | (simp; done) | (simp; omega))) ?_
      refine Zb0 ?_
      refine aqs 16 rfl (by decide +kernel) (by first | exact fun _ => ⟨_, _, rfl, rfl, hF⟩ | exact fun _ => ⟨_, _, rfl, by simp, hF3⟩ | exact fun _ => trivial | exact fun _ => ⟨_, rfl⟩ | exact fun _ => ⟨_, rfl, rfl⟩ | exact fun _ => ⟨_, rfl, rfl, rfl⟩ | exact yet_done (by decide +kernel)) (by rintro _ ⟨⟩) (w_storeFP (v := .sl _ _ _ _ _) (r' := eTwo A.length (((t.uw1 (t.w1.eraseIdx a)).up0 p').ut0 (t.t0 ++ [w'])) ((g.uw1 (g.w1 + 1)).ut0 (g.t0 + 1))) rfl hF3 rfl rfl rfl rfl rfl (Nat.le_of_ble_eq_true rfl) (by simp [Two.uw1, G6.uw1, Two.up0, Two.ut0, G6.ut0, AV.cells])) ?_
      refine Z8x ?_
      try simp only [List.set_cons_zero]
      refine Z7s ?_
      refine e_doneT ?_ hB .nil
      unfold HTwo
      rw [HT_set5, HT_set0, List.take_of_length_le (by simp)]
      simp [Two.uw1, G6.uw1, Two.up0, Two.ut0, G6.ut0, oS, oW, oTwo]
    · subst hc
      rw [if_neg (by decide), if_neg (by decide)]
      refine Z7s ?_
      exact e_doneT rfl hB .nil
  · have hq2 : q ≠ 2 := by simp at hc; omega
    rw [(hd3 hq2).1, (hd3 hq2).2]
    refine Z7s ?_
    exact e_doneT rfl hB .nil
end Go.Av

namespace Go.Av
open Go.Proofs
set_option maxRecDepth 10000
set_option linter.unusedSimpArgs false
set_option linter.unusedVariables false

def LT (n : Nat) (t : Two) (g : G6) : List AObj := [oTwo n t g, oW g.w0 t.w0, oW g.w1 t.w1, oS g.s0 t.s0, oS g.s1 t.s1, oS g.t0 t.t0, oS g.t1 t.t1]
theorem two_do (t : Two) (g : G6) (kind at_ : Nat) (side : Bool) (word : Word) (A C : Heap) (ht : TB t) (hkd : kind < 256) (ha : at_ < 256) (hw : word.length ≤ 10000) :
    AC Try.prog 39 [.pt A.length 0 0 0, .agg (eDo kind side at_ word)] (A ++ (LT A.length t g ++ C)) (Ret (.tup []) (A ++ (LT A.length (doP t (kind % 5) side at_ word) (gP g t (kind % 5) side at_ word) ++ C))) := by
  cases side
  · exact two_do0 t g kind at_ word A C ht hkd ha hw
  · exact two_do1 t g kind at_ word A C ht hkd ha hw
theorem TI.tb {e : Int} {t : Two} {n k k' : Nat} (h : TI e t n k k') (hn : n ≤ 1000) : TB t := by
  have ob : ∀ (s : List Word) (j : Nat) (x : Packet), (∀ b ∈ s, b.length ≤ 100) → x ∈ outs e s j → x.body.length ≤ 10000 := by
    intro s j x hs hx
    obtain ⟨i, hi⟩ := List.mem_iff_getElem?.1 hx
    obtain ⟨h1, rfl⟩ := outs_get hi
    simp only
    rw [List.getD_eq_getElem?_getD, List.getElem?_eq_getElem h1, Option.getD_some]
    have := hs _ (List.getElem_mem h1)
    omega
  have pb : ∀ (s : List Word) (x : Packet), (∀ b ∈ s, b.length ≤ 100) → ((x.seq = 0 ∧ x.body = []) ∨ ∃ j : Nat, s[j]? = some x.body ∧ x.seq = (j : Int) + 1) → x.body.length ≤ 10000 := by
    intro s x hs hx
    rcases hx with ⟨_, e⟩ | ⟨j, hj, _⟩
    · rw [e]; simp
    · have := hs _ (List.mem_of_getElem? hj); omega
  have n0 := h.n0
  have n1 := h.n1
  have l0 := h.l0
  have l1 := h.l1
  have tl := h.d.tl
  have tl' := h.d'.tl
  exact ⟨h.d.right h.d', h.d'.right h.d, fun x hx => ob _ _ x h.d.sb (by rw [← h.d.ao]; exact hx), fun x hx => ob _ _ x h.d'.sb (by rw [← h.d'.ao]; exact hx), fun x hx => pb _ x h.d.sb (h.d.pk x hx).2.2, fun x hx => pb _ x h.d'.sb (h.d'.pk x hx).2.2, by omega, by omega, by omega, by omega, by omega, by omega⟩
theorem begins_step {a b : List Word} {i : Nat} {x y : Word} (hx : a[i]? = some x) (hy : b[i]? = some y) (h : a.take i = b.take i) : (a.take (i + 1) = b.take (i + 1)) ↔ x = y := by
  rw [take_snoc_get hx, take_snoc_get hy, h]
  simp
set_option maxHeartbeats 0 in
theorem ref17_Begins (a b : List Word) (H : Heap) (ha : a.length ≤ 1000000) (hb : b.length ≤ 1000000) : AC Try.prog 40 [.pl (a.map eWd), .pl (b.map eWd)] H (Ret (.bool (begins a b)) H) := by
  refine AC.body (N := 28) [.tmp 4] Try.func40 rfl rfl rfl (Nat.le_of_ble_eq_true rfl) fun B hB => ?_
  refine Z7t ?_
  refine Z4 ?_
  refine Z7t ?_
  refine Z22 ?_
  refine Z22 ?_
  refine Z50 ?_
  refine Z7w ?_
  refine aw_cond rfl (fun hc => ?_) (fun hc => ?_)
  · have h1 : b.length < a.length := by simp at hc; omega
    have hno : begins a b = false := by
      rw [begins, decide_eq_false]
      intro e
      have := congrArg List.length e
      rw [List.length_take] at this
      omega
    rw [hno]
    refine Z7t ?_
    refine Z7z ?_
    exact Zh
  have h1 : a.length ≤ b.length := by simp at hc; omega
  clear hc
  refine Z7u ?_
  refine Zac ?_
  refine aw_loop (G := Nat) (fun k => k ≤ a.length ∧ a.take k = b.take k) (fun k => [(0, .pl (a.map eWd)), (1, .pl (b.map eWd)), (5, .int .i64 (k : Int))]) (fun _ => H ++ []) (fun k => a.length - k) 0 ⟨Nat.zero_le _, rfl⟩ (by repeat (first | exact Sub.nil | refine Sub.cons (by first | rfl | (simp [get]; done)) ?_)) (Fit.refl _ _) ?_
  rintro k ⟨hk, hno⟩
  refine Z8j ?_
  refine Z22 ?_
  refine Z1s ?_
  refine Z7w ?_
  refine aw_cond rfl (fun hc => ?_) (fun hc => ?_)
  · have hlt : k < a.length := by simpa using hc
    obtain ⟨x, hx, hxl⟩ := get_in hlt
    obtain ⟨y, hy, hyl⟩ := get_in (l := b) (k := k) (by omega)
    have hr := map_get eWd hx
    have hr2 := map_get eWd hy
    have hst := begins_step hx hy hno
    clear hc
    refine Z7s ?_
    refine Z2e ?_
    refine Z29 ?_
    refine Z2a ?_
    refine Z2b ?_
    refine aqp 2 rfl (by decide +kernel) (by decide) (fun G => w_indexAddrpN rfl rfl hr rfl) ?_
    refine aqp 3 rfl (by decide +kernel) (by decide) (fun G => o_load1p (v := .pl _) rfl hr rfl) ?_
    first | refine aq0 4 rfl (by decide +kernel) (by decide) (fun _ => o_bytesStr rfl) ?_ | refine aq0 4 rfl (by decide +kernel) (by decide) (fun _ => o_bytesStr_nsl rfl) ?_
    refine Z2q ?_
    refine Z2r ?_
    refine aqp 7 rfl (by decide +kernel) (by decide) (fun G => w_indexAddrpN rfl rfl hr2 rfl) ?_
    refine aqp 8 rfl (by decide +kernel) (by decide) (fun G => o_load1p (v := .pl _) rfl hr2 rfl) ?_
    first | refine aq0 9 rfl (by decide +kernel) (by decide) (fun _ => o_bytesStr rfl) ?_ | refine aq0 9 rfl (by decide +kernel) (by decide) (fun _ => o_bytesStr_nsl rfl) ?_
    refine aq0 10 rfl (by decide +kernel) (by decide) (fun _ => o_sned rfl rfl) ?_
    refine Z8e ?_
    refine aw_cond rfl (fun hc => ?_) (fun hc => ?_)
    · have hxy : x ≠ y := by simpa [bytes_eq] using hc
      have hbad : begins a b = false := by
        rw [begins, decide_eq_false]
        intro e
        refine hxy (hst.1 ?_)
        have := congrArg (List.take (k + 1)) e
        rw [List.take_take, Nat.min_eq_left (by omega)] at this
        exact this
      rw [hbad]
      refine Z7t ?_
      refine Z7z ?_
      exact Zh
    · have hxy : x = y := by simpa [bytes_eq] using hc
      refine Z8j ?_
      refine Z3n ?_
      refine Z7s ?_
      exact ⟨k + 1, by omega, ⟨by omega, hst.2 hxy⟩, (by repeat (first | exact Sub.nil | refine Sub.cons (by first | rfl | (simp [get]; done)) ?_)), .refl _ _⟩
  · have : k = a.length := by simp at hc; omega
    subst this
    rw [List.take_length] at hno
    rw [show begins a b = true from decide_eq_true hno]
    refine Z7t ?_
    refine Z7z ?_
    exact Zh
end Go.Av

/-
  A REGION THAT DRAWS: calls that read the first rows, and leave the memory as1 it was.
-/
namespace Go.Av
section
variable {P : Program} {N : Nat} {B : Base} {ops : Array Oper} {a : Option Nat} {C : Heap → Prop} {F : Env → Heap → Prop}
variable {fuel : Nat} {listed : Array Bool} {env : Env} {H H0 L : Heap} {op : Op} {ty : TypeId} {pos : String} {after : Array Edge} {v : AV}
theorem aqp2 {d : Nat} {L0 : Heap} (i : Nat) (hi : ops[i]? = some ⟨some d, op, ty, pos, after, none⟩) (hB : firstB ops listed a i = true) (hd : DN d N) (h1 : ∀ G, V2 P N op ty (renv ⟨some d, op, ty, pos, after, none⟩ env) (H0 ++ (L0 ++ G)) v (H0 ++ (L0 ++ G)))
    (h : AAny P N B ops a (Pre H0 L0) F fuel (listed.setIfInBounds i true) ((d, v) :: env) H) : AAny P N B ops a (Pre H0 L0) F (fuel + 1) listed env H :=
  aq2 i hi hB hd (by rintro _ ⟨G, rfl⟩; exact h1 G) h
theorem aqyp2 {d j g : Nat} {want : Bool} {L0 : Heap} (i : Nat) (hi : ops[i]? = some ⟨some d, op, ty, pos, after, some (j, want)⟩) (hB : firstB ops listed a i = true) (hd : DN d N) (hj : (ops[j]?).bind (·.dst) = some g) (hb : get env g = .bool want)
    (h1 : ∀ G, V2 P N op ty (renv ⟨some d, op, ty, pos, after, some (j, want)⟩ env) (H0 ++ (L0 ++ G)) v (H0 ++ (L0 ++ G)))
    (h : AAny P N B ops a (Pre H0 L0) F fuel (listed.setIfInBounds i true) ((d, v) :: env) H) : AAny P N B ops a (Pre H0 L0) F (fuel + 1) listed env H :=
  aqy2 i hi hB hd hj hb (by rintro _ ⟨G, rfl⟩; exact h1 G) h
end
end Go.Av

namespace Go.Av
open Go.Proofs
set_option maxRecDepth 10000
set_option linter.unusedSimpArgs false
set_option linter.unusedVariables false

structure DoR where
  k : UInt8
  side : Bool
  a : UInt8
  word : Word
abbrev eDoR (d : DoR) : List AV := eDo d.k.toNat d.side d.a.toNat d.word
structure GT where
  i : Nat
  t : Two
  g : G6
abbrev eTwoNN (n : Nat) (t : Two) (g : G6) : List AV := [.int .i64 t.p0.epoch, .pl (t.p0.out.map ePacket), .int .i64 t.p0.next, .int .i64 t.p0.want, .int .i64 t.p1.epoch, .pl (t.p1.out.map ePacket), .int .i64 t.p1.next, .int .i64 t.p1.want, .nsl, .nsl, .sl (n + 3) g.s0 0 t.s0.length t.s0.length, .sl (n + 4) g.s1 0 t.s1.length t.s1.length, .sl (n + 5) g.t0 0 t.t0.length t.t0.length, .sl (n + 6) g.t1 0 t.t1.length t.t1.length]
def pipe0 (e : Int) : Pipe := ⟨e, [], 1, 1⟩
def two0 (e : Int) : Two := ⟨pipe0 e, pipe0 e, [], [], [], [], [], []⟩
def gz : G6 := ⟨0, 0, 0, 0, 0, 0⟩
theorem dir0 {e : Int} (he : 0 ≤ e ∧ e ≤ 65535) : Dir e (pipe0 e) (pipe0 e) [] [] [] [] 0 :=
  ⟨by omega, rfl, rfl, rfl, by simp [outs, pipe0], Nat.le_refl _, rfl, Nat.le_refl _, Nat.zero_le _, Nat.zero_le _, (fun _ h => nomatch h), (fun _ h => nomatch h)⟩
theorem ti0 {e : Int} (he : 0 ≤ e ∧ e ≤ 65535) : TI e (two0 e) 0 0 0 := ⟨dir0 he, dir0 he, Nat.le_refl _, Nat.le_refl _, Nat.zero_le _, Nat.zero_le _⟩
theorem still0 {e : Int} {t : Two} {n k k' : Nat} (h : TI e t n k k') : Still e ((t.uw0 []).uw1 []) n 0 k k' :=
  ⟨⟨h.d.way (v := []) (fun _ h => nomatch h) h.d', h.d'.way (v := []) (fun _ h => nomatch h) h.d, h.n0, h.n1, Nat.zero_le _, Nat.zero_le _⟩, rfl, rfl, (fun h => absurd h (by decide)), (fun h => absurd h (by decide)), (fun h => absurd h (by decide))⟩
theorem lend_two {H0 L : Heap} {n i j gi gj : Nat} {a b : List Word} (hn : H0.length = n) (hi : L[i]? = some (oS gi a)) (hj : L[j]? = some (oS gj b)) : LendAll (H0 ++ L) [.sl (n + i) gi 0 a.length a.length, .sl (n + j) gj 0 b.length b.length] [.pl (a.map eWd), .pl (b.map eWd)] :=
  .cons (.one (.sl (o := oS gi a) (lk hn hi) (wds_bel 0 a) (by rw [List.drop_zero]; exact List.take_of_length_le (by simp [oS])) (by simp))) (.cons (.one (.sl (o := oS gj b) (lk hn hj) (wds_bel 0 b) (by rw [List.drop_zero]; exact List.take_of_length_le (by simp [oS])) (by simp))) .nil)
set_option maxHeartbeats 0 in
theorem law17_PipeOnce (e : Int) (l : List DoR) (he : 0 ≤ e ∧ e ≤ 65535) (H : Heap) : AC Try.prog 7 [.int .u16 e, .pl (l.map eDoR)] H (Ret (.bool true) H) := by
  have c1 := fun H => pipe_New e H
  rw [show pNew e = (pipe0 e, 0) by rw [pNew, if_pos (by omega)]; rfl] at c1
  refine AC.body (N := 178) [.tmp 4] Try.func7 rfl rfl rfl (Nat.le_of_ble_eq_true rfl) fun B hB => ?_
  refine Z7t ?_
  refine Z4 ?_
  refine Z7t ?_
  refine Z65 ?_
  refine Z1g ?_
  refine Z7w ?_
  refine aw_cond rfl (fun hc => ?_) (fun hc => ?_)
  · simp at hc
  clear hc
  refine Z7t ?_
  refine ao1 (by decide) (o_build (cs := [.int .i64 0, .nsl, .int .i64 0, .int .i64 0, .int .i64 0, .nsl, .int .i64 0, .int .i64 0, .nsl, .nsl, .nsl, .nsl, .nsl, .nsl]) rfl) ?_
  refine ao2 (by rintro _ ⟨⟩; decide) (o_boxL (sz := 14) (v := .agg _) rfl rfl rfl rfl (by decide) rfl) ?_
  first | refine ao1 (by decide) (o_assign (v := .pt _ _ _ _) rfl) ?_ | refine ao1 (by decide) (o_assign (v := .pp _ _ _) rfl) ?_ | refine ao1 (by decide) (o_assign (v := .nptr) rfl) ?_
  refine Z7w ?_
  refine Zb2 ?_
  refine Z82 ?_
  refine Zb3 ?_
  refine Zb4 ?_
  refine Zb5 ?_
  refine Zb6 ?_
  refine Zb7 ?_
  refine Zb8 ?_
  refine Zb9 ?_
  refine Zba ?_
  refine aqs 10 rfl (by decide +kernel) (by first | exact fun _ => trivial | exact fun _ => ⟨_, rfl⟩ | exact fun _ => ⟨_, rfl, rfl⟩ | exact fun _ => ⟨_, rfl, rfl, rfl⟩ | exact yet_done (by decide +kernel)) (by rintro _ ⟨⟩) (w_storeP (sz := 4) (v := .agg (ePipe (pipe0 e))) (r' := [.int .i64 e, .pl (([] : List Packet).map ePacket), .int .i64 1, .int .i64 1, .int .i64 0, .nsl, .int .i64 0, .int .i64 0, .nsl, .nsl, .nsl, .nsl, .nsl, .nsl]) rfl rfl rfl rfl rfl rfl rfl rfl (Nat.le_of_ble_eq_true rfl) rfl) ?_
  refine Z8e ?_
  refine Zb2 ?_
  refine Z82 ?_
  refine Zb3 ?_
  refine Zb4 ?_
  refine Zb5 ?_
  refine Zb6 ?_
  refine Zb7 ?_
  refine Zb8 ?_
  refine Zb9 ?_
  refine Zba ?_
  refine aqs 10 rfl (by decide +kernel) (by first | exact fun _ => trivial | exact fun _ => ⟨_, rfl⟩ | exact fun _ => ⟨_, rfl, rfl⟩ | exact fun _ => ⟨_, rfl, rfl, rfl⟩ | exact yet_done (by decide +kernel)) (by rintro _ ⟨⟩) (w_storeP (sz := 4) (v := .agg (ePipe (pipe0 e))) (r' := [.int .i64 e, .pl (([] : List Packet).map ePacket), .int .i64 1, .int .i64 1, .int .i64 e, .pl (([] : List Packet).map ePacket), .int .i64 1, .int .i64 1, .nsl, .nsl, .nsl, .nsl, .nsl, .nsl]) rfl rfl rfl rfl rfl rfl rfl rfl (Nat.le_of_ble_eq_true rfl) rfl) ?_
  refine Z8d ?_
  refine Z7u ?_
  refine Zac ?_
  refine Zbb ?_
  refine Zbc ?_
  refine aw_ghostC (k := 0) (i := 0) (j := 10) (sz := 1) 0 rfl rfl rfl rfl rfl (by decide) ?_
  refine aw_ghostC (k := 0) (i := 0) (j := 11) (sz := 1) 0 rfl rfl rfl rfl rfl (by decide) ?_
  refine aw_ghostC (k := 0) (i := 0) (j := 12) (sz := 1) 0 rfl rfl rfl rfl rfl (by decide) ?_
  refine aw_ghostC (k := 0) (i := 0) (j := 13) (sz := 1) 0 rfl rfl rfl rfl rfl (by decide) ?_
  refine aw_heap (H ++ LT H.length (two0 e) gz) rfl ?_
  refine aw_loop (G := GT) (fun s => s.i ≤ 120 ∧ s.i ≤ l.length ∧ ∃ k k', TI e s.t s.i k k') (fun s => [(1, .pl (l.map eDoR)), (5, .pt (Lid H.length 0) 0 0 0), (6, .int .i64 (s.i : Int))]) (fun s => H ++ LT H.length s.t s.g) (fun s => l.length - s.i) ⟨0, two0 e, gz⟩ ⟨Nat.zero_le _, Nat.zero_le _, 0, 0, ti0 he⟩ (by repeat (first | exact Sub.nil | refine Sub.cons (by first | rfl | (simp [get]; done)) ?_)) (.inl rfl) ?_
  rintro ⟨i, t, g⟩ ⟨h120, hil, k, k', hti⟩
  simp only at h120 hil hti ⊢
  have htb := hti.tb (by omega)
  refine Z7s ?_
  refine aw_out 40 (.bool (decide (i < l.length) && decide (i < 120))) ?_ ?_
  · refine Z6 ?_
    refine Z22 ?_
    refine Z1s ?_
    refine Z8 ?_
    refine ao_split rfl rfl (fun hg4 => ?_) (fun hg4 => ?_)
    · refine Z9 ?_
      refine Z1d ?_
      refine Zb ?_
      exact Zbd
    · refine Zg ?_
      refine Zb ?_
      exact Zbd
  refine Z7s ?_
  refine aw_cond rfl (fun hc => ?_) (fun hc => ?_)
  · rw [Bool.and_eq_true, decide_eq_true_eq, decide_eq_true_eq] at hc
    obtain ⟨hlt, hlt2⟩ := hc
    obtain ⟨d, hd, hdl⟩ := get_in hlt
    have hr := map_get eDoR hd
    refine Z7t ?_
    refine Z1k ?_
    refine Z6 ?_
    refine Zbe ?_
    refine Zj ?_
    refine ao1 (by decide) (o_load1p (v := .pl _) rfl hr rfl) ?_
    refine Z1q ?_
    refine Z50 ?_
    refine Z7w ?_
    refine aw_cond rfl (fun hc => ?_) (fun hc => ?_)
    · refine Z7t ?_
      refine Z7z ?_
      exact Zh
    have hw : d.word.length ≤ 100 := by simp at hc; omega
    clear hc
    have cd : AC Try.prog 39 [.pt H.length 0 0 0, .agg (eDoR d)] (H ++ LT H.length t g) (Ret (.tup []) (H ++ LT H.length (doP t (d.k.toNat % 5) d.side d.a.toNat d.word) (gP g t (d.k.toNat % 5) d.side d.a.toNat d.word))) := two_do t g d.k.toNat d.a.toNat d.side d.word H [] htb d.k.toNat_lt d.a.toNat_lt (by omega)
    refine Z8y ?_
    refine Z1k ?_
    refine Z6 ?_
    refine Zbe ?_
    refine ao1 (by decide) (w_loadRp rfl hr rfl) ?_
    refine Zbf ?_
    refine Z3 ?_
    obtain ⟨j, j', hti2⟩ := doP_ti hti (by omega) (kind := d.k.toNat % 5) (at_ := d.a.toNat) (side := d.side) hw
    clear cd
    generalize doP t (d.k.toNat % 5) d.side d.a.toNat d.word = t2 at hti2 ⊢
    generalize gP g t (d.k.toNat % 5) d.side d.a.toNat d.word = g2
    have htb2 := hti2.tb (by omega)
    have cb0 := ref17_Begins t2.t0 t2.s1 [] (by have := htb2.lt0; omega) (by have := htb2.ls1; omega)
    have cb1 := ref17_Begins t2.t1 t2.s0 [] (by have := htb2.lt1; omega) (by have := htb2.ls0; omega)
    have cr0 := fun H => pipe_Right t2.p0 H
    have cr1 := fun H => pipe_Right t2.p1 H
    rw [hti2.begins.1] at cb0
    rw [hti2.begins.2] at cb1
    rw [htb2.r0] at cr0
    rw [htb2.r1] at cr1
    refine Z7s ?_
    refine aw_of_out 99 (.bool false) ?_ ?_
    · refine Zbg ?_
      refine Z81 ?_
      refine Zbh ?_
      refine Zbi ?_
      refine Zbj ?_
      refine Zbk ?_
      first | refine aq0 5 rfl (by decide +kernel) (by decide) (fun _ => o_move (v := .pt _ _ _ _) rfl) ?_ | refine aq0 5 rfl (by decide +kernel) (by decide) (fun _ => o_move (v := .pp _ _ _) rfl) ?_ | refine aq0 5 rfl (by decide +kernel) (by decide) (fun _ => o_move (v := .nptr) rfl) ?_
      first | refine aqp 6 rfl (by decide +kernel) (by decide) (fun G => w_nilCheck rfl (lk rfl rfl) rfl) ?_ | refine aqp 6 rfl (by decide +kernel) (by decide) (fun G => w_nilCheck rfl (lkF hF) rfl) ?_ | refine aqp 6 rfl (by decide +kernel) (by decide) (fun G => o_nilCheckp rfl) ?_
      first | refine aqp 7 rfl (by decide +kernel) (by decide) (fun G => w_fieldAddr rfl (lk rfl rfl) rfl (by decide)) ?_ | refine aqp 7 rfl (by decide +kernel) (by decide) (fun G => w_fieldAddrp rfl (by decide)) ?_ | refine aqp 7 rfl (by decide +kernel) (by decide) (fun G => w_fieldAddr rfl (lkF hF) rfl (by decide)) ?_
      refine aqp 8 rfl (by decide +kernel) (by decide) (fun G => w_indexArr rfl (lk rfl rfl) rfl rfl (by decide) (by decide)) ?_
      refine aqp 9 rfl (by decide +kernel) (by decide) (fun G => w_load1 (v := .sl _ _ _ _ _) rfl (lk rfl rfl) rfl rfl rfl) ?_
      refine aqp2 10 rfl (by decide +kernel) (by decide) (fun G => V2.lend cb0 (lend_two rfl rfl rfl) rfl) ?_
      refine aq0 11 rfl (by decide +kernel) (by decide) (fun _ => o_not rfl) ?_
      refine Z6n ?_
      refine aq_split (g := 68) rfl (fun hg12 => ?_) (fun hg12 => ?_)
      · refine aqn0 (g := 68) 13 rfl (by decide +kernel) (by decide) rfl rfl rfl ?_
        refine aqn0 (g := 68) 14 rfl (by decide +kernel) (by decide) rfl rfl rfl ?_
        refine aqn0 (g := 68) 15 rfl (by decide +kernel) (by decide) rfl rfl rfl ?_
        refine aqn0 (g := 68) 16 rfl (by decide +kernel) (by decide) rfl rfl rfl ?_
        refine aqn0 (g := 68) 17 rfl (by decide +kernel) (by decide) rfl rfl rfl ?_
        refine aqn0 (g := 68) 18 rfl (by decide +kernel) (by decide) rfl rfl rfl ?_
        refine aqn0 (g := 68) 19 rfl (by decide +kernel) (by decide) rfl rfl rfl ?_
        refine aqn0 (g := 68) 20 rfl (by decide +kernel) (by decide) rfl rfl rfl ?_
        refine aqn0 (g := 68) 21 rfl (by decide +kernel) (by decide) rfl rfl rfl ?_
        refine aqn0 (g := 68) 22 rfl (by decide +kernel) (by decide) rfl rfl rfl ?_
        refine aqn0 (g := 68) 23 rfl (by decide +kernel) (by decide) rfl rfl rfl ?_
        refine aqn0 (g := 68) 24 rfl (by decide +kernel) (by decide) rfl rfl rfl ?_
        refine Zbl ?_
        refine Zbm ?_
        refine Zbn ?_
        refine Zbo ?_
        refine Zbp ?_
        refine Zbq ?_
        refine Zbr ?_
        refine Zbs ?_
        refine Zbt ?_
        refine Zbu ?_
        refine Zbv ?_
        refine Zbw ?_
        refine Zbx ?_
        refine Zby ?_
        refine Zbz ?_
        refine Zc0 ?_
        refine Zc1 ?_
        refine Zc2 ?_
        refine Zc3 ?_
        exact Zc4
      · first | refine aqy0 (g := 68) 13 rfl (by decide +kernel) (by decide) rfl rfl (fun _ => o_move (v := .pt _ _ _ _) rfl) ?_ | refine aqy0 (g := 68) 13 rfl (by decide +kernel) (by decide) rfl rfl (fun _ => o_move (v := .pp _ _ _) rfl) ?_ | refine aqy0 (g := 68) 13 rfl (by decide +kernel) (by decide) rfl rfl (fun _ => o_move (v := .nptr) rfl) ?_
        first | refine aqyp (g := 68) 14 rfl (by decide +kernel) (by decide) rfl rfl (fun G => w_nilCheck rfl (lk rfl rfl) rfl) ?_ | refine aqyp (g := 68) 14 rfl (by decide +kernel) (by decide) rfl rfl (fun G => w_nilCheck rfl (lkF hF) rfl) ?_ | refine aqyp (g := 68) 14 rfl (by decide +kernel) (by decide) rfl rfl (fun G => o_nilCheckp rfl) ?_
        first | refine aqyp (g := 68) 15 rfl (by decide +kernel) (by decide) rfl rfl (fun G => w_fieldAddr rfl (lk rfl rfl) rfl (by decide)) ?_ | refine aqyp (g := 68) 15 rfl (by decide +kernel) (by decide) rfl rfl (fun G => w_fieldAddrp rfl (by decide)) ?_ | refine aqyp (g := 68) 15 rfl (by decide +kernel) (by decide) rfl rfl (fun G => w_fieldAddr rfl (lkF hF) rfl (by decide)) ?_
        refine aqyp (g := 68) 16 rfl (by decide +kernel) (by decide) rfl rfl (fun G => w_indexArr rfl (lk rfl rfl) rfl rfl (by decide) (by decide)) ?_
        refine aqyp (g := 68) 17 rfl (by decide +kernel) (by decide) rfl rfl (fun G => w_load1 (v := .sl _ _ _ _ _) rfl (lk rfl rfl) rfl rfl rfl) ?_
        first | refine aqy0 (g := 68) 18 rfl (by decide +kernel) (by decide) rfl rfl (fun _ => o_move (v := .pt _ _ _ _) rfl) ?_ | refine aqy0 (g := 68) 18 rfl (by decide +kernel) (by decide) rfl rfl (fun _ => o_move (v := .pp _ _ _) rfl) ?_ | refine aqy0 (g := 68) 18 rfl (by decide +kernel) (by decide) rfl rfl (fun _ => o_move (v := .nptr) rfl) ?_
        first | refine aqyp (g := 68) 19 rfl (by decide +kernel) (by decide) rfl rfl (fun G => w_nilCheck rfl (lk rfl rfl) rfl) ?_ | refine aqyp (g := 68) 19 rfl (by decide +kernel) (by decide) rfl rfl (fun G => w_nilCheck rfl (lkF hF) rfl) ?_ | refine aqyp (g := 68) 19 rfl (by decide +kernel) (by decide) rfl rfl (fun G => o_nilCheckp rfl) ?_
        first | refine aqyp (g := 68) 20 rfl (by decide +kernel) (by decide) rfl rfl (fun G => w_fieldAddr rfl (lk rfl rfl) rfl (by decide)) ?_ | refine aqyp (g := 68) 20 rfl (by decide +kernel) (by decide) rfl rfl (fun G => w_fieldAddrp rfl (by decide)) ?_ | refine aqyp (g := 68) 20 rfl (by decide +kernel) (by decide) rfl rfl (fun G => w_fieldAddr rfl (lkF hF) rfl (by decide)) ?_
        refine aqyp (g := 68) 21 rfl (by decide +kernel) (by decide) rfl rfl (fun G => w_indexArr rfl (lk rfl rfl) rfl rfl (by decide) (by decide)) ?_
        refine aqyp (g := 68) 22 rfl (by decide +kernel) (by decide) rfl rfl (fun G => w_load1 (v := .sl _ _ _ _ _) rfl (lk rfl rfl) rfl rfl rfl) ?_
        refine aqyp2 (g := 68) 23 rfl (by decide +kernel) (by decide) rfl rfl (fun G => V2.lend cb1 (lend_two rfl rfl rfl) rfl) ?_
        refine aqy0 (g := 68) 24 rfl (by decide +kernel) (by decide) rfl rfl (fun _ => o_not rfl) ?_
        refine Zbl ?_
        refine Zbm ?_
        refine aq_split (g := 82) rfl (fun hg26 => ?_) (fun hg26 => ?_)
        · refine Zbn ?_
          refine Zbo ?_
          refine Zbp ?_
          refine Zbq ?_
          refine Zbr ?_
          refine Zbs ?_
          refine Zbt ?_
          refine Zbu ?_
          refine Zbv ?_
          refine Zbw ?_
          refine Zbx ?_
          refine Zby ?_
          refine Zbz ?_
          refine Zc0 ?_
          refine Zc1 ?_
          refine Zc2 ?_
          refine Zc3 ?_
          exact Zc4
        · first | refine aqy0 (g := 82) 27 rfl (by decide +kernel) (by decide) rfl rfl (fun _ => o_move (v := .pt _ _ _ _) rfl) ?_ | refine aqy0 (g := 82) 27 rfl (by decide +kernel) (by decide) rfl rfl (fun _ => o_move (v := .pp _ _ _) rfl) ?_ | refine aqy0 (g := 82) 27 rfl (by decide +kernel) (by decide) rfl rfl (fun _ => o_move (v := .nptr) rfl) ?_
          first | refine aqyp (g := 82) 28 rfl (by decide +kernel) (by decide) rfl rfl (fun G => w_nilCheck rfl (lk rfl rfl) rfl) ?_ | refine aqyp (g := 82) 28 rfl (by decide +kernel) (by decide) rfl rfl (fun G => w_nilCheck rfl (lkF hF) rfl) ?_ | refine aqyp (g := 82) 28 rfl (by decide +kernel) (by decide) rfl rfl (fun G => o_nilCheckp rfl) ?_
          first | refine aqyp (g := 82) 29 rfl (by decide +kernel) (by decide) rfl rfl (fun G => w_fieldAddr rfl (lk rfl rfl) rfl (by decide)) ?_ | refine aqyp (g := 82) 29 rfl (by decide +kernel) (by decide) rfl rfl (fun G => w_fieldAddrp rfl (by decide)) ?_ | refine aqyp (g := 82) 29 rfl (by decide +kernel) (by decide) rfl rfl (fun G => w_fieldAddr rfl (lkF hF) rfl (by decide)) ?_
          refine aqyp (g := 82) 30 rfl (by decide +kernel) (by decide) rfl rfl (fun G => w_indexArr rfl (lk rfl rfl) rfl rfl (by decide) (by decide)) ?_
          refine aqyp (g := 82) 31 rfl (by decide +kernel) (by decide) rfl rfl (fun G => w_loadN (cs := ePipe t2.p0) rfl (lk rfl rfl) rfl rfl rfl rfl) ?_
          refine aqy02 (g := 82) 32 rfl (by decide +kernel) (by decide) rfl rfl (fun _ => V2.call (cr0 _) rfl) ?_
          refine aqy0 (g := 82) 33 rfl (by decide +kernel) (by decide) rfl rfl (fun _ => o_not rfl) ?_
          refine Zbu ?_
          refine Zbv ?_
          refine aq_split (g := 91) rfl (fun hg35 => ?_) (fun hg35 => ?_)
          · refine Zbw ?_
            refine Zbx ?_
            refine Zby ?_
            refine Zbz ?_
            refine Zc0 ?_
            refine Zc1 ?_
            refine Zc2 ?_
            refine Zc3 ?_
            exact Zc4
          · first | refine aqy0 (g := 91) 36 rfl (by decide +kernel) (by decide) rfl rfl (fun _ => o_move (v := .pt _ _ _ _) rfl) ?_ | refine aqy0 (g := 91) 36 rfl (by decide +kernel) (by decide) rfl rfl (fun _ => o_move (v := .pp _ _ _) rfl) ?_ | refine aqy0 (g := 91) 36 rfl (by decide +kernel) (by decide) rfl rfl (fun _ => o_move (v := .nptr) rfl) ?_
            first | refine aqyp (g := 91) 37 rfl (by decide +kernel) (by decide) rfl rfl (fun G => w_nilCheck rfl (lk rfl rfl) rfl) ?_ | refine aqyp (g := 91) 37 rfl (by decide +kernel) (by decide) rfl rfl (fun G => w_nilCheck rfl (lkF hF) rfl) ?_ | refine aqyp (g := 91) 37 rfl (by decide +kernel) (by decide) rfl rfl (fun G => o_nilCheckp rfl) ?_
            first | refine aqyp (g := 91) 38 rfl (by decide +kernel) (by decide) rfl rfl (fun G => w_fieldAddr rfl (lk rfl rfl) rfl (by decide)) ?_ | refine aqyp (g := 91) 38 rfl (by decide +kernel) (by decide) rfl rfl (fun G => w_fieldAddrp rfl (by decide)) ?_ | refine aqyp (g := 91) 38 rfl (by decide +kernel) (by decide) rfl rfl (fun G => w_fieldAddr rfl (lkF hF) rfl (by decide)) ?_
            refine aqyp (g := 91) 39 rfl (by decide +kernel) (by decide) rfl rfl (fun G => w_indexArr rfl (lk rfl rfl) rfl rfl (by decide) (by decide)) ?_
            refine aqyp (g := 91) 40 rfl (by decide +kernel) (by decide) rfl rfl (fun G => w_loadN (cs := ePipe t2.p1) rfl (lk rfl rfl) rfl rfl rfl rfl) ?_
            refine aqy02 (g := 91) 41 rfl (by decide +kernel) (by decide) rfl rfl (fun _ => V2.call (cr1 _) rfl) ?_
            refine aqy0 (g := 91) 42 rfl (by decide +kernel) (by decide) rfl rfl (fun _ => o_not rfl) ?_
            refine Zc3 ?_
            exact Zc4
    refine Z7s ?_
    refine aw_cond rfl (fun hc => ?_) (fun hc => ?_)
    · simp at hc
    clear hc
    refine Z8j ?_
    refine Z3n ?_
    refine Z7s ?_
    exact ⟨⟨i + 1, t2, g2⟩, by simp only; omega, ⟨by simp only; omega, by simp only; omega, j, j', hti2⟩, (by repeat (first | exact Sub.nil | refine Sub.cons (by first | rfl | (simp [get]; done)) ?_)), .inl rfl⟩
  clear hc
  have hst := still0 hti
  refine Z8y ?_
  refine ao1 (by decide) (o_buildArr (cs := [.nsl, .nsl]) rfl) ?_
  refine Z90 ?_
  refine ao2 (by rintro _ ⟨⟩) (w_storeP (sz := 2) (v := .agg [.nsl, .nsl]) (r' := eTwoNN H.length t g) rfl rfl rfl rfl rfl rfl rfl rfl (Nat.le_of_ble_eq_true rfl) rfl) ?_
  refine Z3 ?_
  refine Z7u ?_
  refine Zac ?_
  refine Zbb ?_
  refine aw_takeC (k := Lid H.length 0) (i := 0) (j := 8) (x := Lid H.length 7) (y := Lid H.length 1) (lk rfl rfl) rfl rfl (by unfold Lid; omega) (by unfold Lid; omega) (by unfold Lid; omega) (lk rfl rfl) rfl (lk rfl rfl) ?_
  rw [st rfl, st rfl, st rfl]
  refine Zbc ?_
  refine aw_takeC (k := Lid H.length 0) (i := 0) (j := 9) (x := Lid H.length 8) (y := Lid H.length 2) (lk rfl rfl) rfl rfl (by unfold Lid; omega) (by unfold Lid; omega) (by unfold Lid; omega) (lk rfl rfl) rfl (lk rfl rfl) ?_
  rw [st rfl, st rfl, st rfl]
  refine aw_heap (H ++ (LT H.length ((t.uw0 []).uw1 []) ((g.uw0 (g.w0 + 1)).uw1 (g.w1 + 1)) ++ [⟨1, 4, []⟩, ⟨1, 4, []⟩])) rfl ?_
  generalize (t.uw0 []).uw1 [] = t1 at hst
  generalize (g.uw0 (g.w0 + 1)).uw1 (g.w1 + 1) = g1
  clear htb hti
  refine aw_loop (G := GT) (fun s => s.i ≤ 3 ∧ ∃ k k', Still e s.t i (2 * s.i) k k') (fun s => [(5, .pt (Lid H.length 0) 0 0 0), (7, .int .i64 (s.i : Int))]) (fun s => H ++ (LT H.length s.t s.g ++ [⟨1, 4, []⟩, ⟨1, 4, []⟩])) (fun s => 3 - s.i) ⟨0, t1, g1⟩ ⟨Nat.zero_le _, k, k', hst⟩ (by repeat (first | exact Sub.nil | refine Sub.cons (by first | rfl | (simp [get]; done)) ?_)) (.inl rfl) ?_
  rintro ⟨r, t, g⟩ ⟨hr3, k, k', hst⟩
  simp only at hr3 hst ⊢
  refine Z8j ?_
  refine Z1s ?_
  refine Z7w ?_
  refine aw_cond rfl (fun hc => ?_) (fun hc => ?_)
  · have hlt : r < 3 := by simp at hc; omega
    clear hc
    refine Z7u ?_
    refine Zac ?_
    refine aw_loop (G := GT) (fun s => s.i ≤ 2 ∧ ∃ k k', Still e s.t i (2 * r + s.i) k k') (fun s => [(5, .pt (Lid H.length 0) 0 0 0), (7, .int .i64 (r : Int)), (8, .int .i64 (s.i : Int))]) (fun s => H ++ (LT H.length s.t s.g ++ [⟨1, 4, []⟩, ⟨1, 4, []⟩])) (fun s => 2 - s.i) ⟨0, t, g⟩ ⟨Nat.zero_le _, k, k', hst⟩ (by repeat (first | exact Sub.nil | refine Sub.cons (by first | rfl | (simp [get]; done)) ?_)) (.inl rfl) ?_
    rintro ⟨q, t, g⟩ ⟨hq2, k, k', hst⟩
    simp only at hq2 hst ⊢
    have htb := hst.i.tb (by omega)
    refine Z8j ?_
    refine Z1s ?_
    refine Z7w ?_
    refine aw_cond rfl (fun hc => ?_) (fun hc => ?_)
    · have hlq : q < 2 := by simp at hc; omega
      clear hc
      rcases (show q = 0 ∨ q = 1 by omega) with rfl | rfl
      · have cd : AC Try.prog 39 [.pt H.length 0 0 0, .agg (eDo 1 false 0 [])] (H ++ (LT H.length t g ++ [⟨1, 4, []⟩, ⟨1, 4, []⟩])) (Ret (.tup []) (H ++ (LT H.length (doF t 1 0 []) (gF g t 1 0 []) ++ [⟨1, 4, []⟩, ⟨1, 4, []⟩]))) := two_do t g 1 0 false [] H [⟨1, 4, []⟩, ⟨1, 4, []⟩] htb (by decide) (by decide) (by simp)
        refine Z8z ?_
        refine Z28 ?_
        refine Zc5 ?_
        refine Zbf ?_
        refine Z3 ?_
        have hdr := hst.goes
        clear cd
        generalize doF t 1 0 [] = t2 at hdr ⊢
        generalize gF g t 1 0 [] = g2
        refine Zac ?_
        refine aw_loop (G := GT) (fun s => ∃ k k', Draining e s.t i (2 * r + 0) k k') (fun s => [(5, .pt (Lid H.length 0) 0 0 0), (7, .int .i64 (r : Int)), (8, .int .i64 ((0 : Nat) : Int))]) (fun s => H ++ (LT H.length s.t s.g ++ [⟨1, 4, []⟩, ⟨1, 4, []⟩])) (fun s => s.t.w0.length) ⟨0, t2, g2⟩ ⟨k, k', hdr⟩ (by repeat (first | exact Sub.nil | refine Sub.cons (by first | rfl | (simp [get]; done)) ?_)) (.inl rfl) ?_
        rintro ⟨z, t, g⟩ ⟨k, k', hdr⟩
        simp only at hdr ⊢
        have htb := hdr.i.tb (by omega)
        refine Z91 ?_
        refine Zc6 ?_
        refine Zc7 ?_
        refine ao1 (by decide) (w_lens rfl (lk (k := 1) rfl rfl) rfl) ?_
        refine Z50 ?_
        refine Z7w ?_
        refine aw_cond rfl (fun hc => ?_) (fun hc => ?_)
        · have hne : t.w0.length ≠ 0 := by simp at hc; omega
          clear hc
          have cd : AC Try.prog 39 [.pt H.length 0 0 0, .agg (eDo 2 false 0 [])] (H ++ (LT H.length t g ++ [⟨1, 4, []⟩, ⟨1, 4, []⟩])) (Ret (.tup []) (H ++ (LT H.length (doF t 2 0 []) (gF g t 2 0 []) ++ [⟨1, 4, []⟩, ⟨1, 4, []⟩]))) := two_do t g 2 0 false [] H [⟨1, 4, []⟩, ⟨1, 4, []⟩] htb (by decide) (by decide) (by simp)
          refine Z8z ?_
          refine Z28 ?_
          refine Zc5 ?_
          refine Zbf ?_
          refine Z3 ?_
          obtain ⟨j', hd2, hlt2⟩ := hdr.step hne
          clear cd
          generalize doF t 2 0 [] = t2 at hd2 hlt2 ⊢
          generalize gF g t 2 0 [] = g2
          refine Z7s ?_
          exact ⟨⟨0, t2, g2⟩, hlt2, ⟨k, j', hd2⟩, (by repeat (first | exact Sub.nil | refine Sub.cons (by first | rfl | (simp [get]; done)) ?_)), .inl rfl⟩
        · have h0 : t.w0.length = 0 := by simp at hc; simp [hc]
          have hst2 := hdr.done h0 (by omega)
          clear hc
          refine Z8j ?_
          refine Z3n ?_
          refine Z7s ?_
          exact ⟨⟨1, t, g⟩, by simp only; omega, ⟨by simp only; omega, k, k', hst2⟩, (by repeat (first | exact Sub.nil | refine Sub.cons (by first | rfl | (simp [get]; done)) ?_)), .inl rfl⟩
      · have cd : AC Try.prog 39 [.pt H.length 0 0 0, .agg (eDo 1 true 0 [])] (H ++ (LT H.length t g ++ [⟨1, 4, []⟩, ⟨1, 4, []⟩])) (Ret (.tup []) (H ++ (LT H.length (doP t 1 true 0 []) (gP g t 1 true 0 []) ++ [⟨1, 4, []⟩, ⟨1, 4, []⟩]))) := two_do t g 1 0 true [] H [⟨1, 4, []⟩, ⟨1, 4, []⟩] htb (by decide) (by decide) (by simp)
        refine Z8z ?_
        refine Z28 ?_
        refine Zc5 ?_
        refine Zbf ?_
        refine Z3 ?_
        have hdr := hst.goes'
        clear cd
        generalize doP t 1 true 0 [] = t2 at hdr ⊢
        generalize gP g t 1 true 0 [] = g2
        refine Zac ?_
        refine aw_loop (G := GT) (fun s => ∃ k k', Draining' e s.t i (2 * r + 1) k k') (fun s => [(5, .pt (Lid H.length 0) 0 0 0), (7, .int .i64 (r : Int)), (8, .int .i64 ((1 : Nat) : Int))]) (fun s => H ++ (LT H.length s.t s.g ++ [⟨1, 4, []⟩, ⟨1, 4, []⟩])) (fun s => s.t.w1.length) ⟨0, t2, g2⟩ ⟨k, k', hdr⟩ (by repeat (first | exact Sub.nil | refine Sub.cons (by first | rfl | (simp [get]; done)) ?_)) (.inl rfl) ?_
        rintro ⟨z, t, g⟩ ⟨k, k', hdr⟩
        simp only at hdr ⊢
        have htb := hdr.i.tb (by omega)
        refine Z91 ?_
        refine Zc6 ?_
        refine Zc7 ?_
        refine ao1 (by decide) (w_lens rfl (lk (k := 2) rfl rfl) rfl) ?_
        refine Z50 ?_
        refine Z7w ?_
        refine aw_cond rfl (fun hc => ?_) (fun hc => ?_)
        · have hne : t.w1.length ≠ 0 := by simp at hc; omega
          clear hc
          have cd : AC Try.prog 39 [.pt H.length 0 0 0, .agg (eDo 2 true 0 [])] (H ++ (LT H.length t g ++ [⟨1, 4, []⟩, ⟨1, 4, []⟩])) (Ret (.tup []) (H ++ (LT H.length (doP t 2 true 0 []) (gP g t 2 true 0 []) ++ [⟨1, 4, []⟩, ⟨1, 4, []⟩]))) := two_do t g 2 0 true [] H [⟨1, 4, []⟩, ⟨1, 4, []⟩] htb (by decide) (by decide) (by simp)
          refine Z8z ?_
          refine Z28 ?_
          refine Zc5 ?_
          refine Zbf ?_
          refine Z3 ?_
          obtain ⟨j, hd2, hlt2⟩ := hdr.step hne
          clear cd
          generalize doP t 2 true 0 [] = t2 at hd2 hlt2 ⊢
          generalize gP g t 2 true 0 [] = g2
          refine Z7s ?_
          exact ⟨⟨0, t2, g2⟩, hlt2, ⟨j, k', hd2⟩, (by repeat (first | exact Sub.nil | refine Sub.cons (by first | rfl | (simp [get]; done)) ?_)), .inl rfl⟩
        · have h0 : t.w1.length = 0 := by simp at hc; simp [hc]
          have hst2 := hdr.done h0 (by omega)
          clear hc
          refine Z8j ?_
          refine Z3n ?_
          refine Z7s ?_
          exact ⟨⟨2, t, g⟩, by simp only; omega, ⟨by simp only; omega, k, k', hst2⟩, (by repeat (first | exact Sub.nil | refine Sub.cons (by first | rfl | (simp [get]; done)) ?_)), .inl rfl⟩
    · have : q = 2 := by simp at hc; omega
      subst this
      clear hc
      refine Z8j ?_
      refine Z3n ?_
      refine Z7s ?_
      exact ⟨⟨r + 1, t, g⟩, by simp only; omega, ⟨by simp only; omega, k, k', hst⟩, (by repeat (first | exact Sub.nil | refine Sub.cons (by first | rfl | (simp [get]; done)) ?_)), .inl rfl⟩
  · have : r = 3 := by simp at hc; omega
    subst this
    clear hc
    have hall := hst.all
    obtain ⟨a1, a2, a3, a4⟩ := hall
    refine Z7s ?_
    refine aw_of_out 4 (.bool true) ?_ ?_
    · refine Zbg ?_
      refine Z81 ?_
      refine Zbh ?_
      refine Zbi ?_
      refine Zbj ?_
      refine Zbk ?_
      refine aqp 5 rfl (by decide +kernel) (by decide) (fun G => w_lens rfl (lk (k := 5) rfl rfl) rfl) ?_
      first | refine aq0 6 rfl (by decide +kernel) (by decide) (fun _ => o_move (v := .pt _ _ _ _) rfl) ?_ | refine aq0 6 rfl (by decide +kernel) (by decide) (fun _ => o_move (v := .pp _ _ _) rfl) ?_ | refine aq0 6 rfl (by decide +kernel) (by decide) (fun _ => o_move (v := .nptr) rfl) ?_
      first | refine aqp 7 rfl (by decide +kernel) (by decide) (fun G => w_nilCheck rfl (lk rfl rfl) rfl) ?_ | refine aqp 7 rfl (by decide +kernel) (by decide) (fun G => w_nilCheck rfl (lkF hF) rfl) ?_ | refine aqp 7 rfl (by decide +kernel) (by decide) (fun G => o_nilCheckp rfl) ?_
      refine Z2s ?_
      refine Zba ?_
      refine aqp 10 rfl (by decide +kernel) (by decide) (fun G => w_load1 (v := .sl _ _ _ _ _) rfl (lk rfl rfl) rfl rfl rfl) ?_
      refine aqp 11 rfl (by decide +kernel) (by decide) (fun G => w_lens rfl (lk (k := 4) rfl rfl) rfl) ?_
      refine aq0 12 rfl (by decide +kernel) (by decide) (fun _ => o_eq rfl rfl) ?_
      refine aq0 13 rfl (by decide +kernel) (by decide) (fun _ => o_move (v := .bool _) rfl) ?_
      refine aq_split (g := 143) rfl (fun hg13 => ?_) (fun hg13 => ?_)
      · first | refine aqy0 (g := 143) 14 rfl (by decide +kernel) (by decide) rfl rfl (fun _ => o_move (v := .pt _ _ _ _) rfl) ?_ | refine aqy0 (g := 143) 14 rfl (by decide +kernel) (by decide) rfl rfl (fun _ => o_move (v := .pp _ _ _) rfl) ?_ | refine aqy0 (g := 143) 14 rfl (by decide +kernel) (by decide) rfl rfl (fun _ => o_move (v := .nptr) rfl) ?_
        first | refine aqyp (g := 143) 15 rfl (by decide +kernel) (by decide) rfl rfl (fun G => w_nilCheck rfl (lk rfl rfl) rfl) ?_ | refine aqyp (g := 143) 15 rfl (by decide +kernel) (by decide) rfl rfl (fun G => w_nilCheck rfl (lkF hF) rfl) ?_ | refine aqyp (g := 143) 15 rfl (by decide +kernel) (by decide) rfl rfl (fun G => o_nilCheckp rfl) ?_
        first | refine aqyp (g := 143) 16 rfl (by decide +kernel) (by decide) rfl rfl (fun G => w_fieldAddr rfl (lk rfl rfl) rfl (by decide)) ?_ | refine aqyp (g := 143) 16 rfl (by decide +kernel) (by decide) rfl rfl (fun G => w_fieldAddrp rfl (by decide)) ?_ | refine aqyp (g := 143) 16 rfl (by decide +kernel) (by decide) rfl rfl (fun G => w_fieldAddr rfl (lkF hF) rfl (by decide)) ?_
        refine aqyp (g := 143) 17 rfl (by decide +kernel) (by decide) rfl rfl (fun G => w_indexArr rfl (lk rfl rfl) rfl rfl (by decide) (by decide)) ?_
        refine aqyp (g := 143) 18 rfl (by decide +kernel) (by decide) rfl rfl (fun G => w_load1 (v := .sl _ _ _ _ _) rfl (lk rfl rfl) rfl rfl rfl) ?_
        refine aqyp (g := 143) 19 rfl (by decide +kernel) (by decide) rfl rfl (fun G => w_lens rfl (lk (k := 6) rfl rfl) rfl) ?_
        first | refine aqy0 (g := 143) 20 rfl (by decide +kernel) (by decide) rfl rfl (fun _ => o_move (v := .pt _ _ _ _) rfl) ?_ | refine aqy0 (g := 143) 20 rfl (by decide +kernel) (by decide) rfl rfl (fun _ => o_move (v := .pp _ _ _) rfl) ?_ | refine aqy0 (g := 143) 20 rfl (by decide +kernel) (by decide) rfl rfl (fun _ => o_move (v := .nptr) rfl) ?_
        first | refine aqyp (g := 143) 21 rfl (by decide +kernel) (by decide) rfl rfl (fun G => w_nilCheck rfl (lk rfl rfl) rfl) ?_ | refine aqyp (g := 143) 21 rfl (by decide +kernel) (by decide) rfl rfl (fun G => w_nilCheck rfl (lkF hF) rfl) ?_ | refine aqyp (g := 143) 21 rfl (by decide +kernel) (by decide) rfl rfl (fun G => o_nilCheckp rfl) ?_
        first | refine aqyp (g := 143) 22 rfl (by decide +kernel) (by decide) rfl rfl (fun G => w_fieldAddr rfl (lk rfl rfl) rfl (by decide)) ?_ | refine aqyp (g := 143) 22 rfl (by decide +kernel) (by decide) rfl rfl (fun G => w_fieldAddrp rfl (by decide)) ?_ | refine aqyp (g := 143) 22 rfl (by decide +kernel) (by decide) rfl rfl (fun G => w_fieldAddr rfl (lkF hF) rfl (by decide)) ?_
        refine aqyp (g := 143) 23 rfl (by decide +kernel) (by decide) rfl rfl (fun G => w_indexArr rfl (lk rfl rfl) rfl rfl (by decide) (by decide)) ?_
        refine aqyp (g := 143) 24 rfl (by decide +kernel) (by decide) rfl rfl (fun G => w_load1 (v := .sl _ _ _ _ _) rfl (lk rfl rfl) rfl rfl rfl) ?_
        refine aqyp (g := 143) 25 rfl (by decide +kernel) (by decide) rfl rfl (fun G => w_lens rfl (lk (k := 3) rfl rfl) rfl) ?_
        refine aqy0 (g := 143) 26 rfl (by decide +kernel) (by decide) rfl rfl (fun _ => o_eq rfl rfl) ?_
        refine Zc8 ?_
        refine Zc9 ?_
        refine aq_split (g := 158) rfl (fun hg28 => ?_) (fun hg28 => ?_)
        · first | refine aqy0 (g := 158) 29 rfl (by decide +kernel) (by decide) rfl rfl (fun _ => o_move (v := .pt _ _ _ _) rfl) ?_ | refine aqy0 (g := 158) 29 rfl (by decide +kernel) (by decide) rfl rfl (fun _ => o_move (v := .pp _ _ _) rfl) ?_ | refine aqy0 (g := 158) 29 rfl (by decide +kernel) (by decide) rfl rfl (fun _ => o_move (v := .nptr) rfl) ?_
          first | refine aqyp (g := 158) 30 rfl (by decide +kernel) (by decide) rfl rfl (fun G => w_nilCheck rfl (lk rfl rfl) rfl) ?_ | refine aqyp (g := 158) 30 rfl (by decide +kernel) (by decide) rfl rfl (fun G => w_nilCheck rfl (lkF hF) rfl) ?_ | refine aqyp (g := 158) 30 rfl (by decide +kernel) (by decide) rfl rfl (fun G => o_nilCheckp rfl) ?_
          first | refine aqyp (g := 158) 31 rfl (by decide +kernel) (by decide) rfl rfl (fun G => w_fieldAddr rfl (lk rfl rfl) rfl (by decide)) ?_ | refine aqyp (g := 158) 31 rfl (by decide +kernel) (by decide) rfl rfl (fun G => w_fieldAddrp rfl (by decide)) ?_ | refine aqyp (g := 158) 31 rfl (by decide +kernel) (by decide) rfl rfl (fun G => w_fieldAddr rfl (lkF hF) rfl (by decide)) ?_
          refine aqyp (g := 158) 32 rfl (by decide +kernel) (by decide) rfl rfl (fun G => w_indexArr rfl (lk rfl rfl) rfl rfl (by decide) (by decide)) ?_
          first | refine aqyp (g := 158) 33 rfl (by decide +kernel) (by decide) rfl rfl (fun G => w_fieldAddr rfl (lk rfl rfl) rfl (by decide)) ?_ | refine aqyp (g := 158) 33 rfl (by decide +kernel) (by decide) rfl rfl (fun G => w_fieldAddrp rfl (by decide)) ?_ | refine aqyp (g := 158) 33 rfl (by decide +kernel) (by decide) rfl rfl (fun G => w_fieldAddr rfl (lkF hF) rfl (by decide)) ?_
          refine aqyp (g := 158) 34 rfl (by decide +kernel) (by decide) rfl rfl (fun G => w_load1 (v := .pl (t.p0.out.map ePacket)) rfl (lk rfl rfl) rfl rfl rfl) ?_
          first | refine aqyp (g := 158) 35 rfl (by decide +kernel) (by decide) rfl rfl (fun G => o_lenp rfl) ?_ | refine aqyp (g := 158) 35 rfl (by decide +kernel) (by decide) rfl rfl (fun G => w_lens rfl (lk rfl rfl) rfl) ?_ | refine aqyp (g := 158) 35 rfl (by decide +kernel) (by decide) rfl rfl (fun G => o_lenn rfl) ?_ | refine aqyp (g := 158) 35 rfl (by decide +kernel) (by decide) rfl rfl (fun G => o_lenStr rfl) ?_ | refine aqyp (g := 158) 35 rfl (by decide +kernel) (by decide) rfl rfl (fun G => w_lens rfl (lkF hF) rfl) ?_
          refine aqy0 (g := 158) 36 rfl (by decide +kernel) (by decide) rfl rfl (fun _ => o_eq rfl rfl) ?_
          refine Zca ?_
          refine Zcb ?_
          refine aq_split (g := 168) rfl (fun hg38 => ?_) (fun hg38 => ?_)
          · first | refine aqy0 (g := 168) 39 rfl (by decide +kernel) (by decide) rfl rfl (fun _ => o_move (v := .pt _ _ _ _) rfl) ?_ | refine aqy0 (g := 168) 39 rfl (by decide +kernel) (by decide) rfl rfl (fun _ => o_move (v := .pp _ _ _) rfl) ?_ | refine aqy0 (g := 168) 39 rfl (by decide +kernel) (by decide) rfl rfl (fun _ => o_move (v := .nptr) rfl) ?_
            first | refine aqyp (g := 168) 40 rfl (by decide +kernel) (by decide) rfl rfl (fun G => w_nilCheck rfl (lk rfl rfl) rfl) ?_ | refine aqyp (g := 168) 40 rfl (by decide +kernel) (by decide) rfl rfl (fun G => w_nilCheck rfl (lkF hF) rfl) ?_ | refine aqyp (g := 168) 40 rfl (by decide +kernel) (by decide) rfl rfl (fun G => o_nilCheckp rfl) ?_
            first | refine aqyp (g := 168) 41 rfl (by decide +kernel) (by decide) rfl rfl (fun G => w_fieldAddr rfl (lk rfl rfl) rfl (by decide)) ?_ | refine aqyp (g := 168) 41 rfl (by decide +kernel) (by decide) rfl rfl (fun G => w_fieldAddrp rfl (by decide)) ?_ | refine aqyp (g := 168) 41 rfl (by decide +kernel) (by decide) rfl rfl (fun G => w_fieldAddr rfl (lkF hF) rfl (by decide)) ?_
            refine aqyp (g := 168) 42 rfl (by decide +kernel) (by decide) rfl rfl (fun G => w_indexArr rfl (lk rfl rfl) rfl rfl (by decide) (by decide)) ?_
            first | refine aqyp (g := 168) 43 rfl (by decide +kernel) (by decide) rfl rfl (fun G => w_fieldAddr rfl (lk rfl rfl) rfl (by decide)) ?_ | refine aqyp (g := 168) 43 rfl (by decide +kernel) (by decide) rfl rfl (fun G => w_fieldAddrp rfl (by decide)) ?_ | refine aqyp (g := 168) 43 rfl (by decide +kernel) (by decide) rfl rfl (fun G => w_fieldAddr rfl (lkF hF) rfl (by decide)) ?_
            refine aqyp (g := 168) 44 rfl (by decide +kernel) (by decide) rfl rfl (fun G => w_load1 (v := .pl (t.p1.out.map ePacket)) rfl (lk rfl rfl) rfl rfl rfl) ?_
            first | refine aqyp (g := 168) 45 rfl (by decide +kernel) (by decide) rfl rfl (fun G => o_lenp rfl) ?_ | refine aqyp (g := 168) 45 rfl (by decide +kernel) (by decide) rfl rfl (fun G => w_lens rfl (lk rfl rfl) rfl) ?_ | refine aqyp (g := 168) 45 rfl (by decide +kernel) (by decide) rfl rfl (fun G => o_lenn rfl) ?_ | refine aqyp (g := 168) 45 rfl (by decide +kernel) (by decide) rfl rfl (fun G => o_lenStr rfl) ?_ | refine aqyp (g := 168) 45 rfl (by decide +kernel) (by decide) rfl rfl (fun G => w_lens rfl (lkF hF) rfl) ?_
            refine aqy0 (g := 168) 46 rfl (by decide +kernel) (by decide) rfl rfl (fun _ => o_eq rfl rfl) ?_
            refine Zcc ?_
            refine Zcd ?_
            exact Zce
          · refine Zcf ?_
            refine Zcg ?_
            refine Zch ?_
            refine Zci ?_
            refine Zcj ?_
            refine Zck ?_
            refine Zcl ?_
            refine Zcm ?_
            refine Zcc ?_
            refine Zcd ?_
            exact Zce
        · refine Zcn ?_
          refine Zco ?_
          refine Zcp ?_
          refine Zcq ?_
          refine Zcr ?_
          refine Zcs ?_
          refine Zct ?_
          refine Zcu ?_
          refine Zca ?_
          refine Zcb ?_
          refine Zcf ?_
          refine Zcg ?_
          refine Zch ?_
          refine Zci ?_
          refine Zcj ?_
          refine Zck ?_
          refine Zcl ?_
          refine Zcm ?_
          refine Zcc ?_
          refine Zcd ?_
          exact Zce
      · refine aqn0 (g := 143) 14 rfl (by decide +kernel) (by decide) rfl rfl rfl ?_
        refine aqn0 (g := 143) 15 rfl (by decide +kernel) (by decide) rfl rfl rfl ?_
        refine aqn0 (g := 143) 16 rfl (by decide +kernel) (by decide) rfl rfl rfl ?_
        refine aqn0 (g := 143) 17 rfl (by decide +kernel) (by decide) rfl rfl rfl ?_
        refine aqn0 (g := 143) 18 rfl (by decide +kernel) (by decide) rfl rfl rfl ?_
        refine aqn0 (g := 143) 19 rfl (by decide +kernel) (by decide) rfl rfl rfl ?_
        refine aqn0 (g := 143) 20 rfl (by decide +kernel) (by decide) rfl rfl rfl ?_
        refine aqn0 (g := 143) 21 rfl (by decide +kernel) (by decide) rfl rfl rfl ?_
        refine aqn0 (g := 143) 22 rfl (by decide +kernel) (by decide) rfl rfl rfl ?_
        refine aqn0 (g := 143) 23 rfl (by decide +kernel) (by decide) rfl rfl rfl ?_
        refine aqn0 (g := 143) 24 rfl (by decide +kernel) (by decide) rfl rfl rfl ?_
        refine aqn0 (g := 143) 25 rfl (by decide +kernel) (by decide) rfl rfl rfl ?_
        refine aqn0 (g := 143) 26 rfl (by decide +kernel) (by decide) rfl rfl rfl ?_
        refine Zc8 ?_
        refine Zc9 ?_
        refine Zcn ?_
        refine Zco ?_
        refine Zcp ?_
        refine Zcq ?_
        refine Zcr ?_
        refine Zcs ?_
        refine Zct ?_
        refine Zcu ?_
        refine Zca ?_
        refine Zcb ?_
        refine Zcf ?_
        refine Zcg ?_
        refine Zch ?_
        refine Zci ?_
        refine Zcj ?_
        refine Zck ?_
        refine Zcl ?_
        refine Zcm ?_
        refine Zcc ?_
        refine Zcd ?_
        exact Zce
    refine Z7s ?_
    exact Zh
end Go.Av

/-
  WHAT A CALL IS GIVEN: a value that reads as1 data is an abstract value, cell by cell.
-/
namespace Go.Av

theorem flat_getT {α : Type} {sz : Nat} : ∀ {rows : List (List α)}, (∀ r ∈ rows, r.length = sz) → ∀ {i : Nat} {r : List α} {j : Nat}, rows[i]? = some r → j < sz → rows.flatten[i * sz + j]? = r[j]?
  | [], _, i, r, j, hr, _ => by simp at hr
  | x :: rows, hw, i, r, j, hr, hj => by
    have hx : x.length = sz := hw x (by simp)
    cases i with
    | zero =>
      simp at hr
      subst hr
      rw [List.flatten_cons, List.getElem?_append_left (by omega)]
      simp
    | succ i =>
      have := flat_getT (rows := rows) (fun r h => hw r (by simp [h])) (i := i) (r := r) (j := j) (by simpa using hr) hj
      rw [List.flatten_cons, List.getElem?_append_right (by rw [hx, Nat.succ_mul]; omega), hx, show (i + 1) * sz + j - sz = i * sz + j by rw [Nat.succ_mul]; omega]
      exact this

/-- The types of a type's cells; none where it holds what is not followed here. -/
def tile (P : Program) (rec : TypeId → Option (List TypeId)) (total : Nat) : Nat → List Field → Option (List TypeId)
  | off, [] => if off = total then some [] else none
  | off, f :: fs => if f.offset = off then
      match rec f.type with
      | some a => if a.length = P.cellsOf f.type then
          match tile P rec total (off + P.cellsOf f.type) fs with
          | some r => some (a ++ r)
          | none => none
        else none
      | none => none
    else none
def cellTys (P : Program) : Nat → TypeId → Option (List TypeId)
  | 0, _ => none
  | n + 1, t => match P.underlying t with
    | some .bool | some (.int _) | some .string => some [t]
    | some (.slice e) => if P.cellsOf e = 0 then none else some [t]
    | some (.struct fs) => tile P (cellTys P n) (P.cellsOf t) 0 fs.toList
    | some (.array m e) => match cellTys P n e with
      | some a => if a.length = P.cellsOf e ∧ P.cellsOf t = m * P.cellsOf e then some (List.replicate m a).flatten else none
      | none => none
    | _ => none

/-- What one cell of a type may hold. -/
def CellOk (P : Program) : Nat → TypeId → AV → Prop
  | 0, _, _ => False
  | n + 1, t, v => match P.underlying t with
    | some .bool => ∃ b, v = .bool b
    | some (.int k) => ∃ i, v = .int k i ∧ (Lit.int k i).wf = true
    | some .string => ∃ s : ByteArray, v = .str s ∧ s.size ≤ maxLen
    | some (.slice e) => ∃ rows, v = .pl rows ∧ rows.length ≤ maxLen ∧ ∀ r ∈ rows, ∃ ts, cellTys P (n + 1) e = some ts ∧ r.length = ts.length ∧ ∀ (j : Nat) (t' : TypeId) (v' : AV), ts[j]? = some t' → r[j]? = some v' → CellOk P n t' v'
    | _ => False
def RowIs (P : Program) (n : Nat) (ts : List TypeId) (r : List AV) : Prop := r.length = ts.length ∧ ∀ (j : Nat) (t' : TypeId) (v' : AV), ts[j]? = some t' → r[j]? = some v' → CellOk P n t' v'

section
variable {P : Program} {Hd : Type} {enc : TypeId × Value → Hd} {w : World} {base : Nat} {spare : Nat → Bool} {held : Bool}

theorem tile_spec {rec : TypeId → Option (List TypeId)} {total : Nat} : ∀ (fs : List Field) (off : Nat) (ts : List TypeId), tile P rec total off fs = some ts → off + ts.length = total ∧ off ≤ total ∧
    ∀ (f : Field), f ∈ fs → ∃ a, rec f.type = some a ∧ a.length = P.cellsOf f.type ∧ off ≤ f.offset ∧ f.offset + a.length ≤ total ∧ (∀ j, j < a.length → ts[f.offset - off + j]? = a[j]?)
  | [], off, ts, h => by
    unfold tile at h
    split at h
    · cases h; simp_all
    · cases h
  | f :: fs, off, ts, h => by
    unfold tile at h
    split at h
    · rename_i ho
      split at h
      · rename_i a ha
        split at h
        · rename_i hl
          split at h
          · rename_i r hr
            cases h
            obtain ⟨h1, h2, h3⟩ := tile_spec fs _ _ hr
            refine ⟨by simp; omega, by omega, fun g hg => ?_⟩
            rcases List.mem_cons.1 hg with rfl | hg
            · refine ⟨a, ha, hl, by omega, by omega, fun j hj => ?_⟩
              rw [ho, Nat.sub_self, Nat.zero_add, List.getElem?_append_left hj]
            · obtain ⟨b, k1, k2, k3, k4, k5⟩ := h3 g hg
              refine ⟨b, k1, k2, by omega, k4, fun j hj => ?_⟩
              rw [List.getElem?_append_right (by omega), ← k5 j hj]
              congr 1
              omega
          · cases h
        · cases h
      · cases h
    · cases h

/-- Which field a cell belongs to. -/
theorem tile_cover {rec : TypeId → Option (List TypeId)} {total : Nat} : ∀ (fs : List Field) (off : Nat) (ts : List TypeId), tile P rec total off fs = some ts → ∀ j, off ≤ j → j < total → ∃ f ∈ fs, f.offset ≤ j ∧ j < f.offset + P.cellsOf f.type
  | [], off, ts, h, j, h1, h2 => by
    unfold tile at h
    split at h
    · omega
    · cases h
  | f :: fs, off, ts, h, j, h1, h2 => by
    unfold tile at h
    split at h
    · rename_i ho
      split at h
      · split at h
        · split at h
          · rename_i r hr
            by_cases hj : j < off + P.cellsOf f.type
            · exact ⟨f, List.mem_cons_self, by omega, by omega⟩
            · obtain ⟨g, hg, k⟩ := tile_cover fs _ _ hr j (by omega) h2
              exact ⟨g, List.mem_cons_of_mem _ hg, k⟩
          · cases h
        · cases h
      · cases h
    · cases h

theorem trod_one {t : TypeId} {fuel : Nat} {cs : List Value} {x : DataW Hd × List MemPlace} (hu : P.underlying t = some .bool ∨ (∃ k, P.underlying t = some (.int k)) ∨ P.underlying t = some .string ∨ ∃ e, P.underlying t = some (.slice e)) (h : DataW.trod enc P w base spare held (fuel + 1) t cs = some x) : ∃ u, cs = [u] := by
  unfold DataW.trod at h
  rcases hu with hu | ⟨k, hu⟩ | hu | ⟨e, hu⟩ <;> rw [hu] at h <;> split at h <;> first | exact ⟨_, rfl⟩ | (simp_all; done)

/-- A value that reads: each of its cells reads, by its own type. -/
theorem trod_cells : ∀ (n : Nat) (t : TypeId) (ts : List TypeId) (fuel : Nat) (cs : List Value) (x : DataW Hd × List MemPlace), cellTys P n t = some ts → DataW.trod enc P w base spare held fuel t cs = some x →
    cs.length = ts.length ∧ ∀ (j : Nat) (t' : TypeId) (u : Value), ts[j]? = some t' → cs[j]? = some u → ∃ fuel' x', DataW.trod enc P w base spare held fuel' t' [u] = some x' ∧ (P.underlying t' = some .bool ∨ (∃ k, P.underlying t' = some (.int k)) ∨ P.underlying t' = some .string ∨ ∃ e, P.underlying t' = some (.slice e) ∧ P.cellsOf e ≠ 0)
  | 0, _, _, _, _, _, h, _ => by cases h
  | _ + 1, _, _, 0, _, _, _, h => by cases h
  | n + 1, t, ts, fuel + 1, cs, x, h, hx => by
    have one : ∀ u, cs = [u] → ts = [t] → (P.underlying t = some .bool ∨ (∃ k, P.underlying t = some (.int k)) ∨ P.underlying t = some .string ∨ ∃ e, P.underlying t = some (.slice e) ∧ P.cellsOf e ≠ 0) → cs.length = ts.length ∧ ∀ (j : Nat) (t' : TypeId) (u : Value), ts[j]? = some t' → cs[j]? = some u → ∃ fuel' x', DataW.trod enc P w base spare held fuel' t' [u] = some x' ∧ (P.underlying t' = some .bool ∨ (∃ k, P.underlying t' = some (.int k)) ∨ P.underlying t' = some .string ∨ ∃ e, P.underlying t' = some (.slice e) ∧ P.cellsOf e ≠ 0) := by
      rintro u rfl rfl hk
      refine ⟨rfl, fun j t' u' h1 h2 => ?_⟩
      cases j with
      | zero => simp at h1 h2; subst h1; subst h2; exact ⟨fuel + 1, x, hx, hk⟩
      | succ j => simp at h1
    unfold cellTys at h
    split at h
    · rename_i hu
      cases h
      obtain ⟨u, hcs⟩ := trod_one (.inl hu) hx
      exact one u hcs rfl (.inl hu)
    · rename_i k hu
      cases h
      obtain ⟨u, hcs⟩ := trod_one (.inr (.inl ⟨k, hu⟩)) hx
      exact one u hcs rfl (.inr (.inl ⟨k, hu⟩))
    · rename_i hu
      cases h
      obtain ⟨u, hcs⟩ := trod_one (.inr (.inr (.inl hu))) hx
      exact one u hcs rfl (.inr (.inr (.inl hu)))
    · rename_i e hu
      split at h
      · cases h
      · rename_i he
        cases h
        obtain ⟨u, hcs⟩ := trod_one (.inr (.inr (.inr ⟨e, hu⟩))) hx
        exact one u hcs rfl (.inr (.inr (.inr ⟨e, hu, he⟩)))
    · rename_i fs hu
      obtain ⟨h1, _, h3⟩ := tile_spec _ _ _ h
      rw [Nat.zero_add] at h1
      unfold DataW.trod at hx
      rw [hu] at hx
      simp only at hx
      split at hx
      · rename_i hl
        cases hm : fs.toList.mapM (fun f => DataW.trod enc P w base spare held fuel f.type ((cs.drop f.offset).take (P.cellsOf f.type))) with
        | none => rw [hm] at hx; simp at hx
        | some xs =>
          have hg := mapM_some_get hm
          refine ⟨hl.trans h1.symm, fun j t' u hj hu' => ?_⟩
          have hjt : j < P.cellsOf t := by rw [← h1]; exact (List.getElem?_eq_some_iff.1 hj).1
          obtain ⟨f, hf, k1, k2⟩ := tile_cover _ _ _ h j (Nat.zero_le _) hjt
          obtain ⟨a, ha, hal, _, _, hat⟩ := h3 f hf
          obtain ⟨i, hi⟩ := List.mem_iff_getElem?.1 hf
          have hx1 := hg i f hi
          have hil : i < xs.length := by rw [mapM_some_length hm]; exact (List.getElem?_eq_some_iff.1 hi).1
          rw [List.getElem?_eq_getElem hil] at hx1
          obtain ⟨_, hrec⟩ := trod_cells n f.type a fuel _ _ ha hx1
          have hj2 : j - f.offset < a.length := by omega
          have e1 := hat (j - f.offset) hj2
          rw [show f.offset - 0 + (j - f.offset) = j by omega, hj] at e1
          refine hrec (j - f.offset) t' u e1.symm ?_
          rw [List.getElem?_take, if_pos (by omega), List.getElem?_drop, show f.offset + (j - f.offset) = j by omega]
          exact hu'
      · cases hx
    · rename_i m e hu
      split at h
      · rename_i a ha
        split at h
        · rename_i hal
          cases h
          unfold DataW.trod at hx
          rw [hu] at hx
          simp only at hx
          split at hx
          · rename_i hl
            cases hm : (List.range m).mapM (fun i => DataW.trod enc P w base spare held fuel e ((cs.drop (i * P.cellsOf e)).take (P.cellsOf e))) with
            | none => rw [hm] at hx; simp at hx
            | some xs =>
              have hg := mapM_some_get hm
              have hfl : (List.replicate m a).flatten.length = m * P.cellsOf e := by simp [hal.1]
              refine ⟨by rw [hl, hal.2, hfl], fun j t' u hj hu' => ?_⟩
              have hjt : j < m * P.cellsOf e := by rw [← hfl]; exact (List.getElem?_eq_some_iff.1 hj).1
              have hpos : 0 < P.cellsOf e := by
                rcases Nat.eq_zero_or_pos (P.cellsOf e) with h0 | h0
                · rw [h0] at hjt; simp at hjt
                · exact h0
              have hi : j / P.cellsOf e < m := (Nat.div_lt_iff_lt_mul hpos).2 hjt
              have hx1 := hg (j / P.cellsOf e) (j / P.cellsOf e) (by simp [hi])
              have hil : j / P.cellsOf e < xs.length := by rw [mapM_some_length hm]; simpa using hi
              rw [List.getElem?_eq_getElem hil] at hx1
              obtain ⟨_, hrec⟩ := trod_cells n e a fuel _ _ ha hx1
              have hdm : j / P.cellsOf e * P.cellsOf e + j % P.cellsOf e = j := Nat.div_add_mod' _ _
              have hmod : j % P.cellsOf e < P.cellsOf e := Nat.mod_lt _ hpos
              refine hrec (j % P.cellsOf e) t' u ?_ ?_
              · have hw : ∀ r ∈ List.replicate m a, r.length = P.cellsOf e := fun r hr => by rw [List.eq_of_mem_replicate hr]; exact hal.1
                have h3 := flat_getT (sz := P.cellsOf e) hw (i := j / P.cellsOf e) (r := a) (by rw [List.getElem?_replicate, if_pos hi]) hmod
                rw [hdm] at h3
                rw [← h3]; exact hj
              · rw [List.getElem?_take, if_pos hmod, List.getElem?_drop, hdm]
                exact hu'
          · cases hx
        · cases h
      · cases h
    · cases h

theorem choose_list {α : Type} {p : Nat → α → Prop} : ∀ (n : Nat), (∀ j, j < n → ∃ v, p j v) → ∃ l : List α, l.length = n ∧ ∀ (j : Nat) (v : α), l[j]? = some v → p j v
  | 0, _ => ⟨[], rfl, fun _ _ h => by simp at h⟩
  | n + 1, h => by
    obtain ⟨l, h1, h2⟩ := choose_list n (fun j hj => h j (by omega))
    obtain ⟨v, hv⟩ := h n (by omega)
    refine ⟨l ++ [v], by simp [h1], fun j x hx => ?_⟩
    rcases Nat.lt_or_ge j l.length with hj | hj
    · rw [List.getElem?_append_left hj] at hx; exact h2 j x hx
    · rw [List.getElem?_append_right hj] at hx
      have : j - l.length = 0 := by
        rcases Nat.eq_zero_or_pos (j - l.length) with e | e
        · exact e
        · rw [List.getElem?_eq_none (by simp; omega)] at hx; cases hx
      rw [this] at hx
      simp at hx
      subst hx
      rw [show j = n by omega]
      exact hv

/-- Types all of whose cells are followed. -/
def cellDeep (P : Program) : Nat → TypeId → Bool
  | 0, _ => false
  | n + 1, t => match P.underlying t with
    | some .bool | some (.int _) | some .string => true
    | some (.slice e) => match cellTys P (n + 1) e with
      | some ts => decide (P.cellsOf e ≠ 0) && decide (ts.length = P.cellsOf e) && ts.all (cellDeep P n)
      | none => false
    | _ => false

theorem cell_vr : ∀ (n : Nat) (t : TypeId) (u : Value) (fuel : Nat) (x : DataW Hd × List MemPlace), cellDeep P n t = true → DataW.trod enc P w base spare held fuel t [u] = some x → ∃ v, CellOk P n t v ∧ v.leaf = true ∧ VR (own []) w [] v u
  | 0, _, _, _, _, h, _ => by cases h
  | _ + 1, _, _, 0, _, _, h => by cases h
  | n + 1, t, u, fuel + 1, x, h, hx => by
    unfold cellDeep at h
    unfold CellOk
    unfold DataW.trod at hx
    split at h
    · rename_i hu
      rw [hu] at hx
      split at hx <;> first | (simp_all; done) | skip
      rename_i b _ hc
      obtain rfl := (List.cons.inj hc).1
      exact ⟨_, ⟨_, rfl⟩, rfl, .bool⟩
    · rename_i k hu
      rw [hu] at hx
      split at hx <;> first | (simp_all; done) | skip
      split at hx
      · rename_i k' k'' i hk hc hw
        obtain rfl := (List.cons.inj hc).1
        injection hk with hk
        injection hk with hk
        subst hk
        obtain ⟨rfl, hw⟩ := hw
        exact ⟨_, ⟨_, rfl, hw⟩, rfl, .int⟩
      · cases hx
    · rename_i hu
      rw [hu] at hx
      split at hx <;> first | (simp_all; done) | skip
      split at hx
      · rename_i s _ hc hw
        obtain rfl := (List.cons.inj hc).1
        exact ⟨_, ⟨_, rfl, hw⟩, rfl, .str⟩
      · cases hx
    · rename_i e hu
      rw [hu] at hx
      split at h
      · rename_i ts hts
        simp only [Bool.and_eq_true, decide_eq_true_eq] at h
        obtain ⟨⟨he, htl⟩, hall⟩ := h
        split at hx <;> first | (simp_all; done) | skip
        · rename_i e' hk hc
          obtain rfl := (List.cons.inj hc).1
          refine ⟨.pl [], ⟨[], rfl, Nat.zero_le _, by simp⟩, rfl, .pl (xs := []) default 0 (fun _ _ => undef) (Nat.zero_le _) (fun h => absurd rfl h) (fun _ _ h => by simp at h) (fun _ h => by simp at h) (fun _ _ _ _ h => by simp at h) (fun _ _ _ _ h => by simp at h)⟩
        · rename_i e' a len cap hk hc
          obtain rfl := (List.cons.inj hc).1
          injection hk with hk
          injection hk with hk
          subst hk
          simp only at hx
          split at hx
          · rename_i hcnd
            cases hm : (List.range len).mapM (fun i => (w.cells? base (a.add (i * P.cellsOf e)) (P.cellsOf e)).bind (DataW.trod enc P w base spare held fuel e)) with
            | none => rw [hm] at hx; simp at hx
            | some xs =>
              have hg := mapM_some_get hm
              have row : ∀ i, i < len → ∃ r : List AV, r.length = P.cellsOf e ∧ (∀ (j : Nat) (t' : TypeId) (v' : AV), ts[j]? = some t' → r[j]? = some v' → CellOk P n t' v') ∧ a.block < w.heap.size ∧
                  ∀ (j : Nat) (v : AV), r[j]? = some v → v.leaf = true ∧ ∃ u, w.cell? (a.add (i * P.cellsOf e + j)) = some u ∧ VR (own []) w [] v u := by
                intro i hi
                have hx1 := hg i i (by simp [hi])
                have hil : i < xs.length := by rw [mapM_some_length hm]; simpa using hi
                rw [List.getElem?_eq_getElem hil] at hx1
                cases hcs : w.cells? base (a.add (i * P.cellsOf e)) (P.cellsOf e) with
                | none => rw [hcs] at hx1; simp at hx1
                | some cs =>
                  rw [hcs] at hx1
                  simp only [Option.bind_some] at hx1
                  obtain ⟨_, hcl, hcell⟩ := World.cells?_some hcs
                  obtain ⟨hl, hrec⟩ := trod_cells (n + 1) e ts fuel cs _ hts hx1
                  have hblk := World.cells?_block hcs (by omega)
                  rw [add_block] at hblk
                  obtain ⟨r, hr1, hr2⟩ := choose_list (p := fun j v => v.leaf = true ∧ (∀ t', ts[j]? = some t' → CellOk P n t' v) ∧ ∃ u, w.cell? (a.add (i * P.cellsOf e + j)) = some u ∧ VR (own []) w [] v u) (P.cellsOf e) (fun j hj => by
                    have hjc : j < cs.length := by omega
                    have hjt : j < ts.length := by omega
                    obtain ⟨fuel', x', hx', _⟩ := hrec j _ _ (List.getElem?_eq_getElem hjt) (List.getElem?_eq_getElem hjc)
                    obtain ⟨v, k1, k2, k3⟩ := cell_vr n _ _ fuel' x' (List.all_eq_true.1 hall _ (List.getElem_mem hjt)) hx'
                    refine ⟨v, k2, fun t' ht' => ?_, _, ?_, k3⟩
                    · rw [List.getElem?_eq_getElem hjt] at ht'
                      obtain rfl := Option.some.inj ht'
                      exact k1
                    · have := hcell j hj
                      rw [add_add] at this
                      rw [this, List.getElem?_eq_getElem hjc])
                  exact ⟨r, hr1, fun j t' v' ht' hv' => (hr2 j v' hv').2.1 t' ht', hblk, fun j v hv => ⟨(hr2 j v hv).1, (hr2 j v hv).2.2⟩⟩
              obtain ⟨rows, hr1, hr2⟩ := choose_list len row
              have hrows : ∀ i r, rows[i]? = some r → i < len := fun i r hr => by rw [← hr1]; exact (List.getElem?_eq_some_iff.1 hr).1
              refine ⟨.pl rows, ⟨rows, rfl, by omega, fun r hr => ?_⟩, rfl, ?_⟩
              · obtain ⟨i, hi⟩ := List.mem_iff_getElem?.1 hr
                obtain ⟨k1, k2, _, _⟩ := hr2 i r hi
                exact ⟨ts, hts, by omega, k2⟩
              · rw [← hr1]
                refine .pl a (P.cellsOf e) (fun i j => (w.cell? (a.add (i * P.cellsOf e + j))).getD undef) (by omega) (fun hne => ?_) (fun i r hr => (hr2 i r hr).1) (fun i hi j hj => ?_) (fun i j r v hr hv => ((hr2 i r hr).2.2.2 j v hv).1) (fun i j r v hr hv => ?_)
                · have hpos : 0 < rows.length := List.length_pos_iff.2 hne
                  exact ⟨rfl, by rintro ⟨i, s, hs, _⟩; simp at hs, (hr2 0 _ (List.getElem?_eq_getElem hpos)).2.2.1⟩
                · have hk := hr2 i _ (List.getElem?_eq_getElem hi)
                  obtain ⟨_, u, hu', _⟩ := hk.2.2.2 j _ (List.getElem?_eq_getElem (by rw [hk.1]; exact hj))
                  rw [hu']; rfl
                · obtain ⟨_, u, hu', hv'⟩ := (hr2 i r hr).2.2.2 j v hv
                  rw [hu']; exact hv'
          · cases hx
      · cases h
    · cases h

/-- A value that reads, as1 one abstract value. -/
def rowVal (t : Bool) (r : List AV) : AV := if t then .agg r else r.headD .junk
theorem trod_vr {n : Nat} {t : TypeId} {ts : List TypeId} {v : Value} {d : DataW Hd} {ps : List MemPlace} (hts : cellTys P (n + 1) t = some ts) (hd : ts.all (cellDeep P n) = true) (h : DataW.Trod enc P w base spare held t v d ps) :
    ∃ r : List AV, RowIs P n ts r ∧ r.length = v.cells.size ∧ ∀ (j : Nat) (a : AV) (u : Value), r[j]? = some a → v.cells[j]? = some u → a.leaf = true ∧ VR (own []) w [] a u := by
  obtain ⟨fuel, h⟩ := h
  obtain ⟨hl, hrec⟩ := trod_cells (n + 1) t ts fuel _ _ hts h
  obtain ⟨r, hr1, hr2⟩ := choose_list (p := fun j a => a.leaf = true ∧ (∀ t', ts[j]? = some t' → CellOk P n t' a) ∧ ∀ u, v.cells.toList[j]? = some u → VR (own []) w [] a u) ts.length (fun j hj => by
    have hjc : j < v.cells.toList.length := by omega
    obtain ⟨fuel', x', hx', _⟩ := hrec j _ _ (List.getElem?_eq_getElem hj) (List.getElem?_eq_getElem hjc)
    obtain ⟨a, k1, k2, k3⟩ := cell_vr n _ _ fuel' x' (List.all_eq_true.1 hd _ (List.getElem_mem hj)) hx'
    refine ⟨a, k2, fun t' ht' => ?_, fun u hu => ?_⟩
    · rw [List.getElem?_eq_getElem hj] at ht'
      obtain rfl := Option.some.inj ht'
      exact k1
    · rw [List.getElem?_eq_getElem hjc] at hu
      obtain rfl := Option.some.inj hu
      exact k3)
  refine ⟨r, ⟨hr1, fun j t' v' ht' hv' => (hr2 j v' hv').2.1 t' ht'⟩, by rw [hr1, ← hl]; simp, fun j a u ha hu => ⟨(hr2 j a ha).1, (hr2 j a ha).2.2 u (by simpa using hu)⟩⟩
end
end Go.Av

/-
  FROM A CALL's CONTRACT TO A ROW: the arguments as1 abstract values, and what the row asks of the world behind.
-/
namespace Go.Av
open Go.RowKit

section
variable {P : Program} {Hd : Type} {enc : TypeId × Value → Hd} {w : World} {base b : Nat} {spare : Nat → Bool} {held : Bool}
theorem arg_leaf {n : Nat} {t : TypeId} {v : Value} {d : DataW Hd} {ps : List MemPlace} (hd : cellDeep P n t = true) (hval : Value.okWide P w .any b t v) (h : DataW.Trod enc P w base spare held t v d ps) : ∃ a, CellOk P n t a ∧ VR (own []) w [] a v := by
  have hc : v.cells = #[v] := by
    cases n with
    | zero => cases hd
    | succ n =>
      unfold cellDeep at hd
      unfold Value.okWide at hval
      cases v with
      | agg cs =>
        exfalso
        split at hd <;> rename_i hu <;> simp [hu, Cell.okWide, Cell.ok] at hval hd
      | _ => rfl
  obtain ⟨fuel, h⟩ := h
  rw [hc] at h
  obtain ⟨a, h1, _, h2⟩ := cell_vr n t v fuel _ hd h
  exact ⟨a, h1, h2⟩
theorem arg_agg {n : Nat} {t : TypeId} {ts : List TypeId} {v : Value} {d : DataW Hd} {ps : List MemPlace} (hts : cellTys P (n + 1) t = some ts) (hall : ts.all (cellDeep P n) = true) (hagg : (∃ fs, P.underlying t = some (.struct fs)) ∨ ∃ m e, P.underlying t = some (.array m e)) (hval : Value.okWide P w .any b t v) (h : DataW.Trod enc P w base spare held t v d ps) : ∃ r, RowIs P n ts r ∧ VR (own []) w [] (.agg r) v := by
  obtain ⟨r, h1, h2, h3⟩ := trod_vr hts hall h
  have hv : ∃ cs, v = .agg cs := by
    unfold Value.okWide at hval
    rcases hagg with ⟨fs, hu⟩ | ⟨m, e, hu⟩ <;> rw [hu] at hval <;> exact ⟨_, hval.choose_spec.1⟩
  obtain ⟨cs, rfl⟩ := hv
  have hc : (Value.agg cs).cells = cs := rfl
  rw [hc] at h2 h3
  exact ⟨r, h1, .agg h2 (fun j a ha => by
    have hj : j < cs.size := by rw [← h2]; exact (List.getElem?_eq_some_iff.1 ha).1
    exact (h3 j a _ ha (Array.getElem?_eq_getElem hj)).1) (fun j a u ha hu => (h3 j a u ha hu).2)⟩

theorem cell_bool {n : Nat} {t : TypeId} {a : AV} (hu : P.underlying t = some .bool) (h : CellOk P (n + 1) t a) : ∃ b, a = .bool b := by
  unfold CellOk at h; rw [hu] at h; exact h
theorem cell_int {n : Nat} {t : TypeId} {k : IntKind} {a : AV} (hu : P.underlying t = some (.int k)) (h : CellOk P (n + 1) t a) : ∃ i, a = .int k i ∧ (Lit.int k i).wf = true := by
  unfold CellOk at h; rw [hu] at h; exact h
theorem cell_str {n : Nat} {t : TypeId} {a : AV} (hu : P.underlying t = some .string) (h : CellOk P (n + 1) t a) : ∃ s : ByteArray, a = .str s ∧ s.size ≤ maxLen := by
  unfold CellOk at h; rw [hu] at h; exact h
theorem cell_sl {n : Nat} {t e : TypeId} {ts : List TypeId} {a : AV} (hu : P.underlying t = some (.slice e)) (hts : cellTys P (n + 1) e = some ts) (h : CellOk P (n + 1) t a) : ∃ rows, a = .pl rows ∧ rows.length ≤ maxLen ∧ ∀ r ∈ rows, RowIs P n ts r := by
  unfold CellOk at h
  rw [hu] at h
  obtain ⟨rows, h1, h2, h3⟩ := h
  refine ⟨rows, h1, h2, fun r hr => ?_⟩
  obtain ⟨ts', k1, k2, k3⟩ := h3 r hr
  rw [hts] at k1
  obtain rfl := Option.some.inj k1
  exact ⟨k2, k3⟩
theorem row_nil {n : Nat} {r : List AV} (h : RowIs P n [] r) : r = [] := List.eq_nil_of_length_eq_zero h.1
theorem row_cons {n : Nat} {t : TypeId} {ts : List TypeId} {r : List AV} (h : RowIs P n (t :: ts) r) : ∃ v r', r = v :: r' ∧ CellOk P n t v ∧ RowIs P n ts r' := by
  cases r with
  | nil => have := h.1; simp at this
  | cons v r => exact ⟨v, r, rfl, h.2 0 t v rfl rfl, by simpa using h.1, fun j t' v' h1 h2 => h.2 (j + 1) t' v' h1 h2⟩
theorem rows_map {α : Type} {e : α → List AV} : ∀ {rows : List (List AV)}, (∀ r ∈ rows, ∃ x, r = e x) → ∃ l : List α, rows = l.map e
  | [], _ => ⟨[], rfl⟩
  | r :: rows, h => by
    obtain ⟨x, rfl⟩ := h r List.mem_cons_self
    obtain ⟨l, rfl⟩ := rows_map (rows := rows) fun r hr => h r (List.mem_cons_of_mem _ hr)
    exact ⟨x :: l, rfl⟩
theorem cell_byte {n : Nat} {t : TypeId} {a : AV} (hu : P.underlying t = some (.int .u8)) (h : CellOk P (n + 1) t a) : ∃ c : UInt8, a = .int .u8 (c.toNat : Int) := by
  obtain ⟨i, rfl, hw⟩ := cell_int hu h
  have h2 : 0 ≤ i ∧ i < 256 := by
    have e1 : IntKind.u8.min = 0 := rfl
    have e2 : IntKind.u8.max = 255 := rfl
    simp [Lit.wf, e1, e2] at hw
    omega
  refine ⟨UInt8.ofNat i.toNat, ?_⟩
  congr 1
  have : i.toNat < 256 := by omega
  simp [UInt8.toNat_ofNat', Nat.mod_eq_of_lt this]
  omega
theorem cell_bytes {n : Nat} {t e : TypeId} {a : AV} (hu : P.underlying t = some (.slice e)) (he : P.underlying e = some (.int .u8)) (h : CellOk P (n + 2) t a) : ∃ bs : List UInt8, a = .pl (bs.map brow) := by
  have hts : cellTys P (n + 1 + 1) e = some [e] := by unfold cellTys; rw [he]
  obtain ⟨rows, rfl, _, h3⟩ := cell_sl hu hts h
  obtain ⟨l, rfl⟩ := rows_map (e := brow) (rows := rows) fun r hr => by
    obtain ⟨v, r', rfl, h1, h2⟩ := row_cons (h3 r hr)
    obtain rfl := row_nil h2
    obtain ⟨c, rfl⟩ := cell_byte he h1
    exact ⟨c, rfl⟩
  exact ⟨l, rfl⟩

inductive All2 {α β : Type} (R : α → β → Prop) : List α → List β → Prop where
  | nil : All2 R [] []
  | cons {a b as1 bs} (h : R a b) (k : All2 R as1 bs) : All2 R (a :: as1) (b :: bs)
theorem All2.vrs {O : Nat → Prop} {S : List Slot} {vs : List AV} {us : List Value} (h : All2 (VR O w S) vs us) : VRs O w S vs us.toArray := by
  induction h with
  | nil => exact ⟨rfl, fun i v u hv => by simp at hv⟩
  | cons h k ih =>
    refine ⟨by simpa using ih.1, fun i v u hv hu => ?_⟩
    cases i with
    | zero => simp at hv hu; subst hv; subst hu; exact h
    | succ i => exact ih.2 i v u (by simpa using hv) (by simpa using hu)
theorem ac_row {f : FuncId} {avs : List AV} {us : List Value} {bb : Bool} (h : AC P f avs [] (Ret (.bool bb) [])) (hv : All2 (VR (own []) w []) avs us) : Calls P f us.toArray w fun e w' => e = .returned (.bool bb) ∧ Below w.heap.size w w' := by
  refine (h [] w us.toArray ⟨rfl, fun _ _ _ h => by simp at h, fun _ _ _ _ _ h => by simp at h⟩ hv.vrs).mono fun e w' => ?_
  rintro ⟨o, H', S', ⟨rfl, rfl⟩, ho, hh, hx⟩
  cases ho with
  | ret hb =>
    cases hb
    exact ⟨rfl, hx.os, hx.tape, hx.output, hx.stp.size, fun k hk => (hx.stp.old k hk (by rintro ⟨i, s, hs, _⟩; simp at hs)).2⟩
end
end Go.Av

/-
  The range of a whole number that comes in.
-/
namespace Go.Av
theorem u8_w {i : Int} (h : (Lit.int .u8 i).wf = true) : 0 ≤ i ∧ i ≤ 255 := by
  simp only [Lit.wf, Bool.and_eq_true, decide_eq_true_eq] at h
  exact ⟨h.1, h.2⟩
theorem u16_w {i : Int} (h : (Lit.int .u16 i).wf = true) : 0 ≤ i ∧ i ≤ 65535 := by
  simp only [Lit.wf, Bool.and_eq_true, decide_eq_true_eq] at h
  exact ⟨h.1, h.2⟩
theorem u32_w {i : Int} (h : (Lit.int .u32 i).wf = true) : 0 ≤ i ∧ i ≤ 4294967295 := by
  simp only [Lit.wf, Bool.and_eq_true, decide_eq_true_eq] at h
  exact ⟨h.1, h.2⟩
theorem i64_w {i : Int} (h : (Lit.int .i64 i).wf = true) : -9223372036854775808 ≤ i ∧ i ≤ 9223372036854775807 := by
  simp only [Lit.wf, Bool.and_eq_true, decide_eq_true_eq] at h
  exact ⟨h.1, h.2⟩
end Go.Av

/-
  The things that are done between two ends, once they are read.
-/
namespace Go.Av
open Go.Proofs
set_option linter.unusedVariables false

theorem dos_dec {a : AV} (h : CellOk Try.prog 4 69 a) : ∃ l : List DoR, a = .pl (l.map eDoR) := by
  obtain ⟨rows, rfl, _, h3⟩ := cell_sl (SlI.ud (P := Try.prog) (t := 69)) (by kernel_rfl : cellTys Try.prog 4 78 = some [5, 4, 5, 23]) h
  obtain ⟨l, rfl⟩ := rows_map (e := eDoR) fun r hr => by
    have h := h3 r hr
    obtain ⟨a1, r, rfl, h1, h⟩ := row_cons h
    obtain ⟨a2, r, rfl, h2, h⟩ := row_cons h
    obtain ⟨a3, r, rfl, h3, h⟩ := row_cons h
    obtain ⟨a4, r, rfl, h4, h⟩ := row_cons h
    obtain rfl := row_nil h
    obtain ⟨c1, rfl⟩ := cell_byte (UdI.ud (P := Try.prog) (t := 5)) h1
    obtain ⟨c2, rfl⟩ := cell_bool (UdI.ud (P := Try.prog) (t := 4)) h2
    obtain ⟨c3, rfl⟩ := cell_byte (UdI.ud (P := Try.prog) (t := 5)) h3
    obtain ⟨c4, rfl⟩ := cell_bytes (SlI.ud (P := Try.prog) (t := 23)) (UdI.ud (P := Try.prog)) h4
    exact ⟨⟨c1, c2, c3, c4⟩, rfl⟩
  exact ⟨l, rfl⟩
end Go.Av

