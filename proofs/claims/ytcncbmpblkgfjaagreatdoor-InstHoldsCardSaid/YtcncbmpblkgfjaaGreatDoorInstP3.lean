/- Parts of the proof: rules for an abstract memory, plain laws, and walks through the program. -/
import Derived.Test.YtcncbmpblkgfjaaGreatDoorInstP0
import Derived.Test.YtcncbmpblkgfjaaGreatDoorInstP2
set_option linter.unusedVariables false
set_option linter.unusedSimpArgs false
namespace Go.Av
open Go.Proofs
set_option maxRecDepth 10000
set_option linter.unusedSimpArgs false
set_option linter.unusedVariables false
structure LS where
  acc : List Int
  x : Nat
set_option maxHeartbeats 0 in
theorem words_list (f : Nat → Bool) (H : Heap) : ACT Tryz.prog KD 143 [.agg (eWn (wd f))] H (Ret (.pl ((setl f).map eInt)) H) := by
  have hbel : ∀ (n : Nat) (g m : Nat) (l : List Int), ∀ o ∈ [AObj.mk 0 4 [eWn (wd f)], AObj.mk g 1 (l.map eInt)], ∀ r ∈ o.rows, AV.bels n r = true := by
    intro n g m l o ho r hr
    simp only [List.mem_cons, List.not_mem_nil, or_false] at ho
    rcases ho with rfl | rfl
    · simp only [List.mem_singleton] at hr; subst hr; exact eWn_bels _ _
    · exact ints_bel _ _ r hr
  refine ACT.body (N := 27) [.tmp 2] Tryz.func143 rfl rfl rfl (Nat.le_of_ble_eq_true rfl) fun B hB => ?_
  repeat (refine aw_seq ?_)
  refine aw_region ?_
  refine ao2 (by rintro _ ⟨⟩; decide) (o_boxL (sz := 4) (v := .agg _) rfl rfl rfl (eWn_len _) (by decide) rfl) ?_
  refine Z73 ?_
  refine Z1x ?_
  repeat (first | refine then_nrm ?_ | refine aw_seq ?_)
  refine Z2p ?_
  repeat (first | refine then_nrm ?_ | refine aw_seq ?_)
  refine aw_ghostL (k := 1) 3 1 rfl (by decide) rfl ?_
  refine aw_region ?_
  refine Z74 ?_
  refine Z33 ?_
  refine Z75 ?_
  repeat (first | refine then_nrm ?_ | refine aw_block ?_)
  refine aw_loop (G := Nat) (fun i => i ≤ 4) (fun i => [(KT, KD.av), (3, .sl (Lid H.length 1) (setN f i).length 0 (setN f i).length (setN f i).length), (6, .agg (eWn (wd f))), (7, .int .i64 (i : Int))]) (fun i => H ++ [⟨0, 4, [eWn (wd f)]⟩, ⟨(setN f i).length, 1, (setN f i).map eInt⟩]) (fun i => 4 - i) 0 (Nat.zero_le _) (by repeat (first | exact Sub.nil | refine Sub.cons (by rfl) ?_)) (Fit.refl _ _) ?_
  intro i hi
  repeat (refine aw_seq ?_)
  refine Z36 ?_
  repeat (first | refine then_nrm ?_ | refine aw_seq ?_)
  refine aw_cond rfl (fun hc => ?_) (fun hc => ?_)
  · have hi4 : i < 4 := by simp at hc; omega
    have hcell : (eWn (wd f))[((i : Nat) : Int).toNat * 1]? = some (.int .u64 ((wd f i : Nat) : Int)) := by show (eWn (wd f))[i * 1]? = _; rw [Nat.mul_one]; exact eWn_get _ hi4
    have hstep := setN_step f i
    have hslen := setN_len f (i + 1)
    repeat (first | refine then_nrm ?_ | refine aw_seq ?_ | refine aw_block ?_ | refine aw_skip ?_)
    refine Zv ?_
    refine ao1 (by decide) (o_index1 (sz := 1) (v := .int .u64 _) rfl rfl (by omega) (by omega) hcell) ?_
    refine Zz ?_
    repeat (first | refine then_nrm ?_ | refine aw_block ?_)
    refine aw_loop (G := LS) (fun s => s.x < 18446744073709551616 ∧ s.acc ++ (bl s.x).map (fun j : Nat => ((64 * i + j : Nat) : Int)) = setN f (i + 1)) (fun s => [(KT, KD.av), (3, .sl (Lid H.length 1) s.acc.length 0 s.acc.length s.acc.length), (4, .int .i64 (i : Int)), (5, .int .u64 (s.x : Int)), (6, .agg (eWn (wd f))), (7, .int .i64 (i : Int))]) (fun s => H ++ [⟨0, 4, [eWn (wd f)]⟩, ⟨s.acc.length, 1, s.acc.map eInt⟩]) (fun s => s.x) ⟨setN f i, wd f i⟩ ⟨wd_lt f i, hstep.symm⟩ (by repeat (first | exact Sub.nil | refine Sub.cons (by rfl) ?_)) (Fit.refl _ _) ?_
    rintro ⟨acc, x⟩ ⟨hx64, hacc⟩
    simp only at hx64 hacc ⊢
    have hal : acc.length ≤ 256 := by
      have := congrArg List.length hacc
      rw [List.length_append] at this
      omega
    repeat (refine aw_seq ?_)
    refine Z76 ?_
    repeat (refine then_nrm ?_)
    refine aw_cond rfl (fun hc => ?_) (fun hc => ?_)
    · have hx0 : x ≠ 0 := by simp at hc; omega
      have hb := bl_step hx0 hx64
      have hlt := and_pred_lt hx0
      obtain ⟨hk, _⟩ := low_bit hx0 hx64
      repeat (first | refine then_nrm ?_ | refine aw_seq ?_ | refine aw_block ?_ | refine aw_skip ?_)
      refine Z79 ?_
      refine ao1 (by decide) (o_mul (r := ((64 * i : Nat) : Int)) rfl rfl (by rw [show (64 : Int) * (i : Int) = ((64 * i : Nat) : Int) by omega]; exact wrap64_ok (by omega) (by omega))) ?_
      refine Z6 ?_
      refine ao2 (by rintro _ ⟨⟩; decide) (V2.callT (bits_TZ x hx64 _) rfl rfl) ?_
      refine ao1 (by decide) (o_add (r := ((64 * i + Lib.ctz 64 x : Nat) : Int)) rfl rfl (by rw [show ((64 * i : Nat) : Int) + ((Lib.ctz 64 x : Nat) : Int) = ((64 * i + Lib.ctz 64 x : Nat) : Int) by omega]; exact wrap64_ok (by omega) (by omega))) ?_
      refine Z7a ?_
      refine Z7e ?_
      rw [show (acc.map eInt).take acc.length = acc.map eInt from List.take_of_length_le (by simp)]
      repeat (first | refine then_nrm ?_ | refine blk_nrm ?_)
      refine Z1o ?_
      refine ao1 (by decide) (o_sub (r := ((x - 1 : Nat) : Int)) rfl rfl (u64_pred x hx0 hx64)) ?_
      refine ao1 (by decide) (o_and (r := ((x &&& (x - 1) : Nat) : Int)) rfl rfl (u64_and _ _ hx64 (by omega))) ?_
      refine Z2 ?_
      repeat (refine then_nrm ?_)
      refine ⟨⟨acc ++ [((64 * i + Lib.ctz 64 x : Nat) : Int)], x &&& (x - 1)⟩, hlt, ⟨by simp only; omega, ?_⟩, by simp only [List.length_append, List.length_cons, List.length_nil]; exact (by repeat (first | exact Sub.nil | refine Sub.cons (by rfl) ?_)), Fit.loc hB (by simp only [List.length_append, List.length_cons, List.length_nil, List.map_append, List.map_cons, List.map_nil]; rfl) (by repeat (first | exact EBel.nil | refine EBel.cons (by first | rfl | (simp [AV.bel, AV.bels, Lid]; done)) ?_)) (hbel _ _ 0 _)⟩
      simp only
      rw [← hacc, hb, List.map_cons, List.append_assoc]
      rfl
    · have hx0 : x = 0 := by simp at hc; omega
      subst hx0
      rw [bl_zero, List.map_nil, List.append_nil] at hacc
      subst hacc
      repeat (first | refine then_nrm ?_ | refine blk_nrm ?_ | refine then_brk ?_ | refine blk_hit ?_ | refine aw_exit ?_)
      refine Z3i ?_
      repeat (refine then_nrm ?_)
      exact ⟨i + 1, by omega, by omega, (by repeat (first | exact Sub.nil | refine Sub.cons (by rfl) ?_)), Fit.refl _ _⟩
  · have : i = 4 := by simp at hc; omega
    subst this
    rw [setN_four]
    repeat (first | refine then_nrm ?_ | refine then_brk ?_ | refine blk_hit ?_ | refine aw_seq ?_ | refine aw_exit ?_)
    refine Z7f ?_
    repeat (refine then_nrm ?_)
    refine aw_freezeL (ys := (setl f).map eInt) 2 rfl rfl rfl rfl (by rw [List.drop_zero, List.take_of_length_le (by simp)]) (by simp) (ints_bel 0 _) ?_
    exact Z7g
theorem set_Join_1 (f g : Nat → Bool) (k : Nat) (H : Heap) : AC Tryz.prog 133 [.int .u64 (wd f k : Int), .int .u64 (wd g k : Int)] H (Ret (.int .u64 ((wd (fun n => f n || g n) k : Nat) : Int)) H) := by
  refine AC.body (N := 8) [.tmp 4] Tryz.func133 rfl rfl rfl (Nat.le_of_ble_eq_true rfl) fun B hB => ?_
  repeat (refine aw_seq ?_)
  refine Z3 ?_
  repeat (first | refine then_nrm ?_ | refine aw_seq ?_)
  refine Z1o ?_
  refine ao1 (by decide) (o_or (r := ((wd (fun n => f n || g n) k : Nat) : Int)) rfl rfl (by rw [u64_or _ _ (wd_lt _ _) (wd_lt _ _), wd_or])) ?_
  refine Z2 ?_
  repeat (first | refine then_nrm ?_ | refine aw_ret ?_)
  exact Z7
theorem set_Less_1 (f g : Nat → Bool) (k : Nat) (H : Heap) : AC Tryz.prog 90 [.int .u64 (wd f k : Int), .int .u64 (wd g k : Int)] H (Ret (.int .u64 ((wd (fun n => f n && !g n) k : Nat) : Int)) H) := by
  refine AC.body (N := 8) [.tmp 4] Tryz.func90 rfl rfl rfl (Nat.le_of_ble_eq_true rfl) fun B hB => ?_
  repeat (refine aw_seq ?_)
  refine Z3 ?_
  repeat (first | refine then_nrm ?_ | refine aw_seq ?_)
  refine Z1o ?_
  refine ao1 (by decide) (o_andNot (r := ((wd (fun n => f n && !g n) k : Nat) : Int)) rfl rfl (u64_andNot _ _ _)) ?_
  refine Z2 ?_
  repeat (first | refine then_nrm ?_ | refine aw_ret ?_)
  exact Z7
set_option maxHeartbeats 0 in
theorem set_put (g : Nat) [FnI Tryz.prog g] (op : Bool → Bool → Bool) (hdo : ∀ (f h : Nat → Bool) (k : Nat) (H : Heap), AC Tryz.prog g [.int .u64 (wd f k : Int), .int .u64 (wd h k : Int)] H (Ret (.int .u64 ((wd (fun n => op (f n) (h n)) k : Nat) : Int)) H))
    (a b : List Int) (ha : a.length ≤ 9223372036854775807) (hb : b.length ≤ 9223372036854775807) (H : Heap) : ACT Tryz.prog KD 89 [.pl (a.map eInt), .pl (b.map eInt), .fn (.func g) [] []] H (Ret (.pl ((setop op a b).map eInt)) H) := by
  refine ACT.body (N := 36) [.tmp 6] Tryz.func89 rfl rfl rfl (Nat.le_of_ble_eq_true rfl) fun B hB => ?_
  repeat (refine aw_seq ?_)
  refine Z2p ?_
  repeat (first | refine then_nrm ?_ | refine aw_seq ?_)
  refine Z6d ?_
  refine Z6e ?_
  refine Z62 ?_
  refine Z61 ?_
  refine Z51 ?_
  refine Z5r ?_
  refine Z5r ?_
  refine Z5u ?_
  refine Z5v ?_
  refine Z6f ?_
  repeat (first | refine then_nrm ?_ | refine aw_seq ?_)
  refine Z56 ?_
  repeat (refine then_nrm ?_)
  refine aw_cond rfl (fun hc => ?_) (fun hc => ?_)
  · have hs : (sok a && sok b) = false := by cases h : (sok a && sok b) <;> simp_all
    repeat (refine aw_seq ?_)
    refine Z2p ?_
    repeat (refine then_nrm ?_)
    refine aw_nslpl 6 rfl ?_
    refine aw_ret ?_
    rw [show setop op a b = [] by rw [setop, hs]; rfl]
    exact Z7
  have hs : sok a = true ∧ sok b = true := by simpa using hc
  rw [show setop op a b = setl (fun n => op (inl a n) (inl b n)) by rw [setop, hs.1, hs.2]; rfl, pof_ok hs.1, pof_ok hs.2]
  repeat (first | refine then_nrm ?_ | refine aw_seq ?_ | refine aw_skip ?_)
  refine Zv ?_
  refine ao_nil ?_
  repeat (first | refine then_nrm ?_ | refine aw_block ?_)
  refine aw_loop (G := Nat) (fun k => k ≤ 4) (fun k => [(KT, KD.av), (2, .fn (.func g) [] []), (7, .pt (Lid H.length 0) 0 0 0), (8, .pt (Lid H.length 1) 0 0 0), (20, .int .i64 (k : Int))]) (fun k => H ++ [⟨0, 4, [eWn (fun j => if j < k then wd (fun n => op (inl a n) (inl b n)) j else wd (inl a) j)]⟩, ⟨0, 4, [eWn (wd (inl b))]⟩]) (fun k => 4 - k) 0 (Nat.zero_le _) (by repeat (first | exact Sub.nil | refine Sub.cons (by rfl) ?_)) (.inl (by simp)) ?_
  intro k hk
  repeat (refine aw_seq ?_)
  refine Z36 ?_
  repeat (first | refine then_nrm ?_ | refine aw_seq ?_)
  refine aw_cond rfl (fun hc => ?_) (fun hc => ?_)
  · have hk4 : k < 4 := by simp at hc; omega
    have hx : (eWn (fun j => if j < k then wd (fun n => op (inl a n) (inl b n)) j else wd (inl a) j))[0 + k * 1]? = some (.int .u64 ((wd (inl a) k : Nat) : Int)) := by
      rw [Nat.zero_add, Nat.mul_one, eWn_get _ hk4]; simp
    have hy : (eWn (wd (inl b)))[0 + k * 1]? = some (.int .u64 ((wd (inl b) k : Nat) : Int)) := by rw [Nat.zero_add, Nat.mul_one]; exact eWn_get _ hk4
    have hset : (eWn (fun j => if j < k then wd (fun n => op (inl a n) (inl b n)) j else wd (inl a) j)).take (0 + k * 1) ++ [AV.int .u64 ((wd (fun n => op (inl a n) (inl b n)) k : Nat) : Int)] ++ (eWn (fun j => if j < k then wd (fun n => op (inl a n) (inl b n)) j else wd (inl a) j)).drop (0 + k * 1 + 1) = eWn (fun j => if j < k + 1 then wd (fun n => op (inl a n) (inl b n)) j else wd (inl a) j) := by
      rw [Nat.zero_add, Nat.mul_one, eWn_set _ hk4]
      refine eWn_congr fun j _ => ?_
      by_cases e : j = k
      · subst e; simp
      · rw [if_neg e]
        by_cases e2 : j < k
        · rw [if_pos e2, if_pos (by omega)]
        · rw [if_neg e2, if_neg (by omega)]
    repeat (first | refine then_nrm ?_ | refine aw_seq ?_ | refine aw_block ?_ | refine aw_skip ?_)
    refine Z13 ?_
    repeat (refine then_nrm ?_)
    refine aw_drawP mixed (some 10) 2 ?_
    refine Z6h ?_
    refine Z5y ?_
    refine aq0 1 rfl (by decide +kernel) (by decide) (fun _ => o_move (v := .fn _ _ _) rfl) ?_
    refine Z7h ?_
    refine aqp 3 rfl (by decide +kernel) (by decide) (fun G => w_indexArrN rfl (lk rfl rfl) rfl rfl hk4) ?_
    refine aqp 4 rfl (by decide +kernel) (by decide) (fun G => w_load1 (v := .int .u64 _) rfl (lk rfl rfl) rfl rfl hx) ?_
    refine Z1a ?_
    refine aqp 6 rfl (by decide +kernel) (by decide) (fun G => w_indexArrN rfl (lk rfl rfl) rfl rfl hk4) ?_
    refine aqp 7 rfl (by decide +kernel) (by decide) (fun G => w_load1 (v := .int .u64 _) rfl (lk rfl rfl) rfl rfl hy) ?_
    refine aq02 8 rfl (by decide +kernel) (by decide) (fun _ => V2.callv (hdo (inl a) (inl b) k _) rfl rfl) ?_
    refine aqp 9 rfl (by decide +kernel) (by decide) (fun G => w_indexArrN rfl (lk rfl rfl) rfl rfl hk4) ?_
    refine aqs 10 rfl (by decide +kernel) (by exact fun _ => ⟨_, rfl⟩) (by rintro _ ⟨⟩) (w_storeP (sz := 1) (v := .int .u64 _) (r' := eWn (fun j => if j < k + 1 then wd (fun n => op (inl a n) (inl b n)) j else wd (inl a) j)) rfl rfl rfl rfl rfl rfl rfl rfl (by show _ ≤ 4; omega) hset) ?_
    refine Z5z ?_
    refine Z5w ?_
    repeat (first | refine then_nrm ?_ | refine blk_nrm ?_)
    refine Z3i ?_
    repeat (refine then_nrm ?_)
    exact ⟨k + 1, by omega, by omega, (by repeat (first | exact Sub.nil | refine Sub.cons (by rfl) ?_)), .refl _ _⟩
  · have : k = 4 := by simp at hc; omega
    subst this
    rw [show eWn (fun j => if j < 4 then wd (fun n => op (inl a n) (inl b n)) j else wd (inl a) j) = eWn (wd fun n => op (inl a n) (inl b n)) from eWn_congr fun j hj => if_pos hj]
    repeat (first | refine then_nrm ?_ | refine then_brk ?_ | refine blk_hit ?_ | refine aw_seq ?_ | refine aw_exit ?_)
    refine aw_region ?_
    refine Z74 ?_
    refine ao2 (by rintro _ ⟨⟩; decide) (V2.callT (words_list (fun n => op (inl a n) (inl b n)) _) rfl rfl) ?_
    refine Z2v ?_
    repeat (first | refine then_nrm ?_ | refine aw_ret ?_)
    exact Z7
theorem set_Join (a b : List Int) (ha : a.length ≤ 9223372036854775807) (hb : b.length ≤ 9223372036854775807) (H : Heap) : ACT Tryz.prog KD 81 [.pl (a.map eInt), .pl (b.map eInt)] H (Ret (.pl ((setop (· || ·) a b).map eInt)) H) := by
  refine ACT.body (N := 8) [.tmp 4] Tryz.func81 rfl rfl rfl (Nat.le_of_ble_eq_true rfl) fun B hB => ?_
  repeat (refine aw_seq ?_)
  refine Z2p ?_
  repeat (first | refine then_nrm ?_ | refine aw_seq ?_)
  refine Z6d ?_
  refine ao2 (by rintro _ ⟨⟩; decide) (V2.callT (set_put 133 (· || ·) (fun f h k H => set_Join_1 f h k H) a b ha hb _) rfl rfl) ?_
  refine Z2v ?_
  repeat (first | refine then_nrm ?_ | refine aw_ret ?_)
  exact Z7
theorem set_Less (a b : List Int) (ha : a.length ≤ 9223372036854775807) (hb : b.length ≤ 9223372036854775807) (H : Heap) : ACT Tryz.prog KD 40 [.pl (a.map eInt), .pl (b.map eInt)] H (Ret (.pl ((setop (fun x y => x && !y) a b).map eInt)) H) := by
  refine ACT.body (N := 8) [.tmp 4] Tryz.func40 rfl rfl rfl (Nat.le_of_ble_eq_true rfl) fun B hB => ?_
  repeat (refine aw_seq ?_)
  refine Z2p ?_
  repeat (first | refine then_nrm ?_ | refine aw_seq ?_)
  refine Z6d ?_
  refine ao2 (by rintro _ ⟨⟩; decide) (V2.callT (set_put 90 (fun x y => x && !y) (fun f h k H => set_Less_1 f h k H) a b ha hb _) rfl rfl) ?_
  refine Z2v ?_
  repeat (first | refine then_nrm ?_ | refine aw_ret ?_)
  exact Z7
end Go.Av

namespace Go.Av
open Go.Proofs
set_option maxRecDepth 10000
set_option linter.unusedSimpArgs false
set_option linter.unusedVariables false
end Go.Av

namespace Go.Av
open Go.Proofs
set_option maxRecDepth 10000
set_option linter.unusedSimpArgs false
set_option linter.unusedVariables false
theorem set_Meet_1 (f g : Nat → Bool) (k : Nat) (H : Heap) : AC Tryz.prog 161 [.int .u64 (wd f k : Int), .int .u64 (wd g k : Int)] H (Ret (.int .u64 ((wd (fun n => f n && g n) k : Nat) : Int)) H) := by
  refine AC.body (N := 8) [.tmp 4] Tryz.func161 rfl rfl rfl (Nat.le_of_ble_eq_true rfl) fun B hB => ?_
  repeat (refine aw_seq ?_)
  refine Z3 ?_
  repeat (first | refine then_nrm ?_ | refine aw_seq ?_)
  refine Z1o ?_
  refine ao1 (by decide) (o_and (r := ((wd (fun n => f n && g n) k : Nat) : Int)) rfl rfl (by rw [u64_and _ _ (wd_lt _ _) (wd_lt _ _), wd_and])) ?_
  refine Z2 ?_
  repeat (first | refine then_nrm ?_ | refine aw_ret ?_)
  exact Z7
theorem set_Meet (a b : List Int) (ha : a.length ≤ 9223372036854775807) (hb : b.length ≤ 9223372036854775807) (H : Heap) : ACT Tryz.prog KD 118 [.pl (a.map eInt), .pl (b.map eInt)] H (Ret (.pl ((setop (· && ·) a b).map eInt)) H) := by
  refine ACT.body (N := 8) [.tmp 4] Tryz.func118 rfl rfl rfl (Nat.le_of_ble_eq_true rfl) fun B hB => ?_
  repeat (refine aw_seq ?_)
  refine Z2p ?_
  repeat (first | refine then_nrm ?_ | refine aw_seq ?_)
  refine Z6d ?_
  refine ao2 (by rintro _ ⟨⟩; decide) (V2.callT (set_put 161 (· && ·) (fun f h k H => set_Meet_1 f h k H) a b ha hb _) rfl rfl) ?_
  refine Z2v ?_
  repeat (first | refine then_nrm ?_ | refine aw_ret ?_)
  exact Z7
end Go.Av

namespace Go.Av
section
variable {P : Program} {N : Nat} {B : Base} {Q : Post} {env : Env} {H H0 L : Heap} {ty : TypeId} {ops : Array Oper} {rest : List Oper}
end
def JoinG (B : Base) {G : Type} (I : G → Prop) (E : G → Env) (M : G → Heap) (Q : Post) : Post
  | .nrm, e, H => ∃ g, I g ∧ Sub (E g) e ∧ Fit B (E g) H (M g)
  | x, e, H => Q x e H
section
variable {P : Program} {N : Nat} {B : Base} {Q : Post} {env : Env} {H : Heap}
theorem aw_joinG {x : Code} {G : Type} (I : G → Prop) (E : G → Env) (M : G → Heap) (h : AWp P N B x (JoinG B I E M Q) env H) (k : ∀ g, I g → Q .nrm (E g) (M g)) : AWp P N B x Q env H := by
  intro S a w hc hb
  refine wp_mono (h S a w hc hb) ?_
  rintro e a' w' ⟨ax, env', H', S', hj, r, c', k'⟩
  cases ax with
  | nrm =>
    cases r
    obtain ⟨g, hi, hs, hf⟩ := hj
    obtain ⟨S2, c2, k2⟩ := (c'.sub hs).fit k' hf
    exact ⟨.nrm, E g, M g, S2, k g hi, .nrm, c2, k2⟩
  | brk i => exact ⟨_, env', H', S', hj, r, c', k'⟩
  | ret => exact ⟨_, env', H', S', hj, r, c', k'⟩
  | pan v => exact ⟨_, env', H', S', hj, r, c', k'⟩
theorem joinG_nrm {G : Type} {I : G → Prop} {E : G → Env} {M : G → Heap} (g : G) (hi : I g) (h1 : Sub (E g) env) (h2 : Fit B (E g) H (M g)) : JoinG B I E M Q .nrm env H := ⟨g, hi, h1, h2⟩
end
end Go.Av

namespace Go.Av
section
variable {P : Program} {N : Nat} {env : Env} {H : Heap} {ty : TypeId}
theorem o_tailp {t e : TypeId} {x : Operand} {lo : Option Operand} {xs ys : List (List AV)} {l sz : Nat} {agg : Bool} [hu : SlI P t e] [TyI P e agg sz] (hx : aev env x = .pl xs) (hl : Bd env lo 0 l) (h1 : l ≤ xs.length) (hsz : ∀ r ∈ xs, r.length = sz) (hy : xs.drop l = ys) :
    V1 P N (.slice t x lo Option.none Option.none) ty env H (.pl ys) := by
  have := o_slicep (P := P) (N := N) (env := env) (H := H) (ty := ty) (t := t) (e := e) (agg := agg) (h := xs.length) hx hl .none h1 (Nat.le_refl _) hsz
  rwa [List.take_of_length_le (by simp), hy] at this
theorem o_headp {t e : TypeId} {x : Operand} {hi : Option Operand} {xs ys : List (List AV)} {h sz : Nat} {agg : Bool} [hu : SlI P t e] [TyI P e agg sz] (hx : aev env x = .pl xs) (hh : Bd env hi xs.length h) (h1 : h ≤ xs.length) (hsz : ∀ r ∈ xs, r.length = sz) (hy : xs.take h = ys) :
    V1 P N (.slice t x Option.none hi Option.none) ty env H (.pl ys) := by
  have := o_slicep (P := P) (N := N) (env := env) (H := H) (ty := ty) (t := t) (e := e) (agg := agg) (l := 0) (h := h) hx .none hh (Nat.zero_le _) h1 hsz
  rwa [List.drop_zero, Nat.sub_zero, hy] at this
end
end Go.Av

namespace Go.Av
open Go.Proofs
set_option maxRecDepth 10000
set_option linter.unusedSimpArgs false
set_option linter.unusedVariables false
theorem graph_part (k u : Int) (H : Heap) : AC Tryz.prog 101 [.int .i64 k, .int .i64 u] H (Ret (.bool (gpart k u)) H) := by
  refine AC.body (N := 23) [.tmp 4] Tryz.func101 rfl rfl rfl (Nat.le_of_ble_eq_true rfl) fun B hB => ?_
  repeat (refine aw_seq ?_)
  refine Za ?_
  repeat (first | refine then_nrm ?_ | refine aw_seq ?_)
  refine Zv ?_
  refine ao_nil ?_
  repeat (first | refine then_nrm ?_ | refine aw_seq ?_ | refine aw_block ?_)
  refine Z3q ?_
  repeat (refine then_nrm ?_)
  refine aw_cond rfl (fun hc => ?_) (fun hc => ?_)
  · have h1 : k = 1 := by simpa using hc
    repeat (refine aw_seq ?_)
    refine Zv ?_
    refine Zx ?_
    repeat (first | refine then_nrm ?_ | refine then_ret ?_ | refine blk_ret ?_ | refine aw_ret ?_)
    rw [show gpart k u = (u == 0) by simp [gpart, h1]; rfl]
    exact Z7
  have h1 : ¬ k = 1 := by simpa using hc
  repeat (refine aw_seq ?_)
  refine Z3q ?_
  repeat (refine then_nrm ?_)
  refine aw_cond rfl (fun hc => ?_) (fun hc => ?_)
  · have h2 : k = 2 := by simpa using hc
    repeat (refine aw_seq ?_)
    refine aw_out 4 (.bool (gpart k u)) ?_ ?_
    · refine Z4a ?_
      refine ao_split rfl rfl (fun hg2 => ?_) (fun hg2 => ?_)
      · refine Z29 ?_
        refine Zh ?_
        exact ao_nil (Out.mk (by (refine congrArg AV.bool ?_; (simp only [gpart] at *; (simp_all; done)))) (by repeat (first | exact SubX.refl _ _ | refine SubX.at ?_ | refine SubX.put rfl ?_)))
      · refine Z4b ?_
        refine Zn ?_
        exact ao_nil (Out.mk (by (refine congrArg AV.bool ?_; (simp only [gpart] at *; grind))) (by repeat (first | exact SubX.refl _ _ | refine SubX.at ?_ | refine SubX.put rfl ?_)))
    repeat (first | refine then_nrm ?_ | refine then_ret ?_ | refine blk_ret ?_ | refine aw_ret ?_)
    exact Z7
  have h2 : ¬ k = 2 := by simpa using hc
  repeat (refine aw_seq ?_)
  refine Z3q ?_
  repeat (refine then_nrm ?_)
  refine aw_joinQ ([(1, .int .i64 u), (18, .bool (decide (k = 3) || decide (k = 4)))]) (H ++ []) ?_ ?_
  · repeat (fail)
    refine aw_cond rfl (fun hc => ?_) (fun hc => ?_)
    · have h3 : k = 3 := by simpa using hc
      repeat (refine aw_skip ?_)
      refine join_nrm ?_ (.inl rfl)
      rw [show (decide (k = 3) || decide (k = 4)) = (k == 3) by simp [h3]]
      exact (by repeat (first | exact Sub.nil | refine Sub.cons (by rfl) ?_))
    · have h3 : ¬ k = 3 := by simpa using hc
      refine Z3q ?_
      refine join_nrm ?_ (.inl rfl)
      rw [show (decide (k = 3) || decide (k = 4)) = (k == 4) by simp [h3]; rfl]
      exact (by repeat (first | exact Sub.nil | refine Sub.cons (by rfl) ?_))
  repeat (refine then_nrm ?_)
  refine aw_cond rfl (fun hc => ?_) (fun hc => ?_)
  · have h3 : k = 3 ∨ k = 4 := by simpa using hc
    repeat (refine aw_seq ?_)
    refine Zv ?_
    refine Zx ?_
    repeat (first | refine then_nrm ?_ | refine then_ret ?_ | refine blk_ret ?_ | refine aw_ret ?_)
    rw [show gpart k u = (u == 2) by simp only [gpart]; rw [Bool.eq_iff_iff]; simp; omega]
    exact Z7
  · have h3 : ¬ (k = 3 ∨ k = 4) := by simpa using hc
    repeat (first | refine then_nrm ?_ | refine blk_nrm ?_ | refine aw_seq ?_ | refine aw_skip ?_)
    refine Za ?_
    repeat (first | refine then_nrm ?_ | refine aw_ret ?_)
    rw [show gpart k u = false by simp only [gpart]; rw [Bool.eq_false_iff]; simp; omega]
    exact Z7
def uThing (t : Thing) : List Value := [.int .i64 t.kind, .int .i64 t.up, .string t.tag]
theorem eqThing_run (a b : Thing) (w : World) : (Op.equalIn 10000 72 (.agg (uThing a).toArray) (.agg (uThing b).toArray)).run Tryz.prog w = .ok (decide (a = b)) w := by
  have hS : Tryz.prog.underlying 72 = some (.struct (Tryz.prog.fieldsOf 72)) := by kernel_rfl
  have hp : Tryz.prog.stoodInHeld 72 = false := by kernel_rfl
  rw [show (10000 : Nat) = 9999 + 1 from rfl, run_equalIn_agg w 9999 72 _ _ hS hp]
  have u3 := Tryz.underlying3
  have a3 := Tryz.isAgg3
  have z3 := Tryz.sizeOf3
  simp only [uThing, Program.fieldsOf, Tryz.underlying72]
  go_simp
  have ht : a.tag.toList = b.tag.toList ↔ a.tag = b.tag := by have := str_eq a.tag b.tag; rw [Bool.eq_iff_iff] at this; simpa using this
  simp only [ht]
  cases a; cases b
  simp only [Thing.mk.injEq]
  (repeat' split) <;> simp_all
theorem things_len (g : List Thing) : ∀ r ∈ g.map eThing, r.length = 3 := rows_len (e := eThing) (n := 3) (fun _ => rfl) g
theorem things_bel (n : Nat) (g : List Thing) : ∀ r ∈ g.map eThing, AV.bels n r = true := rows_bel (e := eThing) (fun _ => rfl) g
theorem gokB_get {g : List Thing} {i : Nat} {t : Thing} (h : g[i + 1]? = some t) : gokB g i = (decide (0 ≤ t.up) && decide (t.up ≤ (i : Int)) && gpart t.kind (kindAt g t.up.toNat) && tagok t.tag && (decide (t.tag = ⟨#[]⟩) || decide (t.kind = 2))) := by rw [gokB, h]
theorem gright_cons (t0 : Thing) (g1 : List Thing) : gright (t0 :: g1) = (decide (g1.length + 1 ≤ 256) && decide (t0 = thing0) && allI (gokB (t0 :: g1)) g1.length) := by
  simp [gright]
set_option maxHeartbeats 0 in
theorem graph_Right (g : List Thing) (H : Heap) (hl : g.length ≤ 9223372036854775807) : AC Tryz.prog 50 [.pl (g.map eThing)] H (Ret (.bool (gright g)) H) := by
  refine AC.body (N := 66) [.tmp 2] Tryz.func50 rfl rfl rfl (Nat.le_of_ble_eq_true rfl) fun B hB => ?_
  repeat (refine aw_seq ?_)
  refine Za ?_
  cases g with
  | nil =>
    repeat (first | refine then_nrm ?_ | refine aw_seq ?_)
    refine aw_out 19 (.bool true) ?_ ?_
    · refine Z5a ?_
      refine Zq ?_
      refine ao_split rfl rfl (fun hg3 => ?_) (fun hg3 => ?_)
      · refine Z2b ?_
        refine Z4q ?_
        exact Zu
      · exfalso; simp at hg3
    repeat (refine then_nrm ?_)
    refine aw_cond rfl (fun hc => ?_) (fun hc => ?_)
    · repeat (refine aw_seq ?_)
      refine Za ?_
      repeat (first | refine then_nrm ?_ | refine then_ret ?_ | refine aw_ret ?_)
      exact Z7
    · simp at hc
  | cons t0 g1 =>
    have hr : ((t0 :: g1).map eThing)[(0 : Int).toNat]? = some (eThing t0) := rfl
    repeat (first | refine then_nrm ?_ | refine aw_seq ?_)
    refine aw_out 19 (.bool (!(decide (g1.length + 1 ≤ 256) && decide (t0 = thing0)))) ?_ ?_
    · refine Z5a ?_
      refine Zq ?_
      refine ao_split rfl rfl (fun hg3 => ?_) (fun hg3 => ?_)
      · refine Z2b ?_
        refine Z4q ?_
        exact Z7i
      · refine Z7l ?_
        refine Z2d ?_
        refine Z26 ?_
        refine ao_split rfl rfl (fun hg8 => ?_) (fun hg8 => ?_)
        · refine Z4q ?_
          exact Z7i
        · refine Z7j ?_
          refine ao_y1 rfl rfl (by decide) (w_indexAddrp rfl rfl (by decide) hr rfl) ?_
          refine Z7m ?_
          refine ao_y1 rfl rfl (by decide) (V1.up (o_build (cs := [.int _ _, .int _ _, .str _]) rfl)) ?_
          refine ao_y1 rfl rfl (by decide) (o_neAgg (us := uThing t0) (vs := uThing thing0) rfl rfl rfl rfl (by kernel_rfl) (eqThing_run _ _)) ?_
          refine Zm ?_
          exact Z7i
    clear hr
    rw [gright_cons]
    repeat (refine then_nrm ?_)
    refine aw_cond rfl (fun hc => ?_) (fun hc => ?_)
    · have hno : (decide (g1.length + 1 ≤ 256) && decide (t0 = thing0)) = false := by simpa only [Bool.not_eq_true'] using hc
      rw [hno, Bool.false_and]
      repeat (refine aw_seq ?_)
      refine Za ?_
      repeat (first | refine then_nrm ?_ | refine then_ret ?_ | refine aw_ret ?_)
      exact Z7
    have hyes : (decide (g1.length + 1 ≤ 256) && decide (t0 = thing0)) = true := by simpa only [Bool.not_eq_false'] using hc
    rw [hyes, Bool.true_and]
    have hl2 : g1.length + 1 ≤ 256 := by simp at hyes; omega
    repeat (first | refine then_nrm ?_ | refine aw_seq ?_ | refine aw_skip ?_)
    refine Z2r ?_
    refine ao1 (by decide) (o_tailp (ys := g1.map eThing) rfl (Bd.some rfl rfl) (by simp) (things_len _) rfl) ?_
    refine Z34 ?_
    repeat (first | refine then_nrm ?_ | refine aw_block ?_)
    refine aw_loop (G := Nat) (fun i => i ≤ g1.length ∧ ∀ k, k < i → gokB (t0 :: g1) k = true) (fun i => [(0, .pl ((t0 :: g1).map eThing)), (21, .pl (g1.map eThing)), (22, .int .i64 ((g1.map eThing).length : Int)), (23, .int .i64 (i : Int))]) (fun _ => H ++ []) (fun i => g1.length - i) 0 ⟨Nat.zero_le _, fun k hk => by omega⟩ (by repeat (first | exact Sub.nil | refine Sub.cons (by rfl) ?_)) (Fit.refl _ _) ?_
    rintro i ⟨hi, hno⟩
    repeat (refine aw_seq ?_)
    refine Z36 ?_
    repeat (first | refine then_nrm ?_ | refine aw_seq ?_)
    refine aw_cond rfl (fun hc => ?_) (fun hc => ?_)
    · have hlt : i < g1.length := by simpa using hc
      obtain ⟨t, ht, htl⟩ := get_in hlt
      have hr := map_get eThing ht
      have hB2 := gokB_get (g := t0 :: g1) (i := i) (t := t) ht
      repeat (first | refine then_nrm ?_ | refine aw_seq ?_ | refine aw_block ?_ | refine aw_skip ?_)
      refine Z7o ?_
      refine Z7p ?_
      refine Z1 ?_
      refine Z7q ?_
      refine Z7s ?_
      have hno0 := hno
      clear hr htl ht hno hc
      by_cases hup : 0 ≤ t.up ∧ t.up ≤ (i : Int)
      · obtain ⟨u, hu, _⟩ := get_in (l := t0 :: g1) (k := t.up.toNat) (by simp only [List.length_cons]; omega)
        have hr1 := map_get eThing hu
        have hk : kindAt (t0 :: g1) t.up.toNat = u.kind := by rw [kindAt, hu]
        rw [hk] at hB2
        clear hu hk hyes hl
        repeat (first | refine then_nrm ?_ | refine aw_seq ?_)
        refine aw_of_out 64 (.bool (!gokB (t0 :: g1) i)) ?_ ?_
        · refine Z7u ?_
          refine Z7v ?_
          refine Z7w ?_
          refine Z7x ?_
          refine Z67 ?_
          refine aq_split (g := 31) rfl (fun hg3 => ?_) (fun hg3 => ?_)
          · refine Z7y ?_
            refine Z7z ?_
            refine Z80 ?_
            refine Z81 ?_
            refine Z82 ?_
            refine Z83 ?_
            refine Z84 ?_
            refine Z85 ?_
            refine Z86 ?_
            refine Z87 ?_
            refine Z88 ?_
            refine Z89 ?_
            refine Z8a ?_
            refine Z8b ?_
            refine Z8c ?_
            refine Z8d ?_
            refine Z8e ?_
            refine Z8f ?_
            refine Z8g ?_
            refine Z8h ?_
            refine Z8i ?_
            refine Z8j ?_
            refine Z8k ?_
            refine Z8l ?_
            refine Z8t ?_
            exact Z8u
          · refine Z8v ?_
            refine Z8w ?_
            refine Z8x ?_
            refine Z8y ?_
            refine Z8z ?_
            refine Z83 ?_
            refine aq_split (g := 37) rfl (fun hg9 => ?_) (fun hg9 => ?_)
            · refine Z84 ?_
              refine Z85 ?_
              refine Z86 ?_
              refine Z87 ?_
              refine Z88 ?_
              refine Z89 ?_
              refine Z8a ?_
              refine Z8b ?_
              refine Z8c ?_
              refine Z8d ?_
              refine Z8e ?_
              refine Z8f ?_
              refine Z8g ?_
              refine Z8h ?_
              refine Z8i ?_
              refine Z8j ?_
              refine Z8k ?_
              refine Z8l ?_
              refine Z8t ?_
              exact Z8u
            · refine aqyp (g := 37) 10 rfl (by decide +kernel) (by decide) rfl rfl (fun G => w_fieldAddr rfl (lk rfl rfl) rfl (by decide)) ?_
              refine aqyp (g := 37) 11 rfl (by decide +kernel) (by decide) rfl rfl (fun G => w_load1 (v := .int _ _) rfl (lk rfl rfl) rfl rfl rfl) ?_
              refine aqy0 (g := 37) 12 rfl (by decide +kernel) (by decide) rfl rfl (fun _ => o_move (v := .pl _) rfl) ?_
              refine aqyp (g := 37) 13 rfl (by decide +kernel) (by decide) rfl rfl (fun G => w_fieldAddr rfl (lk rfl rfl) rfl (by decide)) ?_
              refine aqyp (g := 37) 14 rfl (by decide +kernel) (by decide) rfl rfl (fun G => w_load1 (v := .int _ _) rfl (lk rfl rfl) rfl rfl rfl) ?_
              refine aqyp (g := 37) 15 rfl (by decide +kernel) (by decide) rfl rfl (fun G => w_indexAddrp rfl rfl hup.1 hr1 rfl) ?_
              refine aqyp (g := 37) 16 rfl (by decide +kernel) (by decide) rfl rfl (fun G => w_fieldAddrp rfl (by decide)) ?_
              refine aqyp (g := 37) 17 rfl (by decide +kernel) (by decide) rfl rfl (fun G => o_load1p (v := .int _ _) rfl hr1 rfl) ?_
              refine aqy02 (g := 37) 18 rfl (by decide +kernel) (by decide) rfl rfl (fun _ => V2.call (graph_part _ _ _) rfl) ?_
              refine aqy0 (g := 37) 19 rfl (by decide +kernel) (by decide) rfl rfl (fun _ => o_not rfl) ?_
              refine Z90 ?_
              refine Z8f ?_
              refine aq_split (g := 49) rfl (fun hg21 => ?_) (fun hg21 => ?_)
              · refine Z8g ?_
                refine Z8h ?_
                refine Z8i ?_
                refine Z8j ?_
                refine Z8k ?_
                refine Z8l ?_
                refine Z8t ?_
                exact Z91
              · refine aqyp (g := 49) 22 rfl (by decide +kernel) (by decide) rfl rfl (fun G => w_fieldAddr rfl (lk rfl rfl) rfl (by decide)) ?_
                refine aqyp (g := 49) 23 rfl (by decide +kernel) (by decide) rfl rfl (fun G => w_load1 (v := .str _) rfl (lk rfl rfl) rfl rfl rfl) ?_
                refine aqy02 (g := 49) 24 rfl (by decide +kernel) (by decide) rfl rfl (fun _ => V2.call (graph_Tag _ _) rfl) ?_
                refine aqy0 (g := 49) 25 rfl (by decide +kernel) (by decide) rfl rfl (fun _ => o_not rfl) ?_
                refine aq0 26 rfl (by decide +kernel) (by decide) (fun _ => o_pick_f (v := .bool _) rfl rfl) ?_
                refine Z8l ?_
                refine aq_split (g := 55) rfl (fun hg27 => ?_) (fun hg27 => ?_)
                · refine Z8t ?_
                  exact Z91
                · refine aqyp (g := 55) 28 rfl (by decide +kernel) (by decide) rfl rfl (fun G => w_fieldAddr rfl (lk rfl rfl) rfl (by decide)) ?_
                  refine aqyp (g := 55) 29 rfl (by decide +kernel) (by decide) rfl rfl (fun G => w_load1 (v := .str _) rfl (lk rfl rfl) rfl rfl rfl) ?_
                  refine aqy0 (g := 55) 30 rfl (by decide +kernel) (by decide) rfl rfl (fun _ => o_sned rfl rfl) ?_
                  refine aqy0 (g := 55) 31 rfl (by decide +kernel) (by decide) rfl rfl (fun _ => o_move (v := .bool _) rfl) ?_
                  refine aq_split (g := 59) rfl (fun hg31 => ?_) (fun hg31 => ?_)
                  · refine aqyp (g := 59) 32 rfl (by decide +kernel) (by decide) rfl rfl (fun G => w_fieldAddr rfl (lk rfl rfl) rfl (by decide)) ?_
                    refine aqyp (g := 59) 33 rfl (by decide +kernel) (by decide) rfl rfl (fun G => w_load1 (v := .int _ _) rfl (lk rfl rfl) rfl rfl rfl) ?_
                    refine aqy0 (g := 59) 34 rfl (by decide +kernel) (by decide) rfl rfl (fun _ => o_ne rfl rfl) ?_
                    refine aqy0 (g := 55) 35 rfl (by decide +kernel) (by decide) rfl rfl (fun _ => o_pick_t (v := .bool _) rfl rfl) ?_
                    refine Z92 ?_
                    exact aa_done (by decide +kernel) (by exact fun _ => ⟨_, rfl⟩) (Out.mk (by (refine congrArg AV.bool ?_; (rw [hB2]; clear hB hr1 hB2; grind))) (by repeat (first | exact SubX.refl _ _ | refine SubX.at ?_ | refine SubX.put rfl ?_)))
                  · refine aqn0 (g := 59) 32 rfl (by decide +kernel) (by decide) rfl rfl rfl ?_
                    refine aqn0 (g := 59) 33 rfl (by decide +kernel) (by decide) rfl rfl rfl ?_
                    refine aqn0 (g := 59) 34 rfl (by decide +kernel) (by decide) rfl rfl rfl ?_
                    refine aqy0 (g := 55) 35 rfl (by decide +kernel) (by decide) rfl rfl (fun _ => o_pick_f (v := .bool _) rfl rfl) ?_
                    refine Z92 ?_
                    exact Z91
        repeat (refine then_nrm ?_)
        refine aw_cond rfl (fun hc => ?_) (fun hc => ?_)
        · have hbad : gokB (t0 :: g1) i = false := by simpa only [Bool.not_eq_true'] using hc
          repeat (refine aw_seq ?_)
          refine Za ?_
          repeat (first | refine then_nrm ?_ | refine then_ret ?_ | refine blk_ret ?_ | refine aw_ret ?_)
          rw [allI_false hlt hbad]
          exact Z7
        · have hgood : gokB (t0 :: g1) i = true := by simpa only [Bool.not_eq_false'] using hc
          repeat (first | refine then_nrm ?_ | refine blk_nrm ?_ | refine aw_skip ?_)
          refine Z3i ?_
          repeat (refine then_nrm ?_)
          refine ⟨i + 1, by omega, ⟨by omega, fun k hk => ?_⟩, (by repeat (first | exact Sub.nil | refine Sub.cons (by rfl) ?_)), Fit.loc hB (L := []) rfl (by repeat (first | exact EBel.nil | refine EBel.cons (by rfl) ?_)) (fun o ho => by simp at ho)⟩
          rcases Nat.lt_or_eq_of_le (Nat.le_of_lt_succ hk) with h | h
          · exact hno0 k h
          · subst h; exact hgood
      · have hB3 : gokB (t0 :: g1) i = false := by
          rw [hB2]
          rcases Classical.not_and_iff_not_or_not.1 hup with h | h
          · rw [decide_eq_false h]; rfl
          · rw [decide_eq_false h]; simp
        clear hB2 hyes hl
        repeat (first | refine then_nrm ?_ | refine aw_seq ?_)
        refine aw_of_out 64 (.bool (!gokB (t0 :: g1) i)) ?_ ?_
        · refine Z7u ?_
          refine Z7v ?_
          refine Z7w ?_
          refine Z7x ?_
          refine Z67 ?_
          refine aq_split (g := 31) rfl (fun hg3 => ?_) (fun hg3 => ?_)
          · refine Z7y ?_
            refine Z7z ?_
            refine Z80 ?_
            refine Z81 ?_
            refine Z82 ?_
            refine Z83 ?_
            refine Z84 ?_
            refine Z85 ?_
            refine Z86 ?_
            refine Z87 ?_
            refine Z88 ?_
            refine Z89 ?_
            refine Z8a ?_
            refine Z8b ?_
            refine Z8c ?_
            refine Z8d ?_
            refine Z8e ?_
            refine Z8f ?_
            refine Z8g ?_
            refine Z8h ?_
            refine Z8i ?_
            refine Z8j ?_
            refine Z8k ?_
            refine Z8l ?_
            refine Z8t ?_
            exact Z93
          · refine Z8v ?_
            refine Z8w ?_
            refine Z8x ?_
            refine Z8y ?_
            refine Z8z ?_
            refine Z83 ?_
            refine aq_split (g := 37) rfl (fun hg9 => ?_) (fun hg9 => ?_)
            · refine Z84 ?_
              refine Z85 ?_
              refine Z86 ?_
              refine Z87 ?_
              refine Z88 ?_
              refine Z89 ?_
              refine Z8a ?_
              refine Z8b ?_
              refine Z8c ?_
              refine Z8d ?_
              refine Z8e ?_
              refine Z8f ?_
              refine Z8g ?_
              refine Z8h ?_
              refine Z8i ?_
              refine Z8j ?_
              refine Z8k ?_
              refine Z8l ?_
              refine Z8t ?_
              exact Z93
            · exfalso; simp at hg3 hg9; omega
        repeat (refine then_nrm ?_)
        refine aw_cond rfl (fun hc => ?_) (fun hc => ?_)
        · have hbad : gokB (t0 :: g1) i = false := by simpa only [Bool.not_eq_true'] using hc
          repeat (refine aw_seq ?_)
          refine Za ?_
          repeat (first | refine then_nrm ?_ | refine then_ret ?_ | refine blk_ret ?_ | refine aw_ret ?_)
          rw [allI_false hlt hbad]
          exact Z7
        · have hgood : gokB (t0 :: g1) i = true := by simpa only [Bool.not_eq_false'] using hc
          repeat (first | refine then_nrm ?_ | refine blk_nrm ?_ | refine aw_skip ?_)
          refine Z3i ?_
          repeat (refine then_nrm ?_)
          refine ⟨i + 1, by omega, ⟨by omega, fun k hk => ?_⟩, (by repeat (first | exact Sub.nil | refine Sub.cons (by rfl) ?_)), Fit.loc hB (L := []) rfl (by repeat (first | exact EBel.nil | refine EBel.cons (by rfl) ?_)) (fun o ho => by simp at ho)⟩
          rcases Nat.lt_or_eq_of_le (Nat.le_of_lt_succ hk) with h | h
          · exact hno0 k h
          · subst h; exact hgood
    · have : i = g1.length := by simp at hc; omega
      subst this
      repeat (first | refine then_nrm ?_ | refine then_brk ?_ | refine blk_hit ?_ | refine aw_seq ?_ | refine aw_exit ?_)
      refine Za ?_
      repeat (first | refine then_nrm ?_ | refine aw_ret ?_)
      rw [allI_true hno]
      exact Z7
end Go.Av

namespace Go.Av
set_option linter.unusedVariables false
set_option linter.unusedSimpArgs false
theorem gright_len {g : List Thing} (h : gright g = true) : 1 ≤ g.length ∧ g.length ≤ 256 := by
  simp only [gright, Bool.and_eq_true, decide_eq_true_eq] at h; exact ⟨h.1.1.1, h.1.1.2⟩
theorem gright_up {g : List Thing} (h : gright g = true) {j : Nat} {t : Thing} (ht : g[j]? = some t) : t.up < (j : Int) ∧ (0 ≤ t.up ∨ t.up = -1) := by
  simp only [gright, Bool.and_eq_true, decide_eq_true_eq] at h
  have hj : j < g.length := (List.getElem?_eq_some_iff.1 ht).1
  cases j with
  | zero => rw [h.1.2] at ht; cases ht; exact ⟨by decide, .inr rfl⟩
  | succ i =>
    have h2 := allI_get h.2 (k := i) (by omega)
    rw [gokB, ht] at h2
    simp only [Bool.and_eq_true, decide_eq_true_eq] at h2
    exact ⟨by omega, .inl h2.1.1.1.1⟩
theorem uinL_len (g : List Thing) (n : Int) : ∀ k, (uinL g n k).length = k
  | 0 => rfl
  | k + 1 => by rw [uinL, List.length_append, uinL_len g n k]; rfl
theorem uinL_get (g : List Thing) (n : Int) {j k : Nat} (hj : j < k) : ∀ m, k ≤ m → (uinL g n m).getD j false = (uinL g n k).getD j false
  | 0, h => by omega
  | m + 1, h => by
    rcases Nat.lt_or_eq_of_le h with h1 | h1
    · rw [uinL, List.getD_eq_getElem?_getD, List.getElem?_append_left (by rw [uinL_len]; omega), ← List.getD_eq_getElem?_getD]
      exact uinL_get g n hj m (by omega)
    · rw [h1]
def uU (g : List Thing) (n : Int) (j : Nat) : Bool := (uinL g n g.length).getD j false
theorem uU_at {g : List Thing} {n : Int} {j : Nat} {t : Thing} (ht : g[j]? = some t) (hu : t.up < (j : Int)) : uU g n j = (decide ((j : Int) = n) || (decide (0 ≤ t.up) && uU g n t.up.toNat)) := by
  have hj : j < g.length := (List.getElem?_eq_some_iff.1 ht).1
  have e : upAt g j = t.up := by rw [upAt, ht]
  rw [uU, uinL_get g n (Nat.lt_succ_self j) g.length (by omega), uinL, List.getD_eq_getElem?_getD, List.getElem?_append_right (by rw [uinL_len]; exact Nat.le_refl _), uinL_len, Nat.sub_self, e]
  simp only [List.getElem?_cons_zero, Option.getD_some]
  by_cases h0 : 0 ≤ t.up
  · rw [uU, uinL_get g n (k := j) (by omega) g.length (by omega)]
  · rw [decide_eq_false h0, Bool.false_and, Bool.false_and]
def uAt (g : List Thing) (n : Int) (i j : Nat) : Bool := if j < i then uU g n j else decide ((j : Int) = n)
def uRow (g : List Thing) (n : Int) (i : Nat) : List (List AV) := (List.range g.length).map fun j => [AV.bool (uAt g n i j)]
theorem uRow_len (g : List Thing) (n : Int) (i : Nat) : (uRow g n i).length = g.length := by simp [uRow]
theorem uRow_get {g : List Thing} {n : Int} {i j : Nat} (h : j < g.length) : (uRow g n i)[j]? = some [AV.bool (uAt g n i j)] := by
  simp [uRow, h]
theorem uRow_set (g : List Thing) (n : Int) (i : Nat) : (uRow g n i).set i [AV.bool (uU g n i)] = uRow g n (i + 1) := by
  apply List.ext_getElem?
  intro j
  rw [List.getElem?_set]
  by_cases hj : j < g.length
  · rw [uRow_get hj]
    by_cases e : i = j
    · subst e; rw [if_pos rfl, if_pos (by rw [uRow_len]; exact hj), uRow_get hj, uAt, if_pos (by omega)]
    · rw [if_neg e, uRow_get hj]
      have : (j < i + 1) ↔ (j < i) := by omega
      simp only [uAt, this]
  · rw [List.getElem?_eq_none (by rw [uRow_len]; omega), List.getElem?_eq_none (by rw [uRow_len]; omega)]
    split
    · rw [if_neg (by rw [uRow_len]; omega)]
    · rfl
theorem uRow_zero {g : List Thing} {m : Nat} (h : m < g.length) : (List.replicate g.length [AV.bool false]).set m [AV.bool true] = uRow g m 0 := by
  apply List.ext_getElem?
  intro j
  rw [List.getElem?_set]
  by_cases hj : j < g.length
  · rw [uRow_get hj]
    by_cases e : m = j
    · subst e; simp [uAt, hj]
    · rw [if_neg e, List.getElem?_replicate, if_pos hj]
      have : ¬ ((j : Int) = (m : Int)) := by omega
      simp [uAt, this]
  · rw [List.getElem?_eq_none (l := uRow g m 0) (by rw [uRow_len]; omega), List.getElem?_replicate, if_neg hj]
    split
    · rw [if_neg (by simp; omega)]
    · rfl
theorem uRow_bel (k : Nat) (g : List Thing) (n : Int) (i : Nat) : ∀ r ∈ uRow g n i, AV.bels k r = true := by
  intro r hr
  simp only [uRow, List.mem_map, List.mem_range] at hr
  obtain ⟨j, _, rfl⟩ := hr
  rfl
theorem gunder_yes {g : List Thing} {n : Int} (h : gthere g n = true) : gunder g n = idx (uU g n) g.length := by rw [gunder, if_pos h]; rfl
end Go.Av

namespace Go.Av
open Go.Proofs
set_option maxRecDepth 10000
set_option linter.unusedSimpArgs false
set_option linter.unusedVariables false
theorem graph_there (g : List Thing) (n : Int) (H : Heap) (hl : g.length ≤ 9223372036854775807) : AC Tryz.prog 103 [.pl (g.map eThing), .int .i64 n] H (Ret (.bool (gthere g n)) H) := by
  refine AC.body (N := 17) [.tmp 4] Tryz.func103 rfl rfl rfl (Nat.le_of_ble_eq_true rfl) fun B hB => ?_
  repeat (refine aw_seq ?_)
  refine Za ?_
  repeat (first | refine then_nrm ?_ | refine aw_seq ?_)
  refine aw_out 4 (.bool (gthere g n)) ?_ ?_
  · refine Z6 ?_
    refine Z1n ?_
    refine ao_split rfl rfl (fun hg2 => ?_) (fun hg2 => ?_)
    · refine Ze ?_
      refine Z7l ?_
      refine Zf ?_
      refine Z24 ?_
      refine ao_split rfl rfl (fun hg8 => ?_) (fun hg8 => ?_)
      · refine Z7j ?_
        refine ao_y rfl rfl (by decide) (V2.call (graph_Right _ _ (by assumption)) rfl) ?_
        refine Zh ?_
        exact ao_nil (Out.mk (by (refine congrArg AV.bool ?_; (simp only [gthere]; clear hB; (simp_all; done)))) (by repeat (first | exact SubX.refl _ _ | refine SubX.at ?_ | refine SubX.put rfl ?_)))
      · refine Zo ?_
        exact Z94
    · refine Z3n ?_
      refine Z26 ?_
      refine Zo ?_
      exact Z94
  repeat (first | refine then_nrm ?_ | refine aw_ret ?_)
  exact Z7
set_option maxHeartbeats 0 in
theorem graph_Under (g : List Thing) (n : Int) (H : Heap) (hl : g.length ≤ 9223372036854775807) : AC Tryz.prog 54 [.pl (g.map eThing), .int .i64 n] H (Ret (.pl ((gunder g n).map eInt)) H) := by
  have hbel : ∀ (b i : Nat) (n : Int) (l : List Int), ∀ o ∈ [AObj.mk 0 1 (uRow g n i), AObj.mk l.length 1 (l.map eInt)], ∀ r ∈ o.rows, AV.bels b r = true := by
    intro b i n l o ho r hr
    simp only [List.mem_cons, List.not_mem_nil, or_false] at ho
    rcases ho with rfl | rfl
    · exact uRow_bel _ _ _ _ r hr
    · exact ints_bel _ _ r hr
  refine AC.body (N := 55) [.tmp 4] Tryz.func54 rfl rfl rfl (Nat.le_of_ble_eq_true rfl) fun B hB => ?_
  repeat (refine aw_seq ?_)
  refine Z2p ?_
  repeat (first | refine then_nrm ?_ | refine aw_seq ?_)
  refine Z95 ?_
  refine ao_ret (graph_there _ _ _ (by assumption)) rfl (by decide) ?_
  refine Z2j ?_
  repeat (refine then_nrm ?_)
  refine aw_cond rfl (fun hc => ?_) (fun hc => ?_)
  · have hno : gthere g n = false := by simpa only [Bool.not_eq_true'] using hc
    rw [show gunder g n = [] by rw [gunder, hno]; rfl]
    repeat (refine aw_seq ?_)
    refine Z2p ?_
    repeat (refine then_nrm ?_)
    refine aw_nslpl 4 rfl ?_
    exact aw_ret (e_done hB (r_tmp rfl .nil) rfl rfl)
  have hyes : gthere g n = true := by simpa only [Bool.not_eq_false'] using hc
  rw [gunder_yes hyes]
  obtain ⟨m, rfl⟩ : ∃ m : Nat, n = m := ⟨n.toNat, by simp only [gthere, Bool.and_eq_true, decide_eq_true_eq] at hyes; omega⟩
  have hm : m < g.length := by simp only [gthere, Bool.and_eq_true, decide_eq_true_eq] at hyes; omega
  have hg : gright g = true := by simp only [gthere, Bool.and_eq_true, decide_eq_true_eq] at hyes; exact hyes.2
  have hlen := gright_len hg
  have hml : (g.map eThing).length = g.length := by simp
  repeat (first | refine then_nrm ?_ | refine aw_seq ?_ | refine aw_skip ?_)
  refine Z59 ?_
  refine ao2 (by rintro _ ⟨⟩; decide) (o_makeSliceL (n := g.length) (c := g.length) (bytes := 1) rfl (by decide) (congrArg (fun k : Nat => AV.int .i64 (k : Int)) hml) (congrArg (fun k : Nat => AV.int .i64 (k : Int)) hml) (Nat.le_refl _) (by omega) (by omega) rfl) ?_
  refine Z7c ?_
  refine Z96 ?_
  have hrow : (List.replicate g.length [AV.bool false])[0 + m]? = some [.bool false] := by rw [Nat.zero_add, List.getElem?_replicate, if_pos hm]
  repeat (first | refine then_nrm ?_ | refine aw_seq ?_)
  refine Z79 ?_
  refine Z97 ?_
  refine ao2 (by rintro _ ⟨⟩) (w_storeP (sz := 1) (v := .bool _) (r' := [.bool true]) rfl rfl rfl rfl hrow rfl rfl rfl (by show _ ≤ 1; omega) rfl) ?_
  refine Z98 ?_
  rw [Nat.zero_add, uRow_zero hm]
  clear hrow hc
  repeat (first | refine then_nrm ?_ | refine aw_seq ?_)
  refine Z2p ?_
  repeat (first | refine then_nrm ?_ | refine aw_seq ?_)
  refine aw_ghostL (k := 1) 6 1 rfl (by decide) rfl ?_
  refine Z5t ?_
  refine Z75 ?_
  repeat (first | refine then_nrm ?_ | refine aw_block ?_)
  refine aw_loop (G := Nat) (fun i => i ≤ g.length) (fun i => [(5, .sl (Lid H.length 0) 0 0 g.length g.length), (6, .sl (Lid H.length 1) (idx (uU g m) i).length 0 (idx (uU g m) i).length (idx (uU g m) i).length), (19, .pl (g.map eThing)), (20, .int .i64 ((g.map eThing).length : Int)), (21, .int .i64 (i : Int))]) (fun i => H ++ [⟨0, 1, uRow g m i⟩, ⟨(idx (uU g m) i).length, 1, (idx (uU g m) i).map eInt⟩]) (fun i => g.length - i) 0 (Nat.zero_le _) (by repeat (first | exact Sub.nil | refine Sub.cons (by rfl) ?_)) (Fit.refl _ _) ?_
  intro i hi
  repeat (refine aw_seq ?_)
  refine Z36 ?_
  repeat (first | refine then_nrm ?_ | refine aw_seq ?_)
  refine aw_cond rfl (fun hc => ?_) (fun hc => ?_)
  · have hlt : i < g.length := by simpa using hc
    obtain ⟨t, ht, htl⟩ := get_in hlt
    have hr := map_get eThing ht
    obtain ⟨hu1, hu2⟩ := gright_up hg ht
    have hat := uU_at (n := (m : Int)) ht hu1
    have hrow0 : (uRow g (m : Int) i)[0 + i]? = some [.bool (decide ((i : Int) = (m : Int)))] := by rw [Nat.zero_add, uRow_get hlt, uAt, if_neg (Nat.lt_irrefl _)]
    have hset := uRow_set g (m : Int) i
    have hstep := idx_succ (uU g (m : Int)) i
    have hil := idx_len (uU g (m : Int)) i
    have hrow1 : (uRow g (m : Int) (i + 1))[0 + i]? = some [.bool (uU g (m : Int) i)] := by rw [Nat.zero_add, uRow_get hlt, uAt, if_pos (Nat.lt_succ_self _)]
    repeat (first | refine then_nrm ?_ | refine aw_seq ?_ | refine aw_block ?_ | refine aw_skip ?_)
    refine Z7o ?_
    refine Z7p ?_
    refine Z1 ?_
    refine Z7q ?_
    refine Z9a ?_
    clear hr ht htl hc
    repeat (first | refine then_nrm ?_ | refine aw_seq ?_)
    refine aw_joinQ ([(5, .sl (Lid H.length 0) 0 0 g.length g.length), (6, .sl (Lid H.length 1) (idx (uU g m) i).length 0 (idx (uU g m) i).length (idx (uU g m) i).length), (7, .int .i64 (i : Int)), (19, .pl (g.map eThing)), (20, .int .i64 ((g.map eThing).length : Int)), (21, .int .i64 (i : Int))]) (H ++ [⟨0, 1, uRow g m (i + 1)⟩, ⟨(idx (uU g m) i).length, 1, (idx (uU g m) i).map eInt⟩, ⟨0, 3, [eThing t]⟩]) ?_ ?_
    · by_cases hup : 0 ≤ t.up
      · have hrow2 := uRow_get (g := g) (n := (m : Int)) (i := i) (j := t.up.toNat) (by omega)
        rw [uAt, if_pos (by omega), ← Nat.zero_add t.up.toNat] at hrow2
        refine Z79 ?_
        refine Z77 ?_
        refine Z6 ?_
        refine Z97 ?_
        refine Z9b ?_
        refine Zc ?_
        refine ao_split rfl rfl (fun hg6 => ?_) (fun hg6 => ?_)
        · refine Z3c ?_
          refine Z9f ?_
          refine Z9g ?_
          refine Z97 ?_
          refine Z9h ?_
          refine ao_nil ?_
          (rw [Nat.zero_add, hset]; exact join_nrm (by repeat (first | exact Sub.nil | refine Sub.cons (by rfl) ?_)) (.inl rfl))
        · refine Z22 ?_
          refine Z3f ?_
          refine Z2f ?_
          refine ao_split rfl rfl (fun hg10 => ?_) (fun hg10 => ?_)
          · refine Z9i ?_
            refine Z22 ?_
            refine ao_y1 rfl rfl (by decide) (w_indexAddr rfl (lk rfl rfl) rfl rfl rfl hup (by omega)) ?_
            refine ao_y1 rfl rfl (by decide) (w_load1 (v := .bool _) rfl (lk rfl rfl) rfl hrow2 rfl) ?_
            refine Z9j ?_
            refine Zm ?_
            refine Z97 ?_
            refine Z9k ?_
            refine ao_nil ?_
            (rw [Nat.zero_add, hset]; exact join_nrm (by repeat (first | exact Sub.nil | refine Sub.cons (by rfl) ?_)) (.inl rfl))
          · refine Z9l ?_
            refine Z9m ?_
            refine Zm ?_
            refine Z97 ?_
            refine ao2 (by rintro _ ⟨⟩) (w_storeP (sz := 1) (v := .bool _) (r' := [.bool (uU g m i)]) rfl rfl rfl rfl hrow0 rfl rfl rfl (by show _ ≤ 1; omega) (by rw [hat]; (exfalso; simp at hg10; omega))) ?_
            refine ao_nil ?_
            (rw [Nat.zero_add, hset]; exact join_nrm (by repeat (first | exact Sub.nil | refine Sub.cons (by rfl) ?_)) (.inl rfl))
      · repeat (fail)
        refine Z79 ?_
        refine Z77 ?_
        refine Z6 ?_
        refine Z97 ?_
        refine Z9b ?_
        refine Zc ?_
        refine ao_split rfl rfl (fun hg6 => ?_) (fun hg6 => ?_)
        · refine Z3c ?_
          refine Z9f ?_
          refine Z9g ?_
          refine Z97 ?_
          refine Z9h ?_
          refine ao_nil ?_
          (rw [Nat.zero_add, hset]; exact join_nrm (by repeat (first | exact Sub.nil | refine Sub.cons (by rfl) ?_)) (.inl rfl))
        · refine Z22 ?_
          refine Z3f ?_
          refine Z2f ?_
          refine ao_split rfl rfl (fun hg10 => ?_) (fun hg10 => ?_)
          · exfalso; simp at hg10; omega
          · refine Z9l ?_
            refine Z9m ?_
            refine Zm ?_
            refine Z97 ?_
            refine Z9k ?_
            refine ao_nil ?_
            (rw [Nat.zero_add, hset]; exact join_nrm (by repeat (first | exact Sub.nil | refine Sub.cons (by rfl) ?_)) (.inl rfl))
    repeat (first | refine then_nrm ?_ | refine aw_seq ?_)
    refine Z79 ?_
    refine Z97 ?_
    refine ao1 (by decide) (w_load1 (v := .bool _) rfl (lk rfl rfl) rfl hrow1 rfl) ?_
    refine ao_nil ?_
    repeat (refine then_nrm ?_)
    refine aw_cond rfl (fun hc => ?_) (fun hc => ?_)
    · repeat (fail)
      refine Z79 ?_
      refine Z7a ?_
      refine Z7e ?_
      rw [show ((idx (uU g (m : Int)) i).map eInt).take (idx (uU g (m : Int)) i).length = (idx (uU g (m : Int)) i).map eInt from List.take_of_length_le (by simp)]
      repeat (first | refine then_nrm ?_ | refine blk_nrm ?_)
      refine Z3i ?_
      repeat (refine then_nrm ?_)
      refine ⟨i + 1, by omega, by omega, by rw [hstep, if_pos hc, List.length_append]; exact (by repeat (first | exact Sub.nil | refine Sub.cons (by rfl) ?_)), Fit.loc hB (by rw [hstep, if_pos hc]; simp only [List.length_append, List.length_cons, List.length_nil, List.map_append, List.map_cons, List.map_nil]; rfl) (by repeat (first | exact EBel.nil | refine EBel.cons (by first | rfl | (simp [AV.bel, AV.bels, Lid]; done)) ?_)) (hbel _ _ _ _)⟩
    · repeat (first | refine then_nrm ?_ | refine blk_nrm ?_ | refine aw_skip ?_)
      refine Z3i ?_
      repeat (refine then_nrm ?_)
      refine ⟨i + 1, by omega, by omega, by rw [hstep, if_neg (by simp [hc]), List.append_nil]; exact (by repeat (first | exact Sub.nil | refine Sub.cons (by rfl) ?_)), Fit.loc hB (L' := _) (G := [_]) (by rw [hstep, if_neg (by simp [hc]), List.append_nil]; rfl) (by repeat (first | exact EBel.nil | refine EBel.cons (by first | rfl | (simp [AV.bel, AV.bels, Lid]; done)) ?_)) (hbel _ _ _ _)⟩
  · have : i = g.length := by simp at hc; omega
    subst this
    repeat (first | refine then_nrm ?_ | refine then_brk ?_ | refine blk_hit ?_ | refine aw_seq ?_ | refine aw_exit ?_)
    refine Z7f ?_
    repeat (refine then_nrm ?_)
    refine aw_freezeL (ys := (idx (uU g m) g.length).map eInt) 4 rfl rfl rfl rfl (by rw [List.drop_zero, List.take_of_length_le (by simp)]) (by simp) (ints_bel 0 _) ?_
    exact Z7g
end Go.Av

namespace Go.Av
set_option linter.unusedVariables false
set_option linter.unusedSimpArgs false
theorem worstL_len (g : List Thing) (h : List Int) : ∀ k, (worstL g h k).length = k
  | 0 => rfl
  | k + 1 => by rw [worstL, List.length_append, worstL_len g h k]; rfl
theorem worstL_get (g : List Thing) (h : List Int) {j k : Nat} (hj : j < k) : ∀ m, k ≤ m → (worstL g h m).getD j 0 = (worstL g h k).getD j 0
  | 0, e => by omega
  | m + 1, e => by
    rcases Nat.lt_or_eq_of_le e with h1 | h1
    · rw [worstL, List.getD_eq_getElem?_getD, List.getElem?_append_left (by rw [worstL_len]; omega), ← List.getD_eq_getElem?_getD]
      exact worstL_get g h hj m (by omega)
    · rw [h1]
def wW (g : List Thing) (h : List Int) (j : Nat) : Int := (worstL g h g.length).getD j 0
theorem wW_at {g : List Thing} {h : List Int} {j : Nat} {t : Thing} (ht : g[j]? = some t) (hu : t.up < (j : Int)) : wW g h j = if 0 ≤ t.up then max (h.getD j 0) (wW g h t.up.toNat) else h.getD j 0 := by
  have hj : j < g.length := (List.getElem?_eq_some_iff.1 ht).1
  have e : upAt g j = t.up := by rw [upAt, ht]
  rw [wW, worstL_get g h (Nat.lt_succ_self j) g.length (by omega), worstL, List.getD_eq_getElem?_getD, List.getElem?_append_right (by rw [worstL_len]; exact Nat.le_refl _), worstL_len, Nat.sub_self, e]
  simp only [List.getElem?_cons_zero, Option.getD_some]
  by_cases h0 : 0 ≤ t.up
  · rw [if_pos h0, if_pos h0, wW, worstL_get g h (k := j) (by omega) g.length (by omega)]
  · rw [if_neg h0, if_neg h0]
def wAt (g : List Thing) (h : List Int) (i j : Nat) : Int := if j < i then wW g h j else h.getD j 0
def wRow (g : List Thing) (h : List Int) (i : Nat) : List Int := (List.range g.length).map (wAt g h i)
theorem wRow_len (g : List Thing) (h : List Int) (i : Nat) : (wRow g h i).length = g.length := by simp [wRow]
theorem wRow_get {g : List Thing} {h : List Int} {i j : Nat} (hj : j < g.length) : (wRow g h i)[j]? = some (wAt g h i j) := by simp [wRow, hj]
theorem wRow_set (g : List Thing) (h : List Int) (i : Nat) : (wRow g h i).set i (wW g h i) = wRow g h (i + 1) := by
  apply List.ext_getElem?
  intro j
  rw [List.getElem?_set]
  by_cases hj : j < g.length
  · rw [wRow_get hj]
    by_cases e : i = j
    · subst e; rw [if_pos rfl, if_pos (by rw [wRow_len]; exact hj), wRow_get hj, wAt, if_pos (by omega)]
    · rw [if_neg e, wRow_get hj]
      have : (j < i + 1) ↔ (j < i) := by omega
      simp only [wAt, this]
  · rw [List.getElem?_eq_none (by rw [wRow_len]; omega), List.getElem?_eq_none (by rw [wRow_len]; omega)]
    split
    · rw [if_neg (by rw [wRow_len]; omega)]
    · rfl
theorem wRow_zero {g : List Thing} {h : List Int} (e : h.length = g.length) : wRow g h 0 = h := by
  apply List.ext_getElem?
  intro j
  by_cases hj : j < g.length
  · rw [wRow_get hj, wAt, if_neg (by omega), List.getD_eq_getElem?_getD, List.getElem?_eq_getElem (by omega)]; rfl
  · rw [List.getElem?_eq_none (by rw [wRow_len]; omega), List.getElem?_eq_none (by omega)]
theorem wRow_same {g : List Thing} {h : List Int} {i : Nat} (e : wW g h i = h.getD i 0) : wRow g h (i + 1) = wRow g h i := by
  refine List.map_congr_left fun j _ => ?_
  simp only [wAt]
  by_cases h1 : j < i
  · rw [if_pos h1, if_pos (by omega)]
  · by_cases h2 : j = i
    · subst h2; rw [if_pos (by omega), if_neg (by omega), e]
    · rw [if_neg h1, if_neg (by omega)]
theorem wRow_all (g : List Thing) (h : List Int) : wRow g h g.length = worstL g h g.length := by
  apply List.ext_getElem?
  intro j
  by_cases hj : j < g.length
  · rw [wRow_get hj, wAt, if_pos hj, wW, List.getD_eq_getElem?_getD, List.getElem?_eq_getElem (by rw [worstL_len]; omega)]; rfl
  · rw [List.getElem?_eq_none (by rw [wRow_len]; omega), List.getElem?_eq_none (by rw [worstL_len]; omega)]
theorem worst_get {g : List Thing} {h : List Int} {k : Nat} {x : Int} (hx : (worstL g h g.length)[k]? = some x) : x = wW g h k := by
  rw [wW, List.getD_eq_getElem?_getD, hx]; rfl
theorem hright_parts {g : List Thing} {h : List Int} (e : hright g h = true) : gright g = true ∧ h.length = g.length ∧ (h.any fun n => decide (n < 0) || decide (2 < n)) = false := by
  simp only [hright, Bool.and_eq_true, decide_eq_true_eq, Bool.not_eq_true'] at e; exact ⟨e.1.1, e.1.2, e.2⟩
end Go.Av

namespace Go.Av
open Go.Proofs
set_option maxRecDepth 10000
set_option linter.unusedSimpArgs false
set_option linter.unusedVariables false
end Go.Av

namespace Go.Av
open Go.Proofs
set_option maxRecDepth 10000
set_option linter.unusedSimpArgs false
set_option linter.unusedVariables false
theorem slices_CloneT (l : List Thing) (H : Heap) (hn : l.length ≤ 1000000) : AC Tryz.prog 52 [.pl (l.map eThing)] H (Ret (.pl (l.map eThing)) H) := by
  refine AC.body (N := 8) [.tmp 2] Tryz.func52 rfl rfl rfl (Nat.le_of_ble_eq_true rfl) fun B hB => ?_
  repeat (refine aw_seq ?_)
  refine Z2p ?_
  repeat (first | refine then_nrm ?_ | refine aw_seq ?_)
  refine Z2r ?_
  refine ao_cons rfl (by rintro _ ⟨⟩; decide) (o_eqNil rfl rfl _ _ _ _) ?_ (fun _ _ h => h.elim)
  rintro _ _ ⟨nb, rfl, hnb, rfl⟩
  refine Z2s ?_
  repeat (refine then_nrm ?_)
  refine aw_cond rfl (fun hc => ?_) (fun hc => ?_)
  · subst hc
    have hb : l = [] := by
      cases l with
      | nil => rfl
      | cons x b => simp at hnb
    subst hb
    repeat (refine aw_seq ?_)
    refine Z2p ?_
    repeat (refine then_nrm ?_)
    refine aw_nslpl 2 rfl ?_
    exact aw_ret (e_done hB (r_tmp rfl .nil) rfl rfl)
  · repeat (first | refine then_nrm ?_ | refine aw_seq ?_ | refine aw_skip ?_)
    refine aw_region ?_
    refine Z2t ?_
    refine Z2q ?_
    refine ao2 (by rintro _ ⟨⟩; decide) (g_append_new (sz := 3) (bytes := 32) rfl (Src.pl rfl (things_len l)) rfl (by decide) (by simp; omega) (by simp; omega) (things_bel 0 l)) ?_
    refine Z2v ?_
    repeat (first | refine then_nrm ?_ | refine aw_ret ?_)
    exact Z7
theorem slices_CloneO (l : List Int) (H : Heap) (hn : l.length ≤ 1000000) : AC Tryz.prog 109 [.pl (l.map eI)] H (Ret (.sl (Lid H.length 0) 0 0 l.length l.length) (H ++ [⟨0, 1, l.map eI⟩])) := by
  refine AC.body (N := 8) [.tmp 2] Tryz.func109 rfl rfl rfl (Nat.le_of_ble_eq_true rfl) fun B hB => ?_
  repeat (refine aw_seq ?_)
  refine Z2p ?_
  repeat (first | refine then_nrm ?_ | refine aw_seq ?_)
  refine Z2r ?_
  refine ao_cons rfl (by rintro _ ⟨⟩; decide) (o_eqNil rfl rfl _ _ _ _) ?_ (fun _ _ h => h.elim)
  rintro _ _ ⟨nb, rfl, hnb, rfl⟩
  refine Z2s ?_
  repeat (refine then_nrm ?_)
  refine aw_cond rfl (fun hc => ?_) (fun hc => ?_)
  · subst hc
    have hb : l = [] := by
      cases l with
      | nil => rfl
      | cons x b => simp at hnb
    subst hb
    repeat (refine aw_seq ?_)
    refine Z2p ?_
    try dsimp only [List.length_nil]
    repeat (refine then_nrm ?_)
    refine aw_ghostL (k := 0) 2 1 rfl (by decide) rfl ?_
    exact aw_ret (e_keep (G := []) hB (r_tmp rfl .nil) rfl rfl (by simp [AV.bel, Lid]) (by simp))
  · repeat (first | refine then_nrm ?_ | refine aw_seq ?_ | refine aw_skip ?_)
    refine aw_region ?_
    refine Z2t ?_
    refine Z2q ?_
    refine ao2 (by rintro _ ⟨⟩; decide) (g_append_nsl rfl (Src.pl rfl (eI_len l)) rfl (by decide) (by simp; omega) (by simp; omega) rfl) ?_
    refine Z7c ?_
    refine Z5s ?_
    repeat (first | refine then_nrm ?_ | refine aw_ret ?_)
    exact e_keep (G := []) hB (r_tmp rfl .nil) (congrArg (fun n => AV.sl (Lid H.length 0) 0 0 n n) (show (l.map eI).length = l.length by simp)) (by simp) (by simp [AV.bel, Lid]) (by intro o ho r hr; simp only [List.mem_singleton] at ho; subst ho; exact eI_bel _ _ r hr)
theorem slices_IndexFuncI (F : Nat) [FnI Tryz.prog F] (p : Int → Bool) (hF : ∀ (x : Int) (H : Heap), AC Tryz.prog F [.int .i64 x] H (Ret (.bool (p x)) H)) (l : List Int) (H : Heap) (hl : l.length ≤ 1000000) : AC Tryz.prog 162 [.pl (l.map eI), .fn (.func F) [] []] H (Ret (.int .i64 (ixf p l)) H) := by
  refine AC.body (N := 19) [.tmp 4] Tryz.func162 rfl rfl rfl (Nat.le_of_ble_eq_true rfl) fun B hB => ?_
  repeat (refine aw_seq ?_)
  refine Z3 ?_
  repeat (first | refine then_nrm ?_ | refine aw_seq ?_)
  refine Z5t ?_
  repeat (first | refine then_nrm ?_ | refine aw_block ?_)
  refine aw_loop (G := Nat) (fun k => k ≤ l.length ∧ ∀ y ∈ l.take k, p y = false) (fun k => [(0, .pl (l.map eI)), (1, .fn (.func F) [] []), (7, .int .i64 (l.length : Int)), (8, .int .i64 (k : Int))]) (fun _ => H ++ []) (fun k => l.length - k) 0 ⟨Nat.zero_le _, by simp⟩ (by repeat (first | exact Sub.nil | refine Sub.cons (by first | rfl | (simp [get]; done)) ?_)) (Fit.refl _ _) ?_
  rintro k ⟨hk, hno⟩
  repeat (refine aw_seq ?_)
  refine Z36 ?_
  repeat (first | refine then_nrm ?_ | refine aw_seq ?_)
  refine aw_cond rfl (fun hc => ?_) (fun hc => ?_)
  · have hlt : k < l.length := by simpa using hc
    obtain ⟨x, hx, hxl⟩ := get_in hlt
    have hr := map_get eI hx
    repeat (first | refine then_nrm ?_ | refine aw_seq ?_ | refine aw_block ?_ | refine aw_skip ?_)
    refine Z13 ?_
    repeat (first | refine then_nrm ?_ | refine aw_seq ?_)
    refine Z1e ?_
    refine Z9n ?_
    refine Z39 ?_
    refine ao2 (by rintro _ ⟨⟩; decide) (V2.callv (hF x _) rfl rfl) ?_
    refine Z2s ?_
    repeat (refine then_nrm ?_)
    refine aw_cond rfl (fun hc => ?_) (fun hc => ?_)
    · repeat (refine aw_seq ?_)
      refine Z13 ?_
      repeat (first | refine then_nrm ?_ | refine then_ret ?_ | refine blk_ret ?_ | refine aw_ret ?_)
      rw [ixf_some hx hc hno]
      exact Z7
    · repeat (first | refine then_nrm ?_ | refine blk_nrm ?_ | refine aw_skip ?_)
      refine Z3i ?_
      repeat (refine then_nrm ?_)
      refine ⟨k + 1, by omega, ⟨by omega, ?_⟩, (by repeat (first | exact Sub.nil | refine Sub.cons (by rfl) ?_)), .refl _ _⟩
      rw [take_snoc_get hx]
      intro y hy
      rcases List.mem_append.1 hy with h | h
      · exact hno y h
      · simp only [List.mem_singleton] at h
        subst h
        exact hc
  · have : k = l.length := by simp at hc; omega
    subst this
    rw [List.take_length] at hno
    rw [ixf_none hno]
    repeat (first | refine then_nrm ?_ | refine then_brk ?_ | refine blk_hit ?_ | refine aw_seq ?_ | refine aw_exit ?_)
    refine Z3 ?_
    repeat (first | refine then_nrm ?_ | refine aw_ret ?_)
    exact Z7
theorem slices_ContainsFuncI (F : Nat) [FnI Tryz.prog F] (p : Int → Bool) (hF : ∀ (x : Int) (H : Heap), AC Tryz.prog F [.int .i64 x] H (Ret (.bool (p x)) H)) (l : List Int) (H : Heap) (hl : l.length ≤ 1000000) : AC Tryz.prog 122 [.pl (l.map eI), .fn (.func F) [] []] H (Ret (.bool (l.any p)) H) := by
  refine AC.body (N := 9) [.tmp 4] Tryz.func122 rfl rfl rfl (Nat.le_of_ble_eq_true rfl) fun B hB => ?_
  repeat (refine aw_seq ?_)
  refine Za ?_
  repeat (first | refine then_nrm ?_ | refine aw_seq ?_)
  refine Z2r ?_
  refine Z1d ?_
  refine ao2 (by rintro _ ⟨⟩; decide) (V2.call (slices_IndexFuncI F p hF l _ hl) rfl) ?_
  refine Z1c ?_
  refine Z9o ?_
  repeat (first | refine then_nrm ?_ | refine aw_ret ?_)
  rw [← ixf_nonneg]
  exact Z7
theorem health_Right_1 (n : Int) (H : Heap) : AC Tryz.prog 123 [.int .i64 n] H (Ret (.bool (decide (n < 0) || decide (2 < n))) H) := by
  refine AC.body (N := 9) [.tmp 2] Tryz.func123 rfl rfl rfl (Nat.le_of_ble_eq_true rfl) fun B hB => ?_
  repeat (refine aw_seq ?_)
  refine Za ?_
  repeat (first | refine then_nrm ?_ | refine aw_seq ?_)
  refine aw_out 2 (.bool (decide (n < 0) || decide (2 < n))) ?_ ?_
  · refine Zr ?_
    refine ao_split rfl rfl (fun hg2 => ?_) (fun hg2 => ?_)
    · refine Z29 ?_
      exact Zj
    · refine Z4s ?_
      refine Zn ?_
      exact Zi
  repeat (first | refine then_nrm ?_ | refine aw_ret ?_)
  exact Z7
theorem health_Right (g : List Thing) (h : List Int) (H : Heap) (hl : g.length ≤ 1000000) (hh : h.length ≤ 1000000) : AC Tryz.prog 72 [.pl (g.map eThing), .pl (h.map eI)] H (Ret (.bool (hright g h)) H) := by
  have hl2 : g.length ≤ 9223372036854775807 := by omega
  refine AC.body (N := 19) [.tmp 4] Tryz.func72 rfl rfl rfl (Nat.le_of_ble_eq_true rfl) fun B hB => ?_
  repeat (refine aw_seq ?_)
  refine Za ?_
  repeat (first | refine then_nrm ?_ | refine aw_seq ?_)
  refine aw_out 4 (.bool (hright g h)) ?_ ?_
  · refine Z2q ?_
    refine Z9p ?_
    refine Zc ?_
    refine ao_split rfl rfl (fun hg2 => ?_) (fun hg2 => ?_)
    · refine Z7l ?_
      refine Z7l ?_
      refine Z3x ?_
      refine ao_split rfl rfl (fun hg9 => ?_) (fun hg9 => ?_)
      · refine Z7j ?_
        refine ao_y rfl rfl (by decide) (V2.call (slices_ContainsFuncI 123 _ health_Right_1 h _ hh) rfl) ?_
        refine Z1f ?_
        refine Zh ?_
        exact Z9q
      · refine Z1i ?_
        exact Z9q
    · refine Zl ?_
      refine Z27 ?_
      refine Z1i ?_
      exact ao_nil (Out.mk (by (refine congrArg AV.bool ?_; (simp only [hright]; clear hB; (simp_all; done)))) (by repeat (first | exact SubX.refl _ _ | refine SubX.at ?_ | refine SubX.put rfl ?_)))
  repeat (first | refine then_nrm ?_ | refine aw_ret ?_)
  exact Z7
theorem health_New (g : List Thing) (H : Heap) (hl : g.length ≤ 1000000) : AC Tryz.prog 53 [.pl (g.map eThing)] H (Ret (.pl ((if gright g then List.replicate g.length (0 : Int) else []).map eI)) H) := by
  have hl2 : g.length ≤ 9223372036854775807 := by omega
  refine AC.body (N := 9) [.tmp 2] Tryz.func53 rfl rfl rfl (Nat.le_of_ble_eq_true rfl) fun B hB => ?_
  repeat (refine aw_seq ?_)
  refine Z2p ?_
  repeat (first | refine then_nrm ?_ | refine aw_seq ?_)
  refine Z2r ?_
  refine Z9p ?_
  refine Z2j ?_
  repeat (refine then_nrm ?_)
  refine aw_cond rfl (fun hc => ?_) (fun hc => ?_)
  · have hno : gright g = false := by simpa only [Bool.not_eq_true'] using hc
    rw [hno]
    repeat (refine aw_seq ?_)
    refine Z2p ?_
    repeat (refine then_nrm ?_)
    refine aw_nslpl 2 rfl ?_
    exact aw_ret (e_done hB (r_tmp rfl .nil) rfl rfl)
  have hyes : gright g = true := by simpa only [Bool.not_eq_false'] using hc
  rw [hyes, if_pos rfl]
  have hml : (g.map eThing).length = g.length := by simp
  repeat (first | refine then_nrm ?_ | refine aw_seq ?_ | refine aw_skip ?_)
  refine Z59 ?_
  refine ao2 (by rintro _ ⟨⟩; decide) (o_makeSliceL (n := g.length) (c := g.length) (bytes := 8) rfl (by decide) (congrArg (fun k : Nat => AV.int .i64 (k : Int)) hml) (congrArg (fun k : Nat => AV.int .i64 (k : Int)) hml) (Nat.le_refl _) (by omega) (by omega) rfl) ?_
  refine Z7c ?_
  refine Z96 ?_
  repeat (refine then_nrm ?_)
  refine aw_freezeL (ys := (List.replicate g.length (0 : Int)).map eI) 2 rfl rfl rfl rfl (by rw [List.drop_zero, List.take_of_length_le (by simp), List.map_replicate]) (by simp) (eI_bel 0 _) ?_
  exact Z7g
set_option maxHeartbeats 0 in
theorem health_worst (g : List Thing) (h : List Int) (H : Heap) (hg : gright g = true) (hh : h.length = g.length) : AC Tryz.prog 131 [.pl (g.map eThing), .pl (h.map eI)] H (Ret (.pl ((worstL g h g.length).map eI)) H) := by
  have hlen := gright_len hg
  refine AC.body (N := 35) [.tmp 4] Tryz.func131 rfl rfl rfl (Nat.le_of_ble_eq_true rfl) fun B hB => ?_
  repeat (refine aw_seq ?_)
  refine Z2p ?_
  repeat (first | refine then_nrm ?_ | refine aw_seq ?_)
  refine Z2r ?_
  refine ao2 (by rintro _ ⟨⟩; decide) (V2.callo (slices_CloneO h _ (by omega)) rfl rfl) ?_
  refine Z7c ?_
  refine Z5s ?_
  rw [hh]
  repeat (first | refine then_nrm ?_ | refine aw_seq ?_)
  refine Z5t ?_
  repeat (first | refine then_nrm ?_ | refine aw_block ?_)
  refine aw_loop (G := Nat) (fun i => i ≤ g.length) (fun i => [(5, .sl (Lid H.length 0) 0 0 g.length g.length), (10, .pl (g.map eThing)), (11, .int .i64 ((g.map eThing).length : Int)), (12, .int .i64 (i : Int))]) (fun i => H ++ [⟨0, 1, (wRow g h i).map eI⟩]) (fun i => g.length - i) 0 (Nat.zero_le _) (by repeat (first | exact Sub.nil | refine Sub.cons (by rfl) ?_)) (.inl (by rw [wRow_zero hh])) ?_
  intro i hi
  repeat (refine aw_seq ?_)
  refine Z36 ?_
  repeat (first | refine then_nrm ?_ | refine aw_seq ?_)
  refine aw_cond rfl (fun hc => ?_) (fun hc => ?_)
  · have hlt : i < g.length := by simpa using hc
    obtain ⟨t, ht, htl⟩ := get_in hlt
    have hr := map_get eThing ht
    obtain ⟨hu1, hu2⟩ := gright_up hg ht
    have hat := wW_at (h := h) ht hu1
    repeat (first | refine then_nrm ?_ | refine aw_seq ?_ | refine aw_block ?_ | refine aw_skip ?_)
    refine Z7o ?_
    refine Z7p ?_
    refine Z1 ?_
    refine Z7q ?_
    refine Z9a ?_
    repeat (first | refine then_nrm ?_ | refine aw_seq ?_)
    refine Z3p ?_
    refine Z1c ?_
    refine Z32 ?_
    clear hr
    repeat (refine then_nrm ?_)
    refine aw_cond rfl (fun hc => ?_) (fun hc => ?_)
    · have hup : 0 ≤ t.up := by simpa using hc
      rw [if_pos hup] at hat
      have hr0 : ((wRow g h i).map eI)[0 + i]? = some [.int .i64 (h.getD i 0)] := by rw [Nat.zero_add, List.getElem?_map, wRow_get hlt, wAt, if_neg (by omega)]; rfl
      have hr1 : ((wRow g h i).map eI)[0 + t.up.toNat]? = some [.int .i64 (wW g h t.up.toNat)] := by rw [Nat.zero_add, List.getElem?_map, wRow_get (by omega), wAt, if_pos (by omega)]; rfl
      have hset : ((wRow g h i).map eI).set (0 + i) [.int .i64 (wW g h i)] = (wRow g h (i + 1)).map eI := by rw [Nat.zero_add, ← wRow_set, List.map_set]
      refine aw_drawP mixed (some 13) 2 ?_
      refine Z6h ?_
      refine Z9r ?_
      refine Z9s ?_
      refine Z9t ?_
      refine aqp 4 rfl (by decide +kernel) (by decide) (fun G => w_indexAddrN rfl (lk rfl rfl) rfl rfl rfl (by omega)) ?_
      refine aqp 5 rfl (by decide +kernel) (by decide) (fun G => w_load1 (v := .int _ _) rfl (lk rfl rfl) rfl hr0 rfl) ?_
      refine aq0 6 rfl (by decide +kernel) (by decide) (fun _ => o_move (v := .sl _ _ _ _ _) rfl) ?_
      refine Z9u ?_
      refine aqp 8 rfl (by decide +kernel) (by decide) (fun G => w_load1 (v := .int _ _) rfl (lk rfl rfl) rfl rfl rfl) ?_
      refine aqp 9 rfl (by decide +kernel) (by decide) (fun G => w_indexAddr rfl (lk rfl rfl) rfl rfl rfl hup (by omega)) ?_
      refine aqp 10 rfl (by decide +kernel) (by decide) (fun G => w_load1 (v := .int _ _) rfl (lk rfl rfl) rfl hr1 rfl) ?_
      refine aq0 11 rfl (by decide +kernel) (by decide) (fun _ => o_max (r := wW g h i) rfl rfl hat.symm) ?_
      refine aqp 12 rfl (by decide +kernel) (by decide) (fun G => w_indexAddrN rfl (lk rfl rfl) rfl rfl rfl (by omega)) ?_
      refine aqs 13 rfl (by decide +kernel) (by exact fun _ => ⟨_, rfl⟩) (by rintro _ ⟨⟩) (w_storeP (sz := 1) (v := .int _ _) (r' := [.int .i64 (wW g h i)]) rfl rfl rfl rfl hr0 rfl rfl rfl (by show _ ≤ 1; omega) rfl) ?_
      refine Z5z ?_
      refine Z4l ?_
      rw [hset]
      repeat (first | refine then_nrm ?_ | refine blk_nrm ?_)
      refine Z3i ?_
      repeat (refine then_nrm ?_)
      exact ⟨i + 1, by omega, by omega, (by repeat (first | exact Sub.nil | refine Sub.cons (by rfl) ?_)), Fit.loc hB rfl (by repeat (first | exact EBel.nil | refine EBel.cons (by first | rfl | (simp [AV.bel, AV.bels, Lid]; done)) ?_)) (by intro o ho r hr; simp only [List.mem_singleton] at ho; subst ho; exact eI_bel _ _ r hr)⟩
    · have hup : ¬ 0 ≤ t.up := by simpa using hc
      rw [if_neg hup] at hat
      repeat (first | refine then_nrm ?_ | refine blk_nrm ?_ | refine aw_skip ?_)
      refine Z3i ?_
      repeat (refine then_nrm ?_)
      refine ⟨i + 1, by omega, by omega, (by repeat (first | exact Sub.nil | refine Sub.cons (by rfl) ?_)), Fit.loc hB (G := [_]) (by rw [wRow_same hat]; rfl) (by repeat (first | exact EBel.nil | refine EBel.cons (by first | rfl | (simp [AV.bel, AV.bels, Lid]; done)) ?_)) (by intro o ho r hr; simp only [List.mem_singleton] at ho; subst ho; exact eI_bel _ _ r hr)⟩
  · have : i = g.length := by simp at hc; omega
    subst this
    rw [wRow_all]
    repeat (first | refine then_nrm ?_ | refine then_brk ?_ | refine blk_hit ?_ | refine aw_seq ?_ | refine aw_exit ?_)
    refine Z7f ?_
    repeat (refine then_nrm ?_)
    refine aw_freezeL (ys := (worstL g h g.length).map eI) 4 rfl rfl rfl rfl (by rw [List.drop_zero, List.take_of_length_le (by simp [worstL_len])]) (by simp [worstL_len]) (eI_bel 0 _) ?_
    exact Z7g
def hbP (g : List Thing) (h : List Int) (most : Int) (k : Nat) : Bool := decide ((worstL g h g.length).getD k 0 ≤ most)
set_option maxHeartbeats 0 in
theorem health_below (g : List Thing) (h : List Int) (most : Int) (H : Heap) (hl : g.length ≤ 1000000) (hh : h.length ≤ 1000000) : AC Tryz.prog 78 [.pl (g.map eThing), .pl (h.map eI), .int .i64 most] H (Ret (.pl ((hbelow g h most).map eI)) H) := by
  refine AC.body (N := 32) [.tmp 6] Tryz.func78 rfl rfl rfl (Nat.le_of_ble_eq_true rfl) fun B hB => ?_
  repeat (refine aw_seq ?_)
  refine Z2p ?_
  repeat (first | refine then_nrm ?_ | refine aw_seq ?_)
  refine Z6d ?_
  refine Z9v ?_
  refine Z2j ?_
  repeat (refine then_nrm ?_)
  refine aw_cond rfl (fun hc => ?_) (fun hc => ?_)
  · have hno : hright g h = false := by simpa only [Bool.not_eq_true'] using hc
    rw [show hbelow g h most = [] by rw [hbelow, hno]; rfl]
    repeat (refine aw_seq ?_)
    refine Z2p ?_
    repeat (refine then_nrm ?_)
    refine aw_nslpl 6 rfl ?_
    exact aw_ret (e_done hB (r_tmp rfl .nil) rfl rfl)
  have hyes : hright g h = true := by simpa only [Bool.not_eq_false'] using hc
  obtain ⟨hg, hh2, _⟩ := hright_parts hyes
  have hlen := gright_len hg
  rw [show hbelow g h most = idx (hbP g h most) g.length by rw [hbelow, hyes]; rfl]
  have hwl : ((worstL g h g.length).map eI).length = g.length := by rw [List.length_map, worstL_len]
  clear hc
  repeat (first | refine then_nrm ?_ | refine aw_seq ?_ | refine aw_skip ?_)
  refine Z2p ?_
  repeat (first | refine then_nrm ?_ | refine aw_seq ?_)
  refine aw_ghostL (k := 0) 7 1 rfl (by decide) rfl ?_
  refine Z6d ?_
  refine ao_ret (health_worst _ _ _ (by assumption) (by assumption)) rfl (by decide) ?_
  refine Z34 ?_
  refine Z9w ?_
  repeat (first | refine then_nrm ?_ | refine aw_block ?_)
  refine aw_loop (G := Nat) (fun i => i ≤ g.length) (fun i => [(2, .int .i64 most), (7, .sl (Lid H.length 0) (idx (hbP g h most) i).length 0 (idx (hbP g h most) i).length (idx (hbP g h most) i).length), (16, .pl ((worstL g h g.length).map eI)), (17, .int .i64 (((worstL g h g.length).map eI).length : Int)), (18, .int .i64 (i : Int))]) (fun i => H ++ [⟨(idx (hbP g h most) i).length, 1, (idx (hbP g h most) i).map eI⟩]) (fun i => g.length - i) 0 (Nat.zero_le _) (by repeat (first | exact Sub.nil | refine Sub.cons (by rfl) ?_)) (Fit.refl _ _) ?_
  intro i hi
  repeat (refine aw_seq ?_)
  refine Z36 ?_
  repeat (first | refine then_nrm ?_ | refine aw_seq ?_)
  refine aw_cond rfl (fun hc => ?_) (fun hc => ?_)
  · have hlt : i < g.length := by rw [hwl] at hc; simpa using hc
    obtain ⟨x, hx, hxl⟩ := get_in (l := worstL g h g.length) (k := i) (by rw [worstL_len]; exact hlt)
    have hr := map_get eI hx
    have hxw := worst_get hx
    have hstep := idx_succ (hbP g h most) i
    have hil := idx_len (hbP g h most) i
    have hP : hbP g h most i = decide (x ≤ most) := by rw [hbP, hxw]; rfl
    repeat (first | refine then_nrm ?_ | refine aw_seq ?_ | refine aw_block ?_ | refine aw_skip ?_)
    refine Zv ?_
    refine Z39 ?_
    refine Zz ?_
    repeat (first | refine then_nrm ?_ | refine aw_seq ?_)
    refine Z1o ?_
    refine Zb ?_
    refine ao_nil ?_
    repeat (refine then_nrm ?_)
    refine aw_cond rfl (fun hc => ?_) (fun hc => ?_)
    · have hp : hbP g h most i = true := by rw [hP]; exact hc
      refine Z79 ?_
      refine Z7a ?_
      refine Z7d ?_
      refine Z9x ?_
      rw [show ((idx (hbP g h most) i).map eI).take (idx (hbP g h most) i).length = (idx (hbP g h most) i).map eI from List.take_of_length_le (by simp)]
      repeat (first | refine then_nrm ?_ | refine blk_nrm ?_)
      refine Z3i ?_
      repeat (refine then_nrm ?_)
      refine ⟨i + 1, by omega, by omega, by rw [hstep, if_pos hp, List.length_append]; exact (by repeat (first | exact Sub.nil | refine Sub.cons (by rfl) ?_)), Fit.loc hB (by rw [hstep, if_pos hp]; simp only [List.length_append, List.length_cons, List.length_nil, List.map_append, List.map_cons, List.map_nil]; rfl) (by repeat (first | exact EBel.nil | refine EBel.cons (by first | rfl | (simp [AV.bel, AV.bels, Lid]; done)) ?_)) (by intro o ho r hr; simp only [List.mem_singleton] at ho; subst ho; exact eI_bel _ _ r hr)⟩
    · have hp : ¬ hbP g h most i = true := by rw [hP]; simpa using hc
      repeat (first | refine then_nrm ?_ | refine blk_nrm ?_ | refine aw_skip ?_)
      refine Z3i ?_
      repeat (refine then_nrm ?_)
      refine ⟨i + 1, by omega, by omega, by rw [hstep, if_neg hp, List.append_nil]; exact (by repeat (first | exact Sub.nil | refine Sub.cons (by rfl) ?_)), .inl (by rw [hstep, if_neg hp, List.append_nil])⟩
  · have : i = g.length := by rw [hwl] at hc; simp at hc; omega
    subst this
    repeat (first | refine then_nrm ?_ | refine then_brk ?_ | refine blk_hit ?_ | refine aw_seq ?_ | refine aw_exit ?_)
    refine Z7f ?_
    repeat (refine then_nrm ?_)
    refine aw_freezeL (ys := (idx (hbP g h most) g.length).map eI) 6 rfl rfl rfl rfl (by rw [List.drop_zero, List.take_of_length_le (by simp)]) (by simp) (eI_bel 0 _) ?_
    exact Z7g
theorem health_Usable (g : List Thing) (h : List Int) (H : Heap) (hl : g.length ≤ 1000000) (hh : h.length ≤ 1000000) : AC Tryz.prog 41 [.pl (g.map eThing), .pl (h.map eI)] H (Ret (.pl ((hbelow g h 0).map eI)) H) := by
  refine AC.body (N := 8) [.tmp 4] Tryz.func41 rfl rfl rfl (Nat.le_of_ble_eq_true rfl) fun B hB => ?_
  repeat (refine aw_seq ?_)
  refine Z2p ?_
  repeat (first | refine then_nrm ?_ | refine aw_seq ?_)
  refine Z6d ?_
  refine Z9y ?_
  refine Z9z ?_
  repeat (first | refine then_nrm ?_ | refine aw_ret ?_)
  exact Z7
end Go.Av

namespace Go.Av
set_option linter.unusedVariables false
set_option linter.unusedSimpArgs false
abbrev eN (x : Int) : List AV := [.int .i64 x]
abbrev eHeld (h : Held) : List AV := [.int .i64 h.id, .pl (h.things.map eN), .int .i64 h.frm, .int .i64 h.to]
theorem helds_len (l : List Held) : ∀ r ∈ l.map eHeld, r.length = 4 := rows_len (e := eHeld) (n := 4) (fun _ => rfl) l
theorem helds_bel (n : Nat) (l : List Held) : ∀ r ∈ l.map eHeld, AV.bels n r = true := rows_bel (e := eHeld) (fun _ => rfl) l
theorem heldB_get {l : List Held} {i : Nat} {h : Held} (e : l[i]? = some h) : heldB l i = (hmay h && !(decide (0 < i) && decide (h.id ≤ heldId l (i - 1))) && !((l.take i).any fun x => clash x h)) := by rw [heldB, e]
theorem heldId_get {l : List Held} {i : Nat} {h : Held} (e : l[i]? = some h) : heldId l i = h.id := by rw [heldId, e]
theorem heldAt_get {l : List Held} {i : Nat} {h : Held} (e : l[i]? = some h) : heldAt l i = h := by rw [heldAt, List.getD_eq_getElem?_getD, e]; rfl
def HW (l : List Held) : Prop := l.length ≤ 1000000 ∧ ∀ h ∈ l, h.things.length ≤ 1000000
theorem HW.take {l : List Held} (h : HW l) (k : Nat) : HW (l.take k) := ⟨Nat.le_trans (by rw [List.length_take]; omega) h.1, fun x hx => h.2 x (List.mem_of_mem_take hx)⟩
structure LH where
  lo : Nat
  hi : Nat
theorem busyL_step {l : List Held} {k : Nat} {h : Held} (e : l[k]? = some h) (frm to : Int) : busyL (l.take (k + 1)) frm to = if meets h.frm h.to frm to then sjoin (busyL (l.take k) frm to) h.things else busyL (l.take k) frm to := by
  rw [busyL, busyL, List.take_add_one, e, List.foldl_append]; rfl
theorem setl_le (op : Bool → Bool → Bool) (a b : List Int) : (setop op a b).length ≤ 1000000 := Nat.le_trans (setop_len op a b) (by decide)
theorem busyL_le : ∀ (l : List Held) (frm to : Int), (busyL l frm to).length ≤ 256 := by
  intro l frm to
  suffices h : ∀ (l : List Held) (out : List Int), out.length ≤ 256 → (l.foldl (fun out h => if meets h.frm h.to frm to then sjoin out h.things else out) out).length ≤ 256 from h l [] (by decide)
  intro l
  induction l with
  | nil => intro out h; exact h
  | cons x l ih =>
    intro out h
    rw [List.foldl_cons]
    refine ih _ ?_
    split
    · exact setop_len _ _ _
    · exact h
theorem heldR_sorted {l : List Held} (h : heldR l = true) : l.Pairwise (fun a b => a.id < b.id) := (held_iff.1 h).2.2.1
end Go.Av

namespace Go.Av
section
variable {P : Program} {N : Nat} {B : Base} {ops : Array Oper} {a : Option Nat} {C : Heap → Prop} {F : Env → Heap → Prop}
variable {fuel : Nat} {listed : Array Bool} {env : Env} {H H0 L : Heap} {op : Op} {ty : TypeId} {pos : String} {after : Array Edge} {v : AV}
theorem aqp2 {d : Nat} {L0 : Heap} (i : Nat) (hi : ops[i]? = some ⟨some d, op, ty, pos, after, none⟩) (hB : firstB ops listed a i = true) (hd : DN d N) (h1 : ∀ G, V2 P N op ty (renv ⟨some d, op, ty, pos, after, none⟩ env) (H0 ++ (L0 ++ G)) v (H0 ++ (L0 ++ G)))
    (h : AAny P N B ops a (Pre H0 L0) F fuel (listed.setIfInBounds i true) ((d, v) :: env) H) : AAny P N B ops a (Pre H0 L0) F (fuel + 1) listed env H :=
  aq2 i hi hB hd (by rintro _ ⟨G, rfl⟩; exact h1 G) h
theorem aqyp2 {d j g : Nat} {want : Bool} {L0 : Heap} (i : Nat) (hi : ops[i]? = some ⟨some d, op, ty, pos, after, some (j, want)⟩) (hB : firstB ops listed a i = true) (hd : DN d N) (hj : (ops[j]?).bind (·.dst) = some g) (hb : get env g = .bool want)
    (h1 : ∀ G, V2 P N op ty (renv ⟨some d, op, ty, pos, after, some (j, want)⟩ env) (H0 ++ (L0 ++ G)) v (H0 ++ (L0 ++ G)))
    (h : AAny P N B ops a (Pre H0 L0) F fuel (listed.setIfInBounds i true) ((d, v) :: env) H) : AAny P N B ops a (Pre H0 L0) F (fuel + 1) listed env H :=
  aqy2 i hi hB hd hj hb (by rintro _ ⟨G, rfl⟩; exact h1 G) h
end
end Go.Av

namespace Go.Av
open Go.Proofs
set_option maxRecDepth 10000
set_option linter.unusedSimpArgs false
set_option linter.unusedVariables false
theorem when_Meets (a b c d : Int) (H : Heap) : AC Tryz.prog 80 [.int .i64 a, .int .i64 b, .int .i64 c, .int .i64 d] H (Ret (.bool (meets a b c d)) H) := by
  refine AC.body (N := 16) [.tmp 8] Tryz.func80 rfl rfl rfl (Nat.le_of_ble_eq_true rfl) fun B hB => ?_
  repeat (refine aw_seq ?_)
  refine Za ?_
  repeat (first | refine then_nrm ?_ | refine aw_seq ?_)
  refine aw_out 8 (.bool (meets a b c d)) ?_ ?_
  · refine Z1u ?_
    refine ao1 (by decide) (o_max (r := max a c) rfl rfl rfl) ?_
    refine Z1u ?_
    refine ao1 (by decide) (o_min (r := min b d) rfl rfl rfl) ?_
    refine Zp ?_
    refine Z8 ?_
    exact Zu
  repeat (first | refine then_nrm ?_ | refine aw_ret ?_)
  exact Z7
theorem held_may (h : Held) (H : Heap) (hw : h.things.length ≤ 1000000) : AC Tryz.prog 125 [.agg (eHeld h)] H (Ret (.bool (hmay h)) H) := by
  refine AC.body (N := 29) [.tmp 2] Tryz.func125 rfl rfl rfl (Nat.le_of_ble_eq_true rfl) fun B hB => ?_
  repeat (refine aw_seq ?_)
  refine Za1 ?_
  refine Z1y ?_
  repeat (first | refine then_nrm ?_ | refine aw_seq ?_)
  refine aw_out 2 (.bool (hmay h)) ?_ ?_
  · refine Za2 ?_
    refine Za3 ?_
    refine ao_split rfl rfl (fun hg4 => ?_) (fun hg4 => ?_)
    · refine Z5k ?_
      refine Za4 ?_
      refine Z24 ?_
      refine ao_split rfl rfl (fun hg9 => ?_) (fun hg9 => ?_)
      · refine Z22 ?_
        refine Z42 ?_
        refine Z24 ?_
        refine ao_split rfl rfl (fun hg14 => ?_) (fun hg14 => ?_)
        · refine Z22 ?_
          refine Z42 ?_
          refine Z24 ?_
          refine ao_split rfl rfl (fun hg19 => ?_) (fun hg19 => ?_)
          · refine Z3k ?_
            refine Zf ?_
            refine Zh ?_
            exact Za5
          · refine Z3l ?_
            exact Za6
        · refine Z5n ?_
          exact Za6
      · refine Z27 ?_
        refine Z5n ?_
        exact Za5
    · refine Z27 ?_
      refine Z27 ?_
      refine Z5n ?_
      exact Za5
  repeat (first | refine then_nrm ?_ | refine aw_ret ?_)
  exact Z7
theorem held_clash (a b : Held) (H : Heap) (ha : a.things.length ≤ 1000000) (hb : b.things.length ≤ 1000000) : AC Tryz.prog 128 [.agg (eHeld a), .agg (eHeld b)] H (Ret (.bool (clash a b)) H) := by
  refine AC.body (N := 22) [.tmp 4] Tryz.func128 rfl rfl rfl (Nat.le_of_ble_eq_true rfl) fun B hB => ?_
  repeat (refine aw_seq ?_)
  refine Za1 ?_
  refine Za0 ?_
  refine Z9 ?_
  refine Z4h ?_
  repeat (first | refine then_nrm ?_ | refine aw_seq ?_)
  refine aw_out 4 (.bool (clash a b)) ?_ ?_
  · refine Z5h ?_
    refine Z5h ?_
    refine Za7 ?_
    refine Zc ?_
    refine ao_split rfl rfl (fun hg9 => ?_) (fun hg9 => ?_)
    · refine Z5l ?_
      refine ao_y rfl rfl (by decide) (V2.call (set_Apart _ _ (by omega) (by omega) _) rfl) ?_
      refine Z1f ?_
      refine Zh ?_
      exact Za8
    · refine Z3n ?_
      refine Zo ?_
      exact Za8
  repeat (first | refine then_nrm ?_ | refine aw_ret ?_)
  exact Z7
theorem held_Right_1 (x y : Held) (ia : Nat) (H : Heap) (hx : x.things.length ≤ 1000000) (hy : y.things.length ≤ 1000000) (ha : H[ia]? = some ⟨0, 4, [eHeld y]⟩) : AC Tryz.prog 127 [.agg (eHeld x), .pt ia 0 0 0] H (Ret (.bool (clash x y)) H) := by
  have hF := ha
  refine AC.body (N := 7) [.tmp 3] Tryz.func127 rfl rfl rfl (Nat.le_of_ble_eq_true rfl) fun B hB => ?_
  repeat (refine aw_seq ?_)
  refine Za1 ?_
  refine Z1y ?_
  repeat (first | refine then_nrm ?_ | refine aw_seq ?_)
  refine Z2i ?_
  refine Za9 ?_
  refine Zaa ?_
  refine Z9 ?_
  repeat (first | refine then_nrm ?_ | refine aw_ret ?_)
  exact Z7
theorem slices_IndexFuncH (l : List Held) (h : Held) (ia : Nat) (H : Heap) (hl : HW l) (hy : h.things.length ≤ 1000000) (ha : H[ia]? = some ⟨0, 4, [eHeld h]⟩) :
    AC Tryz.prog 165 [.pl (l.map eHeld), .fn (.func 127) [] [.pt ia 0 0 0]] H (Ret (.int .i64 (ixf (fun x => clash x h) l)) H) := by
  have hl1 := hl.1
  refine AC.body (N := 19) [.tmp 4] Tryz.func165 rfl rfl rfl (Nat.le_of_ble_eq_true rfl) fun B hB => ?_
  repeat (refine aw_seq ?_)
  refine Z3 ?_
  repeat (first | refine then_nrm ?_ | refine aw_seq ?_)
  refine Z5t ?_
  repeat (first | refine then_nrm ?_ | refine aw_block ?_)
  refine aw_loop (G := Nat) (fun k => k ≤ l.length ∧ ∀ y ∈ l.take k, clash y h = false) (fun k => [(0, .pl (l.map eHeld)), (1, .fn (.func 127) [] [.pt ia 0 0 0]), (7, .int .i64 (l.length : Int)), (8, .int .i64 (k : Int))]) (fun _ => H ++ []) (fun k => l.length - k) 0 ⟨Nat.zero_le _, by simp⟩ (by repeat (first | exact Sub.nil | refine Sub.cons (by first | rfl | (simp [get]; done)) ?_)) (Fit.refl _ _) ?_
  rintro k ⟨hk, hno⟩
  repeat (refine aw_seq ?_)
  refine Z36 ?_
  repeat (first | refine then_nrm ?_ | refine aw_seq ?_)
  refine aw_cond rfl (fun hc => ?_) (fun hc => ?_)
  · have hlt : k < l.length := by simp at hc; omega
    obtain ⟨x, hx, hxl⟩ := get_in hlt
    have hr := map_get eHeld hx
    have hxw := hl.2 x hxl
    repeat (first | refine then_nrm ?_ | refine aw_seq ?_ | refine aw_block ?_ | refine aw_skip ?_)
    refine Z13 ?_
    repeat (first | refine then_nrm ?_ | refine aw_seq ?_)
    refine Z1e ?_
    refine Z9n ?_
    refine Z7n ?_
    refine ao_retv (held_Right_1 x h ia _ hxw hy (lkF ha)) rfl rfl (by decide) ?_
    refine ao_nil ?_
    repeat (refine then_nrm ?_)
    refine aw_cond rfl (fun hc => ?_) (fun hc => ?_)
    · repeat (refine aw_seq ?_)
      refine Z13 ?_
      repeat (first | refine then_nrm ?_ | refine then_ret ?_ | refine blk_ret ?_ | refine aw_ret ?_)
      rw [ixf_some (p := fun x : Held => clash x h) hx hc hno]
      exact Z7
    · repeat (first | refine then_nrm ?_ | refine blk_nrm ?_ | refine aw_skip ?_)
      refine Z3i ?_
      repeat (refine then_nrm ?_)
      refine ⟨k + 1, by omega, ⟨by omega, ?_⟩, (by repeat (first | exact Sub.nil | refine Sub.cons (by rfl) ?_)), .refl _ _⟩
      rw [take_snoc_get hx]
      intro y hy
      rcases List.mem_append.1 hy with h | h
      · exact hno y h
      · simp only [List.mem_singleton] at h
        subst h
        exact hc
  · have : k = l.length := by simp at hc; omega
    subst this
    rw [List.take_length] at hno
    rw [ixf_none hno]
    repeat (first | refine then_nrm ?_ | refine then_brk ?_ | refine blk_hit ?_ | refine aw_seq ?_ | refine aw_exit ?_)
    refine Z3 ?_
    repeat (first | refine then_nrm ?_ | refine aw_ret ?_)
    exact Z7
theorem slices_ContainsFuncH (l : List Held) (h : Held) (ia : Nat) (H : Heap) (hl : HW l) (hy : h.things.length ≤ 1000000) (ha : H[ia]? = some ⟨0, 4, [eHeld h]⟩) :
    AC Tryz.prog 126 [.pl (l.map eHeld), .fn (.func 127) [] [.pt ia 0 0 0]] H (Ret (.bool (l.any fun x => clash x h)) H) := by
  refine AC.body (N := 9) [.tmp 4] Tryz.func126 rfl rfl rfl (Nat.le_of_ble_eq_true rfl) fun B hB => ?_
  repeat (refine aw_seq ?_)
  refine Za ?_
  repeat (first | refine then_nrm ?_ | refine aw_seq ?_)
  refine Z2r ?_
  refine Z1d ?_
  refine ao2 (by rintro _ ⟨⟩; decide) (V2.call (slices_IndexFuncH l h ia _ hl hy (lkF ha)) rfl) ?_
  refine Z1c ?_
  refine Z9o ?_
  repeat (first | refine then_nrm ?_ | refine aw_ret ?_)
  rw [← ixf_nonneg]
  exact Z7
set_option maxHeartbeats 0 in
theorem held_Right (l : List Held) (H : Heap) (hl : HW l) : AC Tryz.prog 76 [.pl (l.map eHeld)] H (Ret (.bool (heldR l)) H) := by
  have hl1 := hl.1
  refine AC.body (N := 41) [.tmp 2] Tryz.func76 rfl rfl rfl (Nat.le_of_ble_eq_true rfl) fun B hB => ?_
  repeat (refine aw_seq ?_)
  refine Za ?_
  repeat (first | refine then_nrm ?_ | refine aw_seq ?_)
  refine Z59 ?_
  refine Z1t ?_
  repeat (refine then_nrm ?_)
  refine aw_cond rfl (fun hc => ?_) (fun hc => ?_)
  · have h256 : ¬ l.length ≤ 256 := by simp at hc; omega
    repeat (refine aw_seq ?_)
    refine Za ?_
    repeat (first | refine then_nrm ?_ | refine then_ret ?_ | refine aw_ret ?_)
    rw [show heldR l = false by rw [heldR, decide_eq_false h256, Bool.false_and]]
    exact Z7
  have h256 : l.length ≤ 256 := by simp at hc; omega
  rw [show heldR l = allI (heldB l) l.length by rw [heldR, decide_eq_true h256, Bool.true_and]]
  repeat (first | refine then_nrm ?_ | refine aw_seq ?_ | refine aw_skip ?_)
  refine Z5t ?_
  repeat (first | refine then_nrm ?_ | refine aw_block ?_)
  refine aw_loop (G := Nat) (fun i => i ≤ l.length ∧ ∀ k, k < i → heldB l k = true) (fun i => [(0, .pl (l.map eHeld)), (8, .pl (l.map eHeld)), (9, .int .i64 (l.length : Int)), (10, .int .i64 (i : Int))]) (fun _ => H ++ []) (fun i => l.length - i) 0 ⟨Nat.zero_le _, fun k hk => by omega⟩ (by repeat (first | exact Sub.nil | refine Sub.cons (by first | rfl | (simp [get]; done)) ?_)) (Fit.refl _ _) ?_
  rintro i ⟨hi, hno⟩
  repeat (refine aw_seq ?_)
  refine Z36 ?_
  repeat (first | refine then_nrm ?_ | refine aw_seq ?_)
  refine aw_cond rfl (fun hc => ?_) (fun hc => ?_)
  · have hlt : i < l.length := by simp at hc; omega
    obtain ⟨h, hh, hhl⟩ := get_in hlt
    have hr := map_get eHeld hh
    have hw := hl.2 h hhl
    have hB2 := heldB_get hh
    have hno0 := hno
    have hli : ((l.map eHeld).take i) = (l.take i).map eHeld := by rw [List.map_take]
    clear hno hc
    repeat (first | refine then_nrm ?_ | refine aw_seq ?_ | refine aw_block ?_ | refine aw_skip ?_)
    refine Z7o ?_
    refine Z5r ?_
    refine Z1 ?_
    refine Zab ?_
    refine Z7s ?_
    clear hr
    by_cases h0 : 0 < i
    · obtain ⟨h1, hh1, _⟩ := get_in (l := l) (k := i - 1) (by omega)
      have hr1 := map_get eHeld hh1
      rw [heldId_get hh1, decide_eq_true h0, Bool.true_and] at hB2
      clear hh hhl hh1
      repeat (first | refine then_nrm ?_ | refine aw_seq ?_)
      refine aw_of_out 39 (.bool (!heldB l i)) ?_ ?_
      · refine Zad ?_
        refine Zae ?_
        refine Zaf ?_
        refine Z67 ?_
        refine aq_split (g := 18) rfl (fun hg3 => ?_) (fun hg3 => ?_)
        · refine Zag ?_
          refine Zah ?_
          refine Zai ?_
          refine Zaj ?_
          refine Zak ?_
          refine Zal ?_
          refine Zam ?_
          refine Zan ?_
          refine Zao ?_
          refine Zap ?_
          refine Zaq ?_
          refine Zar ?_
          refine Zas ?_
          refine Zat ?_
          refine Zau ?_
          refine Zav ?_
          refine Zaw ?_
          refine Zax ?_
          refine Zay ?_
          refine Zaz ?_
          refine Zb0 ?_
          exact Zb1
        · refine Zb2 ?_
          refine Zb3 ?_
          refine Zb4 ?_
          refine aq_split (g := 21) rfl (fun hg6 => ?_) (fun hg6 => ?_)
          · refine aqyp (g := 21) 7 rfl (by decide +kernel) (by decide) rfl rfl (fun G => w_fieldAddr rfl (lk rfl rfl) rfl (by decide)) ?_
            refine aqyp (g := 21) 8 rfl (by decide +kernel) (by decide) rfl rfl (fun G => w_load1 (v := .int _ _) rfl (lk rfl rfl) rfl rfl rfl) ?_
            refine aqy0 (g := 21) 9 rfl (by decide +kernel) (by decide) rfl rfl (fun _ => o_move (v := .pl _) rfl) ?_
            refine Zb5 ?_
            refine aqy0 (g := 21) 11 rfl (by decide +kernel) (by decide) rfl rfl (fun _ => o_sub (r := ((i - 1 : Nat) : Int)) rfl rfl (by rw [show (i : Int) - 1 = ((i - 1 : Nat) : Int) by omega]; exact wrap64_ok (by omega) (by omega))) ?_
            refine aqyp (g := 21) 12 rfl (by decide +kernel) (by decide) rfl rfl (fun G => w_indexAddrpN rfl rfl hr1 rfl) ?_
            refine aqyp (g := 21) 13 rfl (by decide +kernel) (by decide) rfl rfl (fun G => w_fieldAddrp rfl (by decide)) ?_
            refine aqyp (g := 21) 14 rfl (by decide +kernel) (by decide) rfl rfl (fun G => o_load1p (v := .int _ _) rfl hr1 rfl) ?_
            refine aqy0 (g := 21) 15 rfl (by decide +kernel) (by decide) rfl rfl (fun _ => o_le rfl rfl) ?_
            refine aqy0 (g := 18) 16 rfl (by decide +kernel) (by decide) rfl rfl (fun _ => o_pick_t (v := .bool _) rfl rfl) ?_
            refine Zb6 ?_
            refine Zau ?_
            refine aq_split (g := 33) rfl (fun hg18 => ?_) (fun hg18 => ?_)
            · refine Zav ?_
              refine Zaw ?_
              refine Zax ?_
              refine Zay ?_
              refine Zaz ?_
              refine Zb0 ?_
              exact Zb1
            · refine Zb7 ?_
              refine Zb8 ?_
              refine Zb9 ?_
              refine Zba ?_
              refine Zbb ?_
              refine Zbc ?_
              exact aa_done (by decide +kernel) (by exact fun _ => ⟨_, rfl⟩) (Out.mk (by (refine congrArg AV.bool ?_; (rw [hB2]; clear hB hr1 hB2 hno0 hli; (simp_all; omega)))) (by repeat (first | exact SubX.refl _ _ | refine SubX.at ?_ | refine SubX.put rfl ?_)))
          · refine Zbd ?_
            refine Zbe ?_
            refine Zbf ?_
            refine Zbg ?_
            refine Zbh ?_
            refine Zbi ?_
            refine Zbj ?_
            refine Zbk ?_
            refine Zbl ?_
            refine Zbm ?_
            refine Zb6 ?_
            refine Zau ?_
            refine Zb7 ?_
            refine Zb8 ?_
            refine Zb9 ?_
            refine Zba ?_
            refine Zbb ?_
            refine Zbc ?_
            exact Zb1
      repeat (refine then_nrm ?_)
      refine aw_cond rfl (fun hc => ?_) (fun hc => ?_)
      · have hbad : heldB l i = false := by simpa only [Bool.not_eq_true'] using hc
        repeat (refine aw_seq ?_)
        refine Za ?_
        repeat (first | refine then_nrm ?_ | refine then_ret ?_ | refine blk_ret ?_ | refine aw_ret ?_)
        rw [allI_false hlt hbad]
        exact Z7
      · have hgood : heldB l i = true := by simpa only [Bool.not_eq_false'] using hc
        repeat (first | refine then_nrm ?_ | refine blk_nrm ?_ | refine aw_skip ?_)
        refine Z3i ?_
        repeat (refine then_nrm ?_)
        refine ⟨i + 1, by omega, ⟨by omega, fun k hk => ?_⟩, (by repeat (first | exact Sub.nil | refine Sub.cons (by rfl) ?_)), Fit.loc hB (L := []) rfl (by repeat (first | exact EBel.nil | refine EBel.cons (by rfl) ?_)) (fun o ho => by simp at ho)⟩
        rcases Nat.lt_or_eq_of_le (Nat.le_of_lt_succ hk) with h | h
        · exact hno0 k h
        · subst h; exact hgood
    · rw [decide_eq_false h0, Bool.false_and, Bool.not_false, Bool.and_true] at hB2
      clear hh hhl
      repeat (first | refine then_nrm ?_ | refine aw_seq ?_)
      refine aw_of_out 39 (.bool (!heldB l i)) ?_ ?_
      · refine Zad ?_
        refine Zae ?_
        refine Zaf ?_
        refine Z67 ?_
        refine aq_split (g := 18) rfl (fun hg3 => ?_) (fun hg3 => ?_)
        · refine Zag ?_
          refine Zah ?_
          refine Zai ?_
          refine Zaj ?_
          refine Zak ?_
          refine Zal ?_
          refine Zam ?_
          refine Zan ?_
          refine Zao ?_
          refine Zap ?_
          refine Zaq ?_
          refine Zar ?_
          refine Zas ?_
          refine Zat ?_
          refine Zau ?_
          refine Zav ?_
          refine Zaw ?_
          refine Zax ?_
          refine Zay ?_
          refine Zaz ?_
          refine Zb0 ?_
          exact Zbn
        · refine Zb2 ?_
          refine Zb3 ?_
          refine Zb4 ?_
          refine aq_split (g := 21) rfl (fun hg6 => ?_) (fun hg6 => ?_)
          · exfalso; simp at hg6; omega
          · refine Zbd ?_
            refine Zbe ?_
            refine Zbf ?_
            refine Zbg ?_
            refine Zbh ?_
            refine Zbi ?_
            refine Zbj ?_
            refine Zbk ?_
            refine Zbl ?_
            refine Zbm ?_
            refine Zb6 ?_
            refine Zau ?_
            refine Zb7 ?_
            refine Zb8 ?_
            refine Zb9 ?_
            refine Zba ?_
            refine Zbb ?_
            refine Zbc ?_
            exact Zbn
      repeat (refine then_nrm ?_)
      refine aw_cond rfl (fun hc => ?_) (fun hc => ?_)
      · have hbad : heldB l i = false := by simpa only [Bool.not_eq_true'] using hc
        repeat (refine aw_seq ?_)
        refine Za ?_
        repeat (first | refine then_nrm ?_ | refine then_ret ?_ | refine blk_ret ?_ | refine aw_ret ?_)
        rw [allI_false hlt hbad]
        exact Z7
      · have hgood : heldB l i = true := by simpa only [Bool.not_eq_false'] using hc
        repeat (first | refine then_nrm ?_ | refine blk_nrm ?_ | refine aw_skip ?_)
        refine Z3i ?_
        repeat (refine then_nrm ?_)
        refine ⟨i + 1, by omega, ⟨by omega, fun k hk => ?_⟩, (by repeat (first | exact Sub.nil | refine Sub.cons (by rfl) ?_)), Fit.loc hB (L := []) rfl (by repeat (first | exact EBel.nil | refine EBel.cons (by rfl) ?_)) (fun o ho => by simp at ho)⟩
        rcases Nat.lt_or_eq_of_le (Nat.le_of_lt_succ hk) with h | h
        · exact hno0 k h
        · subst h; exact hgood
  · have : i = l.length := by simp at hc; omega
    subst this
    repeat (first | refine then_nrm ?_ | refine then_brk ?_ | refine blk_hit ?_ | refine aw_seq ?_ | refine aw_exit ?_)
    refine Za ?_
    repeat (first | refine then_nrm ?_ | refine aw_ret ?_)
    rw [allI_true hno]
    exact Z7
end Go.Av

namespace Go.Av
open Go.Proofs
set_option maxRecDepth 10000
set_option linter.unusedSimpArgs false
set_option linter.unusedVariables false
theorem held_find_1 (x : Held) (id : Int) (H : Heap) : AC Tryz.prog 192 [.agg (eHeld x), .int .i64 id] H (Ret (.int .i64 (cmpI x.id id)) H) := by
  refine AC.body (N := 9) [.tmp 4] Tryz.func192 rfl rfl rfl (Nat.le_of_ble_eq_true rfl) fun B hB => ?_
  repeat (refine aw_seq ?_)
  refine Za1 ?_
  refine Z2 ?_
  refine Z1x ?_
  repeat (first | refine then_nrm ?_ | refine aw_seq ?_)
  refine Z4y ?_
  refine Zbo ?_
  refine Z2m ?_
  repeat (first | refine then_nrm ?_ | refine aw_ret ?_)
  exact Z7
set_option maxHeartbeats 0 in
theorem held_search (l : List Held) (id : Int) (H : Heap) (hl : l.length ≤ 1000000) (hs : l.Pairwise (fun a b => a.id < b.id)) :
    AC Tryz.prog 191 [.pl (l.map eHeld), .int .i64 id, .fn (.func 192) [] []] H (Ret (.tup [.int .i64 (heldPos l id : Int), .bool (heldHit l id)]) H) := by
  have hle := kpos_le (f := Held.id) l id
  refine AC.body (N := 49) [.tmp 6, .tmp 7] Tryz.func191 rfl rfl rfl (Nat.le_of_ble_eq_true rfl) fun B hB => ?_
  repeat (refine aw_seq ?_)
  refine Z49 ?_
  repeat (first | refine then_nrm ?_ | refine aw_seq ?_)
  refine Z59 ?_
  refine Z2 ?_
  repeat (first | refine then_nrm ?_ | refine aw_seq ?_)
  refine Zv ?_
  refine Zz ?_
  repeat (first | refine then_nrm ?_ | refine aw_seq ?_ | refine aw_block ?_)
  refine aw_loop (G := LH) (fun g => g.lo ≤ kpos Held.id l id ∧ kpos Held.id l id ≤ g.hi ∧ g.hi ≤ l.length) (fun g => [(0, .pl (l.map eHeld)), (1, .int .i64 id), (2, .fn (.func 192) [] []), (8, .int .i64 ((l.map eHeld).length : Int)), (9, .int .i64 (g.lo : Int)), (10, .int .i64 (g.hi : Int))]) (fun _ => H ++ []) (fun g => g.hi - g.lo) ⟨0, (l.map eHeld).length⟩ ⟨Nat.zero_le _, by simp only [List.length_map]; exact hle, by simp⟩ (by repeat (first | exact Sub.nil | refine Sub.cons (by rfl) ?_)) (Fit.refl _ _) ?_
  rintro ⟨lo, hi⟩ ⟨i1, i2, i3⟩
  simp only at i1 i2 i3 ⊢
  repeat (refine aw_seq ?_)
  refine Z1o ?_
  refine Z14 ?_
  repeat (refine then_nrm ?_)
  refine aw_cond rfl (fun hc => ?_) (fun hc => ?_)
  · have hlt : lo < hi := by simpa using hc
    obtain ⟨x, hx, hxl⟩ := get_in (l := l) (k := (lo + hi) / 2) (by omega)
    have hr := map_get eHeld hx
    repeat (first | refine then_nrm ?_ | refine aw_seq ?_ | refine aw_block ?_ | refine aw_skip ?_)
    refine Z1o ?_
    refine Zbp ?_
    refine Zbq ?_
    refine Zbr ?_
    refine Zbs ?_
    refine Z2 ?_
    repeat (first | refine then_nrm ?_ | refine aw_seq ?_)
    refine Z1e ?_
    refine Z9n ?_
    refine Z7n ?_
    refine Z6 ?_
    refine ao_retv (held_find_1 x id _) rfl rfl (by decide) ?_
    refine Z14 ?_
    repeat (refine then_nrm ?_)
    refine aw_cond rfl (fun hc => ?_) (fun hc => ?_)
    · have hk : x.id < id := by simp only [decide_eq_true_eq] at hc; unfold cmpI at hc; split at hc <;> first | assumption | (split at hc <;> omega)
      have hp : (lo + hi) / 2 + 1 ≤ kpos Held.id l id := by
        rcases Nat.lt_or_ge ((lo + hi) / 2) (kpos Held.id l id) with h | h
        · omega
        · have := kpos_ge hs h hx; omega
      refine Zv ?_
      refine Zbt ?_
      refine Z2 ?_
      repeat (first | refine then_nrm ?_ | refine blk_nrm ?_)
      exact ⟨⟨(lo + hi) / 2 + 1, hi⟩, by simp only; omega, ⟨hp, i2, i3⟩, (by repeat (first | exact Sub.nil | refine Sub.cons (by rfl) ?_)), .refl _ _⟩
    · have hk : id ≤ x.id := by simp only [decide_eq_false_iff_not] at hc; unfold cmpI at hc; split at hc <;> first | (exfalso; exact hc (by decide)) | omega
      have hp : kpos Held.id l id ≤ (lo + hi) / 2 := by
        rcases Nat.lt_or_ge ((lo + hi) / 2) (kpos Held.id l id) with h | h
        · have := kpos_lt (f := Held.id) h hx; omega
        · exact h
      refine Z13 ?_
      repeat (first | refine then_nrm ?_ | refine blk_nrm ?_)
      exact ⟨⟨lo, (lo + hi) / 2⟩, by simp only; omega, ⟨i1, hp, by simp only; omega⟩, (by repeat (first | exact Sub.nil | refine Sub.cons (by rfl) ?_)), .refl _ _⟩
  · have hlt : ¬ lo < hi := by simpa using hc
    obtain rfl : lo = kpos Held.id l id := by omega
    have hml : (l.map eHeld).length = l.length := by simp
    clear hc
    repeat (first | refine then_nrm ?_ | refine then_brk ?_ | refine blk_hit ?_ | refine aw_seq ?_ | refine aw_exit ?_)
    refine aw_joinQ ([(6, .int .i64 (heldPos l id : Int)), (7, .bool (heldHit l id))]) (H ++ []) ?_ ?_
    · by_cases hn : kpos Held.id l id < l.length
      · obtain ⟨x, hx, hxl⟩ := get_in hn
        have hr := map_get eHeld hx
        have hh : heldHit l id = (cmpI x.id id == 0) := by
          rw [heldHit, show heldPos l id = kpos Held.id l id from rfl, decide_eq_true hn, Bool.true_and, heldId_get hx, Bool.eq_iff_iff]
          unfold cmpI
          simp only [decide_eq_true_eq, beq_iff_eq]
          split
          · omega
          · split <;> omega
        refine Zv ?_
        refine Z1u ?_
        refine Zq ?_
        refine ao_split rfl rfl (fun hg4 => ?_) (fun hg4 => ?_)
        · refine Zbu ?_
          refine Zbx ?_
          refine Z7m ?_
          refine Ze ?_
          refine ao_y rfl rfl (by decide) (V2.callv (held_find_1 x id _) rfl rfl) ?_
          refine Z3s ?_
          refine Zg ?_
          refine Z48 ?_
          (exact join_nrm (by rw [hh]; exact (by repeat (first | exact Sub.nil | refine Sub.cons (by rfl) ?_))) (.inl rfl))
        · refine Z3o ?_
          refine Zm ?_
          refine Z48 ?_
          ((exfalso; simp at hg4; omega))
      · have hh : heldHit l id = false := by rw [heldHit, show heldPos l id = kpos Held.id l id from rfl, decide_eq_false hn, Bool.false_and]
        refine Zv ?_
        refine Z1u ?_
        refine Zq ?_
        refine ao_split rfl rfl (fun hg4 => ?_) (fun hg4 => ?_)
        · exfalso; simp at hg4; omega
        · refine Z3o ?_
          refine Zm ?_
          refine Z48 ?_
          (exact join_nrm (by rw [hh]; exact (by repeat (first | exact Sub.nil | refine Sub.cons (by rfl) ?_))) (.inl rfl))
    repeat (first | refine then_nrm ?_ | refine aw_ret ?_)
    exact Z4e
theorem held_find (l : List Held) (id : Int) (H : Heap) (hl : l.length ≤ 1000000) (hs : l.Pairwise (fun a b => a.id < b.id)) : AC Tryz.prog 167 [.pl (l.map eHeld), .int .i64 id] H (Ret (.tup [.int .i64 (heldPos l id : Int), .bool (heldHit l id)]) H) := by
  refine AC.body (N := 11) [.tmp 4, .tmp 5] Tryz.func167 rfl rfl rfl (Nat.le_of_ble_eq_true rfl) fun B hB => ?_
  repeat (refine aw_seq ?_)
  refine Z49 ?_
  repeat (first | refine then_nrm ?_ | refine aw_seq ?_)
  refine Z95 ?_
  refine ao_ret (held_search _ _ _ (by omega) (by assumption)) rfl (by decide) ?_
  refine Z53 ?_
  repeat (first | refine then_nrm ?_ | refine aw_ret ?_)
  exact Z4e
theorem held_copied (h : Held) (H : Heap) (hw : h.things.length ≤ 1000000) : AC Tryz.prog 168 [.agg (eHeld h)] H (Ret (.agg (eHeld h)) H) := by
  refine AC.body (N := 8) [.cell 2 60] Tryz.func168 rfl rfl rfl (Nat.le_of_ble_eq_true rfl) fun B hB => ?_
  repeat (refine aw_seq ?_)
  refine Za1 ?_
  refine Z5r ?_
  refine ao_nil ?_
  refine Zby ?_
  repeat (first | refine then_nrm ?_ | refine aw_seq ?_)
  refine Z30 ?_
  refine Z4j ?_
  refine Z1z ?_
  refine Zbz ?_
  refine Z4m ?_
  repeat (first | refine then_nrm ?_ | refine aw_seq ?_)
  refine Z2i ?_
  refine Zab ?_
  refine ao_nil ?_
  refine Z4w ?_
  repeat (first | refine then_nrm ?_ | refine aw_ret ?_)
  exact Zc0
theorem held_Get (l : List Held) (id : Int) (H : Heap) (hw : HW l) : AC Tryz.prog 129 [.pl (l.map eHeld), .int .i64 id] H (Ret (.tup [.agg (eHeld (heldGet l id).1), .bool (heldGet l id).2]) H) := by
  have hw1 := hw.1
  refine AC.body (N := 26) [.cell 4 60, .tmp 5] Tryz.func129 rfl rfl rfl (Nat.le_of_ble_eq_true rfl) fun B hB => ?_
  repeat (refine aw_seq ?_)
  refine aw_region ?_
  refine Z5r ?_
  refine Z9 ?_
  refine Z5s ?_
  repeat (first | refine then_nrm ?_ | refine aw_seq ?_)
  refine Zc3 ?_
  repeat (refine then_nrm ?_)
  refine aw_cond rfl (fun hc => ?_) (fun hc => ?_)
  · have hno : heldR l = false := by simpa only [Bool.not_eq_true'] using hc
    rw [show heldGet l id = (held0, false) by rw [heldGet, hno]; rfl]
    repeat (refine aw_seq ?_)
    refine aw_region ?_
    refine Zc4 ?_
    refine Zab ?_
    refine Z9 ?_
    refine Zc5 ?_
    repeat (first | refine then_nrm ?_ | refine then_ret ?_ | refine aw_ret ?_)
    exact Z4x
  have hyes : heldR l = true := by simpa only [Bool.not_eq_false'] using hc
  have hs := heldR_sorted hyes
  repeat (first | refine then_nrm ?_ | refine aw_seq ?_ | refine aw_skip ?_)
  refine Z95 ?_
  refine Zc6 ?_
  refine Z54 ?_
  repeat (first | refine then_nrm ?_ | refine aw_seq ?_)
  refine Z56 ?_
  repeat (refine then_nrm ?_)
  refine aw_cond rfl (fun hc => ?_) (fun hc => ?_)
  · have hno : heldHit l id = false := by simpa only [Bool.not_eq_true'] using hc
    rw [show heldGet l id = (held0, false) by rw [heldGet, hyes, hno]; rfl]
    repeat (refine aw_seq ?_)
    refine aw_region ?_
    refine Zc4 ?_
    refine Zab ?_
    refine Z9 ?_
    refine Zc5 ?_
    repeat (first | refine then_nrm ?_ | refine then_ret ?_ | refine aw_ret ?_)
    exact Z4x
  have hhit : heldHit l id = true := by simpa only [Bool.not_eq_false'] using hc
  have hn : heldPos l id < l.length := by simp only [heldHit, Bool.and_eq_true, decide_eq_true_eq] at hhit; exact hhit.1
  obtain ⟨x, hx, hxl⟩ := get_in hn
  have hr := map_get eHeld hx
  have hxw := hw.2 x hxl
  rw [show heldGet l id = (x, true) by rw [heldGet, hyes, hhit, heldAt_get hx]; rfl]
  repeat (first | refine then_nrm ?_ | refine aw_seq ?_ | refine aw_skip ?_)
  refine Z95 ?_
  refine Z7n ?_
  refine Zc7 ?_
  refine Zab ?_
  refine Z9 ?_
  refine Z5w ?_
  repeat (first | refine then_nrm ?_ | refine aw_ret ?_)
  exact Z4x
set_option maxHeartbeats 0 in
theorem held_Busy (l : List Held) (frm to : Int) (H : Heap) (hw : HW l) : ACT Tryz.prog KD 29 [.pl (l.map eHeld), .int .i64 frm, .int .i64 to] H (Ret (.pl ((heldBusy l frm to).map eInt)) H) := by
  have hw1 := hw.1
  refine ACT.body (N := 32) [.tmp 6] Tryz.func29 rfl rfl rfl (Nat.le_of_ble_eq_true rfl) fun B hB => ?_
  repeat (refine aw_seq ?_)
  refine Z2p ?_
  repeat (first | refine then_nrm ?_ | refine aw_seq ?_)
  refine Z2p ?_
  repeat (first | refine then_nrm ?_ | refine aw_seq ?_)
  refine Zc3 ?_
  repeat (refine then_nrm ?_)
  refine aw_cond rfl (fun hc => ?_) (fun hc => ?_)
  · have hno : heldR l = false := by simpa only [Bool.not_eq_true'] using hc
    rw [show heldBusy l frm to = [] by rw [heldBusy, hno]; rfl]
    repeat (refine aw_seq ?_)
    refine Z2p ?_
    repeat (refine then_nrm ?_)
    refine aw_nslpl 6 rfl ?_
    exact aw_ret (e_done hB (r_tmp rfl .nil) rfl rfl)
  have hyes : heldR l = true := by simpa only [Bool.not_eq_false'] using hc
  rw [show heldBusy l frm to = busyL l frm to by rw [heldBusy, hyes]; rfl]
  repeat (first | refine then_nrm ?_ | refine aw_seq ?_ | refine aw_skip ?_)
  refine Z5t ?_
  repeat (first | refine then_nrm ?_ | refine aw_block ?_)
  refine aw_nslpl 7 rfl ?_
  refine aw_loop (G := Nat) (fun k => k ≤ l.length) (fun k => [(KT, KD.av), (1, .int .i64 frm), (2, .int .i64 to), (7, .pl ((busyL (l.take k) frm to).map eInt)), (13, .pl (l.map eHeld)), (14, .int .i64 (l.length : Int)), (15, .int .i64 (k : Int))]) (fun _ => H ++ []) (fun k => l.length - k) 0 (Nat.zero_le _) (by repeat (first | exact Sub.nil | refine Sub.cons (by first | rfl | (simp [get]; done)) ?_)) (Fit.refl _ _) ?_
  intro k hk
  repeat (refine aw_seq ?_)
  refine Z36 ?_
  repeat (first | refine then_nrm ?_ | refine aw_seq ?_)
  refine aw_cond rfl (fun hc => ?_) (fun hc => ?_)
  · have hlt : k < l.length := by simp at hc; omega
    obtain ⟨x, hx, hxl⟩ := get_in hlt
    have hr := map_get eHeld hx
    have hxw := hw.2 x hxl
    have hstep := busyL_step hx frm to
    have hbl := busyL_le (l.take k) frm to
    repeat (first | refine then_nrm ?_ | refine aw_seq ?_ | refine aw_block ?_ | refine aw_skip ?_)
    refine Zca ?_
    refine Z7s ?_
    repeat (first | refine then_nrm ?_ | refine aw_seq ?_)
    refine Z3p ?_
    refine Z20 ?_
    refine Z1u ?_
    refine Za7 ?_
    refine Z32 ?_
    repeat (refine then_nrm ?_)
    refine aw_cond rfl (fun hc => ?_) (fun hc => ?_)
    · rw [if_pos hc] at hstep
      refine Z2r ?_
      refine Z2z ?_
      refine Zcb ?_
      refine Z9z ?_
      refine Z55 ?_
      repeat (first | refine then_nrm ?_ | refine blk_nrm ?_)
      refine Z3i ?_
      repeat (refine then_nrm ?_)
      refine ⟨k + 1, by omega, by omega, by rw [hstep]; exact (by repeat (first | exact Sub.nil | refine Sub.cons (by rfl) ?_)), Fit.loc hB (L := []) rfl (by repeat (first | exact EBel.nil | refine EBel.cons (by rfl) ?_)) (fun o ho => by simp at ho)⟩
    · rw [if_neg (by simp [hc])] at hstep
      repeat (first | refine then_nrm ?_ | refine blk_nrm ?_ | refine aw_skip ?_)
      refine Z3i ?_
      repeat (refine then_nrm ?_)
      refine ⟨k + 1, by omega, by omega, by rw [hstep]; exact (by repeat (first | exact Sub.nil | refine Sub.cons (by rfl) ?_)), Fit.loc hB (L := []) rfl (by repeat (first | exact EBel.nil | refine EBel.cons (by rfl) ?_)) (fun o ho => by simp at ho)⟩
  · have : k = l.length := by simp at hc; omega
    subst this
    rw [List.take_length]
    repeat (first | refine then_nrm ?_ | refine then_brk ?_ | refine blk_hit ?_ | refine aw_seq ?_ | refine aw_exit ?_)
    refine Z2r ?_
    refine Z9z ?_
    repeat (first | refine then_nrm ?_ | refine aw_ret ?_)
    exact Z7
end Go.Av

namespace Go.Av
set_option linter.unusedVariables false
set_option linter.unusedSimpArgs false
theorem jright_needs {j : Job} (h : jright j = true) : j.needs.length ≤ 16 := by
  simp only [jright, jneeds, Bool.and_eq_true, decide_eq_true_eq] at h; exact h.1.1.2.1
theorem jobAt_take {l : List Job} {i k : Nat} (h : k < i) : jobAt (l.take i) k = jobAt l k := by
  rw [jobAt, jobAt, List.getD_eq_getElem?_getD, List.getD_eq_getElem?_getD, List.getElem?_take, if_pos h]
theorem jobB_take {l : List Job} {i k : Nat} (h : k < i) : jobB (l.take i) k = jobB l k := by
  unfold jobB jobId
  rw [List.getElem?_take, if_pos h, List.take_take, Nat.min_eq_left (Nat.le_of_lt h)]
  cases l[k]? with
  | none => rfl
  | some j =>
    simp only
    rw [jobAt_take (by omega)]
theorem jobs_take_ok {l : List Job} {i : Nat} (h64 : l.length ≤ 64) (h : ∀ k, k < i → jobB l k = true) : jobsR (l.take i) = true := by
  rw [jobsR, Bool.and_eq_true, decide_eq_true_eq]
  refine ⟨by rw [List.length_take]; omega, allI_true fun k hk => ?_⟩
  rw [List.length_take] at hk
  rw [jobB_take (by omega)]
  exact h k (by omega)
theorem jobs_take_sorted {l : List Job} {i : Nat} (h64 : l.length ≤ 64) (h : ∀ k, k < i → jobB l k = true) : (l.take i).Pairwise (fun a b => a.id < b.id) := (jobs_iff.1 (jobs_take_ok h64 h)).2.2.1
theorem jobB_get {l : List Job} {i : Nat} {j : Job} (e : l[i]? = some j) : jobB l i = (jright j && !(decide (0 < i) && (decide (j.id ≤ jobId l (i - 1)) || decide (j.came < (jobAt l (i - 1)).came))) && j.needs.all fun n => jobHit (l.take i) n) := by rw [jobB, e]
theorem jobId_get {l : List Job} {i : Nat} {j : Job} (e : l[i]? = some j) : jobId l i = j.id := by rw [jobId, jobAt_get e]
theorem jobsR_sorted {l : List Job} (h : jobsR l = true) : l.Pairwise (fun a b => a.id < b.id) := (jobs_iff.1 h).2.2.1
def runs (l : List Job) : Nat := (l.filter fun j => decide (j.state = 2)).length
theorem runs_step {l : List Job} {k : Nat} {j : Job} (e : l[k]? = some j) : runs (l.take (k + 1)) = runs (l.take k) + if decide (j.state = 2) then 1 else 0 := by
  rw [runs, runs, List.take_add_one, e, List.filter_append, List.length_append]
  simp only [Option.toList_some, List.filter_cons, List.filter_nil]
  cases h : decide (j.state = 2) <;> simp
theorem runs_le (l : List Job) : runs l ≤ l.length := List.length_filter_le _ _
theorem itoldB_get {i : Inst} {k : Nat} {j : Job} (e : i.jobs[k]? = some j) : itoldB i k = (decide (j.came ≤ i.now) && decide (j.frm ≤ i.now) && (decide (j.state ≠ 2) ||
  ((heldGet i.table j.id).2 && decide ((heldGet i.table j.id).1.frm = j.frm) && decide ((heldGet i.table j.id).1.to = sEnds j.spec j.frm) &&
    decide (i.now < (heldGet i.table j.id).1.to) && ithings i.graph (heldGet i.table j.id).1.things))) := by rw [itoldB, jobAt_get e]
theorem heldGet_len {l : List Held} (h : HW l) (id : Int) : (heldGet l id).1.things.length ≤ 1000000 := by
  rw [heldGet]
  split
  · rename_i hh
    simp only [Bool.and_eq_true, heldHit, decide_eq_true_eq] at hh
    obtain ⟨x, hx, hxl⟩ := get_in hh.2.1
    simp only [heldAt_get hx]
    exact h.2 x hxl
  · decide
structure IW (i : Inst) : Prop where
  graph : i.graph.length ≤ 1000000
  health : i.health.length ≤ 1000000
  lease : i.lease.length ≤ 1000000
  jobs : i.jobs.length ≤ 1000000
  table : HW i.table
end Go.Av

namespace Go.Av
open Go.Proofs
set_option maxRecDepth 10000
set_option linter.unusedSimpArgs false
set_option linter.unusedVariables false
theorem queue_find_1 (x : Job) (id : Int) (H : Heap) : AC Tryz.prog 135 [.agg (eJob x), .int .i64 id] H (Ret (.int .i64 (cmpI x.id id)) H) := by
  refine AC.body (N := 9) [.tmp 4] Tryz.func135 rfl rfl rfl (Nat.le_of_ble_eq_true rfl) fun B hB => ?_
  repeat (refine aw_seq ?_)
  refine Z2x ?_
  refine Z2 ?_
  refine Z1x ?_
  repeat (first | refine then_nrm ?_ | refine aw_seq ?_)
  refine Z4y ?_
  refine Zbo ?_
  refine Z2m ?_
  repeat (first | refine then_nrm ?_ | refine aw_ret ?_)
  exact Z7
set_option maxHeartbeats 0 in
theorem queue_search (l : List Job) (id : Int) (H : Heap) (hl : l.length ≤ 1000000) (hs : l.Pairwise (fun a b => a.id < b.id)) :
    AC Tryz.prog 134 [.pl (l.map eJob), .int .i64 id, .fn (.func 135) [] []] H (Ret (.tup [.int .i64 (jobPos l id : Int), .bool (jobHit l id)]) H) := by
  have hle := kpos_le (f := Job.id) l id
  refine AC.body (N := 49) [.tmp 6, .tmp 7] Tryz.func134 rfl rfl rfl (Nat.le_of_ble_eq_true rfl) fun B hB => ?_
  repeat (refine aw_seq ?_)
  refine Z49 ?_
  repeat (first | refine then_nrm ?_ | refine aw_seq ?_)
  refine Z59 ?_
  refine Z2 ?_
  repeat (first | refine then_nrm ?_ | refine aw_seq ?_)
  refine Zv ?_
  refine Zz ?_
  repeat (first | refine then_nrm ?_ | refine aw_seq ?_ | refine aw_block ?_)
  refine aw_loop (G := LH) (fun g => g.lo ≤ kpos Job.id l id ∧ kpos Job.id l id ≤ g.hi ∧ g.hi ≤ l.length) (fun g => [(0, .pl (l.map eJob)), (1, .int .i64 id), (2, .fn (.func 135) [] []), (8, .int .i64 ((l.map eJob).length : Int)), (9, .int .i64 (g.lo : Int)), (10, .int .i64 (g.hi : Int))]) (fun _ => H ++ []) (fun g => g.hi - g.lo) ⟨0, (l.map eJob).length⟩ ⟨Nat.zero_le _, by simp only [List.length_map]; exact hle, by simp⟩ (by repeat (first | exact Sub.nil | refine Sub.cons (by rfl) ?_)) (Fit.refl _ _) ?_
  rintro ⟨lo, hi⟩ ⟨i1, i2, i3⟩
  simp only at i1 i2 i3 ⊢
  repeat (refine aw_seq ?_)
  refine Z1o ?_
  refine Z14 ?_
  repeat (refine then_nrm ?_)
  refine aw_cond rfl (fun hc => ?_) (fun hc => ?_)
  · have hlt : lo < hi := by simpa using hc
    obtain ⟨x, hx, hxl⟩ := get_in (l := l) (k := (lo + hi) / 2) (by omega)
    have hr := map_get eJob hx
    repeat (first | refine then_nrm ?_ | refine aw_seq ?_ | refine aw_block ?_ | refine aw_skip ?_)
    refine Z1o ?_
    refine Zbp ?_
    refine Zbq ?_
    refine Zbr ?_
    refine Zbs ?_
    refine Z2 ?_
    repeat (first | refine then_nrm ?_ | refine aw_seq ?_)
    refine Z1e ?_
    refine Z9n ?_
    refine Z7n ?_
    refine Z6 ?_
    refine ao_retv (queue_find_1 x id _) rfl rfl (by decide) ?_
    refine Z14 ?_
    repeat (refine then_nrm ?_)
    refine aw_cond rfl (fun hc => ?_) (fun hc => ?_)
    · have hk : x.id < id := by simp only [decide_eq_true_eq] at hc; unfold cmpI at hc; split at hc <;> first | assumption | (split at hc <;> omega)
      have hp : (lo + hi) / 2 + 1 ≤ kpos Job.id l id := by
        rcases Nat.lt_or_ge ((lo + hi) / 2) (kpos Job.id l id) with h | h
        · omega
        · have := kpos_ge hs h hx; omega
      refine Zv ?_
      refine Zbt ?_
      refine Z2 ?_
      repeat (first | refine then_nrm ?_ | refine blk_nrm ?_)
      exact ⟨⟨(lo + hi) / 2 + 1, hi⟩, by simp only; omega, ⟨hp, i2, i3⟩, (by repeat (first | exact Sub.nil | refine Sub.cons (by rfl) ?_)), .refl _ _⟩
    · have hk : id ≤ x.id := by simp only [decide_eq_false_iff_not] at hc; unfold cmpI at hc; split at hc <;> first | (exfalso; exact hc (by decide)) | omega
      have hp : kpos Job.id l id ≤ (lo + hi) / 2 := by
        rcases Nat.lt_or_ge ((lo + hi) / 2) (kpos Job.id l id) with h | h
        · have := kpos_lt (f := Job.id) h hx; omega
        · exact h
      refine Z13 ?_
      repeat (first | refine then_nrm ?_ | refine blk_nrm ?_)
      exact ⟨⟨lo, (lo + hi) / 2⟩, by simp only; omega, ⟨i1, hp, by simp only; omega⟩, (by repeat (first | exact Sub.nil | refine Sub.cons (by rfl) ?_)), .refl _ _⟩
  · have hlt : ¬ lo < hi := by simpa using hc
    obtain rfl : lo = kpos Job.id l id := by omega
    have hml : (l.map eJob).length = l.length := by simp
    clear hc
    repeat (first | refine then_nrm ?_ | refine then_brk ?_ | refine blk_hit ?_ | refine aw_seq ?_ | refine aw_exit ?_)
    refine aw_joinQ ([(6, .int .i64 (jobPos l id : Int)), (7, .bool (jobHit l id))]) (H ++ []) ?_ ?_
    · by_cases hn : kpos Job.id l id < l.length
      · obtain ⟨x, hx, hxl⟩ := get_in hn
        have hr := map_get eJob hx
        have hh : jobHit l id = (cmpI x.id id == 0) := by
          rw [jobHit, show jobPos l id = kpos Job.id l id from rfl, decide_eq_true hn, Bool.true_and, jobId_get hx, Bool.eq_iff_iff]
          unfold cmpI
          simp only [decide_eq_true_eq, beq_iff_eq]
          split
          · omega
          · split <;> omega
        refine Zv ?_
        refine Z1u ?_
        refine Zq ?_
        refine ao_split rfl rfl (fun hg4 => ?_) (fun hg4 => ?_)
        · refine Zbu ?_
          refine Zbx ?_
          refine Z7m ?_
          refine Ze ?_
          refine ao_y rfl rfl (by decide) (V2.callv (queue_find_1 x id _) rfl rfl) ?_
          refine Z3s ?_
          refine Zg ?_
          refine Z48 ?_
          (exact join_nrm (by rw [hh]; exact (by repeat (first | exact Sub.nil | refine Sub.cons (by rfl) ?_))) (.inl rfl))
        · refine Z3o ?_
          refine Zm ?_
          refine Z48 ?_
          ((exfalso; simp at hg4; omega))
      · have hh : jobHit l id = false := by rw [jobHit, show jobPos l id = kpos Job.id l id from rfl, decide_eq_false hn, Bool.false_and]
        refine Zv ?_
        refine Z1u ?_
        refine Zq ?_
        refine ao_split rfl rfl (fun hg4 => ?_) (fun hg4 => ?_)
        · exfalso; simp at hg4; omega
        · refine Z3o ?_
          refine Zm ?_
          refine Z48 ?_
          (exact join_nrm (by rw [hh]; exact (by repeat (first | exact Sub.nil | refine Sub.cons (by rfl) ?_))) (.inl rfl))
    repeat (first | refine then_nrm ?_ | refine aw_ret ?_)
    exact Z4e
theorem queue_find (l : List Job) (id : Int) (H : Heap) (hl : l.length ≤ 1000000) (hs : l.Pairwise (fun a b => a.id < b.id)) : AC Tryz.prog 82 [.pl (l.map eJob), .int .i64 id] H (Ret (.tup [.int .i64 (jobPos l id : Int), .bool (jobHit l id)]) H) := by
  refine AC.body (N := 11) [.tmp 4, .tmp 5] Tryz.func82 rfl rfl rfl (Nat.le_of_ble_eq_true rfl) fun B hB => ?_
  repeat (refine aw_seq ?_)
  refine Z49 ?_
  repeat (first | refine then_nrm ?_ | refine aw_seq ?_)
  refine Z95 ?_
  refine ao_ret (queue_search _ _ _ (by omega) (by assumption)) rfl (by decide) ?_
  refine Z53 ?_
  repeat (first | refine then_nrm ?_ | refine aw_ret ?_)
  exact Z4e
theorem jobs_len (l : List Job) : ∀ r ∈ l.map eJob, r.length = 13 := rows_len (e := eJob) (n := 13) (fun _ => rfl) l
theorem jobs_bel (n : Nat) (l : List Job) : ∀ r ∈ l.map eJob, AV.bels n r = true := rows_bel (e := eJob) (fun _ => rfl) l
set_option maxHeartbeats 0 in
theorem queue_Right (l : List Job) (H : Heap) (hl : l.length ≤ 1000000) : AC Tryz.prog 75 [.pl (l.map eJob)] H (Ret (.bool (jobsR l)) H) := by
  refine AC.body (N := 67) [.tmp 2] Tryz.func75 rfl rfl rfl (Nat.le_of_ble_eq_true rfl) fun B hB => ?_
  repeat (refine aw_seq ?_)
  refine Za ?_
  repeat (first | refine then_nrm ?_ | refine aw_seq ?_)
  refine Z59 ?_
  refine Z1t ?_
  repeat (refine then_nrm ?_)
  refine aw_cond rfl (fun hc => ?_) (fun hc => ?_)
  · have h64 : ¬ l.length ≤ 64 := by simp at hc; omega
    repeat (refine aw_seq ?_)
    refine Za ?_
    repeat (first | refine then_nrm ?_ | refine then_ret ?_ | refine aw_ret ?_)
    rw [show jobsR l = false by rw [jobsR, decide_eq_false h64, Bool.false_and]]
    exact Z7
  have h64 : l.length ≤ 64 := by simp at hc; omega
  rw [show jobsR l = allI (jobB l) l.length by rw [jobsR, decide_eq_true h64, Bool.true_and]]
  repeat (first | refine then_nrm ?_ | refine aw_seq ?_ | refine aw_skip ?_)
  refine Z5t ?_
  repeat (first | refine then_nrm ?_ | refine aw_block ?_)
  refine aw_loop (G := Nat) (fun i => i ≤ l.length ∧ ∀ k, k < i → jobB l k = true) (fun i => [(0, .pl (l.map eJob)), (12, .pl (l.map eJob)), (13, .int .i64 (l.length : Int)), (14, .int .i64 (i : Int))]) (fun _ => H ++ []) (fun i => l.length - i) 0 ⟨Nat.zero_le _, fun k hk => by omega⟩ (by repeat (first | exact Sub.nil | refine Sub.cons (by first | rfl | (simp [get]; done)) ?_)) (Fit.refl _ _) ?_
  rintro i ⟨hi, hno⟩
  repeat (refine aw_seq ?_)
  refine Z36 ?_
  repeat (first | refine then_nrm ?_ | refine aw_seq ?_)
  refine aw_cond rfl (fun hc => ?_) (fun hc => ?_)
  · have hlt : i < l.length := by simp at hc; omega
    obtain ⟨j, hj, hjl⟩ := get_in hlt
    have hr := map_get eJob hj
    have hB2 := jobB_get hj
    have hno0 := hno
    have hli : ((l.map eJob).take i) = (l.take i).map eJob := by rw [List.map_take]
    have hs := jobs_take_sorted h64 hno
    have htl : (l.take i).length ≤ 1000000 := by rw [List.length_take]; omega
    clear hno hc
    repeat (first | refine then_nrm ?_ | refine aw_seq ?_ | refine aw_block ?_ | refine aw_skip ?_)
    refine Z7o ?_
    refine Z4g ?_
    refine Z1 ?_
    refine Z4u ?_
    refine Z7s ?_
    clear hr
    repeat (first | refine then_nrm ?_ | refine aw_seq ?_)
    refine aw_joinQ ([(0, .pl (l.map eJob)), (3, .int .i64 (i : Int)), (4, .pt (Lid H.length 0) 0 0 0), (12, .pl (l.map eJob)), (13, .int .i64 (l.length : Int)), (14, .int .i64 (i : Int)), (47, .bool (!(jright j && !(decide (0 < i) && (decide (j.id ≤ jobId l (i - 1)) || decide (j.came < (jobAt l (i - 1)).came))))))]) (H ++ [⟨0, 13, [eJob j]⟩]) ?_ ?_
    · by_cases h0 : 0 < i
      · obtain ⟨h1, hh1, _⟩ := get_in (l := l) (k := i - 1) (by omega)
        have hr1 := map_get eJob hh1
        rw [jobId_get hh1, jobAt_get hh1, decide_eq_true h0, Bool.true_and]
        clear hB2 hno0 hj hjl hs hh1
        refine aw_of_out 47 (.bool (!(jright j && !((decide (j.id ≤ h1.id) || decide (j.came < h1.came)))))) ?_ ?_
        · refine Zad ?_
          refine Zcc ?_
          refine Zaf ?_
          refine Z67 ?_
          refine aq_split (g := 22) rfl (fun hg3 => ?_) (fun hg3 => ?_)
          · refine Zcd ?_
            refine Zce ?_
            refine Zcf ?_
            refine Zcg ?_
            refine Zch ?_
            refine Zci ?_
            refine Zcj ?_
            refine Zck ?_
            refine Zcl ?_
            refine Zcm ?_
            refine Zcn ?_
            refine Zco ?_
            refine Zcp ?_
            refine Zcq ?_
            refine Zcr ?_
            refine Zcs ?_
            refine Zct ?_
            refine Zcu ?_
            refine Zcv ?_
            refine Zcw ?_
            refine Zcx ?_
            refine Zcy ?_
            refine Zcz ?_
            refine Zd0 ?_
            refine Zd1 ?_
            exact Zd2
          · refine Zd3 ?_
            refine Zd4 ?_
            refine Zd5 ?_
            refine aq_split (g := 25) rfl (fun hg6 => ?_) (fun hg6 => ?_)
            · refine aqyp (g := 25) 7 rfl (by decide +kernel) (by decide) rfl rfl (fun G => w_fieldAddr rfl (lk rfl rfl) rfl (by decide)) ?_
              refine aqyp (g := 25) 8 rfl (by decide +kernel) (by decide) rfl rfl (fun G => w_load1 (v := .int _ _) rfl (lk rfl rfl) rfl rfl rfl) ?_
              refine aqy0 (g := 25) 9 rfl (by decide +kernel) (by decide) rfl rfl (fun _ => o_move (v := .pl _) rfl) ?_
              refine aqy0 (g := 25) 10 rfl (by decide +kernel) (by decide) rfl rfl (fun _ => o_move (v := .int _ _) rfl) ?_
              refine aqy0 (g := 25) 11 rfl (by decide +kernel) (by decide) rfl rfl (fun _ => o_sub (r := ((i - 1 : Nat) : Int)) rfl rfl (by rw [show (i : Int) - 1 = ((i - 1 : Nat) : Int) by omega]; exact wrap64_ok (by omega) (by omega))) ?_
              refine aqyp (g := 25) 12 rfl (by decide +kernel) (by decide) rfl rfl (fun G => w_indexAddrpN rfl rfl hr1 rfl) ?_
              refine aqyp (g := 25) 13 rfl (by decide +kernel) (by decide) rfl rfl (fun G => w_fieldAddrp rfl (by decide)) ?_
              refine aqyp (g := 25) 14 rfl (by decide +kernel) (by decide) rfl rfl (fun G => o_load1p (v := .int _ _) rfl hr1 rfl) ?_
              refine aqy0 (g := 25) 15 rfl (by decide +kernel) (by decide) rfl rfl (fun _ => o_le rfl rfl) ?_
              refine aqy0 (g := 25) 16 rfl (by decide +kernel) (by decide) rfl rfl (fun _ => o_move (v := .bool _) rfl) ?_
              refine aq_split (g := 35) rfl (fun hg16 => ?_) (fun hg16 => ?_)
              · refine aqn0 (g := 35) 17 rfl (by decide +kernel) (by decide) rfl rfl rfl ?_
                refine aqn0 (g := 35) 18 rfl (by decide +kernel) (by decide) rfl rfl rfl ?_
                refine aqn0 (g := 35) 19 rfl (by decide +kernel) (by decide) rfl rfl rfl ?_
                refine aqn0 (g := 35) 20 rfl (by decide +kernel) (by decide) rfl rfl rfl ?_
                refine aqn0 (g := 35) 21 rfl (by decide +kernel) (by decide) rfl rfl rfl ?_
                refine aqn0 (g := 35) 22 rfl (by decide +kernel) (by decide) rfl rfl rfl ?_
                refine aqn0 (g := 35) 23 rfl (by decide +kernel) (by decide) rfl rfl rfl ?_
                refine aqn0 (g := 35) 24 rfl (by decide +kernel) (by decide) rfl rfl rfl ?_
                refine aqn0 (g := 35) 25 rfl (by decide +kernel) (by decide) rfl rfl rfl ?_
                refine aqy0 (g := 25) 26 rfl (by decide +kernel) (by decide) rfl rfl (fun _ => o_pick_t (v := .bool _) rfl rfl) ?_
                refine Zd6 ?_
                refine Zd7 ?_
                exact Zd2
              · refine aqyp (g := 35) 17 rfl (by decide +kernel) (by decide) rfl rfl (fun G => w_fieldAddr rfl (lk rfl rfl) rfl (by decide)) ?_
                refine aqyp (g := 35) 18 rfl (by decide +kernel) (by decide) rfl rfl (fun G => w_load1 (v := .int _ _) rfl (lk rfl rfl) rfl rfl rfl) ?_
                refine aqy0 (g := 35) 19 rfl (by decide +kernel) (by decide) rfl rfl (fun _ => o_move (v := .pl _) rfl) ?_
                refine aqy0 (g := 35) 20 rfl (by decide +kernel) (by decide) rfl rfl (fun _ => o_move (v := .int _ _) rfl) ?_
                refine aqy0 (g := 35) 21 rfl (by decide +kernel) (by decide) rfl rfl (fun _ => o_sub (r := ((i - 1 : Nat) : Int)) rfl rfl (by rw [show (i : Int) - 1 = ((i - 1 : Nat) : Int) by omega]; exact wrap64_ok (by omega) (by omega))) ?_
                refine aqyp (g := 35) 22 rfl (by decide +kernel) (by decide) rfl rfl (fun G => w_indexAddrpN rfl rfl hr1 rfl) ?_
                refine aqyp (g := 35) 23 rfl (by decide +kernel) (by decide) rfl rfl (fun G => w_fieldAddrp rfl (by decide)) ?_
                refine aqyp (g := 35) 24 rfl (by decide +kernel) (by decide) rfl rfl (fun G => o_load1p (v := .int _ _) rfl hr1 rfl) ?_
                refine aqy0 (g := 35) 25 rfl (by decide +kernel) (by decide) rfl rfl (fun _ => o_lt rfl rfl) ?_
                refine aqy0 (g := 25) 26 rfl (by decide +kernel) (by decide) rfl rfl (fun _ => o_pick_f (v := .bool _) rfl rfl) ?_
                refine Zd6 ?_
                refine Zd7 ?_
                exact aa_done (by decide +kernel) (by exact fun _ => ⟨_, rfl⟩) (Out.mk (by (refine congrArg AV.bool ?_; (clear hB hr1 hli; (simp_all; omega)))) (by repeat (first | exact SubX.refl _ _ | refine SubX.at ?_ | refine SubX.put rfl ?_)))
            · refine Zd8 ?_
              refine Zd9 ?_
              refine Zda ?_
              refine Zdb ?_
              refine Zdc ?_
              refine Zdd ?_
              refine Zde ?_
              refine Zdf ?_
              refine Zdg ?_
              refine Zdh ?_
              refine Zcq ?_
              refine Zcr ?_
              refine Zcs ?_
              refine Zct ?_
              refine Zcu ?_
              refine Zcv ?_
              refine Zcw ?_
              refine Zcx ?_
              refine Zcy ?_
              refine Zdi ?_
              refine Zdj ?_
              refine Zd7 ?_
              exact Zd2
        exact join_nrm (by repeat (first | exact Sub.nil | refine Sub.cons (by rfl) ?_)) (.inl rfl)
      · rw [decide_eq_false h0, Bool.false_and, Bool.not_false, Bool.and_true]
        clear hB2 hno0 hj hjl hs
        refine aw_of_out 47 (.bool (!jright j)) ?_ ?_
        · refine Zad ?_
          refine Zcc ?_
          refine Zaf ?_
          refine Z67 ?_
          refine aq_split (g := 22) rfl (fun hg3 => ?_) (fun hg3 => ?_)
          · refine Zcd ?_
            refine Zce ?_
            refine Zcf ?_
            refine Zcg ?_
            refine Zch ?_
            refine Zci ?_
            refine Zcj ?_
            refine Zck ?_
            refine Zcl ?_
            refine Zcm ?_
            refine Zcn ?_
            refine Zco ?_
            refine Zcp ?_
            refine Zcq ?_
            refine Zcr ?_
            refine Zcs ?_
            refine Zct ?_
            refine Zcu ?_
            refine Zcv ?_
            refine Zcw ?_
            refine Zcx ?_
            refine Zcy ?_
            refine Zcz ?_
            refine Zd0 ?_
            refine Zd1 ?_
            exact Zdk
          · refine Zd3 ?_
            refine Zd4 ?_
            refine Zd5 ?_
            refine aq_split (g := 25) rfl (fun hg6 => ?_) (fun hg6 => ?_)
            · exfalso; simp at hg6; omega
            · refine Zd8 ?_
              refine Zd9 ?_
              refine Zda ?_
              refine Zdb ?_
              refine Zdc ?_
              refine Zdd ?_
              refine Zde ?_
              refine Zdf ?_
              refine Zdg ?_
              refine Zdh ?_
              refine Zcq ?_
              refine Zcr ?_
              refine Zcs ?_
              refine Zct ?_
              refine Zcu ?_
              refine Zcv ?_
              refine Zcw ?_
              refine Zcx ?_
              refine Zcy ?_
              refine Zdi ?_
              refine Zdj ?_
              refine Zd7 ?_
              exact Zdk
        exact join_nrm (by repeat (first | exact Sub.nil | refine Sub.cons (by rfl) ?_)) (.inl rfl)
    repeat (refine then_nrm ?_)
    refine aw_cond rfl (fun hc => ?_) (fun hc => ?_)
    · have hbad : jobB l i = false := by rw [hB2]; rw [Bool.not_eq_true'] at hc; rw [hc, Bool.false_and]
      repeat (refine aw_seq ?_)
      refine Za ?_
      repeat (first | refine then_nrm ?_ | refine then_ret ?_ | refine blk_ret ?_ | refine aw_ret ?_)
      rw [allI_false hlt hbad]
      exact Z7
    have hgd : (jright j && !(decide (0 < i) && (decide (j.id ≤ jobId l (i - 1)) || decide (j.came < (jobAt l (i - 1)).came)))) = true := by simpa only [Bool.not_eq_false'] using hc
    have hjr : jright j = true := by rw [Bool.and_eq_true] at hgd; exact hgd.1
    have hn16 := jright_needs hjr
    rw [hgd, Bool.true_and] at hB2
    clear hc hgd
    repeat (first | refine then_nrm ?_ | refine aw_seq ?_ | refine aw_skip ?_)
    refine Z30 ?_
    refine Z35 ?_
    repeat (first | refine then_nrm ?_ | refine aw_block ?_)
    refine aw_loop (G := Nat) (fun k => k ≤ j.needs.length ∧ ∀ n ∈ j.needs.take k, jobHit (l.take i) n = true) (fun k => [(0, .pl (l.map eJob)), (3, .int .i64 (i : Int)), (12, .pl (l.map eJob)), (13, .int .i64 (l.length : Int)), (14, .int .i64 (i : Int)), (49, .pl (j.needs.map eI)), (50, .int .i64 (j.needs.length : Int)), (51, .int .i64 (k : Int))]) (fun _ => H ++ [⟨0, 13, [eJob j]⟩]) (fun k => j.needs.length - k) 0 ⟨Nat.zero_le _, by simp⟩ (by repeat (first | exact Sub.nil | refine Sub.cons (by first | rfl | (simp [get]; done)) ?_)) (Fit.refl _ _) ?_
    rintro k ⟨hk, hhit⟩
    repeat (refine aw_seq ?_)
    refine Z36 ?_
    repeat (first | refine then_nrm ?_ | refine aw_seq ?_)
    refine aw_cond rfl (fun hc => ?_) (fun hc => ?_)
    · have hltk : k < j.needs.length := by simpa using hc
      obtain ⟨n, hn, hnl⟩ := get_in hltk
      have hr := map_get eI hn
      repeat (first | refine then_nrm ?_ | refine aw_seq ?_ | refine aw_block ?_ | refine aw_skip ?_)
      refine Z3b ?_
      repeat (first | refine then_nrm ?_ | refine aw_seq ?_)
      refine Z95 ?_
      refine ao1 (by decide) (o_headp (ys := (l.take i).map eJob) rfl (Bd.some rfl rfl) (by simp; omega) (jobs_len _) hli) ?_
      refine Z6 ?_
      refine Zdl ?_
      refine Z54 ?_
      repeat (first | refine then_nrm ?_ | refine aw_seq ?_)
      refine Z56 ?_
      repeat (refine then_nrm ?_)
      refine aw_cond rfl (fun hc => ?_) (fun hc => ?_)
      · have hbad : jobB l i = false := by
          rw [hB2, List.all_eq_false]
          exact ⟨n, hnl, by simpa using hc⟩
        repeat (refine aw_seq ?_)
        refine Za ?_
        repeat (first | refine then_nrm ?_ | refine then_ret ?_ | refine blk_ret ?_ | refine aw_ret ?_)
        rw [allI_false hlt hbad]
        exact Z7
      · repeat (first | refine then_nrm ?_ | refine blk_nrm ?_ | refine aw_skip ?_)
        refine Z3i ?_
        repeat (refine then_nrm ?_)
        refine ⟨k + 1, by omega, ⟨by omega, ?_⟩, (by repeat (first | exact Sub.nil | refine Sub.cons (by rfl) ?_)), .refl _ _⟩
        rw [take_snoc_get hn]
        intro y hy
        rcases List.mem_append.1 hy with h | h
        · exact hhit y h
        · simp only [List.mem_singleton] at h
          subst h
          simpa using hc
    · have : k = j.needs.length := by simp at hc; omega
      subst this
      rw [List.take_length] at hhit
      have hgood : jobB l i = true := by rw [hB2, List.all_eq_true]; exact hhit
      repeat (first | refine then_nrm ?_ | refine blk_nrm ?_ | refine then_brk ?_ | refine blk_hit ?_ | refine aw_exit ?_)
      refine Z3i ?_
      repeat (refine then_nrm ?_)
      refine ⟨i + 1, by omega, ⟨by omega, fun k hk => ?_⟩, (by repeat (first | exact Sub.nil | refine Sub.cons (by rfl) ?_)), Fit.loc hB (L := []) rfl (by repeat (first | exact EBel.nil | refine EBel.cons (by rfl) ?_)) (fun o ho => by simp at ho)⟩
      rcases Nat.lt_or_eq_of_le (Nat.le_of_lt_succ hk) with h | h
      · exact hno0 k h
      · subst h; exact hgood
  · have : i = l.length := by simp at hc; omega
    subst this
    repeat (first | refine then_nrm ?_ | refine then_brk ?_ | refine blk_hit ?_ | refine aw_seq ?_ | refine aw_exit ?_)
    refine Za ?_
    repeat (first | refine then_nrm ?_ | refine aw_ret ?_)
    rw [allI_true hno]
    exact Z7
end Go.Av

namespace Go.Av
open Go.Proofs
set_option maxRecDepth 10000
set_option linter.unusedSimpArgs false
set_option linter.unusedVariables false
theorem inst_policy (p d : Int) (H : Heap) : AC Tryz.prog 51 [.int .i64 p, .int .i64 d] H (Ret (.bool (ipolicy p d)) H) := by
  refine AC.body (N := 19) [.tmp 4] Tryz.func51 rfl rfl rfl (Nat.le_of_ble_eq_true rfl) fun B hB => ?_
  repeat (refine aw_seq ?_)
  refine Za ?_
  repeat (first | refine then_nrm ?_ | refine aw_seq ?_)
  refine aw_out 4 (.bool (ipolicy p d)) ?_ ?_
  · refine Z6 ?_
    refine Z1n ?_
    refine ao_split rfl rfl (fun hg2 => ?_) (fun hg2 => ?_)
    · refine Zt ?_
      refine Z24 ?_
      refine ao_split rfl rfl (fun hg6 => ?_) (fun hg6 => ?_)
      · refine Ze ?_
        refine Z3f ?_
        refine Z24 ?_
        refine ao_split rfl rfl (fun hg10 => ?_) (fun hg10 => ?_)
        · refine Zt ?_
          refine Zh ?_
          exact ao_nil (Out.mk (by (refine congrArg AV.bool ?_; (simp only [ipolicy]; clear hB; (simp_all; done)))) (by repeat (first | exact SubX.refl _ _ | refine SubX.at ?_ | refine SubX.put rfl ?_)))
        · refine Zo ?_
          exact Zdm
      · refine Z47 ?_
        refine Zo ?_
        exact Zdm
    · refine Z47 ?_
      refine Z47 ?_
      refine Zo ?_
      exact Zdm
  repeat (first | refine then_nrm ?_ | refine aw_ret ?_)
  exact Z7
theorem inst_things (g : List Thing) (l : List Int) (H : Heap) (hg : g.length ≤ 1000000) (hl : l.length ≤ 1000000) : AC Tryz.prog 73 [.pl (g.map eThing), .pl (l.map eInt)] H (Ret (.bool (ithings g l)) H) := by
  refine AC.body (N := 23) [.tmp 4] Tryz.func73 rfl rfl rfl (Nat.le_of_ble_eq_true rfl) fun B hB => ?_
  repeat (refine aw_seq ?_)
  refine Za ?_
  by_cases h0 : l.length = 0
  · repeat (first | refine then_nrm ?_ | refine aw_seq ?_)
    refine aw_out 4 (.bool (ithings g l)) ?_ ?_
    · refine Z2q ?_
      refine Zdn ?_
      refine Zc ?_
      refine ao_split rfl rfl (fun hg2 => ?_) (fun hg2 => ?_)
      · refine Z7l ?_
        refine Z3s ?_
        refine Z2f ?_
        refine ao_split rfl rfl (fun hg6 => ?_) (fun hg6 => ?_)
        · refine Z3c ?_
          refine Zdo ?_
          refine Zh ?_
          exact Zdp
        · exfalso; have := List.eq_nil_of_length_eq_zero h0; subst this; simp at hg6
      · refine Z3n ?_
        refine Z9e ?_
        refine Z9f ?_
        refine Z3w ?_
        exact Zdp
    repeat (first | refine then_nrm ?_ | refine aw_ret ?_)
    exact Z7
  · obtain ⟨x, hx, hxl⟩ := get_in (l := l) (k := l.length - 1) (by omega)
    have hr := map_get eInt hx
    have hd : l.getD (l.length - 1) 0 = x := by rw [List.getD_eq_getElem?_getD, hx]; rfl
    have hs : ithings g l = (sok l && decide (x < (g.length : Int))) := by rw [ithings, hd, decide_eq_false h0, Bool.false_or]
    rw [hs]
    repeat (first | refine then_nrm ?_ | refine aw_seq ?_)
    refine aw_out 4 (.bool (sok l && decide (x < (g.length : Int)))) ?_ ?_
    · refine Z2q ?_
      refine Zdn ?_
      refine Zc ?_
      refine ao_split rfl rfl (fun hg2 => ?_) (fun hg2 => ?_)
      · refine Z7l ?_
        refine Z3s ?_
        refine Z2f ?_
        refine ao_split rfl rfl (fun hg6 => ?_) (fun hg6 => ?_)
        · refine Z3c ?_
          refine Zdo ?_
          refine Zh ?_
          exact Zdq
        · refine Z7j ?_
          refine Z7l ?_
          refine ao_y1 rfl rfl (by decide) (o_sub (r := ((l.length - 1 : Nat) : Int)) rfl rfl (by rw [List.length_map, show (l.length : Int) - 1 = ((l.length - 1 : Nat) : Int) by omega]; exact wrap64_ok (by omega) (by omega))) ?_
          refine Zbv ?_
          refine Zdr ?_
          refine Z7l ?_
          refine Zf ?_
          refine Z9m ?_
          refine Zh ?_
          exact Zdq
      · refine Z3n ?_
        refine Z9e ?_
        refine Z9f ?_
        refine Z3w ?_
        exact Zdq
    repeat (first | refine then_nrm ?_ | refine aw_ret ?_)
    exact Z7
abbrev eInst (i : Inst) : List AV := [.pl (i.graph.map eThing), .pl (i.health.map eI), .pl (i.lease.map eI), .int .i64 i.til, .pl (i.jobs.map eJob), .pl (i.table.map eHeld), .int .i64 i.now, .int .i64 i.policy, .int .i64 i.depth]
set_option maxHeartbeats 0 in
theorem inst_told (i : Inst) (H : Heap) (hw : IW i) : AC Tryz.prog 77 [.agg (eInst i)] H (Ret (.bool (itold i)) H) := by
  have w1 := hw.graph
  have w2 := hw.jobs
  have w3 := hw.table
  refine AC.body (N := 80) [.tmp 2] Tryz.func77 rfl rfl rfl (Nat.le_of_ble_eq_true rfl) fun B hB => ?_
  repeat (refine aw_seq ?_)
  refine Zdt ?_
  refine Z1y ?_
  repeat (first | refine then_nrm ?_ | refine aw_seq ?_)
  refine Z3 ?_
  repeat (first | refine then_nrm ?_ | refine aw_seq ?_)
  refine Z30 ?_
  refine Z35 ?_
  repeat (first | refine then_nrm ?_ | refine aw_block ?_)
  refine aw_loop (G := Nat) (fun k => k ≤ i.jobs.length ∧ ∀ m, m < k → itoldB i m = true) (fun k => [(1, .pt (Lid H.length 0) 0 0 0), (3, .int .i64 (runs (i.jobs.take k) : Int)), (9, .pl (i.jobs.map eJob)), (10, .int .i64 (i.jobs.length : Int)), (11, .int .i64 (k : Int))]) (fun _ => H ++ [⟨0, 9, [eInst i]⟩]) (fun k => i.jobs.length - k) 0 ⟨Nat.zero_le _, fun m hm => by omega⟩ (by repeat (first | exact Sub.nil | refine Sub.cons (by first | rfl | (simp [get]; done)) ?_)) (Fit.refl _ _) ?_
  rintro k ⟨hk, hno⟩
  have hbel : ∀ (b : Nat), ∀ o ∈ [AObj.mk 0 9 [eInst i]], ∀ r ∈ o.rows, AV.bels b r = true := by
    intro b o ho r hr
    simp only [List.mem_singleton] at ho
    subst ho
    simp only [List.mem_singleton] at hr
    subst hr
    rfl
  repeat (refine aw_seq ?_)
  refine Z36 ?_
  repeat (first | refine then_nrm ?_ | refine aw_seq ?_)
  refine aw_cond rfl (fun hc => ?_) (fun hc => ?_)
  · have hlt : k < i.jobs.length := by simp at hc; omega
    obtain ⟨j, hj, hjl⟩ := get_in hlt
    have hr := map_get eJob hj
    have hB2 := itoldB_get hj
    have hstep := runs_step hj
    have hrl := runs_le (i.jobs.take k)
    rw [List.length_take] at hrl
    have hno0 := hno
    have hget := heldGet_len w3 j.id
    clear hno hc
    repeat (first | refine then_nrm ?_ | refine aw_seq ?_ | refine aw_block ?_ | refine aw_skip ?_)
    refine Zdv ?_
    refine Z9a ?_
    clear hr
    repeat (first | refine then_nrm ?_ | refine aw_seq ?_)
    refine aw_out 26 (.bool (!(decide (j.came ≤ i.now) && decide (j.frm ≤ i.now)))) ?_ ?_
    · refine Z5h ?_
      refine Za3 ?_
      refine ao_split rfl rfl (fun hg5 => ?_) (fun hg5 => ?_)
      · refine Z4q ?_
        exact ao_nil (Out.mk (by (refine congrArg AV.bool ?_; (clear hB hB2 hstep hno0 hget hrl hbel; (simp_all; done)))) (by repeat (first | exact SubX.refl _ _ | refine SubX.at ?_ | refine SubX.put rfl ?_)))
      · refine Z3k ?_
        refine Z2d ?_
        refine Zm ?_
        exact ao_nil (Out.mk (by (refine congrArg AV.bool ?_; (clear hB hB2 hstep hno0 hget hrl hbel; grind))) (by repeat (first | exact SubX.refl _ _ | refine SubX.at ?_ | refine SubX.put rfl ?_)))
    repeat (refine then_nrm ?_)
    refine aw_cond rfl (fun hc => ?_) (fun hc => ?_)
    · have hbad : itoldB i k = false := by rw [Bool.not_eq_true'] at hc; rw [hB2, hc, Bool.false_and]
      repeat (refine aw_seq ?_)
      refine Za ?_
      repeat (first | refine then_nrm ?_ | refine then_ret ?_ | refine blk_ret ?_ | refine aw_ret ?_)
      rw [show itold i = false by rw [itold, allI_false hlt hbad, Bool.false_and]]
      exact Z7
    have h1 : (decide (j.came ≤ i.now) && decide (j.frm ≤ i.now)) = true := by simpa only [Bool.not_eq_false'] using hc
    rw [h1, Bool.true_and] at hB2
    clear hc
    repeat (first | refine then_nrm ?_ | refine aw_seq ?_ | refine aw_skip ?_)
    refine Z3p ?_
    refine Z1p ?_
    refine Z32 ?_
    repeat (refine then_nrm ?_)
    refine aw_cond rfl (fun hc => ?_) (fun hc => ?_)
    · have h2 : j.state ≠ 2 := by simpa using hc
      rw [decide_eq_true h2, Bool.true_or] at hB2
      rw [if_neg (by simpa using h2), Nat.add_zero] at hstep
      repeat (first | refine then_nrm ?_ | refine then_brk ?_ | refine blk_hit ?_ | refine aw_exit ?_)
      refine Z3i ?_
      repeat (refine then_nrm ?_)
      refine ⟨k + 1, by omega, ⟨by omega, fun m hm => ?_⟩, by rw [hstep]; exact (by repeat (first | exact Sub.nil | refine Sub.cons (by rfl) ?_)), Fit.loc hB rfl (by repeat (first | exact EBel.nil | refine EBel.cons (by first | rfl | (simp [AV.bel, AV.bels, Lid]; done)) ?_)) (hbel _)⟩
      rcases Nat.lt_or_eq_of_le (Nat.le_of_lt_succ hm) with h | h
      · exact hno0 m h
      · subst h; exact hB2
    have h2 : j.state = 2 := by simpa using hc
    rw [if_pos (by simpa using h2)] at hstep
    rw [show decide (j.state ≠ 2) = false by simp [h2], Bool.false_or] at hB2
    repeat (first | refine then_nrm ?_ | refine aw_seq ?_ | refine aw_skip ?_)
    refine Zv ?_
    refine ao1 (by decide) (o_add (r := ((runs (i.jobs.take k) + 1 : Nat) : Int)) rfl rfl (by rw [show (runs (i.jobs.take k) : Int) + 1 = ((runs (i.jobs.take k) + 1 : Nat) : Int) by omega]; exact wrap64_ok (by omega) (by omega))) ?_
    refine Z2 ?_
    repeat (first | refine then_nrm ?_ | refine aw_seq ?_)
    refine Z30 ?_
    refine Z20 ?_
    refine ao_ret (held_Get _ _ _ (by assumption)) rfl (by decide) ?_
    refine Z63 ?_
    refine Zc9 ?_
    refine Z9 ?_
    refine Zdw ?_
    generalize heldGet i.table j.id = q at hB2 hget ⊢
    obtain ⟨h, ok⟩ := q
    simp only at hB2 hget
    clear hj hjl
    repeat (first | refine then_nrm ?_ | refine aw_seq ?_)
    refine aw_of_out 73 (.bool (!itoldB i k)) ?_ ?_
    · refine Zdx ?_
      refine Z6h ?_
      refine Z6j ?_
      refine aq0 1 rfl (by decide +kernel) (by decide) (fun _ => o_not rfl) ?_
      refine Z66 ?_
      refine aq_split (g := 42) rfl (fun hg2 => ?_) (fun hg2 => ?_)
      · refine aqn0 (g := 42) 3 rfl (by decide +kernel) (by decide) rfl rfl rfl ?_
        refine aqn0 (g := 42) 4 rfl (by decide +kernel) (by decide) rfl rfl rfl ?_
        refine aqn0 (g := 42) 5 rfl (by decide +kernel) (by decide) rfl rfl rfl ?_
        refine aqn0 (g := 42) 6 rfl (by decide +kernel) (by decide) rfl rfl rfl ?_
        refine aqn0 (g := 42) 7 rfl (by decide +kernel) (by decide) rfl rfl rfl ?_
        refine Z82 ?_
        refine Z83 ?_
        refine Zdy ?_
        refine Zdz ?_
        refine Ze0 ?_
        refine Ze1 ?_
        refine Ze2 ?_
        refine Ze3 ?_
        refine Ze4 ?_
        refine Ze5 ?_
        refine Ze6 ?_
        refine Ze7 ?_
        refine Ze8 ?_
        refine Ze9 ?_
        refine Zea ?_
        refine Zeb ?_
        refine Zec ?_
        refine Zed ?_
        refine Zee ?_
        refine Zef ?_
        refine Zeg ?_
        refine Zeh ?_
        refine Zei ?_
        refine Zej ?_
        refine Zek ?_
        refine Zel ?_
        exact Zem
      · refine aqyp (g := 42) 3 rfl (by decide +kernel) (by decide) rfl rfl (fun G => w_fieldAddr rfl (lk rfl rfl) rfl (by decide)) ?_
        refine aqyp (g := 42) 4 rfl (by decide +kernel) (by decide) rfl rfl (fun G => w_load1 (v := .int _ _) rfl (lk rfl rfl) rfl rfl rfl) ?_
        refine aqyp (g := 42) 5 rfl (by decide +kernel) (by decide) rfl rfl (fun G => w_fieldAddr rfl (lk rfl rfl) rfl (by decide)) ?_
        refine aqyp (g := 42) 6 rfl (by decide +kernel) (by decide) rfl rfl (fun G => w_load1 (v := .int _ _) rfl (lk rfl rfl) rfl rfl rfl) ?_
        refine aqy0 (g := 42) 7 rfl (by decide +kernel) (by decide) rfl rfl (fun _ => o_ne rfl rfl) ?_
        refine Z8z ?_
        refine Z83 ?_
        refine aq_split (g := 49) rfl (fun hg9 => ?_) (fun hg9 => ?_)
        · refine Zdy ?_
          refine Zdz ?_
          refine Ze0 ?_
          refine Ze1 ?_
          refine Ze2 ?_
          refine Ze3 ?_
          refine Ze4 ?_
          refine Ze5 ?_
          refine Ze6 ?_
          refine Ze7 ?_
          refine Ze8 ?_
          refine Ze9 ?_
          refine Zea ?_
          refine Zeb ?_
          refine Zec ?_
          refine Zed ?_
          refine Zee ?_
          refine Zef ?_
          refine Zeg ?_
          refine Zeh ?_
          refine Zei ?_
          refine Zej ?_
          refine Zek ?_
          refine Zel ?_
          exact Zem
        · refine aqyp (g := 49) 10 rfl (by decide +kernel) (by decide) rfl rfl (fun G => w_fieldAddr rfl (lk rfl rfl) rfl (by decide)) ?_
          refine aqyp (g := 49) 11 rfl (by decide +kernel) (by decide) rfl rfl (fun G => w_load1 (v := .int _ _) rfl (lk rfl rfl) rfl rfl rfl) ?_
          refine aqyp (g := 49) 12 rfl (by decide +kernel) (by decide) rfl rfl (fun G => w_fieldAddr rfl (lk rfl rfl) rfl (by decide)) ?_
          refine aqyp (g := 49) 13 rfl (by decide +kernel) (by decide) rfl rfl (fun G => w_loadN (cs := [_, _, _, _, _, _, _]) rfl (lk rfl rfl) rfl rfl rfl rfl) ?_
          refine aqyp (g := 49) 14 rfl (by decide +kernel) (by decide) rfl rfl (fun G => w_fieldAddr rfl (lk rfl rfl) rfl (by decide)) ?_
          refine aqyp (g := 49) 15 rfl (by decide +kernel) (by decide) rfl rfl (fun G => w_load1 (v := .int _ _) rfl (lk rfl rfl) rfl rfl rfl) ?_
          refine aqy02 (g := 49) 16 rfl (by decide +kernel) (by decide) rfl rfl (fun _ => V2.call (spec_Ends _ _ _) rfl) ?_
          refine aqy0 (g := 49) 17 rfl (by decide +kernel) (by decide) rfl rfl (fun _ => o_ne rfl rfl) ?_
          refine aq0 18 rfl (by decide +kernel) (by decide) (fun _ => o_pick_f (v := .bool _) rfl rfl) ?_
          refine Ze7 ?_
          refine aq_split (g := 59) rfl (fun hg19 => ?_) (fun hg19 => ?_)
          · refine Ze8 ?_
            refine Ze9 ?_
            refine Zea ?_
            refine Zeb ?_
            refine Zec ?_
            refine Zed ?_
            refine Zee ?_
            refine Zef ?_
            refine Zeg ?_
            refine Zeh ?_
            refine Zei ?_
            refine Zej ?_
            refine Zek ?_
            refine Zel ?_
            exact Zem
          · refine aqyp (g := 59) 20 rfl (by decide +kernel) (by decide) rfl rfl (fun G => w_fieldAddr rfl (lk rfl rfl) rfl (by decide)) ?_
            refine aqyp (g := 59) 21 rfl (by decide +kernel) (by decide) rfl rfl (fun G => w_load1 (v := .int _ _) rfl (lk rfl rfl) rfl rfl rfl) ?_
            refine aqyp (g := 59) 22 rfl (by decide +kernel) (by decide) rfl rfl (fun G => w_fieldAddr rfl (lk rfl rfl) rfl (by decide)) ?_
            refine aqyp (g := 59) 23 rfl (by decide +kernel) (by decide) rfl rfl (fun G => w_load1 (v := .int _ _) rfl (lk rfl rfl) rfl rfl rfl) ?_
            refine aqy0 (g := 59) 24 rfl (by decide +kernel) (by decide) rfl rfl (fun _ => o_le rfl rfl) ?_
            refine aq0 25 rfl (by decide +kernel) (by decide) (fun _ => o_pick_f (v := .bool _) rfl rfl) ?_
            refine Zee ?_
            refine aq_split (g := 66) rfl (fun hg26 => ?_) (fun hg26 => ?_)
            · refine Zef ?_
              refine Zeg ?_
              refine Zeh ?_
              refine Zei ?_
              refine Zej ?_
              refine Zek ?_
              refine Zel ?_
              exact Zem
            · refine aqyp (g := 66) 27 rfl (by decide +kernel) (by decide) rfl rfl (fun G => w_fieldAddr rfl (lk rfl rfl) rfl (by decide)) ?_
              refine aqyp (g := 66) 28 rfl (by decide +kernel) (by decide) rfl rfl (fun G => w_load1 (v := .pl _) rfl (lk rfl rfl) rfl rfl rfl) ?_
              refine aqyp (g := 66) 29 rfl (by decide +kernel) (by decide) rfl rfl (fun G => w_fieldAddr rfl (lk rfl rfl) rfl (by decide)) ?_
              refine aqyp (g := 66) 30 rfl (by decide +kernel) (by decide) rfl rfl (fun G => w_load1 (v := .pl _) rfl (lk rfl rfl) rfl rfl rfl) ?_
              refine aqy02 (g := 66) 31 rfl (by decide +kernel) (by decide) rfl rfl (fun _ => V2.call (inst_things _ _ _ (by omega) (by omega)) rfl) ?_
              refine aqy0 (g := 66) 32 rfl (by decide +kernel) (by decide) rfl rfl (fun _ => o_not rfl) ?_
              refine aq0 33 rfl (by decide +kernel) (by decide) (fun _ => o_pick_f (v := .bool _) rfl rfl) ?_
              exact Zem
    repeat (refine then_nrm ?_)
    refine aw_cond rfl (fun hc => ?_) (fun hc => ?_)
    · have hbad : itoldB i k = false := by simpa only [Bool.not_eq_true'] using hc
      repeat (refine aw_seq ?_)
      refine Za ?_
      try dsimp only
      repeat (first | refine then_nrm ?_ | refine then_ret ?_ | refine blk_ret ?_ | refine aw_ret ?_)
      rw [show itold i = false by rw [itold, allI_false hlt hbad, Bool.false_and]]
      exact Z7
    · have hgood : itoldB i k = true := by simpa only [Bool.not_eq_false'] using hc
      repeat (first | refine then_nrm ?_ | refine blk_nrm ?_ | refine aw_skip ?_)
      refine Z3i ?_
      try dsimp only
      repeat (refine then_nrm ?_)
      refine ⟨k + 1, by omega, ⟨by omega, fun m hm => ?_⟩, by rw [hstep]; exact (by repeat (first | exact Sub.nil | refine Sub.cons (by rfl) ?_)), Fit.loc hB rfl (by repeat (first | exact EBel.nil | refine EBel.cons (by first | rfl | (simp [AV.bel, AV.bels, Lid]; done)) ?_)) (hbel _)⟩
      rcases Nat.lt_or_eq_of_le (Nat.le_of_lt_succ hm) with h | h
      · exact hno0 m h
      · subst h; exact hgood
  · have : k = i.jobs.length := by simp at hc; omega
    subst this
    repeat (first | refine then_nrm ?_ | refine then_brk ?_ | refine blk_hit ?_ | refine aw_seq ?_ | refine aw_exit ?_)
    refine Zen ?_
    refine Zx ?_
    refine Z2l ?_
    repeat (first | refine then_nrm ?_ | refine aw_ret ?_)
    rw [List.take_length, show itold i = decide (runs i.jobs = i.table.length) by rw [itold, allI_true hno, Bool.true_and]; rfl]
    exact Zeo
set_option maxHeartbeats 0 in
theorem inst_Right (i : Inst) (H : Heap) (hw : IW i) : AC Tryz.prog 26 [.agg (eInst i)] H (Ret (.bool (iright i)) H) := by
  have w1 := hw.graph
  have w2 := hw.jobs
  have w3 := hw.table
  have w4 := hw.health
  have w5 := hw.lease
  refine AC.body (N := 48) [.tmp 2] Tryz.func26 rfl rfl rfl (Nat.le_of_ble_eq_true rfl) fun B hB => ?_
  repeat (refine aw_seq ?_)
  refine Zdt ?_
  refine Z1y ?_
  repeat (first | refine then_nrm ?_ | refine aw_seq ?_)
  refine aw_out 3 (.bool (hright i.graph i.health && ithings i.graph i.lease && tm i.til && tm i.now && ipolicy i.policy i.depth)) ?_ ?_
  · refine Z2z ?_
    refine Z2z ?_
    refine Z9v ?_
    refine Zc ?_
    refine ao_split rfl rfl (fun hg5 => ?_) (fun hg5 => ?_)
    · refine Z5l ?_
      refine Zep ?_
      refine Z24 ?_
      refine ao_split rfl rfl (fun hg12 => ?_) (fun hg12 => ?_)
      · refine Z22 ?_
        refine Z42 ?_
        refine Z24 ?_
        refine ao_split rfl rfl (fun hg17 => ?_) (fun hg17 => ?_)
        · refine Z22 ?_
          refine Z42 ?_
          refine Z24 ?_
          refine ao_split rfl rfl (fun hg22 => ?_) (fun hg22 => ?_)
          · refine Z3k ?_
            refine Zeq ?_
            refine Zh ?_
            exact Zer
          · refine Z3l ?_
            exact Zes
        · refine Z5n ?_
          exact Zes
      · refine Z27 ?_
        refine Z5n ?_
        exact Zer
    · refine Zl ?_
      refine Z27 ?_
      refine Z27 ?_
      refine Z5n ?_
      exact Zer
  repeat (first | refine then_nrm ?_ | refine aw_seq ?_)
  refine aw_out 2 (.bool (iright i)) ?_ ?_
  · refine Z2e ?_
    refine ao_split rfl rfl (fun hg1 => ?_) (fun hg1 => ?_)
    · refine Z5k ?_
      refine ao_y rfl rfl (by decide) (V2.call (queue_Right _ _ (by omega)) rfl) ?_
      refine Z24 ?_
      refine ao_split rfl rfl (fun hg6 => ?_) (fun hg6 => ?_)
      · refine Z5k ?_
        refine Zet ?_
        refine Z24 ?_
        refine ao_split rfl rfl (fun hg11 => ?_) (fun hg11 => ?_)
        · refine Z41 ?_
          refine ao_y rfl rfl (by decide) (V2.call (inst_told _ _ (by assumption)) rfl) ?_
          refine Zh ?_
          exact Zeu
        · refine Zo ?_
          exact Zeu
      · refine Z46 ?_
        exact Zeu
    · refine Z27 ?_
      refine Z46 ?_
      exact Zeu
  repeat (first | refine then_nrm ?_ | refine aw_ret ?_)
  exact Z7
end Go.Av

namespace Go.Av
set_option linter.unusedVariables false
set_option linter.unusedSimpArgs false
theorem hbelow_le (g : List Thing) (h : List Int) (m : Int) : (hbelow g h m).length ≤ 256 := by
  rw [hbelow]
  split
  · rename_i hh
    exact Nat.le_trans (idx_len _ _) (gright_len (hright_parts hh).1).2
  · decide
theorem heldBusy_le (l : List Held) (a b : Int) : (heldBusy l a b).length ≤ 256 := by
  rw [heldBusy]
  split
  · exact busyL_le l a b
  · decide
theorem iusable_le (w : Inst) : (iusable w).length ≤ 256 := setop_len _ _ _
theorem ifree_le (i : Inst) : (ifree i).length ≤ 256 := by
  rw [ifree]
  split
  · decide
  · exact setop_len _ _ _
theorem iright_jobs {i : Inst} (h : iright i = true) : jobsR i.jobs = true := by
  simp only [iright, Bool.and_eq_true] at h; exact h.1.1.2
theorem iright_table {i : Inst} (h : iright i = true) : heldR i.table = true := by
  simp only [iright, Bool.and_eq_true] at h; exact h.1.2
theorem sok_busyL : ∀ (l : List Held) (a b : Int), sok (busyL l a b) = true := by
  intro l a b
  suffices h : ∀ (l : List Held) (out : List Int), sok out = true → sok (l.foldl (fun out h => if meets h.frm h.to a b then sjoin out h.things else out) out) = true from h l [] rfl
  intro l
  induction l with
  | nil => intro out h; exact h
  | cons x l ih =>
    intro out h
    rw [List.foldl_cons]
    refine ih _ ?_
    split
    · exact sok_setop _ _ _
    · exact h
theorem sok_heldBusy (l : List Held) (a b : Int) : sok (heldBusy l a b) = true := by
  rw [heldBusy]
  split
  · exact sok_busyL l a b
  · rfl
end Go.Av

namespace Go.Av
open Go.Proofs
set_option maxRecDepth 10000
set_option linter.unusedSimpArgs false
set_option linter.unusedVariables false
theorem worker_usable (w : Inst) (id : Nat) (H : Heap) (hw : IW w) (hid : H[id]? = some ⟨0, 9, [eInst w]⟩) : ACT Tryz.prog KD 67 [.pt id 0 0 0] H (Ret (.pl ((iusable w).map eInt)) H) := by
  have hF := hid
  have w1 := hw.graph
  have w4 := hw.health
  have w5 := hw.lease
  have hbl := hbelow_le w.graph w.health 0
  refine ACT.body (N := 20) [.tmp 2] Tryz.func67 rfl rfl rfl (Nat.le_of_ble_eq_true rfl) fun B hB => ?_
  repeat (refine aw_seq ?_)
  refine Z2p ?_
  repeat (first | refine then_nrm ?_ | refine aw_seq ?_)
  refine Z7t ?_
  refine Zev ?_
  refine Zew ?_
  refine Zex ?_
  refine Zey ?_
  refine Zez ?_
  refine Zf0 ?_
  refine Zf1 ?_
  refine Zf2 ?_
  refine Zf3 ?_
  refine Zf4 ?_
  refine Zf5 ?_
  refine Zf6 ?_
  refine Zf7 ?_
  refine Zf8 ?_
  refine Zf9 ?_
  refine aq02 15 rfl (by decide +kernel) (by decide) (fun _ => V2.call (health_Usable _ _ _ (by omega) (by omega)) rfl) ?_
  refine aq02 16 rfl (by decide +kernel) (by decide) (fun _ => V2.callT (set_Meet w.lease (hbelow w.graph w.health 0) (by omega) (by omega) _) rfl rfl) ?_
  refine Zfa ?_
  refine Zfb ?_
  repeat (first | refine then_nrm ?_ | refine aw_ret ?_)
  exact Z7
set_option maxHeartbeats 0 in
theorem inst_Free (i : Inst) (H : Heap) (hw : IW i) : ACT Tryz.prog KD 24 [.agg (eInst i)] H (Ret (.pl ((ifree i).map eInt)) H) := by
  have w3 := hw.table
  have hul := iusable_le i
  have hbl := heldBusy_le i.table i.now (plus i.now 1)
  refine ACT.body (N := 30) [.tmp 2] Tryz.func24 rfl rfl rfl (Nat.le_of_ble_eq_true rfl) fun B hB => ?_
  repeat (refine aw_seq ?_)
  refine Zdt ?_
  refine Z73 ?_
  refine Z1x ?_
  repeat (first | refine then_nrm ?_ | refine aw_seq ?_)
  refine Z2i ?_
  refine Zfc ?_
  refine Z2j ?_
  repeat (refine then_nrm ?_)
  refine aw_cond rfl (fun hc => ?_) (fun hc => ?_)
  · have hno : iright i = false := by simpa only [Bool.not_eq_true'] using hc
    rw [show ifree i = [] by rw [ifree, hno]; rfl]
    repeat (refine aw_seq ?_)
    refine Z2p ?_
    repeat (refine then_nrm ?_)
    refine aw_nslpl 2 rfl ?_
    exact aw_ret (e_done hB (r_tmp rfl .nil) rfl rfl)
  have hyes : iright i = true := by simpa only [Bool.not_eq_false'] using hc
  rw [show ifree i = sless (iusable i) (heldBusy i.table i.now (plus i.now 1)) by rw [ifree, hyes]; rfl]
  repeat (first | refine then_nrm ?_ | refine aw_seq ?_ | refine aw_skip ?_)
  refine Z2i ?_
  refine Zfh ?_
  repeat (first | refine then_nrm ?_ | refine aw_seq ?_)
  refine Z6i ?_
  refine Zev ?_
  refine aqp2 1 rfl (by decide +kernel) (by decide) (fun G => V2.callT (worker_usable i _ _ hw (lk rfl rfl)) rfl rfl) ?_
  refine Zfi ?_
  refine aqp 3 rfl (by decide +kernel) (by decide) (fun G => w_nilCheck rfl (lk rfl rfl) rfl) ?_
  refine Zfj ?_
  refine Zfk ?_
  refine Zfl ?_
  refine Zfm ?_
  refine Zfn ?_
  refine Zfo ?_
  refine Zfp ?_
  refine Zfq ?_
  refine aq0 12 rfl (by decide +kernel) (by decide) (fun _ => o_move (v := .pt _ _ _ _) rfl) ?_
  refine aqp 13 rfl (by decide +kernel) (by decide) (fun G => w_nilCheck rfl (lk rfl rfl) rfl) ?_
  refine aqp 14 rfl (by decide +kernel) (by decide) (fun G => w_fieldAddr rfl (lk rfl rfl) rfl (by decide)) ?_
  refine aqp 15 rfl (by decide +kernel) (by decide) (fun G => w_fieldAddr rfl (lk rfl rfl) rfl (by decide)) ?_
  refine aqp 16 rfl (by decide +kernel) (by decide) (fun G => w_load1 (v := .int _ _) rfl (lk rfl rfl) rfl rfl rfl) ?_
  refine aq02 17 rfl (by decide +kernel) (by decide) (fun _ => V2.call (when_Plus _ _ _) rfl) ?_
  refine aq02 18 rfl (by decide +kernel) (by decide) (fun _ => V2.callT (held_Busy i.table i.now (plus i.now 1) _ w3) rfl rfl) ?_
  refine aq02 19 rfl (by decide +kernel) (by decide) (fun _ => V2.callT (set_Less (iusable i) (heldBusy i.table i.now (plus i.now 1)) (by omega) (by omega) _) rfl rfl) ?_
  refine aq0 20 rfl (by decide +kernel) (by decide) (fun _ => o_assign (v := .pl _) rfl) ?_
  refine Zfb ?_
  repeat (first | refine then_nrm ?_ | refine aw_ret ?_)
  exact Z7
set_option maxHeartbeats 0 in
theorem inst_New (g : List Thing) (p d : Int) (H : Heap) (hl : g.length ≤ 1000000) : AC Tryz.prog 18 [.pl (g.map eThing), .int .i64 p, .int .i64 d] H (Ret (.tup [.agg (eInst (inew g p d).1), .int .i64 (inew g p d).2]) H) := by
  refine AC.body (N := 27) [.cell 6 27, .tmp 7] Tryz.func18 rfl rfl rfl (Nat.le_of_ble_eq_true rfl) fun B hB => ?_
  repeat (refine aw_seq ?_)
  refine aw_region ?_
  refine Zfr ?_
  refine Z2 ?_
  refine Z5s ?_
  repeat (first | refine then_nrm ?_ | refine aw_seq ?_)
  refine aw_out 16 (.bool (!gright g || !ipolicy p d)) ?_ ?_
  · refine Z2q ?_
    refine Zfs ?_
    refine Z4n ?_
    refine ao_split rfl rfl (fun hg3 => ?_) (fun hg3 => ?_)
    · refine Z3d ?_
      exact Zft
    · refine Ze ?_
      refine Ze ?_
      refine Zeq ?_
      refine Zfu ?_
      exact Zft
  repeat (refine then_nrm ?_)
  refine aw_cond rfl (fun hc => ?_) (fun hc => ?_)
  · have hno : inew g p d = (inst0, 1) := by rw [inew, if_pos hc]
    rw [hno]
    repeat (refine aw_seq ?_)
    refine aw_region ?_
    refine Zfd ?_
    refine Zfw ?_
    refine Zc5 ?_
    repeat (first | refine then_nrm ?_ | refine then_ret ?_ | refine aw_ret ?_)
    exact Z4x
  have hyes : inew g p d = (⟨g, List.replicate g.length 0, gunder g 0, 4611686018427387904, [], [], 0, p, d⟩, 0) := by rw [inew, if_neg (by simp [hc])]
  have hg : gright g = true := by cases h : gright g <;> simp_all
  rw [hyes]
  repeat (first | refine then_nrm ?_ | refine aw_seq ?_ | refine aw_skip ?_)
  refine Z2r ?_
  refine ao_ret (slices_CloneT _ _ (by omega)) rfl (by decide) ?_
  refine Z2q ?_
  refine ao_ret (health_New _ _ (by omega)) rfl (by decide) ?_
  refine Z2q ?_
  refine ao_ret (graph_Under _ _ _ (by omega)) rfl (by decide) ?_
  refine Z1u ?_
  refine Zfd ?_
  refine Zfw ?_
  refine Zc5 ?_
  rw [if_pos hg]
  repeat (first | refine then_nrm ?_ | refine aw_ret ?_)
  exact Z4x
end Go.Av

namespace Go.Av
set_option linter.unusedVariables false
def JW (l : List Job) : Prop := l.length ≤ 1000000 ∧ ∀ j ∈ l, j.needs.length ≤ 1000000
end Go.Av

namespace Go.Av
open Go.Proofs
set_option maxRecDepth 10000
set_option linter.unusedSimpArgs false
set_option linter.unusedVariables false
theorem health_Works (g : List Thing) (h : List Int) (H : Heap) (hl : g.length ≤ 1000000) (hh : h.length ≤ 1000000) : AC Tryz.prog 27 [.pl (g.map eThing), .pl (h.map eI)] H (Ret (.pl ((hbelow g h 1).map eInt)) H) := by
  refine AC.body (N := 8) [.tmp 4] Tryz.func27 rfl rfl rfl (Nat.le_of_ble_eq_true rfl) fun B hB => ?_
  repeat (refine aw_seq ?_)
  refine Z2p ?_
  repeat (first | refine then_nrm ?_ | refine aw_seq ?_)
  refine Z6d ?_
  refine Z9y ?_
  refine Z9z ?_
  repeat (first | refine then_nrm ?_ | refine aw_ret ?_)
  exact Z7
theorem queue_copied (j : Job) (H : Heap) (hw : j.needs.length ≤ 1000000) : AC Tryz.prog 83 [.agg (eJob j)] H (Ret (.agg (eJob j)) H) := by
  refine AC.body (N := 8) [.cell 2 63] Tryz.func83 rfl rfl rfl (Nat.le_of_ble_eq_true rfl) fun B hB => ?_
  repeat (refine aw_seq ?_)
  refine Z2x ?_
  refine Z4g ?_
  refine ao_nil ?_
  refine Zby ?_
  repeat (first | refine then_nrm ?_ | refine aw_seq ?_)
  refine Z30 ?_
  refine Z4j ?_
  refine Z1z ?_
  refine Z4k ?_
  refine Z4m ?_
  repeat (first | refine then_nrm ?_ | refine aw_seq ?_)
  refine Z4v ?_
  refine ao_nil ?_
  refine Z4w ?_
  repeat (first | refine then_nrm ?_ | refine aw_ret ?_)
  exact Zc0
theorem queue_Get (l : List Job) (id : Int) (H : Heap) (hw : JW l) : AC Tryz.prog 30 [.pl (l.map eJob), .int .i64 id] H (Ret (.tup [.agg (eJob (jobsGet l id).1), .bool (jobsGet l id).2]) H) := by
  have hw1 := hw.1
  refine AC.body (N := 26) [.cell 4 63, .tmp 5] Tryz.func30 rfl rfl rfl (Nat.le_of_ble_eq_true rfl) fun B hB => ?_
  repeat (refine aw_seq ?_)
  refine aw_region ?_
  refine Z4g ?_
  refine Z9 ?_
  refine Z5s ?_
  repeat (first | refine then_nrm ?_ | refine aw_seq ?_)
  refine Z2r ?_
  refine Zfx ?_
  refine Z2j ?_
  repeat (refine then_nrm ?_)
  refine aw_cond rfl (fun hc => ?_) (fun hc => ?_)
  · have hno : jobsR l = false := by simpa only [Bool.not_eq_true'] using hc
    rw [show jobsGet l id = (job0, false) by rw [jobsGet, hno]; rfl]
    repeat (refine aw_seq ?_)
    refine aw_region ?_
    refine Zfy ?_
    refine Z4u ?_
    refine Z9 ?_
    refine Zc5 ?_
    repeat (first | refine then_nrm ?_ | refine then_ret ?_ | refine aw_ret ?_)
    exact Z4x
  have hyes : jobsR l = true := by simpa only [Bool.not_eq_false'] using hc
  have hs := jobsR_sorted hyes
  repeat (first | refine then_nrm ?_ | refine aw_seq ?_ | refine aw_skip ?_)
  refine Z95 ?_
  refine Zdl ?_
  refine Z54 ?_
  repeat (first | refine then_nrm ?_ | refine aw_seq ?_)
  refine Z56 ?_
  repeat (refine then_nrm ?_)
  refine aw_cond rfl (fun hc => ?_) (fun hc => ?_)
  · have hno : jobHit l id = false := by simpa only [Bool.not_eq_true'] using hc
    rw [show jobsGet l id = (job0, false) by rw [jobsGet, hyes, hno]; rfl]
    repeat (refine aw_seq ?_)
    refine aw_region ?_
    refine Zfy ?_
    refine Z4u ?_
    refine Z9 ?_
    refine Zc5 ?_
    repeat (first | refine then_nrm ?_ | refine then_ret ?_ | refine aw_ret ?_)
    exact Z4x
  have hhit : jobHit l id = true := by simpa only [Bool.not_eq_false'] using hc
  have hn : jobPos l id < l.length := by simp only [jobHit, Bool.and_eq_true, decide_eq_true_eq] at hhit; exact hhit.1
  obtain ⟨x, hx, hxl⟩ := get_in hn
  have hr := map_get eJob hx
  have hxw := hw.2 x hxl
  rw [show jobsGet l id = (x, true) by rw [jobsGet, hyes, hhit, jobAt_get hx]; rfl]
  repeat (first | refine then_nrm ?_ | refine aw_seq ?_ | refine aw_skip ?_)
  refine Z95 ?_
  refine Z7n ?_
  refine Zfz ?_
  refine Z4u ?_
  refine Z9 ?_
  refine Z5w ?_
  repeat (first | refine then_nrm ?_ | refine aw_ret ?_)
  exact Z4x
theorem queue_clone (l : List Job) (H : Heap) (hw : JW l) : AC Tryz.prog 147 [.pl (l.map eJob)] H (Ret (.sl (Lid H.length 0) l.length 0 l.length l.length) (H ++ [⟨l.length, 13, l.map eJob⟩])) := by
  have hl := hw.1
  refine AC.body (N := 19) [.tmp 2] Tryz.func147 rfl rfl rfl (Nat.le_of_ble_eq_true rfl) fun B hB => ?_
  repeat (refine aw_seq ?_)
  refine Z2p ?_
  repeat (first | refine then_nrm ?_ | refine aw_seq ?_)
  refine Z2p ?_
  repeat (first | refine then_nrm ?_ | refine aw_seq ?_)
  refine aw_ghostL (k := 0) 3 13 rfl (by decide) rfl ?_
  refine Z5t ?_
  refine Z9w ?_
  repeat (first | refine then_nrm ?_ | refine aw_block ?_)
  refine aw_loop (G := Nat) (fun k => k ≤ l.length) (fun k => [(6, .pl (l.map eJob)), (7, .int .i64 (l.length : Int)), (8, .int .i64 (k : Int)), (3, .sl (Lid H.length 0) k 0 k k)]) (fun k => H ++ [⟨k, 13, (l.take k).map eJob⟩]) (fun k => l.length - k) 0 (Nat.zero_le _) (by repeat (first | exact Sub.nil | refine Sub.cons (by first | rfl | (simp [get]; done)) ?_)) (Fit.refl _ _) ?_
  intro k hk
  repeat (refine aw_seq ?_)
  refine Z36 ?_
  repeat (first | refine then_nrm ?_ | refine aw_seq ?_)
  refine aw_cond rfl (fun hc => ?_) (fun hc => ?_)
  · have hlt : k < l.length := by simpa using hc
    obtain ⟨x, hx, hxl⟩ := get_in hlt
    have hr := map_get eJob hx
    have hb := hw.2 x hxl
    repeat (first | refine then_nrm ?_ | refine aw_seq ?_ | refine aw_block ?_ | refine aw_skip ?_)
    refine Zdv ?_
    refine Z9a ?_
    repeat (refine then_nrm ?_)
    refine Zg0 ?_
    refine Zfz ?_
    refine Zg1 ?_
    refine Zg2 ?_
    refine Z7c ?_
    refine Z9x ?_
    repeat (first | refine then_nrm ?_ | refine blk_nrm ?_)
    refine Z3i ?_
    repeat (refine then_nrm ?_)
    refine ⟨k + 1, by omega, by omega, (by repeat (first | exact Sub.nil | refine Sub.cons (by rfl) ?_)), Fit.loc hB (by rw [take_snoc_map eJob hx]; rfl) (by repeat (first | exact EBel.nil | refine EBel.cons (by first | rfl | (simp [AV.bel, AV.bels, Lid]; done)) ?_)) ?_⟩
    intro o ho r hr
    simp only [List.mem_singleton] at ho
    subst ho
    exact jobs_bel _ _ r hr
  · have : k = l.length := by simp at hc; omega
    subst this
    rw [List.take_length]
    repeat (first | refine then_nrm ?_ | refine then_brk ?_ | refine blk_hit ?_ | refine aw_seq ?_ | refine aw_exit ?_)
    refine Z7f ?_
    repeat (first | refine then_nrm ?_ | refine aw_ret ?_)
    exact e_keep (G := []) hB (r_tmp rfl .nil) rfl rfl (by simp [AV.bel, Lid]) (by intro o ho r hr; simp only [List.mem_singleton] at ho; subst ho; exact jobs_bel _ _ r hr)
theorem held_clone (l : List Held) (H : Heap) (hw : HW l) : AC Tryz.prog 137 [.pl (l.map eHeld)] H (Ret (.sl (Lid H.length 0) l.length 0 l.length l.length) (H ++ [⟨l.length, 4, l.map eHeld⟩])) := by
  have hl := hw.1
  refine AC.body (N := 19) [.tmp 2] Tryz.func137 rfl rfl rfl (Nat.le_of_ble_eq_true rfl) fun B hB => ?_
  repeat (refine aw_seq ?_)
  refine Z2p ?_
  repeat (first | refine then_nrm ?_ | refine aw_seq ?_)
  refine Z2p ?_
  repeat (first | refine then_nrm ?_ | refine aw_seq ?_)
  refine aw_ghostL (k := 0) 3 4 rfl (by decide) rfl ?_
  refine Z5t ?_
  refine Z9w ?_
  repeat (first | refine then_nrm ?_ | refine aw_block ?_)
  refine aw_loop (G := Nat) (fun k => k ≤ l.length) (fun k => [(6, .pl (l.map eHeld)), (7, .int .i64 (l.length : Int)), (8, .int .i64 (k : Int)), (3, .sl (Lid H.length 0) k 0 k k)]) (fun k => H ++ [⟨k, 4, (l.take k).map eHeld⟩]) (fun k => l.length - k) 0 (Nat.zero_le _) (by repeat (first | exact Sub.nil | refine Sub.cons (by first | rfl | (simp [get]; done)) ?_)) (Fit.refl _ _) ?_
  intro k hk
  repeat (refine aw_seq ?_)
  refine Z36 ?_
  repeat (first | refine then_nrm ?_ | refine aw_seq ?_)
  refine aw_cond rfl (fun hc => ?_) (fun hc => ?_)
  · have hlt : k < l.length := by simpa using hc
    obtain ⟨x, hx, hxl⟩ := get_in hlt
    have hr := map_get eHeld hx
    have hb := hw.2 x hxl
    repeat (first | refine then_nrm ?_ | refine aw_seq ?_ | refine aw_block ?_ | refine aw_skip ?_)
    refine Zca ?_
    refine Z9a ?_
    repeat (refine then_nrm ?_)
    refine Zg0 ?_
    refine Zc7 ?_
    refine Zg3 ?_
    refine Zg2 ?_
    refine Z7c ?_
    refine Z9x ?_
    repeat (first | refine then_nrm ?_ | refine blk_nrm ?_)
    refine Z3i ?_
    repeat (refine then_nrm ?_)
    refine ⟨k + 1, by omega, by omega, (by repeat (first | exact Sub.nil | refine Sub.cons (by rfl) ?_)), Fit.loc hB (by rw [take_snoc_map eHeld hx]; rfl) (by repeat (first | exact EBel.nil | refine EBel.cons (by first | rfl | (simp [AV.bel, AV.bels, Lid]; done)) ?_)) ?_⟩
    intro o ho r hr
    simp only [List.mem_singleton] at ho
    subst ho
    exact helds_bel _ _ r hr
  · have : k = l.length := by simp at hc; omega
    subst this
    rw [List.take_length]
    repeat (first | refine then_nrm ?_ | refine then_brk ?_ | refine blk_hit ?_ | refine aw_seq ?_ | refine aw_exit ?_)
    refine Z7f ?_
    repeat (first | refine then_nrm ?_ | refine aw_ret ?_)
    exact e_keep (G := []) hB (r_tmp rfl .nil) rfl rfl (by simp [AV.bel, Lid]) (by intro o ho r hr; simp only [List.mem_singleton] at ho; subst ho; exact helds_bel _ _ r hr)
end Go.Av

namespace Go.Av
section
variable {P : Program} {N : Nat} {B : Base} {ops : Array Oper} {a : Option Nat} {C : Heap → Prop} {F : Env → Heap → Prop} {Q : Post}
variable {op : Op} {ty : TypeId} {pos : String} {after : Array Edge}
inductive Anc (ops : Array Oper) (listed : Array Bool) (i : Nat) : Nat → Prop
  | here : Anc ops listed i i
  | step {m : Nat} {om : Oper} {e : Edge} : listed.getD m true = false → ops[m]? = some om → e ∈ om.after → Region.binds .any e = true → Anc ops listed i e.on → Anc ops listed i m
def Wait2 (ops : Array Oper) (a : Option Nat) (i : Nat) (listed : Array Bool) : Prop := ∀ a', a = some a' → ∀ oa, ops[a']? = some oa → ∃ e ∈ oa.after, Region.binds .any e = true ∧ Anc ops listed i e.on
theorem listed_no {listed : Array Bool} {m : Nat} (h1 : listed.getD m false = true) (h2 : listed.getD m true = false) : False := by
  rcases Nat.lt_or_ge m listed.size with h' | h'
  · simp [h'] at h1 h2; rw [h1] at h2; cases h2
  · simp [Array.getElem?_eq_none h'] at h1
theorem Anc.put {listed : Array Bool} {i j m : Nat} {oj : Oper} (hoj : ops[j]? = some oj) (hall : ∀ e ∈ oj.after, Region.binds .any e = true → listed.getD e.on false = true) (hnot : ∀ e ∈ oj.after, Region.binds .any e = true → e.on ≠ i) (h : Anc ops listed i m) : Anc ops (listed.setIfInBounds j true) i m := by
  induction h with
  | here => exact .here
  | @step m om e hm hom he hb h ih =>
    refine .step ?_ hom he hb ih
    have : j ≠ m := by
      rintro rfl
      rw [hoj] at hom
      obtain rfl := Option.some.inj hom
      have h1 := hall e he hb
      have h2 := hnot e he hb
      cases h with
      | here => exact h2 rfl
      | step h3 => exact listed_no h1 h3
    rw [getD_set_ne true this]; exact hm
theorem aa_first_aux2 {i : Nat} {oi : Oper} {v : AV} (hi : ops[i]? = some oi) (hdi : ∀ t, oi.dst = some t → DN t N) (hai : a ≠ some i) :
    ∀ (fuel : Nat) (listed : Array Bool) (env : Env) (H : Heap), Wait2 ops a i listed → listed.size = ops.size →
      (∀ j oj, ops[j]? = some oj → j ≠ i → listed.getD j true = false → (∀ e ∈ oj.after, Region.binds .any e = true → e.on ≠ i) → oi.apart ops oj = true) →
      i ∈ Region.ready .any ops listed → Yet a listed → Quiet P N ops C oi env v →
      AAny P N B ops a C F fuel (listed.setIfInBounds i true) (Av.put env oi.dst v) H → AAny P N B ops a C F (fuel + 1) listed env H := by
  have hset : ∀ (listed : Array Bool) (j : Nat), a ≠ some j → Yet a (listed.setIfInBounds j true) = Yet a listed := fun listed j hj => by
    unfold Yet
    cases a with
    | none => rfl
    | some a => simp only; rw [getD_set_ne true (fun e => hj (by rw [e]))]
  intro fuel
  induction fuel with
  | zero =>
    intro listed env H _ hsz _ hr ha hq h
    have hC : C H := h.1 (by rw [hset _ _ hai]; exact ha)
    refine ⟨fun _ => hC, fun h0 => (by rw [h0] at hr; cases hr), fun j hj => ?_⟩
    by_cases hji : j = i
    · subst hji; exact hq.at_ hi hdi hC h
    · have := ready_mono hj hji
      rw [h.2.1] at this
      cases this
  | succ fuel ih =>
    intro listed env H hwait hsz hfree hr ha hq h
    have hC : C H := h.1 (by rw [hset _ _ hai]; exact ha)
    refine ⟨fun _ => hC, fun h0 => (by rw [h0] at hr; cases hr), fun j hj => ?_⟩
    by_cases hji : j = i
    · subst hji; exact hq.at_ hi hdi hC h
    · have h1 := h.2.2 j (ready_mono hj hji)
      obtain ⟨hjun, oj, hoj, hall⟩ := mem_ready.1 hj
      have hnot : ∀ e ∈ oj.after, Region.binds .any e = true → e.on ≠ i := fun e he hb heq => by
        have h1 := hall e he hb
        have h0 := (mem_ready.1 hr).1
        rw [heq] at h1
        rcases Nat.lt_or_ge i listed.size with h' | h'
        · simp [h'] at h0 h1; rw [h0] at h1; cases h1
        · simp [Array.getElem?_eq_none h'] at h1
      have hja : a ≠ some j := by
        rintro rfl
        obtain ⟨e, he, hb, hm⟩ := hwait j rfl oj hoj
        generalize hx : e.on = x at hm
        cases hm with
        | here => exact hnot e he hb hx
        | step h3 => exact listed_no (hall e he hb) (by rw [hx]; exact h3)
      have hwait' : Wait2 ops a i (listed.setIfInBounds j true) := by
        intro a' ha' oa hoa
        obtain ⟨e, he, hb, hm⟩ := hwait a' ha' oa hoa
        exact ⟨e, he, hb, hm.put hoj hall hnot⟩
      have hap := hfree j oj hoj hji hjun hnot
      obtain ⟨p1, p2, p3⟩ := Oper.apart_spec hap
      have hfree' : ∀ k ok, ops[k]? = some ok → k ≠ i → (listed.setIfInBounds j true).getD k true = false →
          (∀ e ∈ ok.after, Region.binds .any e = true → e.on ≠ i) → oi.apart ops ok = true := fun k ok hk hki hun hno => by
        refine hfree k ok hk hki ?_ hno
        by_cases hjk : j = k
        · subst hjk; exact hjun
        · rw [getD_set_ne true hjk] at hun; exact hun
      obtain ⟨o, ho, hd, h2⟩ := h1
      rw [hoj] at ho
      obtain rfl := Option.some.inj ho
      have step : ∀ x H', AAny P N B ops a C F fuel ((listed.setIfInBounds i true).setIfInBounds j true) (Av.put (Av.put env oi.dst v) oj.dst x) H' → AAny P N B ops a C F (fuel + 1) (listed.setIfInBounds j true) (Av.put env oj.dst x) H' := by
        intro x H' hx
        refine ih (listed.setIfInBounds j true) (Av.put env oj.dst x) H' hwait' (by simpa using hsz) hfree' (ready_mono hr (Ne.symm hji)) (by rw [hset _ _ hja]; exact ha) (hq.put p3 fun t ht => (hd t ht).2) ?_
        rw [Array.setIfInBounds_comm _ _ hji]
        exact AAny.eqv _ _ _ _ _ (Eqv.comm env v x p2) hx
      refine ⟨oj, hoj, hd, ?_⟩
      rcases h2 with ⟨k1, V, k2, k3⟩ | ⟨k1, k2⟩
      · exact .inl ⟨k1.put p1, V, by rw [renv_put ops oj env oi.dst v p1 fun t ht => (hdi t ht).2] at k2; exact k2, fun x H' hx => step x H' (k3 x H' hx)⟩
      · exact .inr ⟨k1.put p1, step _ _ k2⟩
def ancB (ops : Array Oper) (listed : Array Bool) (i : Nat) : Nat → List Nat → Bool
  | m, [] => m == i
  | m, x :: l => !(listed.getD m true) && (match ops[m]? with
      | some om => om.after.toList.any fun e => Region.binds .any e && e.on == x
      | none => false) && ancB ops listed i x l
theorem ancB_spec {listed : Array Bool} {i : Nat} : ∀ (l : List Nat) (m : Nat), ancB ops listed i m l = true → Anc ops listed i m
  | [], m, h => by simp only [ancB, beq_iff_eq] at h; subst h; exact .here
  | x :: l, m, h => by
    simp only [ancB, Bool.and_eq_true, Bool.not_eq_true'] at h
    obtain ⟨⟨h1, h2⟩, h3⟩ := h
    cases hm : ops[m]? with
    | none => rw [hm] at h2; cases h2
    | some om =>
      rw [hm] at h2
      simp only [List.any_eq_true, Bool.and_eq_true, beq_iff_eq] at h2
      obtain ⟨e, he, hb, ho⟩ := h2
      subst ho
      exact .step h1 hm (by simpa using he) hb (ancB_spec l _ h3)
def firstB2 (ops : Array Oper) (listed : Array Bool) (a : Nat) (l : List Nat) (i : Nat) : Bool :=
  (Region.ready .any ops listed).contains i && Region.free .any ops listed i && decide (listed.size = ops.size) &&
    (i != a && !(listed.getD a true) && ancB ops listed i a l)
theorem aqpz {fuel : Nat} {listed : Array Bool} {env : Env} {H H0 : Heap} {v : AV} {d a : Nat} {L0 : Heap} (l : List Nat) (i : Nat) (hi : ops[i]? = some ⟨some d, op, ty, pos, after, none⟩) (hB : firstB2 ops listed a l i = true) (hd : DN d N) (h1 : ∀ G, V1 P N op ty (renv ⟨some d, op, ty, pos, after, none⟩ env) (H0 ++ (L0 ++ G)) v)
    (h : AAny P N B ops (some a) (Pre H0 L0) F fuel (listed.setIfInBounds i true) ((d, v) :: env) H) : AAny P N B ops (some a) (Pre H0 L0) F (fuel + 1) listed env H := by
  simp only [firstB2, Bool.and_eq_true, decide_eq_true_eq, bne_iff_ne, Bool.not_eq_true'] at hB
  obtain ⟨⟨⟨h2, h3⟩, h5⟩, ⟨h6, h7⟩, h8⟩ := hB
  refine aa_first_aux2 hi (by rintro _ ⟨⟩; exact hd) (fun e => h6 (Option.some.inj e).symm) fuel listed env H ?_ h5 (Region.free_spec hi h3) (by simpa using h2) h7 (.inl ⟨rfl, by rintro H ⟨G, rfl⟩; exact (h1 G).toV2 _ _ _ _⟩) h
  intro a' ha oa hoa
  obtain rfl := Option.some.inj ha
  cases ancB_spec _ _ h8 with
  | here => exact absurd rfl h6
  | step h9 h10 h11 h12 h13 =>
    rw [hoa] at h10
    obtain rfl := Option.some.inj h10
    exact ⟨_, h11, h12, h13⟩
end
end Go.Av

namespace Go.Av
open Go.Proofs
set_option maxRecDepth 10000
set_option linter.unusedSimpArgs false
set_option linter.unusedVariables false
set_option maxHeartbeats 0 in
theorem queue_Do (l : List Job) (id what now : Int) (H : Heap) (hw : JW l) : AC Tryz.prog 138 [.pl (l.map eJob), .int .i64 id, .int .i64 what, .int .i64 now] H (Ret (.tup [.pl ((jobsDo l id what now).1.map eJob), .int .i64 (jobsDo l id what now).2]) H) := by
  have hw1 := hw.1
  refine AC.body (N := 46) [.tmp 8, .tmp 9] Tryz.func138 rfl rfl rfl (Nat.le_of_ble_eq_true rfl) fun B hB => ?_
  repeat (refine aw_seq ?_)
  refine Z2o ?_
  refine Z2 ?_
  repeat (first | refine then_nrm ?_ | refine aw_seq ?_)
  refine Z2r ?_
  refine Zg4 ?_
  refine Z7c ?_
  refine Z5s ?_
  repeat (first | refine then_nrm ?_ | refine aw_seq ?_)
  refine Z2r ?_
  refine Zfx ?_
  refine Z2j ?_
  repeat (refine then_nrm ?_)
  refine aw_cond rfl (fun hc => ?_) (fun hc => ?_)
  · have hno : jobsR l = false := by simpa only [Bool.not_eq_true'] using hc
    rw [show jobsDo l id what now = (l, 1) by rw [jobsDo, hno]; rfl]
    repeat (refine aw_seq ?_)
    refine Zg6 ?_
    try dsimp only
    repeat (refine then_nrm ?_)
    refine Zg7 ?_
    exact Zg8
  have hyes : jobsR l = true := by simpa only [Bool.not_eq_false'] using hc
  have hs := jobsR_sorted hyes
  repeat (first | refine then_nrm ?_ | refine aw_seq ?_ | refine aw_skip ?_)
  refine Z95 ?_
  refine Zdl ?_
  refine Z54 ?_
  repeat (first | refine then_nrm ?_ | refine aw_seq ?_)
  refine Z56 ?_
  repeat (refine then_nrm ?_)
  refine aw_cond rfl (fun hc => ?_) (fun hc => ?_)
  · have hno : jobHit l id = false := by simpa only [Bool.not_eq_true'] using hc
    rw [show jobsDo l id what now = (l, 6) by rw [jobsDo, hyes, hno]; rfl]
    repeat (refine aw_seq ?_)
    refine Zg6 ?_
    try dsimp only
    repeat (refine then_nrm ?_)
    refine Zg7 ?_
    exact Zg8
  have hhit : jobHit l id = true := by simpa only [Bool.not_eq_false'] using hc
  have hn : jobPos l id < l.length := by simp only [jobHit, Bool.and_eq_true, decide_eq_true_eq] at hhit; exact hhit.1
  obtain ⟨x, hx, hxl⟩ := get_in hn
  have hr := map_get eJob hx
  have hxw := hw.2 x hxl
  rw [show jobsDo l id what now = (l.set (jobPos l id) (jdo x what now).1, (jdo x what now).2) by rw [jobsDo, hyes, hhit, jobAt_get hx]; rfl]
  repeat (first | refine then_nrm ?_ | refine aw_seq ?_ | refine aw_skip ?_)
  refine Z79 ?_
  refine Z97 ?_
  refine Zg9 ?_
  refine Z1u ?_
  refine ao2 (by rintro _ ⟨⟩; decide) (V2.call (job_Do x what now hxw _) rfl) ?_
  refine Zga ?_
  refine Zdu ?_
  refine Z2 ?_
  refine Z99 ?_
  repeat (first | refine then_nrm ?_ | refine aw_seq ?_)
  refine Z79 ?_
  refine Z2h ?_
  refine Z97 ?_
  refine ao2 (by rintro _ ⟨⟩) (w_storeW (sz := 13) rfl rfl rfl rfl (zadd hr) rfl rfl rfl (Nat.le_of_ble_eq_true rfl)) ?_
  refine Z98 ?_
  rw [Nat.zero_add, ← List.map_set]
  repeat (first | refine then_nrm ?_ | refine aw_seq ?_)
  refine Z79 ?_
  refine Z7b ?_
  refine Z2 ?_
  repeat (refine then_nrm ?_)
  refine aw_freezeL (ys := (l.set (jobPos l id) (jdo x what now).1).map eJob) 8 rfl rfl rfl rfl (by rw [List.drop_zero, List.take_of_length_le (by simp)]) (by simp) (jobs_bel 0 _) ?_
  exact Zg8
theorem slices_DeleteH (l : List Held) (i id g : Nat) (H : Heap) (hid : H[id]? = some ⟨g, 4, l.map eHeld⟩) (hi : i < l.length) (hl : l.length ≤ 1000000) :
    AC Tryz.prog 171 [.sl id g 0 l.length l.length, .int .i64 (i : Int), .int .i64 ((i + 1 : Nat) : Int)] H (Ret (.sl id (g + 1) 0 (l.length - 1) l.length) (H.set id ⟨g + 1, 4, (l.eraseIdx i).map eHeld⟩)) := by
  have hF := hid
  have e1 : ((l.map eHeld).drop (i + 1)).take (l.length - (i + 1)) = (l.drop (i + 1)).map eHeld := by
    rw [List.map_drop, List.take_of_length_le (by simp)]
  have e2 : ((l.drop (i + 1)).map eHeld).length = l.length - (i + 1) := by simp
  have e3 : (l.map eHeld).take i ++ (l.drop (i + 1)).map eHeld = (l.eraseIdx i).map eHeld := by
    rw [List.eraseIdx_eq_take_drop_succ, List.map_append, List.map_take]
  have e4 : i + ((l.drop (i + 1)).map eHeld).length = l.length - 1 := by rw [e2]; omega
  refine AC.body (N := 33) [.tmp 6] Tryz.func171 rfl rfl rfl (Nat.le_of_ble_eq_true rfl) fun B hB => ?_
  repeat (refine aw_seq ?_)
  refine Z2p ?_
  repeat (first | refine then_nrm ?_ | refine aw_seq ?_)
  refine Z78 ?_
  refine Z1u ?_
  refine Z77 ?_
  refine Zgb ?_
  refine ao1 (by decide) (o_slices3 rfl (lkF hF) rfl rfl (.some rfl rfl) rfl rfl (by omega) (by omega) (by omega)) ?_
  refine ao_nil ?_
  repeat (first | refine then_nrm ?_ | refine aw_seq ?_)
  refine Z1o ?_
  refine Z10 ?_
  repeat (refine then_nrm ?_)
  refine aw_cond rfl (fun hc => ?_) (fun hc => ?_)
  · simp at hc; omega
  · repeat (first | refine then_nrm ?_ | refine aw_seq ?_ | refine aw_skip ?_)
    refine Z78 ?_
    refine Zgb ?_
    refine Z2 ?_
    repeat (first | refine then_nrm ?_ | refine aw_seq ?_)
    refine aw_drawP mixed (some 6) 999 ?_
    refine Z9r ?_
    refine aqp 2 rfl (by decide +kernel) (by decide) (fun G => w_slices rfl (lkF hF) rfl rfl .none (.some rfl rfl) (by omega) (by omega)) ?_
    refine aq0 3 rfl (by decide +kernel) (by decide) (fun _ => o_move (v := .sl _ _ _ _ _) rfl) ?_
    refine Z18 ?_
    refine aqp 5 rfl (by decide +kernel) (by decide) (fun G => w_slices rfl (lkF hF) rfl rfl (.some rfl rfl) .none (by omega) (by omega)) ?_
    refine aqs 6 rfl (by decide +kernel) (by exact fun _ => ⟨_, rfl⟩) (by rintro _ ⟨⟩; decide) (w_appendF l.length rfl hF rfl rfl (Src.sl (o := ⟨g, 4, l.map eHeld⟩) rfl (lkF hF) rfl (by rw [Nat.zero_add]; exact e1) e2) rfl (by simp; omega) (by rw [e2]; omega) (by rw [e2]; omega) (by omega)) ?_
    refine aq0 7 rfl (by decide +kernel) (by decide) (fun _ => o_assign (v := .sl _ _ _ _ _) rfl) ?_
    refine Z5z ?_
    refine Z55 ?_
    simp only [Nat.sub_zero, e4, e3]
    have hF2 : (H.set id ⟨g + 1, 4, (l.eraseIdx i).map eHeld⟩)[id]? = some ⟨g + 1, 4, (l.eraseIdx i).map eHeld⟩ := List.getElem?_set_self (List.getElem?_eq_some_iff.1 hid).1
    repeat (first | refine then_nrm ?_ | refine aw_seq ?_)
    refine Zgc ?_
    refine ao1 (by decide) (w_lens rfl (lkF hF2) rfl) ?_
    refine Z6 ?_
    refine ao1 (by decide) (w_slices (l := l.length - 1) (h := l.length) rfl (lkF hF2) rfl rfl (.some rfl rfl) (.some rfl (by simp)) (by omega) (by omega)) ?_
    refine ao2 (by rintro _ ⟨⟩) (w_clearF rfl hF2 rfl rfl rfl) ?_
    refine Z2s ?_
    rw [show ((l.eraseIdx i).map eHeld).take (0 + (l.length - 1)) = (l.eraseIdx i).map eHeld from List.take_of_length_le (by simp [List.length_eraseIdx, hi]), List.set_set]
    repeat (first | refine then_nrm ?_ | refine aw_seq ?_)
    refine Z7f ?_
    repeat (first | refine then_nrm ?_ | refine aw_ret ?_)
    refine e_doneF hB (r_tmp rfl .nil) rfl ?_ (by simp) (hB.heap.set _ _ (helds_bel _ _))
    simp [AV.bel]
    exact (List.getElem?_eq_some_iff.1 hid).1
end Go.Av

namespace Go.Av
open Go.Proofs
set_option maxRecDepth 10000
set_option linter.unusedSimpArgs false
set_option linter.unusedVariables false
set_option maxHeartbeats 0 in
theorem held_Drop (l : List Held) (id : Int) (H : Heap) (hw : HW l) : AC Tryz.prog 139 [.pl (l.map eHeld), .int .i64 id] H (Ret (.tup [.pl ((heldDrop l id).1.map eHeld), .agg (eHeld (heldDrop l id).2.1), .int .i64 (heldDrop l id).2.2]) H) := by
  have hw1 := hw.1
  refine AC.body (N := 38) [.tmp 4, .cell 5 60, .tmp 6] Tryz.func139 rfl rfl rfl (Nat.le_of_ble_eq_true rfl) fun B hB => ?_
  repeat (refine aw_seq ?_)
  refine Z2o ?_
  refine Z5r ?_
  refine Z2 ?_
  refine Z5s ?_
  repeat (first | refine then_nrm ?_ | refine aw_seq ?_)
  refine Z2r ?_
  refine Zgd ?_
  refine Z7c ?_
  refine Zge ?_
  repeat (first | refine then_nrm ?_ | refine aw_seq ?_)
  refine Zc3 ?_
  repeat (refine then_nrm ?_)
  refine aw_cond rfl (fun hc => ?_) (fun hc => ?_)
  · have hno : heldR l = false := by simpa only [Bool.not_eq_true'] using hc
    rw [show heldDrop l id = (l, held0, 1) by rw [heldDrop, hno]; rfl]
    repeat (refine aw_seq ?_)
    refine Z78 ?_
    refine Zc4 ?_
    refine Z7b ?_
    refine Zab ?_
    refine Z2 ?_
    refine Zc5 ?_
    repeat (refine then_nrm ?_)
    refine Zgf ?_
    refine aw_ret ?_
    exact Zgg
  have hyes : heldR l = true := by simpa only [Bool.not_eq_false'] using hc
  have hs := heldR_sorted hyes
  repeat (first | refine then_nrm ?_ | refine aw_seq ?_ | refine aw_skip ?_)
  refine Z95 ?_
  refine Zc6 ?_
  refine Z54 ?_
  repeat (first | refine then_nrm ?_ | refine aw_seq ?_)
  refine Z56 ?_
  repeat (refine then_nrm ?_)
  refine aw_cond rfl (fun hc => ?_) (fun hc => ?_)
  · have hno : heldHit l id = false := by simpa only [Bool.not_eq_true'] using hc
    rw [show heldDrop l id = (l, held0, 6) by rw [heldDrop, hyes, hno]; rfl]
    repeat (refine aw_seq ?_)
    refine Z78 ?_
    refine Zc4 ?_
    refine Z7b ?_
    refine Zab ?_
    refine Z2 ?_
    refine Zc5 ?_
    repeat (refine then_nrm ?_)
    refine Zgf ?_
    refine aw_ret ?_
    exact Zgg
  have hhit : heldHit l id = true := by simpa only [Bool.not_eq_false'] using hc
  have hk : heldPos l id < l.length := by simp only [heldHit, Bool.and_eq_true, decide_eq_true_eq] at hhit; exact hhit.1
  obtain ⟨x, hx, hxl⟩ := get_in hk
  have hr := map_get eHeld hx
  rw [show heldDrop l id = (l.eraseIdx (heldPos l id), x, 0) by rw [heldDrop, hyes, hhit, heldAt_get hx]; rfl]
  generalize heldPos l id = k at *
  repeat (first | refine then_nrm ?_ | refine aw_seq ?_ | refine aw_skip ?_)
  refine Z79 ?_
  refine Z97 ?_
  refine Zg9 ?_
  refine Zc9 ?_
  refine Z9a ?_
  repeat (first | refine then_nrm ?_ | refine aw_seq ?_)
  refine aw_drawR mixed (some 7) 2 ?_
  refine Z9r ?_
  refine Z7h ?_
  refine aq0 3 rfl (by decide +kernel) (by decide) (fun _ => o_add (r := ((k + 1 : Nat) : Int)) rfl rfl (by rw [show (k : Int) + 1 = ((k + 1 : Nat) : Int) by omega]; exact wrap64_ok (by omega) (by omega))) ?_
  refine aqr 5 rfl (by decide +kernel) (by decide) (fun G hG => w_loadR rfl (lk rfl hG) rfl rfl rfl) ?_
  refine aqs 4 rfl (by decide +kernel) (by exact fun _ => ⟨_, rfl, rfl⟩) (by rintro _ ⟨⟩; decide) (V2.callo3 (slices_DeleteH l k _ _ _ (lk rfl rfl) hk hw1) rfl rfl) ?_
  refine aq0 6 rfl (by decide +kernel) (by decide) (fun _ => o_assign (v := .sl _ _ _ _ _) rfl) ?_
  refine aqs 7 rfl (by decide +kernel) (by exact fun _ => ⟨_, rfl, rfl⟩) (by rintro _ ⟨⟩) (w_storeW (sz := 4) rfl rfl rfl rfl rfl rfl rfl rfl (Nat.le_of_ble_eq_true rfl)) ?_
  refine Z1b ?_
  refine aa_done (by decide +kernel) (by exact fun _ => ⟨_, rfl, rfl⟩) ?_
  refine Zgh ?_
  repeat (refine then_nrm ?_)
  refine aw_freezeL (ys := (l.eraseIdx k).map eHeld) 4 rfl rfl rfl rfl (by rw [List.drop_zero, List.take_of_length_le (by simp [List.length_eraseIdx, hk])]) (by simp [List.length_eraseIdx, hk]) (helds_bel 0 _) ?_
  refine aw_ret ?_
  exact Zgg
end Go.Av

namespace Go.Av
open Go.Proofs
set_option maxRecDepth 10000
set_option linter.unusedSimpArgs false
set_option linter.unusedVariables false
theorem set_same {H : Heap} {p : Nat} {o : AObj} (h : H[p]? = some o) : H.set p o = H := by
  apply List.ext_getElem?
  intro j
  rw [List.getElem?_set]
  by_cases e : p = j
  · subst e; rw [if_pos rfl, if_pos (List.getElem?_eq_some_iff.1 h).1, h]
  · rw [if_neg e]
def wjobs (w : Inst) (l : List Job) : Inst := ⟨w.graph, w.health, w.lease, w.til, l, w.table, w.now, w.policy, w.depth⟩
def wtable (w : Inst) (l : List Held) : Inst := ⟨w.graph, w.health, w.lease, w.til, w.jobs, l, w.now, w.policy, w.depth⟩
set_option maxHeartbeats 0 in
theorem worker_do (w : Inst) (id what at_ : Int) (p : Nat) (H : Heap) (hj : JW w.jobs) (hj2 : JW (jobsDo w.jobs id what at_).1) (ht : HW w.table) (hid : H[p]? = some ⟨0, 9, [eInst w]⟩) : AC Tryz.prog 86 [.pt p 0 0 0, .int .i64 id, .int .i64 what, .int .i64 at_] H (Ret (.int .i64 (wdo w id what at_).2) (H.set p ⟨0, 9, [eInst (wdo w id what at_).1]⟩)) := by
  have hF := hid
  have hbel : ∀ w : Inst, ∀ r ∈ (AObj.mk 0 9 [eInst w]).rows, AV.bels H.length r = true := by
    intro w r hr
    simp only [List.mem_singleton] at hr
    subst hr
    rfl
  refine AC.body (N := 57) [.tmp 8] Tryz.func86 rfl rfl rfl (Nat.le_of_ble_eq_true rfl) fun B hB => ?_
  repeat (refine aw_seq ?_)
  refine Z3 ?_
  repeat (first | refine then_nrm ?_ | refine aw_seq ?_)
  refine Zgp ?_
  refine Z1u ?_
  refine Z6 ?_
  refine ao2 (by rintro _ ⟨⟩; decide) (V2.call (queue_Do w.jobs id what at_ _ hj) rfl) ?_
  refine Zgr ?_
  refine Zy ?_
  refine Z2u ?_
  refine Z2 ?_
  refine Z55 ?_
  generalize hq : jobsDo w.jobs id what at_ = q at hj2 ⊢
  obtain ⟨l, e⟩ := q
  simp only at hj2
  repeat (first | refine then_nrm ?_ | refine aw_seq ?_)
  refine Z76 ?_
  try dsimp only
  repeat (refine then_nrm ?_)
  refine aw_cond rfl (fun hc => ?_) (fun hc => ?_)
  · have he : e ≠ 0 := by simpa using hc
    have hw : wdo w id what at_ = (w, e) := by rw [wdo, hq, if_pos he]
    rw [hw, set_same hid]
    repeat (refine aw_seq ?_)
    refine Z13 ?_
    try dsimp only
    repeat (first | refine then_nrm ?_ | refine then_ret ?_ | refine aw_ret ?_)
    exact Z7
  have he : ¬ e ≠ 0 := by simpa using hc
  have he0 : e = 0 := by simpa using he
  repeat (first | refine then_nrm ?_ | refine aw_seq ?_ | refine aw_skip ?_)
  refine Zgj ?_
  refine Z2q ?_
  refine Zgl ?_
  refine Zgk ?_
  refine ao2 (by rintro _ ⟨⟩) (w_storeFP (r' := eInst (wjobs w l)) rfl hF rfl rfl rfl rfl rfl (Nat.le_of_ble_eq_true rfl) rfl) ?_
  refine Z4m ?_
  try simp only [List.set_cons_zero]
  have hF2 : (H.set p ⟨0, 9, [eInst (wjobs w l)]⟩)[p]? = some ⟨0, 9, [eInst (wjobs w l)]⟩ := List.getElem?_set_self (List.getElem?_eq_some_iff.1 hid).1
  have hF := hF2
  repeat (first | refine then_nrm ?_ | refine aw_seq ?_)
  refine Z95 ?_
  refine Zgs ?_
  refine Z63 ?_
  refine Zdu ?_
  refine Z9 ?_
  refine Z64 ?_
  repeat (first | refine then_nrm ?_ | refine aw_seq ?_)
  refine Z3p ?_
  refine Z58 ?_
  refine Z32 ?_
  repeat (refine then_nrm ?_)
  refine aw_cond rfl (fun hc => ?_) (fun hc => ?_)
  · have hw : wdo w id what at_ = (wtable (wjobs w l) (heldDrop w.table id).1, 0) := by rw [wdo, hq]; simp only [he0]; rw [if_neg (by decide), if_pos hc]; rfl
    rw [hw]
    refine Zgj ?_
    refine Zgi ?_
    refine Zgl ?_
    refine Zgk ?_
    refine Zgo ?_
    refine Z6 ?_
    refine ao2 (by rintro _ ⟨⟩; decide) (V2.call (held_Drop w.table id _ ht) rfl) ?_
    refine Zgr ?_
    refine Z61 ?_
    refine Zy ?_
    refine Zgl ?_
    refine Zgk ?_
    refine ao2 (by rintro _ ⟨⟩) (w_storeFP (r' := eInst (wtable (wjobs w l) (heldDrop w.table id).1)) rfl hF rfl rfl rfl rfl rfl (Nat.le_of_ble_eq_true rfl) rfl) ?_
    refine Z4m ?_
    simp only [List.set_cons_zero, List.set_set]
    repeat (first | refine then_nrm ?_ | refine aw_seq ?_)
    refine Z3 ?_
    repeat (first | refine then_nrm ?_ | refine aw_ret ?_)
    exact e_doneF hB (r_tmp rfl .nil) rfl rfl (by simp) (hB.heap.set _ _ (hbel _))
  · have hw : wdo w id what at_ = (wjobs w l, 0) := by rw [wdo, hq]; simp only [he0]; rw [if_neg (by decide), if_neg (by simp [hc])]; rfl
    rw [hw]
    repeat (first | refine then_nrm ?_ | refine aw_seq ?_ | refine aw_skip ?_)
    refine Z3 ?_
    try dsimp only
    repeat (first | refine then_nrm ?_ | refine aw_ret ?_)
    exact e_doneF hB (r_tmp rfl .nil) rfl rfl (by simp) (hB.heap.set _ _ (hbel _))
end Go.Av

namespace Go.Av
open Go.Proofs
set_option maxRecDepth 10000
set_option linter.unusedSimpArgs false
set_option linter.unusedVariables false
theorem filter_step {α : Type} (p : α → Bool) {l : List α} {k : Nat} {x : α} (hx : l[k]? = some x) : (l.take (k + 1)).filter p = (l.take k).filter p ++ if p x then [x] else [] := by
  rw [List.take_add_one, hx, List.filter_append]
  cases h : p x <;> simp [h]
def ovR (l : List Held) (now : Int) (k : Nat) : List Held := (l.take k).filter fun h => !decide (h.to ≤ now)
def ovG (l : List Held) (now : Int) (k : Nat) : List Held := (l.take k).filter fun h => decide (h.to ≤ now)
set_option maxHeartbeats 0 in
theorem held_Over (l : List Held) (now : Int) (H : Heap) (hw : HW l) : AC Tryz.prog 85 [.pl (l.map eHeld), .int .i64 now] H (Ret (.tup [.pl ((heldOver l now).1.map eHeld), .pl ((heldOver l now).2.map eHeld)]) H) := by
  have hw1 := hw.1
  have hbel : ∀ (b : Nat) (r g : List Held), ∀ o ∈ [AObj.mk r.length 4 (r.map eHeld), AObj.mk g.length 4 (g.map eHeld)], ∀ x ∈ o.rows, AV.bels b x = true := by
    intro b r g o ho x hx
    simp only [List.mem_cons, List.not_mem_nil, or_false] at ho
    rcases ho with rfl | rfl <;> exact helds_bel _ _ x hx
  refine AC.body (N := 37) [.tmp 4, .tmp 5] Tryz.func85 rfl rfl rfl (Nat.le_of_ble_eq_true rfl) fun B hB => ?_
  repeat (refine aw_seq ?_)
  refine Z2o ?_
  refine Z73 ?_
  repeat (first | refine then_nrm ?_ | refine aw_seq ?_)
  refine Zc3 ?_
  repeat (refine then_nrm ?_)
  refine aw_cond rfl (fun hc => ?_) (fun hc => ?_)
  · have hno : heldR l = false := by simpa only [Bool.not_eq_true'] using hc
    rw [show heldOver l now = (l, []) by rw [heldOver, hno]; rfl]
    repeat (refine aw_seq ?_)
    refine Z2r ?_
    refine Zgt ?_
    refine Z2u ?_
    refine Z2n ?_
    refine Z2s ?_
    repeat (refine then_nrm ?_)
    refine aw_nslpl 5 rfl ?_
    exact Zg8
  have hyes : heldR l = true := by simpa only [Bool.not_eq_false'] using hc
  have ho : heldOver l now = (ovR l now l.length, ovG l now l.length) := by rw [heldOver, hyes, ovR, ovG, List.take_length]; rfl
  rw [ho]
  repeat (first | refine then_nrm ?_ | refine aw_seq ?_ | refine aw_skip ?_)
  refine Z2o ?_
  refine Z73 ?_
  try dsimp only
  repeat (first | refine then_nrm ?_ | refine aw_seq ?_)
  refine aw_ghostL (k := 0) 6 4 rfl (by decide) rfl ?_
  refine aw_ghostL (k := 1) 7 4 rfl (by decide) rfl ?_
  refine Z2r ?_
  refine Zgt ?_
  refine Z34 ?_
  try dsimp only [put, List.nil_append, List.cons_append]
  repeat (first | refine then_nrm ?_ | refine aw_block ?_)
  refine aw_loop (G := Nat) (fun k => k ≤ l.length) (fun k => [(1, .int .i64 now), (6, .sl (Lid H.length 0) (ovR l now k).length 0 (ovR l now k).length (ovR l now k).length), (7, .sl (Lid H.length 1) (ovG l now k).length 0 (ovG l now k).length (ovG l now k).length), (16, .pl (l.map eHeld)), (17, .int .i64 (l.length : Int)), (18, .int .i64 (k : Int))]) (fun k => H ++ [⟨(ovR l now k).length, 4, (ovR l now k).map eHeld⟩, ⟨(ovG l now k).length, 4, (ovG l now k).map eHeld⟩]) (fun k => l.length - k) 0 (Nat.zero_le _) (by repeat (first | exact Sub.nil | refine Sub.cons (by first | rfl | (simp [get]; done)) ?_)) (Fit.refl _ _) ?_
  intro k hk
  repeat (refine aw_seq ?_)
  refine Z36 ?_
  repeat (first | refine then_nrm ?_ | refine aw_seq ?_)
  refine aw_cond rfl (fun hc => ?_) (fun hc => ?_)
  · have hlt : k < l.length := by simp at hc; omega
    obtain ⟨x, hx, hxl⟩ := get_in hlt
    have hr := map_get eHeld hx
    have s1 : ovR l now (k + 1) = ovR l now k ++ if (!decide (x.to ≤ now)) then [x] else [] := filter_step _ hx
    have s2 : ovG l now (k + 1) = ovG l now k ++ if decide (x.to ≤ now) then [x] else [] := filter_step _ hx
    have n1 : (ovR l now k).length ≤ k := Nat.le_trans (List.length_filter_le _ _) (by rw [List.length_take]; omega)
    have n2 : (ovG l now k).length ≤ k := Nat.le_trans (List.length_filter_le _ _) (by rw [List.length_take]; omega)
    have t1 : ((ovR l now k).map eHeld).take (ovR l now k).length = (ovR l now k).map eHeld := List.take_of_length_le (by simp)
    have t2 : ((ovG l now k).map eHeld).take (ovG l now k).length = (ovG l now k).map eHeld := List.take_of_length_le (by simp)
    repeat (first | refine then_nrm ?_ | refine aw_seq ?_ | refine aw_block ?_ | refine aw_skip ?_)
    refine Zca ?_
    refine Z9a ?_
    repeat (first | refine then_nrm ?_ | refine aw_seq ?_)
    refine Z4y ?_
    refine Zb ?_
    refine Z32 ?_
    repeat (refine then_nrm ?_)
    refine aw_cond rfl (fun hc => ?_) (fun hc => ?_)
    · rw [hc, Bool.not_true, if_neg (by decide), List.append_nil] at s1
      rw [hc, if_pos rfl] at s2
      refine Zg0 ?_
      refine Zg3 ?_
      refine Z7e ?_
      rw [t2]
      repeat (first | refine then_nrm ?_ | refine blk_nrm ?_)
      refine Z3i ?_
      repeat (refine then_nrm ?_)
      refine ⟨k + 1, by omega, by omega, by rw [s1, s2, List.length_append]; exact (by repeat (first | exact Sub.nil | refine Sub.cons (by rfl) ?_)), Fit.loc hB (by rw [s1, s2]; simp only [List.length_append, List.length_cons, List.length_nil, List.map_append, List.map_cons, List.map_nil]; rfl) (by repeat (first | exact EBel.nil | refine EBel.cons (by first | rfl | (simp [AV.bel, AV.bels, Lid]; done)) ?_)) (hbel _ _ _)⟩
    · rw [hc, Bool.not_false, if_pos rfl] at s1
      rw [hc, if_neg (by decide), List.append_nil] at s2
      refine Zg0 ?_
      refine Zg3 ?_
      refine Z7d ?_
      refine Z9x ?_
      rw [t1]
      repeat (first | refine then_nrm ?_ | refine blk_nrm ?_)
      refine Z3i ?_
      repeat (refine then_nrm ?_)
      refine ⟨k + 1, by omega, by omega, by rw [s1, s2, List.length_append]; exact (by repeat (first | exact Sub.nil | refine Sub.cons (by rfl) ?_)), Fit.loc hB (by rw [s1, s2]; simp only [List.length_append, List.length_cons, List.length_nil, List.map_append, List.map_cons, List.map_nil]; rfl) (by repeat (first | exact EBel.nil | refine EBel.cons (by first | rfl | (simp [AV.bel, AV.bels, Lid]; done)) ?_)) (hbel _ _ _)⟩
  · have : k = l.length := by simp at hc; omega
    subst this
    repeat (first | refine then_nrm ?_ | refine then_brk ?_ | refine blk_hit ?_ | refine aw_seq ?_ | refine aw_exit ?_)
    refine Zgc ?_
    refine Z7b ?_
    refine Z7c ?_
    repeat (refine then_nrm ?_)
    refine aw_freezeL (ys := (ovR l now l.length).map eHeld) 4 rfl rfl rfl rfl (by rw [List.drop_zero, List.take_of_length_le (by simp)]) (by simp) (helds_bel 0 _) ?_
    refine aw_freezeL (ys := (ovG l now l.length).map eHeld) 5 rfl rfl rfl rfl (by rw [List.drop_zero, List.take_of_length_le (by simp)]) (by simp) (helds_bel 0 _) ?_
    exact Zg8
end Go.Av

namespace Go.Av
open Go.Proofs
set_option maxRecDepth 10000
set_option linter.unusedSimpArgs false
set_option linter.unusedVariables false
theorem slices_CloneH (l : List Held) (H : Heap) (hn : l.length ≤ 1000000) : AC Tryz.prog 172 [.pl (l.map eHeld)] H (Ret (.pl (l.map eHeld)) H) := by
  refine AC.body (N := 8) [.tmp 2] Tryz.func172 rfl rfl rfl (Nat.le_of_ble_eq_true rfl) fun B hB => ?_
  repeat (refine aw_seq ?_)
  refine Z2p ?_
  repeat (first | refine then_nrm ?_ | refine aw_seq ?_)
  refine Z2r ?_
  refine ao_cons rfl (by rintro _ ⟨⟩; decide) (o_eqNil rfl rfl _ _ _ _) ?_ (fun _ _ h => h.elim)
  rintro _ _ ⟨nb, rfl, hnb, rfl⟩
  refine Z2s ?_
  repeat (refine then_nrm ?_)
  refine aw_cond rfl (fun hc => ?_) (fun hc => ?_)
  · subst hc
    have hb : l = [] := by
      cases l with
      | nil => rfl
      | cons x b => simp at hnb
    subst hb
    repeat (refine aw_seq ?_)
    refine Z2p ?_
    repeat (refine then_nrm ?_)
    refine aw_nslpl 2 rfl ?_
    exact aw_ret (e_done hB (r_tmp rfl .nil) rfl rfl)
  · repeat (first | refine then_nrm ?_ | refine aw_seq ?_ | refine aw_skip ?_)
    refine aw_region ?_
    refine Z2t ?_
    refine Z2q ?_
    refine ao2 (by rintro _ ⟨⟩; decide) (g_append_new (sz := 4) (bytes := 48) rfl (Src.pl rfl (helds_len l)) rfl (by decide) (by simp; omega) (by simp; omega) (helds_bel 0 l)) ?_
    refine Z2v ?_
    repeat (first | refine then_nrm ?_ | refine aw_ret ?_)
    exact Z7
theorem slices_CloneJ (l : List Job) (H : Heap) (hn : l.length ≤ 1000000) : AC Tryz.prog 174 [.pl (l.map eJob)] H (Ret (.pl (l.map eJob)) H) := by
  refine AC.body (N := 8) [.tmp 2] Tryz.func174 rfl rfl rfl (Nat.le_of_ble_eq_true rfl) fun B hB => ?_
  repeat (refine aw_seq ?_)
  refine Z2p ?_
  repeat (first | refine then_nrm ?_ | refine aw_seq ?_)
  refine Z2r ?_
  refine ao_cons rfl (by rintro _ ⟨⟩; decide) (o_eqNil rfl rfl _ _ _ _) ?_ (fun _ _ h => h.elim)
  rintro _ _ ⟨nb, rfl, hnb, rfl⟩
  refine Z2s ?_
  repeat (refine then_nrm ?_)
  refine aw_cond rfl (fun hc => ?_) (fun hc => ?_)
  · subst hc
    have hb : l = [] := by
      cases l with
      | nil => rfl
      | cons x b => simp at hnb
    subst hb
    repeat (refine aw_seq ?_)
    refine Z2p ?_
    repeat (refine then_nrm ?_)
    refine aw_nslpl 2 rfl ?_
    exact aw_ret (e_done hB (r_tmp rfl .nil) rfl rfl)
  · repeat (first | refine then_nrm ?_ | refine aw_seq ?_ | refine aw_skip ?_)
    refine aw_region ?_
    refine Z2t ?_
    refine Z2q ?_
    refine ao2 (by rintro _ ⟨⟩; decide) (g_append_new (sz := 13) (bytes := 128) rfl (Src.pl rfl (jobs_len l)) rfl (by decide) (by simp; omega) (by simp; omega) (jobs_bel 0 l)) ?_
    refine Z2v ?_
    repeat (first | refine then_nrm ?_ | refine aw_ret ?_)
    exact Z7
end Go.Av

namespace Go.Av
section
variable {P : Program} {N : Nat} {B : Base} {ops : Array Oper} {a : Option Nat} {F : Env → Heap → Prop}
variable {fuel : Nat} {listed : Array Bool} {env : Env} {H H0 : Heap} {op : Op} {ty : TypeId} {pos : String} {after : Array Edge} {v : AV}
theorem aqst {L0 : Heap} (i : Nat) (hi : ops[i]? = some ⟨none, op, ty, pos, after, none⟩) (hB : firstB ops listed a i = true) (h1 : ∀ G, V2 P N op ty (renv ⟨none, op, ty, pos, after, none⟩ env) (H0 ++ (L0 ++ G)) v (H0 ++ (L0 ++ G)))
    (h : AAny P N B ops a (Pre H0 L0) F fuel (listed.setIfInBounds i true) env H) : AAny P N B ops a (Pre H0 L0) F (fuel + 1) listed env H :=
  aa_first i hi hB (by rintro _ ⟨⟩) (.inl ⟨rfl, by rintro _ ⟨G, rfl⟩; exact h1 G _ _ _ _⟩) h
end
end Go.Av

namespace Go.Av
open Go.Proofs
set_option maxRecDepth 10000
set_option linter.unusedSimpArgs false
set_option linter.unusedVariables false
theorem st_same {P : Program} {N : Nat} {env : Env} {ty : TypeId} {H0 L : Heap} {t : TypeId} {x y : Operand} {n k g i j sz : Nat} {agg : Bool} {o : AObj} {r : List AV} {v : AV} [TyI P t agg sz] (hx : aev env x = .pt (Lid n k) g i j) (hn : H0.length = n) (hk : L[k]? = some o) (hg : o.gen = g) (hr : o.rows[i]? = some r)
    (hy : aev env y = v) (hc : v.cellish = true) (hl : v.cells.length = sz) (hj : j + sz ≤ o.sz) (hr' : r.take j ++ v.cells ++ r.drop (j + sz) = r) (hs : (L.set k ⟨o.gen, o.sz, o.rows.set i r⟩) = L) : V2 P N (.store t x y) ty env (H0 ++ L) .junk (H0 ++ L) := by
  have h := w_storeP (P := P) (N := N) (env := env) (ty := ty) (t := t) (agg := agg) (r' := r) hx hn hk hg hr hy hc hl hj hr'
  rw [show ({ o with rows := o.rows.set i r } : AObj) = ⟨o.gen, o.sz, o.rows.set i r⟩ from rfl, hs] at h
  exact h
abbrev z9 : List AV := [.nsl, .nsl, .nsl, .int .i64 0, .nsl, .nsl, .int .i64 0, .int .i64 0, .int .i64 0]
set_option maxHeartbeats 0 in
theorem inst_Copy (i : Inst) (H : Heap) (hw : IW i) (hj : JW i.jobs) : AC Tryz.prog 84 [.agg (eInst i)] H (Ret (.agg (eInst i)) H) := by
  have w1 := hw.graph
  have w2 := hw.health
  have w3 := hw.lease
  have w4 := hw.jobs
  have w5 := hw.table
  refine AC.body (N := 58) [.cell 2 27] Tryz.func84 rfl rfl rfl (Nat.le_of_ble_eq_true rfl) fun B hB => ?_
  repeat (refine aw_seq ?_)
  refine Zdt ?_
  refine Zfr ?_
  refine ao_nil ?_
  refine Zby ?_
  repeat (first | refine then_nrm ?_ | refine aw_seq ?_)
  refine Z6i ?_
  refine Z7v ?_
  refine Zgu ?_
  refine aq02 2 rfl (by decide +kernel) (by decide) (fun _ => V2.call (slices_CloneT i.graph _ (by omega)) rfl) ?_
  refine Zgv ?_
  refine Zgw ?_
  refine aq02 5 rfl (by decide +kernel) (by decide) (fun _ => V2.call (slices_CloneI i.health _ (by omega)) rfl) ?_
  refine aqp 6 rfl (by decide +kernel) (by decide) (fun G => w_fieldAddr rfl (lk rfl rfl) rfl (by decide)) ?_
  refine aqp 7 rfl (by decide +kernel) (by decide) (fun G => w_load1 (v := .pl _) rfl (lk rfl rfl) rfl rfl rfl) ?_
  refine aq02 8 rfl (by decide +kernel) (by decide) (fun _ => V2.call (slices_CloneI i.lease _ (by omega)) rfl) ?_
  refine Zfo ?_
  refine aqst 10 rfl (by decide +kernel) (fun G => st_same rfl rfl rfl rfl rfl rfl rfl rfl (Nat.le_of_ble_eq_true rfl) rfl rfl) ?_
  refine aqp 11 rfl (by decide +kernel) (by decide) (fun G => w_fieldAddr rfl (lk rfl rfl) rfl (by decide)) ?_
  refine aqst 12 rfl (by decide +kernel) (fun G => st_same rfl rfl rfl rfl rfl rfl rfl rfl (Nat.le_of_ble_eq_true rfl) rfl rfl) ?_
  refine aqp 13 rfl (by decide +kernel) (by decide) (fun G => w_fieldAddr rfl (lk rfl rfl) rfl (by decide)) ?_
  refine aqst 14 rfl (by decide +kernel) (fun G => st_same rfl rfl rfl rfl rfl rfl rfl rfl (Nat.le_of_ble_eq_true rfl) rfl rfl) ?_
  refine Zfb ?_
  have hbel : ∀ (b : Nat) (j : List Job) (t : List Held), ∀ o ∈ [AObj.mk 0 9 [eInst i], AObj.mk 0 9 [z9], AObj.mk j.length 13 (j.map eJob), AObj.mk t.length 4 (t.map eHeld)], ∀ x ∈ o.rows, AV.bels b x = true := by
    intro b j t o ho x hx
    simp only [List.mem_cons, List.not_mem_nil, or_false] at ho
    rcases ho with rfl | rfl | rfl | rfl
    · simp only [List.mem_singleton] at hx; subst hx; rfl
    · simp only [List.mem_singleton] at hx; subst hx; rfl
    · exact jobs_bel _ _ x hx
    · exact helds_bel _ _ x hx
  have hb3 : ∀ (b : Nat) (j : List Job), ∀ o ∈ [AObj.mk 0 9 [eInst i], AObj.mk 0 9 [z9], AObj.mk j.length 13 (j.map eJob)], ∀ x ∈ o.rows, AV.bels b x = true := by
    intro b j o ho
    refine hbel b j [] o ?_
    simp only [List.mem_cons, List.not_mem_nil, or_false] at ho ⊢
    rcases ho with h | h | h
    · exact .inl h
    · exact .inr (.inl h)
    · exact .inr (.inr (.inl h))
  repeat (first | refine then_nrm ?_ | refine aw_seq ?_)
  refine Z2p ?_
  repeat (first | refine then_nrm ?_ | refine aw_seq ?_)
  refine aw_ghostL (k := 2) 3 13 rfl (by decide) rfl ?_
  refine Z30 ?_
  refine Z34 ?_
  refine Zgx ?_
  repeat (first | refine then_nrm ?_ | refine aw_block ?_)
  refine aw_loop (G := Nat) (fun k => k ≤ i.jobs.length) (fun k => [(1, .pt (Lid H.length 0) 0 0 0), (2, .pt (Lid H.length 1) 0 0 0), (3, .sl (Lid H.length 2) (i.jobs.take k).length 0 (i.jobs.take k).length (i.jobs.take k).length), (22, .pl (i.jobs.map eJob)), (23, .int .i64 (i.jobs.length : Int)), (24, .int .i64 (k : Int))]) (fun k => H ++ [⟨0, 9, [eInst i]⟩, ⟨0, 9, [z9]⟩, ⟨(i.jobs.take k).length, 13, (i.jobs.take k).map eJob⟩]) (fun k => i.jobs.length - k) 0 (Nat.zero_le _) (by repeat (first | exact Sub.nil | refine Sub.cons (by first | rfl | (simp [get]; done)) ?_)) (.inl rfl) ?_
  intro k hk
  repeat (refine aw_seq ?_)
  refine Z36 ?_
  repeat (first | refine then_nrm ?_ | refine aw_seq ?_)
  refine aw_cond rfl (fun hc => ?_) (fun hc => ?_)
  · have hlt : k < i.jobs.length := by simpa using hc
    obtain ⟨x, hx, hxl⟩ := get_in hlt
    have hr := map_get eJob hx
    have hxw := hj.2 x hxl
    have s1 : i.jobs.take (k + 1) = i.jobs.take k ++ [x] := take_snoc_get hx
    have n1 : (i.jobs.take k).length ≤ 1000000 := by rw [List.length_take]; omega
    have t1 : ((i.jobs.take k).map eJob).take (i.jobs.take k).length = (i.jobs.take k).map eJob := List.take_of_length_le (by simp)
    repeat (first | refine then_nrm ?_ | refine aw_seq ?_ | refine aw_block ?_ | refine aw_skip ?_)
    refine Zdv ?_
    refine Z9a ?_
    repeat (first | refine then_nrm ?_ | refine aw_seq ?_)
    refine Z30 ?_
    refine ao2 (by rintro _ ⟨⟩; decide) (V2.call (slices_CloneI x.needs _ hxw) rfl) ?_
    refine Z1z ?_
    refine Z4k ?_
    refine Zgy ?_
    repeat (refine then_nrm ?_)
    refine Zg0 ?_
    refine Zg1 ?_
    refine Z7e ?_
    rw [t1]
    repeat (first | refine then_nrm ?_ | refine blk_nrm ?_)
    refine Z3i ?_
    repeat (refine then_nrm ?_)
    refine ⟨k + 1, by omega, by omega, by rw [s1, List.length_append]; exact (by repeat (first | exact Sub.nil | refine Sub.cons (by rfl) ?_)), Fit.loc hB (by rw [s1]; simp only [List.length_append, List.length_cons, List.length_nil, List.map_append, List.map_cons, List.map_nil]; rfl) (by repeat (first | exact EBel.nil | refine EBel.cons (by first | rfl | (simp [AV.bel, AV.bels, Lid]; done)) ?_)) (hb3 _ _)⟩
  have : k = i.jobs.length := by simp at hc; omega
  subst this
  rw [List.take_length]
  repeat (first | refine then_nrm ?_ | refine then_brk ?_ | refine blk_hit ?_ | refine aw_seq ?_ | refine aw_exit ?_)
  refine Z2p ?_
  repeat (first | refine then_nrm ?_ | refine aw_seq ?_)
  refine aw_ghostL (k := 3) 6 4 rfl (by decide) rfl ?_
  refine Z30 ?_
  refine Z34 ?_
  refine Zgx ?_
  repeat (first | refine then_nrm ?_ | refine aw_block ?_)
  refine aw_loop (G := Nat) (fun k => k ≤ i.table.length) (fun k => [(1, .pt (Lid H.length 0) 0 0 0), (2, .pt (Lid H.length 1) 0 0 0), (3, .sl (Lid H.length 2) i.jobs.length 0 i.jobs.length i.jobs.length), (6, .sl (Lid H.length 3) (i.table.take k).length 0 (i.table.take k).length (i.table.take k).length), (38, .pl (i.table.map eHeld)), (39, .int .i64 (i.table.length : Int)), (40, .int .i64 (k : Int))]) (fun k => H ++ [⟨0, 9, [eInst i]⟩, ⟨0, 9, [z9]⟩, ⟨i.jobs.length, 13, i.jobs.map eJob⟩, ⟨(i.table.take k).length, 4, (i.table.take k).map eHeld⟩]) (fun k => i.table.length - k) 0 (Nat.zero_le _) (by repeat (first | exact Sub.nil | refine Sub.cons (by first | rfl | (simp [get]; done)) ?_)) (.inl rfl) ?_
  intro k hk
  repeat (refine aw_seq ?_)
  refine Z36 ?_
  repeat (first | refine then_nrm ?_ | refine aw_seq ?_)
  refine aw_cond rfl (fun hc => ?_) (fun hc => ?_)
  · have hlt : k < i.table.length := by simpa using hc
    obtain ⟨x, hx, hxl⟩ := get_in hlt
    have hr := map_get eHeld hx
    have hxw := w5.2 x hxl
    have w6 := w5.1
    have s1 : i.table.take (k + 1) = i.table.take k ++ [x] := take_snoc_get hx
    have n1 : (i.table.take k).length ≤ 1000000 := by rw [List.length_take]; omega
    have t1 : ((i.table.take k).map eHeld).take (i.table.take k).length = (i.table.take k).map eHeld := List.take_of_length_le (by simp)
    repeat (first | refine then_nrm ?_ | refine aw_seq ?_ | refine aw_block ?_ | refine aw_skip ?_)
    refine Zca ?_
    refine Z9a ?_
    repeat (first | refine then_nrm ?_ | refine aw_seq ?_)
    refine Z30 ?_
    refine ao2 (by rintro _ ⟨⟩; decide) (V2.call (slices_CloneI x.things _ hxw) rfl) ?_
    refine Z1z ?_
    refine Zbz ?_
    refine Zgy ?_
    repeat (refine then_nrm ?_)
    refine Zg0 ?_
    refine Zg3 ?_
    refine Z7e ?_
    rw [t1]
    repeat (first | refine then_nrm ?_ | refine blk_nrm ?_)
    refine Z3i ?_
    repeat (refine then_nrm ?_)
    refine ⟨k + 1, by omega, by omega, by rw [s1, List.length_append]; exact (by repeat (first | exact Sub.nil | refine Sub.cons (by rfl) ?_)), Fit.loc hB (by rw [s1]; simp only [List.length_append, List.length_cons, List.length_nil, List.map_append, List.map_cons, List.map_nil]; rfl) (by repeat (first | exact EBel.nil | refine EBel.cons (by first | rfl | (simp [AV.bel, AV.bels, Lid]; done)) ?_)) (hbel _ i.jobs _)⟩
  have : k = i.table.length := by simp at hc; omega
  subst this
  rw [List.take_length]
  repeat (first | refine then_nrm ?_ | refine then_brk ?_ | refine blk_hit ?_ | refine aw_seq ?_ | refine aw_exit ?_)
  refine aw_freezeL (ys := i.jobs.map eJob) 3 rfl rfl rfl rfl (by rw [List.drop_zero, List.take_of_length_le (by simp)]) (by simp) (jobs_bel 0 _) ?_
  refine aw_freezeL (ys := i.table.map eHeld) 6 rfl rfl rfl rfl (by rw [List.drop_zero, List.take_of_length_le (by simp)]) (by simp) (helds_bel 0 _) ?_
  refine Z6d ?_
  refine Z1z ?_
  refine Zgz ?_
  refine Z1z ?_
  refine Zgz ?_
  refine ao_nil ?_
  refine Zh0 ?_
  repeat (first | refine then_nrm ?_ | refine aw_seq ?_)
  refine Z2i ?_
  refine Zfv ?_
  refine ao_nil ?_
  refine Z4w ?_
  repeat (first | refine then_nrm ?_ | refine aw_ret ?_)
  exact Zc0
end Go.Av

namespace Go.Av
open Go.Proofs
set_option maxRecDepth 10000
set_option linter.unusedSimpArgs false
set_option linter.unusedVariables false
def rlast (l : List Int) (k : Nat) : Int := if k = 0 then 0 else l.getD (k - 1) 0
def rB (l : List Int) (k : Nat) : Bool := decide (rlast l k < l.getD k 0)
theorem rising_eq (l : List Int) : rising l = (allI (rB l) l.length && decide (l.length ≤ 16)) := rfl
theorem queue_rising (l : List Int) (H : Heap) (hl : l.length ≤ 1000000) : AC Tryz.prog 149 [.pl (l.map eI)] H (Ret (.bool (rising l)) H) := by
  rw [rising_eq]
  refine AC.body (N := 20) [.tmp 2] Tryz.func149 rfl rfl rfl (Nat.le_of_ble_eq_true rfl) fun B hB => ?_
  repeat (refine aw_seq ?_)
  refine Za ?_
  repeat (first | refine then_nrm ?_ | refine aw_seq ?_)
  refine Z3 ?_
  repeat (first | refine then_nrm ?_ | refine aw_seq ?_)
  refine Z5t ?_
  repeat (first | refine then_nrm ?_ | refine aw_block ?_)
  refine aw_loop (G := Nat) (fun k => k ≤ l.length ∧ ∀ m, m < k → rB l m = true) (fun k => [(0, .pl (l.map eI)), (3, .int .i64 (rlast l k)), (6, .pl (l.map eI)), (7, .int .i64 (l.length : Int)), (8, .int .i64 (k : Int))]) (fun _ => H ++ []) (fun k => l.length - k) 0 ⟨Nat.zero_le _, fun m hm => by omega⟩ (by repeat (first | exact Sub.nil | refine Sub.cons (by first | rfl | (simp [get]; done)) ?_)) (Fit.refl _ _) ?_
  rintro k ⟨hk, hno⟩
  repeat (refine aw_seq ?_)
  refine Z36 ?_
  repeat (first | refine then_nrm ?_ | refine aw_seq ?_)
  refine aw_cond rfl (fun hc => ?_) (fun hc => ?_)
  · have hlt : k < l.length := by simpa using hc
    obtain ⟨x, hx, hxl⟩ := get_in hlt
    have hr := map_get eI hx
    have hd : l.getD k 0 = x := by rw [List.getD_eq_getElem?_getD, hx]; rfl
    have hat : rB l k = decide (rlast l k < x) := by rw [rB, hd]
    have hlast : rlast l (k + 1) = x := by rw [rlast, if_neg (by omega), Nat.add_sub_cancel, hd]
    repeat (first | refine then_nrm ?_ | refine aw_seq ?_ | refine aw_block ?_ | refine aw_skip ?_)
    refine Z3b ?_
    repeat (first | refine then_nrm ?_ | refine aw_seq ?_)
    refine Z1o ?_
    refine Zb ?_
    refine ao_nil ?_
    repeat (refine then_nrm ?_)
    refine aw_cond rfl (fun hc => ?_) (fun hc => ?_)
    · have hbad : rB l k = false := by rw [hat]; simp at hc; exact decide_eq_false (by omega)
      repeat (refine aw_seq ?_)
      refine Za ?_
      repeat (first | refine then_nrm ?_ | refine then_ret ?_ | refine blk_ret ?_ | refine aw_ret ?_)
      rw [allI_false hlt hbad, Bool.false_and]
      exact Z7
    · have hgood : rB l k = true := by rw [hat]; simp at hc; exact decide_eq_true (by omega)
      repeat (first | refine then_nrm ?_ | refine aw_skip ?_)
      refine Z13 ?_
      repeat (first | refine then_nrm ?_ | refine blk_nrm ?_)
      refine Z3i ?_
      repeat (refine then_nrm ?_)
      refine ⟨k + 1, by omega, ⟨by omega, fun m hm => ?_⟩, by rw [hlast]; exact (by repeat (first | exact Sub.nil | refine Sub.cons (by rfl) ?_)), .refl _ _⟩
      rcases Nat.lt_or_eq_of_le (Nat.le_of_lt_succ hm) with h | h
      · exact hno m h
      · subst h; exact hgood
  · have : k = l.length := by simp at hc; omega
    subst this
    repeat (first | refine then_nrm ?_ | refine then_brk ?_ | refine blk_hit ?_ | refine aw_seq ?_ | refine aw_exit ?_)
    refine Z59 ?_
    refine Zb ?_
    refine Z9 ?_
    repeat (first | refine then_nrm ?_ | refine aw_ret ?_)
    rw [allI_true hno, Bool.true_and]
    exact Zeo
end Go.Av

namespace Go.Av
open Go.Proofs
set_option maxRecDepth 10000
set_option linter.unusedSimpArgs false
set_option linter.unusedVariables false
set_option maxHeartbeats 0 in
theorem queue_Add (l : List Job) (s : Spec) (needs : List Int) (now : Int) (H : Heap) (hw : JW l) (hn : needs.length ≤ 1000000) : AC Tryz.prog 100 [.pl (l.map eJob), .agg (eSpec s), .pl (needs.map eI), .int .i64 now] H (Ret (.tup [.pl ((jobsAdd l s needs now).1.map eJob), .int .i64 (jobsAdd l s needs now).2.1, .int .i64 (jobsAdd l s needs now).2.2]) H) := by
  have hw1 := hw.1
  refine AC.body (N := 94) [.tmp 8, .tmp 9, .tmp 10] Tryz.func100 rfl rfl rfl (Nat.le_of_ble_eq_true rfl) fun B hB => ?_
  repeat (refine aw_seq ?_)
  refine Z1w ?_
  refine Z2n ?_
  refine Zz ?_
  refine Z1x ?_
  repeat (first | refine then_nrm ?_ | refine aw_seq ?_)
  refine Z2r ?_
  refine Zg4 ?_
  refine Z7c ?_
  refine Zge ?_
  repeat (first | refine then_nrm ?_ | refine aw_seq ?_)
  refine aw_region ?_
  refine Zfy ?_
  refine Zdu ?_
  refine ao_nil ?_
  refine Zh1 ?_
  repeat (first | refine then_nrm ?_ | refine aw_seq ?_)
  refine Z59 ?_
  refine Z1t ?_
  repeat (refine then_nrm ?_)
  refine aw_joinQ ([(0, .pl (l.map eJob)), (2, .pl (needs.map eI)), (3, .int .i64 now), (5, .pt (Lid H.length 0) 0 0 0), (11, .sl (Lid H.length 1) l.length 0 l.length l.length), (12, .pt (Lid H.length 2) 0 0 0)]) (H ++ [⟨0, 7, [eSpec s]⟩, ⟨l.length, 13, l.map eJob⟩, ⟨0, 13, [eJob (jobLast l)]⟩]) ?_ ?_
  · repeat (fail)
    refine aw_cond rfl (fun hc => ?_) (fun hc => ?_)
    · have h0 : 0 < l.length := by simpa using hc
      obtain ⟨x, hx, hxl⟩ := get_in (l := l) (k := l.length - 1) (by omega)
      have hr := map_get eJob hx
      have hjl : jobLast l = x := by rw [jobLast, if_neg (by omega), jobAt_get hx]
      refine Z2r ?_
      refine Z5a ?_
      refine ao1 (by decide) (o_sub (r := ((l.length - 1 : Nat) : Int)) rfl rfl (by rw [List.length_map, show (l.length : Int) - 1 = ((l.length - 1 : Nat) : Int) by omega]; exact wrap64_ok (by omega) (by omega))) ?_
      refine Z7n ?_
      refine Z4u ?_
      refine ao_nil ?_
      refine Z4w ?_
      exact join_nrm (by repeat (first | exact Sub.nil | refine Sub.cons (by rfl) ?_)) (.inl (by rw [hjl]))
    · have h0 : l.length = 0 := by simp at hc; simp [hc]
      have hjl : jobLast l = job0 := by rw [jobLast, if_pos h0]
      repeat (refine aw_skip ?_)
      exact join_nrm (by repeat (first | exact Sub.nil | refine Sub.cons (by rfl) ?_)) (.inl (by rw [hjl]; rfl))
  generalize hlast : jobLast l = last
  repeat (first | refine then_nrm ?_ | refine aw_seq ?_)
  refine aw_out 53 (.bool (!(jobsR l && sright s && rising needs && tm now) || decide (now < last.came))) ?_ ?_
  · refine Z2q ?_
    refine Zfx ?_
    refine Z4n ?_
    refine ao_split rfl rfl (fun hg3 => ?_) (fun hg3 => ?_)
    · refine Z2b ?_
      refine Z2b ?_
      refine Z2b ?_
      refine Z3d ?_
      exact Zh2
    · refine Z41 ?_
      refine Z40 ?_
      refine Z4t ?_
      refine ao_split rfl rfl (fun hg8 => ?_) (fun hg8 => ?_)
      · refine Z2b ?_
        refine Z2b ?_
        refine Z3d ?_
        exact Zh2
      · refine Z7j ?_
        refine ao_y rfl rfl (by decide) (V2.call (queue_rising _ _ (by omega)) rfl) ?_
        refine Z4t ?_
        refine ao_split rfl rfl (fun hg13 => ?_) (fun hg13 => ?_)
        · refine Z2b ?_
          refine Z3d ?_
          exact Zh2
        · refine Ze ?_
          refine Z42 ?_
          refine Z4t ?_
          refine ao_split rfl rfl (fun hg18 => ?_) (fun hg18 => ?_)
          · refine Z3d ?_
            exact Zh2
          · refine Ze ?_
            refine Z22 ?_
            refine Zf ?_
            refine Zm ?_
            exact Zh2
  repeat (refine then_nrm ?_)
  refine aw_cond rfl (fun hc => ?_) (fun hc => ?_)
  · have he : jobsAdd l s needs now = (l, 0, 1) := by rw [jobsAdd, hlast, if_pos hc]
    rw [he]
    repeat (refine aw_seq ?_)
    refine Zg5 ?_
    refine Zz ?_
    try dsimp only
    repeat (refine then_nrm ?_)
    refine Zh3 ?_
    exact Zh5
  have hc1 := hc
  have hyes : jobsR l = true := by
    cases h : jobsR l with
    | true => rfl
    | false => rw [h] at hc; simp at hc
  have hs := jobsR_sorted hyes
  have hnn : needs.length ≤ 16 := by
    cases h : rising needs with
    | true => simp only [rising, Bool.and_eq_true, decide_eq_true_eq] at h; exact h.2
    | false => rw [h] at hc; simp at hc
  clear hc
  repeat (first | refine then_nrm ?_ | refine aw_seq ?_ | refine aw_skip ?_)
  refine Z5t ?_
  repeat (first | refine then_nrm ?_ | refine aw_block ?_)
  refine aw_loop (G := Nat) (fun k => k ≤ needs.length ∧ ∀ n ∈ needs.take k, jobHit l n = true) (fun k => [(0, .pl (l.map eJob)), (2, .pl (needs.map eI)), (3, .int .i64 now), (5, .pt (Lid H.length 0) 0 0 0), (11, .sl (Lid H.length 1) l.length 0 l.length l.length), (12, .pt (Lid H.length 2) 0 0 0), (55, .pl (needs.map eI)), (56, .int .i64 (needs.length : Int)), (57, .int .i64 (k : Int))]) (fun _ => H ++ [⟨0, 7, [eSpec s]⟩, ⟨l.length, 13, l.map eJob⟩, ⟨0, 13, [eJob last]⟩]) (fun k => needs.length - k) 0 ⟨Nat.zero_le _, by simp⟩ (by repeat (first | exact Sub.nil | refine Sub.cons (by first | rfl | (simp [get]; done)) ?_)) (.inl rfl) ?_
  rintro k ⟨hk, hno⟩
  repeat (refine aw_seq ?_)
  refine Z36 ?_
  repeat (first | refine then_nrm ?_ | refine aw_seq ?_)
  refine aw_cond rfl (fun hc => ?_) (fun hc => ?_)
  · have hlt : k < needs.length := by simpa using hc
    obtain ⟨n, hn', hnl⟩ := get_in hlt
    have hr := map_get eI hn'
    clear hc
    repeat (first | refine then_nrm ?_ | refine aw_seq ?_ | refine aw_block ?_ | refine aw_skip ?_)
    refine Z3b ?_
    repeat (first | refine then_nrm ?_ | refine aw_seq ?_)
    refine Z95 ?_
    refine Zdl ?_
    refine Z54 ?_
    repeat (first | refine then_nrm ?_ | refine aw_seq ?_)
    refine Z56 ?_
    repeat (refine then_nrm ?_)
    refine aw_cond rfl (fun hc => ?_) (fun hc => ?_)
    · have hbad : jobHit l n = false := by simpa only [Bool.not_eq_true'] using hc
      have hall : (needs.all fun n => jobHit l n) = false := by rw [List.all_eq_false]; exact ⟨n, hnl, by rw [hbad]; decide⟩
      have he : jobsAdd l s needs now = (l, 0, 6) := by rw [jobsAdd, hlast, if_neg (by rw [hc1]; decide), hall]; rfl
      rw [he]
      repeat (refine aw_seq ?_)
      refine Zg5 ?_
      refine Zz ?_
      try dsimp only
      repeat (refine then_nrm ?_)
      refine Zh3 ?_
      exact Zh5
    · have hgood : jobHit l n = true := by simpa only [Bool.not_eq_false'] using hc
      repeat (first | refine then_nrm ?_ | refine blk_nrm ?_ | refine aw_skip ?_)
      refine Z3i ?_
      repeat (refine then_nrm ?_)
      refine ⟨k + 1, by omega, ⟨by omega, ?_⟩, (by repeat (first | exact Sub.nil | refine Sub.cons (by rfl) ?_)), .inl rfl⟩
      rw [take_snoc_get hn']
      intro y hy
      rcases List.mem_append.1 hy with h | h
      · exact hno y h
      · simp only [List.mem_singleton] at h
        subst h
        exact hgood
  · have : k = needs.length := by simp at hc; omega
    subst this
    rw [List.take_length] at hno
    have hall : (needs.all fun n => jobHit l n) = true := List.all_eq_true.2 hno
    clear hc
    repeat (first | refine then_nrm ?_ | refine then_brk ?_ | refine blk_hit ?_ | refine aw_seq ?_ | refine aw_block ?_ | refine aw_exit ?_)
    refine Z59 ?_
    refine Zx ?_
    repeat (refine then_nrm ?_)
    refine aw_cond rfl (fun hc => ?_) (fun hc => ?_)
    · have h64 : l.length = 64 := by simp at hc; omega
      have he : jobsAdd l s needs now = (l, 0, 5) := by rw [jobsAdd, hlast, if_neg (by rw [hc1]; decide), hall, if_pos h64]; rfl
      rw [he]
      repeat (refine aw_seq ?_)
      refine Zg5 ?_
      refine Zz ?_
      try dsimp only
      repeat (refine then_nrm ?_)
      refine Zh3 ?_
      exact Zh5
    have h64 : l.length ≠ 64 := by simp at hc; omega
    clear hc
    repeat (refine aw_seq ?_)
    refine Z3p ?_
    refine Zx ?_
    refine Z2l ?_
    repeat (refine then_nrm ?_)
    refine aw_cond rfl (fun hc => ?_) (fun hc => ?_)
    · have hid : last.id = 1073741824 := by simpa using hc
      have he : jobsAdd l s needs now = (l, 0, 9) := by rw [jobsAdd, hlast, if_neg (by rw [hc1]; decide), hall, if_neg h64, if_pos hid]; rfl
      rw [he]
      repeat (refine aw_seq ?_)
      refine Zg5 ?_
      refine Zz ?_
      try dsimp only
      repeat (refine then_nrm ?_)
      refine Zh3 ?_
      exact Zh5
    have hid : last.id ≠ 1073741824 := by simpa using hc
    have hle : 0 ≤ last.id ∧ last.id ≤ 1073741824 := by
      rw [← hlast, jobLast]
      split
      · exact ⟨by decide, by decide⟩
      · rename_i h
        have hm := (jobs_iff.1 hyes).2.1 (jobAt l (l.length - 1)) (by rw [jobAt_get (List.getElem?_eq_getElem (show l.length - 1 < l.length by omega))]; exact List.getElem_mem _)
        simp only [jright, Bool.and_eq_true, decide_eq_true_eq] at hm
        omega
    have he : jobsAdd l s needs now = (l ++ [⟨last.id + 1, s, needs, 0, now, 0, 0⟩], last.id + 1, 0) := by rw [jobsAdd, hlast, if_neg (by rw [hc1]; decide), hall, if_neg h64, if_neg hid]; rfl
    rw [he]
    clear hc he hall hno
    repeat (first | refine then_nrm ?_ | refine blk_nrm ?_ | refine aw_seq ?_ | refine aw_skip ?_)
    refine Z3p ?_
    refine ao1 (by decide) (o_add (r := last.id + 1) rfl rfl (wrap64_ok (by omega) (by omega))) ?_
    refine Z2m ?_
    repeat (first | refine then_nrm ?_ | refine aw_seq ?_)
    refine aw_drawP mixed (some 8) 3 ?_
    refine Z6h ?_
    refine Z9r ?_
    refine aqpz [7, 6, 2] 2 rfl (by decide +kernel) (by decide) (fun G => w_loadR rfl (lk rfl rfl) rfl rfl rfl) ?_
    refine aq0 3 rfl (by decide +kernel) (by decide) (fun _ => o_move (v := .pl _) rfl) ?_
    refine aq02 4 rfl (by decide +kernel) (by decide) (fun _ => V2.call (slices_CloneI needs _ hn) rfl) ?_
    refine Z1a ?_
    refine aq0 6 rfl (by decide +kernel) (by decide) (fun _ => V1.up (o_build (cs := [.int _ _, .int _ _, .int _ _, .int _ _, .str _, .bool _, .int _ _, .int _ _, _, .int _ _, .int _ _, .int _ _, .int _ _]) rfl)) ?_
    refine aq02 7 rfl (by decide +kernel) (by decide) (fun _ => g_lit1 (sz := 13) (v := .agg (eJob ⟨last.id + 1, s, needs, 0, now, 0, 0⟩)) (cs := eJob ⟨last.id + 1, s, needs, 0, now, 0, 0⟩) rfl (by decide) (by decide) rfl rfl rfl rfl rfl) ?_
    refine Zh6 ?_
    refine aqs 8 rfl (by decide +kernel) (by exact fun _ => ⟨_, rfl⟩) (by rintro _ ⟨⟩; decide) (w_append rfl rfl rfl rfl rfl (Src.pl (ys := [eJob ⟨last.id + 1, s, needs, 0, now, 0, 0⟩]) rfl (jobs_len [⟨last.id + 1, s, needs, 0, now, 0, 0⟩])) rfl (by simp) (by simp) (by simp; omega) (by simp; omega)) ?_
    refine aq0 10 rfl (by decide +kernel) (by decide) (fun _ => o_assign (v := .sl _ _ _ _ _) rfl) ?_
    refine aq0 11 rfl (by decide +kernel) (by decide) (fun _ => o_assign (v := .int _ _) rfl) ?_
    refine Zh7 ?_
    refine Z5z ?_
    try dsimp only [List.length_cons, List.length_nil, Nat.reduceAdd, AV.up, put, List.set_cons_succ, List.set_cons_zero]
    repeat (refine then_nrm ?_)
    refine aw_freezeL (ys := (l ++ [(⟨last.id + 1, s, needs, 0, now, 0, 0⟩ : Job)]).map eJob) 8 rfl rfl rfl rfl (by rw [List.drop_zero, List.take_of_length_le (by simp), List.take_of_length_le (by simp), List.map_append]; rfl) (by simp) (jobs_bel 0 _) ?_
    exact Zh5
end Go.Av

namespace Go.Av
open Go.Proofs
set_option maxRecDepth 10000
set_option linter.unusedSimpArgs false
set_option linter.unusedVariables false
theorem slices_Index (l : List Int) (v : Int) (H : Heap) (hl : l.length ≤ 1000000) : AC Tryz.prog 153 [.pl (l.map eI), .int .i64 v] H (Ret (.int .i64 (ixf (fun x => decide (v = x)) l)) H) := by
  refine AC.body (N := 19) [.tmp 4] Tryz.func153 rfl rfl rfl (Nat.le_of_ble_eq_true rfl) fun B hB => ?_
  repeat (refine aw_seq ?_)
  refine Z3 ?_
  repeat (first | refine then_nrm ?_ | refine aw_seq ?_)
  refine Z5t ?_
  repeat (first | refine then_nrm ?_ | refine aw_block ?_)
  refine aw_loop (G := Nat) (fun k => k ≤ l.length ∧ ∀ y ∈ l.take k, decide (v = y) = false) (fun k => [(0, .pl (l.map eI)), (1, .int .i64 v), (7, .int .i64 (l.length : Int)), (8, .int .i64 (k : Int))]) (fun _ => H ++ []) (fun k => l.length - k) 0 ⟨Nat.zero_le _, by simp⟩ (by repeat (first | exact Sub.nil | refine Sub.cons (by first | rfl | (simp [get]; done)) ?_)) (Fit.refl _ _) ?_
  rintro k ⟨hk, hno⟩
  repeat (refine aw_seq ?_)
  refine Z36 ?_
  repeat (first | refine then_nrm ?_ | refine aw_seq ?_)
  refine aw_cond rfl (fun hc => ?_) (fun hc => ?_)
  · have hlt : k < l.length := by simp at hc; omega
    obtain ⟨x, hx, hxl⟩ := get_in hlt
    have hr := map_get eI hx
    repeat (first | refine then_nrm ?_ | refine aw_seq ?_ | refine aw_block ?_ | refine aw_skip ?_)
    refine Z13 ?_
    repeat (first | refine then_nrm ?_ | refine aw_seq ?_)
    refine Zv ?_
    refine Z9n ?_
    refine Z39 ?_
    refine Z10 ?_
    repeat (refine then_nrm ?_)
    refine aw_cond rfl (fun hc => ?_) (fun hc => ?_)
    · have he : v = x := by simpa using hc
      repeat (refine aw_seq ?_)
      refine Z13 ?_
      repeat (first | refine then_nrm ?_ | refine then_ret ?_ | refine blk_ret ?_ | refine aw_ret ?_)
      rw [ixf_some (p := fun x => decide (v = x)) hx (decide_eq_true he) hno]
      exact Z7
    · have he : ¬ v = x := by simpa using hc
      repeat (first | refine then_nrm ?_ | refine blk_nrm ?_ | refine aw_skip ?_)
      refine Z3i ?_
      repeat (refine then_nrm ?_)
      refine ⟨k + 1, by omega, ⟨by omega, ?_⟩, (by repeat (first | exact Sub.nil | refine Sub.cons (by rfl) ?_)), .refl _ _⟩
      rw [take_snoc_get hx]
      intro y hy
      rcases List.mem_append.1 hy with h | h
      · exact hno y h
      · simp only [List.mem_singleton] at h
        subst h
        exact decide_eq_false he
  · have : k = l.length := by simp at hc; omega
    subst this
    rw [List.take_length] at hno
    rw [ixf_none hno]
    repeat (first | refine then_nrm ?_ | refine then_brk ?_ | refine blk_hit ?_ | refine aw_seq ?_ | refine aw_exit ?_)
    refine Z3 ?_
    repeat (first | refine then_nrm ?_ | refine aw_ret ?_)
    exact Z7
theorem ixf_contains (l : List Int) (v : Int) : decide (ixf (fun x => decide (v = x)) l ≥ 0) = l.contains v := by
  rw [ixf_nonneg, Bool.eq_iff_iff, List.any_eq_true, List.contains_iff_mem]
  constructor
  · rintro ⟨x, hx, e⟩
    rw [decide_eq_true_eq] at e
    subst e
    exact hx
  · intro h
    exact ⟨v, h, by simp⟩
theorem slices_Contains (l : List Int) (v : Int) (H : Heap) (hl : l.length ≤ 1000000) : AC Tryz.prog 108 [.pl (l.map eI), .int .i64 v] H (Ret (.bool (l.contains v)) H) := by
  rw [← ixf_contains]
  refine AC.body (N := 9) [.tmp 4] Tryz.func108 rfl rfl rfl (Nat.le_of_ble_eq_true rfl) fun B hB => ?_
  repeat (refine aw_seq ?_)
  refine Za ?_
  repeat (first | refine then_nrm ?_ | refine aw_seq ?_)
  refine Z95 ?_
  refine ao_ret (slices_Index _ _ _ (by omega)) rfl (by decide) ?_
  refine Z1c ?_
  refine Z9 ?_
  repeat (first | refine then_nrm ?_ | refine aw_ret ?_)
  exact Z7
set_option maxHeartbeats 0 in
theorem health_Set (g : List Thing) (h : List Int) (n how : Int) (H : Heap) (hl : g.length ≤ 1000000) (hh : h.length ≤ 1000000) : AC Tryz.prog 110 [.pl (g.map eThing), .pl (h.map eI), .int .i64 n, .int .i64 how] H (Ret (.tup [.pl ((hset g h n how).1.map eI), .int .i64 (hset g h n how).2]) H) := by
  refine AC.body (N := 42) [.tmp 8, .tmp 9] Tryz.func110 rfl rfl rfl (Nat.le_of_ble_eq_true rfl) fun B hB => ?_
  repeat (refine aw_seq ?_)
  refine Z2o ?_
  refine Z2 ?_
  repeat (first | refine then_nrm ?_ | refine aw_seq ?_)
  refine Z2r ?_
  refine ao2 (by rintro _ ⟨⟩; decide) (V2.callo (slices_CloneO h _ hh) rfl rfl) ?_
  refine Z7c ?_
  refine Z5s ?_
  repeat (first | refine then_nrm ?_ | refine aw_seq ?_ | refine aw_block ?_)
  refine aw_out 13 (.bool (!hright g h || decide (how < 0) || decide (2 < how))) ?_ ?_
  · refine Z2q ?_
    refine Z2q ?_
    refine Z9v ?_
    refine Z4n ?_
    refine ao_split rfl rfl (fun hg4 => ?_) (fun hg4 => ?_)
    · refine Z4o ?_
      refine Z29 ?_
      refine Zh ?_
      exact Zft
    · refine Ze ?_
      refine Zf ?_
      refine Z26 ?_
      refine ao_split rfl rfl (fun hg8 => ?_) (fun hg8 => ?_)
      · refine Z29 ?_
        refine Zh ?_
        exact Zft
      · refine Z4s ?_
        refine Zn ?_
        exact Zh8
  repeat (refine then_nrm ?_)
  refine aw_cond rfl (fun hc => ?_) (fun hc => ?_)
  · rw [show hset g h n how = (h, 1) by rw [hset, if_pos hc]]
    repeat (refine aw_seq ?_)
    refine Zg6 ?_
    try dsimp only
    repeat (refine then_nrm ?_)
    refine Zh9 ?_
    exact Zg8
  have hc1 := hc
  clear hc
  repeat (refine aw_seq ?_)
  refine aw_out 27 (.bool (decide (n < 0) || decide ((h.length : Int) ≤ n))) ?_ ?_
  · refine Zr ?_
    refine ao_split rfl rfl (fun hg2 => ?_) (fun hg2 => ?_)
    · refine Z3c ?_
      refine Zh ?_
      exact Zft
    · refine Ze ?_
      refine Z7l ?_
      refine Z3f ?_
      refine Zn ?_
      exact Zh8
  repeat (refine then_nrm ?_)
  refine aw_cond rfl (fun hc => ?_) (fun hc => ?_)
  · rw [show hset g h n how = (h, 6) by rw [hset, if_neg (by rw [hc1]; decide), if_pos (by simpa using hc)]]
    repeat (refine aw_seq ?_)
    refine Zg6 ?_
    try dsimp only
    repeat (refine then_nrm ?_)
    refine Zh9 ?_
    exact Zg8
  have hn : 0 ≤ n ∧ n < (h.length : Int) := by simp at hc; omega
  rw [show hset g h n how = (h.set n.toNat how, 0) by rw [hset, if_neg (by rw [hc1]; decide), if_neg (by omega)]]
  obtain ⟨k, rfl⟩ : ∃ k : Nat, n = (k : Int) := ⟨n.toNat, by omega⟩
  obtain ⟨x, hx, _⟩ := get_in (l := h) (k := k) (by omega)
  have hr := map_get eI hx
  clear hc
  repeat (first | refine then_nrm ?_ | refine blk_nrm ?_ | refine aw_seq ?_ | refine aw_skip ?_)
  refine Z78 ?_
  refine Z1u ?_
  refine Z97 ?_
  refine ao2 (by rintro _ ⟨⟩) (w_storeP (sz := 1) (v := .int .i64 how) (r' := eI how) rfl rfl rfl rfl (zadd hr) rfl rfl rfl (Nat.le_refl 1) rfl) ?_
  refine Z98 ?_
  rw [Nat.zero_add]
  repeat (first | refine then_nrm ?_ | refine aw_seq ?_)
  refine Zg6 ?_
  repeat (refine then_nrm ?_)
  refine aw_freezeL (ys := (h.set k how).map eI) 8 rfl rfl rfl rfl (by rw [List.drop_zero, List.take_of_length_le (by simp), List.map_set]) (by simp) (eI_bel 0 _) ?_
  refine aw_ret ?_
  rw [Int.toNat_natCast]
  exact Z4e
theorem queue_ids (l : List Job) (H : Heap) (hl : l.length ≤ 1000000) : AC Tryz.prog 201 [.pl (l.map eJob)] H (Ret (.pl ((l.map (·.id)).map eI)) H) := by
  refine AC.body (N := 19) [.tmp 2] Tryz.func201 rfl rfl rfl (Nat.le_of_ble_eq_true rfl) fun B hB => ?_
  repeat (refine aw_seq ?_)
  refine Z2p ?_
  repeat (first | refine then_nrm ?_ | refine aw_seq ?_)
  refine Z2p ?_
  repeat (first | refine then_nrm ?_ | refine aw_seq ?_)
  refine aw_ghostL (k := 0) 3 1 rfl (by decide) rfl ?_
  refine Z5t ?_
  refine Z9w ?_
  repeat (first | refine then_nrm ?_ | refine aw_block ?_)
  refine aw_loop (G := Nat) (fun k => k ≤ l.length) (fun k => [(6, .pl (l.map eJob)), (7, .int .i64 (l.length : Int)), (8, .int .i64 (k : Int)), (3, .sl (Lid H.length 0) k 0 k k)]) (fun k => H ++ [⟨k, 1, ((l.take k).map (·.id)).map eI⟩]) (fun k => l.length - k) 0 (Nat.zero_le _) (by repeat (first | exact Sub.nil | refine Sub.cons (by first | rfl | (simp [get]; done)) ?_)) (Fit.refl _ _) ?_
  intro k hk
  repeat (refine aw_seq ?_)
  refine Z36 ?_
  repeat (first | refine then_nrm ?_ | refine aw_seq ?_)
  refine aw_cond rfl (fun hc => ?_) (fun hc => ?_)
  · have hlt : k < l.length := by simpa using hc
    obtain ⟨x, hx, hxl⟩ := get_in hlt
    have hr := map_get eJob hx
    repeat (first | refine then_nrm ?_ | refine aw_seq ?_ | refine aw_block ?_ | refine aw_skip ?_)
    refine Zdv ?_
    refine Z9a ?_
    repeat (refine then_nrm ?_)
    refine Z78 ?_
    refine Z20 ?_
    refine Z7a ?_
    refine Zg2 ?_
    refine Z7c ?_
    refine Z9x ?_
    repeat (first | refine then_nrm ?_ | refine blk_nrm ?_)
    refine Z3i ?_
    repeat (refine then_nrm ?_)
    refine ⟨k + 1, by omega, by omega, (by repeat (first | exact Sub.nil | refine Sub.cons (by rfl) ?_)), Fit.loc hB (by rw [take_snoc_get hx, List.map_append, List.map_append, List.take_of_length_le (by simp; omega)]; rfl) (by repeat (first | exact EBel.nil | refine EBel.cons (by first | rfl | (simp [AV.bel, AV.bels, Lid]; done)) ?_)) ?_⟩
    intro o ho r hr
    simp only [List.mem_singleton] at ho
    subst ho
    exact ints_bel _ _ r hr
  · have : k = l.length := by simp at hc; omega
    subst this
    rw [List.take_length]
    repeat (first | refine then_nrm ?_ | refine then_brk ?_ | refine blk_hit ?_ | refine aw_seq ?_ | refine aw_exit ?_)
    refine Z7f ?_
    repeat (refine then_nrm ?_)
    refine aw_freezeL (ys := (l.map (·.id)).map eI) 2 rfl rfl rfl rfl (by rw [List.drop_zero, List.take_of_length_le (by simp)]) (by simp) (ints_bel 0 _) ?_
    exact Z7g
end Go.Av

namespace Go.Av
set_option linter.unusedVariables false
set_option linter.unusedSimpArgs false
end Go.Av

namespace Go.Av
set_option linter.unusedVariables false
set_option linter.unusedSimpArgs false
def cn (p : Nat → Bool) : Nat := (List.range 256).countP p
theorem countP_add (a b c u : Nat → Bool) : ∀ l : List Nat, (∀ n ∈ l, (if a n then 1 else 0) + (if b n then 1 else 0) + (if c n then 1 else 0) = if u n then (1 : Nat) else 0) → l.countP a + l.countP b + l.countP c = l.countP u
  | [], _ => rfl
  | x :: l, h => by
    have h1 := h x List.mem_cons_self
    have h2 := countP_add a b c u l fun n hn => h n (List.mem_cons_of_mem _ hn)
    simp only [List.countP_cons]
    omega
theorem nd_sub {α : Type} [DecidableEq α] : ∀ (R T : List α), R.Nodup → (∀ x ∈ R, x ∈ T) → T.length ≤ R.length → ∀ y ∈ T, y ∈ R
  | [], T, _, _, hl, y, hy => by
    cases T with
    | nil => cases hy
    | cons a t => simp at hl
  | x :: R, T, hnd, hs, hl, y, hy => by
    have hx := hs x List.mem_cons_self
    rw [List.nodup_cons] at hnd
    by_cases e : y = x
    · rw [e]; exact List.mem_cons_self
    · refine List.mem_cons_of_mem _ (nd_sub R (T.erase x) hnd.2 (fun z hz => ?_) ?_ y ((List.mem_erase_of_ne e).2 hy))
      · have hzx : z ≠ x := fun h => hnd.1 (h ▸ hz)
        exact (List.mem_erase_of_ne hzx).2 (hs z (List.mem_cons_of_mem _ hz))
      · have := List.length_erase_of_mem hx
        simp only [List.length_cons] at hl
        omega
theorem table_now {i : Inst} (h : iright i = true) : ∀ x ∈ i.table, ∃ j ∈ i.jobs, j.state = 2 ∧ j.id = x.id ∧ x.frm = j.frm ∧ x.frm ≤ i.now ∧ i.now < x.to ∧ x.to = sEnds j.spec j.frm ∧ ithings i.graph x.things = true := by
  have ht := iright_table h
  have hj := iright_jobs h
  have htold : itold i = true := by simp only [iright, Bool.and_eq_true] at h; exact h.2
  rw [itold, Bool.and_eq_true, decide_eq_true_eq] at htold
  obtain ⟨hall, hlen⟩ := htold
  have hrun : ∀ j ∈ i.jobs, j.state = 2 → ∃ x ∈ i.table, x.id = j.id ∧ x.frm = j.frm ∧ x.frm ≤ i.now ∧ i.now < x.to ∧ x.to = sEnds j.spec j.frm ∧ ithings i.graph x.things = true := by
    intro j hjm hst
    obtain ⟨k, hk⟩ := List.mem_iff_getElem?.1 hjm
    have hb := allI_get hall (List.getElem?_eq_some_iff.1 hk).1
    rw [itoldB_get hk] at hb
    simp only [Bool.and_eq_true, Bool.or_eq_true, decide_eq_true_eq, hst, ne_eq, not_true_eq_false, false_or] at hb
    obtain ⟨⟨h1, h2⟩, ⟨⟨⟨⟨h3, h4⟩, h5⟩, h6⟩, h7⟩⟩ := hb
    have hget : ∃ x ∈ i.table, x.id = j.id := by
      unfold heldGet at h3
      split at h3
      · rename_i hh
        rw [Bool.and_eq_true] at hh
        exact (heldHit_iff (held_iff.1 ht).2.2.1).1 hh.2
      · cases h3
    obtain ⟨x, hx, hid⟩ := hget
    have he := heldGet_eq ht hx
    rw [hid] at he
    rw [he] at h4 h5 h6 h7
    exact ⟨x, hx, hid, h4, by simp only at h4; omega, h6, h5, h7⟩
  intro x hx
  have hp := (held_iff.1 ht).2.2.1
  have hpj := jobsR_sorted hj
  have hsub := nd_sub ((i.jobs.filter fun j => decide (j.state = 2)).map (·.id)) (i.table.map (·.id)) ?_ ?_ ?_ x.id (List.mem_map.2 ⟨x, hx, rfl⟩)
  · obtain ⟨j, hjm, hid⟩ := List.mem_map.1 hsub
    rw [List.mem_filter, decide_eq_true_eq] at hjm
    obtain ⟨y, hy, hyid, r⟩ := hrun j hjm.1 hjm.2
    have : y = x := key_inj (f := Held.id) hp hy hx (by rw [hyid, hid])
    subst this
    exact ⟨j, hjm.1, hjm.2, hid, r⟩
  · exact (keys_sorted (f := Job.id) (hpj.sublist (List.filter_sublist))).imp fun h => by omega
  · intro n hn
    obtain ⟨j, hjm, rfl⟩ := List.mem_map.1 hn
    rw [List.mem_filter, decide_eq_true_eq] at hjm
    obtain ⟨y, hy, hyid, r⟩ := hrun j hjm.1 hjm.2
    exact List.mem_map.2 ⟨y, hy, hyid⟩
  · rw [List.length_map, List.length_map, hlen]; exact Nat.le_refl _
theorem tm_iff {t : Int} : tm t = true ↔ 0 ≤ t ∧ t ≤ 4611686018427387904 := by simp [tm]
theorem hbelow_sok (g : List Thing) (h : List Int) (m : Int) : sok (hbelow g h m) = true := by
  rw [hbelow]
  split
  · rename_i hh
    exact idx_sok _ (gright_len (hright_parts hh).1).2
  · rfl
end Go.Av

namespace Go.Av
set_option linter.unusedVariables false
set_option linter.unusedSimpArgs false
theorem allI_iff {p : Nat → Bool} {n : Nat} : allI p n = true ↔ ∀ i, i < n → p i = true := ⟨fun h i hi => allI_get h hi, allI_true⟩
def g5B (g : List Thing) (i : Nat) : Bool := if i = 0 then decide (g[0]? = some thing0) else gokB g (i - 1)
theorem g5_all {g : List Thing} (h1 : g.length ≠ 0) (h2 : g.length ≤ 256) : gright g = allI (g5B g) g.length := by
  rw [gright, decide_eq_true (show 1 ≤ g.length by omega), decide_eq_true h2, Bool.true_and, Bool.true_and, Bool.eq_iff_iff, Bool.and_eq_true, decide_eq_true_eq, allI_iff, allI_iff]
  constructor
  · rintro ⟨a, b⟩ i hi
    rw [g5B]
    split
    · rw [decide_eq_true_eq]; exact a
    · exact b (i - 1) (by omega)
  · intro h
    refine ⟨?_, fun i hi => ?_⟩
    · have := h 0 (by omega)
      rw [g5B, if_pos rfl, decide_eq_true_eq] at this
      exact this
    · have := h (i + 1) (by omega)
      rw [g5B, if_neg (by omega), Nat.add_sub_cancel] at this
      exact this
theorem g5B_zero {g : List Thing} {t : Thing} (h : g[0]? = some t) : g5B g 0 = (decide (t.kind = 0) && decide (t.up = -1) && decide (t.tag = ⟨#[]⟩)) := by
  rw [g5B, if_pos rfl, h, thing0, Bool.eq_iff_iff]
  cases t
  simp [and_assoc]
theorem g5B_get {g : List Thing} {i : Nat} {t : Thing} (h : g[i]? = some t) (h0 : 0 < i) : g5B g i = (decide (0 ≤ t.up) && decide (t.up < (i : Int)) && gpart t.kind (kindAt g t.up.toNat) && tagok t.tag && (decide (t.tag = ⟨#[]⟩) || decide (t.kind = 2))) := by
  obtain ⟨j, rfl⟩ : ∃ j, i = j + 1 := ⟨i - 1, by omega⟩
  rw [g5B, if_neg (by omega), Nat.add_sub_cancel, gokB, h]
  have : decide (t.up ≤ (j : Int)) = decide (t.up < ((j + 1 : Nat) : Int)) := by rw [Bool.eq_iff_iff]; simp; omega
  simp only [this]
end Go.Av

namespace Go.Av
open Go
set_option linter.unusedVariables false
section
variable {P : Program} {N : Nat} {env : Env} {H : Heap}
theorem CR.ghostC {B : Base} {S : List Slot} {a : Act} {w : World} {k i j sz : Nat} {q : AObj} {r : List AV} (h : CR N env H S a w) (hx : Ext B.S B.w S w) (hk : H[k]? = some q) (hr : q.rows[i]? = some r) (hj : r[j]? = some .nsl) (hp : 0 < sz) :
    ∃ S', CR N env ((H ++ [(⟨0, sz, []⟩ : AObj)]).set k { q with rows := q.rows.set i (r.set j (.sl H.length 0 0 0 0)) }) S' a w ∧ Ext B.S B.w S' w := by
  obtain ⟨s, hs, ok⟩ := h.heap.slot hk
  have hil := (List.getElem?_eq_some_iff.1 hr).1
  cases hpl : s.place with
  | none => rw [ok.nope hpl] at hil; simp at hil
  | some b =>
    obtain ⟨arr, ty, h1, h2, h3⟩ := ok.lies b hpl
    obtain ⟨k1, k2⟩ := h3 i r hr
    obtain ⟨_, u, hu, hv⟩ := k2 j _ hj
    have hc : CR 1 [(0, .nsl)] H S { tmps := #[u], defers := [] } w := ⟨h.heap, fun t => by
      cases t with
      | zero => exact hv
      | succ t => exact .junk, rfl, rfl⟩
    obtain ⟨S', hc', hx'⟩ := hc.ghost (B := ⟨S, w⟩) (t := 0) (Ext.refl S w) rfl hp
    have hv2 := hc'.env 0
    rw [get_put_same] at hv2
    have hk' : (H ++ [(⟨0, sz, []⟩ : AObj)])[k]? = some q := by rw [List.getElem?_append_left (List.getElem?_eq_some_iff.1 hk).1]; exact hk
    obtain ⟨s', hs', ok'⟩ := hc'.heap.slot hk'
    obtain ⟨s2, hs2, hg, he⟩ := hx'.slots k s hs
    rw [hs'] at hs2
    obtain rfl := Option.some.inj hs2
    have hpl' : s'.place = some b := (he (by rw [← ok'.gen, ok.gen])).2.trans hpl
    have hh := hc'.heap.retell (v2 := .sl H.length 0 0 0 0) hk' hs' hpl' h1 hr (List.getElem?_eq_some_iff.1 hj).1 hu rfl hv2
    exact ⟨S', ⟨hh, fun t => (h.env t).ext hx', h.size, h.defers⟩, hx.trans hx'⟩
theorem aw_ghostC {B : Base} {Q : Post} {c : Code} {L : Heap} {H0 : Heap} {n k i j sz : Nat} {q : AObj} {r : List AV} (k' : Nat) (hk' : k' = k) (hk : L[k]? = some q) (hr : q.rows[i]? = some r) (hj : r[j]? = some .nsl) (hn : H0.length = n) (hp : 0 < sz)
    (h : AWp P N B c Q env (H0 ++ (L.set k { q with rows := q.rows.set i (r.set j (.sl (Lid n L.length) 0 0 0 0)) } ++ [⟨0, sz, []⟩]))) : AWp P N B c Q env (H0 ++ L) := fun S a w hc hb => by
  obtain ⟨S', hc', hb'⟩ := hc.ghostC (k := Lid n k) (sz := sz) hb (lk hn hk) hr hj hp
  have hkl := (List.getElem?_eq_some_iff.1 hk).1
  have e : ((H0 ++ L) ++ [(⟨0, sz, []⟩ : AObj)]).set (Lid n k) { q with rows := q.rows.set i (r.set j (.sl (H0 ++ L).length 0 0 0 0)) } = H0 ++ (L.set k { q with rows := q.rows.set i (r.set j (.sl (Lid n L.length) 0 0 0 0)) } ++ [⟨0, sz, []⟩]) := by
    rw [List.append_assoc, show (H0 ++ L).length = Lid n L.length by rw [List.length_append, hn]; rfl, st hn, List.set_append_left _ _ hkl]
  rw [e] at hc'
  exact h S' a w hc' hb'
end
end Go.Av

namespace Go.Av
open Go
set_option linter.unusedVariables false
section
variable {P : Program} {N : Nat} {B : Base} {Q : Post} {env : Env} {c : Code} {H0 L : Heap}
def gk (n N m : Nat) : List (List AV) := (List.range N).map fun j => if j < m then [AV.sl (n + (j + 4)) 0 0 0 0] else [.nsl]
theorem gk_zero (n N : Nat) : gk n N 0 = List.replicate N [AV.nsl] := by
  apply List.ext_getElem?
  intro j
  by_cases h : j < N
  · simp [gk, h]
  · rw [List.getElem?_eq_none (by simp [gk]; omega), List.getElem?_eq_none (by simp; omega)]
theorem gk_get {n N m j : Nat} (h : j < N) : (gk n N m)[j]? = some (if j < m then [AV.sl (n + (j + 4)) 0 0 0 0] else [.nsl]) := by simp [gk, h]
theorem gk_set {n N m : Nat} (h : m < N) : (gk n N m).set m [AV.sl (n + (m + 4)) 0 0 0 0] = gk n N (m + 1) := by
  apply List.ext_getElem?
  intro j
  rw [List.getElem?_set]
  have hl : (gk n N m).length = N := by simp [gk]
  by_cases hj : j < N
  · rw [gk_get hj]
    by_cases e : m = j
    · subst e; rw [if_pos rfl, if_pos (by omega), gk_get hj, if_pos (by omega)]
    · rw [if_neg e, gk_get hj]
      by_cases e2 : j < m
      · rw [if_pos e2, if_pos (by omega)]
      · rw [if_neg e2, if_neg (by omega)]
  · rw [List.getElem?_eq_none (by simp [gk]; omega), if_neg (by omega), List.getElem?_eq_none (by simp [gk]; omega)]
theorem aw_ghostAll {pk M : Nat} (hL : L.length = 4) (hp : pk < 4) (h : AWp P N B c Q env (H0 ++ (L.set pk ⟨0, 1, gk H0.length M M⟩ ++ List.replicate M ⟨0, 1, []⟩))) (hk : L[pk]? = some ⟨0, 1, List.replicate M [.nsl]⟩) : AWp P N B c Q env (H0 ++ L) := by
  have key : ∀ d m, m + d = M → AWp P N B c Q env (H0 ++ (L.set pk ⟨0, 1, gk H0.length M m⟩ ++ List.replicate m ⟨0, 1, []⟩)) := by
    intro d
    induction d with
    | zero => intro m hm; obtain rfl : m = M := by omega
              exact h
    | succ d ih =>
      intro m hm
      have e0 : (L.set pk (⟨0, 1, gk H0.length M m⟩ : AObj) ++ List.replicate m (⟨0, 1, []⟩ : AObj))[pk]? = some ⟨0, 1, gk H0.length M m⟩ := by
        rw [List.getElem?_append_left (by simp; omega), List.getElem?_set_self (by omega)]
      refine aw_ghostC (k := pk) (i := m) (j := 0) (sz := 1) pk rfl e0 (by show (gk _ _ _)[m]? = _; rw [gk_get (by omega), if_neg (by omega)]) rfl rfl (by decide) ?_
      have := ih (m + 1) (by omega)
      have e1 : ((L.set pk (⟨0, 1, gk H0.length M m⟩ : AObj) ++ List.replicate m (⟨0, 1, []⟩ : AObj)).set pk { gen := 0, sz := 1, rows := (gk H0.length M m).set m ([AV.nsl].set 0 (.sl (Lid H0.length (L.set pk (⟨0, 1, gk H0.length M m⟩ : AObj) ++ List.replicate m (⟨0, 1, []⟩ : AObj)).length) 0 0 0 0)) } ++ [(⟨0, 1, []⟩ : AObj)]) = L.set pk ⟨0, 1, gk H0.length M (m + 1)⟩ ++ List.replicate (m + 1) ⟨0, 1, []⟩ := by
        rw [List.set_append_left _ _ (by simp; omega), List.set_set, List.replicate_succ', List.append_assoc]
        congr 3
        rw [← gk_set (show m < M by omega)]
        simp only [List.set_cons_zero, List.length_append, List.length_set, List.length_replicate, hL, Lid]
        rw [Nat.add_comm 4 m]
      rw [e1]
      exact this
  have := key M 0 (by omega)
  rw [gk_zero, List.replicate_zero, List.append_nil] at this
  have e : L.set pk ⟨0, 1, List.replicate M [.nsl]⟩ = L := by
    apply List.ext_getElem?
    intro j
    rw [List.getElem?_set]
    by_cases e : pk = j
    · subst e; rw [if_pos rfl, if_pos (by omega), hk]
    · rw [if_neg e]
  rwa [e] at this
theorem aw_heapM {M : Heap} (M' : Heap) (e : M = M') (h : AWp P N B c Q env M') : AWp P N B c Q env M := by
  subst e; exact h
theorem fit_heap {E : Env} {M M' K : Heap} (e : M = M') (h : Fit B E M' K) : Fit B E M K := by
  subst e; exact h
abbrev eN1 (x : Int) : List AV := [.int .i64 x]
def fcell (n : Nat) (f : Nat → List Int) (m j : Nat) : List AV := if j < m then [.pl ((f j).map eN1)] else [.sl (n + (j + 4)) (f j).length 0 (f j).length (f j).length]
def frow (f : Nat → List Int) (m j : Nat) : AObj := if j < m then ⟨(f j).length + 1, 1, []⟩ else ⟨(f j).length, 1, (f j).map eN1⟩
def fcells (n : Nat) (f : Nat → List Int) (M m : Nat) : List (List AV) := (List.range M).map (fcell n f m)
def frows (f : Nat → List Int) (M m : Nat) : List AObj := (List.range M).map (frow f m)
theorem map_range_set {α : Type} {f g : Nat → α} {M m : Nat} {x : α} (hx : g m = x) (h : ∀ j, j ≠ m → g j = f j) : ((List.range M).map f).set m x = (List.range M).map g := by
  apply List.ext_getElem?
  intro j
  rw [List.getElem?_set]
  by_cases hj : j < M
  · by_cases e : m = j
    · subst e; rw [if_pos rfl, if_pos (by simpa using hj)]; simp [hj, hx]
    · rw [if_neg e]; simp [hj, h j (Ne.symm e)]
  · rw [List.getElem?_eq_none (l := (List.range M).map g) (by simp; omega)]
    split
    · rw [if_neg (by simp; omega)]
    · exact List.getElem?_eq_none (by simp; omega)
theorem aw_freezeAll {pk M : Nat} {f : Nat → List Int} (hL : L.length = 4) (hp : pk < 4) (h : AWp P N B c Q env (H0 ++ (L.set pk ⟨0, 1, fcells H0.length f M M⟩ ++ frows f M M))) (hk : L[pk]? = some ⟨0, 1, fcells H0.length f M 0⟩) : AWp P N B c Q env (H0 ++ (L ++ frows f M 0)) := by
  have key : ∀ d m, m + d = M → AWp P N B c Q env (H0 ++ (L.set pk ⟨0, 1, fcells H0.length f M m⟩ ++ frows f M m)) := by
    intro d
    induction d with
    | zero => intro m hm; obtain rfl : m = M := by omega
              exact h
    | succ d ih =>
      intro m hm
      have hm' : m < M := by omega
      have e0 : (L.set pk (⟨0, 1, fcells H0.length f M m⟩ : AObj) ++ frows f M m)[pk]? = some ⟨0, 1, fcells H0.length f M m⟩ := by
        rw [List.getElem?_append_left (by simp; omega), List.getElem?_set_self (by omega)]
      have e2 : (L.set pk (⟨0, 1, fcells H0.length f M m⟩ : AObj) ++ frows f M m)[m + 4]? = some ⟨(f m).length, 1, (f m).map eN1⟩ := by
        rw [List.getElem?_append_right (by simp; omega), List.length_set, hL, Nat.add_sub_cancel]
        simp [frows, frow, hm']
      have e3 : (fcells H0.length f M m)[m]? = some [.sl (H0.length + (m + 4)) (f m).length 0 (f m).length (f m).length] := by simp [fcells, fcell, hm']
      refine aw_freezeC (k := pk) (i := m) (j := 0) (kid := m + 4) (n := H0.length) (ys := (f m).map eN1) pk rfl e0 e3 rfl rfl (by omega) e2 rfl (by rw [List.drop_zero]; exact List.take_of_length_le (by simp)) (by simp) (fun r hr => by
        obtain ⟨x, _, rfl⟩ := List.mem_map.1 hr
        rfl) ?_
      have := ih (m + 1) (by omega)
      have e1 : ((L.set pk (⟨0, 1, fcells H0.length f M m⟩ : AObj) ++ frows f M m).set (m + 4) ⟨(f m).length + 1, 1, []⟩).set pk { gen := 0, sz := 1, rows := (fcells H0.length f M m).set m ([AV.sl (H0.length + (m + 4)) (f m).length 0 (f m).length (f m).length].set 0 (.pl ((f m).map eN1))) } = L.set pk ⟨0, 1, fcells H0.length f M (m + 1)⟩ ++ frows f M (m + 1) := by
        rw [List.set_append_right _ _ (by simp; omega), List.length_set, hL, Nat.add_sub_cancel, List.set_append_left _ _ (by simp; omega), List.set_set]
        congr 1
        · congr 2
          exact map_range_set (by simp [fcell]) fun j hj => by
            simp only [fcell]
            by_cases e : j < m
            · rw [if_pos e, if_pos (by omega)]
            · rw [if_neg e, if_neg (by omega)]
        · exact map_range_set (by simp [frow]) fun j hj => by
            simp only [frow]
            by_cases e : j < m
            · rw [if_pos e, if_pos (by omega)]
            · rw [if_neg e, if_neg (by omega)]
      rw [e1]
      exact this
  have := key M 0 (by omega)
  have e : L.set pk ⟨0, 1, fcells H0.length f M 0⟩ = L := by
    apply List.ext_getElem?
    intro j
    rw [List.getElem?_set]
    by_cases e : pk = j
    · subst e; rw [if_pos rfl, if_pos (by omega), hk]
    · rw [if_neg e]
  rwa [e] at this
end
section
variable {P : Program} {N : Nat} {B : Base} {ops : Array Oper} {a : Option Nat} {C : Heap → Prop} {F : Env → Heap → Prop} {Q : Post}
variable {fuel : Nat} {listed : Array Bool} {env : Env} {H H0 L : Heap} {op : Op} {ty : TypeId} {pos : String} {after : Array Edge} {v : AV} {id : Nat} {l : List Oper}
def PreN (p : Nat) (o : AObj) (p2 : Nat) (o2 : AObj) (n : Nat) (L0 H : Heap) : Prop := ∃ M G, H = M ++ (L0 ++ G) ∧ M.length = n ∧ M[p]? = some o ∧ M[p2]? = some o2
theorem aw_drawN (hm : P.follows .mixedOrders = true) (a : Option Nat) (k : Nat) {p p2 : Nat} {o o2 : AObj} (hp : H0[p]? = some o) (hp2 : H0[p2]? = some o2) (h : AAny P N B l.toArray a (PreN p o p2 o2 H0.length (L.take k)) (Q .nrm) l.length (Array.replicate l.length false) env (H0 ++ L)) : AWp P N B (.region id l.toArray true) Q env (H0 ++ L) := aw_draw hm a _ h
theorem aqn2 {d p p2 n : Nat} {o o2 : AObj} {L0 : Heap} (i : Nat) (hi : ops[i]? = some ⟨some d, op, ty, pos, after, none⟩) (hB : firstB ops listed a i = true) (hd : DN d N) (h1 : ∀ M G, M.length = n → M[p]? = some o → M[p2]? = some o2 → V1 P N op ty (renv ⟨some d, op, ty, pos, after, none⟩ env) (M ++ (L0 ++ G)) v)
    (h : AAny P N B ops a (PreN p o p2 o2 n L0) F fuel (listed.setIfInBounds i true) ((d, v) :: env) H) : AAny P N B ops a (PreN p o p2 o2 n L0) F (fuel + 1) listed env H :=
  aq1 i hi hB hd (by rintro _ ⟨M, G, rfl, hn, hp, hp2⟩; exact h1 M G hn hp hp2) h
end
end Go.Av

namespace Go.Av
set_option linter.unusedVariables false
set_option linter.unusedSimpArgs false
def inRows (g : List Thing) (l : List Int) : List (List AV) := (List.range g.length).map fun m => [AV.bool (inl l m)]
theorem inRows_nil (g : List Thing) : inRows g [] = List.replicate g.length [AV.bool false] := by
  apply List.ext_getElem?
  intro j
  by_cases h : j < g.length
  · simp [inRows, h, inl_nil]
  · rw [List.getElem?_eq_none (by simp [inRows]; omega), List.getElem?_eq_none (by simp; omega)]
theorem inRows_get {g : List Thing} {l : List Int} {m : Nat} (h : m < g.length) : (inRows g l)[m]? = some [AV.bool (inl l m)] := by simp [inRows, h]
theorem inRows_len (g : List Thing) (l : List Int) : (inRows g l).length = g.length := by simp [inRows]
theorem inl_snoc {l : List Int} {k : Nat} {x : Int} (hx : l[k]? = some x) (n : Nat) : inl (l.take (k + 1)) n = (inl (l.take k) n || x == (n : Int)) := by
  rw [inl, List.take_add_one, hx, List.any_append]; simp [inl]
theorem inRows_set {g : List Thing} {l : List Int} {k m : Nat} (hx : l[k]? = some (m : Int)) : (inRows g (l.take k)).set m [AV.bool true] = inRows g (l.take (k + 1)) := by
  refine map_range_set (f := fun j => [AV.bool (inl (l.take k) j)]) (g := fun j => [AV.bool (inl (l.take (k + 1)) j)]) ?_ ?_
  · simp [inl_snoc hx]
  · intro j hj
    have : ((m : Int) == (j : Int)) = false := by simp; omega
    simp [inl_snoc hx, this]
theorem inRows_same {g : List Thing} {l : List Int} {k : Nat} {x : Int} (hx : l[k]? = some x) (h : (g.length : Int) ≤ x) : inRows g (l.take (k + 1)) = inRows g (l.take k) := by
  refine List.map_congr_left fun j hj => ?_
  rw [List.mem_range] at hj
  have : (x == (j : Int)) = false := by simp; omega
  rw [inl_snoc hx, this, Bool.or_false]
def kidP (g : List Thing) (i m : Nat) : List Int := idx (fun j => decide (2 < kindAt g j) && decide (upAt g j = (m : Int))) i
theorem kidP_all (g : List Thing) (m : Nat) : kidP g g.length m = mkids g m := rfl
theorem kidP_zero (g : List Thing) (m : Nat) : kidP g 0 m = [] := rfl
theorem kidP_le (g : List Thing) (i m : Nat) : (kidP g i m).length ≤ i := idx_len _ _
theorem kidP_new {g : List Thing} {i u : Nat} {t : Thing} (ht : g[i]? = some t) (hk : 2 < t.kind) (hu : t.up = (u : Int)) : kidP g (i + 1) u = kidP g i u ++ [(i : Int)] := by
  rw [kidP, idx_succ, kindAt, upAt, ht]
  simp only [hu, decide_true, hk, Bool.and_self, if_true]
  rfl
theorem kidP_old {g : List Thing} {i u m : Nat} {t : Thing} (ht : g[i]? = some t) (hu : t.up = (u : Int)) (hm : m ≠ u) : kidP g (i + 1) m = kidP g i m := by
  rw [kidP, idx_succ, kindAt, upAt, ht]
  have : decide (t.up = (m : Int)) = false := by rw [hu, decide_eq_false_iff_not]; omega
  simp only [this, Bool.and_false, Bool.false_eq_true, if_false, List.append_nil]
  rfl
theorem kidP_no {g : List Thing} {i m : Nat} {t : Thing} (ht : g[i]? = some t) (hk : ¬ 2 < t.kind) : kidP g (i + 1) m = kidP g i m := by
  rw [kidP, idx_succ, kindAt, upAt, ht]
  simp only [hk, decide_false, Bool.false_and, Bool.false_eq_true, if_false, List.append_nil]
  rfl
theorem gk_kids (n : Nat) (g : List Thing) : gk n g.length g.length = fcells n (kidP g 0) g.length 0 := by
  refine List.map_congr_left fun j hj => ?_
  rw [List.mem_range] at hj
  rw [if_pos hj, fcell, if_neg (Nat.not_lt_zero _)]
  rfl
theorem rep_kids (g : List Thing) : List.replicate g.length (⟨0, 1, []⟩ : AObj) = frows (kidP g 0) g.length 0 := by
  apply List.ext_getElem?
  intro j
  by_cases h : j < g.length
  · simp [frows, frow, h, kidP_zero]
  · rw [List.getElem?_eq_none (by simp; omega), List.getElem?_eq_none (by simp [frows]; omega)]
def kidR (g : List Thing) : List (List AV) := (List.range g.length).map fun m => [.pl ((mkids g m).map eN1)]
theorem fcells_all (n : Nat) (g : List Thing) : fcells n (kidP g g.length) g.length g.length = kidR g := by
  refine List.map_congr_left fun j hj => ?_
  rw [List.mem_range] at hj
  rw [fcell, if_pos hj, kidP_all]
theorem kidR_get {g : List Thing} {m : Nat} (h : m < g.length) : (kidR g)[m]? = some [.pl ((mkids g m).map eN1)] := by simp [kidR, h]
theorem kidR_len (g : List Thing) : (kidR g).length = g.length := by simp [kidR]
theorem fcells_get {n M u : Nat} (f : Nat → List Int) (h : u < M) : (fcells n f M 0)[u]? = some [.sl (n + (u + 4)) (f u).length 0 (f u).length (f u).length] := by simp [fcells, fcell, h]
theorem frows_get {M u : Nat} (f : Nat → List Int) (h : u < M) : (frows f M 0)[u]? = some ⟨(f u).length, 1, (f u).map eN1⟩ := by simp [frows, frow, h]
theorem kids_cells {n : Nat} {g : List Thing} {i u : Nat} {t : Thing} (ht : g[i]? = some t) (hk : 2 < t.kind) (hu : t.up = (u : Int)) : (fcells n (kidP g i) g.length 0).set u [.sl (n + (u + 4)) ((kidP g i u).length + 1) 0 ((kidP g i u).length + 1) ((kidP g i u).length + 1)] = fcells n (kidP g (i + 1)) g.length 0 := by
  refine map_range_set ?_ fun j hj => ?_
  · rw [fcell, if_neg (Nat.not_lt_zero _), kidP_new ht hk hu, List.length_append]; rfl
  · rw [fcell, fcell, if_neg (Nat.not_lt_zero _), if_neg (Nat.not_lt_zero _), kidP_old ht hu hj]
theorem kids_rows {g : List Thing} {i u : Nat} {t : Thing} (ht : g[i]? = some t) (hk : 2 < t.kind) (hu : t.up = (u : Int)) : (frows (kidP g i) g.length 0).set u ⟨(kidP g i u).length + 1, 1, ((kidP g i u).map eN1).take (kidP g i u).length ++ [[.int .i64 (i : Int)]]⟩ = frows (kidP g (i + 1)) g.length 0 := by
  refine map_range_set ?_ fun j hj => ?_
  · rw [frow, if_neg (Nat.not_lt_zero _), kidP_new ht hk hu, List.length_append, List.map_append, List.take_of_length_le (by simp)]; rfl
  · rw [frow, frow, if_neg (Nat.not_lt_zero _), if_neg (Nat.not_lt_zero _), kidP_old ht hu hj]
theorem kids_same {n : Nat} {g : List Thing} {i : Nat} {t : Thing} (ht : g[i]? = some t) (hk : ¬ 2 < t.kind) : fcells n (kidP g (i + 1)) g.length 0 = fcells n (kidP g i) g.length 0 ∧ frows (kidP g (i + 1)) g.length 0 = frows (kidP g i) g.length 0 := by
  have : kidP g (i + 1) = kidP g i := funext fun m => kidP_no ht hk
  rw [this]
  exact ⟨rfl, rfl⟩
theorem gright_kid {g : List Thing} (hg : gright g = true) {i : Nat} {t : Thing} (ht : g[i]? = some t) (hk : 2 < t.kind) : ∃ u : Nat, t.up = (u : Int) ∧ u < i := by
  have hl := gright_len hg
  have hb := hg
  rw [g5_all (by omega) hl.2] at hb
  have := allI_get hb (List.getElem?_eq_some_iff.1 ht).1
  rcases Nat.eq_zero_or_pos i with rfl | h0
  · rw [g5B_zero ht] at this
    simp only [Bool.and_eq_true, decide_eq_true_eq] at this
    omega
  · rw [g5B_get ht h0] at this
    simp only [Bool.and_eq_true, decide_eq_true_eq] at this
    exact ⟨t.up.toNat, by omega, by omega⟩
theorem inRows_bel (n : Nat) (g : List Thing) (l : List Int) : ∀ r ∈ inRows g l, AV.bels n r = true := by
  intro r hr
  obtain ⟨m, _, rfl⟩ := List.mem_map.1 hr
  rfl
theorem kidR_bel (n : Nat) (g : List Thing) : ∀ r ∈ kidR g, AV.bels n r = true := by
  intro r hr
  obtain ⟨m, _, rfl⟩ := List.mem_map.1 hr
  rfl
end Go.Av

