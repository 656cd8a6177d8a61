/- Parts of the proof: rules for an abstract memory, plain laws, and walks through the program. -/
import Derived.Test.YtljahedgdjnohaaDoorSetP0
import Derived.Test.YtljahedgdjnohaaDoorSetP2
import Derived.Test.YtljahedgdjnohaaDoorSetP1
import Derived.Lib.AppendIntMem
import Derived.LaidSub
import Derived.Lay
import Derived.Test.YtljahedgdjnohaaDoorRows
set_option linter.unusedVariables false
set_option linter.unusedSimpArgs false
namespace Go.Av
open Go.Proofs
set_option maxRecDepth 10000
set_option linter.unusedSimpArgs false
set_option linter.unusedVariables false

theorem words_zero (f : Nat → Bool) : ((List.range 4).all fun k => wd f k == 0) = decide (setl f = []) := by
  rw [Bool.eq_iff_iff, List.all_eq_true, decide_eq_true_eq, setl, List.map_eq_nil_iff, List.filter_eq_nil_iff]
  simp only [List.mem_range, beq_iff_eq, wd_eq_zero]
  constructor
  · intro h n hn
    have := h (n / 64) (by omega) (n % 64) (by omega)
    rw [show 64 * (n / 64) + n % 64 = n by omega] at this
    simp [this]
  · intro h k hk j hj
    have := h (64 * k + j) (by omega)
    simpa using this
theorem all_range_step {p : Nat → Bool} (k : Nat) : (List.range (k + 1)).all p = ((List.range k).all p && p k) := by
  rw [List.range_succ, List.all_append]; simp
def spart (a b : List Int) : Bool := sok a && sok b && decide (setl (fun n => inl a n && !inl b n) = [])
def sapart (a b : List Int) : Bool := sok a && sok b && decide (setl (fun n => inl a n && inl b n) = [])
theorem set_Part (a b : List Int) (ha : a.length ≤ 9223372036854775807) (hb : b.length ≤ 9223372036854775807) (H : Heap) : AC Tryd.prog 23 [.pl (a.map eInt), .pl (b.map eInt)] H (Ret (.bool (spart a b)) H) := by
  refine AC.body (N := 32) [.tmp 4] Tryd.func23 rfl rfl rfl (Nat.le_of_ble_eq_true rfl) fun B hB => ?_
  refine Z1c ?_
  refine Z1o ?_
  refine Z1p ?_
  refine Z1g ?_
  refine Z1f ?_
  refine Z1i ?_
  refine Zg ?_
  refine Z13 ?_
  refine Z13 ?_
  refine Zi ?_
  refine Z7 ?_
  refine Zn ?_
  refine aw_loop (G := Nat) (fun k => k ≤ 4) (fun k => [(5, .pt (Lid H.length 0) 0 0 0), (6, .pt (Lid H.length 1) 0 0 0), (7, .bool (sok a && sok b && (List.range k).all fun i => wd (fun n => fpre a (okn a) n && !fpre b (okn b) n) i == 0)), (16, .int .i64 (k : Int))]) (fun _ => H ++ [⟨0, 4, [eWn (pof a)]⟩, ⟨0, 4, [eWn (pof b)]⟩]) (fun k => 4 - k) 0 (Nat.zero_le _) (by simp only [List.range_zero, List.all_nil, Bool.and_true]; exact (by repeat (first | exact Sub.nil | refine Sub.cons (by first | rfl | (simp [get]; done)) ?_))) (Fit.refl _ _) ?_
  intro k hk
  refine Zq ?_
  refine aw_cond rfl (fun hc => ?_) (fun hc => ?_)
  · have hk4 : k < 4 := by simp at hc; omega
    have hx : (eWn (pof a))[0 + k * 1]? = some (.int .u64 ((wd (fpre a (okn a)) k : Nat) : Int)) := by rw [Nat.zero_add, Nat.mul_one]; exact eWn_get _ hk4
    have hy : (eWn (pof b))[0 + k * 1]? = some (.int .u64 ((wd (fpre b (okn b)) k : Nat) : Int)) := by rw [Nat.zero_add, Nat.mul_one]; exact eWn_get _ hk4
    refine Ze ?_
    refine Zc ?_
    refine aw_of_out 7 (.bool (sok a && sok b && (List.range (k + 1)).all fun i => wd (fun n => fpre a (okn a) n && !fpre b (okn b) n) i == 0)) ?_ ?_
    · refine Z1q ?_
      refine Z16 ?_
      refine Z1r ?_
      refine Z1s ?_
      refine aq_split (g := 20) rfl (fun hg1 => ?_) (fun hg1 => ?_)
      · refine Z1t ?_
        refine Z1u ?_
        refine Z1v ?_
        refine Z1w ?_
        refine Z1x ?_
        refine Z1y ?_
        refine aqy0 (g := 20) 8 rfl (by decide +kernel) (by decide) rfl rfl (fun _ => o_andNot (r := ((wd (fun n => fpre a (okn a) n && !fpre b (okn b) n) k : Nat) : Int)) rfl rfl (u64_andNot _ _ _)) ?_
        refine Z1z ?_
        refine Z20 ?_
        refine Z21 ?_
        exact Z22
      · refine Z23 ?_
        refine Z24 ?_
        refine Z25 ?_
        refine Z26 ?_
        refine Z27 ?_
        refine Z28 ?_
        refine Z29 ?_
        refine Z2a ?_
        refine Z20 ?_
        refine Z21 ?_
        exact Z22
    refine Z2 ?_
    refine Z1a ?_
    refine Z1b ?_
    exact ⟨k + 1, by omega, by omega, (by repeat (first | exact Sub.nil | refine Sub.cons (by first | rfl | (simp [get]; done)) ?_)), .refl _ _⟩
  · have : k = 4 := by simp at hc; omega
    subst this
    rw [words_zero]
    refine Z2 ?_
    refine Zu ?_
    refine Z14 ?_
    rw [show (sok a && sok b && decide (setl (fun n => fpre a (okn a) n && !fpre b (okn b) n) = [])) = spart a b by
      unfold spart
      cases h1 : sok a with
      | false => simp
      | true =>
        cases h2 : sok b with
        | false => simp
        | true => rw [okn_all fun i hi => sok_get h1 hi, okn_all fun i hi => sok_get h2 hi, fpre_all, fpre_all]]
    exact Zd
theorem set_Apart (a b : List Int) (ha : a.length ≤ 9223372036854775807) (hb : b.length ≤ 9223372036854775807) (H : Heap) : AC Tryd.prog 24 [.pl (a.map eInt), .pl (b.map eInt)] H (Ret (.bool (sapart a b)) H) := by
  refine AC.body (N := 32) [.tmp 4] Tryd.func24 rfl rfl rfl (Nat.le_of_ble_eq_true rfl) fun B hB => ?_
  refine Z1c ?_
  refine Z1o ?_
  refine Z1p ?_
  refine Z1g ?_
  refine Z1f ?_
  refine Z1i ?_
  refine Zg ?_
  refine Z13 ?_
  refine Z13 ?_
  refine Zi ?_
  refine Z7 ?_
  refine Zn ?_
  refine aw_loop (G := Nat) (fun k => k ≤ 4) (fun k => [(5, .pt (Lid H.length 0) 0 0 0), (6, .pt (Lid H.length 1) 0 0 0), (7, .bool (sok a && sok b && (List.range k).all fun i => wd (fun n => fpre a (okn a) n && fpre b (okn b) n) i == 0)), (16, .int .i64 (k : Int))]) (fun _ => H ++ [⟨0, 4, [eWn (pof a)]⟩, ⟨0, 4, [eWn (pof b)]⟩]) (fun k => 4 - k) 0 (Nat.zero_le _) (by simp only [List.range_zero, List.all_nil, Bool.and_true]; exact (by repeat (first | exact Sub.nil | refine Sub.cons (by first | rfl | (simp [get]; done)) ?_))) (Fit.refl _ _) ?_
  intro k hk
  refine Zq ?_
  refine aw_cond rfl (fun hc => ?_) (fun hc => ?_)
  · have hk4 : k < 4 := by simp at hc; omega
    have hx : (eWn (pof a))[0 + k * 1]? = some (.int .u64 ((wd (fpre a (okn a)) k : Nat) : Int)) := by rw [Nat.zero_add, Nat.mul_one]; exact eWn_get _ hk4
    have hy : (eWn (pof b))[0 + k * 1]? = some (.int .u64 ((wd (fpre b (okn b)) k : Nat) : Int)) := by rw [Nat.zero_add, Nat.mul_one]; exact eWn_get _ hk4
    refine Ze ?_
    refine Zc ?_
    refine aw_of_out 7 (.bool (sok a && sok b && (List.range (k + 1)).all fun i => wd (fun n => fpre a (okn a) n && fpre b (okn b) n) i == 0)) ?_ ?_
    · refine Z1q ?_
      refine Z16 ?_
      refine Z1r ?_
      refine Z1s ?_
      refine aq_split (g := 20) rfl (fun hg1 => ?_) (fun hg1 => ?_)
      · refine Z1t ?_
        refine Z1u ?_
        refine Z1v ?_
        refine Z1w ?_
        refine Z1x ?_
        refine Z1y ?_
        refine aqy0 (g := 20) 8 rfl (by decide +kernel) (by decide) rfl rfl (fun _ => o_and (r := ((wd (fun n => fpre a (okn a) n && fpre b (okn b) n) k : Nat) : Int)) rfl rfl (by rw [u64_and _ _ (wd_lt _ _) (wd_lt _ _), wd_and])) ?_
        refine Z1z ?_
        refine Z20 ?_
        refine Z21 ?_
        exact Z2b
      · refine Z23 ?_
        refine Z24 ?_
        refine Z25 ?_
        refine Z26 ?_
        refine Z27 ?_
        refine Z28 ?_
        refine Z29 ?_
        refine Z2a ?_
        refine Z20 ?_
        refine Z21 ?_
        exact Z2b
    refine Z2 ?_
    refine Z1a ?_
    refine Z1b ?_
    exact ⟨k + 1, by omega, by omega, (by repeat (first | exact Sub.nil | refine Sub.cons (by first | rfl | (simp [get]; done)) ?_)), .refl _ _⟩
  · have : k = 4 := by simp at hc; omega
    subst this
    rw [words_zero]
    refine Z2 ?_
    refine Zu ?_
    refine Z14 ?_
    rw [show (sok a && sok b && decide (setl (fun n => fpre a (okn a) n && fpre b (okn b) n) = [])) = sapart a b by
      unfold sapart
      cases h1 : sok a with
      | false => simp
      | true =>
        cases h2 : sok b with
        | false => simp
        | true => rw [okn_all fun i hi => sok_get h1 hi, okn_all fun i hi => sok_get h2 hi, fpre_all, fpre_all]]
    exact Zd
end Go.Av

namespace Go.Av
open Go.Proofs
set_option maxRecDepth 10000
set_option linter.unusedSimpArgs false
set_option linter.unusedVariables false

theorem setN_len (f : Nat → Bool) (n : Nat) : (setN f n).length ≤ 64 * n := by
  rw [setN, List.length_map]
  exact Nat.le_trans (List.length_filter_le _ _) (by simp)
theorem setl_len (f : Nat → Bool) : (setl f).length ≤ 256 := setN_len f 4
structure LS where
  acc : List Int
  x : Nat
set_option maxHeartbeats 0 in
theorem words_list (f : Nat → Bool) (H : Heap) : ACT Tryd.prog KD 45 [.agg (eWn (wd f))] H (Ret (.pl ((setl f).map eInt)) H) := by
  have hbel : ∀ (n : Nat) (g m : Nat) (l : List Int), ∀ o ∈ [AObj.mk 0 4 [eWn (wd f)], AObj.mk g 1 (l.map eInt)], ∀ r ∈ o.rows, AV.bels n r = true := by
    intro n g m l o ho r hr
    simp only [List.mem_cons, List.not_mem_nil, or_false] at ho
    rcases ho with rfl | rfl
    · simp only [List.mem_singleton] at hr; subst hr; exact eWn_bels _ _
    · exact ints_bel _ _ r hr
  refine ACT.body (N := 27) [.tmp 2] Tryd.func45 rfl rfl rfl (Nat.le_of_ble_eq_true rfl) fun B hB => ?_
  refine Z2 ?_
  refine ao2 (by rintro _ ⟨⟩; decide) (o_boxL (sz := 4) (v := .agg _) rfl rfl rfl (eWn_len _) (by decide) rfl) ?_
  refine Z2c ?_
  refine Z6 ?_
  refine Z2c ?_
  refine Zn ?_
  refine aw_ghostL (k := 1) 3 1 rfl (by decide) rfl ?_
  refine Z2 ?_
  refine Z2d ?_
  refine Z7 ?_
  refine Zn ?_
  refine aw_loop (G := Nat) (fun i => i ≤ 4) (fun i => [(KT, KD.av), (3, .sl (Lid H.length 1) (setN f i).length 0 (setN f i).length (setN f i).length), (6, .agg (eWn (wd f))), (7, .int .i64 (i : Int))]) (fun i => H ++ [⟨0, 4, [eWn (wd f)]⟩, ⟨(setN f i).length, 1, (setN f i).map eInt⟩]) (fun i => 4 - i) 0 (Nat.zero_le _) (by repeat (first | exact Sub.nil | refine Sub.cons (by first | rfl | (simp [get]; done)) ?_)) (Fit.refl _ _) ?_
  intro i hi
  refine Zq ?_
  refine aw_cond rfl (fun hc => ?_) (fun hc => ?_)
  · have hi4 : i < 4 := by simp at hc; omega
    have hcell : (eWn (wd f))[((i : Nat) : Int).toNat * 1]? = some (.int .u64 ((wd f i : Nat) : Int)) := by show (eWn (wd f))[i * 1]? = _; rw [Nat.mul_one]; exact eWn_get _ hi4
    have hstep := setN_step f i
    have hslen := setN_len f (i + 1)
    refine Ze ?_
    refine ao1 (by decide) (o_index1 (sz := 1) (v := .int .u64 _) rfl rfl (by omega) (by omega) hcell) ?_
    refine Z3 ?_
    refine Z2e ?_
    refine aw_loop (G := LS) (fun s => s.x < 18446744073709551616 ∧ s.acc ++ (bl s.x).map (fun j : Nat => ((64 * i + j : Nat) : Int)) = setN f (i + 1)) (fun s => [(KT, KD.av), (3, .sl (Lid H.length 1) s.acc.length 0 s.acc.length s.acc.length), (4, .int .i64 (i : Int)), (5, .int .u64 (s.x : Int)), (6, .agg (eWn (wd f))), (7, .int .i64 (i : Int))]) (fun s => H ++ [⟨0, 4, [eWn (wd f)]⟩, ⟨s.acc.length, 1, s.acc.map eInt⟩]) (fun s => s.x) ⟨setN f i, wd f i⟩ ⟨wd_lt f i, hstep.symm⟩ (by repeat (first | exact Sub.nil | refine Sub.cons (by first | rfl | (simp [get]; done)) ?_)) (Fit.refl _ _) ?_
    rintro ⟨acc, x⟩ ⟨hx64, hacc⟩
    simp only at hx64 hacc ⊢
    have hal : acc.length ≤ 256 := by
      have := congrArg List.length hacc
      rw [List.length_append] at this
      omega
    refine Ze ?_
    refine Z2f ?_
    refine Zb ?_
    refine aw_cond rfl (fun hc => ?_) (fun hc => ?_)
    · have hx0 : x ≠ 0 := by simp at hc; omega
      have hb := bl_step hx0 hx64
      have hlt := and_pred_lt hx0
      obtain ⟨hk, _⟩ := low_bit hx0 hx64
      refine Z2h ?_
      refine ao1 (by decide) (o_mul (r := ((64 * i : Nat) : Int)) rfl rfl (by rw [show (64 : Int) * (i : Int) = ((64 * i : Nat) : Int) by omega]; exact wrap64_ok (by omega) (by omega))) ?_
      refine Z7 ?_
      refine ao2 (by rintro _ ⟨⟩; decide) (V2.callT (bits_TZ x hx64 _) rfl rfl) ?_
      refine ao1 (by decide) (o_add (r := ((64 * i + Lib.ctz 64 x : Nat) : Int)) rfl rfl (by rw [show ((64 * i : Nat) : Int) + ((Lib.ctz 64 x : Nat) : Int) = ((64 * i + Lib.ctz 64 x : Nat) : Int) by omega]; exact wrap64_ok (by omega) (by omega))) ?_
      refine Z2i ?_
      refine Z2j ?_
      refine Z5 ?_
      rw [show (acc.map eInt).take acc.length = acc.map eInt from List.take_of_length_le (by simp)]
      refine Zf ?_
      refine ao1 (by decide) (o_sub (r := ((x - 1 : Nat) : Int)) rfl rfl (u64_pred x hx0 hx64)) ?_
      refine ao1 (by decide) (o_and (r := ((x &&& (x - 1) : Nat) : Int)) rfl rfl (u64_and _ _ hx64 (by omega))) ?_
      refine Zc ?_
      refine ⟨⟨acc ++ [((64 * i + Lib.ctz 64 x : Nat) : Int)], x &&& (x - 1)⟩, hlt, ⟨by simp only; omega, ?_⟩, by simp only [List.length_append, List.length_cons, List.length_nil]; exact (by repeat (first | exact Sub.nil | refine Sub.cons (by first | rfl | (simp [get]; done)) ?_)), Fit.loc hB (by simp only [List.length_append, List.length_cons, List.length_nil, List.map_append, List.map_cons, List.map_nil]; rfl) (by repeat (first | exact EBel.nil | refine EBel.cons (by first | rfl | (simp [AV.bel, AV.bels, Lid]; done) | (simp [AV.bel, AV.bels, Lid]; omega)) ?_)) (hbel _ _ 0 _)⟩
      simp only
      rw [← hacc, hb, List.map_cons, List.append_assoc]
      rfl
    · have hx0 : x = 0 := by simp at hc; omega
      subst hx0
      rw [bl_zero, List.map_nil, List.append_nil] at hacc
      subst hacc
      refine Z2 ?_
      refine Z1a ?_
      refine Z1b ?_
      exact ⟨i + 1, by omega, by omega, (by repeat (first | exact Sub.nil | refine Sub.cons (by first | rfl | (simp [get]; done)) ?_)), Fit.refl _ _⟩
  · have : i = 4 := by simp at hc; omega
    subst this
    rw [setN_four]
    refine Z2g ?_
    refine Z2c ?_
    refine Zn ?_
    refine aw_freezeL (ys := (setl f).map eInt) 2 rfl rfl rfl rfl (by rw [List.drop_zero, List.take_of_length_le (by simp)]) (by simp) (ints_bel 0 _) ?_
    refine aw_ret ?_
    exact Zd

theorem set_Join_1 (f g : Nat → Bool) (k : Nat) (H : Heap) : AC Tryd.prog 35 [.int .u64 (wd f k : Int), .int .u64 (wd g k : Int)] H (Ret (.int .u64 ((wd (fun n => f n || g n) k : Nat) : Int)) H) := by
  refine AC.body (N := 8) [.tmp 4] Tryd.func35 rfl rfl rfl (Nat.le_of_ble_eq_true rfl) fun B hB => ?_
  refine Z2 ?_
  refine Z9 ?_
  refine Z7 ?_
  refine ao1 (by decide) (o_or (r := ((wd (fun n => f n || g n) k : Nat) : Int)) rfl rfl (by rw [u64_or _ _ (wd_lt _ _) (wd_lt _ _), wd_or])) ?_
  refine Zc ?_
  exact Zd
theorem set_Less_1 (f g : Nat → Bool) (k : Nat) (H : Heap) : AC Tryd.prog 34 [.int .u64 (wd f k : Int), .int .u64 (wd g k : Int)] H (Ret (.int .u64 ((wd (fun n => f n && !g n) k : Nat) : Int)) H) := by
  refine AC.body (N := 8) [.tmp 4] Tryd.func34 rfl rfl rfl (Nat.le_of_ble_eq_true rfl) fun B hB => ?_
  refine Z2 ?_
  refine Z9 ?_
  refine Z7 ?_
  refine ao1 (by decide) (o_andNot (r := ((wd (fun n => f n && !g n) k : Nat) : Int)) rfl rfl (u64_andNot _ _ _)) ?_
  refine Zc ?_
  exact Zd

def setop (op : Bool → Bool → Bool) (a b : List Int) : List Int := if sok a && sok b then setl (fun n => op (inl a n) (inl b n)) else []
set_option maxHeartbeats 0 in
theorem set_put (g : Nat) [FnI Tryd.prog g] (op : Bool → Bool → Bool) (hdo : ∀ (f h : Nat → Bool) (k : Nat) (H : Heap), AC Tryd.prog g [.int .u64 (wd f k : Int), .int .u64 (wd h k : Int)] H (Ret (.int .u64 ((wd (fun n => op (f n) (h n)) k : Nat) : Int)) H))
    (a b : List Int) (ha : a.length ≤ 9223372036854775807) (hb : b.length ≤ 9223372036854775807) (H : Heap) : ACT Tryd.prog KD 33 [.pl (a.map eInt), .pl (b.map eInt), .fn (.func g) [] []] H (Ret (.pl ((setop op a b).map eInt)) H) := by
  refine ACT.body (N := 36) [.tmp 6] Tryd.func33 rfl rfl rfl (Nat.le_of_ble_eq_true rfl) fun B hB => ?_
  refine Z2k ?_
  refine Z2l ?_
  refine Z1p ?_
  refine Z1g ?_
  refine Z1f ?_
  refine Z1i ?_
  refine Zg ?_
  refine Z13 ?_
  refine Z13 ?_
  refine Zi ?_
  refine Zu ?_
  refine Z2n ?_
  refine aw_cond rfl (fun hc => ?_) (fun hc => ?_)
  · have hs : (sok a && sok b) = false := by cases h : (sok a && sok b) <;> simp_all
    refine Z2o ?_
    refine aw_nslpl 6 rfl ?_
    refine aw_ret ?_
    rw [show setop op a b = [] by rw [setop, hs]; rfl]
    exact Zd
  have hs : sok a = true ∧ sok b = true := by simpa using hc
  rw [show setop op a b = setl (fun n => op (inl a n) (inl b n)) by rw [setop, hs.1, hs.2]; rfl, pof_ok hs.1, pof_ok hs.2]
  refine Ze ?_
  refine Zn ?_
  refine aw_loop (G := Nat) (fun k => k ≤ 4) (fun k => [(KT, KD.av), (2, .fn (.func g) [] []), (7, .pt (Lid H.length 0) 0 0 0), (8, .pt (Lid H.length 1) 0 0 0), (20, .int .i64 (k : Int))]) (fun k => H ++ [⟨0, 4, [eWn (fun j => if j < k then wd (fun n => op (inl a n) (inl b n)) j else wd (inl a) j)]⟩, ⟨0, 4, [eWn (wd (inl b))]⟩]) (fun k => 4 - k) 0 (Nat.zero_le _) (by repeat (first | exact Sub.nil | refine Sub.cons (by first | rfl | (simp [get]; done)) ?_)) (.inl (by simp)) ?_
  intro k hk
  refine Zq ?_
  refine aw_cond rfl (fun hc => ?_) (fun hc => ?_)
  · have hk4 : k < 4 := by simp at hc; omega
    have hx : (eWn (fun j => if j < k then wd (fun n => op (inl a n) (inl b n)) j else wd (inl a) j))[0 + k * 1]? = some (.int .u64 ((wd (inl a) k : Nat) : Int)) := by
      rw [Nat.zero_add, Nat.mul_one, eWn_get _ hk4]; simp
    have hy : (eWn (wd (inl b)))[0 + k * 1]? = some (.int .u64 ((wd (inl b) k : Nat) : Int)) := by rw [Nat.zero_add, Nat.mul_one]; exact eWn_get _ hk4
    have hset : (eWn (fun j => if j < k then wd (fun n => op (inl a n) (inl b n)) j else wd (inl a) j)).take (0 + k * 1) ++ [AV.int .u64 ((wd (fun n => op (inl a n) (inl b n)) k : Nat) : Int)] ++ (eWn (fun j => if j < k then wd (fun n => op (inl a n) (inl b n)) j else wd (inl a) j)).drop (0 + k * 1 + 1) = eWn (fun j => if j < k + 1 then wd (fun n => op (inl a n) (inl b n)) j else wd (inl a) j) := by
      rw [Nat.zero_add, Nat.mul_one, eWn_set _ hk4]
      refine eWn_congr fun j _ => ?_
      by_cases e : j = k
      · subst e; simp
      · rw [if_neg e]
        by_cases e2 : j < k
        · rw [if_pos e2, if_pos (by omega)]
        · rw [if_neg e2, if_neg (by omega)]
    refine Ze ?_
    refine Zc ?_
    refine aw_drawP mixed (some 10) 2 ?_
    refine Z16 ?_
    refine Z17 ?_
    first | refine aq0 1 rfl (by decide +kernel) (by decide) (fun _ => o_move (v := .fn _ _ _) rfl) ?_ | refine aq0 1 rfl (by decide +kernel) (by decide) (fun _ => o_move (v := .nfn) rfl) ?_
    refine aq0 2 rfl (by decide +kernel) (by decide) (fun _ => o_move (v := .int _ _) rfl) ?_
    refine aqp 3 rfl (by decide +kernel) (by decide) (fun G => w_indexArrN rfl (lk rfl rfl) rfl rfl hk4) ?_
    refine aqp 4 rfl (by decide +kernel) (by decide) (fun G => w_load1 (v := .int .u64 _) rfl (lk rfl rfl) rfl rfl hx) ?_
    refine Z2p ?_
    refine aqp 6 rfl (by decide +kernel) (by decide) (fun G => w_indexArrN rfl (lk rfl rfl) rfl rfl hk4) ?_
    refine aqp 7 rfl (by decide +kernel) (by decide) (fun G => w_load1 (v := .int .u64 _) rfl (lk rfl rfl) rfl rfl hy) ?_
    refine aq02 8 rfl (by decide +kernel) (by decide) (fun _ => V2.callv (hdo (inl a) (inl b) k _) rfl rfl) ?_
    refine aqp 9 rfl (by decide +kernel) (by decide) (fun G => w_indexArrN rfl (lk rfl rfl) rfl rfl hk4) ?_
    refine aqs 10 rfl (by decide +kernel) (by first | exact fun _ => trivial | exact fun _ => ⟨_, rfl⟩ | exact fun _ => ⟨_, rfl, rfl⟩ | exact fun _ => ⟨_, rfl, rfl, rfl⟩ | exact yet_done (by decide +kernel)) (by rintro _ ⟨⟩) (w_storeP (sz := 1) (v := .int .u64 _) (r' := eWn (fun j => if j < k + 1 then wd (fun n => op (inl a n) (inl b n)) j else wd (inl a) j)) rfl rfl rfl rfl rfl rfl rfl rfl (by show _ ≤ 4; omega) hset) ?_
    refine Z19 ?_
    refine Z2 ?_
    refine Z1a ?_
    refine Z1b ?_
    exact ⟨k + 1, by omega, by omega, (by repeat (first | exact Sub.nil | refine Sub.cons (by first | rfl | (simp [get]; done)) ?_)), .refl _ _⟩
  · have : k = 4 := by simp at hc; omega
    subst this
    rw [show eWn (fun j => if j < 4 then wd (fun n => op (inl a n) (inl b n)) j else wd (inl a) j) = eWn (wd fun n => op (inl a n) (inl b n)) from eWn_congr fun j hj => if_pos hj]
    refine Z2 ?_
    refine Z2d ?_
    refine ao2 (by rintro _ ⟨⟩; decide) (V2.callT (words_list (fun n => op (inl a n) (inl b n)) _) rfl rfl) ?_
    refine Z2q ?_
    exact Zd
theorem set_Join (a b : List Int) (ha : a.length ≤ 9223372036854775807) (hb : b.length ≤ 9223372036854775807) (H : Heap) : ACT Tryd.prog KD 18 [.pl (a.map eInt), .pl (b.map eInt)] H (Ret (.pl ((setop (· || ·) a b).map eInt)) H) := by
  refine ACT.body (N := 8) [.tmp 4] Tryd.func18 rfl rfl rfl (Nat.le_of_ble_eq_true rfl) fun B hB => ?_
  refine Z2k ?_
  refine Z2l ?_
  refine ao2 (by rintro _ ⟨⟩; decide) (V2.callT (set_put 35 (· || ·) (fun f h k H => set_Join_1 f h k H) a b ha hb _) rfl rfl) ?_
  refine Z2q ?_
  exact Zd
theorem set_Less (a b : List Int) (ha : a.length ≤ 9223372036854775807) (hb : b.length ≤ 9223372036854775807) (H : Heap) : ACT Tryd.prog KD 17 [.pl (a.map eInt), .pl (b.map eInt)] H (Ret (.pl ((setop (fun x y => x && !y) a b).map eInt)) H) := by
  refine ACT.body (N := 8) [.tmp 4] Tryd.func17 rfl rfl rfl (Nat.le_of_ble_eq_true rfl) fun B hB => ?_
  refine Z2k ?_
  refine Z2l ?_
  refine ao2 (by rintro _ ⟨⟩; decide) (V2.callT (set_put 34 (fun x y => x && !y) (fun f h k H => set_Less_1 f h k H) a b ha hb _) rfl rfl) ?_
  refine Z2q ?_
  exact Zd
end Go.Av

namespace Go.Av
open Go.Proofs
set_option maxRecDepth 10000
set_option linter.unusedSimpArgs false
set_option linter.unusedVariables false

theorem inl_step {l : List Int} {k : Nat} {x : Int} {n : Nat} (hx : l[k]? = some x) (hno : inl (l.take k) n = false) : inl (l.take (k + 1)) n = (x == (n : Int)) := by
  rw [inl, take_snoc_get hx, List.any_append, show (l.take k).any (fun y => y == (n : Int)) = inl (l.take k) n from rfl, hno]; simp
theorem ref01_in (l : List Int) (n : Nat) (hl : l.length ≤ 9223372036854775807) (H : Heap) : AC Tryd.prog 30 [.pl (l.map eInt), .int .i64 (n : Int)] H (Ret (.bool (inl l n)) H) := by
  refine AC.body (N := 18) [.tmp 4] Tryd.func30 rfl rfl rfl (Nat.le_of_ble_eq_true rfl) fun B hB => ?_
  refine Z1c ?_
  refine Z2e ?_
  refine aw_loop (G := Nat) (fun k => k ≤ l.length ∧ inl (l.take k) n = false) (fun k => [(0, .pl (l.map eInt)), (1, .int .i64 (n : Int)), (5, .int .i64 (k : Int))]) (fun _ => H ++ []) (fun k => l.length - k) 0 ⟨Nat.zero_le _, rfl⟩ (by repeat (first | exact Sub.nil | refine Sub.cons (by first | rfl | (simp [get]; done)) ?_)) (Fit.refl _ _) ?_
  rintro k ⟨hk, hno⟩
  refine Ze ?_
  refine Zl ?_
  refine Zp ?_
  refine aw_cond rfl (fun hc => ?_) (fun hc => ?_)
  · have hlt : k < l.length := by simpa using hc
    obtain ⟨x, hx, hxl⟩ := get_in hlt
    have hr := map_get eInt hx
    have hst := inl_step hx hno
    refine Z2h ?_
    refine Zr ?_
    refine Zs ?_
    refine Z2r ?_
    refine Zb ?_
    refine aw_cond rfl (fun hc => ?_) (fun hc => ?_)
    · refine Z2s ?_
      rw [show inl l n = true from List.any_eq_true.2 ⟨x, hxl, hc⟩]
      exact Zd
    · refine Z2u ?_
      exact ⟨k + 1, by omega, ⟨by omega, by rw [hst]; exact hc⟩, (by repeat (first | exact Sub.nil | refine Sub.cons (by first | rfl | (simp [get]; done)) ?_)), .refl _ _⟩
  · have : k = l.length := by simp at hc; omega
    subst this
    rw [List.take_length] at hno
    rw [hno]
    exact Z2v

set_option maxHeartbeats 0 in
theorem ref01_Right (l : List Int) (hl : l.length ≤ 9223372036854775807) (H : Heap) : AC Tryd.prog 21 [.pl (l.map eInt)] H (Ret (.bool (sok l)) H) := by
  refine AC.body (N := 38) [.tmp 2] Tryd.func21 rfl rfl rfl (Nat.le_of_ble_eq_true rfl) fun B hB => ?_
  refine Z1c ?_
  refine Z2e ?_
  refine aw_loop (G := Nat) (fun k => k ≤ l.length ∧ ∀ i, i < k → okB l i = true) (fun k => [(0, .pl (l.map eInt)), (3, .int .i64 (k : Int))]) (fun _ => H ++ []) (fun k => l.length - k) 0 ⟨Nat.zero_le _, fun i hi => by omega⟩ (by repeat (first | exact Sub.nil | refine Sub.cons (by first | rfl | (simp [get]; done)) ?_)) (Fit.refl _ _) ?_
  rintro k ⟨hk, hno⟩
  refine Ze ?_
  refine Zl ?_
  refine Zp ?_
  refine aw_cond rfl (fun hc => ?_) (fun hc => ?_)
  · have hlt : k < l.length := by simpa using hc
    obtain ⟨x, hx, hxl⟩ := get_in hlt
    have hr := map_get eInt hx
    obtain ⟨m, hm, _⟩ := get_in (l := l) (k := ((k : Int) - 1).toNat) (by omega)
    have hr1 := map_get eInt hm
    have hnd : okB l k = (decide (0 ≤ x) && decide (x < 256) && (decide (k = 0) || decide (m < x))) := by
      rw [okB_get hx]
      cases k with
      | zero => simp
      | succ k =>
        have e : (((k + 1 : Nat) : Int) - 1).toNat = k := by omega
        rw [e] at hm
        simp [hm]
    clear hxl
    refine Z1 ?_
    refine aw_of_out 37 (.bool (!okB l k)) ?_ ?_
    · refine Z2w ?_
      refine Z16 ?_
      refine Z2x ?_
      refine Z2y ?_
      refine Z2z ?_
      refine Z30 ?_
      refine Z31 ?_
      refine Z32 ?_
      refine aq_split (g := 15) rfl (fun hg5 => ?_) (fun hg5 => ?_)
      · refine aqn0 (g := 15) 6 rfl (by decide +kernel) (by decide) rfl rfl rfl ?_
        refine aqn0 (g := 15) 7 rfl (by decide +kernel) (by decide) rfl rfl rfl ?_
        refine aqn0 (g := 15) 8 rfl (by decide +kernel) (by decide) rfl rfl rfl ?_
        refine aqn0 (g := 15) 9 rfl (by decide +kernel) (by decide) rfl rfl rfl ?_
        refine aqn0 (g := 15) 10 rfl (by decide +kernel) (by decide) rfl rfl rfl ?_
        refine Z33 ?_
        refine Z34 ?_
        refine Z35 ?_
        refine Z36 ?_
        refine Z37 ?_
        refine Z38 ?_
        refine Z39 ?_
        refine Z3a ?_
        refine Z3b ?_
        refine Z3c ?_
        refine Z3d ?_
        refine Z3e ?_
        refine Z3f ?_
        refine Z3g ?_
        refine Z3h ?_
        refine Z3i ?_
        refine Z3j ?_
        exact Z3k
      · first | refine aqy0 (g := 15) 6 rfl (by decide +kernel) (by decide) rfl rfl (fun _ => o_move (v := .sl _ _ _ _ _) rfl) ?_ | refine aqy0 (g := 15) 6 rfl (by decide +kernel) (by decide) rfl rfl (fun _ => o_move (v := .pl _) rfl) ?_ | refine aqy0 (g := 15) 6 rfl (by decide +kernel) (by decide) rfl rfl (fun _ => o_move (v := .nsl) rfl) ?_
        refine aqy0 (g := 15) 7 rfl (by decide +kernel) (by decide) rfl rfl (fun _ => o_move (v := .int _ _) rfl) ?_
        refine aqyp (g := 15) 8 rfl (by decide +kernel) (by decide) rfl rfl (fun G => w_indexAddrpN rfl rfl hr rfl) ?_
        refine aqyp (g := 15) 9 rfl (by decide +kernel) (by decide) rfl rfl (fun G => o_load1p (v := .int _ _) rfl hr rfl) ?_
        refine aqy0 (g := 15) 10 rfl (by decide +kernel) (by decide) rfl rfl (fun _ => o_gt rfl rfl) ?_
        refine Z33 ?_
        refine Z34 ?_
        refine aq_split (g := 22) rfl (fun hg12 => ?_) (fun hg12 => ?_)
        · refine Z35 ?_
          refine Z36 ?_
          refine Z37 ?_
          refine Z38 ?_
          refine Z39 ?_
          refine Z3a ?_
          refine Z3b ?_
          refine Z3c ?_
          refine Z3d ?_
          refine Z3e ?_
          refine Z3f ?_
          refine Z3g ?_
          refine Z3h ?_
          refine Z3i ?_
          refine Z3j ?_
          exact Z3k
        · refine aqy0 (g := 22) 13 rfl (by decide +kernel) (by decide) rfl rfl (fun _ => o_move (v := .int _ _) rfl) ?_
          refine aqy0 (g := 22) 14 rfl (by decide +kernel) (by decide) rfl rfl (fun _ => o_gt rfl rfl) ?_
          refine aqy0 (g := 22) 15 rfl (by decide +kernel) (by decide) rfl rfl (fun _ => o_move (v := .bool _) rfl) ?_
          refine aq_split (g := 25) rfl (fun hg15 => ?_) (fun hg15 => ?_)
          · first | refine aqy0 (g := 25) 16 rfl (by decide +kernel) (by decide) rfl rfl (fun _ => o_move (v := .sl _ _ _ _ _) rfl) ?_ | refine aqy0 (g := 25) 16 rfl (by decide +kernel) (by decide) rfl rfl (fun _ => o_move (v := .pl _) rfl) ?_ | refine aqy0 (g := 25) 16 rfl (by decide +kernel) (by decide) rfl rfl (fun _ => o_move (v := .nsl) rfl) ?_
            refine aqy0 (g := 25) 17 rfl (by decide +kernel) (by decide) rfl rfl (fun _ => o_move (v := .int _ _) rfl) ?_
            refine aqyp (g := 25) 18 rfl (by decide +kernel) (by decide) rfl rfl (fun G => w_indexAddrpN rfl rfl hr rfl) ?_
            refine aqyp (g := 25) 19 rfl (by decide +kernel) (by decide) rfl rfl (fun G => o_load1p (v := .int _ _) rfl hr rfl) ?_
            first | refine aqy0 (g := 25) 20 rfl (by decide +kernel) (by decide) rfl rfl (fun _ => o_move (v := .sl _ _ _ _ _) rfl) ?_ | refine aqy0 (g := 25) 20 rfl (by decide +kernel) (by decide) rfl rfl (fun _ => o_move (v := .pl _) rfl) ?_ | refine aqy0 (g := 25) 20 rfl (by decide +kernel) (by decide) rfl rfl (fun _ => o_move (v := .nsl) rfl) ?_
            refine aqy0 (g := 25) 21 rfl (by decide +kernel) (by decide) rfl rfl (fun _ => o_move (v := .int _ _) rfl) ?_
            refine aqy0 (g := 25) 22 rfl (by decide +kernel) (by decide) rfl rfl (fun _ => o_sub (r := (k : Int) - 1) rfl rfl (wrap64_ok (by omega) (by omega))) ?_
            refine aqyp (g := 25) 23 rfl (by decide +kernel) (by decide) rfl rfl (fun G => w_indexAddrp rfl rfl (by simp at hg15; omega) hr1 rfl) ?_
            refine aqyp (g := 25) 24 rfl (by decide +kernel) (by decide) rfl rfl (fun G => o_load1p (v := .int _ _) rfl hr1 rfl) ?_
            refine aqy0 (g := 25) 25 rfl (by decide +kernel) (by decide) rfl rfl (fun _ => o_le rfl rfl) ?_
            refine Z3l ?_
            refine Z3j ?_
            exact Z3k
          · refine aqn0 (g := 25) 16 rfl (by decide +kernel) (by decide) rfl rfl rfl ?_
            refine aqn0 (g := 25) 17 rfl (by decide +kernel) (by decide) rfl rfl rfl ?_
            refine aqn0 (g := 25) 18 rfl (by decide +kernel) (by decide) rfl rfl rfl ?_
            refine aqn0 (g := 25) 19 rfl (by decide +kernel) (by decide) rfl rfl rfl ?_
            refine aqn0 (g := 25) 20 rfl (by decide +kernel) (by decide) rfl rfl rfl ?_
            refine aqn0 (g := 25) 21 rfl (by decide +kernel) (by decide) rfl rfl rfl ?_
            refine aqn0 (g := 25) 22 rfl (by decide +kernel) (by decide) rfl rfl rfl ?_
            refine aqn0 (g := 25) 23 rfl (by decide +kernel) (by decide) rfl rfl rfl ?_
            refine aqn0 (g := 25) 24 rfl (by decide +kernel) (by decide) rfl rfl rfl ?_
            refine aqn0 (g := 25) 25 rfl (by decide +kernel) (by decide) rfl rfl rfl ?_
            refine Z3l ?_
            refine Z3j ?_
            exact Z3k
    refine Z1 ?_
    refine aw_cond rfl (fun hc => ?_) (fun hc => ?_)
    · refine Z2s ?_
      rw [sok_false hlt (by simpa using hc)]
      exact Zd
    · refine Z2u ?_
      refine ⟨k + 1, by omega, ⟨by omega, fun i hi => ?_⟩, (by repeat (first | exact Sub.nil | refine Sub.cons (by first | rfl | (simp [get]; done)) ?_)), .refl _ _⟩
      rcases Nat.lt_or_eq_of_le (Nat.le_of_lt_succ hi) with h | h
      · exact hno i h
      · subst h; simpa using hc
  · have : k = l.length := by simp at hc; omega
    subst this
    rw [sok_true hno]
    exact Z2v

def opw (how : Int) (x y : Bool) : Bool := if how = 0 then x || y else if how = 1 then x && y else if how = 2 then x && !y else false
def setP (f : Nat → Bool) (n : Nat) : List Int := ((List.range n).filter f).map fun j : Nat => (j : Int)
theorem setP_step (f : Nat → Bool) (n : Nat) : setP f (n + 1) = setP f n ++ if f n then [(n : Int)] else [] := by
  rw [setP, List.range_succ, List.filter_append, List.map_append, setP]
  congr 1
  cases h : f n <;> simp [h]
theorem setP_len (f : Nat → Bool) (n : Nat) : (setP f n).length ≤ n := by
  rw [setP, List.length_map]
  exact Nat.le_trans (List.length_filter_le _ _) (by simp)
set_option maxHeartbeats 0 in
theorem ref01_Which (a b : List Int) (how : Int) (ha : a.length ≤ 9223372036854775807) (hb : b.length ≤ 9223372036854775807) (H : Heap) : AC Tryd.prog 20 [.pl (a.map eInt), .pl (b.map eInt), .int .i64 how] H (Ret (.pl ((setop (opw how) a b).map eInt)) H) := by
  have hbel : ∀ (n g : Nat) (l : List Int), ∀ o ∈ [AObj.mk g 1 (l.map eInt)], ∀ r ∈ o.rows, AV.bels n r = true := by
    intro n g l o ho r hr
    simp only [List.mem_singleton] at ho
    subst ho
    exact ints_bel _ _ r hr
  refine AC.body (N := 63) [.tmp 6] Tryd.func20 rfl rfl rfl (Nat.le_of_ble_eq_true rfl) fun B hB => ?_
  refine Z2k ?_
  refine Zb ?_
  refine aw_out 18 (.bool (!(sok a && sok b))) ?_ ?_
  · refine Zj ?_
    refine Z3m ?_
    refine Z3n ?_
    refine ao_split rfl rfl (fun hg3 => ?_) (fun hg3 => ?_)
    · refine Z3p ?_
      exact Z3q
    · refine Z3r ?_
      refine ao_y rfl rfl (by decide) (V2.call (ref01_Right _ (by assumption) _) rfl) ?_
      refine Z3s ?_
      refine Zx ?_
      exact Z3q
  refine Z1 ?_
  refine aw_cond rfl (fun hc => ?_) (fun hc => ?_)
  · have hs : (sok a && sok b) = false := by cases h : (sok a && sok b) <;> simp_all
    refine Z2o ?_
    refine aw_nslpl 6 rfl ?_
    refine aw_ret ?_
    rw [show setop (opw how) a b = [] by rw [setop, hs]; rfl]
    exact Zd
  have hs : (sok a && sok b) = true := by cases h : (sok a && sok b) <;> simp_all
  rw [show setop (opw how) a b = setP (fun n => opw how (inl a n) (inl b n)) 256 by rw [setop, hs]; rfl]
  refine Z2o ?_
  refine aw_ghostL (k := 0) 7 1 rfl (by decide) rfl ?_
  refine Z2 ?_
  refine Z2e ?_
  refine aw_loop (G := Nat) (fun n => n ≤ 256) (fun n => [(0, .pl (a.map eInt)), (1, .pl (b.map eInt)), (2, .int .i64 how), (7, .sl (Lid H.length 0) (setP (fun n => opw how (inl a n) (inl b n)) n).length 0 (setP (fun n => opw how (inl a n) (inl b n)) n).length (setP (fun n => opw how (inl a n) (inl b n)) n).length), (8, .int .i64 (n : Int))]) (fun n => H ++ [⟨(setP (fun n => opw how (inl a n) (inl b n)) n).length, 1, (setP (fun n => opw how (inl a n) (inl b n)) n).map eInt⟩]) (fun n => 256 - n) 0 (Nat.zero_le _) (by repeat (first | exact Sub.nil | refine Sub.cons (by first | rfl | (simp [get]; done)) ?_)) (Fit.refl _ _) ?_
  intro n hn
  refine Ze ?_
  refine Zp ?_
  refine aw_cond rfl (fun hc => ?_) (fun hc => ?_)
  · have hn2 : n < 256 := by simp at hc; omega
    have hst := setP_step (fun n => opw how (inl a n) (inl b n)) n
    have hle := setP_len (fun n => opw how (inl a n) (inl b n)) n
    try simp only at hst
    generalize setP (fun n => opw how (inl a n) (inl b n)) n = acc at hst hle
    refine Z2h ?_
    refine Z3t ?_
    refine Zj ?_
    refine Z7 ?_
    refine Z3t ?_
    refine Zh ?_
    refine Z14 ?_
    refine aw_out 57 (.bool (opw how (inl a n) (inl b n))) ?_ ?_
    · refine Z2r ?_
      refine Zu ?_
      refine ao_split rfl rfl (fun hg2 => ?_) (fun hg2 => ?_)
      · refine Z3u ?_
        refine Z3u ?_
        refine ao_split rfl rfl (fun hg4 => ?_) (fun hg4 => ?_)
        · refine Zv ?_
          refine Z3x ?_
          refine Z40 ?_
          refine Z3y ?_
          refine Zv ?_
          refine Z3w ?_
          refine Z40 ?_
          refine Z42 ?_
          exact Z43
        · refine Z3u ?_
          refine Z3x ?_
          refine ao_split rfl rfl (fun hg8 => ?_) (fun hg8 => ?_)
          · refine Z40 ?_
            refine Z3y ?_
            refine Zv ?_
            refine Z3w ?_
            refine Z40 ?_
            refine Z42 ?_
            exact Z43
          · refine Z46 ?_
            refine ao_split rfl rfl (fun hg11 => ?_) (fun hg11 => ?_)
            · refine Z48 ?_
              refine ao_split rfl rfl (fun hg14 => ?_) (fun hg14 => ?_)
              · refine Z3u ?_
                refine Z3x ?_
                refine ao_split rfl rfl (fun hg18 => ?_) (fun hg18 => ?_)
                · refine Z40 ?_
                  refine Z42 ?_
                  exact Z43
                · refine Z46 ?_
                  refine ao_split rfl rfl (fun hg21 => ?_) (fun hg21 => ?_)
                  · refine Z48 ?_
                    refine ao_split rfl rfl (fun hg24 => ?_) (fun hg24 => ?_)
                    · exact Z4b
                    · exact Z4e
                  · exact Z4g
              · refine Z4c ?_
                refine Z3x ?_
                refine Z46 ?_
                refine ao_split rfl rfl (fun hg21 => ?_) (fun hg21 => ?_)
                · refine Z48 ?_
                  refine ao_split rfl rfl (fun hg24 => ?_) (fun hg24 => ?_)
                  · exact Z4b
                  · exact Z4e
                · exact Z4g
            · refine Z4f ?_
              refine Z4c ?_
              refine Z3x ?_
              refine Z46 ?_
              refine ao_split rfl rfl (fun hg21 => ?_) (fun hg21 => ?_)
              · refine Z48 ?_
                refine ao_split rfl rfl (fun hg24 => ?_) (fun hg24 => ?_)
                · exact Z4b
                · exact Z4e
              · exact Z4g
      · refine Z4d ?_
        refine Z3y ?_
        refine Z4c ?_
        refine Z3w ?_
        refine Z46 ?_
        refine ao_split rfl rfl (fun hg11 => ?_) (fun hg11 => ?_)
        · refine Z48 ?_
          refine ao_split rfl rfl (fun hg14 => ?_) (fun hg14 => ?_)
          · refine Z3u ?_
            refine Z3x ?_
            refine ao_split rfl rfl (fun hg18 => ?_) (fun hg18 => ?_)
            · refine Z40 ?_
              refine Z42 ?_
              exact Z43
            · refine Z46 ?_
              refine ao_split rfl rfl (fun hg21 => ?_) (fun hg21 => ?_)
              · refine Z48 ?_
                refine ao_split rfl rfl (fun hg24 => ?_) (fun hg24 => ?_)
                · exact Z4b
                · exact Z4e
              · exact Z4g
          · refine Z4c ?_
            refine Z3x ?_
            refine Z46 ?_
            refine ao_split rfl rfl (fun hg21 => ?_) (fun hg21 => ?_)
            · refine Z48 ?_
              refine ao_split rfl rfl (fun hg24 => ?_) (fun hg24 => ?_)
              · exact Z4b
              · exact Z4e
            · exact Z4g
        · refine Z4f ?_
          refine Z4c ?_
          refine Z3x ?_
          refine Z46 ?_
          refine ao_split rfl rfl (fun hg21 => ?_) (fun hg21 => ?_)
          · refine Z48 ?_
            refine ao_split rfl rfl (fun hg24 => ?_) (fun hg24 => ?_)
            · exact Z4b
            · exact Z4e
          · exact Z4g
    refine Z1 ?_
    refine aw_cond rfl (fun hc => ?_) (fun hc => ?_)
    · rw [if_pos hc] at hst
      refine Z2h ?_
      refine Z2i ?_
      refine Z2j ?_
      refine Z5 ?_
      rw [show (acc.map eInt).take acc.length = acc.map eInt from List.take_of_length_le (by simp)]
      refine Z2u ?_
      exact ⟨n + 1, by omega, by omega, by rw [hst, List.length_append]; exact (by repeat (first | exact Sub.nil | refine Sub.cons (by first | rfl | (simp [get]; done)) ?_)), Fit.loc hB (by rw [hst, List.length_append, List.map_append]; rfl) (by repeat (first | exact EBel.nil | refine EBel.cons (by first | rfl | (simp [AV.bel, AV.bels, Lid]; done) | (simp [AV.bel, AV.bels, Lid]; omega)) ?_)) (hbel _ _ _)⟩
    · rw [if_neg (by rw [hc]; simp), List.append_nil] at hst
      refine Z2u ?_
      exact ⟨n + 1, by omega, by omega, by rw [hst]; exact (by repeat (first | exact Sub.nil | refine Sub.cons (by first | rfl | (simp [get]; done)) ?_)), by rw [hst]; exact Fit.refl _ _⟩
  · have : n = 256 := by simp at hc; omega
    subst this
    refine Z2g ?_
    refine Z2c ?_
    refine Zn ?_
    refine aw_freezeL (ys := (setP (fun n => opw how (inl a n) (inl b n)) 256).map eInt) 6 rfl rfl rfl rfl (by rw [List.drop_zero, List.take_of_length_le (by simp)]) (by simp) (ints_bel 0 _) ?_
    refine aw_ret ?_
    exact Zd
end Go.Av

namespace Go.Av
open Go.Proofs
set_option maxRecDepth 10000
set_option linter.unusedSimpArgs false
set_option linter.unusedVariables false

theorem setop_len (op : Bool → Bool → Bool) (a b : List Int) : (setop op a b).length ≤ 256 := by
  unfold setop
  split
  · exact setl_len _
  · exact Nat.zero_le _
theorem eq_step {α : Type} {a b : List α} {k : Nat} {x : α} (hx : a[k]? = some x) (hy : b[k]? = some x) (h : a.take k = b.take k) : a.take (k + 1) = b.take (k + 1) := by
  rw [take_snoc_get hx, take_snoc_get hy, h]
theorem eq_done {α : Type} {a b : List α} (hn : a.length = b.length) (h : a.take a.length = b.take a.length) : a = b := by
  rw [List.take_length, hn, List.take_length] at h; exact h
theorem ne_at {α : Type} {a b : List α} {k : Nat} {x y : α} (hx : a[k]? = some x) (hy : b[k]? = some y) (h : x ≠ y) : a ≠ b := by
  rintro rfl; rw [hx] at hy; exact h (Option.some.inj hy)
theorem ref01_Same (a b : List Int) (ha : a.length ≤ 9223372036854775807) (H : Heap) : AC Tryd.prog 12 [.pl (a.map eInt), .pl (b.map eInt)] H (Ret (.bool (decide (a = b))) H) := by
  refine AC.body (N := 26) [.tmp 4] Tryd.func12 rfl rfl rfl (Nat.le_of_ble_eq_true rfl) fun B hB => ?_
  refine Z1c ?_
  refine Zl ?_
  refine Zl ?_
  refine Z2f ?_
  refine Zb ?_
  refine aw_cond rfl (fun hc => ?_) (fun hc => ?_)
  · have hn : a.length ≠ b.length := by simp at hc; omega
    rw [show decide (a = b) = false by simp; intro e; exact hn (congrArg List.length e)]
    exact Z2v
  have hn : a.length = b.length := by simp at hc; omega
  refine Z2 ?_
  refine Z2e ?_
  refine aw_loop (G := Nat) (fun k => k ≤ a.length ∧ a.take k = b.take k) (fun k => [(0, .pl (a.map eInt)), (1, .pl (b.map eInt)), (5, .int .i64 (k : Int))]) (fun _ => H ++ []) (fun k => a.length - k) 0 ⟨Nat.zero_le _, by simp⟩ (by repeat (first | exact Sub.nil | refine Sub.cons (by first | rfl | (simp [get]; done)) ?_)) (Fit.refl _ _) ?_
  rintro k ⟨hk, he⟩
  refine Ze ?_
  refine Zl ?_
  refine Zp ?_
  refine aw_cond rfl (fun hc => ?_) (fun hc => ?_)
  · have hlt : k < a.length := by simpa using hc
    obtain ⟨x, hx, _⟩ := get_in hlt
    obtain ⟨y, hy, _⟩ := get_in (l := b) (k := k) (by omega)
    have hr := map_get eInt hx
    have hr1 := map_get eInt hy
    refine Z1 ?_
    refine Z2w ?_
    refine Z16 ?_
    refine Z2x ?_
    refine Z2y ?_
    refine Z2z ?_
    refine Z30 ?_
    first | refine aq0 4 rfl (by decide +kernel) (by decide) (fun _ => o_move (v := .sl _ _ _ _ _) rfl) ?_ | refine aq0 4 rfl (by decide +kernel) (by decide) (fun _ => o_move (v := .pl _) rfl) ?_ | refine aq0 4 rfl (by decide +kernel) (by decide) (fun _ => o_move (v := .nsl) rfl) ?_
    refine Z2p ?_
    refine aqp 6 rfl (by decide +kernel) (by decide) (fun G => w_indexAddrpN rfl rfl hr1 rfl) ?_
    refine aqp 7 rfl (by decide +kernel) (by decide) (fun G => o_load1p (v := .int _ _) rfl hr1 rfl) ?_
    refine aq0 8 rfl (by decide +kernel) (by decide) (fun _ => o_ne rfl rfl) ?_
    refine Z19 ?_
    refine Z1 ?_
    refine aw_cond rfl (fun hc => ?_) (fun hc => ?_)
    · rw [show decide (a = b) = false by simp; exact ne_at hx hy (by simpa using hc)]
      exact Z2v
    · have hxy : x = y := by simpa using hc
      subst hxy
      refine Z2u ?_
      exact ⟨k + 1, by omega, ⟨by omega, eq_step hx hy he⟩, (by repeat (first | exact Sub.nil | refine Sub.cons (by first | rfl | (simp [get]; done)) ?_)), .refl _ _⟩
  · have : k = a.length := by simp at hc; omega
    subst this
    rw [show decide (a = b) = true by simp; exact eq_done hn he]
    exact Z2v
end Go.Av

/-
  SETS, plainly: what is joined, met, taken away, number by number.
-/
namespace Go.Av
theorem inl_setop {op : Bool → Bool → Bool} {a b : List Int} (ha : sok a = true) (hb : sok b = true) (hop : op false false = false) (n : Nat) : inl (setop op a b) n = op (inl a n) (inl b n) := by
  rw [setop, ha, hb, Bool.and_self, if_pos rfl, inl_setl]
  by_cases hn : n < 256
  · simp [hn]
  · have h1 : inl a n = false := by
      cases h : inl a n with
      | false => rfl
      | true => exact absurd (inl_256 ha h) hn
    have h2 : inl b n = false := by
      cases h : inl b n with
      | false => rfl
      | true => exact absurd (inl_256 hb h) hn
    rw [h1, h2, hop]; simp
theorem sok_setop (op : Bool → Bool → Bool) (a b : List Int) : sok (setop op a b) = true := by
  unfold setop
  split
  · exact sok_setl _
  · exact sok_nil
theorem setop_nil {op : Bool → Bool → Bool} {a b : List Int} (ha : sok a = true) (hb : sok b = true) (hop : op false false = false) : setop op a b = [] ↔ ∀ n, op (inl a n) (inl b n) = false := by
  constructor
  · intro h n
    rw [← inl_setop ha hb hop, h]; rfl
  · intro h
    rw [setop, ha, hb, Bool.and_self, if_pos rfl, setl_nil]
    exact fun n _ => h n
theorem spart_iff {a b : List Int} : spart a b = true ↔ sok a = true ∧ sok b = true ∧ ∀ n, inl a n = true → inl b n = true := by
  unfold spart
  rw [Bool.and_eq_true, Bool.and_eq_true, decide_eq_true_eq, setl_nil]
  constructor
  · rintro ⟨⟨h1, h2⟩, h3⟩
    refine ⟨h1, h2, fun n hn => ?_⟩
    have := h3 n (inl_256 h1 hn)
    simpa [hn] using this
  · rintro ⟨h1, h2, h3⟩
    refine ⟨⟨h1, h2⟩, fun n _ => ?_⟩
    cases ha : inl a n with
    | false => rfl
    | true => simp [h3 n ha]
end Go.Av

namespace Go.Av
open Go.Proofs
set_option maxRecDepth 10000
set_option linter.unusedSimpArgs false
set_option linter.unusedVariables false

theorem set_Meet_1 (f g : Nat → Bool) (k : Nat) (H : Heap) : AC Tryd.prog 36 [.int .u64 (wd f k : Int), .int .u64 (wd g k : Int)] H (Ret (.int .u64 ((wd (fun n => f n && g n) k : Nat) : Int)) H) := by
  refine AC.body (N := 8) [.tmp 4] Tryd.func36 rfl rfl rfl (Nat.le_of_ble_eq_true rfl) fun B hB => ?_
  refine Z2 ?_
  refine Z9 ?_
  refine Z7 ?_
  refine ao1 (by decide) (o_and (r := ((wd (fun n => f n && g n) k : Nat) : Int)) rfl rfl (by rw [u64_and _ _ (wd_lt _ _) (wd_lt _ _), wd_and])) ?_
  refine Zc ?_
  exact Zd
theorem set_Meet (a b : List Int) (ha : a.length ≤ 9223372036854775807) (hb : b.length ≤ 9223372036854775807) (H : Heap) : ACT Tryd.prog KD 19 [.pl (a.map eInt), .pl (b.map eInt)] H (Ret (.pl ((setop (· && ·) a b).map eInt)) H) := by
  refine ACT.body (N := 8) [.tmp 4] Tryd.func19 rfl rfl rfl (Nat.le_of_ble_eq_true rfl) fun B hB => ?_
  refine Z2k ?_
  refine Z2l ?_
  refine ao2 (by rintro _ ⟨⟩; decide) (V2.callT (set_put 36 (· && ·) (fun f h k H => set_Meet_1 f h k H) a b ha hb _) rfl rfl) ?_
  refine Z2q ?_
  exact Zd
def inI (l : List Int) (n : Int) : Bool := l.any fun x => x == n
theorem inI_step {l : List Int} {k : Nat} {x n : Int} (hx : l[k]? = some x) (hno : inI (l.take k) n = false) : inI (l.take (k + 1)) n = (x == n) := by
  rw [inI, take_snoc_get hx, List.any_append, show (l.take k).any (fun y => y == n) = inI (l.take k) n from rfl, hno]; simp
theorem ref01_inI (l : List Int) (n : Int) (hl : l.length ≤ 9223372036854775807) (H : Heap) : AC Tryd.prog 30 [.pl (l.map eInt), .int .i64 n] H (Ret (.bool (inI l n)) H) := by
  refine AC.body (N := 18) [.tmp 4] Tryd.func30 rfl rfl rfl (Nat.le_of_ble_eq_true rfl) fun B hB => ?_
  refine Z1c ?_
  refine Z2e ?_
  refine aw_loop (G := Nat) (fun k => k ≤ l.length ∧ inI (l.take k) n = false) (fun k => [(0, .pl (l.map eInt)), (1, .int .i64 n), (5, .int .i64 (k : Int))]) (fun _ => H ++ []) (fun k => l.length - k) 0 ⟨Nat.zero_le _, rfl⟩ (by repeat (first | exact Sub.nil | refine Sub.cons (by first | rfl | (simp [get]; done)) ?_)) (Fit.refl _ _) ?_
  rintro k ⟨hk, hno⟩
  refine Ze ?_
  refine Zl ?_
  refine Zp ?_
  refine aw_cond rfl (fun hc => ?_) (fun hc => ?_)
  · have hlt : k < l.length := by simpa using hc
    obtain ⟨x, hx, hxl⟩ := get_in hlt
    have hr := map_get eInt hx
    have hst := inI_step hx hno
    refine Z2h ?_
    refine Zr ?_
    refine Zs ?_
    refine Z2r ?_
    refine Zb ?_
    refine aw_cond rfl (fun hc => ?_) (fun hc => ?_)
    · refine Z2s ?_
      rw [show inI l n = true from List.any_eq_true.2 ⟨x, hxl, hc⟩]
      exact Zd
    · refine Z2u ?_
      exact ⟨k + 1, by omega, ⟨by omega, by rw [hst]; exact hc⟩, (by repeat (first | exact Sub.nil | refine Sub.cons (by first | rfl | (simp [get]; done)) ?_)), .refl _ _⟩
  · have : k = l.length := by simp at hc; omega
    subst this
    rw [List.take_length] at hno
    rw [hno]
    exact Z2v
theorem ref01_Has (l : List Int) (n : Int) (hl : l.length ≤ 9223372036854775807) (H : Heap) : AC Tryd.prog 22 [.pl (l.map eInt), .int .i64 n] H (Ret (.bool (sok l && inI l n)) H) := by
  refine AC.body (N := 12) [.tmp 4] Tryd.func22 rfl rfl rfl (Nat.le_of_ble_eq_true rfl) fun B hB => ?_
  refine Z2s ?_
  refine aw_out 4 (.bool (sok l && inI l n)) ?_ ?_
  · refine Zj ?_
    refine Z3m ?_
    refine Zu ?_
    refine ao_split rfl rfl (fun hg2 => ?_) (fun hg2 => ?_)
    · refine Z4h ?_
      refine ao_y rfl rfl (by decide) (V2.call (ref01_inI l n hl _) rfl) ?_
      refine Z4i ?_
      exact Z4j
    · refine Z4l ?_
      exact Z4j
  exact Z4m
theorem inI_sok {l : List Int} (h : sok l = true) (n : Int) : inI l n = (decide (0 ≤ n) && decide (n < 256) && inl l n.toNat) := by
  rw [Bool.eq_iff_iff]
  simp only [Bool.and_eq_true, decide_eq_true_eq]
  constructor
  · intro h1
    obtain ⟨x, hx, e⟩ := List.any_eq_true.1 h1
    have e : x = n := by simpa using e
    subst e
    obtain ⟨k, hk, rfl⟩ := List.getElem_of_mem hx
    have hr := sok_get_range h hk
    exact ⟨hr, inl_mem.2 (by rw [Int.toNat_of_nonneg hr.1]; exact hx)⟩
  · rintro ⟨⟨h0, h1⟩, h2⟩
    have := inl_mem.1 h2
    rw [Int.toNat_of_nonneg h0] at this
    exact List.any_eq_true.2 ⟨n, this, by simp⟩
theorem wd_has (f : Nat → Bool) (m : Nat) : ((wd f (m / 64) / 2 ^ (m % 64) % 2 : Nat) == 1) = f m := by
  have h := wd_bit f (m / 64) (m % 64)
  rw [Nat.testBit_eq_decide_div_mod_eq, decide_eq_true (Nat.mod_lt m (by decide)), Bool.true_and, show 64 * (m / 64) + m % 64 = m from Nat.div_add_mod m 64] at h
  rw [← h, Bool.eq_iff_iff]
  simp
set_option maxHeartbeats 0 in
theorem set_Has (l : List Int) (n : Int) (hl : l.length ≤ 9223372036854775807) (H : Heap) : AC Tryd.prog 16 [.pl (l.map eInt), .int .i64 n] H (Ret (.bool (sok l && inI l n)) H) := by
  refine AC.body (N := 32) [.tmp 4] Tryd.func16 rfl rfl rfl (Nat.le_of_ble_eq_true rfl) fun B hB => ?_
  refine Z1c ?_
  refine Zj ?_
  refine Z1d ?_
  refine Z1g ?_
  refine Z1i ?_
  refine Z13 ?_
  refine Zh ?_
  refine Z5 ?_
  by_cases h : sok l = true ∧ 0 ≤ n ∧ n < 256
  · obtain ⟨hs, h0, h1⟩ := h
    obtain ⟨m, rfl⟩ := Int.eq_ofNat_of_zero_le h0
    have hm : m < 256 := by omega
    have hres : inI l (m : Int) = inl l m := by rw [inI_sok hs, decide_eq_true h0, decide_eq_true h1]; simp
    rw [hres]
    have hdiv : ((m : Int)).tdiv 64 = ((m / 64 : Nat) : Int) := by rw [Int.tdiv_eq_ediv_of_nonneg (by omega)]; omega
    have hmod : ((m : Int)).tmod 64 = ((m % 64 : Nat) : Int) := by rw [Int.tmod_eq_emod_of_nonneg (by omega)]; omega
    have hn4 : m / 64 < 4 := by omega
    rw [pof_ok hs]
    have hcell : (eWn (wd (inl l)))[0 + m / 64 * 1]? = some (.int .u64 ((wd (inl l) (m / 64) : Nat) : Int)) := by rw [Nat.zero_add, Nat.mul_one]; exact eWn_get _ hn4
    have hp : 0 < 2 ^ (m % 64) := Nat.pow_pos (by decide)
    have hlt : wd (inl l) (m / 64) / 2 ^ (m % 64) < 18446744073709551616 := Nat.lt_of_le_of_lt (Nat.div_le_self _ _) (wd_lt _ _)
    have hw := wd_has (inl l) m
    have hw2 : (((wd (inl l) (m / 64) / 2 ^ (m % 64) % 2 : Nat) : Int) == 1) = inl l m := by rw [← hw, Bool.eq_iff_iff]; generalize wd (inl l) (m / 64) / 2 ^ (m % 64) % 2 = z; simp; omega
    refine Z1 ?_
    refine aw_out 4 (.bool (sok l && inl l m)) ?_ ?_
    · refine Zu ?_
      refine Zu ?_
      refine ao_split rfl rfl (fun hg1 => ?_) (fun hg1 => ?_)
      · refine Z10 ?_
        refine Z11 ?_
        refine Z3w ?_
        refine ao_split rfl rfl (fun hg5 => ?_) (fun hg5 => ?_)
        · refine Z10 ?_
          refine Z4o ?_
          refine ao_split rfl rfl (fun hg9 => ?_) (fun hg9 => ?_)
          · refine Z10 ?_
            refine ao_y1 rfl rfl (by decide) (o_quo (r := ((m / 64 : Nat) : Int)) rfl rfl (by decide) (by rw [hdiv]; exact wrap64_ok (by omega) (by omega))) ?_
            refine ao_y1 rfl rfl (by decide) (w_indexArrN rfl (lk rfl rfl) rfl rfl hn4) ?_
            refine ao_y1 rfl rfl (by decide) (w_load1 (v := .int .u64 _) rfl (lk rfl rfl) rfl rfl hcell) ?_
            refine Z10 ?_
            refine ao_y1 rfl rfl (by decide) (o_rem (r := ((m % 64 : Nat) : Int)) rfl rfl (by decide) (by rw [hmod])) ?_
            refine ao_y1 rfl rfl (by decide) (o_shr (r := ((wd (inl l) (m / 64) / 2 ^ (m % 64) : Nat) : Int)) rfl rfl (by omega) (by rw [show min ((m % 64 : Nat) : Int).toNat IntKind.u64.bits = m % 64 by show min _ 64 = _; omega, show ((2 : Int) ^ (m % 64)) = ((2 ^ (m % 64) : Nat) : Int) by push_cast; rfl, Int.fdiv_eq_ediv_of_nonneg _ (by omega)]; exact (Int.natCast_ediv _ _).symm)) ?_
            refine ao_y1 rfl rfl (by decide) (o_and (r := ((wd (inl l) (m / 64) / 2 ^ (m % 64) % 2 : Nat) : Int)) rfl rfl (by rw [show (1 : Int) = ((1 : Nat) : Int) from rfl, u64_and _ _ hlt (by decide), Nat.and_one_is_mod])) ?_
            refine Z44 ?_
            refine Z4i ?_
            exact Z4p
          · refine Z4q ?_
            refine Z4s ?_
            exact Z4p
        · refine Z4d ?_
          refine Z4t ?_
          refine Z4s ?_
          exact Z4p
      · refine Z4u ?_
        refine Z4d ?_
        refine Z4t ?_
        refine Z4s ?_
        exact Z4p
    exact Z4m
  · have hno : (sok l && inI l n) = false := by
      cases hs : sok l with
      | false => rfl
      | true =>
        rw [inI_sok hs, Bool.true_and, Bool.and_eq_false_iff]
        left
        rw [Bool.and_eq_false_iff, decide_eq_false_iff_not, decide_eq_false_iff_not]
        by_cases h2 : 0 ≤ n
        · exact .inr fun h3 => h ⟨hs, h2, h3⟩
        · exact .inl h2
    rw [hno]
    refine Z1 ?_
    refine aw_out 4 (.bool false) ?_ ?_
    · refine Zu ?_
      refine Zu ?_
      refine ao_split rfl rfl (fun hg1 => ?_) (fun hg1 => ?_)
      · refine Z10 ?_
        refine Z11 ?_
        refine Z3w ?_
        refine ao_split rfl rfl (fun hg5 => ?_) (fun hg5 => ?_)
        · refine Z10 ?_
          refine Z4o ?_
          refine ao_split rfl rfl (fun hg9 => ?_) (fun hg9 => ?_)
          · refine Z10 ?_
            exfalso; exact h ⟨hg1, of_decide_eq_true hg5, of_decide_eq_true hg9⟩
          · refine Z4q ?_
            refine Z4s ?_
            exact Z4v
        · refine Z4d ?_
          refine Z4t ?_
          refine Z4s ?_
          exact Z4v
      · refine Z4u ?_
        refine Z4d ?_
        refine Z4t ?_
        refine Z4s ?_
        exact Z4v
    exact Z4m
end Go.Av

namespace Go.Av
open Go.Proofs Go.RowKit
set_option maxRecDepth 10000
set_option linter.unusedSimpArgs false
set_option linter.unusedVariables false

/-! ### the tables that are known -/
def KP : Know := ⟨4, Lib.pow10Tab.map fun n : Int => Value.int .u64 n⟩
structure Errs where
  syn : Value
  rng : Value
  synI : ∃ te pe, syn = .iface te pe
  rngI : ∃ te pe, rng = .iface te pe
def KY (E : Errs) : Know := ⟨2, [E.syn]⟩
def KR (E : Errs) : Know := ⟨3, [E.rng]⟩
def KS (E : Errs) : Knows := [(KT, KD), (KT + 1, KP), (KT + 2, KY E), (KT + 3, KR E)]

/-! ### the library's -/
theorem lib_Index (s : List UInt8) (c : UInt8) (H : Heap) : AC Tryd.prog 48 [.str (bs s), .str (bs [c])] H (Ret (.int .i64 (Lib.indexByte s c)) H) := AC.kit fun S w cargs hH hv => by
  obtain ⟨u, u', rfl, h1, h2⟩ := vrs_2 hv
  cases h1; cases h2
  refine ⟨.int .i64 (Lib.indexByte s c), (Tryd.strings_Index_one (bs s) c w).mono ?_, fun w' _ => .int⟩
  rintro e w' ⟨rfl, rfl⟩
  exact ⟨by rw [bs_data], Below.refl _ _⟩
theorem lib_Indexl (s : List UInt8) (c : UInt8) (H : Heap) : AC Tryd.prog 59 [.str (bs s), .str (bs [c])] H (Ret (.int .i64 (Lib.indexByte s c)) H) := AC.kit fun S w cargs hH hv => by
  obtain ⟨u, u', rfl, h1, h2⟩ := vrs_2 hv
  cases h1; cases h2
  refine ⟨.int .i64 (Lib.indexByte s c), (Tryd.stringslite_Index_one (bs s) c w).mono ?_, fun w' _ => .int⟩
  rintro e w' ⟨rfl, rfl⟩
  exact ⟨by rw [bs_data], Below.refl _ _⟩
theorem lib_Count (s : List UInt8) (c : UInt8) (H : Heap) : AC Tryd.prog 47 [.str (bs s), .str (bs [c])] H (Ret (.int .i64 ((Lib.countByte s c : Nat) : Int)) H) := AC.kit fun S w cargs hH hv => by
  obtain ⟨u, u', rfl, h1, h2⟩ := vrs_2 hv
  cases h1; cases h2
  refine ⟨.int .i64 ((Lib.countByte s c : Nat) : Int), (Tryd.strings_Count_one (bs s) c w).mono ?_, fun w' _ => .int⟩
  rintro e w' ⟨rfl, rfl⟩
  exact ⟨by rw [bs_data], Below.refl _ _⟩
theorem lib_Join {id g n : Nat} {xs : List (List UInt8)} {H : Heap} (hid : H[id]? = some ⟨g, 1, (xs.map bs).map eStr⟩) (hl : xs.length ≤ 1000000) (hj : (Lib.join xs [44]).length ≤ 1000000) : AC Tryd.prog 29 [.sl id g 0 xs.length n, .str (bs [44])] H (Ret (.str (bs (Lib.join xs [44]))) H) := AC.kit fun S w cargs hH hv => by
  obtain ⟨u, u', rfl, h1, h2⟩ := vrs_2 hv
  cases h2
  have h1' : VR (own S) w S (.sl id g 0 (xs.map bs).length n) u := by rw [List.length_map]; exact h1
  refine ⟨.string (bs (Lib.join xs [44])), ?_, fun w' _ => .str⟩
  rcases str_cells hH hid h1' with ⟨e, a, c, rfl⟩ | ⟨b, c, rfl, k1, k2, k3⟩
  · obtain rfl : xs = [] := by simpa using e
    refine (Tryd.strings_Join_none a c (bs [44]) w).mono ?_
    rintro e w' ⟨rfl, rfl⟩
    exact ⟨by rw [join_nil], Below.refl _ _⟩
  · have e1 : (xs.map bs).map (fun x : ByteArray => x.data.toList) = xs := by
      rw [List.map_map]
      refine (List.map_congr_left fun x _ => ?_).trans (List.map_id _)
      exact bs_data x
    refine (Tryd.strings_Join b 0 c (xs.map bs) (bs [44]) w k3 k1 (by rw [List.length_map]; omega) k2 (by rw [e1, bs_data]; omega)).mono ?_
    rintro e w' ⟨rfl, hb⟩
    exact ⟨by rw [e1, bs_data], hb⟩
theorem lib_Itoa (E : Errs) (n : Int) (h0 : 0 ≤ n) (h1 : n < 256) (H : Heap) : ACL Tryd.prog (KS E) 28 [.int .i64 n] H (Ret (.str (bs (dec n))) H) := ACL.kit fun S w cargs hk hH hv => by
  obtain ⟨u, rfl, h2⟩ := vrs_1 hv
  cases h2
  have hkn : Kn KP S w := hk (KT + 1, KP) (by simp [KS])
  refine (Tryd.strconv_Itoa n (by omega) (by omega) w (hkn.tabIs (by kernel_rfl) rfl)).mono ?_
  rintro e w' ⟨rfl, k, os, rfl⟩
  refine ⟨_, rfl, Lib.below_grow _ _ (Nat.le_refl _) _ _, ?_⟩
  rw [show Lib.itoa n = dec n by rw [Lib.itoa, if_neg (by omega)]; rfl]
  exact .str
/-- What Atoi makes of a text: a number, or an error. -/
theorem lib_Atoi (E : Errs) (s : List UInt8) (hs : s.length ≤ 1000000) : ∃ (v : Int) (x : AV), ((x = .nifc ∧ atI s = some v) ∨ (∃ t, x = .ifc t .junk) ∧ atI s = none) ∧ ∀ H, ACL Tryd.prog (KS E) 40 [.str (bs s)] H (Ret (.tup [.int .i64 v, x]) H) := by
  rcases h : Lib.atoiAll s with v | _ | _
  ·
    refine ⟨v, .nifc, .inl ⟨rfl, by rw [atI, h]⟩, fun H => ACL.kit fun S w cargs hk hH hv => ?_⟩
    obtain ⟨u, rfl, h2⟩ := vrs_1 hv
    cases h2
    refine (Tryd.strconv_Atoi_ok (bs s) (by rw [bs_size]; omega) v (by rw [bs_data]; exact h) w).mono ?_
    rintro e w' ⟨rfl, hw⟩
    refine ⟨_, rfl, ?_, ?_⟩
    · rcases hw with rfl | ⟨t, rfl⟩
      · exact Below.refl _ _
      · exact Lib.bytesWorld_below _ _ _
    · exact .tup rfl fun j v u hv hu => by
        match j, hv, hu with
        | 0, hv, hu => cases hv; cases hu; exact .int
        | 1, hv, hu => cases hv; cases hu; exact .nifc
  ·
    refine ⟨0, .ifc 84 .junk, .inr ⟨⟨_, rfl⟩, by rw [atI, h]⟩, fun H => ACL.kit fun S w cargs hk hH hv => ?_⟩
    obtain ⟨u, rfl, h2⟩ := vrs_1 hv
    cases h2
    have hkn : Kn (KY E) S w := hk (KT + 2, KY E) (by simp [KS])
    refine (Tryd.strconv_Atoi_syntax (bs s) (by rw [bs_size]; omega) (by rw [bs_data]; exact h) E.syn w (hkn.2.2.1 0 _ rfl) (.inr E.synI)).mono ?_
    rintro e w' ⟨N, rfl, _, _, hb⟩
    refine ⟨_, rfl, hb, .tup rfl fun j v u hv hu => ?_⟩
    match j, hv, hu with
    | 0, hv, hu => cases hv; cases hu; exact .int
    | 1, hv, hu => cases hv; cases hu; exact .ifc .junk
  ·
    refine ⟨Lib.atoiSat s, .ifc 84 .junk, .inr ⟨⟨_, rfl⟩, by rw [atI, h]⟩, fun H => ACL.kit fun S w cargs hk hH hv => ?_⟩
    obtain ⟨u, rfl, h2⟩ := vrs_1 hv
    cases h2
    have hkn : Kn (KR E) S w := hk (KT + 3, KR E) (by simp [KS])
    refine (Tryd.strconv_Atoi_range (bs s) (by rw [bs_size]; omega) (by rw [bs_data]; exact h) E.rng w (hkn.2.2.1 0 _ rfl) (.inr E.rngI)).mono ?_
    rintro e w' ⟨N, rfl, _, _, hb⟩
    refine ⟨_, rfl, hb, .tup rfl fun j v u hv hu => ?_⟩
    match j, hv, hu with
    | 0, hv, hu => cases hv; cases hu; rw [bs_data]; exact .int
    | 1, hv, hu => cases hv; cases hu; exact .ifc .junk
end Go.Av

/-
  APPEND ONTO A SLICE THAT DOES NOT BEGIN AT ITS ROW's HEAD (a queue): in place, or into a new row. AND where many ways meet.
-/
namespace Go.Av
section
variable {P : Program} {N : Nat} {B : Base} {Q : Post} {env : Env} {H H0 L : Heap} {ty : TypeId} {ops : Array Oper} {rest : List Oper}
theorem o_appendO {t t' e : TypeId} {x y : Operand} {id off len cap sz bytes : Nat} {agg : Bool} {zs : List AV} {o : AObj} {ys : List (List AV)} [hu : SlI P t e] [NiI P t'] [TyI P e agg sz] [hz : ZcI P e zs] [ByI P e bytes] (hn : zs.length = sz)
    (hx : aev env x = .sl id o.gen off len cap) (hid : H[id]? = some o) (hsz : o.sz = sz) (hlen : off + len ≤ o.rows.length) (hy : Src P N env H y sz ys) (h63 : len + ys.length ≤ 9223372036854775807) (hb : (len + ys.length) * bytes ≤ 140737488355328) (hne : 0 < ys.length) (dst : Option Nat) (pos : String) (after : Array Edge) (guard : Option (Nat × Bool)) :
    AOp P N ⟨dst, .call { callee := .builtin .append, args := #[x, y], argTypes := #[t, t'] }, ty, pos, after, guard⟩ env H
      (fun v H' => ∃ js, (js = o.rows.take off ∨ js = []) ∧ v = .sl id (o.gen + 1) js.length (len + ys.length) (len + ys.length) ∧ H' = H.set id ⟨o.gen + 1, o.sz, js ++ (o.rows.drop off).take len ++ ys⟩) (fun _ _ => False) := by
  intro S a w hc next Q hnext _
  obtain ⟨news, hs⟩ := hy S a w hc
  obtain ⟨s, c, hsl, ok, hcc, hlc, h⟩ := hc.slc hx hid
  have hlt : id < S.length := (List.getElem?_eq_some_iff.1 hsl).1
  have hgen : s.gen = o.gen := ok.gen.symm
  have hssz : s.sz = sz := by rw [← ok.sz]; exact hsz
  have hnl := hs.cells.1
  rw [flat_length hs.wide] at hnl
  generalize hms : (o.rows.drop off).take len = ms
  have hml : ms.length = len := by rw [← hms, List.length_take, List.length_drop]; omega
  have hmg : ∀ i r, ms[i]? = some r → o.rows[off + i]? = some r := by
    intro i r hr
    rw [← hms, List.getElem?_take] at hr
    split at hr
    · rwa [List.getElem?_drop] at hr
    · cases hr
  -- what grows into a new block
  have grown : ∀ (ad : Option Addr) (olds : Array Value), a.eval x = .slice ad len c → c < len + ys.length → (∀ w', w'.heap = w.heap → (Builtin.firstCells sz len (.slice ad len c)).run P w' = .ok olds w') →
      CellsR S w ms.flatten olds → (∀ r ∈ ms, r.length = sz) → Oper.wp P ⟨dst, .call { callee := .builtin .append, args := #[x, y], argTypes := #[t, t'] }, ty, pos, after, guard⟩ a w next Q := by
    intro ad olds he hroom hold hco hwo
    obtain ⟨cap', rest, h1, h2, hr⟩ := run_append_out (P := P) (t := t) (t' := t') (e := e) (ty := ty) (sz := sz) (bytes := bytes) (agg := agg) (zs := zs) hs hold hroom h63 hb
    have hm := Made.drew_alloc w (olds ++ news ++ rest) e
    have hwide : ∀ r ∈ ms ++ ys, r.length = sz := by
      intro r hr
      rcases List.mem_append.1 hr with h | h
      · exact hwo r h
      · exact hs.wide r h
    have hrow0 : RowOK (own S) S w sz (olds ++ news ++ rest) (ms ++ ys) := RowOK.of_cells hwide (by rw [List.flatten_append]; exact hco.append hs.cells)
    have hx' : Ext S w (S.set id ⟨s.gen + 1, s.sz, some w.heap.size⟩) (w.drew.alloc (.cells (olds ++ news ++ rest) e)) := by
      refine ⟨hm.os, hm.tape, hm.output, ⟨by rw [hm.size]; omega, fun b hb' ho => ⟨fun k => ?_, hm.old b hb'⟩, fun b arr ty hb' => ⟨arr, by rw [hm.old b (Array.getElem?_eq_some_iff.1 hb').1]; exact hb', rfl⟩⟩, SExt.bump hsl (by simp)⟩
      obtain ⟨i, si, hi, hpi⟩ := k
      by_cases e1 : id = i
      · subst e1
        rw [List.getElem?_set_self hlt] at hi
        obtain rfl := Option.some.inj hi
        simp at hpi
        omega
      · rw [List.getElem?_set_ne e1] at hi
        exact ho ⟨i, si, hi, hpi⟩
    have hh := hc.heap.move (rows' := ms ++ ys) hid hsl hx' (fun j sj hj hpj => by
        have := own_lt hc.heap ⟨j, sj, hj, hpj⟩
        omega) (fun j sj b' hj _ hpj => hm.old b' (own_lt hc.heap ⟨j, sj, hj, hpj⟩)) hm.new (by rw [hsz]; exact hrow0.mono hx'.stp hx'.slots)
    have hrun : (execOp a.eval ⟨dst, .call { callee := .builtin .append, args := #[x, y], argTypes := #[t, t'] }, ty, pos, after, guard⟩).run P w = .ok (.value (.slice (some ⟨w.heap.size, 0, none⟩) (len + ys.length) cap')) (w.drew.alloc (.cells (olds ++ news ++ rest) e)) := by
      simp [execOp, resolve, invoke, builtin, he, hr]
    unfold Oper.wp
    rw [hrun]
    refine hnext _ _ _ _ _ ⟨[], .inr rfl, rfl, by rw [List.nil_append, hms]⟩ hh hx' ?_
    refine .sl ⟨s.gen + 1, s.sz, some w.heap.size⟩ (List.getElem?_set_self hlt) (by simp [hgen]) rfl fun _ => ⟨cap', by omega, h1, .inr ⟨w.heap.size, _, _, rfl, by simp, hm.new, ?_⟩⟩
    have hol := hco.1
    rw [flat_length hwo] at hol
    simp only [Array.size_append, ← hnl, ← hol, h2, hn, hml, ← Nat.add_mul, Nat.zero_add, List.length_nil]
    rw [hssz]
    exact Nat.mul_le_mul_right _ (by omega)
  rcases h with ⟨h0, ad, he⟩ | ⟨b, arr, et, hp, he, hbl, hfit, hrow⟩
  · have el : len = 0 := by omega
    subst el
    subst h0
    have : ms = [] := List.eq_nil_of_length_eq_zero hml
    subst this
    refine grown ad #[] he (by omega) (fun w' _ => ?_) ⟨by simp, fun _ _ h => by simp at h⟩ (by simp)
    cases ad with
    | none => rfl
    | some ad => simp [Builtin.firstCells, loadCells, loadCellsFrom]
  · have hwa : ∀ r ∈ o.rows, r.length = sz := by
      intro r hr
      obtain ⟨i, hi⟩ := List.mem_iff_getElem?.1 hr
      rw [← hsz]
      exact (hrow.2 i r hi).1
    have hwo : ∀ r ∈ ms, r.length = sz := by
      intro r hr
      obtain ⟨i, hi⟩ := List.mem_iff_getElem?.1 hr
      exact hwa r (List.mem_of_getElem? (hmg i r hi))
    by_cases hroom : len + ys.length ≤ c
    · -- in place
      have hr := run_append_in (P := P) (t := t) (t' := t') (e := e) (ty := ty) (agg := agg) hs (base := some ⟨b, off * o.sz, none⟩) hroom
      generalize hM : off + len = M at hlen
      have hpo : off * o.sz + len * sz = M * sz := by rw [hsz, ← Nat.add_mul, hM]
      have hfit2 : M * sz + news.size ≤ arr.size := by
        rw [← hnl, ← Nat.add_mul]
        rw [hsz] at hfit
        exact Nat.le_trans (Nat.mul_le_mul_right _ (by omega)) hfit
      have hst := run_storeCells_at P b (M * sz) et news.toList 0 arr w hbl (by simpa using hfit2) hs.one
      simp only [Nat.add_zero, Array.length_toList] at hst
      have hsize : (arr.toList.take (M * sz) ++ news.toList ++ arr.toList.drop (M * sz + news.size)).toArray.size = arr.size := by
        simp
        omega
      have ho : own S b := ⟨id, s, hsl, hp⟩
      have hx' : Ext S w (S.set id ⟨s.gen + 1, s.sz, some b⟩) (w.setRow b (arr.toList.take (M * sz) ++ news.toList ++ arr.toList.drop (M * sz + news.size)).toArray) := by
        refine .of_row ho rfl rfl rfl (by simp) (fun k _ hk => setRow_other w b k _ hk) (fun a' t'' h' => ?_) (fun k hk hno k' => ?_) (SExt.bump hsl (by simp))
        · rw [hbl] at h'
          injection h' with h'
          injection h' with h1 h2
          subst h1; subst h2
          exact ⟨_, setRow_heap w b arr _ et (0, 0) hbl, hsize⟩
        · obtain ⟨i, si, hi, hpi⟩ := k'
          by_cases e1 : id = i
          · subst e1
            rw [List.getElem?_set_self hlt] at hi
            obtain rfl := Option.some.inj hi
            simp at hpi
            subst hpi
            exact hno ho
          · rw [List.getElem?_set_ne e1] at hi
            exact hno ⟨i, si, hi, hpi⟩
      have hsplit : o.rows.take M = o.rows.take off ++ ms := by rw [← hM, ← hms, List.take_add]
      have hwt : ∀ r ∈ o.rows.take M, r.length = sz := fun r hr => hwa r (List.mem_of_mem_take hr)
      have hwide : ∀ r ∈ o.rows.take M ++ ys, r.length = sz := by
        intro r hr
        rcases List.mem_append.1 hr with h | h
        · exact hwt r h
        · exact hs.wide r h
      have hrow' : RowOK (own S) S w sz (arr.toList.take (M * sz) ++ news.toList ++ arr.toList.drop (M * sz + news.size)).toArray (o.rows.take M ++ ys) := by
        have e1 : (arr.toList.take (M * sz) ++ news.toList ++ arr.toList.drop (M * sz + news.size)).toArray = (arr.toList.take (M * sz)).toArray ++ news ++ (arr.toList.drop (M * sz + news.size)).toArray := by
          simp
        rw [e1]
        refine RowOK.of_cells hwide ?_
        rw [List.flatten_append]
        refine CellsR.append ?_ hs.cells
        have hl2 : (o.rows.take M).flatten.length = M * sz := by rw [flat_length hwt, List.length_take, Nat.min_eq_left hlen]
        have hle : M * sz ≤ arr.size := by omega
        refine ⟨by rw [hl2]; simp; omega, fun k v hk => ?_⟩
        have hklt : k < M * sz := by rw [← hl2]; exact (List.getElem?_eq_some_iff.1 hk).1
        have hpos : 0 < sz := by rcases Nat.eq_zero_or_pos sz with e | e; · subst e; simp at hklt
                                 · exact e
        have hi : k / sz < (o.rows.take M).length := by rw [List.length_take, Nat.min_eq_left hlen]; exact (Nat.div_lt_iff_lt_mul hpos).2 hklt
        have hj : k % sz < sz := Nat.mod_lt _ hpos
        have hk' : k / sz * sz + k % sz = k := Nat.div_add_mod' k sz
        have h3 := flat_get hwt (List.getElem?_eq_getElem hi) hj
        rw [hk', hk] at h3
        have h4 : o.rows[k / sz]? = some (o.rows.take M)[k / sz] := by
          have := List.getElem?_eq_getElem hi
          rw [List.getElem?_take] at this
          split at this
          · exact this
          · cases this
        obtain ⟨k1, u, k2, k3⟩ := (hrow.2 _ _ h4).2 _ v h3.symm
        rw [hsz, hk'] at k2
        exact ⟨k1, u, by simp [hklt, k2], k3⟩
      have hh := hc.heap.move (rows' := o.rows.take M ++ ys) hid hsl hx' (fun j sj hj hpj => hc.heap.inj j id sj s b hj hsl hpj hp) (fun j sj b' hj hne' hpj => setRow_other w b b' _ (fun e => hne' (hc.heap.inj j id sj s b hj hsl (e ▸ hpj) hp)))
        (setRow_heap w b arr _ et (0, 0) hbl) (by rw [hsz]; exact hrow'.mono hx'.stp hx'.slots)
      have hrun : (execOp a.eval ⟨dst, .call { callee := .builtin .append, args := #[x, y], argTypes := #[t, t'] }, ty, pos, after, guard⟩).run P w = .ok (.value (.slice (some ⟨b, off * o.sz, none⟩) (len + ys.length) c)) (w.setRow b (arr.toList.take (M * sz) ++ news.toList ++ arr.toList.drop (M * sz + news.size)).toArray) := by
        simp only [add_none, hpo, hst] at hr
        simp [execOp, resolve, invoke, builtin, he, hr]
      unfold Oper.wp
      rw [hrun]
      have hol : (o.rows.take off).length = off := by rw [List.length_take]; omega
      refine hnext _ _ _ _ _ ⟨o.rows.take off, .inl rfl, rfl, by rw [hms, ← hsplit]⟩ hh hx' ?_
      refine .sl ⟨s.gen + 1, s.sz, some b⟩ (List.getElem?_set_self hlt) (by simp [hgen]) rfl fun _ => ⟨c, by omega, by omega, .inr ⟨b, _, _, rfl, by simp [hol, hssz, hsz], setRow_heap w b arr _ et (0, 0) hbl, ?_⟩⟩
      rw [hsize, hssz, hol, ← hsz]
      exact hfit
    · -- into a new block
      have hcell : ∀ k, k < len * sz → w.cell? ((⟨b, off * o.sz, none⟩ : Addr).add k) = some ((fun k => arr.getD (off * sz + k) undef) k) := by
        intro k hk
        have : off * sz + k < arr.size := by
          have h1 : (off + len) * o.sz ≤ (off + c) * o.sz := Nat.mul_le_mul_right _ (by omega)
          rw [hsz, Nat.add_mul] at h1
          rw [hsz] at hfit
          omega
        rw [add_none, cell_of_row w b _ arr _ _ hbl, hsz]
        simp [this]
      have hco : CellsR S w ms.flatten ((List.range (ms.length * sz)).map fun k => arr.getD (off * sz + k) undef).toArray := flat_cells hwo fun i r hr j v hv' => by
        obtain ⟨h1, u, h2, h3⟩ := (hrow.2 _ r (hmg i r hr)).2 j v hv'
        refine ⟨h1, ?_⟩
        rw [hsz] at h2
        have e : arr.getD (off * sz + (i * sz + j)) undef = u := by rw [← Nat.add_assoc, ← Nat.add_mul]; simp [h2]
        rw [e]
        exact h3
      rw [hml] at hco
      exact grown (some ⟨b, off * o.sz, none⟩) _ he (by omega) (fun w' hw' => first_cells hcell w' hw') hco hwo
/-- As a walk uses it. -/
theorem ao_appO {t t' e : TypeId} {x y : Operand} {n k g off len cap sz bytes d : Nat} {agg : Bool} {zs : List AV} {o : AObj} {ys : List (List AV)} {pos : String} {after : Array Edge} [hu : SlI P t e] [NiI P t'] [TyI P e agg sz] [hz : ZcI P e zs] [ByI P e bytes]
    (hd : d < N) (hx : aev env x = .sl (Lid n k) g off len cap) (hn : H0.length = n) (hk : L[k]? = some o) (hg : o.gen = g) (hsz : o.sz = sz) (hy : Src P N env (H0 ++ L) y sz ys) (hz' : zs.length = sz) (hlen : off + len ≤ o.rows.length) (hne : 0 < ys.length) (h63 : len + ys.length ≤ 9223372036854775807) (hb : (len + ys.length) * bytes ≤ 140737488355328)
    (h : ∀ js, (js = o.rows.take off ∨ js = []) → AOps P N B ops rest Q ((d, .sl (Lid n k) (g + 1) js.length (len + ys.length) (len + ys.length)) :: env) (H0 ++ L.set k ⟨g + 1, o.sz, js ++ (o.rows.drop off).take len ++ ys⟩)) :
    AOps P N B ops (⟨some d, .call { callee := .builtin .append, args := #[x, y], argTypes := #[t, t'] }, ty, pos, after, none⟩ :: rest) Q env (H0 ++ L) := by
  subst hg
  refine ao_cons rfl (by rintro _ ⟨⟩; exact hd) (o_appendO (agg := agg) (e := e) (zs := zs) (bytes := bytes) hz' hx (lk hn hk) hsz hlen hy h63 hb hne _ _ _ _) ?_ (fun _ _ h => h.elim)
  rintro _ _ ⟨js, hjs, rfl, rfl⟩
  rw [st hn]
  exact h js hjs
end

/-! #### where many ways meet -/
def JoinG (B : Base) {G : Type} (I : G → Prop) (E : G → Env) (M : G → Heap) (Q : Post) : Post
  | .nrm, e, H => ∃ g, I g ∧ Sub (E g) e ∧ Fit B (E g) H (M g)
  | x, e, H => Q x e H
section
variable {P : Program} {N : Nat} {B : Base} {Q : Post} {env : Env} {H : Heap}
theorem aw_joinG {x : Code} {G : Type} (I : G → Prop) (E : G → Env) (M : G → Heap) (h : AWp P N B x (JoinG B I E M Q) env H) (k : ∀ g, I g → Q .nrm (E g) (M g)) : AWp P N B x Q env H := by
  intro S a w hc hb
  refine wp_mono (h S a w hc hb) ?_
  rintro e a' w' ⟨ax, env', H', S', hj, r, c', k'⟩
  cases ax with
  | nrm =>
    cases r
    obtain ⟨g, hi, hs, hf⟩ := hj
    obtain ⟨S2, c2, k2⟩ := (c'.sub hs).fit k' hf
    exact ⟨.nrm, E g, M g, S2, k g hi, .nrm, c2, k2⟩
  | brk i => exact ⟨_, env', H', S', hj, r, c', k'⟩
  | ret => exact ⟨_, env', H', S', hj, r, c', k'⟩
  | pan v => exact ⟨_, env', H', S', hj, r, c', k'⟩
theorem joinG_nrm {G : Type} {I : G → Prop} {E : G → Env} {M : G → Heap} (g : G) (hi : I g) (h1 : Sub (E g) env) (h2 : Fit B (E g) H (M g)) : JoinG B I E M Q .nrm env H := ⟨g, hi, h1, h2⟩
theorem joinG_ret {G : Type} {I : G → Prop} {E : G → Env} {M : G → Heap} (h : Q .ret env H) : JoinG B I E M Q .ret env H := h
theorem joinG_brk {G : Type} {I : G → Prop} {E : G → Env} {M : G → Heap} {i : Nat} (h : Q (.brk i) env H) : JoinG B I E M Q (.brk i) env H := h
end
end Go.Av

/-
  TEXTS AS LISTS OF BYTES: pieces, places, lengths, joining.
-/
namespace Go.Av
section
variable {P : Program} {N : Nat} {env : Env} {H : Heap} {ty : TypeId}
theorem o_cutStr {t : TypeId} {x : Operand} {lo hi : Option Operand} {s q : List UInt8} {l h : Nat} [UdI P t .string] (hx : aev env x = .str (bs s)) (hl : Bd env lo 0 l) (hh : Bd env hi s.length h) (h1 : l ≤ h) (h2 : h ≤ s.length) (hq : (s.take h).drop l = q) :
    V1 P N (.slice t x lo hi Option.none) ty env H (.str (bs q)) := by
  have := o_sliceStr (P := P) (N := N) (H := H) (ty := ty) (t := t) (l := l) (h := h) hx hl (by rw [bs_size]; exact hh) h1 (by rw [bs_size]; exact h2)
  rwa [bs_cut, hq] at this
theorem o_lenBs {x : Operand} {t : TypeId} {s : List UInt8} [UdI P t .string] (hx : aev env x = .str (bs s)) : V1 P N (.call { callee := .builtin .len, args := #[x], argTypes := #[t] }) ty env H (.int .i64 (s.length : Int)) := by
  have := o_lenStr (P := P) (N := N) (H := H) (ty := ty) (t := t) hx
  rwa [bs_size] at this
theorem o_indexBs {t : TypeId} {x y : Operand} {k : IntKind} {n : Nat} {s : List UInt8} {c : UInt8} [UdI P t .string] (hx : aev env x = .str (bs s)) (hy : aev env y = .int k (n : Int)) (hv : s[n]? = some c) : V1 P N (.index t x y) ty env H (.int .u8 (c.toNat : Int)) :=
  o_indexStr hx hy (by omega) (by rw [Int.toNat_natCast, bs_get]; exact hv)
theorem o_catBs {x y : Operand} {t t' : TypeId} {p q : List UInt8} (hx : aev env x = .str (bs p)) (hy : aev env y = .str (bs q)) (hn : p.length + q.length ≤ 1000000000) : V1 P N (.binOp .add t x y t') ty env H (.str (bs (p ++ q))) := by
  have := o_cat (P := P) (N := N) (H := H) (ty := ty) (t := t) (t' := t') hx hy (by rw [bs_size, bs_size]; omega)
  rwa [bs_app] at this
theorem o_eqBs {x y : Operand} {t t' : TypeId} {p q : List UInt8} (hx : aev env x = .str (bs p)) (hy : aev env y = .str (bs q)) : V1 P N (.binOp .eql t x y t') ty env H (.bool (decide (p = q))) := by
  have := o_seqd (P := P) (N := N) (H := H) (ty := ty) (t := t) (t' := t') hx hy
  rwa [show decide (bs p = bs q) = decide (p = q) from decide_eq_decide.2 bs_inj] at this
theorem o_neBs {x y : Operand} {t t' : TypeId} {p q : List UInt8} (hx : aev env x = .str (bs p)) (hy : aev env y = .str (bs q)) : V1 P N (.binOp .neq t x y t') ty env H (.bool (!decide (p = q))) := by
  have := o_sned (P := P) (N := N) (H := H) (ty := ty) (t := t) (t' := t') hx hy
  rwa [show decide (bs p = bs q) = decide (p = q) from decide_eq_decide.2 bs_inj] at this
end
end Go.Av

namespace Go.Av
open Go.Proofs Go.RowKit
set_option maxRecDepth 10000
set_option linter.unusedSimpArgs false
set_option linter.unusedVariables false

def behind (s : List UInt8) : List UInt8 := if s.contains 45 then (s.dropWhile (· != 45)).tail else []
theorem lib_Cut1 (s : List UInt8) (hs : s.length ≤ 1000000) (H : Heap) : AC Tryd.prog 49 [.str (bs s), .str (bs [45])] H (Ret (.tup [.str (bs (firstOf s)), .str (bs (behind s)), .bool (s.contains 45)]) H) := by
  by_cases h : (45 : UInt8) ∈ s
  · have hlt := at_lt h
    have ht := take_at (c := 45) (l := s)
    have hd := drop_tail (c := 45) (l := s)
    have hc0 : s.contains 45 = true := by simpa using h
    rw [behind, hc0, if_pos rfl, firstOf]
    refine AC.body (N := 23) [.tmp 4, .tmp 5, .tmp 6] Tryd.func49 rfl rfl rfl (Nat.le_of_ble_eq_true rfl) fun B hB => ?_
    refine Z4x ?_
    refine Z4w ?_
    refine Zi ?_
    refine Z4y ?_
    refine Z4y ?_
    refine Z4z ?_
    refine Z50 ?_
    rw [index_at h]
    refine Ze ?_
    refine Z51 ?_
    refine Zb ?_
    refine aw_cond rfl (fun hc => ?_) (fun hc => ?_)
    · refine Z1 ?_
      refine Z2w ?_
      refine Z16 ?_
      refine aq0 0 rfl (by decide +kernel) (by decide) (fun _ => o_move (v := .str _) rfl) ?_
      refine Z2y ?_
      refine aq0 2 rfl (by decide +kernel) (by decide) (fun _ => o_cutStr (q := s.takeWhile (· != 45)) rfl Bd.none (Bd.some rfl rfl) (Nat.zero_le _) (by omega) (by rw [List.drop_zero]; exact ht)) ?_
      refine aq0 3 rfl (by decide +kernel) (by decide) (fun _ => o_move (v := .str _) rfl) ?_
      refine Z18 ?_
      refine aq0 5 rfl (by decide +kernel) (by decide) (fun _ => o_move (v := .str _) rfl) ?_
      refine aq0 6 rfl (by decide +kernel) (by decide) (fun _ => o_lenBs rfl) ?_
      refine aq0 7 rfl (by decide +kernel) (by decide) (fun _ => o_add (r := (((s.takeWhile (· != 45)).length + 1 : Nat) : Int)) rfl rfl (by rw [show ((s.takeWhile (· != 45)).length : Int) + (([45] : List UInt8).length : Int) = (((s.takeWhile (· != 45)).length + 1 : Nat) : Int) by simp]; exact wrap64_ok (by omega) (by omega))) ?_
      refine aq0 8 rfl (by decide +kernel) (by decide) (fun _ => o_cutStr (q := (s.dropWhile (· != 45)).tail) rfl (Bd.some rfl rfl) Bd.none (by omega) (Nat.le_refl _) (by rw [List.take_length]; exact hd)) ?_
      refine aq0 9 rfl (by decide +kernel) (by decide) (fun _ => o_assign (v := .str _) rfl) ?_
      refine aq0 10 rfl (by decide +kernel) (by decide) (fun _ => o_assign (v := .str _) rfl) ?_
      refine Z21 ?_
      refine Z19 ?_
      refine Z1 ?_
      exact Z52
    · simp at hc
  · have hc0 : s.contains 45 = false := by simpa using h
    rw [behind, hc0, if_neg (by simp), show firstOf s = s from takeWhile_no h]
    refine AC.body (N := 23) [.tmp 4, .tmp 5, .tmp 6] Tryd.func49 rfl rfl rfl (Nat.le_of_ble_eq_true rfl) fun B hB => ?_
    refine Z4x ?_
    refine Z4w ?_
    refine Zi ?_
    refine Z4y ?_
    refine Z4y ?_
    refine Z4z ?_
    refine Z50 ?_
    rw [index_no h]
    refine Ze ?_
    refine Z51 ?_
    refine Zb ?_
    refine aw_cond rfl (fun hc => ?_) (fun hc => ?_)
    · simp at hc
    · refine Z53 ?_
      refine Z4w ?_
      refine Z4w ?_
      refine Z14 ?_
      exact Z52
theorem lib_Cut (s : List UInt8) (hs : s.length ≤ 1000000) (H : Heap) : AC Tryd.prog 39 [.str (bs s), .str (bs [45])] H (Ret (.tup [.str (bs (firstOf s)), .str (bs (behind s)), .bool (s.contains 45)]) H) := by
  refine AC.body (N := 13) [.tmp 4, .tmp 5, .tmp 6] Tryd.func39 rfl rfl rfl (Nat.le_of_ble_eq_true rfl) fun B hB => ?_
  refine Z4x ?_
  refine Z4w ?_
  refine Zi ?_
  refine Z4y ?_
  refine Z4y ?_
  refine ao_ret (lib_Cut1 _ (by assumption) _) rfl (by decide) ?_
  refine Z54 ?_
  refine Z54 ?_
  refine Z1h ?_
  refine Z4w ?_
  refine Z4w ?_
  refine Z14 ?_
  exact Z52
abbrev eS (s : List UInt8) : List AV := [.str (bs s)]
theorem eS_bel (n : Nat) (l : List (List UInt8)) : ∀ r ∈ l.map eS, AV.bels n r = true := rows_bel (e := eS) (fun _ => rfl) l
theorem eS_len (l : List (List UInt8)) : ∀ r ∈ l.map eS, r.length = 1 := rows_len (e := eS) (n := 1) (fun _ => rfl) l
/-- Pieces so far, and what is left. -/
structure GSp where
  ps : List (List UInt8)
  r : List UInt8
set_option maxHeartbeats 0 in
theorem lib_genSplit (s : List UInt8) (hs : s.length ≤ 100000) (H : Heap) : AC Tryd.prog 38 [.str (bs s), .str (bs [44]), .int .i64 0, .int .i64 (-1)] H (Ret (.pl ((splitc s).map eS)) H) := by
  have hcl := count_le s
  have c1 := fun H => lib_Count s 44 H
  generalize hcn : Lib.countByte s 44 = c at hcl c1
  refine AC.body (N := 66) [.tmp 8] Tryd.func38 rfl rfl rfl (Nat.le_of_ble_eq_true rfl) fun B hB => ?_
  refine Z2k ?_
  refine Z8 ?_
  refine Za ?_
  refine Zb ?_
  refine aw_cond rfl (fun hc => ?_) (fun hc => ?_)
  · simp at hc
  refine Z53 ?_
  refine Z55 ?_
  refine Zb ?_
  refine aw_cond rfl (fun hc => ?_) (fun hc => ?_)
  · simp at hc
  refine Ze ?_
  refine Zp ?_
  refine aw_cond rfl (fun hc => ?_) (fun hc => ?_)
  · refine Z53 ?_
    refine Z4y ?_
    refine ao2 (by rintro _ ⟨⟩; decide) (V2.call (c1 _) rfl) ?_
    refine ao1 (by decide) (o_add (r := ((c + 1 : Nat) : Int)) rfl rfl (by rw [show (c : Int) + 1 = ((c + 1 : Nat) : Int) by omega]; exact wrap64_ok (by omega) (by omega))) ?_
    refine Z9 ?_
    refine Z57 ?_
    refine Z1a ?_
    refine ao1 (by decide) (o_min (r := ((c + 1 : Nat) : Int)) rfl rfl (by omega)) ?_
    refine Z9 ?_
    refine ao2 (by rintro _ ⟨⟩; decide) (o_makeSliceL (n := c + 1) (c := c + 1) (bytes := 16) rfl (by decide) rfl rfl (Nat.le_refl _) (by omega) (by omega) rfl) ?_
    refine Z2c ?_
    refine Z8 ?_
    refine ao1 (by decide) (o_sub (r := (c : Int)) rfl rfl (by rw [show ((c + 1 : Nat) : Int) - 1 = (c : Int) by omega]; exact wrap64_ok (by omega) (by omega))) ?_
    refine Z3 ?_
    refine Z6 ?_
    refine Z2e ?_
    refine aw_loop (G := GSp) (fun g => splitc s = g.ps ++ splitc g.r ∧ g.ps.length + Lib.countByte g.r 44 = c ∧ g.r.length ≤ s.length) (fun g => [(0, .str (bs g.r)), (1, .str (bs [44])), (2, .int .i64 0), (3, .int .i64 (c : Int)), (9, .sl (Lid H.length 0) 0 0 (c + 1) (c + 1)), (10, .int .i64 (g.ps.length : Int))]) (fun g => H ++ [⟨0, 1, g.ps.map eS ++ List.replicate (c + 1 - g.ps.length) [.str ByteArray.empty]⟩]) (fun g => c - g.ps.length) ⟨[], s⟩ ⟨rfl, by simpa using hcn, Nat.le_refl _⟩ (by repeat (first | exact Sub.nil | refine Sub.cons (by first | rfl | (simp [get]; done)) ?_)) (.inl rfl) ?_
    rintro ⟨ps, r⟩ ⟨i1, i2, i3⟩
    simp only at i1 i2 i3 ⊢
    refine Zf ?_
    refine Zp ?_
    refine aw_cond rfl (fun hc => ?_) (fun hc => ?_)
    · have hlt : ps.length < c := by simpa using hc
      have hm : (44 : UInt8) ∈ r := count_mem.1 (by omega)
      have hat := at_lt hm
      have ht := take_at (c := 44) (l := r)
      have hd := drop_tail (c := 44) (l := r)
      have hsp := splitc_hit hm
      have hcnt := count_hit hm
      have hdl := dropWhile_len (c := 44) r
      have hrow : (ps.map eS ++ List.replicate (c + 1 - ps.length) [AV.str ByteArray.empty])[0 + ps.length]? = some [.str ByteArray.empty] := by
        rw [Nat.zero_add, List.getElem?_append_right (by simp), List.length_map, Nat.sub_self, List.getElem?_replicate, if_pos (by omega)]
      refine Z53 ?_
      refine Z4y ?_
      refine ao2 (by rintro _ ⟨⟩; decide) (V2.call (lib_Index r 44 _) rfl) ?_
      refine Z50 ?_
      rw [index_at hm]
      refine Ze ?_
      refine Zp ?_
      refine aw_cond rfl (fun hc => ?_) (fun hc => ?_)
      · simp at hc; omega
      refine Z2h ?_
      refine Z4y ?_
      refine Z7 ?_
      refine Z7 ?_
      refine ao1 (by decide) (o_add (r := ((r.takeWhile (· != 44)).length : Int)) rfl rfl (by rw [Int.add_zero]; exact wrap64_ok (by omega) (by omega))) ?_
      refine ao1 (by decide) (o_cutStr (q := r.takeWhile (· != 44)) rfl Bd.none (Bd.some rfl rfl) (Nat.zero_le _) (by omega) (by rw [List.drop_zero]; exact ht)) ?_
      refine Z58 ?_
      refine ao2 (by rintro _ ⟨⟩) (w_storeP (sz := 1) (v := .str _) (r' := eS (r.takeWhile (· != 44))) rfl rfl rfl rfl hrow rfl rfl rfl (by show _ ≤ 1; omega) rfl) ?_
      refine Z59 ?_
      refine Z7 ?_
      refine Z57 ?_
      refine ao1 (by decide) (o_add (r := (((r.takeWhile (· != 44)).length + 1 : Nat) : Int)) rfl rfl (by rw [show ((r.takeWhile (· != 44)).length : Int) + (([44] : List UInt8).length : Int) = (((r.takeWhile (· != 44)).length + 1 : Nat) : Int) by simp]; exact wrap64_ok (by omega) (by omega))) ?_
      refine ao1 (by decide) (o_cutStr (q := (r.dropWhile (· != 44)).tail) rfl (Bd.some rfl rfl) Bd.none (by omega) (Nat.le_refl _) (by rw [List.take_length]; exact hd)) ?_
      refine Z4w ?_
      refine Z8 ?_
      refine ao1 (by decide) (o_add (r := ((ps.length + 1 : Nat) : Int)) rfl rfl (by rw [show (ps.length : Int) + 1 = ((ps.length + 1 : Nat) : Int) by omega]; exact wrap64_ok (by omega) (by omega))) ?_
      refine Zc ?_
      refine ⟨⟨ps ++ [r.takeWhile (· != 44)], (r.dropWhile (· != 44)).tail⟩, by simp only [List.length_append, List.length_cons, List.length_nil]; omega, ⟨by simp only; rw [i1, hsp]; simp, by simp only [List.length_append, List.length_cons, List.length_nil]; omega, by simp only; omega⟩, by simp only [List.length_append, List.length_cons, List.length_nil]; exact (by repeat (first | exact Sub.nil | refine Sub.cons (by first | rfl | (simp [get]; done)) ?_)), .inl ?_⟩
      simp only [List.length_append, List.length_cons, List.length_nil, List.map_append, List.map_cons, List.map_nil, Nat.zero_add]
      rw [List.set_append_right _ _ (by simp), List.length_map, Nat.sub_self, show c + 1 - ps.length = (c + 1 - (ps.length + 1)) + 1 by omega, List.replicate_succ]
      simp
    · have hpl : ps.length = c := by simp at hc; omega
      have hno : (44 : UInt8) ∉ r := fun h => by have := count_mem.2 h; omega
      have hrow : (ps.map eS ++ List.replicate (c + 1 - ps.length) [AV.str ByteArray.empty])[0 + ps.length]? = some [.str ByteArray.empty] := by
        rw [Nat.zero_add, List.getElem?_append_right (by simp), List.length_map, Nat.sub_self, List.getElem?_replicate, if_pos (by omega)]
      have hfin : (ps.map eS ++ List.replicate (c + 1 - ps.length) [AV.str ByteArray.empty]).set (0 + ps.length) (eS r) = (splitc s).map eS := by
        rw [i1, splitc_no r hno, Nat.zero_add, List.set_append_right _ _ (by simp), List.length_map, Nat.sub_self, show c + 1 - ps.length = 0 + 1 by omega, List.replicate_succ]
        simp
      have hlen : ((splitc s).map eS).length = c + 1 := by rw [i1, splitc_no r hno]; simp; omega
      refine Z2h ?_
      refine Z4y ?_
      refine Z58 ?_
      refine ao2 (by rintro _ ⟨⟩) (w_storeP (sz := 1) (v := .str _) (r' := eS r) rfl rfl rfl rfl hrow rfl rfl rfl (by show _ ≤ 1; omega) rfl) ?_
      refine Z5 ?_
      rw [hfin]
      refine Z2h ?_
      refine ao1 (by decide) (o_add (r := ((c + 1 : Nat) : Int)) rfl rfl (by rw [hpl, show (c : Int) + 1 = ((c + 1 : Nat) : Int) by omega]; exact wrap64_ok (by omega) (by omega))) ?_
      refine ao1 (by decide) (w_slices (l := 0) (h := c + 1) rfl (lk rfl rfl) rfl rfl Bd.none (Bd.some rfl rfl) (Nat.zero_le _) (by omega)) ?_
      refine Z2c ?_
      refine Zn ?_
      refine aw_freezeL (ys := (splitc s).map eS) 8 rfl rfl rfl rfl (by rw [List.drop_zero, List.take_of_length_le (by rw [hlen]; omega)]) (by rw [hlen]; omega) (eS_bel 0 _) ?_
      refine aw_ret ?_
      exact Zd
  · simp at hc
theorem lib_Split (s : List UInt8) (hs : s.length ≤ 100000) (H : Heap) : AC Tryd.prog 25 [.str (bs s), .str (bs [44])] H (Ret (.pl ((splitc s).map eS)) H) := by
  refine AC.body (N := 8) [.tmp 4] Tryd.func25 rfl rfl rfl (Nat.le_of_ble_eq_true rfl) fun B hB => ?_
  refine Z2k ?_
  refine Z59 ?_
  refine Z4y ?_
  refine ao_ret (lib_genSplit _ (by assumption) _) rfl (by decide) ?_
  refine Z2q ?_
  exact Zd
end Go.Av

namespace Go.Av
open Go.Proofs Go.RowKit
set_option maxRecDepth 10000
set_option linter.unusedSimpArgs false
set_option linter.unusedVariables false

theorem rng_lenB {a b : Int} (h0 : 0 ≤ a) (h1 : b < 256) : (rng a b).length ≤ 256 := by rw [rng_len]; omega
theorem rng_at {a b : Int} {k : Nat} (h : a + (k : Int) ≤ b) : rng a b = (rng a (a + (k : Int) - 1)) ++ rng (a + (k : Int)) b := by
  have e : ∀ m : Nat, a + (m : Int) ≤ b → rng a b = rng a (a + (m : Int) - 1) ++ rng (a + (m : Int)) b := by
    intro m
    induction m with
    | zero => intro hm; rw [show a + ((0 : Nat) : Int) - 1 = a - 1 by omega, rng_empty (a := a) (b := a - 1) (by omega)]; simp
    | succ m ih =>
      intro hm
      rw [ih (by omega), rng_cons (a := a + (m : Int)) (b := b) (by omega), show a + ((m + 1 : Nat) : Int) - 1 = (a + (m : Int) - 1) + 1 by omega, rng_snoc (by omega), show a + (m : Int) - 1 + 1 = a + (m : Int) by omega, show a + ((m + 1 : Nat) : Int) = a + (m : Int) + 1 by omega]
      simp
  exact e k h
def runR (s : List UInt8) : List Int × Bool := match prun s with
  | none => ([], false)
  | some l => (l, true)
theorem firstOf_len (s : List UInt8) : (firstOf s).length ≤ s.length := by
  unfold firstOf; exact (List.takeWhile_sublist _).length_le
theorem behind_len (s : List UInt8) : (behind s).length ≤ s.length := by
  unfold behind
  split
  · exact dropWhile_len s
  · exact Nat.zero_le _
set_option maxHeartbeats 0 in
theorem set_run (E : Errs) (s : List UInt8) (hs : s.length ≤ 1000000) (H : Heap) : ACL Tryd.prog (KS E) 26 [.str (bs s)] H (Ret (.tup [.pl ((runR s).1.map eInt), .bool (runR s).2]) H) := by
  have hfl := firstOf_len s
  have hbl := behind_len s
  have hll : (lastOf s).length ≤ s.length := by
    unfold lastOf
    split
    · exact dropWhile_len s
    · exact hfl
  obtain ⟨a, x, hx, ca⟩ := lib_Atoi E (firstOf s) (by omega)
  obtain ⟨b, y, hy, cb⟩ := lib_Atoi E (lastOf s) (by omega)
  refine ACL.body (N := 62) [.tmp 2, .tmp 3] Tryd.func26 rfl rfl rfl (Nat.le_of_ble_eq_true rfl) fun B hB => ?_
  refine Z5a ?_
  refine Z2k ?_
  refine Zi ?_
  refine Z4y ?_
  refine ao_ret (lib_Cut _ (by assumption) _) rfl (by decide) ?_
  refine Z1e ?_
  refine Z54 ?_
  refine Z54 ?_
  refine Z1h ?_
  refine Z4w ?_
  refine Z4w ?_
  refine Zi ?_
  refine Zu ?_
  refine Z2m ?_
  refine Z5c ?_
  refine aw_joinQ ([(KT, KD.av), (KT + 1, KP.av), (KT + 2, (KY E).av), (KT + 3, (KR E).av), (2, .nsl), (3, .bool false), (4, .str (bs (firstOf s))), (5, .str (bs (lastOf s)))]) (H ++ []) ?_ ?_
  · refine Z1 ?_
    refine aw_cond rfl (fun hc => ?_) (fun hc => ?_)
    · have hn : s.contains 45 = false := by simpa using hc
      refine Z53 ?_
      refine Z5d ?_
      refine join_nrm ?_ (.inl rfl)
      rw [show lastOf s = firstOf s by rw [lastOf, hn]; rfl]
      exact (by repeat (first | exact Sub.nil | refine Sub.cons (by first | rfl | (simp [get]; done)) ?_))
    · have hn : s.contains 45 = true := by simpa using hc
      refine Z1 ?_
      refine join_nrm ?_ (.inl rfl)
      rw [show lastOf s = behind s by rw [lastOf, behind, hn]; rfl]
      exact (by repeat (first | exact Sub.nil | refine Sub.cons (by first | rfl | (simp [get]; done)) ?_))
  have hbad : ∀ (h : prun s = none), runR s = ([], false) := fun h => by rw [runR, h]
  rcases hx with ⟨rfl, ha⟩ | ⟨⟨t, rfl⟩, ha⟩
  · rcases hy with ⟨rfl, hb⟩ | ⟨⟨t, rfl⟩, hb⟩
    · have hp : prun s = if a < 0 ∨ b < a ∨ 256 ≤ b then none else some (rng a b) := by rw [prun, ha, hb]
      refine Z53 ?_
      refine Z5e ?_
      refine Z5j ?_
      refine Z59 ?_
      refine Z5k ?_
      refine Z5j ?_
      refine Zb ?_
      refine aw_out 50 (.bool (decide (a < 0 ∨ b < a ∨ 256 ≤ b))) ?_ ?_
      · refine Z5l ?_
        refine Z5m ?_
        refine Zu ?_
        refine ao_split rfl rfl (fun hg2 => ?_) (fun hg2 => ?_)
        · refine Z5n ?_
          refine Z5q ?_
          exact Z5r
        · refine Z5s ?_
          refine ao_y1 rfl rfl (by decide) (o_neNifc (by kernel_rfl) rfl rfl) ?_
          refine Z3w ?_
          refine ao_split rfl rfl (fun hg6 => ?_) (fun hg6 => ?_)
          · refine Z5q ?_
            exact Z5r
          · refine Z10 ?_
            refine Z4o ?_
            refine ao_split rfl rfl (fun hg10 => ?_) (fun hg10 => ?_)
            · refine Z5p ?_
              exact Z5r
            · refine Z5t ?_
              refine Z4o ?_
              refine ao_split rfl rfl (fun hg15 => ?_) (fun hg15 => ?_)
              · refine Zy ?_
                exact Z5r
              · refine Z10 ?_
                refine Z11 ?_
                refine Zx ?_
                exact Z5r
      refine Z1 ?_
      refine aw_cond rfl (fun hc => ?_) (fun hc => ?_)
      · rw [hbad (by rw [hp, if_pos (by simpa using hc)])]
        refine Z2k ?_
        refine Zh ?_
        refine Zn ?_
        exact Z5w
      · have hc2 : ¬ (a < 0 ∨ b < a ∨ 256 ≤ b) := by simpa using hc
        rw [if_neg hc2] at hp
        rw [show runR s = (rng a b, true) by rw [runR, hp]]
        refine Z2o ?_
        refine aw_ghostL (k := 0) 11 1 rfl (by decide) rfl ?_
        refine Ze ?_
        refine Z2e ?_
        refine aw_loop (G := Nat) (fun k => a + (k : Int) ≤ b + 1) (fun k => [(3, .bool false), (9, .int .i64 b), (11, .sl (Lid H.length 0) k 0 k k), (12, .int .i64 (a + (k : Int)))]) (fun k => H ++ [⟨k, 1, (rng a (a + (k : Int) - 1)).map eInt⟩]) (fun k => 257 - k) 0 (by omega) (by rw [show a + ((0 : Nat) : Int) = a by omega]; exact (by repeat (first | exact Sub.nil | refine Sub.cons (by first | rfl | (simp [get]; done)) ?_))) (.inl (by rw [show a + ((0 : Nat) : Int) - 1 = a - 1 by omega, rng_empty (a := a) (b := a - 1) (by omega)]; rfl)) ?_
        intro k hk
        have hkl : (rng a (a + (k : Int) - 1)).length = k := by rw [rng_len]; omega
        refine Zf ?_
        refine Zt ?_
        refine Zb ?_
        refine aw_cond rfl (fun hc => ?_) (fun hc => ?_)
        · have hab : a + (k : Int) ≤ b := by simpa using hc
          refine Z2h ?_
          refine Z2i ?_
          refine Z2j ?_
          refine Z8 ?_
          refine ao1 (by decide) (o_add (r := a + ((k + 1 : Nat) : Int)) rfl rfl (by rw [show a + (k : Int) + 1 = a + ((k + 1 : Nat) : Int) by omega]; exact wrap64_ok (by omega) (by omega))) ?_
          refine Zc ?_
          refine ⟨k + 1, by omega, by omega, (by repeat (first | exact Sub.nil | refine Sub.cons (by first | rfl | (simp [get]; done)) ?_)), Fit.loc hB (G := [⟨0, 1, [[.int .i64 (a + (k : Int))]]⟩]) ?_ (by repeat (first | exact EBel.nil | refine EBel.cons (by first | rfl | (simp [AV.bel, AV.bels, Lid]; done) | (simp [AV.bel, AV.bels, Lid]; omega)) ?_)) ?_⟩
          · rw [show a + ((k + 1 : Nat) : Int) - 1 = (a + (k : Int) - 1) + 1 by omega, rng_snoc (by omega), List.take_of_length_le (by simp [hkl])]
            simp
          · intro o ho r hr
            simp only [List.mem_singleton] at ho
            subst ho
            exact ints_bel _ _ r hr
        · have hab : a + (k : Int) = b + 1 := by simp at hc; omega
          refine Z2g ?_
          refine Z2c ?_
          refine Zh ?_
          refine Zn ?_
          refine aw_freezeL (ys := (rng a b).map eInt) 2 rfl rfl rfl rfl (by rw [List.drop_zero, hab, show b + 1 - 1 = b by omega, List.take_of_length_le (by rw [List.length_map, rng_len]; omega)]) (by rw [List.length_map, rng_len]; omega) (ints_bel 0 _) ?_
          exact Z5v
    · have hp : prun s = none := by rw [prun, ha, hb]
      rw [hbad hp]
      refine Z53 ?_
      refine Z5e ?_
      refine Z5j ?_
      refine Z59 ?_
      refine Z5k ?_
      refine Z5j ?_
      refine Zb ?_
      refine aw_out 50 (.bool true) ?_ ?_
      · refine Z5l ?_
        refine Z5m ?_
        refine Zu ?_
        refine ao_split rfl rfl (fun hg2 => ?_) (fun hg2 => ?_)
        · refine Z5n ?_
          refine Z5q ?_
          exact Z5x
        · refine Z5s ?_
          refine ao_y1 rfl rfl (by decide) (o_neIfc (by kernel_rfl) rfl rfl) ?_
          refine Z3w ?_
          refine ao_split rfl rfl (fun hg6 => ?_) (fun hg6 => ?_)
          · refine Z5q ?_
            exact Z5x
          · refine Z10 ?_
            refine Z4o ?_
            refine ao_split rfl rfl (fun hg10 => ?_) (fun hg10 => ?_)
            · refine Z5p ?_
              exact Z5x
            · refine Z5t ?_
              refine Z4o ?_
              refine ao_split rfl rfl (fun hg15 => ?_) (fun hg15 => ?_)
              · refine Zy ?_
                exact Z5x
              · refine Z10 ?_
                refine Z11 ?_
                refine Zx ?_
                exact Z5x
      refine Z1 ?_
      refine aw_cond rfl (fun hc => ?_) (fun hc => ?_)
      · refine Z2k ?_
        refine Zh ?_
        refine Zn ?_
        exact Z5w
      · simp at hc
  · have hp : prun s = none := by rw [prun, ha]
    rw [hbad hp]
    rcases hy with ⟨rfl, hb⟩ | ⟨⟨t, rfl⟩, hb⟩
    all_goals skip
    · refine Z53 ?_
      refine Z5e ?_
      refine Z5j ?_
      refine Z59 ?_
      refine Z5k ?_
      refine Z5j ?_
      refine Zb ?_
      refine aw_out 50 (.bool true) ?_ ?_
      · refine Z5l ?_
        refine Z5y ?_
        refine Zu ?_
        refine ao_split rfl rfl (fun hg2 => ?_) (fun hg2 => ?_)
        · refine Z5n ?_
          refine Z5q ?_
          exact Z5z
        · refine Z5s ?_
          exfalso; simp at hg2
      refine Z1 ?_
      refine aw_cond rfl (fun hc => ?_) (fun hc => ?_)
      · refine Z2k ?_
        refine Zh ?_
        refine Zn ?_
        exact Z5w
      · simp at hc
    · refine Z53 ?_
      refine Z5e ?_
      refine Z5j ?_
      refine Z59 ?_
      refine Z5k ?_
      refine Z5j ?_
      refine Zb ?_
      refine aw_out 50 (.bool true) ?_ ?_
      · refine Z5l ?_
        refine Z5y ?_
        refine Zu ?_
        refine ao_split rfl rfl (fun hg2 => ?_) (fun hg2 => ?_)
        · refine Z5n ?_
          refine Z5q ?_
          exact Z5z
        · refine Z5s ?_
          exfalso; simp at hg2
      refine Z1 ?_
      refine aw_cond rfl (fun hc => ?_) (fun hc => ?_)
      · refine Z2k ?_
        refine Zh ?_
        refine Zn ?_
        exact Z5w
      · simp at hc
end Go.Av

namespace Go.Av
open Go.Proofs Go.RowKit
set_option maxRecDepth 10000
set_option linter.unusedSimpArgs false
set_option linter.unusedVariables false

theorem drop_cons {α : Type} {l : List α} {k : Nat} {x : α} (h : l[k]? = some x) : l.drop k = x :: l.drop (k + 1) := by
  obtain ⟨hk, e⟩ := List.getElem?_eq_some_iff.1 h
  rw [List.drop_eq_getElem_cons hk, e]
theorem sok_lt {l : List Int} (h : sok l = true) {k : Nat} {x y : Int} (hx : l[k]? = some x) (hy : l[k + 1]? = some y) : x < y := by
  obtain ⟨h1, rfl⟩ := List.getElem?_eq_some_iff.1 hx
  obtain ⟨h2, rfl⟩ := List.getElem?_eq_some_iff.1 hy
  exact sok_step h h2
/-- A run, whole. -/
theorem run_whole {l : List Int} (h : sok l = true) {i k : Nat} {x y : Int} (hx : l[i]? = some x) (hy : l[k]? = some y) (hik : i ≤ k) (hc : l.drop i = rng x y ++ l.drop (k + 1)) (hxy : y - x = ((k - i : Nat) : Int)) (hn : ∀ z, l[k + 1]? = some z → z ≠ y + 1) : sruns (l.drop i) = (x, y) :: sruns (l.drop (k + 1)) := by
  rw [hc]
  refine sruns_rng_app (k - i) x y _ hxy ?_
  intro a' b' r e
  obtain ⟨t, ht⟩ := sruns_first e
  have hz : l[k + 1]? = some a' := by
    have := congrArg (·[0]?) ht
    simpa using this
  have h1 := sok_lt h hy hz
  have h2 := hn a' hz
  omega
/-- Runs so far, and where the next one begins. -/
structure GSh where
  rs : List (Int × Int)
  i : Nat
set_option maxHeartbeats 0 in
theorem set_Show (E : Errs) (l : List Int) (hl : l.length ≤ 1000000) (H : Heap) : ACL Tryd.prog (KS E) 13 [.pl (l.map eInt)] H (Ret (.str (bs (showS l))) H) := by
  have hl64 : l.length ≤ 9223372036854775807 := by omega
  refine ACL.body (N := 59) [.tmp 2] Tryd.func13 rfl rfl rfl (Nat.le_of_ble_eq_true rfl) fun B hB => ?_
  refine Z5a ?_
  refine Z4x ?_
  refine Z6 ?_
  refine Zj ?_
  refine ao_ret (set_Right _ (by assumption) _) rfl (by decide) ?_
  refine Z2n ?_
  refine aw_cond rfl (fun hc => ?_) (fun hc => ?_)
  · have hs : sok l = false := by simpa using hc
    rw [showS, hs, if_neg (by simp)]
    refine Z2 ?_
    refine Z5d ?_
    exact Zd
  have hs : sok l = true := by simpa using hc
  have hl256 := sok_len256 hs
  refine Z2o ?_
  refine aw_ghostL (k := 0) 3 1 rfl (by decide) rfl ?_
  refine Z2 ?_
  refine Z2e ?_
  refine aw_loop (G := GSh) (fun g => g.i ≤ l.length ∧ sruns l = g.rs ++ sruns (l.drop g.i) ∧ g.rs.length ≤ g.i) (fun g => [(KT, KD.av), (KT + 1, KP.av), (KT + 2, (KY E).av), (KT + 3, (KR E).av), (0, .pl (l.map eInt)), (3, .sl (Lid H.length 0) g.rs.length 0 g.rs.length g.rs.length), (4, .int .i64 (g.i : Int))]) (fun g => H ++ [⟨g.rs.length, 1, ((g.rs.map showR).map bs).map eStr⟩]) (fun g => l.length - g.i) ⟨[], 0⟩ ⟨Nat.zero_le _, rfl, Nat.le_refl _⟩ (by repeat (first | exact Sub.nil | refine Sub.cons (by first | rfl | (simp [get]; done)) ?_)) (.inl rfl) ?_
  rintro ⟨rs, i⟩ ⟨i1, i2, i3⟩
  simp only at i1 i2 i3 ⊢
  refine Ze ?_
  refine Zl ?_
  refine Zp ?_
  refine aw_cond rfl (fun hc => ?_) (fun hc => ?_)
  · have hi : i < l.length := by simpa using hc
    obtain ⟨x, hx, hxl⟩ := get_in hi
    have hxr := sok_mem hs hxl
    refine Ze ?_
    refine Z2e ?_
    refine aw_loop (G := Nat) (fun k => i ≤ k ∧ k < l.length ∧ ∃ y, l[k]? = some y ∧ y - x = ((k - i : Nat) : Int) ∧ l.drop i = rng x y ++ l.drop (k + 1)) (fun k => [(KT, KD.av), (KT + 1, KP.av), (KT + 2, (KY E).av), (KT + 3, (KR E).av), (0, .pl (l.map eInt)), (3, .sl (Lid H.length 0) rs.length 0 rs.length rs.length), (4, .int .i64 (i : Int)), (5, .int .i64 (k : Int))]) (fun _ => H ++ [⟨rs.length, 1, ((rs.map showR).map bs).map eStr⟩]) (fun k => l.length - k) i ⟨Nat.le_refl _, hi, x, hx, by simp, by rw [rng_one, drop_cons hx]; rfl⟩ (by repeat (first | exact Sub.nil | refine Sub.cons (by first | rfl | (simp [get]; done)) ?_)) (Fit.refl _ _) ?_
    rintro k ⟨j1, j2, y, hy, hyx, hdr⟩
    have hym : y ∈ l := List.mem_of_getElem? hy
    have hyr := sok_mem hs hym
    have hr1 := map_get eInt hy
    by_cases hlast : k + 1 < l.length
    · obtain ⟨z, hz, hzl⟩ := get_in hlast
      have hr := map_get eInt hz
      have hzr := sok_mem hs hzl
      refine Z1 ?_
      refine aw_of_out 32 (.bool (decide (z = y + 1))) ?_ ?_
      · refine Z2w ?_
        refine Z16 ?_
        refine Z17 ?_
        refine Z60 ?_
        refine Z61 ?_
        refine Z62 ?_
        refine Z31 ?_
        refine Z32 ?_
        refine aq_split (g := 20) rfl (fun hg5 => ?_) (fun hg5 => ?_)
        · first | refine aqy0 (g := 20) 6 rfl (by decide +kernel) (by decide) rfl rfl (fun _ => o_move (v := .sl _ _ _ _ _) rfl) ?_ | refine aqy0 (g := 20) 6 rfl (by decide +kernel) (by decide) rfl rfl (fun _ => o_move (v := .pl _) rfl) ?_ | refine aqy0 (g := 20) 6 rfl (by decide +kernel) (by decide) rfl rfl (fun _ => o_move (v := .nsl) rfl) ?_
          refine aqy0 (g := 20) 7 rfl (by decide +kernel) (by decide) rfl rfl (fun _ => o_move (v := .int _ _) rfl) ?_
          refine aqy0 (g := 20) 8 rfl (by decide +kernel) (by decide) rfl rfl (fun _ => o_add (r := ((k + 1 : Nat) : Int)) rfl rfl (by rw [show (k : Int) + 1 = ((k + 1 : Nat) : Int) by omega]; exact wrap64_ok (by omega) (by omega))) ?_
          refine aqyp (g := 20) 9 rfl (by decide +kernel) (by decide) rfl rfl (fun G => w_indexAddrpN rfl rfl hr rfl) ?_
          refine aqyp (g := 20) 10 rfl (by decide +kernel) (by decide) rfl rfl (fun G => o_load1p (v := .int _ _) rfl hr rfl) ?_
          first | refine aqy0 (g := 20) 11 rfl (by decide +kernel) (by decide) rfl rfl (fun _ => o_move (v := .sl _ _ _ _ _) rfl) ?_ | refine aqy0 (g := 20) 11 rfl (by decide +kernel) (by decide) rfl rfl (fun _ => o_move (v := .pl _) rfl) ?_ | refine aqy0 (g := 20) 11 rfl (by decide +kernel) (by decide) rfl rfl (fun _ => o_move (v := .nsl) rfl) ?_
          refine aqy0 (g := 20) 12 rfl (by decide +kernel) (by decide) rfl rfl (fun _ => o_move (v := .int _ _) rfl) ?_
          refine aqyp (g := 20) 13 rfl (by decide +kernel) (by decide) rfl rfl (fun G => w_indexAddrpN rfl rfl hr1 rfl) ?_
          refine aqyp (g := 20) 14 rfl (by decide +kernel) (by decide) rfl rfl (fun G => o_load1p (v := .int _ _) rfl hr1 rfl) ?_
          refine aqy0 (g := 20) 15 rfl (by decide +kernel) (by decide) rfl rfl (fun _ => o_add (r := y + 1) rfl rfl (wrap64_ok (by omega) (by omega))) ?_
          refine aqy0 (g := 20) 16 rfl (by decide +kernel) (by decide) rfl rfl (fun _ => o_eq rfl rfl) ?_
          refine Z63 ?_
          exact Z64
        · refine Z27 ?_
          refine Z28 ?_
          refine Z29 ?_
          refine Z2a ?_
          refine Z65 ?_
          refine Z66 ?_
          refine Z67 ?_
          refine Z68 ?_
          refine Z69 ?_
          refine Z6a ?_
          refine Z6b ?_
          refine Z63 ?_
          exact Z64
      refine Z1 ?_
      refine aw_cond rfl (fun hc => ?_) (fun hc => ?_)
      · have hzy : z = y + 1 := by simpa using hc
        refine Ze ?_
        refine Z6c ?_
        refine Zc ?_
        refine ⟨k + 1, by omega, ⟨by omega, hlast, z, hz, by omega, ?_⟩, (by repeat (first | exact Sub.nil | refine Sub.cons (by first | rfl | (simp [get]; done)) ?_)), Fit.refl _ _⟩
        rw [hdr, hzy, rng_snoc (by omega), drop_cons hz, hzy, List.append_assoc]
        rfl
      · have hzy : z ≠ y + 1 := by simpa using hc
        have hw := run_whole hs hx hy j1 hdr hyx (fun z' h' => by rw [hz] at h'; injection h' with h'; subst h'; exact hzy)
        have hsh := showR_len hxr.1 (by omega : x ≤ y) hyr.2
        have hdx := dec_facts hxr.1 hxr.2
        have hdy := dec_facts hyr.1 hyr.2
        refine Z2h ?_
        refine Z6d ?_
        refine Z6e ?_
        refine Z6f ?_
        refine Z4w ?_
        refine Z8 ?_
        refine Z7 ?_
        refine Z6g ?_
        refine Z5c ?_
        refine aw_joinQ ([(KT, KD.av), (KT + 1, KP.av), (KT + 2, (KY E).av), (KT + 3, (KR E).av), (0, .pl (l.map eInt)), (3, .sl (Lid H.length 0) rs.length 0 rs.length rs.length), (4, .int .i64 (i : Int)), (5, .int .i64 (k : Int)), (6, .str (bs (showR (x, y))))]) (H ++ [⟨rs.length, 1, ((rs.map showR).map bs).map eStr⟩]) ?_ ?_
        · refine Z1 ?_
          refine aw_cond rfl (fun hc => ?_) (fun hc => ?_)
          · have hik : i < k := by simpa using hc
            refine Z53 ?_
            refine Zj ?_
            refine Z7 ?_
            refine Z6h ?_
            refine Z6i ?_
            refine Z6j ?_
            refine Z6k ?_
            refine Z6l ?_
            refine Z5d ?_
            refine join_nrm ?_ (.inl rfl)
            rw [show showR (x, y) = dec x ++ ([45] ++ dec y) by rw [showR, if_pos (by simp only; omega)]; rfl]
            exact (by repeat (first | exact Sub.nil | refine Sub.cons (by first | rfl | (simp [get]; done)) ?_))
          · have hik : i = k := by simp at hc; omega
            refine Z1 ?_
            refine join_nrm ?_ (.inl rfl)
            rw [show showR (x, y) = dec x by rw [showR, if_neg (by simp only; omega)]]
            exact (by repeat (first | exact Sub.nil | refine Sub.cons (by first | rfl | (simp [get]; done)) ?_))
        refine Z2g ?_
        refine Z4y ?_
        refine Z6m ?_
        refine Z2j ?_
        refine Z8 ?_
        refine Z6c ?_
        refine Zc ?_
        refine ⟨⟨rs ++ [(x, y)], k + 1⟩, by simp only; omega, ⟨by simp only; omega, by simp only; rw [i2, hw]; simp, by simp only [List.length_append, List.length_cons, List.length_nil]; omega⟩, by simp only [List.length_append, List.length_cons, List.length_nil]; exact (by repeat (first | exact Sub.nil | refine Sub.cons (by first | rfl | (simp [get]; done)) ?_)), Fit.loc hB (G := [⟨0, 1, [eS (showR (x, y))]⟩]) ?_ (by repeat (first | exact EBel.nil | refine EBel.cons (by first | rfl | (simp [AV.bel, AV.bels, Lid]; done) | (simp [AV.bel, AV.bels, Lid]; omega)) ?_)) ?_⟩
        · rw [List.take_of_length_le (by simp)]
          simp
        · intro o ho r hr
          simp only [List.mem_singleton] at ho
          subst ho
          simp only [List.map_append, List.map_map] at hr
          exact rows_bel (e := fun r => eStr (bs (showR r))) (fun _ => rfl) (rs ++ [(x, y)]) r (by simpa using hr)
    · refine Z1 ?_
      refine aw_of_out 32 (.bool false) ?_ ?_
      · refine Z2w ?_
        refine Z16 ?_
        refine Z17 ?_
        refine Z60 ?_
        refine Z61 ?_
        refine Z62 ?_
        refine Z31 ?_
        refine Z32 ?_
        refine aq_split (g := 20) rfl (fun hg5 => ?_) (fun hg5 => ?_)
        · exfalso; simp at hg5; omega
        · refine Z27 ?_
          refine Z28 ?_
          refine Z29 ?_
          refine Z2a ?_
          refine Z65 ?_
          refine Z66 ?_
          refine Z67 ?_
          refine Z68 ?_
          refine Z69 ?_
          refine Z6a ?_
          refine Z6b ?_
          refine Z63 ?_
          exact Z64
      refine Z1 ?_
      refine aw_cond rfl (fun hc => ?_) (fun hc => ?_)
      · simp at hc
      · have hw := run_whole hs hx hy j1 hdr hyx (fun z' h' => absurd (List.getElem?_eq_some_iff.1 h').1 hlast)
        have hsh := showR_len hxr.1 (by omega : x ≤ y) hyr.2
        have hdx := dec_facts hxr.1 hxr.2
        have hdy := dec_facts hyr.1 hyr.2
        refine Z2h ?_
        refine Z6d ?_
        refine Z6e ?_
        refine Z6f ?_
        refine Z4w ?_
        refine Z8 ?_
        refine Z7 ?_
        refine Z6g ?_
        refine Z5c ?_
        refine aw_joinQ ([(KT, KD.av), (KT + 1, KP.av), (KT + 2, (KY E).av), (KT + 3, (KR E).av), (0, .pl (l.map eInt)), (3, .sl (Lid H.length 0) rs.length 0 rs.length rs.length), (4, .int .i64 (i : Int)), (5, .int .i64 (k : Int)), (6, .str (bs (showR (x, y))))]) (H ++ [⟨rs.length, 1, ((rs.map showR).map bs).map eStr⟩]) ?_ ?_
        · refine Z1 ?_
          refine aw_cond rfl (fun hc => ?_) (fun hc => ?_)
          · have hik : i < k := by simpa using hc
            refine Z53 ?_
            refine Zj ?_
            refine Z7 ?_
            refine Z6h ?_
            refine Z6i ?_
            refine Z6j ?_
            refine Z6k ?_
            refine Z6l ?_
            refine Z5d ?_
            refine join_nrm ?_ (.inl rfl)
            rw [show showR (x, y) = dec x ++ ([45] ++ dec y) by rw [showR, if_pos (by simp only; omega)]; rfl]
            exact (by repeat (first | exact Sub.nil | refine Sub.cons (by first | rfl | (simp [get]; done)) ?_))
          · have hik : i = k := by simp at hc; omega
            refine Z1 ?_
            refine join_nrm ?_ (.inl rfl)
            rw [show showR (x, y) = dec x by rw [showR, if_neg (by simp only; omega)]]
            exact (by repeat (first | exact Sub.nil | refine Sub.cons (by first | rfl | (simp [get]; done)) ?_))
        refine Z2g ?_
        refine Z4y ?_
        refine Z6m ?_
        refine Z2j ?_
        refine Z8 ?_
        refine Z6c ?_
        refine Zc ?_
        refine ⟨⟨rs ++ [(x, y)], k + 1⟩, by simp only; omega, ⟨by simp only; omega, by simp only; rw [i2, hw]; simp, by simp only [List.length_append, List.length_cons, List.length_nil]; omega⟩, by simp only [List.length_append, List.length_cons, List.length_nil]; exact (by repeat (first | exact Sub.nil | refine Sub.cons (by first | rfl | (simp [get]; done)) ?_)), Fit.loc hB (G := [⟨0, 1, [eS (showR (x, y))]⟩]) ?_ (by repeat (first | exact EBel.nil | refine EBel.cons (by first | rfl | (simp [AV.bel, AV.bels, Lid]; done) | (simp [AV.bel, AV.bels, Lid]; omega)) ?_)) ?_⟩
        · rw [List.take_of_length_le (by simp)]
          simp
        · intro o ho r hr
          simp only [List.mem_singleton] at ho
          subst ho
          simp only [List.map_append, List.map_map] at hr
          exact rows_bel (e := fun r => eStr (bs (showR r))) (fun _ => rfl) (rs ++ [(x, y)]) r (by simpa using hr)
  · have hil : i = l.length := by simp at hc; omega
    subst hil
    have hrs : sruns l = rs := by rw [i2, List.drop_length]; simp [sruns]
    have hlen := showS_len hs
    rw [showS_ok hs, showRs, hrs] at hlen
    have hJ := fun H' : Heap => fun hid => lib_Join (id := Lid H.length 0) (g := rs.length) (n := rs.length) (xs := rs.map showR) (H := H') hid (by simp; omega) (by omega)
    rw [List.length_map] at hJ
    refine Z2g ?_
    refine ao2 (by rintro _ ⟨⟩; decide) (V2.call (hJ _ (lk rfl rfl)) rfl) ?_
    refine Z5d ?_
    rw [showS_ok hs, showRs, hrs]
    exact Zd
end Go.Av

namespace Go.Av
open Go.Proofs Go.RowKit
set_option maxRecDepth 10000
set_option linter.unusedSimpArgs false
set_option linter.unusedVariables false

theorem splitc_len : ∀ (s : List UInt8) (x : List UInt8), x ∈ splitc s → x.length ≤ s.length
  | [], x, h => by simp [splitc] at h; simp [h]
  | c :: r, x, h => by
    have ih := splitc_len r
    simp only [splitc] at h
    split at h
    · rcases List.mem_cons.1 h with rfl | h
      · simp
      · have := ih x h; simp; omega
    · split at h
      · rename_i hd tl e
        rw [e] at ih
        rcases List.mem_cons.1 h with rfl | h
        · have := ih hd (List.mem_cons_self ..); simp; omega
        · have := ih x (List.mem_cons_of_mem _ h); simp; omega
      · simp only [List.mem_singleton] at h; subst h; simp
theorem splitc_many : ∀ s : List UInt8, (splitc s).length ≤ s.length + 1
  | [] => Nat.le_refl _
  | c :: r => by
    have ih := splitc_many r
    simp only [splitc]
    split
    · simp; omega
    · split
      · rename_i e; rw [e] at ih; simp at ih ⊢; omega
      · simp
theorem prun_len {s : List UInt8} {l : List Int} (h : prun s = some l) : l.length ≤ 256 := by
  unfold prun at h
  split at h
  · split at h
    · cases h
    · obtain rfl := Option.some.inj h
      exact rng_lenB (by omega) (by omega)
  · cases h
structure GPa where
  out : List Int
  k : Nat
set_option maxHeartbeats 0 in
theorem set_Parse (E : Errs) (s : List UInt8) (hs0 : s.length ≤ 1000000) (H : Heap) : ACL Tryd.prog (KS E) 10 [.str (bs s)] H (Ret (.tup [.pl ((parseS s).1.map eInt), .int .i64 (parseS s).2]) H) := by
  refine ACL.body (N := 45) [.tmp 2, .tmp 3] Tryd.func10 rfl rfl rfl (Nat.le_of_ble_eq_true rfl) fun B hB => ?_
  refine Z5a ?_
  refine Z2k ?_
  refine Z3 ?_
  refine Z59 ?_
  refine Z56 ?_
  refine Z6g ?_
  refine Zb ?_
  refine aw_cond rfl (fun hc => ?_) (fun hc => ?_)
  · have hl : 8192 < s.length := by simp at hc; omega
    rw [parseS, if_pos hl]
    exact Z6o
  have hl : ¬ 8192 < s.length := by simp at hc; omega
  refine Z53 ?_
  refine Z55 ?_
  refine Zb ?_
  refine aw_cond rfl (fun hc => ?_) (fun hc => ?_)
  · have hn : s = [] := by simpa using hc
    rw [parseS, if_neg hl, if_pos hn]
    exact Z6o
  have hn : ¬ s = [] := by simpa using hc
  have hP : parseS s = match collect [] (splitc s) with
    | none => ([], 3)
    | some out => if showS out = s then (out, 0) else ([], 3) := by rw [parseS, if_neg hl, if_neg hn]; rfl
  have hmany := splitc_many s
  refine Z2o ?_
  refine Z6p ?_
  refine Z53 ?_
  refine ao2 (by rintro _ ⟨⟩; decide) (V2.call (lib_Split s (by omega) _) rfl) ?_
  refine Zk ?_
  refine Z7 ?_
  refine Zn ?_
  refine aw_loop (G := GPa) (fun g => g.k ≤ (splitc s).length ∧ collect [] (splitc s) = collect g.out ((splitc s).drop g.k) ∧ g.out.length ≤ 256) (fun g => [(KT, KD.av), (KT + 1, KP.av), (KT + 2, (KY E).av), (KT + 3, (KR E).av), (0, .str (bs s)), (4, .sl (Lid H.length 0) g.k 0 g.out.length g.out.length), (15, .pl ((splitc s).map eS)), (16, .int .i64 (((splitc s).map eS).length : Int)), (17, .int .i64 (g.k : Int))]) (fun g => H ++ [⟨g.k, 1, g.out.map eInt⟩]) (fun g => (splitc s).length - g.k) ⟨[], 0⟩ ⟨Nat.zero_le _, rfl, Nat.zero_le _⟩ (by repeat (first | exact Sub.nil | refine Sub.cons (by first | rfl | (simp [get]; done)) ?_)) (.inl rfl) ?_
  rintro ⟨out, k⟩ ⟨i1, i2, i3⟩
  simp only at i1 i2 i3 ⊢
  refine Zq ?_
  refine aw_cond rfl (fun hc => ?_) (fun hc => ?_)
  · have hk : k < (splitc s).length := by simpa using hc
    obtain ⟨x, hx, hxl⟩ := get_in hk
    have hr := map_get eS hx
    have hxn := splitc_len s x hxl
    have hcol : collect [] (splitc s) = match prun x with
      | none => none
      | some l => if 256 < out.length + l.length then none else collect (out ++ l) ((splitc s).drop (k + 1)) := by
      rw [i2, drop_cons hx, collect]; rfl
    refine Z2 ?_
    refine Zr ?_
    first | refine ao1 (by decide) (w_load1 (v := .str _) rfl (lk rfl rfl) rfl rfl rfl) ?_ | refine ao1 (by decide) (w_load1 (v := .str _) rfl (lk rfl rfl) rfl (zadd hr) rfl) ?_ | refine ao1 (by decide) (w_load1 (v := .str _) rfl (lk rfl rfl) rfl (zadd hr1) rfl) ?_ | refine ao1 (by decide) (w_load1 (v := .str _) rfl (lk rfl rfl) rfl (zadd hr2) rfl) ?_ | refine ao1 (by decide) (o_load1p (v := .str _) rfl hr rfl) ?_ | refine ao1 (by decide) (o_load1p (v := .str _) rfl hr1 rfl) ?_ | refine ao1 (by decide) (o_load1p (v := .str _) rfl hr2 rfl) ?_ | refine ao1 (by decide) (w_load1 (v := .str _) rfl (lkF hF) rfl rfl rfl) ?_
    refine Z4w ?_
    refine Z59 ?_
    refine ao2 (by rintro _ ⟨⟩; decide) (V2.callL (set_run E x (by omega) _) rfl ⟨rfl, rfl, rfl, rfl, trivial⟩) ?_
    refine Z6q ?_
    refine Z1h ?_
    refine Z2c ?_
    refine Zh ?_
    refine Z5 ?_
    cases hp : prun x with
    | none =>
      rw [show runR x = ([], false) by rw [runR, hp]]
      rw [hp] at hcol
      rw [hcol] at hP
      simp only at hP
      rw [hP]
      refine Z1 ?_
      refine aw_out 35 (.bool true) ?_ ?_
      · refine Zu ?_
        refine Z3n ?_
        refine ao_split rfl rfl (fun hg2 => ?_) (fun hg2 => ?_)
        · refine Zw ?_
          refine Z6r ?_
          exact Z6s
        · refine Z6u ?_
          refine Z6u ?_
          first | refine ao_y1 rfl rfl (by decide) (o_add rfl rfl (wrap64_ok (by omega) (by omega))) ?_ | refine ao_y1 rfl rfl (by decide) (o_add rfl rfl rfl) ?_
          refine Z6v ?_
          refine Zx ?_
          exact Z6s
      refine Z1 ?_
      refine aw_cond rfl (fun hc => ?_) (fun hc => ?_)
      · exact Z6o
      · simp at hc
    | some l =>
      rw [show runR x = (l, true) by rw [runR, hp]]
      rw [hp] at hcol
      simp only at hcol
      have hll := prun_len hp
      refine Z1 ?_
      refine aw_out 35 (.bool (decide (256 < out.length + l.length))) ?_ ?_
      · refine Zu ?_
        refine Z3n ?_
        refine ao_split rfl rfl (fun hg2 => ?_) (fun hg2 => ?_)
        · refine Zw ?_
          refine Z6r ?_
          exact Z6w
        · refine Z6u ?_
          refine Z6u ?_
          refine ao_y1 rfl rfl (by decide) (o_add (r := ((out.length + l.length : Nat) : Int)) rfl rfl (by rw [List.length_map, show (out.length : Int) + (l.length : Int) = ((out.length + l.length : Nat) : Int) by omega]; exact wrap64_ok (by omega) (by omega))) ?_
          refine Z6v ?_
          refine Zx ?_
          exact Z6w
      refine Z1 ?_
      refine aw_cond rfl (fun hc => ?_) (fun hc => ?_)
      · have hov : 256 < out.length + l.length := by simpa using hc
        rw [if_pos hov] at hcol
        rw [hcol] at hP
        simp only at hP
        rw [hP]
        exact Z6o
      · have hov : ¬ 256 < out.length + l.length := by simpa using hc
        rw [if_neg hov] at hcol
        refine Z2g ?_
        refine Zj ?_
        refine ao2 (by rintro _ ⟨⟩; decide) (g_append (sz := 1) (bytes := 8) rfl rfl rfl rfl rfl (Src.pl rfl (ints_len l)) rfl (by simp) (by simp; omega) (by simp; omega)) ?_
        refine Z2c ?_
        refine Z6 ?_
        refine Z6c ?_
        refine Z1b ?_
        refine ⟨⟨out ++ l, k + 1⟩, by simp only; omega, ⟨by simp only; omega, by simp only; exact hcol, by simp only [List.length_append]; omega⟩, by simp only [List.length_append]; rw [List.length_map]; exact (by repeat (first | exact Sub.nil | refine Sub.cons (by first | rfl | (simp [get]; done)) ?_)), .inl ?_⟩
        rw [List.take_of_length_le (by simp)]
        simp
  · have hk : k = (splitc s).length := by simp at hc; omega
    subst hk
    rw [List.drop_length] at i2
    simp only [collect] at i2
    rw [i2] at hP
    simp only at hP
    refine Zm ?_
    refine aw_freezeL (ys := out.map eInt) 4 rfl rfl rfl rfl (by rw [List.drop_zero, List.take_of_length_le (by simp)]) (by simp) (ints_bel 0 _) ?_
    refine Z2g ?_
    refine ao2 (by rintro _ ⟨⟩; decide) (V2.callL (set_Show E out (by omega) _) rfl ⟨rfl, rfl, rfl, rfl, trivial⟩) ?_
    refine Z4y ?_
    refine Z6x ?_
    refine Zb ?_
    refine aw_cond rfl (fun hc => ?_) (fun hc => ?_)
    · have hne : ¬ showS out = s := by simpa using hc
      rw [if_neg hne] at hP
      rw [hP]
      exact Z6o
    · have he : showS out = s := by simpa using hc
      rw [if_pos he] at hP
      rw [hP]
      refine Z2g ?_
      refine Z6y ?_
      exact Z5u
end Go.Av

namespace Go.Av
open Go.Proofs Go.RowKit
set_option maxRecDepth 10000
set_option linter.unusedSimpArgs false
set_option linter.unusedVariables false

theorem rune_digit : ∀ d : Fin 10, Utf8.encode ((48 + d.val : Nat) : Int) = bs [UInt8.ofNat (48 + d.val)] := by decide +kernel
theorem o_digit {P : Program} {N : Nat} {env : Env} {H : Heap} {ty : TypeId} {x : Operand} {s t : TypeId} {k : IntKind} {d : Nat} (hd : d < 10) [UdI P s (.int k)] [UdI P t .string] (hx : aev env x = .int k ((48 + d : Nat) : Int)) : V1 P N (.convert s t x) ty env H (.str (bs [UInt8.ofNat (48 + d)])) := by
  have := o_runeStr (P := P) (N := N) (H := H) (ty := ty) (s := s) (d := t) hx
  rwa [rune_digit ⟨d, hd⟩] at this
theorem dec_ge {n : Nat} (h : ¬ n < 10) : dec (n : Int) = dec ((n / 10 : Nat) : Int) ++ [UInt8.ofNat (48 + n % 10)] := by
  simp only [dec, Int.toNat_natCast]
  rw [Lib.decDigits, dif_neg h]
theorem dec_small {n : Nat} (h : n < 10) : dec (n : Int) = [UInt8.ofNat (48 + n)] := by
  simp only [dec, Int.toNat_natCast]
  rw [Lib.decDigits, dif_pos h]
theorem ref01_num (n : Nat) (hn : n < 256) (H : Heap) : AC Tryd.prog 31 [.int .i64 (n : Int)] H (Ret (.str (bs (dec (n : Int)))) H) := by
  induction n using Nat.strongRecOn generalizing H with
  | ind n ih =>
  refine AC.body (N := 18) [.tmp 2] Tryd.func31 rfl rfl rfl (Nat.le_of_ble_eq_true rfl) fun B hB => ?_
  refine Z4x ?_
  refine Z8 ?_
  refine Zp ?_
  refine aw_cond rfl (fun hc => ?_) (fun hc => ?_)
  · have h10 : n < 10 := by simp at hc; omega
    rw [dec_small h10]
    refine Ze ?_
    refine ao1 (by decide) (o_add (r := ((48 + n : Nat) : Int)) rfl rfl (by rw [show (48 : Int) + (n : Int) = ((48 + n : Nat) : Int) by omega]; exact wrap64_ok (by omega) (by omega))) ?_
    refine ao1 (by decide) (o_conv_int (r := ((48 + n : Nat) : Int)) rfl (by rw [IntKind.wrap_i32]; omega)) ?_
    refine ao1 (by decide) (o_digit h10 rfl) ?_
    refine Z5d ?_
    exact Zd
  · have h10 : ¬ n < 10 := by simp at hc; omega
    have hd : n % 10 < 10 := Nat.mod_lt _ (by decide)
    have hf := dec_facts (n := ((n / 10 : Nat) : Int)) (by omega) (by omega)
    rw [dec_ge h10]
    refine Ze ?_
    refine ao1 (by decide) (o_quo (r := ((n / 10 : Nat) : Int)) rfl rfl (by decide) (by rw [Int.tdiv_eq_ediv_of_nonneg (by omega)]; rw [show (n : Int) / 10 = ((n / 10 : Nat) : Int) by omega]; exact wrap64_ok (by omega) (by omega))) ?_
    refine ao2 (by rintro _ ⟨⟩; decide) (V2.call (ih (n / 10) (by omega) (by omega) _) rfl) ?_
    refine Z7 ?_
    refine ao1 (by decide) (o_rem (r := ((n % 10 : Nat) : Int)) rfl rfl (by decide) (by rw [Int.tmod_eq_emod_of_nonneg (by omega)]; omega)) ?_
    refine ao1 (by decide) (o_add (r := ((48 + n % 10 : Nat) : Int)) rfl rfl (by rw [show (48 : Int) + ((n % 10 : Nat) : Int) = ((48 + n % 10 : Nat) : Int) by omega]; exact wrap64_ok (by omega) (by omega))) ?_
    refine ao1 (by decide) (o_conv_int (r := ((48 + n % 10 : Nat) : Int)) rfl (by rw [IntKind.wrap_i32]; omega)) ?_
    refine ao1 (by decide) (o_digit hd rfl) ?_
    refine ao1 (by decide) (o_catBs rfl rfl (by simp only [List.length_cons, List.length_nil]; omega)) ?_
    refine Z5d ?_
    exact Zd
def numR (s : List UInt8) (at_ : Nat) : Int × Int := match numS (s.drop at_) with
  | none => (0, -1)
  | some (v, j) => ((v : Int), ((at_ + j : Nat) : Int))
/-- Digits read so far: their number, how many. -/
structure GNu where
  n : Nat
  j : Nat
theorem digs_step {k n : Nat} {c : UInt8} {r : List UInt8} (h : 48 ≤ c.toNat ∧ c.toNat ≤ 57) : digs (k + 1) n (c :: r) = ((digs k (n * 10 + (c.toNat - 48)) r).1, (digs k (n * 10 + (c.toNat - 48)) r).2 + 1) := by
  rw [digs, if_pos h]
theorem digs_stop {k n : Nat} {c : UInt8} {r : List UInt8} (h : ¬ (48 ≤ c.toNat ∧ c.toNat ≤ 57)) : digs (k + 1) n (c :: r) = (n, 0) := by
  rw [digs, if_neg h]
theorem digs_end {k n : Nat} : digs k n [] = (n, 0) := by cases k <;> simp [digs]
set_option maxHeartbeats 0 in
theorem ref01_number (s : List UInt8) (hs : s.length ≤ 1000000) (p : Nat) (hp : p ≤ s.length) (H : Heap) : AC Tryd.prog 27 [.str (bs s), .int .i64 (p : Int)] H (Ret (.tup [.int .i64 (numR s p).1, .int .i64 (numR s p).2]) H) := by
  refine AC.body (N := 62) [.tmp 4, .tmp 5] Tryd.func27 rfl rfl rfl (Nat.le_of_ble_eq_true rfl) fun B hB => ?_
  refine Z2 ?_
  refine Z3 ?_
  refine Z3 ?_
  refine Z6 ?_
  refine Z9 ?_
  refine Z2e ?_
  refine aw_loop (G := GNu) (fun g => p + g.j ≤ s.length ∧ g.j ≤ 4 ∧ g.n < 10 ^ g.j ∧ digs 4 0 (s.drop p) = ((digs (4 - g.j) g.n (s.drop (p + g.j))).1, (digs (4 - g.j) g.n (s.drop (p + g.j))).2 + g.j)) (fun g => [(0, .str (bs s)), (1, .int .i64 (p : Int)), (6, .int .i64 (g.n : Int)), (7, .int .i64 ((p + g.j : Nat) : Int))]) (fun _ => H ++ []) (fun g => 4 - g.j) ⟨0, 0⟩ ⟨hp, Nat.zero_le _, by simp, rfl⟩ (by repeat (first | exact Sub.nil | refine Sub.cons (by first | rfl | (simp [get]; done)) ?_)) (Fit.refl _ _) ?_
  rintro ⟨n, j⟩ ⟨i1, i2, i3, i4⟩
  simp only at i1 i2 i3 i4 ⊢
  have hpow : 10 ^ j ≤ 10000 := by
    have : 10 ^ j ≤ 10 ^ 4 := Nat.pow_le_pow_right (by decide) i2
    simpa using this
  have hv : p + j < s.length → s[p + j]? = some (s.getD (p + j) 0) := fun h => by rw [List.getD_eq_getElem?_getD, List.getElem?_eq_getElem h]; rfl
  have hu := UInt8.toNat_lt (s.getD (p + j) 0)
  generalize s.getD (p + j) 0 = c at hv hu
  refine Z1 ?_
  refine aw_out 30 (.bool (decide (p + j < s.length) && decide (48 ≤ c.toNat) && decide (c.toNat ≤ 57) && decide (j < 4))) ?_ ?_
  · refine Z7 ?_
    refine Z57 ?_
    refine Z6z ?_
    refine ao_split rfl rfl (fun hg4 => ?_) (fun hg4 => ?_)
    · refine Z70 ?_
      refine Z10 ?_
      refine Z71 ?_
      refine Z11 ?_
      refine Z3w ?_
      refine ao_split rfl rfl (fun hg10 => ?_) (fun hg10 => ?_)
      · refine Z70 ?_
        refine Z10 ?_
        refine Z71 ?_
        refine Z72 ?_
        refine Z3w ?_
        refine ao_split rfl rfl (fun hg16 => ?_) (fun hg16 => ?_)
        · refine Z5t ?_
          refine ao_y1 rfl rfl (by decide) (o_add (r := ((p + 4 : Nat) : Int)) rfl rfl (by rw [show (p : Int) + 4 = ((p + 4 : Nat) : Int) by omega]; exact wrap64_ok (by omega) (by omega))) ?_
          refine Z4n ?_
          refine Zx ?_
          exact Z73
        · refine Z4q ?_
          refine Zx ?_
          exact Z73
      · refine Z4q ?_
        refine Z4t ?_
        refine Zx ?_
        exact Z73
    · refine Z4q ?_
      refine Z4t ?_
      refine Z4t ?_
      refine Zx ?_
      exact Z73
  refine Z1 ?_
  refine aw_cond rfl (fun hc => ?_) (fun hc => ?_)
  · simp only [Bool.and_eq_true, decide_eq_true_eq] at hc
    obtain ⟨⟨⟨h1, h2⟩, h3⟩, h4⟩ := hc
    have hcv := hv h1
    have hst : digs (4 - j) n (s.drop (p + j)) = ((digs (4 - (j + 1)) (n * 10 + (c.toNat - 48)) (s.drop (p + (j + 1)))).1, (digs (4 - (j + 1)) (n * 10 + (c.toNat - 48)) (s.drop (p + (j + 1)))).2 + 1) := by
      rw [drop_cons hcv, show 4 - j = (4 - (j + 1)) + 1 by omega, digs_step ⟨h2, h3⟩]; rfl
    refine Ze ?_
    refine ao1 (by decide) (o_mul (r := ((n * 10 : Nat) : Int)) rfl rfl (by rw [show (n : Int) * 10 = ((n * 10 : Nat) : Int) by omega]; exact wrap64_ok (by omega) (by omega))) ?_
    refine Z4y ?_
    refine Z7 ?_
    refine ao1 (by decide) (o_indexBs (n := p + j) (c := c) rfl rfl hcv) ?_
    refine ao1 (by decide) (o_sub (r := ((c.toNat - 48 : Nat) : Int)) rfl rfl (by rw [IntKind.wrap_u8]; omega)) ?_
    refine ao1 (by decide) (o_conv_int (r := ((c.toNat - 48 : Nat) : Int)) rfl (wrap64_ok (by omega) (by omega))) ?_
    refine ao1 (by decide) (o_add (r := ((n * 10 + (c.toNat - 48) : Nat) : Int)) rfl rfl (by rw [show ((n * 10 : Nat) : Int) + ((c.toNat - 48 : Nat) : Int) = ((n * 10 + (c.toNat - 48) : Nat) : Int) by omega]; exact wrap64_ok (by omega) (by omega))) ?_
    refine Z9 ?_
    refine ao1 (by decide) (o_add (r := ((p + (j + 1) : Nat) : Int)) rfl rfl (by rw [show ((p + j : Nat) : Int) + 1 = ((p + (j + 1) : Nat) : Int) by omega]; exact wrap64_ok (by omega) (by omega))) ?_
    refine Zc ?_
    refine ⟨⟨n * 10 + (c.toNat - 48), j + 1⟩, by simp only; omega, ⟨by simp only; omega, by simp only; omega, by simp only; rw [Nat.pow_succ]; omega, ?_⟩, (by repeat (first | exact Sub.nil | refine Sub.cons (by first | rfl | (simp [get]; done)) ?_)), Fit.refl _ _⟩
    simp only
    rw [i4, hst, Nat.add_assoc, Nat.add_comm 1 j]
  · have hd : digs 4 0 (s.drop p) = (n, j) := by
      have h0 : digs (4 - j) n (s.drop (p + j)) = (n, 0) := by
        by_cases h1 : p + j < s.length
        · by_cases h4 : j < 4
          · rw [drop_cons (hv h1), show 4 - j = (4 - (j + 1)) + 1 by omega]
            refine digs_stop fun h => ?_
            simp [h1, h4, h.1, h.2] at hc
          · rw [show 4 - j = 0 by omega]; simp [digs]
        · rw [List.drop_of_length_le (by omega), digs_end]
      rw [i4, h0]; simp
    clear hv hu
    have hv : p < s.length → s[p]? = some (s.getD p 0) := fun h => by rw [List.getD_eq_getElem?_getD, List.getElem?_eq_getElem h]; rfl
    have hu := UInt8.toNat_lt (s.getD p 0)
    have hN : numS (s.drop p) = if j = 0 ∨ 255 < n ∨ (s.getD p 0).toNat = 48 ∧ 1 < j then none else some (n, j) := by
      unfold numS
      rw [hd]
      simp only
      by_cases h0 : j = 0
      · rw [if_pos (.inl h0), if_pos (.inl h0)]
      · have hpl : p < s.length := by omega
        have e : (s.drop p).head? = some (s.getD p 0) := by rw [List.head?_drop]; exact hv hpl
        rw [e]
        simp only [Option.some.injEq, head48]
    generalize s.getD p 0 = c at hv hu hN
    refine Z1 ?_
    refine aw_out 59 (.bool (decide (j = 0) || decide (255 < n) || (decide (c.toNat = 48) && decide (1 < j)))) ?_ ?_
    · refine Z7 ?_
      refine Z2r ?_
      refine Zu ?_
      refine ao_split rfl rfl (fun hg3 => ?_) (fun hg3 => ?_)
      · refine Z5n ?_
        refine Zw ?_
        refine Z3o ?_
        refine Z41 ?_
        refine Z42 ?_
        refine Zx ?_
        exact Z74
      · refine Z10 ?_
        refine Z6v ?_
        refine Z3w ?_
        refine ao_split rfl rfl (fun hg7 => ?_) (fun hg7 => ?_)
        · refine Zw ?_
          refine Z3o ?_
          refine Z41 ?_
          refine Z42 ?_
          refine Zx ?_
          exact Z74
        · refine Z70 ?_
          refine Z10 ?_
          refine ao_y1 rfl rfl (by decide) (o_indexBs (n := p) (c := c) rfl rfl (hv (by simp at hg3; omega))) ?_
          refine Z44 ?_
          refine Z3u ?_
          refine ao_split rfl rfl (fun hg12 => ?_) (fun hg12 => ?_)
          · refine Z5t ?_
            refine ao_y1 rfl rfl (by decide) (o_add (r := ((p + 1 : Nat) : Int)) rfl rfl (by rw [show (p : Int) + 1 = ((p + 1 : Nat) : Int) by omega]; exact wrap64_ok (by omega) (by omega))) ?_
            refine Z6v ?_
            refine Z3v ?_
            refine Zx ?_
            exact Z74
          · refine Z4q ?_
            refine Z3v ?_
            refine Zx ?_
            exact Z74
    refine Z1 ?_
    refine aw_cond rfl (fun hc => ?_) (fun hc => ?_)
    · have hno : j = 0 ∨ 255 < n ∨ c.toNat = 48 ∧ 1 < j := by simpa [or_assoc] using hc
      rw [if_pos hno] at hN
      rw [show numR s p = (0, -1) by rw [numR, hN]]
      refine Z2 ?_
      refine Z3 ?_
      refine Zc ?_
      exact Z5u
    · have hno : ¬ (j = 0 ∨ 255 < n ∨ c.toNat = 48 ∧ 1 < j) := by
        rintro (h | h | h)
        · simp [h] at hc
        · simp [h] at hc
        · simp [h.1, h.2] at hc
      rw [if_neg hno] at hN
      rw [show numR s p = ((n : Int), ((p + j : Nat) : Int)) by rw [numR, hN]]
      refine Zf ?_
      refine Z3 ?_
      refine Zc ?_
      exact Z5u
end Go.Av

namespace Go.Av
open Go.Proofs Go.RowKit
set_option maxRecDepth 10000
set_option linter.unusedSimpArgs false
set_option linter.unusedVariables false

theorem inI_nat (l : List Int) (n : Nat) : inI l (n : Int) = inl l n := rfl
theorem inI_pred (l : List Int) (n : Nat) (h : 0 < n) : inI l ((n : Int) - 1) = inl l (n - 1) := by rw [show (n : Int) - 1 = ((n - 1 : Nat) : Int) by omega]; rfl
theorem showRs_len {rs : List (Int × Int)} (h : ∀ r ∈ rs, 0 ≤ r.1 ∧ r.1 ≤ r.2 ∧ r.2 < 256) : (showRs rs).length ≤ 8 * rs.length := by
  have := join_len (rs.map showR) fun x hx => by
    obtain ⟨r, hr, rfl⟩ := List.mem_map.1 hx
    obtain ⟨k1, k2, k3⟩ := h r hr
    exact (showR_len k1 k2 k3).1
  rwa [List.length_map] at this
def prevB (f : Nat → Bool) (n : Nat) : Bool := decide (0 < n) && f (n - 1)
theorem prevB_succ (f : Nat → Bool) (n : Nat) : prevB f (n + 1) = f n := by simp [prevB]
def preS (rs : List (Int × Int)) : List UInt8 := if rs = [] then [] else showRs rs ++ [44]
theorem preS_show (rs : List (Int × Int)) (r : Int × Int) : showRs (rs ++ [r]) = preS rs ++ showR r := by
  rw [showRs_snoc, preS]
  split
  · rfl
  · rw [List.append_assoc]; rfl
structure GRS where
  rs : List (Int × Int)
  n : Nat
set_option maxHeartbeats 0 in
theorem ref01_Show (l : List Int) (hl : l.length ≤ 1000000) (H : Heap) : AC Tryd.prog 14 [.pl (l.map eInt)] H (Ret (.str (bs (showS l))) H) := by
  have hl64 : l.length ≤ 9223372036854775807 := by omega
  refine AC.body (N := 55) [.tmp 2] Tryd.func14 rfl rfl rfl (Nat.le_of_ble_eq_true rfl) fun B hB => ?_
  refine Z4x ?_
  refine Z6 ?_
  refine Zj ?_
  refine Z3m ?_
  refine Z2n ?_
  refine aw_cond rfl (fun hc => ?_) (fun hc => ?_)
  · have hs : sok l = false := by simpa using hc
    rw [showS, hs, if_neg (by simp)]
    refine Z2 ?_
    refine Z5d ?_
    exact Zd
  have hs : sok l = true := by simpa using hc
  have hset := rS_set hs
  have hch := ch_each (sok_ch hs)
  have hrl := Nat.le_trans (sruns_len l) (sok_len256 hs)
  generalize hf : inl l = f at hset
  have cin : ∀ (n : Nat) (H : Heap), AC Tryd.prog 30 [.pl (l.map eInt), .int .i64 (n : Int)] H (Ret (.bool (f n)) H) := fun n H => by have := ref01_in l n hl64 H; rwa [hf] at this
  refine Z4x ?_
  refine Z6 ?_
  refine Z2e ?_
  refine aw_loop (G := GRS) (fun g => g.n ≤ 256 ∧ sruns l = g.rs ++ rS f (256 - g.n) g.n (prevB f g.n)) (fun g => [(0, .pl (l.map eInt)), (3, .str (bs (showRs g.rs))), (4, .int .i64 (g.n : Int))]) (fun _ => H ++ []) (fun g => 256 - g.n) ⟨[], 0⟩ ⟨Nat.zero_le _, by rw [← hset]; rfl⟩ (by rw [show showRs [] = [] from join_nil]; exact (by repeat (first | exact Sub.nil | refine Sub.cons (by first | rfl | (simp [get]; done)) ?_))) (Fit.refl _ _) ?_
  rintro ⟨rs, n⟩ ⟨i1, i2⟩
  simp only at i1 i2 ⊢
  have hrc : ∀ r ∈ rs, 0 ≤ r.1 ∧ r.1 ≤ r.2 ∧ r.2 < 256 := fun r hr => hch r (by rw [i2]; exact List.mem_append_left _ hr)
  have hrsl : rs.length ≤ 256 := by rw [i2, List.length_append] at hrl; omega
  have hsl := showRs_len hrc
  refine Ze ?_
  refine Zp ?_
  refine aw_cond rfl (fun hc => ?_) (fun hc => ?_)
  · have hn : n < 256 := by simp at hc; omega
    have hst : rS f (256 - n) n (prevB f n) = if f n && !prevB f n then ((n : Int), ((lastF f (255 - n) n : Nat) : Int)) :: rS f (256 - (n + 1)) (n + 1) (f n) else rS f (256 - (n + 1)) (n + 1) (f n) := by
      rw [show 256 - n = (255 - n) + 1 by omega, rS, show 256 - (n + 1) = 255 - n by omega]
    refine Z1 ?_
    refine aw_out 26 (.bool (!(f n && !prevB f n))) ?_ ?_
    · refine Zj ?_
      refine Z7 ?_
      refine ao2 (by rintro _ ⟨⟩; decide) (V2.call (cin n _) rfl) ?_
      refine Z3n ?_
      refine ao_split rfl rfl (fun hg4 => ?_) (fun hg4 => ?_)
      · refine Z3o ?_
        refine Z41 ?_
        refine Z42 ?_
        refine Zx ?_
        exact Z75
      · refine Z10 ?_
        refine Z6v ?_
        refine Z3u ?_
        refine ao_split rfl rfl (fun hg7 => ?_) (fun hg7 => ?_)
        · refine Z4h ?_
          refine ao_y1 rfl rfl (by decide) (o_sub (r := ((n - 1 : Nat) : Int)) rfl rfl (by simp at hg7; rw [show (n : Int) - 1 = ((n - 1 : Nat) : Int) by omega]; exact wrap64_ok (by omega) (by omega))) ?_
          refine ao_y rfl rfl (by decide) (V2.call (cin (n - 1) _) rfl) ?_
          refine Z3v ?_
          refine Zx ?_
          exact Z75
        · refine Z4q ?_
          refine Z3v ?_
          refine Zx ?_
          exact Z75
    refine Z1 ?_
    refine aw_cond rfl (fun hc => ?_) (fun hc => ?_)
    · have hno : (f n && !prevB f n) = false := by cases h1 : (f n && !prevB f n) <;> simp_all
      rw [hno, if_neg (by simp)] at hst
      refine Zm ?_
      refine Ze ?_
      refine Z76 ?_
      refine Zc ?_
      exact ⟨⟨rs, n + 1⟩, by simp only; omega, ⟨by simp only; omega, by simp only; rw [prevB_succ, ← hst]; exact i2⟩, (by repeat (first | exact Sub.nil | refine Sub.cons (by first | rfl | (simp [get]; done)) ?_)), Fit.refl _ _⟩
    · have hyes : (f n && !prevB f n) = true := by cases h1 : (f n && !prevB f n) <;> simp_all
      rw [hyes, if_pos rfl] at hst
      have hlast := lastF_le f (255 - n) n
      refine Ze ?_
      refine Z2e ?_
      refine aw_loop (G := Nat) (fun m => n ≤ m ∧ m ≤ 255 ∧ lastF f (255 - n) n = lastF f (255 - m) m) (fun m => [(0, .pl (l.map eInt)), (3, .str (bs (showRs rs))), (4, .int .i64 (n : Int)), (5, .int .i64 (m : Int))]) (fun _ => H ++ []) (fun m => 255 - m) n ⟨Nat.le_refl _, by omega, rfl⟩ (by repeat (first | exact Sub.nil | refine Sub.cons (by first | rfl | (simp [get]; done)) ?_)) (Fit.refl _ _) ?_
      rintro m ⟨j1, j2, j3⟩
      refine Z1 ?_
      refine aw_out 35 (.bool (decide (m < 255) && f (m + 1))) ?_ ?_
      · refine Z7 ?_
        refine Z6z ?_
        refine ao_split rfl rfl (fun hg2 => ?_) (fun hg2 => ?_)
        · refine Z4h ?_
          refine ao_y1 rfl rfl (by decide) (o_add (r := ((m + 1 : Nat) : Int)) rfl rfl (by rw [show (m : Int) + 1 = ((m + 1 : Nat) : Int) by omega]; exact wrap64_ok (by omega) (by omega))) ?_
          refine ao_y rfl rfl (by decide) (V2.call (cin (m + 1) _) rfl) ?_
          refine Zx ?_
          exact Z77
        · refine Z4q ?_
          refine Zx ?_
          exact Z77
      refine Z1 ?_
      refine aw_cond rfl (fun hc => ?_) (fun hc => ?_)
      · simp only [Bool.and_eq_true, decide_eq_true_eq] at hc
        refine Ze ?_
        refine Z78 ?_
        refine Zc ?_
        refine ⟨m + 1, by omega, ⟨by omega, by omega, ?_⟩, (by repeat (first | exact Sub.nil | refine Sub.cons (by first | rfl | (simp [get]; done)) ?_)), Fit.refl _ _⟩
        rw [j3, show 255 - m = (255 - (m + 1)) + 1 by omega, lastF, if_pos hc.2]
      · have hm : lastF f (255 - n) n = m := by
          rw [j3]
          rcases Nat.lt_or_ge m 255 with h | h
          · rw [show 255 - m = (255 - (m + 1)) + 1 by omega, lastF, if_neg (by intro h2; simp [h, h2] at hc)]
          · rw [show 255 - m = 0 by omega]; rfl
        rw [hm] at hst hlast
        have hdn := dec_facts (n := (n : Int)) (by omega) (by omega)
        have hdm := dec_facts (n := (m : Int)) (by omega) (by omega)
        have hpl : (preS rs).length ≤ 8 * rs.length + 1 := by unfold preS; split <;> simp <;> omega
        have hsR := showR_len (a := (n : Int)) (b := (m : Int)) (by omega) (by omega) (by omega)
        refine Z53 ?_
        refine Z6x ?_
        refine Z5c ?_
        refine aw_joinQ ([(0, .pl (l.map eInt)), (3, .str (bs (preS rs))), (4, .int .i64 (n : Int)), (5, .int .i64 (m : Int))]) (H ++ []) ?_ ?_
        · refine Z1 ?_
          refine aw_cond rfl (fun hc => ?_) (fun hc => ?_)
          · have hne : ¬ rs = [] := fun e => by
              have := (showRs_nil hrc).2 e
              simp [this] at hc
            refine Z53 ?_
            refine ao1 (by decide) (o_catBs (q := [44]) rfl rfl (by simp only [List.length_cons, List.length_nil]; omega)) ?_
            refine Z5d ?_
            refine join_nrm ?_ (.inl rfl)
            rw [preS, if_neg hne]
            exact (by repeat (first | exact Sub.nil | refine Sub.cons (by first | rfl | (simp [get]; done)) ?_))
          · have hne : rs = [] := (showRs_nil hrc).1 (by simpa using hc)
            refine Z1 ?_
            refine join_nrm ?_ (.inl rfl)
            rw [preS, if_pos hne, hne, show showRs [] = [] from join_nil]
            exact (by repeat (first | exact Sub.nil | refine Sub.cons (by first | rfl | (simp [get]; done)) ?_))
        refine Z53 ?_
        refine Z7 ?_
        refine ao2 (by rintro _ ⟨⟩; decide) (V2.call (ref01_num n (by omega) _) rfl) ?_
        refine ao1 (by decide) (o_catBs rfl rfl (by omega)) ?_
        refine Z4w ?_
        refine Z8 ?_
        refine Z7 ?_
        refine Z6g ?_
        refine Z5c ?_
        refine aw_joinQ ([(0, .pl (l.map eInt)), (3, .str (bs (preS rs ++ showR ((n : Int), (m : Int))))), (4, .int .i64 (n : Int)), (5, .int .i64 (m : Int))]) (H ++ []) ?_ ?_
        · refine Z1 ?_
          refine aw_cond rfl (fun hc => ?_) (fun hc => ?_)
          · have hlt : n < m := by simp at hc; omega
            refine Z53 ?_
            refine Z7 ?_
            refine ao2 (by rintro _ ⟨⟩; decide) (V2.call (ref01_num m (by omega) _) rfl) ?_
            refine ao1 (by decide) (o_catBs (p := [45]) rfl rfl (by simp only [List.length_cons, List.length_nil]; omega)) ?_
            refine ao1 (by decide) (o_catBs rfl rfl (by simp only [List.length_append, List.length_cons, List.length_nil]; omega)) ?_
            refine Z5d ?_
            refine join_nrm ?_ (.inl rfl)
            rw [showR, if_pos (by simp only; omega), ← List.append_assoc]
            exact (by repeat (first | exact Sub.nil | refine Sub.cons (by first | rfl | (simp [get]; done)) ?_))
          · have hlt : ¬ n < m := by simp at hc; omega
            refine Z1 ?_
            refine join_nrm ?_ (.inl rfl)
            rw [showR, if_neg (by simp only; omega)]
            exact (by repeat (first | exact Sub.nil | refine Sub.cons (by first | rfl | (simp [get]; done)) ?_))
        refine Ze ?_
        refine Z76 ?_
        refine Zc ?_
        refine ⟨⟨rs ++ [((n : Int), (m : Int))], n + 1⟩, by simp only; omega, ⟨by simp only; omega, by simp only; rw [prevB_succ, i2, hst]; simp⟩, ?_, Fit.refl _ _⟩
        simp only
        rw [preS_show]
        exact (by repeat (first | exact Sub.nil | refine Sub.cons (by first | rfl | (simp [get]; done)) ?_))
  · have hn : n = 256 := by simp at hc; omega
    subst hn
    have hfin : sruns l = rs := by rw [i2]; simp [rS]
    rw [showS_ok hs, hfin]
    refine Z53 ?_
    refine Z5d ?_
    exact Zd
end Go.Av

namespace Go.Av
open Go.Proofs Go.RowKit
set_option maxRecDepth 10000
set_option linter.unusedSimpArgs false
set_option linter.unusedVariables false

/-- How a reading goes on: fuel, the number behind which, what is left, what came. -/
def pend (k : Nat) (last : Int) (r : List UInt8) (out : List Int) : List Int × Int := match rp k last r with
  | none => ([], 3)
  | some rs => (out ++ unruns rs, 0)
def pendE (k : Nat) (a b : Int) (r : List UInt8) (out : List Int) : List Int × Int := match rpEnd (rp k) a b r with
  | none => ([], 3)
  | some rs => (out ++ unruns rs, 0)
theorem pend_none {k : Nat} {last : Int} {r : List UInt8} {out : List Int} (h : numS r = none) : pend (k + 1) last r out = ([], 3) := by
  rw [pend, rp, h]
theorem pend_low {k : Nat} {last : Int} {r : List UInt8} {out : List Int} {a j : Nat} (h : numS r = some (a, j)) (h2 : (a : Int) ≤ last + 1) : pend (k + 1) last r out = ([], 3) := by
  rw [pend, rp, h]; simp only; rw [if_pos h2]
theorem pend_one {k : Nat} {last : Int} {r : List UInt8} {out : List Int} {a j : Nat} (h : numS r = some (a, j)) (h2 : ¬ (a : Int) ≤ last + 1) (h3 : (r.drop j).head? ≠ some 45) : pend (k + 1) last r out = pendE k a a (r.drop j) out := by
  rw [pend, rp, h]; simp only; rw [if_neg h2, pendE]
  cases hd : r.drop j with
  | nil => rfl
  | cons c t =>
    rw [hd] at h3
    simp only
    rw [if_neg (by simpa using h3)]
theorem pend_badb {k : Nat} {last : Int} {r r2 : List UInt8} {out : List Int} {a j : Nat} (h : numS r = some (a, j)) (h3 : r.drop j = 45 :: r2) (h4 : numS r2 = none) : pend (k + 1) last r out = ([], 3) := by
  rw [pend, rp, h]; simp only
  by_cases h2 : (a : Int) ≤ last + 1
  · rw [if_pos h2]
  · rw [if_neg h2, h3]; simp only [if_true, h4]
theorem pend_lowb {k : Nat} {last : Int} {r r2 : List UInt8} {out : List Int} {a j b j2 : Nat} (h : numS r = some (a, j)) (h3 : r.drop j = 45 :: r2) (h4 : numS r2 = some (b, j2)) (h5 : (b : Int) ≤ a) : pend (k + 1) last r out = ([], 3) := by
  rw [pend, rp, h]; simp only
  by_cases h2 : (a : Int) ≤ last + 1
  · rw [if_pos h2]
  · rw [if_neg h2, h3]; simp only [if_true, h4]; rw [if_pos h5]
theorem pend_two {k : Nat} {last : Int} {r r2 : List UInt8} {out : List Int} {a j b j2 : Nat} (h : numS r = some (a, j)) (h2 : ¬ (a : Int) ≤ last + 1) (h3 : r.drop j = 45 :: r2) (h4 : numS r2 = some (b, j2)) (h5 : ¬ (b : Int) ≤ a) : pend (k + 1) last r out = pendE k a b (r2.drop j2) out := by
  rw [pend, rp, h]; simp only; rw [if_neg h2, h3]; simp only [if_true, h4]; rw [if_neg h5, pendE]
theorem pendE_nil {k : Nat} {a b : Int} {out : List Int} : pendE k a b [] out = (out ++ rng a b, 0) := by
  simp [pendE, rpEnd, unruns]
theorem pendE_bad {k : Nat} {a b : Int} {c : UInt8} {r : List UInt8} {out : List Int} (h : c ≠ 44) : pendE k a b (c :: r) out = ([], 3) := by
  simp [pendE, rpEnd, h]
theorem pendE_go {k : Nat} {a b : Int} {r : List UInt8} {out : List Int} : pendE k a b (44 :: r) out = pend k b r (out ++ rng a b) := by
  simp only [pendE, rpEnd, if_true, pend]
  cases rp k b r with
  | none => rfl
  | some rs => simp [unruns]
/-- Between two rounds: place, last number, what came; the fuel that is left. -/
structure GRp where
  p : Nat
  last : Int
  out : List Int
  k : Nat
  g : Nat
/-- Behind the numbers of a run. -/
structure GRm where
  b : Nat
  q : Nat
structure GRi where
  m : Nat
  g : Nat
set_option maxHeartbeats 0 in
theorem ref01_Parse (s : List UInt8) (hs0 : s.length ≤ 1000000) (H : Heap) : AC Tryd.prog 11 [.str (bs s)] H (Ret (.tup [.pl ((parseS s).1.map eInt), .int .i64 (parseS s).2]) H) := by
  rw [← parseD_eq]
  refine AC.body (N := 77) [.tmp 2, .tmp 3] Tryd.func11 rfl rfl rfl (Nat.le_of_ble_eq_true rfl) fun B hB => ?_
  refine Z2k ?_
  refine Z3 ?_
  refine Z59 ?_
  refine Z56 ?_
  refine Z6g ?_
  refine Zb ?_
  refine aw_cond rfl (fun hc => ?_) (fun hc => ?_)
  · have hl : 8192 < s.length := by simp at hc; omega
    rw [parseD, if_pos hl]
    exact Z6o
  have hl : ¬ 8192 < s.length := by simp at hc; omega
  refine Z53 ?_
  refine Z55 ?_
  refine Zb ?_
  refine aw_cond rfl (fun hc => ?_) (fun hc => ?_)
  · have hn : s = [] := by simpa using hc
    rw [parseD, if_neg hl, if_pos hn]
    exact Z6o
  have hn : ¬ s = [] := by simpa using hc
  have hP : parseD s = pend (s.length + 1) (-2) s [] := by rw [parseD, if_neg hl, if_neg hn, pend]; cases rp (s.length + 1) (-2) s <;> rfl
  rw [hP]
  generalize hP' : pend (s.length + 1) (-2) s [] = R at hP
  have hP' := hP'.symm
  refine Z2o ?_
  refine Z6p ?_
  refine Z2 ?_
  refine Z3 ?_
  refine Z6 ?_
  refine Z2e ?_
  refine aw_loop (G := GRp) (fun g => g.p ≤ s.length ∧ (s.drop g.p).length < g.k ∧ R = pend g.k g.last (s.drop g.p) g.out ∧ -2 ≤ g.last ∧ g.last ≤ 255 ∧ (g.out.length : Int) ≤ max 0 (g.last + 1)) (fun g => [(0, .str (bs s)), (4, .sl (Lid H.length 0) g.g 0 g.out.length g.out.length), (5, .int .i64 (g.p : Int)), (6, .int .i64 g.last)]) (fun g => H ++ [⟨g.g, 1, g.out.map eInt⟩]) (fun g => g.k) ⟨0, -2, [], s.length + 1, 0⟩ ⟨Nat.zero_le _, by simp, by simpa using hP', by simp, by simp, by simp only [List.length_nil]; omega⟩ (by repeat (first | exact Sub.nil | refine Sub.cons (by first | rfl | (simp [get]; done)) ?_)) (.inl rfl) ?_
  rintro ⟨p, last, out, k, g⟩ ⟨i1, i2, i3, i4, i5, i6⟩
  simp only at i1 i2 i3 i4 i5 i6 ⊢
  obtain ⟨k, rfl⟩ : ∃ k', k = k' + 1 := ⟨k - 1, by omega⟩
  refine Z53 ?_
  refine Z7 ?_
  refine ao2 (by rintro _ ⟨⟩; decide) (V2.call (ref01_number s hs0 p i1 _) rfl) ?_
  refine Z5g ?_
  refine Z5f ?_
  refine Z3 ?_
  refine Z50 ?_
  cases hN : numS (s.drop p) with
  | none =>
    rw [show numR s p = (0, -1) by rw [numR, hN]]
    rw [pend_none hN] at i3
    rw [i3]
    refine Z1 ?_
    refine aw_out 29 (.bool true) ?_ ?_
    · refine Z7 ?_
      refine Z6z ?_
      refine ao_split rfl rfl (fun hg2 => ?_) (fun hg2 => ?_)
      · refine Z6r ?_
        exact Z6s
      · refine Z5t ?_
        exfalso; simp at hg2
    refine Z1 ?_
    refine aw_cond rfl (fun hc => ?_) (fun hc => ?_)
    · exact Z6o
    · simp at hc
  | some q =>
  obtain ⟨a, j⟩ := q
  obtain ⟨n1, n2, n3, n4⟩ := numS_some hN
  rw [List.length_drop] at i2 n3
  rw [show numR s p = ((a : Int), ((p + j : Nat) : Int)) by rw [numR, hN]]
  refine Z1 ?_
  refine aw_out 29 (.bool (decide ((a : Int) ≤ last + 1))) ?_ ?_
  · refine Z7 ?_
    refine Z6z ?_
    refine ao_split rfl rfl (fun hg2 => ?_) (fun hg2 => ?_)
    · refine Z6r ?_
      exact Z79
    · refine Z5t ?_
      refine ao_y1 rfl rfl (by decide) (o_add (r := last + 1) rfl rfl (wrap64_ok (by omega) (by omega))) ?_
      refine Z72 ?_
      refine Zx ?_
      exact Z79
  refine Z1 ?_
  refine aw_cond rfl (fun hc => ?_) (fun hc => ?_)
  · have hlow : (a : Int) ≤ last + 1 := by simpa using hc
    rw [pend_low hN hlow] at i3
    rw [i3]
    exact Z6o
  have hlow : ¬ (a : Int) ≤ last + 1 := by simpa using hc
  refine Ze ?_
  refine Z50 ?_
  have hv : p + j < s.length → s[p + j]? = some (s.getD (p + j) 0) := fun h => by rw [List.getD_eq_getElem?_getD, List.getElem?_eq_getElem h]; rfl
  have hdj : (s.drop p).drop j = s.drop (p + j) := by rw [List.drop_drop]
  have hhead : (s.drop (p + j)).head? = s[p + j]? := List.head?_drop
  generalize hcc : s.getD (p + j) 0 = c at hv
  have hcl : c = 45 ↔ c.toNat = 45 := by
    constructor
    · rintro rfl; rfl
    · intro h; rw [← u8_back c, h]; rfl
  refine Z1 ?_
  refine aw_out 40 (.bool (decide (p + j < s.length) && decide (c.toNat = 45))) ?_ ?_
  · refine Z7 ?_
    refine Z57 ?_
    refine Z6z ?_
    refine ao_split rfl rfl (fun hg4 => ?_) (fun hg4 => ?_)
    · refine Z70 ?_
      refine Z10 ?_
      refine Z71 ?_
      refine Z44 ?_
      refine Zx ?_
      exact Z7a
    · refine Z4q ?_
      refine Zx ?_
      exact Z7a
  refine Z5b ?_
  refine aw_joinG (G := GRm) (fun m => m.b < 256 ∧ a ≤ m.b ∧ p + j ≤ m.q ∧ m.q ≤ s.length ∧ R = pendE k a m.b (s.drop m.q) out) (fun m => [(0, .str (bs s)), (4, .sl (Lid H.length 0) g 0 out.length out.length), (6, .int .i64 last), (7, .int .i64 (a : Int)), (8, .int .i64 (m.q : Int)), (9, .int .i64 (m.b : Int))]) (fun _ => H ++ [⟨g, 1, out.map eInt⟩]) ?_ ?_
  · refine Z1 ?_
    refine aw_cond rfl (fun hc => ?_) (fun hc => ?_)
    · simp only [Bool.and_eq_true, decide_eq_true_eq] at hc
      obtain ⟨hlt, h45⟩ := hc
      have h45 := hcl.2 h45
      have hr2 : (s.drop p).drop j = 45 :: s.drop (p + j + 1) := by rw [hdj, drop_cons (hv hlt), h45]
      refine Z53 ?_
      refine Z7 ?_
      refine ao1 (by decide) (o_add (r := ((p + j + 1 : Nat) : Int)) rfl rfl (by rw [show ((p + j : Nat) : Int) + 1 = ((p + j + 1 : Nat) : Int) by omega]; exact wrap64_ok (by omega) (by omega))) ?_
      refine ao2 (by rintro _ ⟨⟩; decide) (V2.call (ref01_number s hs0 (p + j + 1) (by omega) _) rfl) ?_
      refine Z5g ?_
      refine Z5f ?_
      refine Z3 ?_
      refine Z50 ?_
      cases hN2 : numS (s.drop (p + j + 1)) with
      | none =>
        rw [show numR s (p + j + 1) = (0, -1) by rw [numR, hN2]]
        rw [pend_badb hN hr2 hN2] at i3
        rw [i3]
        refine Z1 ?_
        refine aw_out 54 (.bool true) ?_ ?_
        · refine Z7 ?_
          refine Z6z ?_
          refine ao_split rfl rfl (fun hg2 => ?_) (fun hg2 => ?_)
          · refine Z3p ?_
            exact Z6s
          · refine Z10 ?_
            exfalso; simp at hg2
        refine Z1 ?_
        refine aw_cond rfl (fun hc => ?_) (fun hc => ?_)
        · exact Z6o
        · simp at hc
      | some q2 =>
        obtain ⟨b, j2⟩ := q2
        obtain ⟨m1, m2, m3, m4⟩ := numS_some hN2
        rw [List.length_drop] at m3
        rw [show numR s (p + j + 1) = ((b : Int), ((p + j + 1 + j2 : Nat) : Int)) by rw [numR, hN2]]
        refine Z1 ?_
        refine aw_out 54 (.bool (decide ((b : Int) ≤ a))) ?_ ?_
        · refine Z7 ?_
          refine Z6z ?_
          refine ao_split rfl rfl (fun hg2 => ?_) (fun hg2 => ?_)
          · refine Z3p ?_
            exact Z7b
          · refine Z5t ?_
            refine Z72 ?_
            refine Zx ?_
            exact Z7b
        refine Z1 ?_
        refine aw_cond rfl (fun hc => ?_) (fun hc => ?_)
        · have hba : (b : Int) ≤ a := by simpa using hc
          rw [pend_lowb hN hr2 hN2 hba] at i3
          rw [i3]
          exact Z6o
        · have hba : ¬ (b : Int) ≤ a := by simpa using hc
          rw [pend_two hN hlow hr2 hN2 hba] at i3
          refine Z1 ?_
          refine joinG_nrm ⟨b, p + j + 1 + j2⟩ ⟨m1, by simp only; omega, by simp only; omega, by simp only; omega, ?_⟩ (by repeat (first | exact Sub.nil | refine Sub.cons (by first | rfl | (simp [get]; done)) ?_)) (Fit.refl _ _)
          simp only
          rw [i3, List.drop_drop]
    · refine Z1 ?_
      refine joinG_nrm ⟨a, p + j⟩ ⟨n1, Nat.le_refl _, Nat.le_refl _, by simp only; omega, ?_⟩ (by repeat (first | exact Sub.nil | refine Sub.cons (by first | rfl | (simp [get]; done)) ?_)) (Fit.refl _ _)
      simp only
      rw [i3, pend_one hN hlow, hdj]
      rw [hdj, hhead]
      intro e
      by_cases hlt : p + j < s.length
      · rw [hv hlt] at e
        have := hcl.1 (Option.some.inj e)
        simp [hlt, this] at hc
      · rw [List.getElem?_eq_none (by omega)] at e; cases e
  rintro ⟨b, q⟩ ⟨r1, r2, r3, r4, r5⟩
  simp only at r1 r2 r3 r4 r5 ⊢
  clear i3 hN n4 hv hdj hhead hcc hcl hc
  refine Ze ?_
  refine Z2e ?_
  refine aw_loop (G := GRi) (fun i => a ≤ i.m ∧ i.m ≤ b + 1) (fun i => [(0, .str (bs s)), (4, .sl (Lid H.length 0) i.g 0 (out ++ rng (a : Int) ((i.m : Int) - 1)).length (out ++ rng (a : Int) ((i.m : Int) - 1)).length), (6, .int .i64 last), (7, .int .i64 (a : Int)), (8, .int .i64 (q : Int)), (9, .int .i64 (b : Int)), (10, .int .i64 (i.m : Int))]) (fun i => H ++ [⟨i.g, 1, (out ++ rng (a : Int) ((i.m : Int) - 1)).map eInt⟩]) (fun i => b + 1 - i.m) ⟨a, g⟩ ⟨Nat.le_refl _, by simp only; omega⟩ (by rw [rng_empty (a := (a : Int)) (b := (a : Int) - 1) (by omega), List.append_nil]; exact (by repeat (first | exact Sub.nil | refine Sub.cons (by first | rfl | (simp [get]; done)) ?_))) (.inl (by rw [rng_empty (a := (a : Int)) (b := (a : Int) - 1) (by omega), List.append_nil])) ?_
  rintro ⟨m, g2⟩ ⟨j1, j2⟩
  simp only at j1 j2 ⊢
  have hol : (out ++ rng (a : Int) ((m : Int) - 1)).length ≤ 100000 := by rw [List.length_append, rng_len]; omega
  refine Zf ?_
  refine Zt ?_
  refine Zb ?_
  refine aw_cond rfl (fun hc => ?_) (fun hc => ?_)
  · have hmb : m ≤ b := by simp at hc; omega
    have hsn : out ++ rng (a : Int) (((m + 1 : Nat) : Int) - 1) = (out ++ rng (a : Int) ((m : Int) - 1)) ++ [(m : Int)] := by
      rw [show ((m + 1 : Nat) : Int) - 1 = ((m : Int) - 1) + 1 by omega, rng_snoc (by omega), List.append_assoc, show (m : Int) - 1 + 1 = (m : Int) by omega]
    generalize out ++ rng (a : Int) ((m : Int) - 1) = acc at hol hsn
    refine Z2h ?_
    refine Z2i ?_
    refine Z2j ?_
    refine Z8 ?_
    refine Z78 ?_
    refine Zc ?_
    refine ⟨⟨m + 1, g2 + 1⟩, by simp only; omega, ⟨by simp only; omega, by simp only; omega⟩, by simp only; rw [hsn, List.length_append]; exact (by repeat (first | exact Sub.nil | refine Sub.cons (by first | rfl | (simp [get]; done)) ?_)), Fit.loc hB (G := [⟨0, 1, [[.int .i64 (m : Int)]]⟩]) ?_ (by repeat (first | exact EBel.nil | refine EBel.cons (by first | rfl | (simp [AV.bel, AV.bels, Lid]; done) | (simp [AV.bel, AV.bels, Lid]; omega)) ?_)) ?_⟩
    · simp only
      rw [hsn, List.take_of_length_le (by simp)]
      simp
    · intro o ho r hr
      simp only [List.mem_singleton] at ho
      subst ho
      exact ints_bel _ _ r hr
  · have hmb : m = b + 1 := by simp at hc; omega
    subst hmb
    rw [show ((b + 1 : Nat) : Int) - 1 = (b : Int) by omega] at hol ⊢
    have hlen2 : ((out ++ rng (a : Int) (b : Int)).length : Int) ≤ max 0 ((b : Int) + 1) := by rw [List.length_append, rng_len]; omega
    generalize hacc : out ++ rng (a : Int) (b : Int) = acc at hol hlen2
    refine Ze ?_
    refine Z9 ?_
    refine Z57 ?_
    refine Za ?_
    refine Zb ?_
    refine aw_cond rfl (fun hc => ?_) (fun hc => ?_)
    · have hq : q = s.length := by simp at hc; omega
      rw [hq, List.drop_length, pendE_nil, hacc] at r5
      rw [r5]
      refine Z2g ?_
      refine Z2c ?_
      refine Z2e ?_
      refine aw_freezeL (ys := acc.map eInt) 2 rfl rfl rfl rfl (by rw [List.drop_zero, List.take_of_length_le (by simp)]) (by simp) (ints_bel 0 _) ?_
      exact Z5v
    · have hq : q < s.length := by simp at hc; omega
      obtain ⟨c, hcv⟩ := get_of_lt hq
      rw [drop_cons hcv] at r5
      have hcl : c = 44 ↔ c.toNat = 44 := by
        constructor
        · rintro rfl; rfl
        · intro h; rw [← u8_back c, h]; rfl
      refine Z53 ?_
      refine Z7 ?_
      refine ao1 (by decide) (o_indexBs (n := q) (c := c) rfl rfl hcv) ?_
      refine Z2f ?_
      refine Zb ?_
      refine aw_cond rfl (fun hc => ?_) (fun hc => ?_)
      · have hne : c ≠ 44 := fun e => by have := hcl.1 e; simp [this] at hc
        rw [pendE_bad hne] at r5
        rw [r5]
        exact Z6o
      · have he : c = 44 := hcl.2 (by simp at hc; omega)
        rw [he, pendE_go, hacc] at r5
        refine Ze ?_
        refine ao1 (by decide) (o_add (r := ((q + 1 : Nat) : Int)) rfl rfl (by rw [show (q : Int) + 1 = ((q + 1 : Nat) : Int) by omega]; exact wrap64_ok (by omega) (by omega))) ?_
        refine Zc ?_
        exact ⟨⟨q + 1, (b : Int), acc, k, g2⟩, by simp only; omega, ⟨by simp only; omega, by simp only [List.length_drop]; omega, by simp only; exact r5, by simp only; omega, by simp only; omega, by simp only; exact hlen2⟩, (by repeat (first | exact Sub.nil | refine Sub.cons (by first | rfl | (simp [get]; done)) ?_)), Fit.refl _ _⟩
end Go.Av

/-
  THE LAWS OF SETS, plainly.
-/
namespace Go.Av
abbrev sjoin (a b : List Int) : List Int := setop (· || ·) a b
abbrev smeet (a b : List Int) : List Int := setop (· && ·) a b
abbrev sless (a b : List Int) : List Int := setop (fun x y => x && !y) a b
theorem filter_len (p : Int → Bool) : ∀ l : List Int, (l.filter p).length + (l.filter fun x => !p x).length = l.length
  | [] => rfl
  | x :: l => by
    have := filter_len p l
    cases h : p x <;> simp [h] <;> omega
section
variable {a b c : List Int}
theorem in_join (ha : sok a = true) (hb : sok b = true) (n : Nat) : inl (sjoin a b) n = (inl a n || inl b n) := inl_setop ha hb rfl n
theorem in_meet (ha : sok a = true) (hb : sok b = true) (n : Nat) : inl (smeet a b) n = (inl a n && inl b n) := inl_setop ha hb rfl n
theorem in_less (ha : sok a = true) (hb : sok b = true) (n : Nat) : inl (sless a b) n = (inl a n && !inl b n) := inl_setop ha hb rfl n
theorem join_comm (ha : sok a = true) (hb : sok b = true) : sjoin a b = sjoin b a := sok_ext (sok_setop _ _ _) (sok_setop _ _ _) fun n => by rw [in_join ha hb, in_join hb ha, Bool.or_comm]
theorem meet_comm (ha : sok a = true) (hb : sok b = true) : smeet a b = smeet b a := sok_ext (sok_setop _ _ _) (sok_setop _ _ _) fun n => by rw [in_meet ha hb, in_meet hb ha, Bool.and_comm]
theorem join_assoc (ha : sok a = true) (hb : sok b = true) (hc : sok c = true) : sjoin a (sjoin b c) = sjoin (sjoin a b) c := sok_ext (sok_setop _ _ _) (sok_setop _ _ _) fun n => by
  rw [in_join ha (sok_setop _ _ _), in_join hb hc, in_join (sok_setop _ _ _) hc, in_join ha hb, Bool.or_assoc]
theorem join_parts (ha : sok a = true) (hb : sok b = true) : sjoin (smeet a b) (sless a b) = a := sok_ext (sok_setop _ _ _) ha fun n => by
  rw [in_join (sok_setop _ _ _) (sok_setop _ _ _), in_meet ha hb, in_less ha hb]
  cases inl a n <;> cases inl b n <;> rfl
theorem sapart_iff {a b : List Int} : sapart a b = true ↔ sok a = true ∧ sok b = true ∧ ∀ n, (inl a n && inl b n) = false := by
  unfold sapart
  rw [Bool.and_eq_true, Bool.and_eq_true, decide_eq_true_eq, setl_nil]
  constructor
  · rintro ⟨⟨h1, h2⟩, h3⟩
    refine ⟨h1, h2, fun n => ?_⟩
    by_cases hn : n < 256
    · exact h3 n hn
    · cases h : inl a n with
      | false => rfl
      | true => exact absurd (inl_256 h1 h) hn
  · rintro ⟨h1, h2, h3⟩
    exact ⟨⟨h1, h2⟩, fun n _ => h3 n⟩
theorem apart_parts (ha : sok a = true) (hb : sok b = true) : sapart (smeet a b) (sless a b) = true := sapart_iff.2 ⟨sok_setop _ _ _, sok_setop _ _ _, fun n => by
  rw [in_meet ha hb, in_less ha hb]; cases inl a n <;> cases inl b n <;> rfl⟩
theorem apart_less (ha : sok a = true) (hb : sok b = true) : sapart (sless a b) b = true := sapart_iff.2 ⟨sok_setop _ _ _, hb, fun n => by
  rw [in_less ha hb]; cases inl a n <;> cases inl b n <;> rfl⟩
theorem part_meet (ha : sok a = true) (hb : sok b = true) : spart (smeet a b) b = true := spart_iff.2 ⟨sok_setop _ _ _, hb, fun n h => by
  rw [in_meet ha hb, Bool.and_eq_true] at h; exact h.2⟩
theorem part_join (ha : sok a = true) (hc : sok c = true) : spart a (sjoin a c) = true := spart_iff.2 ⟨ha, sok_setop _ _ _, fun n h => by rw [in_join ha hc, h]; rfl⟩
/-- What is in a set, and asked further. -/
theorem setop_filter {op : Bool → Bool → Bool} (ha : sok a = true) (hb : sok b = true) (hop : ∀ y, op false y = false) : setop op a b = a.filter fun x => op true (inl b x.toNat) := by
  have h1 : (a.filter fun x => op true (inl b x.toNat)).Pairwise (· < ·) := (sok_sorted ha).filter _
  refine sok_ext (sok_setop _ _ _) (sok_of_sorted h1 fun x hx => sok_mem ha (List.mem_filter.1 hx).1) fun n => ?_
  rw [inl_setop ha hb (hop false), Bool.eq_iff_iff]
  rw [inl_mem (l := a.filter _), List.mem_filter]
  cases h : inl a n with
  | false =>
    have : ¬ (n : Int) ∈ a := fun k => by rw [inl_mem.2 k] at h; cases h
    simp [hop, this]
  | true => simp [inl_mem.1 h]
theorem parts_len (ha : sok a = true) (hb : sok b = true) : (smeet a b).length + (sless a b).length = a.length := by
  rw [smeet, sless, setop_filter ha hb (fun _ => rfl), setop_filter ha hb (fun _ => rfl)]
  simp only [Bool.true_and]
  exact filter_len _ a
theorem turn_less (ha : sok a = true) (hb : sok b = true) (hc : sok c = true) : sless a (sjoin b c) = sless (sless a b) c := sok_ext (sok_setop _ _ _) (sok_setop _ _ _) fun n => by
  rw [in_less ha (sok_setop _ _ _), in_join hb hc, in_less (sok_setop _ _ _) hc, in_less ha hb]
  cases inl a n <;> cases inl b n <;> cases inl c n <;> rfl
theorem turn_both (ha : sok a = true) (hb : sok b = true) : sjoin (sless a b) (sless b a) = sless (sjoin a b) (smeet a b) := sok_ext (sok_setop _ _ _) (sok_setop _ _ _) fun n => by
  rw [in_join (sok_setop _ _ _) (sok_setop _ _ _), in_less ha hb, in_less hb ha, in_less (sok_setop _ _ _) (sok_setop _ _ _), in_join ha hb, in_meet ha hb]
  cases inl a n <;> cases inl b n <;> rfl
theorem part_less (ha : sok a = true) (hb : sok b = true) : spart a b = decide ((sless a b).length = 0) := by
  rw [Bool.eq_iff_iff, spart_iff, decide_eq_true_eq, List.length_eq_zero_iff, sless, setop_nil ha hb rfl]
  constructor
  · rintro ⟨_, _, h⟩ n
    cases h1 : inl a n with
    | false => rfl
    | true => rw [h n h1]; rfl
  · intro h
    refine ⟨ha, hb, fun n h1 => ?_⟩
    have := h n
    rw [h1] at this
    simpa using this
theorem apart_meet (ha : sok a = true) (hb : sok b = true) : sapart a b = decide ((smeet a b).length = 0) := by
  rw [Bool.eq_iff_iff, sapart_iff, decide_eq_true_eq, List.length_eq_zero_iff, smeet, setop_nil ha hb rfl]
  exact ⟨fun h => h.2.2, fun h => ⟨ha, hb, h⟩⟩
theorem spart_all (a b : List Int) : spart a b = (sok a && sok b && decide ((smeet a b).length = a.length)) := by
  cases ha : sok a with
  | false => simp [spart, ha]
  | true =>
    cases hb : sok b with
    | false => simp [spart, hb]
    | true =>
      rw [part_less ha hb]
      have := parts_len ha hb
      simp only [Bool.true_and]
      exact decide_eq_decide.2 (by omega)
theorem sapart_all (a b : List Int) : sapart a b = (sok a && sok b && decide ((smeet a b).length = 0)) := by
  cases ha : sok a with
  | false => simp [sapart, ha]
  | true =>
    cases hb : sok b with
    | false => simp [sapart, hb]
    | true => rw [apart_meet ha hb]; simp
theorem join_not (h : (sok a && sok b) = false) : sjoin a b = [] := by rw [sjoin, setop, h]; rfl
end
theorem sok_rng {a b : Int} (h0 : 0 ≤ a) (h1 : b < 256) : sok (rng a b) = true := sok_of_sorted (rng_sorted a b) fun x hx => by have := rng_mem.1 hx; omega
theorem sok_one {c : Int} (h0 : 0 ≤ c) (h1 : c < 256) : sok [c] = true := by rw [← rng_one]; exact sok_rng h0 h1
theorem show_awake : showS [0, 1, 2, 3, 7] = [48, 45, 51, 44, 55] := by
  rw [showS_ok (by decide), show sruns [0, 1, 2, 3, 7] = [(0, 3), (7, 7)] by decide]
  simp [showRs, showR, join_cons2, join_one, dec, Lib.decDigits_one]
theorem show_awake2 : showS [5, 6, 9] = [53, 45, 54, 44, 57] := by
  rw [showS_ok (by decide), show sruns [5, 6, 9] = [(5, 6), (9, 9)] by decide]
  simp [showRs, showR, join_cons2, join_one, dec, Lib.decDigits_one]
theorem parse_awake : parseS [48, 45, 51, 44, 55] = ([0, 1, 2, 3, 7], 0) := by rw [← show_awake]; exact parse_show (by decide)
theorem less_awake : (sless [0, 1, 2, 3, 7] [0, 7]).length = 3 := by decide +kernel
end Go.Av

namespace Go.Av
open Go.Proofs Go.RowKit
set_option maxRecDepth 10000
set_option linter.unusedSimpArgs false
set_option linter.unusedVariables false

set_option maxHeartbeats 0 in
theorem law01_awake (E : Errs) (H : Heap) : ACL Tryd.prog (KS E) 9 [] H (Ret (.bool true) H) := by
  have c1 := fun H => set_Parse E [48, 45, 51, 44, 55] (by decide) H
  rw [parse_awake] at c1
  have c2 := fun H => set_Show E [5, 6, 9] (by decide) H
  rw [show_awake2] at c2
  have c3 := fun H => set_Has [0, 1, 2, 3, 7] 2 (by decide) H
  rw [show (sok [0, 1, 2, 3, 7] && inI [0, 1, 2, 3, 7] 2) = true by decide] at c3
  have c4 := fun H => set_Less [0, 1, 2, 3, 7] [0, 7] (by decide) (by decide) H
  have h4 := less_awake
  have h4 : (setop (fun x y => x && !y) [0, 1, 2, 3, 7] [0, 7]).length = 3 := h4
  refine ACL.body (N := 36) [.tmp 0] Tryd.func9 rfl rfl rfl (Nat.le_of_ble_eq_true rfl) fun B hB => ?_
  refine Z7c ?_
  refine Z7d ?_
  refine Z7f ?_
  refine aw_out 0 (.bool true) ?_ ?_
  · refine Z2r ?_
    refine Zu ?_
    refine ao_split rfl rfl (fun hg2 => ?_) (fun hg2 => ?_)
    · refine Z7g ?_
      refine Z3w ?_
      refine ao_split rfl rfl (fun hg7 => ?_) (fun hg7 => ?_)
      · refine Z3r ?_
        refine ao_y1 rfl rfl (by decide) (w_indexAddrpN (n := 4) (r := eInt 7) rfl rfl rfl rfl) ?_
        refine ao_y1 rfl rfl (by decide) (o_load1p (v := .int .i64 7) rfl rfl rfl) ?_
        refine Z44 ?_
        refine Z3w ?_
        refine ao_split rfl rfl (fun hg13 => ?_) (fun hg13 => ?_)
        · refine ao_y rfl rfl (by decide) (g_litL [eInt 5, eInt 6, eInt 9] rfl (by decide) (by decide) (by decide) rfl rfl (by simp) rfl (by simp [AV.bels, AV.bel])) ?_
          refine ao_y rfl rfl (by decide) (V2.callL (c2 _) rfl ⟨rfl, rfl, rfl, rfl, trivial⟩) ?_
          refine ao_y1 rfl rfl (by decide) (o_eqBs (p := [53, 45, 54, 44, 57]) (q := [53, 45, 54, 44, 57]) rfl rfl) ?_
          refine Z3w ?_
          refine ao_split rfl rfl (fun hg18 => ?_) (fun hg18 => ?_)
          · refine Z3r ?_
            refine ao_y rfl rfl (by decide) (V2.call (c3 _) rfl) ?_
            refine Z3w ?_
            refine ao_split rfl rfl (fun hg22 => ?_) (fun hg22 => ?_)
            · refine Z3r ?_
              refine ao_y rfl rfl (by decide) (g_litL [eInt 0, eInt 7] rfl (by decide) (by decide) (by decide) rfl rfl (by simp) rfl (by simp [AV.bels, AV.bel])) ?_
              refine ao_y rfl rfl (by decide) (V2.callT (c4 _) rfl rfl) ?_
              refine Z6t ?_
              refine Z44 ?_
              refine Z4i ?_
              exact Z7h
            · refine Z4s ?_
              exact Z7h
          · refine Z4u ?_
            refine Z4s ?_
            exact Z7h
        · refine Z7i ?_
          refine Z4u ?_
          refine Z4s ?_
          exact Z7h
      · refine Z4q ?_
        refine Z3w ?_
        refine Z7i ?_
        refine Z4u ?_
        refine Z4s ?_
        exact Z7h
    · refine Z7i ?_
      refine Z4q ?_
      refine Z3w ?_
      refine Z7i ?_
      refine Z4u ?_
      refine Z4s ?_
      exact Z7h
  exact Z4m
set_option maxHeartbeats 0 in
theorem law01_SetReads (E : Errs) (s : List UInt8) (a : List Int) (H : Heap) : ACL Tryd.prog (KS E) 3 [.str (bs s), .pl (a.map eInt)] H (Ret (.bool true) H) := by
  have hs : (s.take (min s.length 2000)).length ≤ 1000000 := by rw [List.length_take]; omega
  refine ACL.body (N := 46) [.tmp 4] Tryd.func3 rfl rfl rfl (Nat.le_of_ble_eq_true rfl) fun B hB => ?_
  refine Z7k ?_
  refine aw_cond rfl (fun hc => ?_) (fun hc => ?_)
  · simp at hc
  refine Z53 ?_
  refine Z57 ?_
  refine Z7l ?_
  refine Z7m ?_
  refine Z4w ?_
  refine Z5 ?_
  generalize s.take (min s.length 2000) = s at hs
  have hp : (parseS s).1.length ≤ 9223372036854775807 := by
    rcases parse_two s with h | h | h
    · obtain ⟨h1, _⟩ := parse_ok (s := s) (l := (parseS s).1) (by rw [← h])
      exact Nat.le_trans (sok_len256 h1) (by decide)
    · rw [parse_err (by omega)]; decide
    · rw [parse_err (by omega)]; decide
  refine Z53 ?_
  refine ao2 (by rintro _ ⟨⟩; decide) (V2.callL (set_Parse E _ (by assumption) _) rfl ⟨rfl, rfl, rfl, rfl, trivial⟩) ?_
  refine Z7e ?_
  refine Z2c ?_
  refine Z3 ?_
  refine Z59 ?_
  refine ao_ret (ref01_Parse _ (by assumption) _) rfl (by decide) ?_
  refine Z7f ?_
  refine aw_out 4 (.bool true) ?_ ?_
  · refine Z1o ?_
    refine Z7n ?_
    refine Zu ?_
    refine ao_split rfl rfl (fun hg3 => ?_) (fun hg3 => ?_)
    · refine Z10 ?_
      refine Z45 ?_
      refine Z3w ?_
      refine ao_split rfl rfl (fun hg8 => ?_) (fun hg8 => ?_)
      · refine Z6u ?_
        refine Z6v ?_
        refine Z3u ?_
        refine ao_split rfl rfl (fun hg12 => ?_) (fun hg12 => ?_)
        · refine Zw ?_
          refine Z3o ?_
          refine Z7o ?_
          exact Z7p
        · refine Z3r ?_
          refine ao_y rfl rfl (by decide) (V2.callL (set_Show E a (by simp at hg12; omega) _) rfl ⟨rfl, rfl, rfl, rfl, trivial⟩) ?_
          refine Z3r ?_
          refine ao_y rfl rfl (by decide) (V2.call (ref01_Show a (by simp at hg12; omega) _) rfl) ?_
          refine Z7q ?_
          refine Z7o ?_
          exact Z7p
      · refine Z4q ?_
        refine Z41 ?_
        refine Z7r ?_
        refine Z4c ?_
        refine Z4i ?_
        exact Z7p
    · refine Z7i ?_
      refine Z4q ?_
      refine Z41 ?_
      refine Z7r ?_
      refine Z4c ?_
      refine Z4i ?_
      exact Z7p
  exact Z4m
set_option maxHeartbeats 0 in
theorem law01_SetRight (E : Errs) (a b : List Int) (n : Int) (H : Heap) : ACL Tryd.prog (KS E) 6 [.pl (a.map eInt), .pl (b.map eInt), .int .i64 n] H (Ret (.bool true) H) := by
  refine ACL.body (N := 113) [.tmp 6] Tryd.func6 rfl rfl rfl (Nat.le_of_ble_eq_true rfl) fun B hB => ?_
  refine Z7k ?_
  refine aw_cond rfl (fun hc => ?_) (fun hc => ?_)
  · simp at hc
  refine Z1 ?_
  refine aw_out 21 (.bool (decide (300 < a.length) || decide (300 < b.length))) ?_ ?_
  · refine Zl ?_
    refine Z6g ?_
    refine Zu ?_
    refine ao_split rfl rfl (fun hg3 => ?_) (fun hg3 => ?_)
    · refine Z3p ?_
      exact Z6s
    · refine Z6u ?_
      refine Z6v ?_
      refine Zx ?_
      exact Z6s
  refine Z1 ?_
  refine aw_cond rfl (fun hc => ?_) (fun hc => ?_)
  · exact Z2v
  have hab : a.length ≤ 300 ∧ b.length ≤ 300 := by simp at hc; omega
  have ha : a.length ≤ 9223372036854775807 := by omega
  have hb : b.length ≤ 9223372036854775807 := by omega
  have w0 := fun H => ref01_Which a b 0 ha hb H
  have w1 := fun H => ref01_Which a b 1 ha hb H
  have w2 := fun H => ref01_Which a b 2 ha hb H
  rw [show opw 0 = (· || ·) by funext x y; simp [opw]] at w0
  rw [show opw 1 = (· && ·) by funext x y; simp [opw]] at w1
  rw [show opw 2 = (fun x y => x && !y) by funext x y; simp [opw]] at w2
  have hpa := spart_all a b
  have hap := sapart_all a b
  refine Z2 ?_
  refine Z7s ?_
  refine Zj ?_
  refine ao2 (by rintro _ ⟨⟩; decide) (g_append_new (sz := 1) (bytes := 8) rfl (Src.pl rfl (ints_len a)) rfl (by decide) (by simp; omega) (by simp; omega) (ints_bel 0 a)) ?_
  refine Z7s ?_
  refine Zj ?_
  refine ao2 (by rintro _ ⟨⟩; decide) (g_append_new (sz := 1) (bytes := 8) rfl (Src.pl rfl (ints_len b)) rfl (by decide) (by simp; omega) (by simp; omega) (ints_bel 0 b)) ?_
  refine Z2c ?_
  refine Z2c ?_
  refine Z2l ?_
  refine ao2 (by rintro _ ⟨⟩; decide) (V2.call (w1 _) rfl) ?_
  refine Z2q ?_
  refine aw_out 10 (.bool (sok a && sok b)) ?_ ?_
  · refine Zj ?_
    refine Z7t ?_
    refine Zu ?_
    refine ao_split rfl rfl (fun hg2 => ?_) (fun hg2 => ?_)
    · refine Z3r ?_
      refine ao_y rfl rfl (by decide) (V2.call (ref01_Right _ (by first | assumption | exact Nat.le_trans (setop_len _ _ _) (by decide)) _) rfl) ?_
      refine Z4i ?_
      exact Z3q
    · refine Z4d ?_
      refine Z4i ?_
      exact Z3q
  refine Z1 ?_
  refine aw_out 11 (.bool true) ?_ ?_
  · refine Zj ?_
    refine Z7u ?_
    refine Zj ?_
    refine Z7t ?_
    refine ao1 (by decide) (o_beq rfl rfl) ?_
    refine Zu ?_
    refine ao_split rfl rfl (fun hg5 => ?_) (fun hg5 => ?_)
    · refine Z7v ?_
      refine Z7w ?_
      refine Z7v ?_
      refine ao_y rfl rfl (by decide) (V2.call (w0 _) rfl) ?_
      refine Z7x ?_
      refine Z3w ?_
      refine ao_split rfl rfl (fun hg14 => ?_) (fun hg14 => ?_)
      · refine Z7v ?_
        refine Z7y ?_
        refine Z3r ?_
        refine Z7x ?_
        refine Z3w ?_
        refine ao_split rfl rfl (fun hg21 => ?_) (fun hg21 => ?_)
        · refine Z7v ?_
          refine Z7z ?_
          refine Z7v ?_
          refine ao_y rfl rfl (by decide) (V2.call (w2 _) rfl) ?_
          refine Z7x ?_
          refine Z4i ?_
          exact Z80
        · refine Z4q ?_
          refine Z4l ?_
          exact Z80
      · refine Z81 ?_
        refine Z4l ?_
        exact Z80
    · refine Z4q ?_
      refine Z7i ?_
      refine Z81 ?_
      refine Z4l ?_
      exact Z80
  refine Z1 ?_
  refine aw_out 6 (.bool true) ?_ ?_
  · refine Zu ?_
    refine Zu ?_
    refine ao_split rfl rfl (fun hg1 => ?_) (fun hg1 => ?_)
    · refine Z4h ?_
      refine Z82 ?_
      refine Z4h ?_
      refine ao_y rfl rfl (by decide) (V2.call (ref01_Has _ _ (by first | assumption | exact Nat.le_trans (setop_len _ _ _) (by decide)) _) rfl) ?_
      refine Z84 ?_
      refine ao_split rfl rfl (fun hg10 => ?_) (fun hg10 => ?_)
      · refine Z7v ?_
        refine Z85 ?_
        refine Z3u ?_
        refine Z3u ?_
        refine ao_split rfl rfl (fun hg15 => ?_) (fun hg15 => ?_)
        · refine Z6u ?_
          refine Z7g ?_
          refine Z86 ?_
          refine ao_split rfl rfl (fun hg24 => ?_) (fun hg24 => ?_)
          · refine Z7v ?_
            refine Z87 ?_
            refine Z3u ?_
            refine Z3u ?_
            refine ao_split rfl rfl (fun hg29 => ?_) (fun hg29 => ?_)
            · refine Z7g ?_
              refine Z86 ?_
              refine ao_split rfl rfl (fun hg36 => ?_) (fun hg36 => ?_)
              · refine Z89 ?_
                refine ao_split rfl rfl (fun hg41 => ?_) (fun hg41 => ?_)
                · refine Z88 ?_
                  refine Z4i ?_
                  exact Z8a
                · exact Z8b
              · exact Z8c
            · refine Z4k ?_
              refine Z86 ?_
              refine ao_split rfl rfl (fun hg36 => ?_) (fun hg36 => ?_)
              · refine Z89 ?_
                refine ao_split rfl rfl (fun hg41 => ?_) (fun hg41 => ?_)
                · refine Z88 ?_
                  refine Z4i ?_
                  exact Z8a
                · exact Z8b
              · exact Z8c
          · refine Z4r ?_
            refine Z8d ?_
            exact Z8c
        · refine Z4r ?_
          refine Z86 ?_
          refine ao_split rfl rfl (fun hg24 => ?_) (fun hg24 => ?_)
          · refine Z7v ?_
            refine Z87 ?_
            refine Z3u ?_
            refine Z3u ?_
            refine ao_split rfl rfl (fun hg29 => ?_) (fun hg29 => ?_)
            · refine Z7g ?_
              refine Z86 ?_
              refine ao_split rfl rfl (fun hg36 => ?_) (fun hg36 => ?_)
              · refine Z89 ?_
                refine ao_split rfl rfl (fun hg41 => ?_) (fun hg41 => ?_)
                · refine Z88 ?_
                  refine Z4i ?_
                  exact Z8a
                · exact Z8b
              · exact Z8c
            · refine Z4k ?_
              refine Z86 ?_
              refine ao_split rfl rfl (fun hg36 => ?_) (fun hg36 => ?_)
              · refine Z89 ?_
                refine ao_split rfl rfl (fun hg41 => ?_) (fun hg41 => ?_)
                · refine Z88 ?_
                  refine Z4i ?_
                  exact Z8a
                · exact Z8b
              · exact Z8c
          · refine Z4r ?_
            refine Z8d ?_
            exact Z8c
      · refine Z4r ?_
        refine Z41 ?_
        refine Z8d ?_
        refine Z4r ?_
        refine Z8d ?_
        exact Z8c
    · refine Z4q ?_
      refine Z7i ?_
      refine Z4r ?_
      refine Z41 ?_
      refine Z8d ?_
      refine Z4r ?_
      refine Z8d ?_
      exact Z8c
  exact Z4m
end Go.Av

namespace Go.Av
open Go.Proofs Go.RowKit
set_option maxRecDepth 10000
set_option linter.unusedSimpArgs false
set_option linter.unusedVariables false

set_option maxHeartbeats 0 in
theorem law01_SetLaws (E : Errs) (a b c : List Int) (ha : a.length ≤ 9223372036854775807) (hb : b.length ≤ 9223372036854775807) (hc9 : c.length ≤ 9223372036854775807) (H : Heap) : ACL Tryd.prog (KS E) 7 [.pl (a.map eInt), .pl (b.map eInt), .pl (c.map eInt)] H (Ret (.bool true) H) := by
  have hjn : (sok a && sok b) = false → setop (· || ·) a b = [] := fun h => join_not h
  refine ACL.body (N := 112) [.tmp 6] Tryd.func7 rfl rfl rfl (Nat.le_of_ble_eq_true rfl) fun B hB => ?_
  refine Z7k ?_
  refine aw_cond rfl (fun hc => ?_) (fun hc => ?_)
  · simp at hc
  refine Z1 ?_
  refine aw_out 23 (.bool (!(sok a && sok b && sok c))) ?_ ?_
  · refine Zj ?_
    refine Z7u ?_
    refine Z3n ?_
    refine ao_split rfl rfl (fun hg3 => ?_) (fun hg3 => ?_)
    · refine Z5o ?_
      refine Z3p ?_
      exact Z3q
    · refine Z8e ?_
      refine Z8f ?_
      refine ao_split rfl rfl (fun hg8 => ?_) (fun hg8 => ?_)
      · refine Z3p ?_
        exact Z3q
      · refine Z8e ?_
        refine Z3s ?_
        refine Zx ?_
        exact Z3q
  refine Z1 ?_
  refine aw_cond rfl (fun hc => ?_) (fun hc => ?_)
  · refine Z1 ?_
    refine aw_out 6 (.bool true) ?_ ?_
    · refine Z1o ?_
      refine Z8g ?_
      refine Zk ?_
      refine Za ?_
      refine Zu ?_
      refine ao_split rfl rfl (fun hg5 => ?_) (fun hg5 => ?_)
      · refine Z3o ?_
        refine Z42 ?_
        refine Z4i ?_
        exact Z8h
      · refine Z8e ?_
        refine Z3u ?_
        refine ao_split rfl rfl (fun hg8 => ?_) (fun hg8 => ?_)
        · refine Z8e ?_
          refine Z7o ?_
          exact Z8h
        · refine Z4d ?_
          refine Z7o ?_
          exact Z8h
    exact Z4m
  have hs : sok a = true ∧ sok b = true ∧ sok c = true := by cases h1 : sok a <;> cases h2 : sok b <;> cases h3 : sok c <;> simp_all
  obtain ⟨ka, kb, kc⟩ := hs
  have f1 := join_comm ka kb
  have f2 := meet_comm ka kb
  have f3 := join_assoc ka kb kc
  have f4 := join_parts ka kb
  have f5 := apart_parts ka kb
  have f6 := apart_less ka kb
  have f7 := part_meet ka kb
  have f8 := part_join ka kc
  have f9 := parts_len ka kb
  simp only [sjoin, smeet, sless] at f1 f2 f3 f4 f5 f6 f7 f8 f9
  refine Z1 ?_
  refine aw_out 68 (.bool false) ?_ ?_
  · refine Z1o ?_
    refine Z8g ?_
    refine Z1o ?_
    refine Z8g ?_
    refine Z7n ?_
    refine Z3n ?_
    refine ao_split rfl rfl (fun hg8 => ?_) (fun hg8 => ?_)
    · refine Zw ?_
      refine Zw ?_
      refine Zw ?_
      refine Z5n ?_
      refine Zw ?_
      refine Zw ?_
      refine Zw ?_
      refine Zw ?_
      refine Z6r ?_
      exact Z8i
    · refine Z7v ?_
      refine Z7y ?_
      refine Z7v ?_
      refine Z7y ?_
      refine Z7x ?_
      refine Z8f ?_
      refine ao_split rfl rfl (fun hg18 => ?_) (fun hg18 => ?_)
      · refine Zw ?_
        refine Zw ?_
        refine Zw ?_
        refine Zw ?_
        refine Z6r ?_
        exact Z8i
      · refine Z7v ?_
        refine Z3r ?_
        refine Z7w ?_
        refine Z7w ?_
        refine Z7v ?_
        refine Z7w ?_
        refine Z3r ?_
        refine Z7w ?_
        refine Z7x ?_
        refine Z3s ?_
        refine Zx ?_
        exact Z8i
  refine Z1 ?_
  refine aw_cond rfl (fun hc => ?_) (fun hc => ?_)
  · simp at hc
  have hl1 := setop_len (· && ·) a b
  have hl2 := setop_len (fun x y => x && !y) a b
  refine Z2g ?_
  refine Zj ?_
  refine Z8j ?_
  refine Z1o ?_
  refine Z8k ?_
  refine Z2c ?_
  refine Z2q ?_
  refine aw_out 6 (.bool true) ?_ ?_
  · refine Z1o ?_
    refine Z8g ?_
    refine Zj ?_
    refine Z7n ?_
    refine Zu ?_
    refine ao_split rfl rfl (fun hg5 => ?_) (fun hg5 => ?_)
    · refine Z7v ?_
      refine Z87 ?_
      refine Z3w ?_
      refine ao_split rfl rfl (fun hg10 => ?_) (fun hg10 => ?_)
      · refine Z7v ?_
        refine Z87 ?_
        refine Z3w ?_
        refine ao_split rfl rfl (fun hg15 => ?_) (fun hg15 => ?_)
        · refine Z7v ?_
          refine Z85 ?_
          refine Z3w ?_
          refine ao_split rfl rfl (fun hg20 => ?_) (fun hg20 => ?_)
          · refine Z7v ?_
            refine Z3r ?_
            refine Z7w ?_
            refine Z85 ?_
            refine Z3w ?_
            refine ao_split rfl rfl (fun hg27 => ?_) (fun hg27 => ?_)
            · refine Z6u ?_
              refine Z6u ?_
              refine ao_y1 rfl rfl (by decide) (o_add (r := (a.length : Int)) rfl rfl (by rw [List.length_map, List.length_map]; rw [show (((setop (· && ·) a b).length : Nat) : Int) + (((setop (fun x y => x && !y) a b).length : Nat) : Int) = (a.length : Int) by omega]; exact wrap64_ok (by omega) (by omega))) ?_
              refine Z7g ?_
              exact Z8l
            · refine Z4q ?_
              refine Z4q ?_
              exact Z8l
          · refine Z81 ?_
            refine Z4q ?_
            exact Z8l
        · refine Z7i ?_
          refine Z81 ?_
          refine Z4q ?_
          exact Z8l
      · refine Z7i ?_
        refine Z7i ?_
        refine Z81 ?_
        refine Z4q ?_
        exact Z8l
    · refine Z7i ?_
      refine Z7i ?_
      refine Z7i ?_
      refine Z81 ?_
      refine Z4q ?_
      exact Z8l
  exact Z4m
set_option maxHeartbeats 0 in
theorem law01_SetTurns (E : Errs) (a b c : List Int) (ha : a.length ≤ 9223372036854775807) (hb : b.length ≤ 9223372036854775807) (hc9 : c.length ≤ 9223372036854775807) (H : Heap) : ACL Tryd.prog (KS E) 8 [.pl (a.map eInt), .pl (b.map eInt), .pl (c.map eInt)] H (Ret (.bool true) H) := by
  refine ACL.body (N := 76) [.tmp 6] Tryd.func8 rfl rfl rfl (Nat.le_of_ble_eq_true rfl) fun B hB => ?_
  refine Z7k ?_
  refine aw_cond rfl (fun hc => ?_) (fun hc => ?_)
  · simp at hc
  refine Z1 ?_
  refine aw_out 23 (.bool (!(sok a && sok b && sok c))) ?_ ?_
  · refine Zj ?_
    refine Z7u ?_
    refine Z3n ?_
    refine ao_split rfl rfl (fun hg3 => ?_) (fun hg3 => ?_)
    · refine Z5o ?_
      refine Z3p ?_
      exact Z3q
    · refine Z8e ?_
      refine Z8f ?_
      refine ao_split rfl rfl (fun hg8 => ?_) (fun hg8 => ?_)
      · refine Z3p ?_
        exact Z3q
      · refine Z8e ?_
        refine Z3s ?_
        refine Zx ?_
        exact Z3q
  refine Z1 ?_
  refine aw_cond rfl (fun hc => ?_) (fun hc => ?_)
  · exact Z2v
  have hs : sok a = true ∧ sok b = true ∧ sok c = true := by cases h1 : sok a <;> cases h2 : sok b <;> cases h3 : sok c <;> simp_all
  obtain ⟨ka, kb, kc⟩ := hs
  have f1 := turn_less ka kb kc
  have f2 := turn_both ka kb
  have f3 := part_less ka kb
  have f4 := apart_meet ka kb
  simp only [sjoin, smeet, sless] at f1 f2 f3 f4
  refine Z2g ?_
  refine Zj ?_
  refine Z8k ?_
  refine Z1o ?_
  refine Z8k ?_
  refine Z8g ?_
  refine Z2c ?_
  refine Z2l ?_
  refine Z8g ?_
  refine Z1o ?_
  refine Z8j ?_
  refine Z8k ?_
  refine Z2q ?_
  refine aw_out 6 (.bool true) ?_ ?_
  · refine Z1o ?_
    refine Zj ?_
    refine Z8g ?_
    refine Z8k ?_
    refine Z1o ?_
    refine Z8k ?_
    refine Zj ?_
    refine Z8k ?_
    refine Z7n ?_
    refine Zu ?_
    refine ao_split rfl rfl (fun hg11 => ?_) (fun hg11 => ?_)
    · refine Z89 ?_
      refine ao_split rfl rfl (fun hg16 => ?_) (fun hg16 => ?_)
      · refine Z7v ?_
        refine Z85 ?_
        refine Z7v ?_
        refine Z7z ?_
        refine Z6t ?_
        refine Z44 ?_
        refine Z84 ?_
        refine ao_split rfl rfl (fun hg27 => ?_) (fun hg27 => ?_)
        · refine Z7v ?_
          refine Z87 ?_
          refine Z7v ?_
          refine Z7y ?_
          refine Z6t ?_
          refine Z44 ?_
          refine Z83 ?_
          refine Z4i ?_
          exact Z8m
        · refine Z4q ?_
          refine Z4s ?_
          exact Z8m
      · refine Z4q ?_
        refine Z81 ?_
        refine Z4s ?_
        exact Z8m
    · refine Z7i ?_
      refine Z4q ?_
      refine Z81 ?_
      refine Z4s ?_
      exact Z8m
  exact Z4m
set_option maxHeartbeats 0 in
theorem law01_SetBack (E : Errs) (a : List Int) (ha : a.length ≤ 9223372036854775807) (s : List UInt8) (H : Heap) : ACL Tryd.prog (KS E) 4 [.pl (a.map eInt), .str (bs s)] H (Ret (.bool true) H) := by
  have hs : (s.take (min s.length 2000)).length ≤ 1000000 := by rw [List.length_take]; omega
  refine ACL.body (N := 58) [.tmp 4] Tryd.func4 rfl rfl rfl (Nat.le_of_ble_eq_true rfl) fun B hB => ?_
  refine Z7k ?_
  refine aw_cond rfl (fun hc => ?_) (fun hc => ?_)
  · simp at hc
  refine Z2g ?_
  refine Z7u ?_
  refine Z5c ?_
  refine aw_joinQ ([(KT, KD.av), (KT + 1, KP.av), (KT + 2, (KY E).av), (KT + 3, (KR E).av), (1, .str (bs s))]) (H ++ []) ?_ ?_
  · refine Z1 ?_
    refine aw_cond rfl (fun hc => ?_) (fun hc => ?_)
    · have ka : sok a = true := hc
      have hl := sok_len256 ka
      have hsl := showS_len ka
      have c1 := fun H => set_Parse E (showS a) (by omega) H
      rw [parse_show ka] at c1
      refine Z2g ?_
      refine ao2 (by rintro _ ⟨⟩; decide) (V2.callL (set_Show E _ (by first | assumption | omega) _) rfl ⟨rfl, rfl, rfl, rfl, trivial⟩) ?_
      refine Z7d ?_
      refine Z7f ?_
      refine aw_out 26 (.bool false) ?_ ?_
      · refine Z7 ?_
        refine Z2f ?_
        refine Zu ?_
        refine ao_split rfl rfl (fun hg2 => ?_) (fun hg2 => ?_)
        · refine Z6r ?_
          exact Z8n
        · refine Z88 ?_
          refine Z3s ?_
          refine Zx ?_
          exact Z8n
      refine Z1 ?_
      refine aw_cond rfl (fun hc => ?_) (fun hc => ?_)
      · simp at hc
      · refine Z1 ?_
        exact join_nrm (by repeat (first | exact Sub.nil | refine Sub.cons (by first | rfl | (simp [get]; done)) ?_)) (.inl rfl)
    · refine Z1 ?_
      exact join_nrm (by repeat (first | exact Sub.nil | refine Sub.cons (by first | rfl | (simp [get]; done)) ?_)) (.inl rfl)
  refine Z53 ?_
  refine Z57 ?_
  refine Z7l ?_
  refine Z7m ?_
  refine Z4w ?_
  refine Z5 ?_
  generalize s.take (min s.length 2000) = s at hs
  have hp : (parseS s).1.length ≤ 256 := by
    rcases parse_two s with h | h | h
    · obtain ⟨h1, _⟩ := parse_ok (s := s) (l := (parseS s).1) (by rw [← h])
      exact sok_len256 h1
    · rw [parse_err (by omega)]; decide
    · rw [parse_err (by omega)]; decide
  have hp2 : (parseS s).1.length ≤ 9223372036854775807 := by omega
  have hok : (parseS s).2 = 0 → sok (parseS s).1 = true ∧ showS (parseS s).1 = s := fun h => parse_ok (s := s) (l := (parseS s).1) (by rw [← h])
  have her : (parseS s).2 ≠ 0 → (parseS s).1 = [] := parse_err
  refine Z53 ?_
  refine ao2 (by rintro _ ⟨⟩; decide) (V2.callL (set_Parse E _ (by first | assumption | omega) _) rfl ⟨rfl, rfl, rfl, rfl, trivial⟩) ?_
  refine Z7f ?_
  refine aw_out 4 (.bool true) ?_ ?_
  · refine Z7 ?_
    refine Z2f ?_
    refine Zu ?_
    refine ao_split rfl rfl (fun hg2 => ?_) (fun hg2 => ?_)
    · refine Z7g ?_
      refine Z3w ?_
      refine ao_split rfl rfl (fun hg7 => ?_) (fun hg7 => ?_)
      · refine Z3o ?_
        refine Z41 ?_
        refine Zw ?_
        refine Z41 ?_
        refine Z42 ?_
        refine Z4i ?_
        exact Z8o
      · refine Z46 ?_
        refine ao_split rfl rfl (fun hg10 => ?_) (fun hg10 => ?_)
        · refine Z8e ?_
          refine Z47 ?_
          refine ao_split rfl rfl (fun hg14 => ?_) (fun hg14 => ?_)
          · refine Z3r ?_
            refine Z8p ?_
            refine Z70 ?_
            refine Z7q ?_
            exact Z8q
          · refine Z4q ?_
            exact Z8q
        · refine Z4d ?_
          refine Z47 ?_
          refine Z4q ?_
          exact Z8q
    · refine Z7i ?_
      refine Z46 ?_
      refine ao_split rfl rfl (fun hg10 => ?_) (fun hg10 => ?_)
      · refine Z8e ?_
        refine Z47 ?_
        refine ao_split rfl rfl (fun hg14 => ?_) (fun hg14 => ?_)
        · refine Z3r ?_
          refine Z8p ?_
          refine Z70 ?_
          refine Z7q ?_
          exact Z8q
        · refine Z4q ?_
          exact Z8q
      · refine Z4d ?_
        refine Z47 ?_
        refine Z4q ?_
        exact Z8q
  exact Z4m
end Go.Av

namespace Go.Av
open Go.Proofs Go.RowKit
set_option maxRecDepth 10000
set_option linter.unusedSimpArgs false
set_option linter.unusedVariables false

theorem inI_mem {l : List Int} {n : Int} : inI l n = true ↔ n ∈ l := by
  unfold inI
  rw [List.any_eq_true]
  constructor
  · rintro ⟨x, hx, e⟩
    have : x = n := by simpa using e
    exact this ▸ hx
  · intro h; exact ⟨n, h, by simp⟩
set_option maxHeartbeats 0 in
theorem law01_SetRuns (E : Errs) (a b c : Int) (ha : 0 ≤ a ∧ a ≤ 255) (hb : 0 ≤ b ∧ b ≤ 255) (hcc : 0 ≤ c ∧ c ≤ 255) (H : Heap) : ACL Tryd.prog (KS E) 5 [.int .u8 a, .int .u8 b, .int .u8 c] H (Ret (.bool true) H) := by
  refine ACL.body (N := 98) [.tmp 6] Tryd.func5 rfl rfl rfl (Nat.le_of_ble_eq_true rfl) fun B hB => ?_
  refine Z7k ?_
  refine aw_cond rfl (fun hc => ?_) (fun hc => ?_)
  · simp at hc
  refine Zf ?_
  refine ao1 (by decide) (o_min (r := min a b) rfl rfl rfl) ?_
  refine ao1 (by decide) (o_conv_int (r := min a b) rfl (wrap64_ok (by omega) (by omega))) ?_
  refine Z7 ?_
  refine Z7 ?_
  refine ao1 (by decide) (o_max (r := max a b) rfl rfl rfl) ?_
  refine ao1 (by decide) (o_conv_int (r := max a b) rfl (wrap64_ok (by omega) (by omega))) ?_
  refine Z3 ?_
  refine Z50 ?_
  generalize hlo : min a b = lo
  generalize hhi : max a b = hi
  have hr : 0 ≤ lo ∧ lo ≤ hi ∧ hi ≤ 255 := by omega
  have hain : a ∈ rng lo hi := rng_mem.2 (by omega)
  clear hlo hhi
  refine Z2o ?_
  refine aw_ghostL (k := 0) 9 1 rfl (by decide) rfl ?_
  refine Ze ?_
  refine Z2e ?_
  refine aw_loop (G := Nat) (fun k => lo + (k : Int) ≤ hi + 1) (fun k => [(KT, KD.av), (KT + 1, KP.av), (KT + 2, (KY E).av), (KT + 3, (KR E).av), (0, .int .u8 a), (2, .int .u8 c), (8, .int .i64 hi), (9, .sl (Lid H.length 0) k 0 k k), (10, .int .i64 (lo + (k : Int)))]) (fun k => H ++ [⟨k, 1, (rng lo (lo + (k : Int) - 1)).map eInt⟩]) (fun k => 257 - k) 0 (by omega) (by rw [show lo + ((0 : Nat) : Int) = lo by omega]; exact (by repeat (first | exact Sub.nil | refine Sub.cons (by first | rfl | (simp [get]; done)) ?_))) (.inl (by rw [show lo + ((0 : Nat) : Int) - 1 = lo - 1 by omega, rng_empty (a := lo) (b := lo - 1) (by omega)]; rfl)) ?_
  intro k hk
  have hkl : (rng lo (lo + (k : Int) - 1)).length = k := by rw [rng_len]; omega
  refine Zf ?_
  refine Zt ?_
  refine Zb ?_
  refine aw_cond rfl (fun hc => ?_) (fun hc => ?_)
  · have hab : lo + (k : Int) ≤ hi := by simpa using hc
    refine Z2h ?_
    refine Z2i ?_
    refine Z2j ?_
    refine Z8 ?_
    refine ao1 (by decide) (o_add (r := lo + ((k + 1 : Nat) : Int)) rfl rfl (by rw [show lo + (k : Int) + 1 = lo + ((k + 1 : Nat) : Int) by omega]; exact wrap64_ok (by omega) (by omega))) ?_
    refine Zc ?_
    refine ⟨k + 1, by omega, by omega, (by repeat (first | exact Sub.nil | refine Sub.cons (by first | rfl | (simp [get]; done)) ?_)), Fit.loc hB (G := [⟨0, 1, [[.int .i64 (lo + (k : Int))]]⟩]) ?_ (by repeat (first | exact EBel.nil | refine EBel.cons (by first | rfl | (simp [AV.bel, AV.bels, Lid]; done) | (simp [AV.bel, AV.bels, Lid]; omega)) ?_)) ?_⟩
    · rw [show lo + ((k + 1 : Nat) : Int) - 1 = (lo + (k : Int) - 1) + 1 by omega, rng_snoc (by omega), List.take_of_length_le (by simp [hkl])]
      simp
    · intro o ho r hr
      simp only [List.mem_singleton] at ho
      subst ho
      exact ints_bel _ _ r hr
  · have hab : lo + (k : Int) = hi + 1 := by simp at hc; omega
    have hkl2 : k = (rng lo hi).length := by rw [rng_len]; omega
    rw [hab, show hi + 1 - 1 = hi by omega]
    have hs : sok (rng lo hi) = true := sok_rng hr.1 (by omega)
    have hone : sok [c] = true := sok_one hcc.1 (by omega)
    have hnot : hi + 1 ∉ rng lo hi := fun h => by have := rng_mem.1 h; omega
    generalize rng lo hi = l at hs hain hnot hkl2
    subst hkl2
    have hl := sok_len256 hs
    have hl9 : l.length ≤ 9223372036854775807 := by omega
    have h19 : [c].length ≤ 9223372036854775807 := by simp
    have hsl := showS_len hs
    have c0 := fun H => set_Show E l (by omega) H
    have c1 := fun H => set_Parse E (showS l) (by omega) H
    rw [parse_show hs] at c1
    have k1 : inI l a = true := inI_mem.2 hain
    have k2 : inI l (hi + 1) = false := by cases h : inI l (hi + 1) with
      | false => rfl
      | true => exact absurd (inI_mem.1 h) hnot
    have ks : sok (setop (fun x y => x && !y) l [c]) = true := sok_setop _ _ _
    have hl2 := setop_len (fun x y => x && !y) l [c]
    have k3 : inI (setop (fun x y => x && !y) l [c]) c = false := by
      cases h : inI (setop (fun x y => x && !y) l [c]) c with
      | false => rfl
      | true =>
        rw [inI_sok ks] at h
        simp only [Bool.and_eq_true, decide_eq_true_eq] at h
        have h2 := h.2
        rw [inl_setop hs hone rfl] at h2
        have : inl [c] c.toNat = true := inl_mem.2 (by rw [Int.toNat_of_nonneg hcc.1]; exact List.mem_cons_self ..)
        rw [this] at h2
        simp at h2
    have k4 : setop (· || ·) (setop (fun x y => x && !y) l [c]) (setop (· && ·) l [c]) = l := by
      have e1 := join_parts hs hone
      have e2 := join_comm (a := smeet l [c]) (b := sless l [c]) (sok_setop _ _ _) (sok_setop _ _ _)
      exact e2.symm.trans e1
    have hsl2 := showS_len ks
    generalize hq : setop (fun x y => x && !y) l [c] = q at ks hl2 k3 k4 hsl2
    have cL := fun H => set_Less l [c] hl9 h19 H
    rw [hq] at cL
    have c2 := fun H => set_Show E q (by omega) H
    have c3 := fun H => set_Parse E (showS q) (by omega) H
    rw [parse_show ks] at c3
    have hq9 : q.length ≤ 9223372036854775807 := by omega
    refine Zm ?_
    refine aw_freezeL (ys := l.map eInt) 9 rfl rfl rfl rfl (by rw [List.drop_zero, List.take_of_length_le (by simp)]) (by simp) (ints_bel 0 _) ?_
    refine Z2g ?_
    refine ao2 (by rintro _ ⟨⟩; decide) (V2.callL (c0 _) rfl ⟨rfl, rfl, rfl, rfl, trivial⟩) ?_
    refine Z7d ?_
    refine Z7f ?_
    refine aw_out 61 (.bool false) ?_ ?_
    · refine Z7 ?_
      refine Z2f ?_
      refine Zu ?_
      refine ao_split rfl rfl (fun hg2 => ?_) (fun hg2 => ?_)
      · refine Zw ?_
        refine Z5n ?_
        refine Zw ?_
        refine Z5o ?_
        refine Z6r ?_
        exact Z8r
      · refine Z88 ?_
        refine Z8f ?_
        refine ao_split rfl rfl (fun hg8 => ?_) (fun hg8 => ?_)
        · refine Zw ?_
          refine Z5o ?_
          refine Z6r ?_
          exact Z8r
        · refine Z4h ?_
          refine ao_y1 rfl rfl (by decide) (o_conv_int (r := a) rfl (wrap64_ok (by omega) (by omega))) ?_
          refine Z82 ?_
          refine Z8f ?_
          refine ao_split rfl rfl (fun hg15 => ?_) (fun hg15 => ?_)
          · refine Z6r ?_
            exact Z8r
          · refine Z4h ?_
            refine ao_y1 rfl rfl (by decide) (o_add (r := hi + 1) rfl rfl (wrap64_ok (by omega) (by omega))) ?_
            refine Z82 ?_
            refine Zx ?_
            exact Z8r
    refine Z1 ?_
    refine aw_cond rfl (fun hc => ?_) (fun hc => ?_)
    · simp at hc
    refine Z2h ?_
    refine ao1 (by decide) (o_conv_int (r := c) rfl (wrap64_ok (by omega) (by omega))) ?_
    refine ao2 (by rintro _ ⟨⟩; decide) (g_lit1 (sz := 1) (v := .int .i64 c) (cs := eInt c) rfl (by decide) (by decide) rfl rfl rfl rfl rfl) ?_
    refine ao2 (by rintro _ ⟨⟩; decide) (V2.callT (cL _) rfl rfl) ?_
    refine Z2c ?_
    refine Z6 ?_
    refine Zj ?_
    refine ao2 (by rintro _ ⟨⟩; decide) (V2.callL (c2 _) rfl ⟨rfl, rfl, rfl, rfl, trivial⟩) ?_
    refine ao2 (by rintro _ ⟨⟩; decide) (V2.callL (c3 _) rfl ⟨rfl, rfl, rfl, rfl, trivial⟩) ?_
    refine Z7f ?_
    refine aw_out 6 (.bool true) ?_ ?_
    · refine Z2r ?_
      refine Zu ?_
      refine ao_split rfl rfl (fun hg2 => ?_) (fun hg2 => ?_)
      · refine Z89 ?_
        refine ao_split rfl rfl (fun hg7 => ?_) (fun hg7 => ?_)
        · refine Z4h ?_
          refine Z8s ?_
          refine Z82 ?_
          refine Z8f ?_
          refine ao_split rfl rfl (fun hg14 => ?_) (fun hg14 => ?_)
          · refine Z7v ?_
            refine Z10 ?_
            refine Z8s ?_
            refine ao_y rfl rfl (by decide) (g_lit1 (sz := 1) (v := .int .i64 c) (cs := eInt c) rfl (by decide) (by decide) rfl rfl rfl rfl rfl) ?_
            refine ao_y rfl rfl (by decide) (V2.callT (set_Meet l [c] hl9 h19 _) rfl rfl) ?_
            refine ao_y rfl rfl (by decide) (V2.callT (set_Join q _ hq9 (Nat.le_trans (setop_len _ _ _) (by decide)) _) rfl rfl) ?_
            refine Z3r ?_
            refine ao_y rfl rfl (by decide) (V2.call (ref01_Same _ _ (Nat.le_trans (setop_len _ _ _) (by decide)) _) rfl) ?_
            refine Z4i ?_
            exact Z8r
          · refine Z4q ?_
            refine Z4s ?_
            exact Z8r
        · refine Z81 ?_
          refine Z4s ?_
          exact Z8r
      · refine Z7i ?_
        refine Z81 ?_
        refine Z4s ?_
        exact Z8r
    exact Z4m
end Go.Av

/-
  The range of a whole number that comes in.
-/
namespace Go.Av
theorem u8_w {i : Int} (h : (Lit.int .u8 i).wf = true) : 0 ≤ i ∧ i ≤ 255 := by
  simp only [Lit.wf, Bool.and_eq_true, decide_eq_true_eq] at h
  exact ⟨h.1, h.2⟩
theorem u16_w {i : Int} (h : (Lit.int .u16 i).wf = true) : 0 ≤ i ∧ i ≤ 65535 := by
  simp only [Lit.wf, Bool.and_eq_true, decide_eq_true_eq] at h
  exact ⟨h.1, h.2⟩
theorem u32_w {i : Int} (h : (Lit.int .u32 i).wf = true) : 0 ≤ i ∧ i ≤ 4294967295 := by
  simp only [Lit.wf, Bool.and_eq_true, decide_eq_true_eq] at h
  exact ⟨h.1, h.2⟩
theorem i64_w {i : Int} (h : (Lit.int .i64 i).wf = true) : -9223372036854775808 ≤ i ∧ i ≤ 9223372036854775807 := by
  simp only [Lit.wf, Bool.and_eq_true, decide_eq_true_eq] at h
  exact ⟨h.1, h.2⟩
end Go.Av

/-
  Lists of numbers, once they are read; the laid tables and the two errors are known.
-/
namespace Go.Av
open Go.Proofs Go.Proofs.YtljahedgdjnohaaDoor
open Go.RowKit
set_option linter.unusedVariables false
set_option maxRecDepth 10000
theorem sentinel_var {P : Program} {W : World} {name n : String} {d : DataW Unit} {rest : List (String × DataW Unit)} {g : Nat} {t : TypeId} (hg : P.globalNamed name = some g) (hty : (P.globals[g]?).map (·.type) = some t) (ht : isIface P t = true)
    (h : laidMet P ((name, .iface n d) :: rest) W) : ∃ u v, W.var? P name = some #[.iface u v] := by
  obtain ⟨ms, hu⟩ := isIface_ud ht
  obtain ⟨ps, ⟨g', t', cs, fuel, p, q, hg', ht', hvar, hd, _, _⟩, _⟩ := h
  obtain rfl := Option.some.inj (hg.symm.trans hg')
  obtain rfl := Option.some.inj (hty.symm.trans ht')
  rw [hvar]
  cases fuel with
  | zero => simp [DataW.trod] at hd
  | succ fuel =>
    unfold DataW.trod at hd
    rw [hu] at hd
    have hcs : cs = cs.toList.toArray := by simp
    generalize cs.toList = l at hd hcs
    subst hcs
    match l, hd with
    | [], hd => simp at hd
    | [x], hd => cases x <;> simp at hd <;> exact ⟨_, _, rfl⟩
    | _ :: _ :: _, hd => simp at hd
theorem kn_of_var {P : Program} {W : World} {name : String} {g : Nat} {v : Value} (hg : P.globalNamed name = some g) (h : W.var? P name = some #[v]) : Kn ⟨g, [v]⟩ [] W := by
  have hx : ∃ ty fz, W.heap[g]? = some (Obj.cells [v].toArray ty fz) := by
    unfold World.var? at h
    rw [hg] at h
    simp only [Option.bind_some] at h
    split at h
    · rename_i cs ty fz e
      obtain rfl := Option.some.inj h
      exact ⟨ty, fz, e⟩
    · cases h
  refine ⟨by rintro ⟨i, s, hs, _⟩; simp at hs, ?_, fun j u hj => ?_, hx⟩
  · obtain ⟨ty, fz, e⟩ := hx
    exact (Array.getElem?_eq_some_iff.1 e).1
  · have := World.var?_cell hg h j
    show W.cell? ⟨g, j, none⟩ = some u
    rw [this]
    simpa using hj
theorem ints_dec {a : AV} (h : CellOk Tryd.prog 4 22 a) : ∃ l : List Int, a = .pl (l.map eInt) ∧ l.length ≤ 9223372036854775807 := by
  obtain ⟨rows, rfl, hn, h3⟩ := cell_sl (SlI.ud (P := Tryd.prog) (t := 22)) (by kernel_rfl : cellTys Tryd.prog 4 3 = some [3]) h
  obtain ⟨l, rfl⟩ := rows_map (e := eInt) fun r hr => by
    have h := h3 r hr
    obtain ⟨a1, r, rfl, h1, h⟩ := row_cons h
    obtain rfl := row_nil h
    obtain ⟨i1, rfl, _⟩ := cell_int (UdI.ud (P := Tryd.prog) (t := 3)) h1
    exact ⟨i1, rfl⟩
  exact ⟨l, rfl, by rw [List.length_map] at hn; exact hn⟩
abbrev laidD : List (String × DataW Unit) := [("math/bits.deBruijn32tab", Rows.laid_math_bits_deBruijn32tab), ("math/bits.deBruijn64tab", Rows.laid_math_bits_deBruijn64tab), ("internal/strconv.uint64pow10", Rows.laid_internal_strconv_uint64pow10), ("unicode/utf8.acceptRanges", Rows.laid_unicode_utf8_acceptRanges), ("strconv.ErrRange", Rows.laid_strconv_ErrRange), ("strconv.ErrSyntax", Rows.laid_strconv_ErrSyntax), ("unicode/utf8.first", Rows.laid_unicode_utf8_first)]
theorem laid_one {W : World} (n : String) (d : DataW Unit) (h : laidMetH Tryd.prog laidD W) (hf : laidD.filter (fun x => x.1 == n) = [(n, d)]) (hp : d.handleName?.isNone = true) : laidMet Tryd.prog [(n, d)] W := by
  have := laidMetH.filter (fun x => x.1 == n) h
  rw [hf, MakeChecks.laidMetH_plain _ _ _ (by simp [hp])] at this
  exact this
theorem laid_knS {W : World} (h : laidMetH Tryd.prog laidD W) : ∃ E, KnS (KS E) [] W := by
  have hb : Kn KD [] W := by
    have hg : Tryd.prog.globalNamed "math/bits.deBruijn64tab" = some 0 := by kernel_rfl
    have h2 : Lib.TabIs Tryd.prog W "math/bits.deBruijn64tab" .u8 (Lib.deBruijn64tab.map fun n : Nat => (n : Int)) :=
      Lib.tabIs_of_head (rest := []) (t := 94) (e := 5) (n := 64) hg (by kernel_rfl) (by kernel_rfl) (by kernel_rfl) (by kernel_rfl) (by kernel_rfl) (laid_one _ _ h rfl rfl)
    exact kn_of_tab hg (by decide) (by unfold KD; rw [List.map_map]; rfl) h2
  have hp : Kn KP [] W := by
    have hg : Tryd.prog.globalNamed "internal/strconv.uint64pow10" = some 4 := by kernel_rfl
    have h2 : Lib.TabIs Tryd.prog W "internal/strconv.uint64pow10" .u64 Lib.pow10Tab :=
      Lib.tabIs_of_head (rest := []) (t := 104) (e := 48) (n := 20) hg (by kernel_rfl) (by kernel_rfl) (by kernel_rfl) (by kernel_rfl) (by kernel_rfl) (laid_one _ _ h rfl rfl)
    exact kn_of_tab hg (by decide) rfl h2
  have gs : Tryd.prog.globalNamed "strconv.ErrSyntax" = some 2 := by kernel_rfl
  have gr : Tryd.prog.globalNamed "strconv.ErrRange" = some 3 := by kernel_rfl
  obtain ⟨u, v, hs⟩ := sentinel_var gs (t := 61) (by kernel_rfl) (by kernel_rfl) (laid_one "strconv.ErrSyntax" Rows.laid_strconv_ErrSyntax h rfl rfl)
  obtain ⟨u2, v2, hr⟩ := sentinel_var gr (t := 61) (by kernel_rfl) (by kernel_rfl) (laid_one "strconv.ErrRange" Rows.laid_strconv_ErrRange h rfl rfl)
  refine ⟨⟨.iface u v, .iface u2 v2, ⟨_, _, rfl⟩, ⟨_, _, rfl⟩⟩, fun p hp2 => ?_⟩
  simp only [KS, List.mem_cons, List.not_mem_nil, or_false] at hp2
  rcases hp2 with rfl | rfl | rfl | rfl
  · exact hb
  · exact hp
  · exact kn_of_var gs hs
  · exact kn_of_var gr hr
theorem SetReads_b (E : Errs) (s : ByteArray) (a : List Int) (H : Heap) : ACL Tryd.prog (KS E) 3 [.str s, .pl (a.map eInt)] H (Ret (.bool true) H) := by
  have := law01_SetReads E s.data.toList a H
  rwa [bs_back] at this
theorem SetBack_b (E : Errs) (a : List Int) (ha : a.length ≤ 9223372036854775807) (s : ByteArray) (H : Heap) : ACL Tryd.prog (KS E) 4 [.pl (a.map eInt), .str s] H (Ret (.bool true) H) := by
  have := law01_SetBack E a ha s.data.toList H
  rwa [bs_back] at this
theorem lay_met (os : Os) (args : Array Value) : laidMetH Tryd.prog laidD ((World.laidAll Tryd.prog os laidD).forCall (fun _ _ => 0) ⟨#[], args, []⟩).memory := by
  rw [MakeChecks.laidMetH_plain _ _ _ (by kernel_rfl)]
  exact laidMet_laidAll _ (by kernel_rfl) (by kernel_rfl)
theorem lay_shaped (os : Os) : (World.laidAll Tryd.prog os laidD).Shaped Tryd.prog := World.shaped_of_ZipB (by kernel_rfl) (by kernel_rfl)
end Go.Av

