/- A part of the proof: walks through the program over abstract values. -/
import Derived.Test.YtmhfpopbhiloiaaU2
namespace Go.Av
open Go.Proofs
set_option maxRecDepth 10000
set_option linter.unusedSimpArgs false
set_option linter.unusedVariables false

theorem strings_ContainsRune (c : Int) (h0 : 0 ≤ c) (h1 : c ≤ 1114111) (H : Heap) : AC Try.prog 45 [.str lets, .int .i32 c] H (Ret (.bool (inLet c)) H) := by
  refine AC.body (N := 9) [.tmp 4] Try.func45 rfl rfl rfl (Nat.le_of_ble_eq_true rfl) fun B hB => ?_
  repeat (refine aw_seq ?_)
  refine aw_region ?_
  refine ao1 (by decide) (o_assign (v := .bool _) rfl) ?_
  refine ao_nil ?_
  repeat (first | refine then_nrm ?_ | refine aw_seq ?_)
  refine aw_region ?_
  refine ao1 (by decide) (o_move (v := .str _) rfl) ?_
  refine ao1 (by decide) (o_move (v := .int _ _) rfl) ?_
  refine ao_ret (strings_IndexRune _ (by assumption) (by assumption) _) rfl (by decide) ?_
  refine ao1 (by decide) (o_ge rfl rfl) ?_
  refine ao1 (by decide) (o_assign (v := .bool _) rfl) ?_
  refine ao_nil ?_
  repeat (first | refine then_nrm ?_ | refine aw_ret ?_)
  rw [← ixl_in h0]
  exact e_done hB (r_tmp rfl .nil) rfl rfl
theorem graph_Tag_1 (c : Int) (h0 : 0 ≤ c) (h1 : c ≤ 1114111) (H : Heap) : AC Try.prog 44 [.int .i32 c] H (Ret (.bool (!inLet c)) H) := by
  refine AC.body (N := 6) [.tmp 2] Try.func44 rfl rfl rfl (Nat.le_of_ble_eq_true rfl) fun B hB => ?_
  repeat (refine aw_seq ?_)
  refine aw_region ?_
  refine ao1 (by decide) (o_assign (v := .bool _) rfl) ?_
  refine ao_nil ?_
  repeat (first | refine then_nrm ?_ | refine aw_seq ?_)
  refine aw_region ?_
  refine ao1 (by decide) (o_move (v := .int _ _) rfl) ?_
  refine ao_ret (strings_ContainsRune _ (by assumption) (by assumption) _) rfl (by decide) ?_
  refine ao1 (by decide) (o_not rfl) ?_
  refine ao1 (by decide) (o_assign (v := .bool _) rfl) ?_
  refine ao_nil ?_
  repeat (first | refine then_nrm ?_ | refine aw_ret ?_)
  exact e_done hB (r_tmp rfl .nil) rfl rfl

theorem str_get {s : ByteArray} {k : Nat} (h : k < s.size) : ∃ b : UInt8, s[k]? = some b ∧ s.data.toList[k]? = some b ∧ s.get! k = b := by
  refine ⟨s[k], getElem?_pos s k h, ?_, ?_⟩
  · rw [Array.getElem?_toList]; exact getElem?_pos s.data k h
  · show s.get! k = _
    simp [ByteArray.get!, getElem!_pos, h]
    rfl
theorem str_len (s : ByteArray) : s.data.toList.length = s.size := by rw [Array.length_toList]; rfl
theorem dec_ok {s : ByteArray} {k : Nat} {b : UInt8} (h : s.get! k = b) : inLet ((Utf8.decode s k).1 : Int) = tagb b ∧ (Utf8.decode s k).1 ≤ 1114111 ∧ (tagb b = true → (Utf8.decode s k).2 = 1) := by
  by_cases hb : b.toNat < 128
  · have := decode_low s k (by rw [h]; exact hb)
    rw [this, h]
    exact ⟨rfl, by simp only; omega, fun _ => rfl⟩
  · have := decode_high s k (by rw [h]; omega)
    have hn : tagb b = false := by simp [tagb, inLet]; omega
    refine ⟨?_, this.2, fun h => by rw [hn] at h; cases h⟩
    rw [hn]
    simp [inLet]
    omega

theorem strings_indexFunc (s : ByteArray) (H : Heap) : AC Try.prog 56 [.str s, .fn (.func 44) [] [], .bool true] H (Ret (.int .i64 (ixf (fun b => !tagb b) s.data.toList)) H) := by
  refine AC.body (N := 21) [.tmp 6] Try.func56 rfl rfl rfl (Nat.le_of_ble_eq_true rfl) fun B hB => ?_
  repeat (refine aw_seq ?_)
  refine aw_region ?_
  refine ao1 (by decide) (o_assign (v := .int _ _) rfl) ?_
  refine ao_nil ?_
  refine then_nrm ?_
  refine aw_seq ?_
  refine aw_rangeStr (s := s) rfl (by decide) (by decide) (by decide) (by decide) (by decide) (by decide) (by decide) (fun k => k ≤ s.size ∧ ∀ b ∈ s.data.toList.take k, (!tagb b) = false) (fun _ => [(1, .fn (.func 44) [] []), (2, .bool true)]) ⟨Nat.zero_le _, by simp⟩ (by repeat (first | exact Sub.nil | refine Sub.cons (by rfl) ?_)) ?_ ?_
  · rintro k r B' hp ⟨hk, hno⟩ hB'
    obtain ⟨b, h1, h2, h3⟩ := str_get hp
    obtain ⟨d1, d2, d3⟩ := dec_ok h3
    generalize Utf8.decode s k = q at d1 d2 d3
    repeat (first | refine aw_seq ?_ | refine aw_block ?_)
    refine aw_region ?_
    refine ao1 (by decide) (o_extract (v := .int _ _) rfl rfl) ?_
    refine ao1 (by decide) (o_extract (v := .int _ _) rfl rfl) ?_
    refine ao1 (by decide) (o_assign (v := .int _ _) rfl) ?_
    refine ao1 (by decide) (o_assign (v := .int _ _) rfl) ?_
    refine ao_nil ?_
    repeat (first | refine then_nrm ?_ | refine aw_seq ?_)
    refine aw_region ?_
    refine ao1 (by decide) (o_move (v := .fn _ _ _) rfl) ?_
    refine ao1 (by decide) (o_move (v := .int _ _) rfl) ?_
    refine ao_retv (graph_Tag_1 (q.1 : Int) (by omega) (by omega) _) rfl rfl (by decide) ?_
    refine ao1 (by decide) (o_move (v := .bool _) rfl) ?_
    refine ao1 (by decide) (o_beq rfl rfl) ?_
    refine ao_nil ?_
    rw [d1]
    repeat (refine then_nrm ?_)
    refine aw_cond rfl (fun hc => ?_) (fun hc => ?_)
    · have hb : (!tagb b) = true := by simpa using hc
      repeat (refine aw_seq ?_)
      refine aw_region ?_
      refine ao1 (by decide) (o_move (v := .int _ _) rfl) ?_
      refine ao1 (by decide) (o_assign (v := .int _ _) rfl) ?_
      refine ao_nil ?_
      repeat (first | refine then_nrm ?_ | refine then_ret ?_ | refine blk_ret ?_ | refine aw_ret ?_)
      rw [ixf_some (p := fun b => !tagb b) h2 hb hno]
      exact e_done hB (r_tmp rfl .nil) rfl rfl
    · have hb : (!tagb b) = false := by simpa using hc
      have hq := d3 (by simpa using hb)
      repeat (first | refine then_nrm ?_ | refine blk_nrm ?_ | refine aw_skip ?_)
      rw [hq]
      refine ⟨⟨by omega, ?_⟩, (by repeat (first | exact Sub.nil | refine Sub.cons (by rfl) ?_)), rfl⟩
      rw [take_snoc_get h2]
      intro y hy
      rcases List.mem_append.1 hy with h | h
      · exact hno y h
      · simp only [List.mem_singleton] at h
        subst h
        exact hb
  · rintro k r hp ⟨hk, hno⟩
    have : k = s.size := by omega
    subst this
    rw [← str_len, List.take_length] at hno
    rw [ixf_none (p := fun b => !tagb b) hno]
    repeat (first | refine then_nrm ?_ | refine aw_seq ?_)
    refine aw_region ?_
    refine ao1 (by decide) (o_assign (v := .int _ _) rfl) ?_
    refine ao_nil ?_
    repeat (first | refine then_nrm ?_ | refine aw_ret ?_)
    exact e_done hB (r_tmp rfl .nil) rfl rfl
theorem strings_IndexFunc (s : ByteArray) (H : Heap) : AC Try.prog 52 [.str s, .fn (.func 44) [] []] H (Ret (.int .i64 (ixf (fun b => !tagb b) s.data.toList)) H) := by
  refine AC.body (N := 8) [.tmp 4] Try.func52 rfl rfl rfl (Nat.le_of_ble_eq_true rfl) fun B hB => ?_
  repeat (refine aw_seq ?_)
  refine aw_region ?_
  refine ao1 (by decide) (o_assign (v := .int _ _) rfl) ?_
  refine ao_nil ?_
  repeat (first | refine then_nrm ?_ | refine aw_seq ?_)
  refine aw_region ?_
  refine ao1 (by decide) (o_move (v := .str _) rfl) ?_
  refine ao1 (by decide) (o_move (v := .fn _ _ _) rfl) ?_
  refine ao_ret (strings_indexFunc _ _) rfl (by decide) ?_
  refine ao1 (by decide) (o_assign (v := .int _ _) rfl) ?_
  refine ao_nil ?_
  repeat (first | refine then_nrm ?_ | refine aw_ret ?_)
  exact e_done hB (r_tmp rfl .nil) rfl rfl
theorem strings_ContainsFunc (s : ByteArray) (H : Heap) : AC Try.prog 43 [.str s, .fn (.func 44) [] []] H (Ret (.bool (s.data.toList.any fun b => !tagb b)) H) := by
  refine AC.body (N := 9) [.tmp 4] Try.func43 rfl rfl rfl (Nat.le_of_ble_eq_true rfl) fun B hB => ?_
  repeat (refine aw_seq ?_)
  refine aw_region ?_
  refine ao1 (by decide) (o_assign (v := .bool _) rfl) ?_
  refine ao_nil ?_
  repeat (first | refine then_nrm ?_ | refine aw_seq ?_)
  refine aw_region ?_
  refine ao1 (by decide) (o_move (v := .str _) rfl) ?_
  refine ao1 (by decide) (o_move (v := .fn _ _ _) rfl) ?_
  refine ao_ret (strings_IndexFunc _ _) rfl (by decide) ?_
  refine ao1 (by decide) (o_ge rfl rfl) ?_
  refine ao1 (by decide) (o_assign (v := .bool _) rfl) ?_
  refine ao_nil ?_
  repeat (first | refine then_nrm ?_ | refine aw_ret ?_)
  rw [← ixf_nonneg]
  exact e_done hB (r_tmp rfl .nil) rfl rfl
/-- A tag of a node? -/
def tagok (s : ByteArray) : Bool := decide ((s.size : Int) ≤ 16) && s.data.toList.all tagb
theorem graph_Tag (s : ByteArray) (H : Heap) : AC Try.prog 29 [.str s] H (Ret (.bool (tagok s)) H) := by
  rw [show tagok s = (decide ((s.size : Int) ≤ 16) && !(s.data.toList.any fun b => !tagb b)) by simp [tagok, List.all_eq_not_any_not]]
  refine AC.body (N := 11) [.tmp 2] Try.func29 rfl rfl rfl (Nat.le_of_ble_eq_true rfl) fun B hB => ?_
  repeat (refine aw_seq ?_)
  refine aw_region ?_
  refine ao1 (by decide) (o_assign (v := .bool _) rfl) ?_
  refine ao_nil ?_
  repeat (first | refine then_nrm ?_ | refine aw_seq ?_)
  refine aw_out 2 (.bool (decide ((s.size : Int) ≤ 16) && !(s.data.toList.any fun b => !tagb b))) ?_ ?_
  · refine ao1 (by decide) (o_move (v := .str _) rfl) ?_
    refine ao1 (by decide) (o_lenStr rfl) ?_
    refine ao1 (by decide) (o_le rfl rfl) ?_
    refine ao1 (by decide) (o_move (v := .bool _) rfl) ?_
    refine ao_split rfl rfl (fun hg3 => ?_) (fun hg3 => ?_)
    · refine ao_y1 rfl rfl (by decide) (o_move (v := .str _) rfl) ?_
      refine ao_y rfl rfl (by decide) (V2.call (strings_ContainsFunc _ _) rfl) ?_
      refine ao_y1 rfl rfl (by decide) (o_not rfl) ?_
      refine ao1 (by decide) (o_pick_t (v := .bool _) rfl rfl) ?_
      refine ao1 (by decide) (o_assign (v := .bool _) rfl) ?_
      exact ao_nil (Out.mk (by (refine congrArg AV.bool ?_; (simp_all; done))) (by repeat (first | exact SubX.refl _ _ | refine SubX.at ?_ | refine SubX.put rfl ?_)))
    · refine ao_nT rfl rfl (by decide) ?_
      refine ao_nT rfl rfl (by decide) ?_
      refine ao_nT rfl rfl (by decide) ?_
      refine ao1 (by decide) (o_pick_f (v := .bool _) rfl rfl) ?_
      refine ao1 (by decide) (o_assign (v := .bool _) rfl) ?_
      exact ao_nil (Out.mk (by (refine congrArg AV.bool ?_; (refine Bool.eq_iff_iff.mpr ?_; simp only [Bool.and_eq_true, Bool.or_eq_true, Bool.not_eq_true', decide_eq_true_eq, decide_eq_false_iff_not, beq_iff_eq, bne_iff_ne, beq_eq_false_iff_ne, Bool.false_eq_true, Bool.true_eq_false, Bool.and_eq_false_iff, Bool.or_eq_false_iff, List.length_map, false_iff, true_iff, iff_true, iff_false] at *; omega))) (by repeat (first | exact SubX.refl _ _ | refine SubX.at ?_ | refine SubX.put rfl ?_)))
  repeat (first | refine then_nrm ?_ | refine aw_ret ?_)
  exact e_done hB (r_tmp rfl .nil) rfl rfl
theorem ref05_Tag (s : ByteArray) (H : Heap) (hs : s.size ≤ 9223372036854775807) : AC Try.prog 27 [.str s] H (Ret (.bool (tagok s)) H) := by
  refine AC.body (N := 37) [.tmp 2] Try.func27 rfl rfl rfl (Nat.le_of_ble_eq_true rfl) fun B hB => ?_
  repeat (refine aw_seq ?_)
  refine aw_region ?_
  refine ao1 (by decide) (o_assign (v := .bool _) rfl) ?_
  refine ao_nil ?_
  repeat (first | refine then_nrm ?_ | refine aw_seq ?_)
  refine aw_region ?_
  refine ao1 (by decide) (o_assign (v := .int _ _) rfl) ?_
  refine ao_nil ?_
  repeat (first | refine then_nrm ?_ | refine aw_block ?_)
  refine aw_loop (G := Nat) (fun k => k ≤ s.size ∧ (s.data.toList.take k).all tagb = true) (fun k => [(0, .str s), (3, .int .i64 (k : Int))]) (fun _ => H ++ []) (fun k => s.size - k) 0 ⟨Nat.zero_le _, by simp⟩ (by repeat (first | exact Sub.nil | refine Sub.cons (by rfl) ?_)) (Fit.refl _ _) ?_
  rintro k ⟨hk, hno⟩
  repeat (refine aw_seq ?_)
  refine aw_region ?_
  refine ao1 (by decide) (o_move (v := .int _ _) rfl) ?_
  refine ao1 (by decide) (o_move (v := .str _) rfl) ?_
  refine ao1 (by decide) (o_lenStr rfl) ?_
  refine ao1 (by decide) (o_lt rfl rfl) ?_
  refine ao_nil ?_
  repeat (refine then_nrm ?_)
  refine aw_cond rfl (fun hc => ?_) (fun hc => ?_)
  · have hlt : k < s.size := by simp at hc; omega
    obtain ⟨b, h1, h2, h3⟩ := str_get hlt
    have hbm := List.mem_of_getElem? h2
    repeat (first | refine then_nrm ?_ | refine aw_seq ?_ | refine aw_block ?_ | refine aw_skip ?_)
    refine aw_out 33 (.bool (!tagb b)) ?_ ?_
    · refine ao1 (by decide) (o_move (v := .str _) rfl) ?_
      refine ao1 (by decide) (o_move (v := .int _ _) rfl) ?_
      refine ao1 (by decide) (o_indexStr rfl rfl (by omega) h1) ?_
      refine ao1 (by decide) (o_ge rfl rfl) ?_
      refine ao1 (by decide) (o_move (v := .bool _) rfl) ?_
      refine ao_split rfl rfl (fun hg4 => ?_) (fun hg4 => ?_)
      · refine ao_y1 rfl rfl (by decide) (o_move (v := .str _) rfl) ?_
        refine ao_y1 rfl rfl (by decide) (o_move (v := .int _ _) rfl) ?_
        refine ao_y1 rfl rfl (by decide) (o_indexStr rfl rfl (by omega) h1) ?_
        refine ao_y1 rfl rfl (by decide) (o_le rfl rfl) ?_
        refine ao1 (by decide) (o_pick_t (v := .bool _) rfl rfl) ?_
        refine ao1 (by decide) (o_not rfl) ?_
        refine ao1 (by decide) (o_move (v := .bool _) rfl) ?_
        refine ao_split rfl rfl (fun hg11 => ?_) (fun hg11 => ?_)
        · refine ao_y1 rfl rfl (by decide) (o_move (v := .str _) rfl) ?_
          refine ao_y1 rfl rfl (by decide) (o_move (v := .int _ _) rfl) ?_
          refine ao_y1 rfl rfl (by decide) (o_indexStr rfl rfl (by omega) h1) ?_
          refine ao_y1 rfl rfl (by decide) (o_ge rfl rfl) ?_
          refine ao_y1 rfl rfl (by decide) (o_move (v := .bool _) rfl) ?_
          refine ao_split rfl rfl (fun hg16 => ?_) (fun hg16 => ?_)
          · refine ao_y1 rfl rfl (by decide) (o_move (v := .str _) rfl) ?_
            refine ao_y1 rfl rfl (by decide) (o_move (v := .int _ _) rfl) ?_
            refine ao_y1 rfl rfl (by decide) (o_indexStr rfl rfl (by omega) h1) ?_
            refine ao_y1 rfl rfl (by decide) (o_le rfl rfl) ?_
            refine ao_y1 rfl rfl (by decide) (o_pick_t (v := .bool _) rfl rfl) ?_
            refine ao_y1 rfl rfl (by decide) (o_not rfl) ?_
            refine ao1 (by decide) (o_pick_t (v := .bool _) rfl rfl) ?_
            exact ao_nil (Out.mk (by (refine congrArg AV.bool ?_; simp only [tagb, inLet] at *; grind)) (by repeat (first | exact SubX.refl _ _ | refine SubX.at ?_ | refine SubX.put rfl ?_)))
          · refine ao_nT rfl rfl (by decide) ?_
            refine ao_nT rfl rfl (by decide) ?_
            refine ao_nT rfl rfl (by decide) ?_
            refine ao_nT rfl rfl (by decide) ?_
            refine ao_y1 rfl rfl (by decide) (o_pick_f (v := .bool _) rfl rfl) ?_
            refine ao_y1 rfl rfl (by decide) (o_not rfl) ?_
            refine ao1 (by decide) (o_pick_t (v := .bool _) rfl rfl) ?_
            exact ao_nil (Out.mk (by (refine congrArg AV.bool ?_; simp only [tagb, inLet] at *; grind)) (by repeat (first | exact SubX.refl _ _ | refine SubX.at ?_ | refine SubX.put rfl ?_)))
        · refine ao_nT rfl rfl (by decide) ?_
          refine ao_nT rfl rfl (by decide) ?_
          refine ao_nT rfl rfl (by decide) ?_
          refine ao_nT rfl rfl (by decide) ?_
          refine ao_nT rfl rfl (by decide) ?_
          refine ao_nU rfl rfl (by decide) ?_
          refine ao_nU rfl rfl (by decide) ?_
          refine ao_nU rfl rfl (by decide) ?_
          refine ao_nU rfl rfl (by decide) ?_
          refine ao_nT rfl rfl (by decide) ?_
          refine ao_nT rfl rfl (by decide) ?_
          refine ao1 (by decide) (o_pick_f (v := .bool _) rfl rfl) ?_
          exact ao_nil (Out.mk (by (refine congrArg AV.bool ?_; simp only [tagb, inLet] at *; grind)) (by repeat (first | exact SubX.refl _ _ | refine SubX.at ?_ | refine SubX.put rfl ?_)))
      · refine ao_nT rfl rfl (by decide) ?_
        refine ao_nT rfl rfl (by decide) ?_
        refine ao_nT rfl rfl (by decide) ?_
        refine ao_nT rfl rfl (by decide) ?_
        refine ao1 (by decide) (o_pick_f (v := .bool _) rfl rfl) ?_
        refine ao1 (by decide) (o_not rfl) ?_
        refine ao1 (by decide) (o_move (v := .bool _) rfl) ?_
        refine ao_y1 rfl rfl (by decide) (o_move (v := .str _) rfl) ?_
        refine ao_y1 rfl rfl (by decide) (o_move (v := .int _ _) rfl) ?_
        refine ao_y1 rfl rfl (by decide) (o_indexStr rfl rfl (by omega) h1) ?_
        refine ao_y1 rfl rfl (by decide) (o_ge rfl rfl) ?_
        refine ao_y1 rfl rfl (by decide) (o_move (v := .bool _) rfl) ?_
        refine ao_split rfl rfl (fun hg16 => ?_) (fun hg16 => ?_)
        · refine ao_y1 rfl rfl (by decide) (o_move (v := .str _) rfl) ?_
          refine ao_y1 rfl rfl (by decide) (o_move (v := .int _ _) rfl) ?_
          refine ao_y1 rfl rfl (by decide) (o_indexStr rfl rfl (by omega) h1) ?_
          refine ao_y1 rfl rfl (by decide) (o_le rfl rfl) ?_
          refine ao_y1 rfl rfl (by decide) (o_pick_t (v := .bool _) rfl rfl) ?_
          refine ao_y1 rfl rfl (by decide) (o_not rfl) ?_
          refine ao1 (by decide) (o_pick_t (v := .bool _) rfl rfl) ?_
          exact ao_nil (Out.mk (by (refine congrArg AV.bool ?_; simp only [tagb, inLet] at *; grind)) (by repeat (first | exact SubX.refl _ _ | refine SubX.at ?_ | refine SubX.put rfl ?_)))
        · refine ao_nT rfl rfl (by decide) ?_
          refine ao_nT rfl rfl (by decide) ?_
          refine ao_nT rfl rfl (by decide) ?_
          refine ao_nT rfl rfl (by decide) ?_
          refine ao_y1 rfl rfl (by decide) (o_pick_f (v := .bool _) rfl rfl) ?_
          refine ao_y1 rfl rfl (by decide) (o_not rfl) ?_
          refine ao1 (by decide) (o_pick_t (v := .bool _) rfl rfl) ?_
          exact ao_nil (Out.mk (by (refine congrArg AV.bool ?_; simp only [tagb, inLet] at *; grind)) (by repeat (first | exact SubX.refl _ _ | refine SubX.at ?_ | refine SubX.put rfl ?_)))
    repeat (refine then_nrm ?_)
    refine aw_cond rfl (fun hc => ?_) (fun hc => ?_)
    · repeat (refine aw_seq ?_)
      refine aw_region ?_
      refine ao1 (by decide) (o_assign (v := .bool _) rfl) ?_
      refine ao_nil ?_
      repeat (first | refine then_nrm ?_ | refine then_ret ?_ | refine blk_ret ?_ | refine aw_ret ?_)
      rw [show tagok s = false by rw [tagok, all_fail hbm (by simpa using hc), Bool.and_false]]
      exact e_done hB (r_tmp rfl .nil) rfl rfl
    · repeat (first | refine then_nrm ?_ | refine blk_nrm ?_ | refine aw_skip ?_)
      refine aw_region ?_
      refine ao1 (by decide) (o_move (v := .int _ _) rfl) ?_
      refine ao1 (by decide) (o_add rfl rfl (wrap64_ok (by omega) (by omega))) ?_
      refine ao1 (by decide) (o_assign (v := .int _ _) rfl) ?_
      refine ao_nil ?_
      repeat (refine then_nrm ?_)
      exact ⟨k + 1, by omega, ⟨by omega, all_step h2 hno (by simpa using hc)⟩, (by repeat (first | exact Sub.nil | refine Sub.cons (by rfl) ?_)), .refl _ _⟩
  · have : k = s.size := by simp at hc; omega
    subst this
    rw [← str_len, List.take_length] at hno
    rw [show tagok s = decide ((s.size : Int) ≤ 16) by rw [tagok, hno, Bool.and_true]]
    repeat (first | refine then_nrm ?_ | refine then_brk ?_ | refine blk_hit ?_ | refine aw_seq ?_ | refine aw_exit ?_)
    refine aw_region ?_
    refine ao1 (by decide) (o_move (v := .str _) rfl) ?_
    refine ao1 (by decide) (o_lenStr rfl) ?_
    refine ao1 (by decide) (o_le rfl rfl) ?_
    refine ao1 (by decide) (o_assign (v := .bool _) rfl) ?_
    refine ao_nil ?_
    repeat (first | refine then_nrm ?_ | refine aw_ret ?_)
    exact e_done hB (r_tmp rfl .nil) rfl rfl
end Go.Av
