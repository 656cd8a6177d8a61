/- A part of the proof: walks through the program over abstract values. -/
import Derived.Test.YtmhfpopbhiloiaaU1
import Derived.Test.YtmhfpopbhiloiaaAv22
namespace Go.Av
open Go.Proofs
set_option maxRecDepth 10000
set_option linter.unusedSimpArgs false
set_option linter.unusedVariables false

theorem lets_low : ∀ i : Nat, i < 36 → (lets.get! i).toNat < 128 := by decide +kernel
theorem lets_get : ∀ i : Nat, i < 36 → lets[i]? = some (lets.get! i) := by decide +kernel
theorem lets_size : lets.size = 36 := by decide +kernel
def ixl (c : Int) : Int := if c < 128 then Lib.indexByte lets.data.toList c.toNat.toUInt8 else -1
theorem ixl_in {c : Int} (h : 0 ≤ c) : decide (0 ≤ ixl c) = inLet c := by
  unfold ixl
  by_cases h1 : c < 128
  · rw [if_pos h1]
    obtain ⟨n, rfl⟩ : ∃ n : Nat, c = n := ⟨c.toNat, by omega⟩
    have : ∀ n : Nat, n < 128 → decide (0 ≤ Lib.indexByte lets.data.toList ((n : Int).toNat.toUInt8)) = inLet n := by decide +kernel
    exact this n (by omega)
  · rw [if_neg h1]
    simp [inLet]
    omega
theorem indexByte_none {l : List UInt8} {c : UInt8} (h : c ∉ l) : Lib.indexByte l c = -1 := by
  induction l with
  | nil => rfl
  | cons b l ih =>
    simp only [List.mem_cons, not_or] at h
    unfold Lib.indexByte
    rw [ih h.2, if_neg (by simpa using fun e => h.1 e.symm)]
    rfl
theorem lets_high {b : UInt8} (h : 128 ≤ b.toNat) (l h' : Nat) : Lib.indexByte (lets.extract l h').data.toList b = -1 := by
  refine indexByte_none fun hm => ?_
  have hm2 : b ∈ lets.data.toList := by
    rw [ByteArray.data_extract] at hm
    rw [Array.toList_extract, List.extract_eq_take_drop] at hm
    exact List.mem_of_mem_drop (List.mem_of_mem_take hm)
  have : ∀ x ∈ lets.data.toList, x.toNat < 128 := by decide +kernel
  have := this b hm2
  omega

set_option maxHeartbeats 0 in
theorem strings_IndexRune (c : Int) (hc0 : 0 ≤ c) (hc1 : c ≤ 1114111) (H : Heap) : AC Try.prog 53 [.str lets, .int .i32 c] H (Ret (.int .i64 (ixl c)) H) := by
  refine AC.body (N := 187) [.tmp 4] Try.func53 rfl rfl rfl (Nat.le_of_ble_eq_true rfl) fun B hB => ?_
  repeat (refine aw_seq ?_)
  refine aw_region ?_
  refine ao1 (by decide) (o_assign (v := .int _ _) rfl) ?_
  refine ao_nil ?_
  repeat (first | refine then_nrm ?_ | refine aw_seq ?_ | refine aw_block ?_)
  refine aw_out 160 (.bool (decide (c < 128))) ?_ ?_
  · refine ao1 (by decide) (o_move (v := .int _ _) rfl) ?_
    refine ao1 (by decide) (o_le rfl rfl) ?_
    refine ao1 (by decide) (o_move (v := .bool _) rfl) ?_
    refine ao_split rfl rfl (fun hg2 => ?_) (fun hg2 => ?_)
    · refine ao_y1 rfl rfl (by decide) (o_move (v := .int _ _) rfl) ?_
      refine ao_y1 rfl rfl (by decide) (o_lt rfl rfl) ?_
      refine ao1 (by decide) (o_pick_t (v := .bool _) rfl rfl) ?_
      refine ao1 (by decide) (o_assign (v := .bool _) rfl) ?_
      exact ao_nil (Out.mk (by rfl) (by repeat (first | exact SubX.refl _ _ | refine SubX.at ?_ | refine SubX.put rfl ?_)))
    · refine ao_nT rfl rfl (by decide) ?_
      refine ao_nT rfl rfl (by decide) ?_
      refine ao1 (by decide) (o_pick_f (v := .bool _) rfl rfl) ?_
      refine ao1 (by decide) (o_assign (v := .bool _) rfl) ?_
      exact ao_nil (Out.mk (by (refine congrArg AV.bool ?_; (refine Bool.eq_iff_iff.mpr ?_; simp only [Bool.and_eq_true, Bool.or_eq_true, Bool.not_eq_true', decide_eq_true_eq, decide_eq_false_iff_not, beq_iff_eq, bne_iff_ne, beq_eq_false_iff_ne, Bool.false_eq_true, Bool.true_eq_false, Bool.and_eq_false_iff, Bool.or_eq_false_iff, List.length_map, false_iff, true_iff, iff_true, iff_false] at *; omega))) (by repeat (first | exact SubX.refl _ _ | refine SubX.at ?_ | refine SubX.put rfl ?_)))
  repeat (refine then_nrm ?_)
  refine aw_cond rfl (fun hc => ?_) (fun hc => ?_)
  · simp at hc
    repeat (refine aw_seq ?_)
    refine aw_region ?_
    refine ao1 (by decide) (o_move (v := .str _) rfl) ?_
    refine ao1 (by decide) (o_move (v := .int _ _) rfl) ?_
    refine ao1 (by decide) (o_conv_int rfl (show IntKind.u8.wrap c = c by simp [IntKind.wrap, IntKind.signed, IntKind.bits]; omega)) ?_
    refine ao_ret (strings_IndexByte _ _ _) rfl (by decide) ?_
    refine ao1 (by decide) (o_assign (v := .int _ _) rfl) ?_
    refine ao_nil ?_
    try dsimp only
    repeat (first | refine then_nrm ?_ | refine blk_ret ?_ | refine aw_ret ?_)
    rw [show Lib.indexByte lets.data.toList c.toNat.toUInt8 = ixl c by rw [ixl, if_pos hc]]
    exact e_done hB (r_tmp rfl .nil) rfl rfl
  have hc128 : 128 ≤ c := by simp at hc; omega
  rw [show ixl c = -1 by rw [ixl, if_neg (by omega)]]
  repeat (refine aw_seq ?_)
  refine aw_region ?_
  refine ao1 (by decide) (o_move (v := .int _ _) rfl) ?_
  refine ao1 (by decide) (o_eq rfl rfl) ?_
  refine ao1 (by decide) (o_assign (v := .bool _) rfl) ?_
  refine ao_nil ?_
  repeat (refine then_nrm ?_)
  refine aw_cond rfl (fun hc => ?_) (fun hc => ?_)
  · refine aw_seq ?_
    refine aw_rangeStr (s := lets) rfl (by decide) (by decide) (by decide) (by decide) (by decide) (by decide) (by decide) (fun _ => True) (fun _ => []) trivial Sub.nil ?_ ?_
    · intro pos r B' hp _ hB'
      rw [lets_size] at hp
      have hlow := lets_low pos hp
      rw [decode_low lets pos hlow]
      repeat (first | refine aw_seq ?_ | refine aw_block ?_)
      refine aw_region ?_
      refine ao1 (by decide) (o_extract (v := .int _ _) rfl rfl) ?_
      refine ao1 (by decide) (o_extract (v := .int _ _) rfl rfl) ?_
      refine ao1 (by decide) (o_assign (v := .int _ _) rfl) ?_
      refine ao1 (by decide) (o_assign (v := .int _ _) rfl) ?_
      refine ao_nil ?_
      try dsimp only
      repeat (first | refine then_nrm ?_ | refine aw_seq ?_)
      refine aw_region ?_
      refine ao1 (by decide) (o_move (v := .int _ _) rfl) ?_
      refine ao1 (by decide) (o_eq rfl rfl) ?_
      refine ao_nil ?_
      repeat (refine then_nrm ?_)
      refine aw_cond rfl (fun hc => ?_) (fun hc => ?_)
      · simp at hc; omega
      · repeat (first | refine then_nrm ?_ | refine blk_nrm ?_ | refine aw_skip ?_)
        exact ⟨trivial, (by repeat (first | exact Sub.nil | refine Sub.cons (by rfl) ?_)), rfl⟩
    · intro pos r hp _
      repeat (first | refine then_nrm ?_ | refine aw_seq ?_)
      refine aw_region ?_
      refine ao1 (by decide) (o_assign (v := .int _ _) rfl) ?_
      refine ao_nil ?_
      repeat (first | refine then_nrm ?_ | refine blk_ret ?_ | refine aw_ret ?_)
      exact e_done hB (r_tmp rfl .nil) rfl rfl
  · repeat (refine aw_seq ?_)
    refine aw_region ?_
    refine ao1 (by decide) (o_move (v := .int _ _) rfl) ?_
    refine ao_ret (utf8_ValidRune _ _) rfl (by decide) ?_
    refine ao1 (by decide) (o_not rfl) ?_
    refine ao1 (by decide) (o_assign (v := .bool _) rfl) ?_
    refine ao_nil ?_
    repeat (refine then_nrm ?_)
    refine aw_cond rfl (fun hc => ?_) (fun hc => ?_)
    · repeat (refine aw_seq ?_)
      refine aw_region ?_
      refine ao1 (by decide) (o_assign (v := .int _ _) rfl) ?_
      refine ao_nil ?_
      repeat (first | refine then_nrm ?_ | refine blk_ret ?_ | refine aw_ret ?_)
      exact e_done hB (r_tmp rfl .nil) rfl rfl
    · have hv : Utf8.valid c = true := by simpa using hc
      obtain ⟨h2, h4, hb⟩ := encode_high hc128 hv
      obtain ⟨m, hm⟩ : ∃ m, (Utf8.encode c).data.toList.length = m + 1 := ⟨_, (Nat.succ_pred (by omega : (Utf8.encode c).data.toList.length ≠ 0)).symm⟩
      have hsz : (Utf8.encode c).size = m + 1 := by show (Utf8.encode c).data.size = m + 1; rw [← Array.length_toList, hm]
      obtain ⟨bl, hbl, hbm⟩ : ∃ bl, (Utf8.encode c)[m]? = some bl ∧ bl ∈ (Utf8.encode c).data.toList := by
        have hlt : m < (Utf8.encode c).size := by omega
        refine ⟨(Utf8.encode c)[m], getElem?_pos (Utf8.encode c) m hlt, ?_⟩
        rw [ByteArray.getElem_eq_getElem_data]
        exact Array.getElem_mem_toList _
      have hb128 := hb bl hbm
      have hlow := lets_low m (by omega)
      have hlm := lets_get m (by omega)
      repeat (first | refine aw_seq ?_ | refine aw_scope ?_)
      refine aw_region ?_
      refine ao1 (by decide) (o_move (v := .int _ _) rfl) ?_
      refine ao1 (by decide) (o_runeStr rfl) ?_
      refine ao1 (by decide) (o_assign (v := .str _) rfl) ?_
      refine ao_nil ?_
      repeat (first | refine then_nrm ?_ | refine aw_seq ?_)
      refine aw_region ?_
      refine ao1 (by decide) (o_move (v := .str _) rfl) ?_
      refine ao1 (by decide) (o_lenStr rfl) ?_
      refine ao1 (by decide) (o_sub (r := (m : Int)) rfl rfl (by rw [hsz, show ((m + 1 : Nat) : Int) - 1 = (m : Int) by omega]; exact wrap64_ok (by omega) (by omega))) ?_
      refine ao1 (by decide) (o_assign (v := .int _ _) rfl) ?_
      refine ao_nil ?_
      repeat (first | refine then_nrm ?_ | refine aw_seq ?_)
      refine aw_region ?_
      refine ao1 (by decide) (o_move (v := .int _ _) rfl) ?_
      refine ao1 (by decide) (o_assign (v := .int _ _) rfl) ?_
      refine ao_nil ?_
      repeat (first | refine then_nrm ?_ | refine aw_seq ?_)
      refine aw_region ?_
      refine ao1 (by decide) (o_assign (v := .int _ _) rfl) ?_
      refine ao_nil ?_
      repeat (first | refine then_nrm ?_ | refine aw_seq ?_ | refine aw_block ?_)
      refine aw_loop (G := Unit) (fun _ => True) (fun _ => [(0, .str lets), (7, .str (Utf8.encode c)), (8, .int .i64 (m : Int)), (9, .int .i64 (m : Int))]) (fun _ => H ++ []) (fun _ => 0) () trivial (by repeat (first | exact Sub.nil | refine Sub.cons (by rfl) ?_)) (Fit.refl _ _) ?_
      rintro _ _
      repeat (refine aw_seq ?_)
      refine aw_region ?_
      refine ao1 (by decide) (o_move (v := .int _ _) rfl) ?_
      refine ao1 (by decide) (o_move (v := .str _) rfl) ?_
      refine ao1 (by decide) (o_lenStr rfl) ?_
      refine ao1 (by decide) (o_lt rfl rfl) ?_
      refine ao_nil ?_
      repeat (refine then_nrm ?_)
      refine aw_cond rfl (fun hc => ?_) (fun hc => ?_)
      · repeat (first | refine then_nrm ?_ | refine aw_seq ?_ | refine aw_block ?_ | refine aw_skip ?_ | refine aw_scope ?_)
        refine aw_drawP mixed none 999 ?_
        refine aq0 0 rfl (by decide +kernel) (by decide) (fun _ => o_move (v := .str _) rfl) ?_
        refine aq0 1 rfl (by decide +kernel) (by decide) (fun _ => o_move (v := .int _ _) rfl) ?_
        refine aq0 2 rfl (by decide +kernel) (by decide) (fun _ => o_indexStr rfl rfl (by omega) hlm) ?_
        refine aq0 3 rfl (by decide +kernel) (by decide) (fun _ => o_move (v := .str _) rfl) ?_
        refine aq0 4 rfl (by decide +kernel) (by decide) (fun _ => o_move (v := .int _ _) rfl) ?_
        refine aq0 5 rfl (by decide +kernel) (by decide) (fun _ => o_indexStr rfl rfl (by omega) hbl) ?_
        refine aq0 6 rfl (by decide +kernel) (by decide) (fun _ => o_ne rfl rfl) ?_
        refine aa_done (by decide +kernel) (by exact fun _ => ⟨_, rfl⟩) ?_
        repeat (refine then_nrm ?_)
        refine aw_cond rfl (fun hc => ?_) (fun hc => ?_)
        · repeat (refine aw_seq ?_)
          refine aw_drawP mixed none 999 ?_
          refine aq0 0 rfl (by decide +kernel) (by decide) (fun _ => o_move (v := .str _) rfl) ?_
          refine aq0 1 rfl (by decide +kernel) (by decide) (fun _ => o_move (v := .int _ _) rfl) ?_
          refine aq0 2 rfl (by decide +kernel) (by decide) (fun _ => o_add rfl rfl (wrap64_ok (by omega) (by omega))) ?_
          refine aq0 3 rfl (by decide +kernel) (by decide) (fun _ => o_sliceStr (l := m + 1) rfl (.some rfl rfl) .none (by rw [lets_size]; omega) (Nat.le_refl _)) ?_
          refine aq0 4 rfl (by decide +kernel) (by decide) (fun _ => o_move (v := .str _) rfl) ?_
          refine aq0 5 rfl (by decide +kernel) (by decide) (fun _ => o_move (v := .int _ _) rfl) ?_
          refine aq0 6 rfl (by decide +kernel) (by decide) (fun _ => o_indexStr rfl rfl (by omega) hbl) ?_
          refine aq02 7 rfl (by decide +kernel) (by decide) (fun _ => V2.call (strings_IndexByte (lets.extract (m + 1) lets.size) (bl.toNat : Int) _) rfl) ?_
          refine aq0 8 rfl (by decide +kernel) (by decide) (fun _ => o_assign (v := .int _ _) rfl) ?_
          refine aa_done (by decide +kernel) (by exact fun _ => ⟨_, rfl⟩) ?_
          rw [show ((bl.toNat : Int).toNat.toUInt8) = bl by simp, lets_high hb128]
          repeat (first | refine then_nrm ?_ | refine aw_seq ?_)
          refine aw_region ?_
          refine ao1 (by decide) (o_move (v := .int _ _) rfl) ?_
          refine ao1 (by decide) (o_lt rfl rfl) ?_
          refine ao_nil ?_
          repeat (refine then_nrm ?_)
          refine aw_cond rfl (fun hc => ?_) (fun hc => ?_)
          · repeat (refine aw_seq ?_)
            refine aw_region ?_
            refine ao1 (by decide) (o_assign (v := .int _ _) rfl) ?_
            refine ao_nil ?_
            repeat (first | refine then_nrm ?_ | refine then_ret ?_ | refine blk_ret ?_ | refine aw_ret ?_)
            exact e_done hB (r_tmp rfl .nil) rfl rfl
          · simp at hc
        · simp at hc
          omega
      · simp [lets_size] at hc
        omega
end Go.Av
