/- Parts of the proof: rules for an abstract memory, plain laws, and walks through the program. -/
import Derived.Test.YtljahedgdjnohaaCodeP3
import Derived.Test.YtljahedgdjnohaaCodeP2
import Derived.Recover
namespace Go.Av
open Go.Proofs
set_option maxRecDepth 10000
set_option linter.unusedSimpArgs false
set_option linter.unusedVariables false

def setR (x : Except Int (List Int × List UInt8)) : Except Int (AV × List UInt8) := match x with
  | .ok (l, r) => .ok (.pl (l.map eInt), r)
  | .error e => .error e
theorem ints_bel0 (n : Nat) (l : List Int) : ∀ r ∈ l.map eInt, AV.bels n r = true := rows_bel (e := eInt) (fun _ => rfl) l
theorem ints_len1 (l : List Int) : ∀ r ∈ l.map eInt, r.length = 1 := rows_len (e := eInt) (n := 1) (fun _ => rfl) l
theorem ints_obel (n : Nat) (l : List Int) : ∀ o ∈ [AObj.mk l.length 1 (l.map eInt)], ∀ r ∈ o.rows, AV.bels n r = true := by
  intro o ho r hr
  simp only [List.mem_singleton] at ho
  subst ho
  exact ints_bel0 _ _ r hr
theorem goti_len (a m : Nat) : (goti a (a + m)).length = m + 1 := by unfold goti; rw [List.length_map, List.length_range]; omega
def gotk (a k : Nat) : List Int := (List.range k).map fun j => ((a + j : Nat) : Int)
theorem gotk_step (a k : Nat) : gotk a (k + 1) = gotk a k ++ [((a + k : Nat) : Int)] := by unfold gotk; rw [List.range_succ, List.map_append]; rfl
theorem gotk_goti (a m : Nat) : gotk a (m + 1) = goti a (a + m) := by unfold gotk goti; rw [show a + m + 1 - a = m + 1 by omega]
set_option maxHeartbeats 0 in
theorem code_rset (b0 : List UInt8) (id g : Nat) (H : Heap) (h : id < H.length) : AC Try.prog 40 [.pt id g 0 0] (Hs H id g b0) (rdS H id g (setR (rset b0))) := by
  refine AC.body (N := 71) [.tmp 2] Try.func40 rfl rfl rfl (Nat.le_of_ble_eq_true rfl) fun B hB => ?_
  repeat (refine aw_seq ?_)
  refine aw_region ?_
  refine ao1 (by decide) (o_assign (v := .nsl) rfl) ?_
  refine ao_nil ?_
  cases b0 with
  | nil =>
    repeat (first | refine then_nrm ?_ | refine aw_seq ?_)
    refine aw_region ?_
    refine ao1 (by decide) (o_move (v := .pt _ _ _ _) rfl) ?_
    refine ao_rd rfl (by decide) h (code_kind [] 2 id g) (by rintro v r e; cases e) (by rintro e r e1; cases e1; (repeat (refine then_pan ?_)); exact e_rdX hB rfl)
  | cons c b0 =>
  by_cases hk : c ≠ 2
  · have hk' : ¬ (c.toNat : Int) = 2 := fun e => hk (UInt8.toNat_inj.1 (by show c.toNat = 2; omega))
    have ck := code_kind (c :: b0) 2 id g
    rw [kindS, if_neg hk'] at ck
    have hres : setR (rset (c :: b0)) = .error 3 := by rw [rset, if_pos hk]; rfl
    repeat (first | refine then_nrm ?_ | refine aw_seq ?_)
    refine aw_region ?_
    refine ao1 (by decide) (o_move (v := .pt _ _ _ _) rfl) ?_
    refine ao_rd rfl (by decide) h ck (by rintro v r e; cases e) (by rintro e r e1; cases e1; (repeat (refine then_pan ?_)); exact e_rdX hB hres)
  have hk' : (c.toNat : Int) = 2 := by have : c = 2 := by simpa using hk
                                       subst this; rfl
  have ck := code_kind (c :: b0) 2 id g
  rw [kindS, if_pos hk'] at ck
  have hrs : rset (c :: b0) = (match got 0 0 b0 with
      | .error e => .error e
      | .ok (many, b) => if 256 < many then .error 3 else gots many true 0 [] b) := by rw [rset, if_neg hk]; rfl
  repeat (first | refine then_nrm ?_ | refine aw_seq ?_)
  refine aw_region ?_
  refine ao1 (by decide) (o_move (v := .pt _ _ _ _) rfl) ?_
  refine ao_rd rfl (by decide) h ck (fun v r' e => ?_) (by rintro e r e1; cases e1); cases e
  refine ao_nil ?_
  have cn := code_num b0 id g
  cases hg : got 0 0 b0 with
  | error e0 =>
    rw [hg] at hrs cn
    have hres : setR (rset (c :: b0)) = .error e0 := by rw [hrs]; rfl
    repeat (first | refine then_nrm ?_ | refine aw_seq ?_)
    refine aw_region ?_
    refine ao1 (by decide) (o_move (v := .pt _ _ _ _) rfl) ?_
    refine ao_rd rfl (by decide) h cn (by rintro v r e; cases e) (by rintro e r e1; cases e1; (repeat (refine then_pan ?_)); exact e_rdX hB hres)
  | ok x =>
  obtain ⟨many, b1⟩ := x
  rw [hg] at hrs cn
  simp only at hrs
  have hm62 := (got_rest hg).2
  repeat (first | refine then_nrm ?_ | refine aw_seq ?_)
  refine aw_region ?_
  refine ao1 (by decide) (o_move (v := .pt _ _ _ _) rfl) ?_
  refine ao_rd rfl (by decide) h cn (fun v r' e => ?_) (by rintro e r e1; cases e1); cases e
  refine ao1 (by decide) (o_assign (v := .int _ _) rfl) ?_
  refine ao_nil ?_
  by_cases hmany : 256 < many
  · have hres : setR (rset (c :: b0)) = .error 3 := by rw [hrs, if_pos hmany]; rfl
    repeat (first | refine then_nrm ?_ | refine aw_seq ?_)
    refine aw_region ?_
    refine ao1 (by decide) (o_move (v := .int _ _) rfl) ?_
    refine ao1 (by decide) (o_le rfl rfl) ?_
    refine ao_need (b := false) (by refine congrArg (fun x => [AV.bool x, AV.int .i64 3]) ?_; simp; omega) (by decide) code_need (fun hb => (by cases hb)) (fun _ => (by (repeat (refine then_pan ?_)); exact e_rdX hB hres))
  rw [if_neg hmany] at hrs
  repeat (first | refine then_nrm ?_ | refine aw_seq ?_)
  refine aw_region ?_
  refine ao1 (by decide) (o_move (v := .int _ _) rfl) ?_
  refine ao1 (by decide) (o_le rfl rfl) ?_
  refine ao_need (b := true) (by refine congrArg (fun x => [AV.bool x, AV.int .i64 3]) ?_; simp; omega) (by decide) code_need (fun _ => ?_) (fun hb => (by cases hb))
  refine ao_nil ?_
  repeat (first | refine then_nrm ?_ | refine aw_seq ?_)
  refine aw_region ?_
  refine ao1 (by decide) (o_assign (v := .nsl) rfl) ?_
  refine ao_nil ?_
  repeat (first | refine then_nrm ?_ | refine aw_seq ?_)
  refine aw_ghostL (k := 0) 4 1 rfl (by decide) rfl ?_
  rw [hs_len, List.nil_append]
  refine aw_region ?_
  refine ao1 (by decide) (o_assign (v := .int _ _) rfl) ?_
  refine ao_nil ?_
  repeat (first | refine then_nrm ?_ | refine aw_seq ?_)
  refine aw_region ?_
  refine ao1 (by decide) (o_move (v := .int _ _) rfl) ?_
  refine ao1 (by decide) (o_move (v := .int _ _) rfl) ?_
  refine ao_nil ?_
  repeat (first | refine then_nrm ?_ | refine aw_block ?_)
  refine aw_loop (G := Nat × Nat × List Int × List UInt8) (fun s => gots (many - s.1) (s.1 == 0) s.2.1 s.2.2.1 s.2.2.2 = rset (c :: b0) ∧ s.1 ≤ many ∧ s.2.1 < 256 ∧ s.2.2.1.length ≤ 256 * s.1) (fun s => [(0, .pt id g 0 0), (4, .sl (Lid H.length 0) s.2.2.1.length 0 s.2.2.1.length s.2.2.1.length), (5, .int .i64 (s.2.1 : Int)), (17, .int .i64 (many : Int)), (18, .int .i64 (s.1 : Int))]) (fun s => Hs H id g s.2.2.2 ++ [⟨s.2.2.1.length, 1, s.2.2.1.map eInt⟩]) (fun s => many - s.1) (0, 0, [], b1) ⟨by rw [hrs]; rfl, Nat.zero_le _, by show 0 < 256; decide, Nat.zero_le _⟩ (by repeat (first | exact Sub.nil | refine Sub.cons (by rfl) ?_)) (.inl rfl) ?_
  rintro ⟨i, last, acc, bs⟩ ⟨hspec, him, hlast, hal⟩
  simp only at hspec him hlast hal ⊢
  repeat (refine aw_seq ?_)
  refine aw_region ?_
  refine ao1 (by decide) (o_lt rfl rfl) ?_
  refine ao_nil ?_
  repeat (first | refine then_nrm ?_ | refine aw_seq ?_)
  refine aw_cond rfl (fun hc => ?_) (fun hc => ?_)
  · have hi : i < many := by simp at hc; omega
    obtain ⟨m', hm'⟩ : ∃ m', many - i = m' + 1 := ⟨many - i - 1, by omega⟩
    rw [hm', gots] at hspec
    repeat (first | refine then_nrm ?_ | refine aw_seq ?_ | refine aw_block ?_ | refine aw_skip ?_)
    refine aw_region ?_
    refine ao1 (by decide) (o_move (v := .int _ _) rfl) ?_
    refine ao1 (by decide) (o_assign (v := .int _ _) rfl) ?_
    refine ao_nil ?_
    have c1 := code_num bs id g
    cases h1 : got 0 0 bs with
    | error e1 =>
      rw [h1] at hspec c1
      have hres : setR (rset (c :: b0)) = .error e1 := by rw [← hspec]; rfl
      repeat (first | refine then_nrm ?_ | refine aw_seq ?_)
      refine aw_region ?_
      refine ao1 (by decide) (o_move (v := .pt _ _ _ _) rfl) ?_
      refine ao_rd rfl (by decide) h c1 (by rintro v r e; cases e) (by rintro e r e1; cases e1; (repeat (first | refine then_pan ?_ | refine blk_pan ?_)); exact e_rdX hB hres)
    | ok x1 =>
    obtain ⟨far, b2⟩ := x1
    rw [h1] at hspec c1
    simp only at hspec
    have hf62 := (got_rest h1).2
    have c2 := code_num b2 id g
    cases h2 : got 0 0 b2 with
    | error e2 =>
      rw [h2] at hspec c2
      have hres : setR (rset (c :: b0)) = .error e2 := by rw [← hspec]; rfl
      repeat (first | refine then_nrm ?_ | refine aw_seq ?_)
      refine aw_region ?_
      refine ao1 (by decide) (o_move (v := .pt _ _ _ _) rfl) ?_
      refine ao_rd rfl (by decide) h c1 (fun v r' e => ?_) (by rintro e r e1; cases e1); cases e
      refine ao1 (by decide) (o_move (v := .pt _ _ _ _) rfl) ?_
      refine ao_rd rfl (by decide) h c2 (by rintro v r e; cases e) (by rintro e r e1; cases e1; (repeat (first | refine then_pan ?_ | refine blk_pan ?_)); exact e_rdX hB hres)
    | ok x2 =>
    obtain ⟨more, b3⟩ := x2
    rw [h2] at hspec c2
    simp only at hspec
    have hm62' := (got_rest h2).2
    repeat (first | refine then_nrm ?_ | refine aw_seq ?_)
    refine aw_region ?_
    refine ao1 (by decide) (o_move (v := .pt _ _ _ _) rfl) ?_
    refine ao_rd rfl (by decide) h c1 (fun v r' e => ?_) (by rintro e r e1; cases e1); cases e
    refine ao1 (by decide) (o_move (v := .pt _ _ _ _) rfl) ?_
    refine ao_rd rfl (by decide) h c2 (fun v r' e => ?_) (by rintro e r e1; cases e1); cases e
    refine ao1 (by decide) (o_assign (v := .int _ _) rfl) ?_
    refine ao1 (by decide) (o_assign (v := .int _ _) rfl) ?_
    refine ao_nil ?_
    by_cases hok : far < 256 ∧ more < 256 ∧ last + far + more < 256 ∧ ((i == 0) = true ∨ 1 < far)
    case neg =>
      rw [if_neg hok] at hspec
      have hres : setR (rset (c :: b0)) = .error 3 := by rw [← hspec]; rfl
      have hbad : far < 256 → more < 256 → last + far + more < 256 → i = 0 ∨ 1 < far → False := fun k1 k2 k3 k4 => hok ⟨k1, k2, k3, k4.imp (fun e => by simp [e]) (fun e => e)⟩
      clear hspec hok c1 c2 cn ck hrs
      repeat (first | refine then_nrm ?_ | refine aw_seq ?_)
      refine aw_region ?_
      refine ao1 (by decide) (o_move (v := .int _ _) rfl) ?_
      refine ao1 (by decide) (o_lt rfl rfl) ?_
      refine ao1 (by decide) (o_move (v := .bool _) rfl) ?_
      refine ao_split rfl rfl (fun hg2 => ?_) (fun hg2 => ?_)
      · refine ao_y1 rfl rfl (by decide) (o_move (v := .int _ _) rfl) ?_
        refine ao_y1 rfl rfl (by decide) (o_lt rfl rfl) ?_
        refine ao1 (by decide) (o_pick_t (v := .bool _) rfl rfl) ?_
        refine ao1 (by decide) (o_move (v := .bool _) rfl) ?_
        refine ao_split rfl rfl (fun hg6 => ?_) (fun hg6 => ?_)
        · refine ao_y1 rfl rfl (by decide) (o_move (v := .int _ _) rfl) ?_
          refine ao_y1 rfl rfl (by decide) (o_move (v := .int _ _) rfl) ?_
          refine ao_y1 rfl rfl (by decide) (o_add (r := (last : Int) + (far : Int)) rfl rfl (wrap64_ok (by omega) (by omega))) ?_
          refine ao_y1 rfl rfl (by decide) (o_move (v := .int _ _) rfl) ?_
          refine ao_y1 rfl rfl (by decide) (o_add (r := (last : Int) + (far : Int) + (more : Int)) rfl rfl (by have h1 := of_decide_eq_true hg2; have h2 := of_decide_eq_true hg6; exact wrap64_ok (by omega) (by omega))) ?_
          refine ao_y1 rfl rfl (by decide) (o_lt rfl rfl) ?_
          refine ao1 (by decide) (o_pick_t (v := .bool _) rfl rfl) ?_
          refine ao1 (by decide) (o_move (v := .bool _) rfl) ?_
          refine ao_split rfl rfl (fun hg14 => ?_) (fun hg14 => ?_)
          · refine ao_y1 rfl rfl (by decide) (o_move (v := .int _ _) rfl) ?_
            refine ao_y1 rfl rfl (by decide) (o_eq rfl rfl) ?_
            refine ao_y1 rfl rfl (by decide) (o_move (v := .bool _) rfl) ?_
            refine ao_split rfl rfl (fun hg17 => ?_) (fun hg17 => ?_)
            · refine ao_nF rfl rfl (by decide) ?_
              refine ao_nF rfl rfl (by decide) ?_
              refine ao_y1 rfl rfl (by decide) (o_pick_t (v := .bool _) rfl rfl) ?_
              refine ao1 (by decide) (o_pick_t (v := .bool _) rfl rfl) ?_
              refine ao_need (b := false) (by refine congrArg (fun x => [AV.bool x, AV.int .i64 3]) ?_; (simp_all; omega)) (by decide) code_need (fun hb => (by cases hb)) (fun _ => (by (repeat (first | refine then_pan ?_ | refine blk_pan ?_)); exact e_rdX hB hres))
            · refine ao_y1 rfl rfl (by decide) (o_move (v := .int _ _) rfl) ?_
              refine ao_y1 rfl rfl (by decide) (o_gt rfl rfl) ?_
              refine ao_y1 rfl rfl (by decide) (o_pick_f (v := .bool _) rfl rfl) ?_
              refine ao1 (by decide) (o_pick_t (v := .bool _) rfl rfl) ?_
              refine ao_need (b := false) (by refine congrArg (fun x => [AV.bool x, AV.int .i64 3]) ?_; grind) (by decide) code_need (fun hb => (by cases hb)) (fun _ => (by (repeat (first | refine then_pan ?_ | refine blk_pan ?_)); exact e_rdX hB hres))
          · refine ao_nT rfl rfl (by decide) ?_
            refine ao_nT rfl rfl (by decide) ?_
            refine ao_nT rfl rfl (by decide) ?_
            refine ao_nU rfl rfl (by decide) ?_
            refine ao_nU rfl rfl (by decide) ?_
            refine ao_nT rfl rfl (by decide) ?_
            refine ao1 (by decide) (o_pick_f (v := .bool _) rfl rfl) ?_
            refine ao_need (b := false) (by refine congrArg (fun x => [AV.bool x, AV.int .i64 3]) ?_; (simp_all; done)) (by decide) code_need (fun hb => (by cases hb)) (fun _ => (by (repeat (first | refine then_pan ?_ | refine blk_pan ?_)); exact e_rdX hB hres))
        · refine ao_nT rfl rfl (by decide) ?_
          refine ao_nT rfl rfl (by decide) ?_
          refine ao_nT rfl rfl (by decide) ?_
          refine ao_nT rfl rfl (by decide) ?_
          refine ao_nT rfl rfl (by decide) ?_
          refine ao_nT rfl rfl (by decide) ?_
          refine ao1 (by decide) (o_pick_f (v := .bool _) rfl rfl) ?_
          refine ao1 (by decide) (o_move (v := .bool _) rfl) ?_
          refine ao_nT rfl rfl (by decide) ?_
          refine ao_nT rfl rfl (by decide) ?_
          refine ao_nT rfl rfl (by decide) ?_
          refine ao_nU rfl rfl (by decide) ?_
          refine ao_nU rfl rfl (by decide) ?_
          refine ao_nT rfl rfl (by decide) ?_
          refine ao1 (by decide) (o_pick_f (v := .bool _) rfl rfl) ?_
          refine ao_need (b := false) (by refine congrArg (fun x => [AV.bool x, AV.int .i64 3]) ?_; (simp_all; done)) (by decide) code_need (fun hb => (by cases hb)) (fun _ => (by (repeat (first | refine then_pan ?_ | refine blk_pan ?_)); exact e_rdX hB hres))
      · refine ao_nT rfl rfl (by decide) ?_
        refine ao_nT rfl rfl (by decide) ?_
        refine ao1 (by decide) (o_pick_f (v := .bool _) rfl rfl) ?_
        refine ao1 (by decide) (o_move (v := .bool _) rfl) ?_
        refine ao_nT rfl rfl (by decide) ?_
        refine ao_nT rfl rfl (by decide) ?_
        refine ao_nT rfl rfl (by decide) ?_
        refine ao_nT rfl rfl (by decide) ?_
        refine ao_nT rfl rfl (by decide) ?_
        refine ao_nT rfl rfl (by decide) ?_
        refine ao1 (by decide) (o_pick_f (v := .bool _) rfl rfl) ?_
        refine ao1 (by decide) (o_move (v := .bool _) rfl) ?_
        refine ao_nT rfl rfl (by decide) ?_
        refine ao_nT rfl rfl (by decide) ?_
        refine ao_nT rfl rfl (by decide) ?_
        refine ao_nU rfl rfl (by decide) ?_
        refine ao_nU rfl rfl (by decide) ?_
        refine ao_nT rfl rfl (by decide) ?_
        refine ao1 (by decide) (o_pick_f (v := .bool _) rfl rfl) ?_
        refine ao_need (b := false) (by refine congrArg (fun x => [AV.bool x, AV.int .i64 3]) ?_; (simp_all; done)) (by decide) code_need (fun hb => (by cases hb)) (fun _ => (by (repeat (first | refine then_pan ?_ | refine blk_pan ?_)); exact e_rdX hB hres))
    rw [if_pos hok] at hspec
    obtain ⟨hf, hmo, hsum, hfi⟩ := hok
    have hfi' : i = 0 ∨ 1 < far := hfi.imp (fun e => by simpa using e) (fun e => e)
    clear c1 c2 cn ck hrs hfi
    repeat (first | refine then_nrm ?_ | refine aw_seq ?_)
    refine aw_joinQ ([(0, .pt id g 0 0), (4, .sl (Lid H.length 0) acc.length 0 acc.length acc.length), (5, .int .i64 (last : Int)), (7, .int .i64 (far : Int)), (8, .int .i64 (more : Int)), (17, .int .i64 (many : Int)), (18, .int .i64 (i : Int))]) (Hs H id g b3 ++ [⟨acc.length, 1, acc.map eInt⟩]) ?_ ?_
    · repeat (fail)
      refine aw_region ?_
      refine ao1 (by decide) (o_move (v := .int _ _) rfl) ?_
      refine ao1 (by decide) (o_lt rfl rfl) ?_
      refine ao1 (by decide) (o_move (v := .bool _) rfl) ?_
      refine ao_split rfl rfl (fun hg2 => ?_) (fun hg2 => ?_)
      · refine ao_y1 rfl rfl (by decide) (o_move (v := .int _ _) rfl) ?_
        refine ao_y1 rfl rfl (by decide) (o_lt rfl rfl) ?_
        refine ao1 (by decide) (o_pick_t (v := .bool _) rfl rfl) ?_
        refine ao1 (by decide) (o_move (v := .bool _) rfl) ?_
        refine ao_split rfl rfl (fun hg6 => ?_) (fun hg6 => ?_)
        · refine ao_y1 rfl rfl (by decide) (o_move (v := .int _ _) rfl) ?_
          refine ao_y1 rfl rfl (by decide) (o_move (v := .int _ _) rfl) ?_
          refine ao_y1 rfl rfl (by decide) (o_add (r := (last : Int) + (far : Int)) rfl rfl (wrap64_ok (by omega) (by omega))) ?_
          refine ao_y1 rfl rfl (by decide) (o_move (v := .int _ _) rfl) ?_
          refine ao_y1 rfl rfl (by decide) (o_add (r := (last : Int) + (far : Int) + (more : Int)) rfl rfl (by have h1 := of_decide_eq_true hg2; have h2 := of_decide_eq_true hg6; exact wrap64_ok (by omega) (by omega))) ?_
          refine ao_y1 rfl rfl (by decide) (o_lt rfl rfl) ?_
          refine ao1 (by decide) (o_pick_t (v := .bool _) rfl rfl) ?_
          refine ao1 (by decide) (o_move (v := .bool _) rfl) ?_
          refine ao_split rfl rfl (fun hg14 => ?_) (fun hg14 => ?_)
          · refine ao_y1 rfl rfl (by decide) (o_move (v := .int _ _) rfl) ?_
            refine ao_y1 rfl rfl (by decide) (o_eq rfl rfl) ?_
            refine ao_y1 rfl rfl (by decide) (o_move (v := .bool _) rfl) ?_
            refine ao_split rfl rfl (fun hg17 => ?_) (fun hg17 => ?_)
            · refine ao_nF rfl rfl (by decide) ?_
              refine ao_nF rfl rfl (by decide) ?_
              refine ao_y1 rfl rfl (by decide) (o_pick_t (v := .bool _) rfl rfl) ?_
              refine ao1 (by decide) (o_pick_t (v := .bool _) rfl rfl) ?_
              refine ao_need (b := true) (by refine congrArg (fun x => [AV.bool x, AV.int .i64 3]) ?_; (simp_all; done)) (by decide) code_need (fun _ => ?_) (fun hb => (by cases hb))
              refine ao_nil ?_
              exact join_nrm (by repeat (first | exact Sub.nil | refine Sub.cons (by rfl) ?_)) (.inl rfl)
            · refine ao_y1 rfl rfl (by decide) (o_move (v := .int _ _) rfl) ?_
              refine ao_y1 rfl rfl (by decide) (o_gt rfl rfl) ?_
              refine ao_y1 rfl rfl (by decide) (o_pick_f (v := .bool _) rfl rfl) ?_
              refine ao1 (by decide) (o_pick_t (v := .bool _) rfl rfl) ?_
              refine ao_need (b := true) (by refine congrArg (fun x => [AV.bool x, AV.int .i64 3]) ?_; (simp_all; omega)) (by decide) code_need (fun _ => ?_) (fun hb => (by cases hb))
              refine ao_nil ?_
              exact join_nrm (by repeat (first | exact Sub.nil | refine Sub.cons (by rfl) ?_)) (.inl rfl)
          · refine ao_nT rfl rfl (by decide) ?_
            refine ao_nT rfl rfl (by decide) ?_
            refine ao_nT rfl rfl (by decide) ?_
            refine ao_nU rfl rfl (by decide) ?_
            refine ao_nU rfl rfl (by decide) ?_
            refine ao_nT rfl rfl (by decide) ?_
            refine ao1 (by decide) (o_pick_f (v := .bool _) rfl rfl) ?_
            refine ao_need (b := true) (by refine congrArg (fun x => [AV.bool x, AV.int .i64 3]) ?_; (simp_all; omega)) (by decide) code_need (fun _ => ?_) (fun hb => (by cases hb))
            refine ao_nil ?_
            exact join_nrm (by repeat (first | exact Sub.nil | refine Sub.cons (by rfl) ?_)) (.inl rfl)
        · refine ao_nT rfl rfl (by decide) ?_
          refine ao_nT rfl rfl (by decide) ?_
          refine ao_nT rfl rfl (by decide) ?_
          refine ao_nT rfl rfl (by decide) ?_
          refine ao_nT rfl rfl (by decide) ?_
          refine ao_nT rfl rfl (by decide) ?_
          refine ao1 (by decide) (o_pick_f (v := .bool _) rfl rfl) ?_
          refine ao1 (by decide) (o_move (v := .bool _) rfl) ?_
          refine ao_nT rfl rfl (by decide) ?_
          refine ao_nT rfl rfl (by decide) ?_
          refine ao_nT rfl rfl (by decide) ?_
          refine ao_nU rfl rfl (by decide) ?_
          refine ao_nU rfl rfl (by decide) ?_
          refine ao_nT rfl rfl (by decide) ?_
          refine ao1 (by decide) (o_pick_f (v := .bool _) rfl rfl) ?_
          refine ao_need (b := true) (by refine congrArg (fun x => [AV.bool x, AV.int .i64 3]) ?_; (simp_all; omega)) (by decide) code_need (fun _ => ?_) (fun hb => (by cases hb))
          refine ao_nil ?_
          exact join_nrm (by repeat (first | exact Sub.nil | refine Sub.cons (by rfl) ?_)) (.inl rfl)
      · refine ao_nT rfl rfl (by decide) ?_
        refine ao_nT rfl rfl (by decide) ?_
        refine ao1 (by decide) (o_pick_f (v := .bool _) rfl rfl) ?_
        refine ao1 (by decide) (o_move (v := .bool _) rfl) ?_
        refine ao_nT rfl rfl (by decide) ?_
        refine ao_nT rfl rfl (by decide) ?_
        refine ao_nT rfl rfl (by decide) ?_
        refine ao_nT rfl rfl (by decide) ?_
        refine ao_nT rfl rfl (by decide) ?_
        refine ao_nT rfl rfl (by decide) ?_
        refine ao1 (by decide) (o_pick_f (v := .bool _) rfl rfl) ?_
        refine ao1 (by decide) (o_move (v := .bool _) rfl) ?_
        refine ao_nT rfl rfl (by decide) ?_
        refine ao_nT rfl rfl (by decide) ?_
        refine ao_nT rfl rfl (by decide) ?_
        refine ao_nU rfl rfl (by decide) ?_
        refine ao_nU rfl rfl (by decide) ?_
        refine ao_nT rfl rfl (by decide) ?_
        refine ao1 (by decide) (o_pick_f (v := .bool _) rfl rfl) ?_
        refine ao_need (b := true) (by refine congrArg (fun x => [AV.bool x, AV.int .i64 3]) ?_; (simp_all; omega)) (by decide) code_need (fun _ => ?_) (fun hb => (by cases hb))
        refine ao_nil ?_
        exact join_nrm (by repeat (first | exact Sub.nil | refine Sub.cons (by rfl) ?_)) (.inl rfl)
    repeat (first | refine then_nrm ?_ | refine aw_seq ?_)
    refine aw_region ?_
    refine ao1 (by decide) (o_move (v := .int _ _) rfl) ?_
    refine ao1 (by decide) (o_move (v := .int _ _) rfl) ?_
    refine ao1 (by decide) (o_add (r := ((last + far + 0 : Nat) : Int)) rfl rfl (by rw [show (last : Int) + (far : Int) = ((last + far + 0 : Nat) : Int) by omega]; exact wrap64_ok (by omega) (by omega))) ?_
    refine ao1 (by decide) (o_assign (v := .int _ _) rfl) ?_
    refine ao_nil ?_
    repeat (first | refine then_nrm ?_ | refine aw_block ?_)
    refine aw_loop (G := Nat) (fun k => k ≤ more + 1) (fun k => [(0, .pt id g 0 0), (4, .sl (Lid H.length 0) (acc ++ gotk (last + far) k).length 0 (acc ++ gotk (last + far) k).length (acc ++ gotk (last + far) k).length), (5, .int .i64 (last : Int)), (7, .int .i64 (far : Int)), (8, .int .i64 (more : Int)), (9, .int .i64 ((last + far + k : Nat) : Int)), (17, .int .i64 (many : Int)), (18, .int .i64 (i : Int))]) (fun k => Hs H id g b3 ++ [⟨(acc ++ gotk (last + far) k).length, 1, (acc ++ gotk (last + far) k).map eInt⟩]) (fun k => more + 1 - k) 0 (Nat.zero_le _) (by rw [show acc ++ gotk (last + far) 0 = acc from List.append_nil _]; exact (by repeat (first | exact Sub.nil | refine Sub.cons (by rfl) ?_))) (.inl (by rw [show acc ++ gotk (last + far) 0 = acc from List.append_nil _])) ?_
    intro k hk1
    generalize hac : acc ++ gotk (last + far) k = ac
    have hacl : ac.length ≤ 256 * many + 256 := by
      have : (gotk (last + far) k).length = k := by unfold gotk; rw [List.length_map, List.length_range]
      rw [← hac, List.length_append, this]
      have : 256 * i ≤ 256 * many := Nat.mul_le_mul_left _ him
      omega
    repeat (refine aw_seq ?_)
    refine aw_region ?_
    refine ao1 (by decide) (o_move (v := .int _ _) rfl) ?_
    refine ao1 (by decide) (o_move (v := .int _ _) rfl) ?_
    refine ao1 (by decide) (o_move (v := .int _ _) rfl) ?_
    refine ao1 (by decide) (o_add (r := ((last + far : Nat) : Int)) rfl rfl (by rw [show (last : Int) + (far : Int) = ((last + far : Nat) : Int) by omega]; exact wrap64_ok (by omega) (by omega))) ?_
    refine ao1 (by decide) (o_move (v := .int _ _) rfl) ?_
    refine ao1 (by decide) (o_add (r := ((last + far + more : Nat) : Int)) rfl rfl (by rw [show ((last + far : Nat) : Int) + (more : Int) = ((last + far + more : Nat) : Int) by omega]; exact wrap64_ok (by omega) (by omega))) ?_
    refine ao1 (by decide) (o_le rfl rfl) ?_
    refine ao_nil ?_
    repeat (refine then_nrm ?_)
    refine aw_cond rfl (fun hc => ?_) (fun hc => ?_)
    · have hkm : k ≤ more := by simp at hc; omega
      repeat (first | refine then_nrm ?_ | refine aw_seq ?_ | refine aw_block ?_ | refine aw_skip ?_)
      refine aw_region ?_
      refine ao1 (by decide) (o_move (v := .sl _ _ _ _ _) rfl) ?_
      refine ao1 (by decide) (o_move (v := .int _ _) rfl) ?_
      refine ao2 (by rintro _ ⟨⟩; decide) (g_lit1 (sz := 1) (v := .int .i64 ((last + far + k : Nat) : Int)) rfl (by decide) (by decide) rfl rfl rfl rfl rfl) ?_
      refine ao2 (by rintro _ ⟨⟩; decide) (w_append rfl (hs_len _ _ _ _) rfl rfl rfl (Src.pl (ys := [eInt ((last + far + k : Nat) : Int)]) rfl (ints_len1 [_])) rfl (by simp) (by simp) (by simp; omega) (by simp; omega)) ?_
      refine ao1 (by decide) (o_assign (v := .sl _ _ _ _ _) rfl) ?_
      refine ao_nil ?_
      try dsimp only [List.length_cons, List.length_nil, Nat.reduceAdd, AV.cells, put, List.set_cons_zero]
      rw [show (ac.map eInt).take ac.length = ac.map eInt from List.take_of_length_le (by simp)]
      repeat (first | refine then_nrm ?_ | refine blk_nrm ?_)
      refine aw_region ?_
      refine ao1 (by decide) (o_move (v := .int _ _) rfl) ?_
      refine ao1 (by decide) (o_add (r := ((last + far + (k + 1) : Nat) : Int)) rfl rfl (by rw [show ((last + far + k : Nat) : Int) + 1 = ((last + far + (k + 1) : Nat) : Int) by omega]; exact wrap64_ok (by omega) (by omega))) ?_
      refine ao1 (by decide) (o_assign (v := .int _ _) rfl) ?_
      refine ao_nil ?_
      repeat (refine then_nrm ?_)
      have hnext : acc ++ gotk (last + far) (k + 1) = ac ++ [((last + far + k : Nat) : Int)] := by rw [gotk_step, ← List.append_assoc, hac]
      exact ⟨k + 1, by omega, by omega, by rw [hnext]; simp only [List.length_append, List.length_cons, List.length_nil]; exact (by repeat (first | exact Sub.nil | refine Sub.cons (by rfl) ?_)), .inl (by rw [hnext]; simp only [List.length_append, List.length_cons, List.length_nil, List.map_append, List.map_cons, List.map_nil])⟩
    · have hkm : k = more + 1 := by simp at hc; omega
      subst hkm
      rw [gotk_goti] at hac
      repeat (first | refine then_nrm ?_ | refine then_brk ?_ | refine blk_hit ?_ | refine aw_exit ?_)
      refine aw_region ?_
      refine ao1 (by decide) (o_move (v := .int _ _) rfl) ?_
      refine ao1 (by decide) (o_move (v := .int _ _) rfl) ?_
      refine ao1 (by decide) (o_move (v := .int _ _) rfl) ?_
      refine ao1 (by decide) (o_add (r := ((far + more : Nat) : Int)) rfl rfl (by rw [show (far : Int) + (more : Int) = ((far + more : Nat) : Int) by omega]; exact wrap64_ok (by omega) (by omega))) ?_
      refine ao1 (by decide) (o_add (r := ((last + far + more : Nat) : Int)) rfl rfl (by rw [show (last : Int) + ((far + more : Nat) : Int) = ((last + far + more : Nat) : Int) by omega]; exact wrap64_ok (by omega) (by omega))) ?_
      refine ao1 (by decide) (o_assign (v := .int _ _) rfl) ?_
      refine ao_nil ?_
      repeat (first | refine then_nrm ?_ | refine blk_nrm ?_)
      refine aw_region ?_
      refine ao1 (by decide) (o_add (r := ((i + 1 : Nat) : Int)) rfl rfl (wrap64_ok (by omega) (by omega))) ?_
      refine ao1 (by decide) (o_move (v := .int _ _) rfl) ?_
      refine ao_nil ?_
      repeat (refine then_nrm ?_)
      refine ⟨(i + 1, last + far + more, ac, b3), by simp only; omega, ⟨?_, by simp only; omega, hsum, ?_⟩, (by repeat (first | exact Sub.nil | refine Sub.cons (by rfl) ?_)), .inl rfl⟩
      · simp only
        rw [← hspec, ← hac, show many - (i + 1) = m' by omega]
        rfl
      · simp only
        rw [← hac, List.length_append, goti_len]
        omega
  · have hi : i = many := by simp at hc; omega
    subst hi
    rw [Nat.sub_self, gots] at hspec
    have hres : setR (rset (c :: b0)) = .ok (.pl (acc.map eInt), bs) := by rw [← hspec]; rfl
    repeat (first | refine then_nrm ?_ | refine then_brk ?_ | refine blk_hit ?_ | refine aw_seq ?_ | refine aw_exit ?_)
    refine aw_region ?_
    refine ao1 (by decide) (o_move (v := .sl _ _ _ _ _) rfl) ?_
    refine ao1 (by decide) (o_assign (v := .sl _ _ _ _ _) rfl) ?_
    refine ao_nil ?_
    repeat (refine then_nrm ?_)
    refine aw_freezeL (ys := acc.map eInt) 2 rfl (hs_len _ _ _ _) rfl rfl (by rw [List.drop_zero, List.take_of_length_le (by simp)]) (by simp) (ints_bel0 0 _) ?_
    refine aw_ret ?_
    exact e_rd hB (r_tmp rfl .nil) rfl hres rfl
end Go.Av

/-
  A CALL THAT DEFERS: code walked while deferred calls lie ready.
-/
namespace Go.Av
def addD (D : List Deferred) (a : Act) : Act := { a with defers := a.defers ++ D }
theorem addD_eval (D : List Deferred) (a : Act) : (addD D a).eval = a.eval := by
  funext x
  cases x <;> rfl
theorem addD_put (D : List Deferred) (a : Act) (d : Option Nat) (v : Value) : (addD D a).put d v = addD D (a.put d v) := by
  cases d <;> rfl
def LiftD (D : List Deferred) (N : Nat) (Q : Post) (B : Base) : Exit → Act → World → Prop := fun e a w => ∃ a0, a = addD D a0 ∧ Lift N Q B e a0 w
theorem upon_addD {P : Program} {D : List Deferred} {o : Oper} {a : Act} {next next' : Act → World → Prop} {Q Q' : Exit → Act → World → Prop} {r : Result Next} (h : o.upon P a next Q r)
    (hn : ∀ a w, next a w → next' (addD D a) w) (hq : ∀ e a w, Q e a w → Q' e (addD D a) w) : o.upon P (addD D a) next' Q' r := by
  unfold Oper.upon at h ⊢
  split at h
  · rw [addD_put]; exact hn _ _ h
  · rw [addD_put]; exact hn _ _ h
  · rename_i d w'
    have := hn _ _ h
    rw [← addD_put] at this
    exact this
  · refine h.mono ?_
    intro e w'' k
    cases e with
    | returned v => show next' ((addD D a).put o.dst v) w''; rw [addD_put]; exact hn _ _ k
    | panicked c => exact hq _ _ _ k
    | outgrown => obtain ⟨a1, w1, k⟩ := k; exact ⟨_, w1, hq _ _ _ k⟩
  · refine Rows.mono h ?_
    intro v w'' k
    rw [addD_put]; exact hn _ _ k
  · exact hq _ _ _ h
  · exact h.elim
theorem wpList_addD {P : Program} {ops : Array Oper} {D : List Deferred} {Q Q' : Exit → Act → World → Prop} (hq : ∀ e a w, Q e a w → Q' e (addD D a) w) : ∀ (l : List Oper) (a : Act) (w : World), wpList P ops Q l a w → wpList P ops Q' l (addD D a) w
  | [], a, w, h => hq _ _ _ h
  | o :: l, a, w, h => by
    unfold wpList at h ⊢
    have ht : (addD D a).tmps = a.tmps := rfl
    rw [ht]
    split at h
    · rename_i hw
      rw [if_pos hw]
      rcases h with h | ⟨h1, h2⟩
      · refine .inl ?_
        unfold Oper.wp at h ⊢
        rw [addD_eval]
        exact upon_addD h (fun a w k => wpList_addD hq l a w k) hq
      · refine .inr ⟨?_, ?_⟩
        · unfold Oper.asks at h1 ⊢
          rw [addD_eval]; exact h1
        · obtain ⟨a1, w1, k⟩ := h2
          exact ⟨_, w1, hq _ _ _ k⟩
    · rename_i hw
      rw [if_neg hw, addD_put]
      exact wpList_addD hq l _ w h
def AWpD (D : List Deferred) (P : Program) (N : Nat) (B : Base) (c : Code) (Q : Post) (env : Env) (H : Heap) : Prop :=
  ∀ S a w, CR N env H S a w → Ext B.S B.w S w → c.wp P (LiftD D N Q B) (addD D a) w
section
variable {P : Program} {N : Nat} {B : Base} {Q : Post} {env : Env} {H : Heap} {D : List Deferred}
theorem awd_region {id : Nat} {l : List Oper} (h : AOps P N B l.toArray l Q env H) : AWpD D P N B (.region id l.toArray false) Q env H :=
  fun S a w hc hb => wp_region_lit (wpList_addD (fun e a w k => ⟨a, rfl, k⟩) l a w (h S a w hc hb))
theorem awd_seq {x y : Code} (h : AWpD D P N B x (AX.andThen (fun e H => AWpD D P N B y Q e H) Q) env H) : AWpD D P N B (.seq x y) Q env H := by
  intro S a w hc hb
  refine wp_seq (wp_mono (h S a w hc hb) ?_)
  rintro e a' w' ⟨a0, rfl, x, env', H', S', q, r, c, k⟩
  cases r with
  | nrm => exact q S' a0 w' c k
  | brk => exact ⟨a0, rfl, _, env', H', S', q, .brk, c, k⟩
  | ret => exact ⟨a0, rfl, _, env', H', S', q, .ret, c, k⟩
  | pan hv => exact ⟨a0, rfl, _, env', H', S', q, .pan hv, c, k⟩
theorem awd_ret (h : Q .ret env H) : AWpD D P N B .ret Q env H := fun S a _ hc hb => wp_ret ⟨a, rfl, .ret, env, H, S, h, .ret, hc, hb⟩
/-- Code whose end is another's affair. -/
def AWpX (P : Program) (N : Nat) (B : Base) (c : Code) (W : Exit → Act → World → Prop) (env : Env) (H : Heap) : Prop :=
  ∀ S a w, CR N env H S a w → Ext B.S B.w S w → c.wp P W a w
theorem awx_seq {x y : Code} {W : Exit → Act → World → Prop} (h : AWp P N B x (AX.andThen (fun e H => AWpX P N B y W e H) (fun _ _ _ => False)) env H) : AWpX P N B (.seq x y) W env H := by
  intro S a w hc hb
  refine wp_seq (wp_mono (h S a w hc hb) ?_)
  rintro e a' w' ⟨x, env', H', S', q, r, c, k⟩
  cases r with
  | nrm => exact q S' a' w' c k
  | brk => exact q.elim
  | ret => exact q.elim
  | pan hv => exact q.elim
/-- A closure is made, and deferred. -/
theorem awx_defer {id d f : Nat} {q : Array Operand} {pos1 pos2 : String} {after1 after2 : Array Edge} {ty1 ty2 : TypeId} {rest : Code} {W : Exit → Act → World → Prop} {us : List AV} (hq : q.toList.map (aev env) = us) (hd : d < N)
    (h : ∀ S a w, CR N ((d, .fn (.func f) [] us) :: env) H S a w → Ext B.S B.w S w → ∀ caps : Array Value, VRs (own S) w S us caps → rest.wp P W (addD [{ target := .fn (.func f) caps, args := #[] }] a) w) :
    AWpX P N B (.seq (.region id #[⟨some d, .makeFunc (.func f) #[] q, ty1, pos1, after1, none⟩, ⟨none, .defer { callee := .value (.tmp d), args := #[], argTypes := #[] }, ty2, pos2, after2, none⟩] false) rest) W env H := by
  intro S a w hc hb
  refine wp_seq (wp_region_lit (l := [⟨some d, .makeFunc (.func f) #[] q, ty1, pos1, after1, none⟩, ⟨none, .defer { callee := .value (.tmp d), args := #[], argTypes := #[] }, ty2, pos2, after2, none⟩]) ?_)
  have hr1 : (execOp a.eval ⟨some d, .makeFunc (.func f) #[] q, ty1, pos1, after1, none⟩).run P w = .ok (.value (.func (.func f) #[] (q.map a.eval))) w := by simp [execOp, Instr.makeFunc]
  have hv : VR (own S) w S (.fn (.func f) [] us) (.func (.func f) #[] (q.map a.eval)) := by
    obtain ⟨u, k1, k2⟩ := o_makeFunc (P := P) (N := N) (env := env) (H := H) (ty := ty1) (f := .func f) (p := #[]) (q := q) (vs := []) (us := us) rfl hq S a w hc
    have := k1 (some d) pos1 after1 none
    rw [hr1] at this
    injection this with e1
    injection e1 with e1
    rw [e1]; exact k2
  have hc1 := hc.put (Ext.refl S w) hc.heap (d := some d) (by rintro _ ⟨⟩; exact hd) hv
  have hcaps : VRs (own S) w S us (q.map a.eval) := by
    have := evs_ok hc q
    rw [hq] at this
    exact this
  refine wpList_plain rfl fun next hnext => ?_
  unfold Oper.wp
  rw [hr1]
  show next _ _
  refine hnext _ _ (wpList_plain rfl fun next2 hnext2 => ?_)
  have he : (a.put (some d) (.func (.func f) #[] (q.map a.eval))).eval (.tmp d) = .func (.func f) #[] (q.map a.eval) := by
    have hs : d < a.tmps.size := by rw [hc.size]; exact hd
    simp [Act.eval, Act.put, hs]
  have hr2 : (execOp (a.put (some d) (.func (.func f) #[] (q.map a.eval))).eval ⟨none, .defer { callee := .value (.tmp d), args := #[], argTypes := #[] }, ty2, pos2, after2, none⟩).run P w = .ok (.defer { target := .fn (.func f) (q.map a.eval), args := #[] }) w := by
    simp [execOp, resolve, he, Deferred.ofValue]
  unfold Oper.wp
  rw [hr2]
  show next2 _ _
  refine hnext2 _ _ (wpList_nil ?_)
  have := h S _ w hc1 hb _ hcaps
  have hd0 : a.defers = [] := hc.defers
  simpa [addD, hd0, Exit.then, Act.put] using this
end
end Go.Av

namespace Go.Av
open Go.Proofs
set_option maxRecDepth 10000
set_option linter.unusedSimpArgs false
set_option linter.unusedVariables false

theorem te_und : Try.prog.underlying TE = some (.int .i64) := by kernel_rfl
theorem run_assertE (e : Int) (w : World) : (Instr.typeAssert (.iface TE (.int .i64 e)) 20 TE false).run Try.prog w = .ok (.int .i64 e) w := by
  simp [Instr.typeAssert, run_und te_und]
theorem whole1_pan (p : Addr) (x e : Int) (older : List PanicEntry) (w : World) (hc : w.cell? p = some (.int .i64 x)) (hz : w.frozen? p = false) :
    CallsD Try.prog 54 #[.pointer (some p)] (.panicking ({ v := .iface TE (.int .i64 e), recovered := false } :: older)) w fun e' u' w' =>
      e' = .returned (.tuple #[]) ∧ u' = .panicking ({ v := .iface TE (.int .i64 e), recovered := true } :: older) ∧ w' = w.setCell p (.int .i64 e) := by
  refine callsD_of_wpS Try.func54 rfl fun c₀ cs hu => ?_
  apply wpS_seq
  apply wpS_region
  simp [wpOpsS, go_sem, recoverD, hu, Try.ntmps54, Exit.thenS]
  apply wpS_seq
  apply wpS_region
  simp [wpOpsS, go_sem, Exit.thenS]
  refine wpS_cond (t := true) (by simp [Act.eval, Array.replicate]) ?_
  simp only [if_true]
  apply wpS_region
  have ha := run_assertE e w
  simp [wpOpsS, go_sem, ha, hc, hz, bodyPostS, results, Try.results54]
theorem whole1_idle (p : Addr) (w : World) :
    CallsD Try.prog 54 #[.pointer (some p)] .returning w fun e u' w' => e = .returned (.tuple #[]) ∧ u' = .returning ∧ w' = w := by
  refine callsD_of_wpS Try.func54 rfl fun c₀ cs hu => ?_
  apply wpS_seq
  apply wpS_region
  simp [wpOpsS, go_sem, recoverD, hu, Try.ntmps54, Exit.thenS]
  apply wpS_seq
  apply wpS_region
  simp [wpOpsS, go_sem, Exit.thenS]
  refine wpS_cond (t := false) (by simp [Act.eval, Array.replicate]) ?_
  simp only [Bool.false_eq_true, if_false]
  refine wpS_of_wp (wp_skip ?_)
  cases c₀
  simp_all [bodyPostS, results, Try.results54]
theorem begin_cr {N : Nat} {args : List AV} {H : Heap} {S : List Slot} {w : World} {cargs : Array Value} (hH : HRel H S w) (hv : VRs (own S) w S args cargs) (hn : args.length ≤ N) :
    CR N (params 0 args) H S { tmps := cargs ++ Array.replicate (N - cargs.size) undef, defers := [] } w ∧ Begun ⟨S, w⟩ H args := by
  refine ⟨⟨hH, fun t => ?_, ?_, rfl⟩, hH.len.symm, hH.bel, ?_⟩
  · rw [get_params, if_pos (Nat.zero_le _), Nat.sub_zero]
    by_cases ht : t < args.length
    · have h1 : args.getD t .junk = args[t] := by simp [List.getD, ht]
      have ht' : t < cargs.size := by rw [← hv.1]; exact ht
      have h2 : (cargs ++ Array.replicate (N - cargs.size) undef).getD t undef = cargs[t] := by
        simp [Array.getElem?_append_left ht', ht']
      rw [h1, h2]
      exact hv.2 t _ _ (List.getElem?_eq_getElem ht) (Array.getElem?_eq_getElem ht')
    · have h1 : args.getD t .junk = .junk := by simp [List.getD, List.getElem?_eq_none (Nat.le_of_not_lt ht)]
      rw [h1]; exact .junk
  · have := hv.1
    simp
    omega
  · rw [AV.bels_iff]
    intro v hv'
    obtain ⟨j, hj⟩ := List.mem_iff_getElem?.1 hv'
    rw [hH.len]
    exact (hv.2 j v _ hj (Array.getElem?_eq_getElem (by rw [← hv.1]; exact (List.getElem?_eq_some_iff.1 hj).1))).bel
/-- A row of one number is written. -/
theorem put_row {H : Heap} {S : List Slot} {w : World} (h : HRel H S w) {k b : Nat} {x e : Int} {s : Slot} (hk : H[k]? = some ⟨0, 1, [[.int .i64 x]]⟩) (hs : S[k]? = some s) (hp : s.place = some b) :
    w.cell? ⟨b, 0, none⟩ = some (.int .i64 x) ∧ w.frozen? ⟨b, 0, none⟩ = false ∧ ∃ S', HRel (H.set k ⟨0, 1, [[.int .i64 e]]⟩) S' (w.setCell ⟨b, 0, none⟩ (.int .i64 e)) ∧ Ext S w S' (w.setCell ⟨b, 0, none⟩ (.int .i64 e)) := by
  have ok := h.obj k _ s hk hs
  obtain ⟨arr, ty, h1, h2, h3⟩ := ok.lies b hp
  obtain ⟨_, h4⟩ := h3 0 _ rfl
  obtain ⟨_, u, hu, hv⟩ := h4 0 _ rfl
  cases hv
  have hcell : w.cell? ⟨b, 0, none⟩ = some (.int .i64 x) := by
    rw [cell_of_row w b 0 arr ty _ h1]
    simpa using hu
  have hfz : w.frozen? ⟨b, 0, none⟩ = false := by simp [World.frozen?, h1]
  refine ⟨hcell, hfz, ?_⟩
  have hg : s.gen = 0 := ok.gen.symm
  have hz : s.sz = 1 := ok.sz.symm
  have hc : CR 2 [(0, .pt k 0 0 0), (1, .int .i64 e)] H S { tmps := #[.pointer (some ⟨b, 0, none⟩), .int .i64 e], defers := [] } w := ⟨h, fun t => by
    match t with
    | 0 => exact .pt s hs (by omega) rfl fun _ => ⟨b, hp, by simp⟩
    | 1 => exact .int
    | t + 2 => exact .junk, rfl, rfl⟩
  have hst := o_store (P := Try.prog) (N := 2) (t := TE) (x := .tmp 0) (y := .tmp 1) (sz := 1) (agg := false) (ty := 0) (env := [(0, .pt k 0 0 0), (1, .int .i64 e)]) (H := H) (o := ⟨0, 1, [[.int .i64 x]]⟩) (r := [.int .i64 x]) (v := .int .i64 e) (i := 0) (j := 0) rfl hk rfl rfl rfl rfl (Nat.le_refl 1)
    none "" #[] none S _ w hc (fun _ w' => ∃ S', HRel (H.set k ⟨0, 1, [[.int .i64 e]]⟩) S' w' ∧ Ext S w S' w') (fun _ _ _ => False) (by rintro v u H' S' w' ⟨_, rfl⟩ hh hx _; exact ⟨S', hh, hx⟩) (fun _ _ _ _ _ hf => hf.elim)
  have hrun : (execOp (Act.eval { tmps := #[.pointer (some ⟨b, 0, none⟩), .int .i64 e], defers := [] }) ⟨none, .store TE (.tmp 0) (.tmp 1), 0, "", #[], none⟩).run Try.prog w = .ok .skip (w.setCell ⟨b, 0, none⟩ (.int .i64 e)) := by
    simp [go_sem, hcell, hfz]
  unfold Oper.wp at hst
  rw [hrun] at hst
  exact hst
def wholeE (res : Except Int (List UInt8)) : Int := match res with
  | .ok [] => 0
  | .ok (_ :: _) => 3
  | .error e => e
def wholeH (H H1 : Heap) (res : Except Int (List UInt8)) : Heap := match res with
  | .ok _ => H1
  | .error _ => H
def rdC (H H1 : Heap) (res : Except Int (List UInt8)) : AOut → Heap → Prop := fun o H' => match res with
  | .ok r => o = .ret (.tup []) ∧ H' = H1 ++ [⟨0, 1, [[.int .i64 0]]⟩, ⟨0, 1, [[.pl (r.map brow)]]⟩]
  | .error e => o = .pan (.ifc TE (.int .i64 e)) ∧ ∃ r : List UInt8, H' = H ++ [⟨0, 1, [[.int .i64 0]]⟩, ⟨0, 1, [[.pl (r.map brow)]]⟩]
end Go.Av

namespace Go.Av
open Go.Proofs
set_option maxRecDepth 10000
set_option linter.unusedSimpArgs false
set_option linter.unusedVariables false

/-- Behind the body: the error is told. -/
theorem whole_end {S : List Slot} {w w' : World} {H Hr : Heap} {R : AOut → Heap → Prop} {e : Int} {a0 : Act} {env : Env} {S' : List Slot} {row : AObj} (hS : S.length = H.length) (hlen : Hr.length = H.length) (hbel : HBel H.length Hr) (hR : R (.ret (.int .i64 e)) Hr) (henv : get env 4 = .pt H.length 0 0 0)
    (hc : CR 23 env (Hr ++ [⟨0, 1, [[.int .i64 e]]⟩, row]) S' a0 w') (hk : Ext S w S' w') :
    ∃ v, (results Try.f35 a0.tmps).run Try.prog w' = .ok v w' ∧ ∃ o H' S2, R o H' ∧ OutR (own S2) w' S2 o (.returned v) ∧ HRel H' S2 w' ∧ Ext S w S2 w' := by
  have hres : ResVs Try.prog env (Hr ++ [⟨0, 1, [[.int .i64 e]]⟩, row]) [.cell 4 TE] [.int .i64 e] := r_cell1 (sz := 1) (o := ⟨0, 1, [[.int .i64 e]]⟩) (r := [.int .i64 e]) henv (by rw [← hlen]; simp) rfl rfl rfl .nil
  obtain ⟨u, k1, k2⟩ := results_ok hc (fn := Try.f35) rfl hres
  obtain ⟨S2, m1, m2, m3⟩ := FitV.ok (B := ⟨S, w⟩) (M := Hr) hc.heap k2 hk (.inr ⟨_, rfl, by show S.length ≤ _; omega, rfl, by rw [hlen]; exact hbel⟩)
  exact ⟨u, k1, _, Hr, S2, hR, .ret m2, m1, m3⟩
def QEnd (H HE H1 : Heap) (res : Except Int (List UInt8)) : Post := fun x env H' => get env 4 = .pt H.length 0 0 0 ∧ match x with
  | .ret => wholeE res = 0 ∧ ∃ row, H' = wholeH HE H1 res ++ [⟨0, 1, [[.int .i64 0]]⟩, row]
  | .pan v => v = .ifc TE (.int .i64 (wholeE res)) ∧ ∃ row, H' = wholeH HE H1 res ++ [⟨0, 1, [[.int .i64 0]]⟩, row]
  | _ => False
set_option maxHeartbeats 0 in
theorem code_whole {g : Nat} [FnI Try.prog g] (cv : AV) (b : List UInt8) (H HE H1 : Heap) (res : Except Int (List UInt8)) (hb : b.length ≤ 65536) (h1 : H1.length = H.length) (hbel1 : HBel H.length H1) (hE : HE.length = H.length) (hbelE : HBel H.length HE) (hcv : cv.bel H.length = true)
    (hg : AC Try.prog g [.pt (H.length + 1) 0 0 0, cv] (H ++ [⟨0, 1, [[.int .i64 0]]⟩, ⟨0, 1, [[.pl (b.map brow)]]⟩]) (rdC HE H1 res)) :
    AC Try.prog 35 [.pl (b.map brow), .fn (.func g) [] [cv]] H (Ret (.int .i64 (wholeE res)) (wholeH HE H1 res)) := by
  intro S w cargs hH hv
  refine calls_of_wp_defers Try.func35 rfl ?_
  obtain ⟨hc, hB⟩ := begin_cr (N := 23) hH hv (by simp)
  have hlen := hH.len
  suffices key : AWpX Try.prog 23 ⟨S, w⟩ (Try.f35.body.get!) (bodyPostD Try.prog Try.f35 fun e w' => ∃ o H' S', Ret (.int .i64 (wholeE res)) (wholeH HE H1 res) o H' ∧ OutR (own S') w' S' o e ∧ HRel H' S' w' ∧ Ext S w S' w') (params 0 [.pl (b.map brow), .fn (.func g) [] [cv]]) (H ++ []) by
    refine key S _ w ?_ (Ext.refl S w)
    rw [List.append_nil]; exact hc
  refine awx_seq ?_
  refine aw_region ?_
  refine ao2 (by rintro _ ⟨⟩; decide) (o_allocL (sz := 1) rfl (by decide) rfl) ?_
  refine ao_nil ?_
  try dsimp only [put, List.length_nil, List.nil_append]
  repeat (refine then_nrm ?_)
  refine awx_seq ?_
  repeat (refine aw_seq ?_)
  refine aw_region ?_
  refine ao1 (by decide) (o_move (v := .pl _) rfl) ?_
  refine ao1 (by decide) (o_lenp rfl) ?_
  refine ao1 (by decide) (o_gt rfl rfl) ?_
  refine ao_nil ?_
  repeat (refine then_nrm ?_)
  refine aw_cond rfl (fun hc => ?_) (fun hc => ?_)
  · simp at hc; omega
  repeat (first | refine then_nrm ?_ | refine aw_skip ?_)
  refine awx_defer rfl (by decide) ?_
  intro S2 a2 w2 hc2 hb2 caps hcaps
  have hHlen : (wholeH HE H1 res).length = H.length := by unfold wholeH; split <;> first | exact h1 | exact hE
  have hHbel : HBel H.length (wholeH HE H1 res) := by unfold wholeH; split <;> first | exact hbel1 | exact hbelE
  refine wp_mono ((?_ : AWpD _ Try.prog 23 ⟨S2, w2⟩ _ (QEnd H HE H1 res) _ _) S2 a2 w2 hc2 (Ext.refl S2 w2)) ?_
  · clear hcaps hc2 hb2 hc hB hHbel
    repeat (refine awd_seq ?_)
    refine awd_region ?_
    refine ao1 (by decide) (o_move (v := .pl _) rfl) ?_
    refine ao1 (by decide) (V1.up (o_build (cs := [_]) rfl)) ?_
    refine ao2 (by rintro _ ⟨⟩; decide) (o_boxL (sz := 1) (v := .agg _) rfl rfl rfl rfl (by decide) rfl) ?_
    refine ao1 (by decide) (o_assign (v := .pt _ _ _ _) rfl) ?_
    refine ao_nil ?_
    try dsimp only [List.length_cons, List.length_nil, Nat.reduceAdd, AV.up, put, AV.cells, List.cons_append, List.nil_append]
    cases res with
    | error e =>
      repeat (first | refine then_nrm ?_ | refine awd_seq ?_)
      refine awd_region ?_
      refine ao1 (by decide) (o_move (v := .fn _ _ _) rfl) ?_
      refine ao1 (by decide) (o_move (v := .pt _ _ _ _) rfl) ?_
      refine ao_callv (ps := []) (qs := [cv]) rfl rfl (by decide) hg (by rintro v H' ⟨h, _⟩; cases h) (by rintro v H' ⟨h, r, rfl⟩; cases h; (repeat (refine then_pan ?_)); exact ⟨rfl, rfl, _, rfl⟩)
    | ok r =>
      repeat (first | refine then_nrm ?_ | refine awd_seq ?_)
      refine awd_region ?_
      refine ao1 (by decide) (o_move (v := .fn _ _ _) rfl) ?_
      refine ao1 (by decide) (o_move (v := .pt _ _ _ _) rfl) ?_
      refine ao_callv (ps := []) (qs := [cv]) rfl rfl (by decide) hg (fun v H' hh => ?_) (by rintro v H' ⟨h, _⟩; cases h); obtain ⟨hv', rfl⟩ := hh; cases hv'
      refine ao_nil ?_
      cases r with
      | nil =>
        repeat (first | refine then_nrm ?_ | refine awd_seq ?_)
        refine awd_region ?_
        refine ao1 (by decide) (o_move (v := .pt _ _ _ _) rfl) ?_
        refine ao1 (by decide) (w_nilCheck rfl (lk h1 rfl) rfl) ?_
        refine ao1 (by decide) (w_fieldAddr rfl (lk h1 rfl) rfl (by decide)) ?_
        refine ao1 (by decide) (w_load1 (v := .pl _) rfl (lk h1 rfl) rfl rfl rfl) ?_
        refine ao1 (by decide) (o_lenp rfl) ?_
        refine ao1 (by decide) (o_eq rfl rfl) ?_
        refine ao_need (b := true) rfl (by decide) code_need (fun _ => ?_) (fun hb => (by cases hb))
        refine ao_nil ?_
        try dsimp only [Nat.reduceAdd]
        repeat (first | refine then_nrm ?_ | refine awd_seq ?_)
        refine awd_region ?_
        refine ao2 (by rintro _ ⟨⟩) (w_storeP (sz := 1) (v := .int _ _) (r' := [.int .i64 0]) rfl h1 rfl rfl rfl rfl rfl rfl (Nat.le_refl 1) rfl) ?_
        refine ao_nil ?_
        try dsimp only [put, List.set_cons_zero]
        repeat (first | refine then_nrm ?_ | refine awd_ret ?_)
        exact ⟨rfl, rfl, _, rfl⟩
      | cons c r =>
        repeat (first | refine then_nrm ?_ | refine awd_seq ?_)
        refine awd_region ?_
        refine ao1 (by decide) (o_move (v := .pt _ _ _ _) rfl) ?_
        refine ao1 (by decide) (w_nilCheck rfl (lk h1 rfl) rfl) ?_
        refine ao1 (by decide) (w_fieldAddr rfl (lk h1 rfl) rfl (by decide)) ?_
        refine ao1 (by decide) (w_load1 (v := .pl _) rfl (lk h1 rfl) rfl rfl rfl) ?_
        refine ao1 (by decide) (o_lenp rfl) ?_
        refine ao1 (by decide) (o_eq rfl rfl) ?_
        refine ao_need (b := false) (by refine congrArg (fun x => [AV.bool x, AV.int .i64 3]) ?_; simp; omega) (by decide) code_need (fun hb => (by cases hb)) (fun _ => (by (repeat (refine then_pan ?_)); exact ⟨rfl, rfl, _, rfl⟩))
  · rintro e a' w' ⟨a0, rfl, x, env', H', S', q, r, c, k⟩
    have hd0 : a0.defers = [] := c.defers
    obtain ⟨u, rfl, hu⟩ : ∃ u, caps = #[u] ∧ VR (own S2) w2 S2 (.pt (Lid H.length 0) 0 0 0) u := by
      have hsz : caps.size = 1 := by have := hcaps.1; simpa using this.symm
      refine ⟨caps[0], ?_, hcaps.2 0 _ _ rfl (Array.getElem?_eq_getElem (by omega))⟩
      apply Array.ext
      · simp [hsz]
      · intro i k1 k2
        have : i = 0 := by simp at k2; omega
        subst this; rfl
    obtain ⟨q4, q⟩ := q
    have hu' := hu.ext k
    have hk' : Ext S w S' w' := hb2.trans k
    have hinv : (invoke (.fn (.func 54) #[u]) #[]).run Try.prog w' = .ok (.enter 54 #[u]) w' := by simp [invoke, run_callFunc (P := Try.prog) (f := 54)]
    -- the row of the error
    have hrow : ∀ (Hr : Heap) (row : AObj), Hr.length = H.length → H' = Hr ++ [⟨0, 1, [[.int .i64 0]]⟩, row] → ∃ s b, S'[H.length]? = some s ∧ s.place = some b ∧ u = .pointer (some ⟨b, 0, none⟩) := by
      intro Hr row hl e
      have hid : H'[H.length]? = some ⟨0, 1, [[.int .i64 0]]⟩ := by rw [e, ← hl]; simp
      obtain ⟨s, hs, ok⟩ := c.heap.slot hid
      cases hu' with
      | pt s' hs' hg' _ h =>
        have e2 : s' = s := by
          have h0 : S'[H.length]? = some s' := hs'
          rw [hs] at h0; exact (Option.some.inj h0).symm
        subst e2
        obtain ⟨b, hb', hu2⟩ := h ok.gen.symm
        exact ⟨s', b, hs, hb', by rw [hu2]; simp⟩
    cases r with
    | nrm => exact q.elim
    | brk => exact q.elim
    | ret =>
      obtain ⟨he0, row, hH'⟩ := q
      obtain ⟨s, b', hs, hp, rfl⟩ := hrow _ row hHlen hH'
      subst hH'
      show Leaves Try.prog Try.f35 a0.tmps _ (a0.defers ++ _) .returning w'
      rw [hd0, List.nil_append]
      refine leaves_cons (f := 54) (args := #[_]) (by simp) hinv ?_
      refine (whole1_idle _ w').mono ?_
      rintro e u' w'' ⟨rfl, rfl, rfl⟩
      rw [← he0] at c
      exact whole_end hlen.symm hHlen hHbel ⟨rfl, rfl⟩ q4 c hk'
    | pan hv' =>
      obtain ⟨rfl, row, hH'⟩ := q
      obtain ⟨s, b', hs, hp, rfl⟩ := hrow _ row hHlen hH'
      subst hH'
      cases hv' with
      | ifc hv' =>
      cases hv'
      show Leaves Try.prog Try.f35 a0.tmps _ (a0.defers ++ _) (.panicking _) w'
      rw [hd0, List.nil_append]
      refine leaves_cons (f := 54) (args := #[_]) (by simp) hinv ?_
      obtain ⟨hcell, hfz, S3, hh3, hx3⟩ := put_row (e := wholeE res) c.heap (k := H.length) (x := 0) (by rw [← hHlen]; simp) hs hp
      refine (whole1_pan _ 0 (wholeE res) [] w' hcell hfz).mono ?_
      rintro e u' w'' ⟨rfl, rfl, rfl⟩
      have hset : (wholeH HE H1 res ++ [⟨0, 1, [[.int .i64 0]]⟩, row]).set H.length ⟨0, 1, [[.int .i64 (wholeE res)]]⟩ = wholeH HE H1 res ++ [⟨0, 1, [[.int .i64 (wholeE res)]]⟩, row] := by
        rw [← hHlen, List.set_append_right _ _ (Nat.le_refl _), Nat.sub_self]; rfl
      rw [hset] at hh3
      exact whole_end hlen.symm hHlen hHbel ⟨rfl, rfl⟩ q4 ⟨hh3, fun t => (c.env t).ext hx3, c.size, c.defers⟩ (hk'.trans hx3)
end Go.Av

namespace Go.Av
open Go.Proofs
set_option maxRecDepth 10000
set_option linter.unusedSimpArgs false
set_option linter.unusedVariables false

theorem got_err {b : List UInt8} : ∀ {i n : Nat} {e : Int}, got i n b = .error e → e = 2 ∨ e = 3 := by
  induction b with
  | nil => intro i n e h; cases h; exact .inl rfl
  | cons c b ih =>
    intro i n e h
    unfold got at h
    split at h
    · cases h; exact .inr rfl
    split at h
    · split at h
      · cases h; exact .inr rfl
      · cases h
    · exact ih h
theorem gots_err : ∀ {m : Nat} {first : Bool} {last : Nat} {acc : List Int} {b : List UInt8} {e : Int}, gots m first last acc b = .error e → e = 2 ∨ e = 3
  | 0, _, _, _, _, _, h => by cases h
  | m + 1, first, last, acc, b, e, h => by
    unfold gots at h
    cases h1 : got 0 0 b with
    | error e1 => rw [h1] at h; cases h; exact got_err h1
    | ok x =>
      obtain ⟨far, b1⟩ := x
      rw [h1] at h
      simp only at h
      cases h2 : got 0 0 b1 with
      | error e1 => rw [h2] at h; cases h; exact got_err h2
      | ok x =>
        obtain ⟨more, b2⟩ := x
        rw [h2] at h
        simp only at h
        split at h
        · exact gots_err h
        · cases h; exact .inr rfl
theorem rset_err {b : List UInt8} {e : Int} (h : rset b = .error e) : e = 2 ∨ e = 3 := by
  unfold rset at h
  split at h
  · cases h; exact .inl rfl
  split at h
  · cases h; exact .inr rfl
  rename_i c r _
  cases h1 : got 0 0 r with
  | error e1 => rw [h1] at h; cases h; exact got_err h1
  | ok x =>
    obtain ⟨many, b1⟩ := x
    rw [h1] at h
    simp only at h
    split at h
    · cases h; exact .inr rfl
    · exact gots_err h
/-- What is left of it. -/
def leftR (x : Except Int (List Int × List UInt8)) : Except Int (List UInt8) := match x with
  | .ok (_, r) => .ok r
  | .error e => .error e
theorem hs_two (H : Heap) (a : AObj) (b r : List UInt8) : Hs (H ++ [a, ⟨0, 1, [[.pl (b.map brow)]]⟩]) (H.length + 1) 0 r = H ++ [a, ⟨0, 1, [[.pl (r.map brow)]]⟩] := by
  unfold Hs
  rw [List.set_append_right _ _ (by omega), show H.length + 1 - H.length = 1 by omega]
  rfl
theorem readSet_1 (b : List UInt8) (H : Heap) (lid gl : Nat) (x : AV) (l : List Int) (hlid : H[lid]? = some ⟨gl, 1, [[x]]⟩) (hl : ∀ l' r, rset b = .ok (l', r) → l' = l) :
    AC Try.prog 39 [.pt (H.length + 1) 0 0 0, .pt lid gl 0 0] (H ++ [⟨0, 1, [[.int .i64 0]]⟩, ⟨0, 1, [[.pl (b.map brow)]]⟩]) (rdC H (H.set lid ⟨gl, 1, [[.pl (l.map eInt)]]⟩) (leftR (rset b))) := by
  have hlt : lid < H.length := (List.getElem?_eq_some_iff.1 hlid).1
  have hid : H.length + 1 < (H ++ [AObj.mk 0 1 [[.int .i64 0]], AObj.mk 0 1 [[.pl (b.map brow)]]]).length := by simp
  have cs := code_rset b (H.length + 1) 0
  suffices h : AC Try.prog 39 [.pt (H.length + 1) 0 0 0, .pt lid gl 0 0] (Hs (H ++ [⟨0, 1, [[.int .i64 0]]⟩, ⟨0, 1, [[.pl (b.map brow)]]⟩]) (H.length + 1) 0 b) (rdC H (H.set lid ⟨gl, 1, [[.pl (l.map eInt)]]⟩) (leftR (rset b))) by
    rwa [hs_two] at h
  cases hr : rset b with
  | error e =>
    rw [hr] at cs
    refine AC.body (N := 5) [] Try.func39 rfl rfl rfl (Nat.le_of_ble_eq_true rfl) fun B hB => ?_
    refine aw_region ?_
    refine ao1 (by decide) (o_move (v := .pt _ _ _ _) rfl) ?_
    refine ao_rd rfl (by decide) hid cs (by rintro v r e; cases e) (by rintro e r e1; cases e1; (repeat (fail)); exact e_pan hB ⟨rfl, r, hs_two _ _ _ _⟩ rfl (by rw [hs_len, hs_len]) (by have := hs_bel hB.heap (H.length + 1) 0 r; rwa [hs_hs] at this))
  | ok y =>
    obtain ⟨l', r⟩ := y
    rw [hr] at cs
    obtain rfl := hl l' r hr
    refine AC.body (N := 5) [] Try.func39 rfl rfl rfl (Nat.le_of_ble_eq_true rfl) fun B hB => ?_
    have hF : (Hs (H ++ [⟨0, 1, [[.int .i64 0]]⟩, ⟨0, 1, [[.pl (b.map brow)]]⟩]) (H.length + 1) 0 r)[lid]? = some ⟨gl, 1, [[x]]⟩ := by
      rw [hs_two, List.getElem?_append_left hlt]; exact hlid
    refine aw_region ?_
    refine ao1 (by decide) (o_move (v := .pt _ _ _ _) rfl) ?_
    refine ao_rd rfl (by decide) hid cs (fun v r' e => ?_) (by rintro e r e1; cases e1); cases e
    refine ao2 (by rintro _ ⟨⟩) (w_storeFP (sz := 1) (v := .pl _) (r' := [.pl (l'.map eInt)]) rfl hF rfl rfl rfl rfl rfl (Nat.le_refl 1) rfl) ?_
    refine ao_nil ?_
    try dsimp only [put, List.set_cons_zero]
    refine e_ret (vs := []) hB .nil rfl ⟨rfl, ?_⟩ rfl (by rw [List.length_set, hs_len, hs_len]) ?_
    · rw [hs_two, List.set_append_left _ _ hlt]
    · have h1 := hs_bel hB.heap (H.length + 1) 0 r
      rw [hs_hs] at h1
      exact HBel.set h1 _ _ (by simp [AV.bels, AV.bel])
theorem code_wholeL (f : AV) (b : List UInt8) (H : Heap) (hb : 65536 < b.length) : AC Try.prog 35 [.pl (b.map brow), f] H (Ret (.int .i64 4) H) := by
  refine AC.body (N := 23) [.cell 4 29] Try.func35 rfl rfl rfl (Nat.le_of_ble_eq_true rfl) fun B hB => ?_
  repeat (refine aw_seq ?_)
  refine aw_region ?_
  refine ao2 (by rintro _ ⟨⟩; decide) (o_allocL (sz := 1) rfl (by decide) rfl) ?_
  refine ao_nil ?_
  try dsimp only [put, List.length_nil, List.nil_append]
  repeat (first | refine then_nrm ?_ | refine aw_seq ?_)
  refine aw_region ?_
  refine ao1 (by decide) (o_move (v := .pl _) rfl) ?_
  refine ao1 (by decide) (o_lenp rfl) ?_
  refine ao1 (by decide) (o_gt rfl rfl) ?_
  refine ao_nil ?_
  repeat (refine then_nrm ?_)
  refine aw_cond rfl (fun hc => ?_) (fun hc => ?_)
  · repeat (refine aw_seq ?_)
    refine aw_region ?_
    refine ao2 (by rintro _ ⟨⟩) (w_storeP (sz := 1) (v := .int _ _) (r' := [_]) rfl rfl rfl rfl rfl rfl rfl rfl (Nat.le_of_ble_eq_true rfl) rfl) ?_
    refine ao_nil ?_
    try dsimp only [put, List.set_cons_zero]
    repeat (first | refine then_nrm ?_ | refine then_ret ?_ | refine aw_ret ?_)
    exact e_done hB (r_cell1 rfl (lk rfl rfl) rfl rfl rfl .nil) rfl rfl
  · simp at hc; omega
theorem hbel_one {H : Heap} {o o' : AObj} (h : HBel H.length H) (ho : ∀ r ∈ o.rows, AV.bels (H.length + 1) r = true) (ho' : ∀ r ∈ o'.rows, AV.bels (H.length + 1) r = true) : HBel (H ++ [o]).length ((H ++ [o]).set (Lid H.length 0) o') := by
  rw [List.length_append]
  refine HBel.set (fun x hx r hr => ?_) _ _ ho'
  rcases List.mem_append.1 hx with h1 | h1
  · exact AV.bels_mono (Nat.le_succ _) r (h x h1 r hr)
  · rw [List.mem_singleton] at h1; subst h1; exact ho r hr
theorem code_ReadSet (b : List UInt8) (H : Heap) : AC Try.prog 19 [.pl (b.map brow)] H (Ret (.tup [.pl ((readSet b).1.map eInt), .int .i64 (readSet b).2]) H) := by
  refine AC.body (N := 13) [.tmp 2, .tmp 3] Try.func19 rfl rfl rfl (Nat.le_of_ble_eq_true rfl) fun B hB => ?_
  repeat (refine aw_seq ?_)
  refine aw_region ?_
  refine ao1 (by decide) (o_assign (v := .nsl) rfl) ?_
  refine ao1 (by decide) (o_assign (v := .int _ _) rfl) ?_
  refine ao_nil ?_
  repeat (first | refine then_nrm ?_ | refine aw_seq ?_)
  refine aw_region ?_
  refine ao2 (by rintro _ ⟨⟩; decide) (o_allocL (sz := 1) rfl (by decide) rfl) ?_
  refine ao_nil ?_
  try dsimp only [put, List.length_nil, List.nil_append]
  by_cases hb : 65536 < b.length
  · rw [show readSet b = ([], 4) by rw [readSet, if_pos hb]]
    repeat (first | refine then_nrm ?_ | refine aw_seq ?_)
    refine aw_region ?_
    refine ao1 (by decide) (o_move (v := .pl _) rfl) ?_
    refine ao1 (by decide) (o_makeFunc (vs := []) (us := [_]) rfl rfl) ?_
    refine ao_ret (code_wholeL _ b _ hb) rfl (by decide) ?_
    refine ao1 (by decide) (o_assign (v := .int _ _) rfl) ?_
    refine ao_nil ?_
    try dsimp only
    repeat (first | refine then_nrm ?_ | refine aw_seq ?_)
    refine aw_region ?_
    refine ao1 (by decide) (o_move (v := .int _ _) rfl) ?_
    refine ao1 (by decide) (o_ne rfl rfl) ?_
    refine ao_nil ?_
    repeat (refine then_nrm ?_)
    refine aw_cond rfl (fun hc => ?_) (fun hc => ?_)
    · repeat (refine aw_seq ?_)
      refine aw_region ?_
      refine ao1 (by decide) (o_move (v := .int _ _) rfl) ?_
      refine ao1 (by decide) (o_assign (v := .nsl) rfl) ?_
      refine ao1 (by decide) (o_assign (v := .int _ _) rfl) ?_
      refine ao_nil ?_
      repeat (refine then_nrm ?_)
      refine aw_nslpl 2 rfl ?_
      refine aw_ret ?_
      exact e_done hB (r_tmp rfl (r_tmp rfl .nil)) rfl rfl
    · simp at hc
  have cw : ∀ l : List Int, (∀ l' r, rset b = .ok (l', r) → l' = l) → AC Try.prog 35 [.pl (b.map brow), .fn (.func 39) [] [.pt (Lid H.length 0) 0 0 0]] (H ++ [AObj.mk 0 1 [[.nsl]]]) (Ret (.int .i64 (wholeE (leftR (rset b)))) (wholeH (H ++ [AObj.mk 0 1 [[.nsl]]]) (H ++ [AObj.mk 0 1 [[.pl (l.map eInt)]]]) (leftR (rset b)))) := fun l hl => by
    have h1 := readSet_1 b (H ++ [AObj.mk 0 1 [[.nsl]]]) (Lid H.length 0) 0 .nsl l (lk rfl rfl) hl
    rw [st rfl] at h1
    exact code_whole _ b _ _ _ _ (by omega) (by simp) (by have := hbel_one (o := AObj.mk 0 1 [[.nsl]]) (o' := AObj.mk 0 1 [[.pl (l.map eInt)]]) hB.heap (by simp [AV.bels, AV.bel]) (by simp [AV.bels, AV.bel]); rwa [st rfl] at this) rfl (by have := hbel_one (o := AObj.mk 0 1 [[.nsl]]) (o' := AObj.mk 0 1 [[.nsl]]) hB.heap (by simp [AV.bels, AV.bel]) (by simp [AV.bels, AV.bel]); rwa [st rfl] at this) (by simp [AV.bel, Lid]) h1
  cases hr : rset b with
  | error e =>
    have he := rset_err hr
    rw [show readSet b = ([], e) by rw [readSet, if_neg hb, hr]]
    have c1 := cw [] (by rw [hr]; intro l' r h; cases h)
    rw [hr] at c1
    change AC _ _ _ _ (Ret (.int .i64 e) (H ++ [AObj.mk 0 1 [[.nsl]]])) at c1
    repeat (first | refine then_nrm ?_ | refine aw_seq ?_)
    refine aw_region ?_
    refine ao1 (by decide) (o_move (v := .pl _) rfl) ?_
    refine ao1 (by decide) (o_makeFunc (vs := []) (us := [_]) rfl rfl) ?_
    refine ao_ret (c1) rfl (by decide) ?_
    refine ao1 (by decide) (o_assign (v := .int _ _) rfl) ?_
    refine ao_nil ?_
    try dsimp only
    repeat (first | refine then_nrm ?_ | refine aw_seq ?_)
    refine aw_region ?_
    refine ao1 (by decide) (o_move (v := .int _ _) rfl) ?_
    refine ao1 (by decide) (o_ne rfl rfl) ?_
    refine ao_nil ?_
    repeat (refine then_nrm ?_)
    refine aw_cond rfl (fun hc => ?_) (fun hc => ?_)
    · repeat (refine aw_seq ?_)
      refine aw_region ?_
      refine ao1 (by decide) (o_move (v := .int _ _) rfl) ?_
      refine ao1 (by decide) (o_assign (v := .nsl) rfl) ?_
      refine ao1 (by decide) (o_assign (v := .int _ _) rfl) ?_
      refine ao_nil ?_
      repeat (refine then_nrm ?_)
      refine aw_nslpl 2 rfl ?_
      refine aw_ret ?_
      exact e_done hB (r_tmp rfl (r_tmp rfl .nil)) rfl rfl
    · simp at hc; omega
  | ok y =>
    obtain ⟨l, r⟩ := y
    have c1 := cw l (by rw [hr]; rintro l' r' ⟨⟩; rfl)
    rw [hr] at c1
    cases r with
    | nil =>
      rw [show readSet b = (l, 0) by rw [readSet, if_neg hb, hr]; rfl]
      change AC _ _ _ _ (Ret (.int .i64 0) (H ++ [AObj.mk 0 1 [[.pl (l.map eInt)]]])) at c1
      repeat (first | refine then_nrm ?_ | refine aw_seq ?_)
      refine aw_region ?_
      refine ao1 (by decide) (o_move (v := .pl _) rfl) ?_
      refine ao1 (by decide) (o_makeFunc (vs := []) (us := [_]) rfl rfl) ?_
      refine ao_ret (c1) rfl (by decide) ?_
      refine ao1 (by decide) (o_assign (v := .int _ _) rfl) ?_
      refine ao_nil ?_
      try dsimp only
      repeat (first | refine then_nrm ?_ | refine aw_seq ?_)
      refine aw_region ?_
      refine ao1 (by decide) (o_move (v := .int _ _) rfl) ?_
      refine ao1 (by decide) (o_ne rfl rfl) ?_
      refine ao_nil ?_
      repeat (refine then_nrm ?_)
      refine aw_cond rfl (fun hc => ?_) (fun hc => ?_)
      · simp at hc
      · repeat (first | refine then_nrm ?_ | refine aw_seq ?_ | refine aw_skip ?_)
        refine aw_region ?_
        refine ao1 (by decide) (w_load1 (v := .pl _) rfl (lk rfl rfl) rfl rfl rfl) ?_
        refine ao1 (by decide) (o_assign (v := .pl _) rfl) ?_
        refine ao1 (by decide) (o_assign (v := .int _ _) rfl) ?_
        refine ao_nil ?_
        repeat (first | refine then_nrm ?_ | refine aw_ret ?_)
        exact e_done hB (r_tmp rfl (r_tmp rfl .nil)) rfl rfl
    | cons c r =>
      rw [show readSet b = ([], 3) by rw [readSet, if_neg hb, hr]; rfl]
      change AC _ _ _ _ (Ret (.int .i64 3) (H ++ [AObj.mk 0 1 [[.pl (l.map eInt)]]])) at c1
      repeat (first | refine then_nrm ?_ | refine aw_seq ?_)
      refine aw_region ?_
      refine ao1 (by decide) (o_move (v := .pl _) rfl) ?_
      refine ao1 (by decide) (o_makeFunc (vs := []) (us := [_]) rfl rfl) ?_
      refine ao_ret (c1) rfl (by decide) ?_
      refine ao1 (by decide) (o_assign (v := .int _ _) rfl) ?_
      refine ao_nil ?_
      try dsimp only
      repeat (first | refine then_nrm ?_ | refine aw_seq ?_)
      refine aw_region ?_
      refine ao1 (by decide) (o_move (v := .int _ _) rfl) ?_
      refine ao1 (by decide) (o_ne rfl rfl) ?_
      refine ao_nil ?_
      repeat (refine then_nrm ?_)
      refine aw_cond rfl (fun hc => ?_) (fun hc => ?_)
      · repeat (refine aw_seq ?_)
        refine aw_region ?_
        refine ao1 (by decide) (o_move (v := .int _ _) rfl) ?_
        refine ao1 (by decide) (o_assign (v := .nsl) rfl) ?_
        refine ao1 (by decide) (o_assign (v := .int _ _) rfl) ?_
        refine ao_nil ?_
        repeat (refine then_nrm ?_)
        refine aw_nslpl 2 rfl ?_
        refine aw_ret ?_
        exact e_done hB (r_tmp rfl (r_tmp rfl .nil)) rfl rfl
      · simp at hc
end Go.Av

namespace Go.Av
open Go.Proofs
set_option maxRecDepth 10000
set_option linter.unusedSimpArgs false
set_option linter.unusedVariables false

theorem o_slicepF {P : Program} {N : Nat} {env : Env} {H : Heap} {ty t e : TypeId} {x : Operand} {lo : Option Operand} {xs ys : List (List AV)} {l sz : Nat} {agg : Bool} [hu : SlI P t e] [TyI P e agg sz] (hx : aev env x = .pl xs) (hl : Bd env lo 0 l) (h1 : l ≤ xs.length) (hsz : ∀ r ∈ xs, r.length = sz) (hy : xs.drop l = ys) : V1 P N (.slice t x lo none none) ty env H (.pl ys) := by
  have := o_slicep (P := P) (N := N) (env := env) (H := H) (ty := ty) (t := t) (e := e) (agg := agg) (h := xs.length) hx hl .none h1 (Nat.le_refl _) hsz
  rw [List.take_of_length_le (by rw [List.length_drop]; exact Nat.le_refl _), hy] at this
  exact this
theorem tmod128 (n : Nat) : ((n : Int)).tmod 128 = ((n % 128 : Nat) : Int) := by rw [Int.tmod_eq_emod_of_nonneg (by omega)]; omega
def gotT (x : Except Int (Nat × List UInt8)) : AV := match x with
  | .ok (n, r) => .tup [.int .u64 (n : Int), .pl (r.map brow), .int .i64 0]
  | .error e => .tup [.int .u64 0, .pl [], .int .i64 e]
set_option maxHeartbeats 0 in
theorem ref08_got (b : List UInt8) (H : Heap) (hb : b.length ≤ 9223372036854775807) : AC Try.prog 59 [.pl (b.map brow)] H (Ret (gotT (got 0 0 b)) H) := by
  refine AC.body (N := 56) [.tmp 2, .tmp 3, .tmp 4] Try.func59 rfl rfl rfl (Nat.le_of_ble_eq_true rfl) fun B hB => ?_
  repeat (refine aw_seq ?_)
  refine aw_region ?_
  refine ao1 (by decide) (o_assign (v := .int _ _) rfl) ?_
  refine ao1 (by decide) (o_assign (v := .nsl) rfl) ?_
  refine ao1 (by decide) (o_assign (v := .int _ _) rfl) ?_
  refine ao_nil ?_
  repeat (first | refine then_nrm ?_ | refine aw_seq ?_)
  refine aw_region ?_
  refine ao1 (by decide) (o_assign (v := .int _ _) rfl) ?_
  refine ao_nil ?_
  repeat (first | refine then_nrm ?_ | refine aw_seq ?_)
  refine aw_region ?_
  refine ao1 (by decide) (o_assign (v := .int _ _) rfl) ?_
  refine ao_nil ?_
  repeat (first | refine then_nrm ?_ | refine aw_block ?_)
  refine aw_loop (G := Nat × Nat) (fun s => got s.1 s.2 (b.drop s.1) = got 0 0 b ∧ s.1 ≤ 9 ∧ s.1 ≤ b.length ∧ s.2 < 128 ^ s.1) (fun s => [(0, .pl (b.map brow)), (5, .int .u64 (s.2 : Int)), (6, .int .i64 (s.1 : Int))]) (fun s => H ++ []) (fun s => b.length - s.1) (0, 0) ⟨rfl, Nat.zero_le _, Nat.zero_le _, Nat.lt_of_sub_pos (by show 0 < 128 ^ 0 - 0; decide)⟩ (by repeat (first | exact Sub.nil | refine Sub.cons (by rfl) ?_)) (.inl rfl) ?_
  rintro ⟨i, n⟩ ⟨hgot, hi9, hil, hn⟩
  simp only at hgot hi9 hil hn ⊢
  have hp9 := p128_le hi9
  repeat (first | refine aw_seq ?_ | refine aw_block ?_)
  refine aw_region ?_
  refine ao1 (by decide) (o_move (v := .int _ _) rfl) ?_
  refine ao1 (by decide) (o_move (v := .pl _) rfl) ?_
  refine ao1 (by decide) (o_lenp rfl) ?_
  refine ao1 (by decide) (o_ge rfl rfl) ?_
  refine ao_nil ?_
  repeat (refine then_nrm ?_)
  refine aw_cond rfl (fun hc => ?_) (fun hc => ?_)
  · have hi : b.length ≤ i := by simp at hc; omega
    rw [List.drop_eq_nil_of_le hi, got] at hgot
    rw [← hgot]
    repeat (refine aw_seq ?_)
    refine aw_region ?_
    refine ao1 (by decide) (o_assign (v := .int _ _) rfl) ?_
    refine ao1 (by decide) (o_assign (v := .nsl) rfl) ?_
    refine ao1 (by decide) (o_assign (v := .int _ _) rfl) ?_
    refine ao_nil ?_
    repeat (refine then_nrm ?_)
    refine aw_nslpl 3 rfl ?_
    refine aw_ret ?_
    exact e_done hB (r_tmp rfl (r_tmp rfl (r_tmp rfl .nil))) rfl rfl
  have hi : i < b.length := by simp at hc; omega
  obtain ⟨c, hbc, _⟩ := get_in hi
  have hr := map_get brow hbc
  have hdrop : b.drop i = c :: b.drop (i + 1) := by
    rw [List.drop_eq_getElem_cons hi]
    congr 1
    rw [List.getElem?_eq_getElem hi] at hbc
    exact Option.some.inj hbc
  rw [hdrop, got] at hgot
  have hc256 : c.toNat < 256 := c.toNat_lt
  repeat (first | refine then_nrm ?_ | refine aw_seq ?_ | refine aw_skip ?_)
  refine aw_out 27 (.bool (decide (8 < i) || (decide (0 < i) && decide (c.toNat = 0)))) ?_ ?_
  · refine ao1 (by decide) (o_move (v := .int _ _) rfl) ?_
    refine ao1 (by decide) (o_gt rfl rfl) ?_
    refine ao1 (by decide) (o_move (v := .bool _) rfl) ?_
    refine ao_split rfl rfl (fun hg2 => ?_) (fun hg2 => ?_)
    · refine ao_nF rfl rfl (by decide) ?_
      refine ao_nF rfl rfl (by decide) ?_
      refine ao_nF rfl rfl (by decide) ?_
      refine ao_nU rfl rfl (by decide) ?_
      refine ao_nU rfl rfl (by decide) ?_
      refine ao_nU rfl rfl (by decide) ?_
      refine ao_nU rfl rfl (by decide) ?_
      refine ao_nU rfl rfl (by decide) ?_
      refine ao_nF rfl rfl (by decide) ?_
      refine ao1 (by decide) (o_pick_t (v := .bool _) rfl rfl) ?_
      exact ao_nil (Out.mk (by (refine congrArg AV.bool ?_; (clear hgot hB; (simp_all; omega)))) (by repeat (first | exact SubX.refl _ _ | refine SubX.at ?_ | refine SubX.put rfl ?_)))
    · refine ao_y1 rfl rfl (by decide) (o_move (v := .int _ _) rfl) ?_
      refine ao_y1 rfl rfl (by decide) (o_gt rfl rfl) ?_
      refine ao_y1 rfl rfl (by decide) (o_move (v := .bool _) rfl) ?_
      refine ao_split rfl rfl (fun hg5 => ?_) (fun hg5 => ?_)
      · refine ao_y1 rfl rfl (by decide) (o_move (v := .pl _) rfl) ?_
        refine ao_y1 rfl rfl (by decide) (o_move (v := .int _ _) rfl) ?_
        refine ao_y1 rfl rfl (by decide) (w_indexAddrpN rfl rfl hr rfl) ?_
        refine ao_y1 rfl rfl (by decide) (o_load1p (v := .int _ _) rfl hr rfl) ?_
        refine ao_y1 rfl rfl (by decide) (o_eq rfl rfl) ?_
        refine ao_y1 rfl rfl (by decide) (o_pick_t (v := .bool _) rfl rfl) ?_
        refine ao1 (by decide) (o_pick_f (v := .bool _) rfl rfl) ?_
        exact ao_nil (Out.mk (by (refine congrArg AV.bool ?_; (clear hgot hB; grind))) (by repeat (first | exact SubX.refl _ _ | refine SubX.at ?_ | refine SubX.put rfl ?_)))
      · refine ao_nT rfl rfl (by decide) ?_
        refine ao_nT rfl rfl (by decide) ?_
        refine ao_nT rfl rfl (by decide) ?_
        refine ao_nT rfl rfl (by decide) ?_
        refine ao_nT rfl rfl (by decide) ?_
        refine ao_y1 rfl rfl (by decide) (o_pick_f (v := .bool _) rfl rfl) ?_
        refine ao1 (by decide) (o_pick_f (v := .bool _) rfl rfl) ?_
        exact ao_nil (Out.mk (by (refine congrArg AV.bool ?_; (clear hgot hB; (simp_all; done)))) (by repeat (first | exact SubX.refl _ _ | refine SubX.at ?_ | refine SubX.put rfl ?_)))
  repeat (refine then_nrm ?_)
  refine aw_cond rfl (fun hc => ?_) (fun hc => ?_)
  · have hbad : 8 < i ∨ (0 < i ∧ c = 0) := by
      simp at hc
      exact hc.imp (fun e => e) fun e => ⟨e.1, UInt8.toNat_inj.1 e.2⟩
    rw [if_pos hbad] at hgot
    rw [← hgot]
    repeat (refine aw_seq ?_)
    refine aw_region ?_
    refine ao1 (by decide) (o_assign (v := .int _ _) rfl) ?_
    refine ao1 (by decide) (o_assign (v := .nsl) rfl) ?_
    refine ao1 (by decide) (o_assign (v := .int _ _) rfl) ?_
    refine ao_nil ?_
    repeat (refine then_nrm ?_)
    refine aw_nslpl 3 rfl ?_
    refine aw_ret ?_
    exact e_done hB (r_tmp rfl (r_tmp rfl (r_tmp rfl .nil))) rfl rfl
  have hok : i ≤ 8 ∧ ¬ (8 < i ∨ (0 < i ∧ c = 0)) := by
    simp at hc
    refine ⟨by omega, fun e => ?_⟩
    rcases e with e | ⟨e, rfl⟩
    · omega
    · exact hc.2 e rfl
  obtain ⟨hi8, hnb⟩ := hok
  rw [if_neg hnb] at hgot
  clear hnb hc
  have hp := p128 i
  have hstep := step_lt (c := c.toNat) hn
  have hp10 := p128_le (i := i + 1) (by omega)
  repeat (first | refine then_nrm ?_ | refine aw_seq ?_ | refine aw_skip ?_)
  refine aw_region ?_
  refine ao1 (by decide) (o_move (v := .pl _) rfl) ?_
  refine ao1 (by decide) (o_move (v := .int _ _) rfl) ?_
  refine ao1 (by decide) (w_indexAddrpN rfl rfl hr rfl) ?_
  refine ao1 (by decide) (o_load1p (v := .int _ _) rfl hr rfl) ?_
  refine ao1 (by decide) (o_rem (r := ((c.toNat % 128 : Nat) : Int)) rfl rfl (by decide) (tmod128 _)) ?_
  refine ao1 (by decide) (o_conv_int (r := ((c.toNat % 128 : Nat) : Int)) rfl (u64_wrap _ (by omega))) ?_
  refine ao1 (by decide) (o_assign (v := .int _ _) rfl) ?_
  refine ao_nil ?_
  repeat (first | refine then_nrm ?_ | refine aw_seq ?_)
  refine aw_region ?_
  refine ao1 (by decide) (o_assign (v := .int _ _) rfl) ?_
  refine ao_nil ?_
  repeat (first | refine then_nrm ?_ | refine aw_block ?_)
  refine aw_loop (G := Nat) (fun k => k ≤ i) (fun k => [(0, .pl (b.map brow)), (5, .int .u64 (n : Int)), (6, .int .i64 (i : Int)), (7, .int .u64 ((c.toNat % 128 * 128 ^ k : Nat) : Int)), (8, .int .i64 (k : Int))]) (fun k => H ++ []) (fun k => i - k) 0 (Nat.zero_le _) (by rw [show c.toNat % 128 * 128 ^ 0 = c.toNat % 128 by simp]; exact (by repeat (first | exact Sub.nil | refine Sub.cons (by rfl) ?_))) (.inl rfl) ?_
  intro k hk
  repeat (refine aw_seq ?_)
  refine aw_region ?_
  refine ao1 (by decide) (o_move (v := .int _ _) rfl) ?_
  refine ao1 (by decide) (o_move (v := .int _ _) rfl) ?_
  refine ao1 (by decide) (o_lt rfl rfl) ?_
  refine ao_nil ?_
  repeat (refine then_nrm ?_)
  refine aw_cond rfl (fun hc => ?_) (fun hc => ?_)
  · have hki : k < i := by simp at hc; omega
    have hpk : c.toNat % 128 * 128 ^ k * 128 < 18446744073709551616 := by
      have h1 : (128 : Nat) ^ k ≤ 128 ^ 7 := Nat.pow_le_pow_right (by decide) (by omega)
      have h2 : (128 : Nat) ^ 7 = 562949953421312 := by decide
      have h3 : c.toNat % 128 * 128 ^ k ≤ 127 * 562949953421312 := Nat.mul_le_mul (by omega) (by omega)
      omega
    repeat (first | refine then_nrm ?_ | refine aw_seq ?_ | refine aw_block ?_ | refine aw_skip ?_)
    refine aw_region ?_
    refine ao1 (by decide) (o_move (v := .int _ _) rfl) ?_
    refine ao1 (by decide) (o_mul (r := ((c.toNat % 128 * 128 ^ (k + 1) : Nat) : Int)) rfl rfl (by rw [show ((c.toNat % 128 * 128 ^ k : Nat) : Int) * 128 = ((c.toNat % 128 * 128 ^ (k + 1) : Nat) : Int) by rw [Nat.pow_succ, ← Nat.mul_assoc]; omega]; exact u64_wrap _ (by rw [Nat.pow_succ, ← Nat.mul_assoc]; exact hpk))) ?_
    refine ao1 (by decide) (o_assign (v := .int _ _) rfl) ?_
    refine ao_nil ?_
    repeat (first | refine then_nrm ?_ | refine blk_nrm ?_)
    refine aw_region ?_
    refine ao1 (by decide) (o_move (v := .int _ _) rfl) ?_
    refine ao1 (by decide) (o_add (r := ((k + 1 : Nat) : Int)) rfl rfl (wrap64_ok (by omega) (by omega))) ?_
    refine ao1 (by decide) (o_assign (v := .int _ _) rfl) ?_
    refine ao_nil ?_
    repeat (refine then_nrm ?_)
    exact ⟨k + 1, by omega, by omega, (by repeat (first | exact Sub.nil | refine Sub.cons (by rfl) ?_)), .inl rfl⟩
  · have hki : k = i := by simp at hc; omega
    subst hki
    repeat (first | refine then_nrm ?_ | refine then_brk ?_ | refine blk_hit ?_ | refine aw_seq ?_ | refine aw_exit ?_)
    refine aw_region ?_
    refine ao1 (by decide) (o_move (v := .int _ _) rfl) ?_
    refine ao1 (by decide) (o_move (v := .int _ _) rfl) ?_
    refine ao1 (by decide) (o_add (r := ((n + c.toNat % 128 * 128 ^ k : Nat) : Int)) rfl rfl (by rw [show (n : Int) + ((c.toNat % 128 * 128 ^ k : Nat) : Int) = ((n + c.toNat % 128 * 128 ^ k : Nat) : Int) by omega]; exact u64_wrap _ (by omega))) ?_
    refine ao1 (by decide) (o_assign (v := .int _ _) rfl) ?_
    refine ao_nil ?_
    repeat (first | refine then_nrm ?_ | refine aw_seq ?_)
    refine aw_region ?_
    refine ao1 (by decide) (o_move (v := .pl _) rfl) ?_
    refine ao1 (by decide) (o_move (v := .int _ _) rfl) ?_
    refine ao1 (by decide) (w_indexAddrpN rfl rfl hr rfl) ?_
    refine ao1 (by decide) (o_load1p (v := .int _ _) rfl hr rfl) ?_
    refine ao1 (by decide) (o_lt rfl rfl) ?_
    refine ao_nil ?_
    generalize hm : n + c.toNat % 128 * 128 ^ k = m at hgot hstep
    repeat (refine then_nrm ?_)
    refine aw_cond rfl (fun hc => ?_) (fun hc => ?_)
    · have hlt : c.toNat < 128 := by simp at hc; omega
      rw [if_pos hlt] at hgot
      repeat (refine aw_seq ?_)
      refine aw_region ?_
      refine ao1 (by decide) (o_move (v := .int _ _) rfl) ?_
      refine ao1 (by decide) (o_gt rfl rfl) ?_
      refine ao_nil ?_
      repeat (refine then_nrm ?_)
      refine aw_cond rfl (fun hc => ?_) (fun hc => ?_)
      · have hbig : 4611686018427387904 < m := by simp at hc; omega
        rw [if_pos hbig] at hgot
        rw [← hgot]
        repeat (refine aw_seq ?_)
        refine aw_region ?_
        refine ao1 (by decide) (o_assign (v := .int _ _) rfl) ?_
        refine ao1 (by decide) (o_assign (v := .nsl) rfl) ?_
        refine ao1 (by decide) (o_assign (v := .int _ _) rfl) ?_
        refine ao_nil ?_
        repeat (refine then_nrm ?_)
        refine aw_nslpl 3 rfl ?_
        refine aw_ret ?_
        exact e_done hB (r_tmp rfl (r_tmp rfl (r_tmp rfl .nil))) rfl rfl
      · have hbig : ¬ 4611686018427387904 < m := by simp at hc; omega
        rw [if_neg hbig] at hgot
        rw [← hgot]
        repeat (first | refine then_nrm ?_ | refine aw_seq ?_ | refine aw_skip ?_)
        refine aw_drawP mixed none 999 ?_
        refine aq0 0 rfl (by decide +kernel) (by decide) (fun _ => o_move (v := .int _ _) rfl) ?_
        refine aq0 1 rfl (by decide +kernel) (by decide) (fun _ => o_move (v := .pl _) rfl) ?_
        refine aq0 2 rfl (by decide +kernel) (by decide) (fun _ => o_move (v := .int _ _) rfl) ?_
        refine aq0 3 rfl (by decide +kernel) (by decide) (fun _ => o_add (r := ((k + 1 : Nat) : Int)) rfl rfl (wrap64_ok (by omega) (by omega))) ?_
        refine aq0 4 rfl (by decide +kernel) (by decide) (fun _ => o_slicepF (sz := 1) (l := k + 1) (ys := (b.drop (k + 1)).map brow) rfl (.some rfl rfl) (by simp; omega) (bytes_len1 _) (List.map_drop).symm) ?_
        refine aq0 5 rfl (by decide +kernel) (by decide) (fun _ => o_assign (v := .int _ _) rfl) ?_
        refine aq0 6 rfl (by decide +kernel) (by decide) (fun _ => o_assign (v := .pl _) rfl) ?_
        refine aq0 7 rfl (by decide +kernel) (by decide) (fun _ => o_assign (v := .int _ _) rfl) ?_
        refine aa_done (by decide +kernel) (by exact fun _ => ⟨_, rfl⟩) ?_
        repeat (first | refine then_nrm ?_ | refine then_ret ?_ | refine blk_ret ?_ | refine aw_ret ?_)
        exact e_done hB (r_tmp rfl (r_tmp rfl (r_tmp rfl .nil))) rfl rfl
    · have hlt : ¬ c.toNat < 128 := by simp at hc; omega
      rw [if_neg hlt] at hgot
      repeat (first | refine then_nrm ?_ | refine blk_nrm ?_ | refine aw_skip ?_)
      refine aw_region ?_
      refine ao1 (by decide) (o_move (v := .int _ _) rfl) ?_
      refine ao1 (by decide) (o_add (r := ((k + 1 : Nat) : Int)) rfl rfl (wrap64_ok (by omega) (by omega))) ?_
      refine ao1 (by decide) (o_assign (v := .int _ _) rfl) ?_
      refine ao_nil ?_
      repeat (refine then_nrm ?_)
      exact ⟨(k + 1, m), by simp only; omega, ⟨hgot, by simp only; omega, by simp only; omega, hstep⟩, (by repeat (first | exact Sub.nil | refine Sub.cons (by rfl) ?_)), .inl rfl⟩
end Go.Av

namespace Go.Av
open Go.Proofs
set_option maxRecDepth 10000
set_option linter.unusedSimpArgs false
set_option linter.unusedVariables false

def setT (x : Except Int (List Int × List UInt8)) : AV := match x with
  | .ok (l, r) => .tup [.pl (l.map eInt), .pl (r.map brow), .int .i64 0]
  | .error e => .tup [.pl [], .pl [], .int .i64 e]
set_option maxHeartbeats 0 in
theorem ref08_set (b0 : List UInt8) (H : Heap) (hb : b0.length ≤ 9223372036854775807) : AC Try.prog 50 [.pl (b0.map brow)] H (Ret (setT (rset b0)) H) := by
  refine AC.body (N := 104) [.tmp 2, .tmp 3, .tmp 4] Try.func50 rfl rfl rfl (Nat.le_of_ble_eq_true rfl) fun B hB => ?_
  repeat (refine aw_seq ?_)
  refine aw_region ?_
  refine ao1 (by decide) (o_assign (v := .nsl) rfl) ?_
  refine ao1 (by decide) (o_assign (v := .nsl) rfl) ?_
  refine ao1 (by decide) (o_assign (v := .int _ _) rfl) ?_
  refine ao_nil ?_
  cases b0 with
  | nil =>
    repeat (first | refine then_nrm ?_ | refine aw_seq ?_)
    refine aw_region ?_
    refine ao1 (by decide) (o_move (v := .pl _) rfl) ?_
    refine ao1 (by decide) (o_lenp rfl) ?_
    refine ao1 (by decide) (o_eq rfl rfl) ?_
    refine ao_nil ?_
    repeat (refine then_nrm ?_)
    refine aw_cond rfl (fun hc => ?_) (fun hc => ?_)
    · repeat (refine aw_seq ?_)
      refine aw_region ?_
      refine ao1 (by decide) (o_assign (v := .nsl) rfl) ?_
      refine ao1 (by decide) (o_assign (v := .nsl) rfl) ?_
      refine ao1 (by decide) (o_assign (v := .int _ _) rfl) ?_
      refine ao_nil ?_
      repeat (refine then_nrm ?_)
      refine aw_nslpl 2 rfl ?_
      refine aw_nslpl 3 rfl ?_
      refine aw_ret ?_
      exact e_done hB (r_tmp rfl (r_tmp rfl (r_tmp rfl .nil))) rfl rfl
    · simp at hc
  | cons c b0 =>
  repeat (first | refine then_nrm ?_ | refine aw_seq ?_)
  refine aw_region ?_
  refine ao1 (by decide) (o_move (v := .pl _) rfl) ?_
  refine ao1 (by decide) (o_lenp rfl) ?_
  refine ao1 (by decide) (o_eq rfl rfl) ?_
  refine ao_nil ?_
  repeat (refine then_nrm ?_)
  refine aw_cond rfl (fun hc => ?_) (fun hc => ?_)
  · simp at hc; omega
  have hr : ((c :: b0).map brow)[(0 : Int).toNat]? = some (brow c) := rfl
  repeat (first | refine then_nrm ?_ | refine aw_seq ?_ | refine aw_skip ?_)
  refine aw_region ?_
  refine ao1 (by decide) (o_move (v := .pl _) rfl) ?_
  refine ao1 (by decide) (w_indexAddrpN rfl rfl hr rfl) ?_
  refine ao1 (by decide) (o_load1p (v := .int _ _) rfl hr rfl) ?_
  refine ao1 (by decide) (o_ne rfl rfl) ?_
  refine ao_nil ?_
  try dsimp only
  by_cases hk : c ≠ 2
  · rw [show rset (c :: b0) = .error 3 by rw [rset, if_pos hk]]
    repeat (refine then_nrm ?_)
    refine aw_cond rfl (fun hc => ?_) (fun hc => ?_)
    · repeat (refine aw_seq ?_)
      refine aw_region ?_
      refine ao1 (by decide) (o_assign (v := .nsl) rfl) ?_
      refine ao1 (by decide) (o_assign (v := .nsl) rfl) ?_
      refine ao1 (by decide) (o_assign (v := .int _ _) rfl) ?_
      refine ao_nil ?_
      repeat (refine then_nrm ?_)
      refine aw_nslpl 2 rfl ?_
      refine aw_nslpl 3 rfl ?_
      refine aw_ret ?_
      exact e_done hB (r_tmp rfl (r_tmp rfl (r_tmp rfl .nil))) rfl rfl
    · exfalso
      have : (c.toNat : Int) = 2 := by simpa using hc
      exact hk (UInt8.toNat_inj.1 (by show c.toNat = 2; omega))
  have hk2 : c = 2 := by simpa using hk
  subst hk2
  clear hr
  repeat (refine then_nrm ?_)
  refine aw_cond rfl (fun hc => ?_) (fun hc => ?_)
  · simp at hc
  have hrs : rset (2 :: b0) = (match got 0 0 b0 with
      | .error e => .error e
      | .ok (many, b) => if 256 < many then .error 3 else gots many true 0 [] b) := by rw [rset, if_neg hk]; rfl
  have hb' : b0.length ≤ 9223372036854775807 := by simp at hb; omega
  have cn := ref08_got b0 (H ++ []) hb'
  cases hg : got 0 0 b0 with
  | error e0 =>
    have he := got_err hg
    rw [hg] at hrs cn
    rw [hrs]
    repeat (first | refine then_nrm ?_ | refine aw_seq ?_ | refine aw_skip ?_)
    refine aw_region ?_
    refine ao1 (by decide) (o_move (v := .pl _) rfl) ?_
    refine ao1 (by decide) (o_slicepF (sz := 1) (l := 1) (ys := b0.map brow) rfl (.some rfl rfl) (by simp) (bytes_len1 _) rfl) ?_
    refine ao_ret (cn) rfl (by decide) ?_
    refine ao1 (by decide) (o_move (v := .tup _) rfl) ?_
    refine ao1 (by decide) (o_extract (v := .int _ _) rfl rfl) ?_
    refine ao1 (by decide) (o_extract (v := .pl _) rfl rfl) ?_
    refine ao1 (by decide) (o_extract (v := .int _ _) rfl rfl) ?_
    refine ao1 (by decide) (o_assign (v := .int _ _) rfl) ?_
    refine ao1 (by decide) (o_assign (v := .pl _) rfl) ?_
    refine ao1 (by decide) (o_assign (v := .int _ _) rfl) ?_
    refine ao_nil ?_
    try dsimp only
    repeat (first | refine then_nrm ?_ | refine aw_seq ?_)
    refine aw_region ?_
    refine ao1 (by decide) (o_move (v := .int _ _) rfl) ?_
    refine ao1 (by decide) (o_ne rfl rfl) ?_
    refine ao_nil ?_
    repeat (refine then_nrm ?_)
    refine aw_cond rfl (fun hc => ?_) (fun hc => ?_)
    · repeat (refine aw_seq ?_)
      refine aw_region ?_
      refine ao1 (by decide) (o_move (v := .int _ _) rfl) ?_
      refine ao1 (by decide) (o_assign (v := .nsl) rfl) ?_
      refine ao1 (by decide) (o_assign (v := .nsl) rfl) ?_
      refine ao1 (by decide) (o_assign (v := .int _ _) rfl) ?_
      refine ao_nil ?_
      repeat (refine then_nrm ?_)
      refine aw_nslpl 2 rfl ?_
      refine aw_nslpl 3 rfl ?_
      refine aw_ret ?_
      exact e_done hB (r_tmp rfl (r_tmp rfl (r_tmp rfl .nil))) rfl rfl
    · exfalso; simp at hc; omega
  | ok x =>
  obtain ⟨many, b1⟩ := x
  rw [hg] at hrs cn
  simp only at hrs
  have hg1 := got_rest hg
  repeat (first | refine then_nrm ?_ | refine aw_seq ?_ | refine aw_skip ?_)
  refine aw_region ?_
  refine ao1 (by decide) (o_move (v := .pl _) rfl) ?_
  refine ao1 (by decide) (o_slicepF (sz := 1) (l := 1) (ys := b0.map brow) rfl (.some rfl rfl) (by simp) (bytes_len1 _) rfl) ?_
  refine ao_ret (cn) rfl (by decide) ?_
  refine ao1 (by decide) (o_move (v := .tup _) rfl) ?_
  refine ao1 (by decide) (o_extract (v := .int _ _) rfl rfl) ?_
  refine ao1 (by decide) (o_extract (v := .pl _) rfl rfl) ?_
  refine ao1 (by decide) (o_extract (v := .int _ _) rfl rfl) ?_
  refine ao1 (by decide) (o_assign (v := .int _ _) rfl) ?_
  refine ao1 (by decide) (o_assign (v := .pl _) rfl) ?_
  refine ao1 (by decide) (o_assign (v := .int _ _) rfl) ?_
  refine ao_nil ?_
  repeat (first | refine then_nrm ?_ | refine aw_seq ?_)
  refine aw_region ?_
  refine ao1 (by decide) (o_move (v := .int _ _) rfl) ?_
  refine ao1 (by decide) (o_ne rfl rfl) ?_
  refine ao_nil ?_
  repeat (refine then_nrm ?_)
  refine aw_cond rfl (fun hc => ?_) (fun hc => ?_)
  · simp at hc
  repeat (first | refine then_nrm ?_ | refine aw_seq ?_ | refine aw_skip ?_)
  refine aw_region ?_
  refine ao1 (by decide) (o_move (v := .int _ _) rfl) ?_
  refine ao1 (by decide) (o_gt rfl rfl) ?_
  refine ao_nil ?_
  by_cases hmany : 256 < many
  · rw [hrs, if_pos hmany]
    repeat (refine then_nrm ?_)
    refine aw_cond rfl (fun hc => ?_) (fun hc => ?_)
    · repeat (refine aw_seq ?_)
      refine aw_region ?_
      refine ao1 (by decide) (o_assign (v := .nsl) rfl) ?_
      refine ao1 (by decide) (o_assign (v := .nsl) rfl) ?_
      refine ao1 (by decide) (o_assign (v := .int _ _) rfl) ?_
      refine ao_nil ?_
      repeat (refine then_nrm ?_)
      refine aw_nslpl 2 rfl ?_
      refine aw_nslpl 3 rfl ?_
      refine aw_ret ?_
      exact e_done hB (r_tmp rfl (r_tmp rfl (r_tmp rfl .nil))) rfl rfl
    · exfalso; simp at hc; omega
  rw [if_neg hmany] at hrs
  repeat (refine then_nrm ?_)
  refine aw_cond rfl (fun hc => ?_) (fun hc => ?_)
  · exfalso; simp at hc; omega
  repeat (first | refine then_nrm ?_ | refine aw_seq ?_ | refine aw_skip ?_)
  refine aw_region ?_
  refine ao1 (by decide) (o_assign (v := .nsl) rfl) ?_
  refine ao_nil ?_
  repeat (first | refine then_nrm ?_ | refine aw_seq ?_)
  refine aw_ghostL (k := 0) 7 1 rfl (by decide) rfl ?_
  rw [List.nil_append]
  refine aw_region ?_
  refine ao1 (by decide) (o_assign (v := .int _ _) rfl) ?_
  refine ao_nil ?_
  repeat (first | refine then_nrm ?_ | refine aw_seq ?_)
  refine aw_region ?_
  refine ao1 (by decide) (o_assign (v := .int _ _) rfl) ?_
  refine ao_nil ?_
  repeat (first | refine then_nrm ?_ | refine aw_block ?_)
  refine aw_loop (G := Nat × Nat × List Int × List UInt8) (fun s => gots (many - s.1) (s.1 == 0) s.2.1 s.2.2.1 s.2.2.2 = rset (2 :: b0) ∧ s.1 ≤ many ∧ s.2.1 < 256 ∧ s.2.2.1.length ≤ 256 * s.1 ∧ s.2.2.2.length ≤ b0.length) (fun s => [(0, .pl (s.2.2.2.map brow)), (5, .int .u64 (many : Int)), (7, .sl (Lid H.length 0) s.2.2.1.length 0 s.2.2.1.length s.2.2.1.length), (8, .int .u64 (s.2.1 : Int)), (9, .int .u64 (s.1 : Int))]) (fun s => H ++ [⟨s.2.2.1.length, 1, s.2.2.1.map eInt⟩]) (fun s => many - s.1) (0, 0, [], b1) ⟨by rw [hrs]; rfl, Nat.zero_le _, by show 0 < 256; decide, Nat.zero_le _, by show b1.length ≤ _; omega⟩ (by repeat (first | exact Sub.nil | refine Sub.cons (by rfl) ?_)) (.inl rfl) ?_
  rintro ⟨i, last, acc, bs⟩ ⟨hspec, him, hlast, hal, hbl⟩
  simp only at hspec him hlast hal hbl ⊢
  repeat (refine aw_seq ?_)
  refine aw_region ?_
  refine ao1 (by decide) (o_move (v := .int _ _) rfl) ?_
  refine ao1 (by decide) (o_move (v := .int _ _) rfl) ?_
  refine ao1 (by decide) (o_lt rfl rfl) ?_
  refine ao_nil ?_
  repeat (refine then_nrm ?_)
  refine aw_cond rfl (fun hc => ?_) (fun hc => ?_)
  · have hi : i < many := by simp at hc; omega
    obtain ⟨m', hm'⟩ : ∃ m', many - i = m' + 1 := ⟨many - i - 1, by omega⟩
    rw [hm', gots] at hspec
    have c1 := fun H => ref08_got bs H (by omega)
    cases h1 : got 0 0 bs with
    | error e1 =>
      have he := got_err h1
      rw [h1] at hspec c1
      rw [← hspec]
      repeat (first | refine then_nrm ?_ | refine aw_seq ?_ | refine aw_block ?_ | refine aw_skip ?_)
      refine aw_region ?_
      refine ao1 (by decide) (o_move (v := .pl _) rfl) ?_
      refine ao_ret (c1 _) rfl (by decide) ?_
      refine ao1 (by decide) (o_move (v := .tup _) rfl) ?_
      refine ao1 (by decide) (o_extract (v := .int _ _) rfl rfl) ?_
      refine ao1 (by decide) (o_extract (v := .pl _) rfl rfl) ?_
      refine ao1 (by decide) (o_extract (v := .int _ _) rfl rfl) ?_
      refine ao1 (by decide) (o_assign (v := .int _ _) rfl) ?_
      refine ao1 (by decide) (o_assign (v := .pl _) rfl) ?_
      refine ao1 (by decide) (o_assign (v := .int _ _) rfl) ?_
      refine ao_nil ?_
      try dsimp only
      repeat (first | refine then_nrm ?_ | refine aw_seq ?_)
      refine aw_region ?_
      refine ao1 (by decide) (o_move (v := .int _ _) rfl) ?_
      refine ao1 (by decide) (o_ne rfl rfl) ?_
      refine ao_nil ?_
      repeat (refine then_nrm ?_)
      refine aw_cond rfl (fun hc => ?_) (fun hc => ?_)
      · repeat (refine aw_seq ?_)
        refine aw_region ?_
        refine ao1 (by decide) (o_move (v := .int _ _) rfl) ?_
        refine ao1 (by decide) (o_assign (v := .nsl) rfl) ?_
        refine ao1 (by decide) (o_assign (v := .nsl) rfl) ?_
        refine ao1 (by decide) (o_assign (v := .int _ _) rfl) ?_
        refine ao_nil ?_
        repeat (refine then_nrm ?_)
        refine aw_nslpl 2 rfl ?_
        refine aw_nslpl 3 rfl ?_
        refine aw_ret ?_
        exact e_done hB (r_tmp rfl (r_tmp rfl (r_tmp rfl .nil))) rfl rfl
      · exfalso; simp at hc; omega
    | ok x1 =>
    obtain ⟨far, b2⟩ := x1
    rw [h1] at hspec c1
    simp only at hspec
    have hf := got_rest h1
    have c2 := fun H => ref08_got b2 H (by omega)
    repeat (first | refine then_nrm ?_ | refine aw_seq ?_ | refine aw_block ?_ | refine aw_skip ?_)
    refine aw_region ?_
    refine ao1 (by decide) (o_move (v := .pl _) rfl) ?_
    refine ao_ret (c1 _) rfl (by decide) ?_
    refine ao1 (by decide) (o_move (v := .tup _) rfl) ?_
    refine ao1 (by decide) (o_extract (v := .int _ _) rfl rfl) ?_
    refine ao1 (by decide) (o_extract (v := .pl _) rfl rfl) ?_
    refine ao1 (by decide) (o_extract (v := .int _ _) rfl rfl) ?_
    refine ao1 (by decide) (o_assign (v := .int _ _) rfl) ?_
    refine ao1 (by decide) (o_assign (v := .pl _) rfl) ?_
    refine ao1 (by decide) (o_assign (v := .int _ _) rfl) ?_
    refine ao_nil ?_
    repeat (first | refine then_nrm ?_ | refine aw_seq ?_)
    refine aw_region ?_
    refine ao1 (by decide) (o_move (v := .int _ _) rfl) ?_
    refine ao1 (by decide) (o_ne rfl rfl) ?_
    refine ao_nil ?_
    repeat (refine then_nrm ?_)
    refine aw_cond rfl (fun hc => ?_) (fun hc => ?_)
    · simp at hc
    cases h2 : got 0 0 b2 with
    | error e2 =>
      have he := got_err h2
      rw [h2] at hspec c2
      rw [← hspec]
      repeat (first | refine then_nrm ?_ | refine aw_seq ?_ | refine aw_skip ?_)
      refine aw_region ?_
      refine ao1 (by decide) (o_move (v := .pl _) rfl) ?_
      refine ao_ret (c2 _) rfl (by decide) ?_
      refine ao1 (by decide) (o_move (v := .tup _) rfl) ?_
      refine ao1 (by decide) (o_extract (v := .int _ _) rfl rfl) ?_
      refine ao1 (by decide) (o_extract (v := .pl _) rfl rfl) ?_
      refine ao1 (by decide) (o_extract (v := .int _ _) rfl rfl) ?_
      refine ao1 (by decide) (o_assign (v := .int _ _) rfl) ?_
      refine ao1 (by decide) (o_assign (v := .pl _) rfl) ?_
      refine ao1 (by decide) (o_assign (v := .int _ _) rfl) ?_
      refine ao_nil ?_
      try dsimp only
      repeat (first | refine then_nrm ?_ | refine aw_seq ?_)
      refine aw_region ?_
      refine ao1 (by decide) (o_move (v := .int _ _) rfl) ?_
      refine ao1 (by decide) (o_ne rfl rfl) ?_
      refine ao_nil ?_
      repeat (refine then_nrm ?_)
      refine aw_cond rfl (fun hc => ?_) (fun hc => ?_)
      · repeat (refine aw_seq ?_)
        refine aw_region ?_
        refine ao1 (by decide) (o_move (v := .int _ _) rfl) ?_
        refine ao1 (by decide) (o_assign (v := .nsl) rfl) ?_
        refine ao1 (by decide) (o_assign (v := .nsl) rfl) ?_
        refine ao1 (by decide) (o_assign (v := .int _ _) rfl) ?_
        refine ao_nil ?_
        repeat (refine then_nrm ?_)
        refine aw_nslpl 2 rfl ?_
        refine aw_nslpl 3 rfl ?_
        refine aw_ret ?_
        exact e_done hB (r_tmp rfl (r_tmp rfl (r_tmp rfl .nil))) rfl rfl
      · exfalso; simp at hc; omega
    | ok x2 =>
    obtain ⟨more, b3⟩ := x2
    rw [h2] at hspec c2
    simp only at hspec
    have hm2 := got_rest h2
    repeat (first | refine then_nrm ?_ | refine aw_seq ?_ | refine aw_skip ?_)
    refine aw_region ?_
    refine ao1 (by decide) (o_move (v := .pl _) rfl) ?_
    refine ao_ret (c2 _) rfl (by decide) ?_
    refine ao1 (by decide) (o_move (v := .tup _) rfl) ?_
    refine ao1 (by decide) (o_extract (v := .int _ _) rfl rfl) ?_
    refine ao1 (by decide) (o_extract (v := .pl _) rfl rfl) ?_
    refine ao1 (by decide) (o_extract (v := .int _ _) rfl rfl) ?_
    refine ao1 (by decide) (o_assign (v := .int _ _) rfl) ?_
    refine ao1 (by decide) (o_assign (v := .pl _) rfl) ?_
    refine ao1 (by decide) (o_assign (v := .int _ _) rfl) ?_
    refine ao_nil ?_
    repeat (first | refine then_nrm ?_ | refine aw_seq ?_)
    refine aw_region ?_
    refine ao1 (by decide) (o_move (v := .int _ _) rfl) ?_
    refine ao1 (by decide) (o_ne rfl rfl) ?_
    refine ao_nil ?_
    repeat (refine then_nrm ?_)
    refine aw_cond rfl (fun hc => ?_) (fun hc => ?_)
    · simp at hc
    repeat (first | refine then_nrm ?_ | refine aw_seq ?_ | refine aw_skip ?_)
    refine aw_region ?_
    refine ao1 (by decide) (o_move (v := .pl _) rfl) ?_
    refine ao1 (by decide) (o_assign (v := .pl _) rfl) ?_
    refine ao_nil ?_
    repeat (first | refine then_nrm ?_ | refine aw_seq ?_)
    refine aw_out 79 (.bool (decide (255 < far) || decide (255 < more) || decide (255 < last + far + more) || (decide (0 < i) && decide (far < 2)))) ?_ ?_
    · refine ao1 (by decide) (o_move (v := .int _ _) rfl) ?_
      refine ao1 (by decide) (o_gt rfl rfl) ?_
      refine ao1 (by decide) (o_move (v := .bool _) rfl) ?_
      refine ao_split rfl rfl (fun hg2 => ?_) (fun hg2 => ?_)
      · refine ao_nF rfl rfl (by decide) ?_
        refine ao_nF rfl rfl (by decide) ?_
        refine ao1 (by decide) (o_pick_t (v := .bool _) rfl rfl) ?_
        refine ao1 (by decide) (o_move (v := .bool _) rfl) ?_
        refine ao_nF rfl rfl (by decide) ?_
        refine ao_nF rfl rfl (by decide) ?_
        refine ao_nF rfl rfl (by decide) ?_
        refine ao_nF rfl rfl (by decide) ?_
        refine ao_nF rfl rfl (by decide) ?_
        refine ao_nF rfl rfl (by decide) ?_
        refine ao1 (by decide) (o_pick_t (v := .bool _) rfl rfl) ?_
        refine ao1 (by decide) (o_move (v := .bool _) rfl) ?_
        refine ao_nF rfl rfl (by decide) ?_
        refine ao_nF rfl rfl (by decide) ?_
        refine ao_nF rfl rfl (by decide) ?_
        refine ao_nU rfl rfl (by decide) ?_
        refine ao_nU rfl rfl (by decide) ?_
        refine ao_nF rfl rfl (by decide) ?_
        refine ao1 (by decide) (o_pick_t (v := .bool _) rfl rfl) ?_
        exact ao_nil (Out.mk (by (refine congrArg AV.bool ?_; (clear hspec hB c1 c2 cn hrs; (simp_all; omega)))) (by repeat (first | exact SubX.refl _ _ | refine SubX.at ?_ | refine SubX.put rfl ?_)))
      · refine ao_y1 rfl rfl (by decide) (o_move (v := .int _ _) rfl) ?_
        refine ao_y1 rfl rfl (by decide) (o_gt rfl rfl) ?_
        refine ao1 (by decide) (o_pick_f (v := .bool _) rfl rfl) ?_
        refine ao1 (by decide) (o_move (v := .bool _) rfl) ?_
        refine ao_split rfl rfl (fun hg6 => ?_) (fun hg6 => ?_)
        · refine ao_nF rfl rfl (by decide) ?_
          refine ao_nF rfl rfl (by decide) ?_
          refine ao_nF rfl rfl (by decide) ?_
          refine ao_nF rfl rfl (by decide) ?_
          refine ao_nF rfl rfl (by decide) ?_
          refine ao_nF rfl rfl (by decide) ?_
          refine ao1 (by decide) (o_pick_t (v := .bool _) rfl rfl) ?_
          refine ao1 (by decide) (o_move (v := .bool _) rfl) ?_
          refine ao_nF rfl rfl (by decide) ?_
          refine ao_nF rfl rfl (by decide) ?_
          refine ao_nF rfl rfl (by decide) ?_
          refine ao_nU rfl rfl (by decide) ?_
          refine ao_nU rfl rfl (by decide) ?_
          refine ao_nF rfl rfl (by decide) ?_
          refine ao1 (by decide) (o_pick_t (v := .bool _) rfl rfl) ?_
          exact ao_nil (Out.mk (by (refine congrArg AV.bool ?_; (clear hspec hB c1 c2 cn hrs; (simp_all; omega)))) (by repeat (first | exact SubX.refl _ _ | refine SubX.at ?_ | refine SubX.put rfl ?_)))
        · refine ao_y1 rfl rfl (by decide) (o_move (v := .int _ _) rfl) ?_
          refine ao_y1 rfl rfl (by decide) (o_move (v := .int _ _) rfl) ?_
          refine ao_y1 rfl rfl (by decide) (o_add (r := ((last + far : Nat) : Int)) rfl rfl (by rw [show (last : Int) + (far : Int) = ((last + far : Nat) : Int) by omega]; exact u64_wrap _ (by omega))) ?_
          refine ao_y1 rfl rfl (by decide) (o_move (v := .int _ _) rfl) ?_
          refine ao_y1 rfl rfl (by decide) (o_add (r := ((last + far + more : Nat) : Int)) rfl rfl (by rw [show ((last + far : Nat) : Int) + (more : Int) = ((last + far + more : Nat) : Int) by omega]; exact u64_wrap _ (by omega))) ?_
          refine ao_y1 rfl rfl (by decide) (o_gt rfl rfl) ?_
          refine ao1 (by decide) (o_pick_f (v := .bool _) rfl rfl) ?_
          refine ao1 (by decide) (o_move (v := .bool _) rfl) ?_
          refine ao_split rfl rfl (fun hg14 => ?_) (fun hg14 => ?_)
          · refine ao_nF rfl rfl (by decide) ?_
            refine ao_nF rfl rfl (by decide) ?_
            refine ao_nF rfl rfl (by decide) ?_
            refine ao_nU rfl rfl (by decide) ?_
            refine ao_nU rfl rfl (by decide) ?_
            refine ao_nF rfl rfl (by decide) ?_
            refine ao1 (by decide) (o_pick_t (v := .bool _) rfl rfl) ?_
            exact ao_nil (Out.mk (by (refine congrArg AV.bool ?_; (clear hspec hB c1 c2 cn hrs; (simp_all; omega)))) (by repeat (first | exact SubX.refl _ _ | refine SubX.at ?_ | refine SubX.put rfl ?_)))
          · refine ao_y1 rfl rfl (by decide) (o_move (v := .int _ _) rfl) ?_
            refine ao_y1 rfl rfl (by decide) (o_gt rfl rfl) ?_
            refine ao_y1 rfl rfl (by decide) (o_move (v := .bool _) rfl) ?_
            refine ao_split rfl rfl (fun hg17 => ?_) (fun hg17 => ?_)
            · refine ao_y1 rfl rfl (by decide) (o_move (v := .int _ _) rfl) ?_
              refine ao_y1 rfl rfl (by decide) (o_lt rfl rfl) ?_
              refine ao_y1 rfl rfl (by decide) (o_pick_t (v := .bool _) rfl rfl) ?_
              refine ao1 (by decide) (o_pick_f (v := .bool _) rfl rfl) ?_
              exact ao_nil (Out.mk (by (refine congrArg AV.bool ?_; (clear hspec hB c1 c2 cn hrs; grind))) (by repeat (first | exact SubX.refl _ _ | refine SubX.at ?_ | refine SubX.put rfl ?_)))
            · refine ao_nT rfl rfl (by decide) ?_
              refine ao_nT rfl rfl (by decide) ?_
              refine ao_y1 rfl rfl (by decide) (o_pick_f (v := .bool _) rfl rfl) ?_
              refine ao1 (by decide) (o_pick_f (v := .bool _) rfl rfl) ?_
              exact ao_nil (Out.mk (by (refine congrArg AV.bool ?_; (clear hspec hB c1 c2 cn hrs; (simp_all; omega)))) (by repeat (first | exact SubX.refl _ _ | refine SubX.at ?_ | refine SubX.put rfl ?_)))
    by_cases hok : far < 256 ∧ more < 256 ∧ last + far + more < 256 ∧ ((i == 0) = true ∨ 1 < far)
    case neg =>
      rw [if_neg hok] at hspec
      rw [← hspec]
      repeat (refine then_nrm ?_)
      refine aw_cond rfl (fun hc => ?_) (fun hc => ?_)
      · repeat (refine aw_seq ?_)
        refine aw_region ?_
        refine ao1 (by decide) (o_assign (v := .nsl) rfl) ?_
        refine ao1 (by decide) (o_assign (v := .nsl) rfl) ?_
        refine ao1 (by decide) (o_assign (v := .int _ _) rfl) ?_
        refine ao_nil ?_
        repeat (refine then_nrm ?_)
        refine aw_nslpl 2 rfl ?_
        refine aw_nslpl 3 rfl ?_
        refine aw_ret ?_
        exact e_done hB (r_tmp rfl (r_tmp rfl (r_tmp rfl .nil))) rfl rfl
      · exfalso
        simp at hc
        refine hok ⟨by omega, by omega, by omega, ?_⟩
        by_cases h0 : i = 0
        · exact .inl (by simp [h0])
        · exact .inr (by have := hc.2 (by omega); omega)
    rw [if_pos hok] at hspec
    obtain ⟨hfa, hmo, hsum, hfi⟩ := hok
    have hfi' : i = 0 ∨ 1 < far := hfi.imp (fun e => by simpa using e) (fun e => e)
    repeat (refine then_nrm ?_)
    refine aw_cond rfl (fun hc => ?_) (fun hc => ?_)
    · exfalso; simp at hc; omega
    clear c1 c2 cn hrs hfi hc
    repeat (first | refine then_nrm ?_ | refine aw_seq ?_ | refine aw_skip ?_)
    refine aw_region ?_
    refine ao1 (by decide) (o_move (v := .int _ _) rfl) ?_
    refine ao1 (by decide) (o_move (v := .int _ _) rfl) ?_
    refine ao1 (by decide) (o_add (r := ((last + far + 0 : Nat) : Int)) rfl rfl (by rw [show (last : Int) + (far : Int) = ((last + far + 0 : Nat) : Int) by omega]; exact u64_wrap _ (by omega))) ?_
    refine ao1 (by decide) (o_assign (v := .int _ _) rfl) ?_
    refine ao_nil ?_
    repeat (first | refine then_nrm ?_ | refine aw_block ?_)
    refine aw_loop (G := Nat) (fun k => k ≤ more + 1) (fun k => [(0, .pl (b3.map brow)), (5, .int .u64 (many : Int)), (7, .sl (Lid H.length 0) (acc ++ gotk (last + far) k).length 0 (acc ++ gotk (last + far) k).length (acc ++ gotk (last + far) k).length), (8, .int .u64 (last : Int)), (9, .int .u64 (i : Int)), (10, .int .u64 (far : Int)), (13, .int .u64 (more : Int)), (14, .int .u64 ((last + far + k : Nat) : Int))]) (fun k => H ++ [⟨(acc ++ gotk (last + far) k).length, 1, (acc ++ gotk (last + far) k).map eInt⟩]) (fun k => more + 1 - k) 0 (Nat.zero_le _) (by rw [show acc ++ gotk (last + far) 0 = acc from List.append_nil _]; exact (by repeat (first | exact Sub.nil | refine Sub.cons (by rfl) ?_))) (.inl (by rw [show acc ++ gotk (last + far) 0 = acc from List.append_nil _])) ?_
    intro k hk1
    generalize hac : acc ++ gotk (last + far) k = ac
    have hacl : ac.length ≤ 256 * many + 256 := by
      have : (gotk (last + far) k).length = k := by unfold gotk; rw [List.length_map, List.length_range]
      rw [← hac, List.length_append, this]
      have : 256 * i ≤ 256 * many := Nat.mul_le_mul_left _ him
      omega
    repeat (refine aw_seq ?_)
    refine aw_region ?_
    refine ao1 (by decide) (o_move (v := .int _ _) rfl) ?_
    refine ao1 (by decide) (o_move (v := .int _ _) rfl) ?_
    refine ao1 (by decide) (o_move (v := .int _ _) rfl) ?_
    refine ao1 (by decide) (o_add (r := ((last + far : Nat) : Int)) rfl rfl (by rw [show (last : Int) + (far : Int) = ((last + far : Nat) : Int) by omega]; exact u64_wrap _ (by omega))) ?_
    refine ao1 (by decide) (o_move (v := .int _ _) rfl) ?_
    refine ao1 (by decide) (o_add (r := ((last + far + more : Nat) : Int)) rfl rfl (by rw [show ((last + far : Nat) : Int) + (more : Int) = ((last + far + more : Nat) : Int) by omega]; exact u64_wrap _ (by omega))) ?_
    refine ao1 (by decide) (o_le rfl rfl) ?_
    refine ao_nil ?_
    repeat (refine then_nrm ?_)
    refine aw_cond rfl (fun hc => ?_) (fun hc => ?_)
    · have hkm : k ≤ more := by simp at hc; omega
      repeat (first | refine then_nrm ?_ | refine aw_seq ?_ | refine aw_block ?_ | refine aw_skip ?_)
      refine aw_region ?_
      refine ao1 (by decide) (o_move (v := .sl _ _ _ _ _) rfl) ?_
      refine ao1 (by decide) (o_move (v := .int _ _) rfl) ?_
      refine ao1 (by decide) (o_conv_int (r := ((last + far + k : Nat) : Int)) rfl (wrap64_ok (by omega) (by omega))) ?_
      refine ao2 (by rintro _ ⟨⟩; decide) (g_lit1 (sz := 1) (v := .int .i64 ((last + far + k : Nat) : Int)) rfl (by decide) (by decide) rfl rfl rfl rfl rfl) ?_
      refine ao2 (by rintro _ ⟨⟩; decide) (w_append rfl rfl rfl rfl rfl (Src.pl (ys := [eInt ((last + far + k : Nat) : Int)]) rfl (ints_len1 [_])) rfl (by simp) (by simp) (by simp; omega) (by simp; omega)) ?_
      refine ao1 (by decide) (o_assign (v := .sl _ _ _ _ _) rfl) ?_
      refine ao_nil ?_
      try dsimp only [List.length_cons, List.length_nil, Nat.reduceAdd, AV.cells, put, List.set_cons_zero]
      rw [show (ac.map eInt).take ac.length = ac.map eInt from List.take_of_length_le (by simp)]
      repeat (first | refine then_nrm ?_ | refine blk_nrm ?_)
      refine aw_region ?_
      refine ao1 (by decide) (o_move (v := .int _ _) rfl) ?_
      refine ao1 (by decide) (o_add (r := ((last + far + (k + 1) : Nat) : Int)) rfl rfl (by rw [show ((last + far + k : Nat) : Int) + 1 = ((last + far + (k + 1) : Nat) : Int) by omega]; exact u64_wrap _ (by omega))) ?_
      refine ao1 (by decide) (o_assign (v := .int _ _) rfl) ?_
      refine ao_nil ?_
      repeat (refine then_nrm ?_)
      have hnext : acc ++ gotk (last + far) (k + 1) = ac ++ [((last + far + k : Nat) : Int)] := by rw [gotk_step, ← List.append_assoc, hac]
      exact ⟨k + 1, by omega, by omega, by rw [hnext]; simp only [List.length_append, List.length_cons, List.length_nil]; exact (by repeat (first | exact Sub.nil | refine Sub.cons (by rfl) ?_)), .inl (by rw [hnext]; simp only [List.length_append, List.length_cons, List.length_nil, List.map_append, List.map_cons, List.map_nil])⟩
    · have hkm : k = more + 1 := by simp at hc; omega
      subst hkm
      rw [gotk_goti] at hac
      repeat (first | refine then_nrm ?_ | refine then_brk ?_ | refine blk_hit ?_ | refine aw_exit ?_)
      refine aw_region ?_
      refine ao1 (by decide) (o_move (v := .int _ _) rfl) ?_
      refine ao1 (by decide) (o_move (v := .int _ _) rfl) ?_
      refine ao1 (by decide) (o_move (v := .int _ _) rfl) ?_
      refine ao1 (by decide) (o_add (r := ((far + more : Nat) : Int)) rfl rfl (by rw [show (far : Int) + (more : Int) = ((far + more : Nat) : Int) by omega]; exact u64_wrap _ (by omega))) ?_
      refine ao1 (by decide) (o_add (r := ((last + far + more : Nat) : Int)) rfl rfl (by rw [show (last : Int) + ((far + more : Nat) : Int) = ((last + far + more : Nat) : Int) by omega]; exact u64_wrap _ (by omega))) ?_
      refine ao1 (by decide) (o_assign (v := .int _ _) rfl) ?_
      refine ao_nil ?_
      repeat (first | refine then_nrm ?_ | refine blk_nrm ?_)
      refine aw_region ?_
      refine ao1 (by decide) (o_move (v := .int _ _) rfl) ?_
      refine ao1 (by decide) (o_add (r := ((i + 1 : Nat) : Int)) rfl rfl (by rw [show (i : Int) + 1 = ((i + 1 : Nat) : Int) by omega]; exact u64_wrap _ (by omega))) ?_
      refine ao1 (by decide) (o_assign (v := .int _ _) rfl) ?_
      refine ao_nil ?_
      repeat (refine then_nrm ?_)
      refine ⟨(i + 1, last + far + more, ac, b3), by simp only; omega, ⟨?_, by simp only; omega, hsum, ?_, by simp only; omega⟩, (by repeat (first | exact Sub.nil | refine Sub.cons (by rfl) ?_)), .inl rfl⟩
      · simp only
        rw [← hspec, ← hac, show many - (i + 1) = m' by omega]
        rfl
      · simp only
        rw [← hac, List.length_append, goti_len]
        omega
  · have hi : i = many := by simp at hc; omega
    subst hi
    rw [Nat.sub_self, gots] at hspec
    rw [← hspec]
    repeat (first | refine then_nrm ?_ | refine then_brk ?_ | refine blk_hit ?_ | refine aw_seq ?_ | refine aw_exit ?_)
    refine aw_region ?_
    refine ao1 (by decide) (o_move (v := .sl _ _ _ _ _) rfl) ?_
    refine ao1 (by decide) (o_move (v := .pl _) rfl) ?_
    refine ao1 (by decide) (o_assign (v := .sl _ _ _ _ _) rfl) ?_
    refine ao1 (by decide) (o_assign (v := .pl _) rfl) ?_
    refine ao1 (by decide) (o_assign (v := .int _ _) rfl) ?_
    refine ao_nil ?_
    repeat (refine then_nrm ?_)
    refine aw_freezeL (ys := acc.map eInt) 2 rfl rfl rfl rfl (by rw [List.drop_zero, List.take_of_length_le (by simp)]) (by simp) (ints_bel0 0 _) ?_
    refine aw_ret ?_
    exact e_done hB (r_tmp rfl (r_tmp rfl (r_tmp rfl .nil))) rfl rfl
theorem ref08_ReadSet (b : List UInt8) (H : Heap) : AC Try.prog 31 [.pl (b.map brow)] H (Ret (.tup [.pl ((readSet b).1.map eInt), .int .i64 (readSet b).2]) H) := by
  refine AC.body (N := 25) [.tmp 2, .tmp 3] Try.func31 rfl rfl rfl (Nat.le_of_ble_eq_true rfl) fun B hB => ?_
  repeat (refine aw_seq ?_)
  refine aw_region ?_
  refine ao1 (by decide) (o_assign (v := .nsl) rfl) ?_
  refine ao1 (by decide) (o_assign (v := .int _ _) rfl) ?_
  refine ao_nil ?_
  repeat (first | refine then_nrm ?_ | refine aw_seq ?_)
  refine aw_region ?_
  refine ao1 (by decide) (o_move (v := .pl _) rfl) ?_
  refine ao1 (by decide) (o_lenp rfl) ?_
  refine ao1 (by decide) (o_gt rfl rfl) ?_
  refine ao_nil ?_
  by_cases hb : 65536 < b.length
  · rw [show readSet b = ([], 4) by rw [readSet, if_pos hb]]
    repeat (refine then_nrm ?_)
    refine aw_cond rfl (fun hc => ?_) (fun hc => ?_)
    · repeat (refine aw_seq ?_)
      refine aw_region ?_
      refine ao1 (by decide) (o_assign (v := .nsl) rfl) ?_
      refine ao1 (by decide) (o_assign (v := .int _ _) rfl) ?_
      refine ao_nil ?_
      try dsimp only
      repeat (refine then_nrm ?_)
      refine aw_nslpl 2 rfl ?_
      refine aw_ret ?_
      exact e_done hB (r_tmp rfl (r_tmp rfl .nil)) rfl rfl
    · exfalso; simp at hc; omega
  repeat (refine then_nrm ?_)
  refine aw_cond rfl (fun hc => ?_) (fun hc => ?_)
  · exfalso; simp at hc; omega
  have cs := ref08_set b (H ++ []) (by omega)
  cases hr : rset b with
  | error e =>
    have he := rset_err hr
    rw [show readSet b = ([], e) by rw [readSet, if_neg hb, hr]]
    rw [hr] at cs
    repeat (first | refine then_nrm ?_ | refine aw_seq ?_ | refine aw_skip ?_)
    refine aw_region ?_
    refine ao1 (by decide) (o_move (v := .pl _) rfl) ?_
    refine ao_ret (cs) rfl (by decide) ?_
    refine ao1 (by decide) (o_move (v := .tup _) rfl) ?_
    refine ao1 (by decide) (o_extract (v := .pl _) rfl rfl) ?_
    refine ao1 (by decide) (o_extract (v := .pl _) rfl rfl) ?_
    refine ao1 (by decide) (o_extract (v := .int _ _) rfl rfl) ?_
    refine ao1 (by decide) (o_assign (v := .pl _) rfl) ?_
    refine ao1 (by decide) (o_assign (v := .pl _) rfl) ?_
    refine ao1 (by decide) (o_assign (v := .int _ _) rfl) ?_
    refine ao_nil ?_
    try dsimp only
    repeat (first | refine then_nrm ?_ | refine aw_seq ?_)
    refine aw_out 22 (.bool false) ?_ ?_
    · refine ao1 (by decide) (o_move (v := .int _ _) rfl) ?_
      refine ao1 (by decide) (o_eq rfl rfl) ?_
      refine ao1 (by decide) (o_move (v := .bool _) rfl) ?_
      refine ao_split rfl rfl (fun hg2 => ?_) (fun hg2 => ?_)
      · refine ao_y1 rfl rfl (by decide) (o_move (v := .pl _) rfl) ?_
        refine ao_y1 rfl rfl (by decide) (o_lenp rfl) ?_
        refine ao_y1 rfl rfl (by decide) (o_gt rfl rfl) ?_
        refine ao1 (by decide) (o_pick_t (v := .bool _) rfl rfl) ?_
        exact ao_nil (Out.mk (by rfl) (by repeat (first | exact SubX.refl _ _ | refine SubX.at ?_ | refine SubX.put rfl ?_)))
      · refine ao_nT rfl rfl (by decide) ?_
        refine ao_nT rfl rfl (by decide) ?_
        refine ao_nT rfl rfl (by decide) ?_
        refine ao1 (by decide) (o_pick_f (v := .bool _) rfl rfl) ?_
        exact ao_nil (Out.mk (by rfl) (by repeat (first | exact SubX.refl _ _ | refine SubX.at ?_ | refine SubX.put rfl ?_)))
    repeat (refine then_nrm ?_)
    refine aw_cond rfl (fun hc => ?_) (fun hc => ?_)
    · cases hc
    · repeat (first | refine then_nrm ?_ | refine aw_seq ?_ | refine aw_skip ?_)
      refine aw_region ?_
      refine ao1 (by decide) (o_move (v := .pl _) rfl) ?_
      refine ao1 (by decide) (o_move (v := .int _ _) rfl) ?_
      refine ao1 (by decide) (o_assign (v := .pl _) rfl) ?_
      refine ao1 (by decide) (o_assign (v := .int _ _) rfl) ?_
      refine ao_nil ?_
      repeat (first | refine then_nrm ?_ | refine aw_ret ?_)
      exact e_done hB (r_tmp rfl (r_tmp rfl .nil)) rfl rfl
  | ok y =>
    obtain ⟨l, r⟩ := y
    rw [hr] at cs
    cases r with
    | nil =>
      rw [show readSet b = (l, 0) by rw [readSet, if_neg hb, hr]; rfl]
      repeat (first | refine then_nrm ?_ | refine aw_seq ?_ | refine aw_skip ?_)
      refine aw_region ?_
      refine ao1 (by decide) (o_move (v := .pl _) rfl) ?_
      refine ao_ret (cs) rfl (by decide) ?_
      refine ao1 (by decide) (o_move (v := .tup _) rfl) ?_
      refine ao1 (by decide) (o_extract (v := .pl _) rfl rfl) ?_
      refine ao1 (by decide) (o_extract (v := .pl _) rfl rfl) ?_
      refine ao1 (by decide) (o_extract (v := .int _ _) rfl rfl) ?_
      refine ao1 (by decide) (o_assign (v := .pl _) rfl) ?_
      refine ao1 (by decide) (o_assign (v := .pl _) rfl) ?_
      refine ao1 (by decide) (o_assign (v := .int _ _) rfl) ?_
      refine ao_nil ?_
      try dsimp only
      repeat (first | refine then_nrm ?_ | refine aw_seq ?_)
      refine aw_out 22 (.bool false) ?_ ?_
      · refine ao1 (by decide) (o_move (v := .int _ _) rfl) ?_
        refine ao1 (by decide) (o_eq rfl rfl) ?_
        refine ao1 (by decide) (o_move (v := .bool _) rfl) ?_
        refine ao_split rfl rfl (fun hg2 => ?_) (fun hg2 => ?_)
        · refine ao_y1 rfl rfl (by decide) (o_move (v := .pl _) rfl) ?_
          refine ao_y1 rfl rfl (by decide) (o_lenp rfl) ?_
          refine ao_y1 rfl rfl (by decide) (o_gt rfl rfl) ?_
          refine ao1 (by decide) (o_pick_t (v := .bool _) rfl rfl) ?_
          exact ao_nil (Out.mk (by rfl) (by repeat (first | exact SubX.refl _ _ | refine SubX.at ?_ | refine SubX.put rfl ?_)))
        · refine ao_nT rfl rfl (by decide) ?_
          refine ao_nT rfl rfl (by decide) ?_
          refine ao_nT rfl rfl (by decide) ?_
          refine ao1 (by decide) (o_pick_f (v := .bool _) rfl rfl) ?_
          exact ao_nil (Out.mk (by rfl) (by repeat (first | exact SubX.refl _ _ | refine SubX.at ?_ | refine SubX.put rfl ?_)))
      repeat (refine then_nrm ?_)
      refine aw_cond rfl (fun hc => ?_) (fun hc => ?_)
      · cases hc
      · repeat (first | refine then_nrm ?_ | refine aw_seq ?_ | refine aw_skip ?_)
        refine aw_region ?_
        refine ao1 (by decide) (o_move (v := .pl _) rfl) ?_
        refine ao1 (by decide) (o_move (v := .int _ _) rfl) ?_
        refine ao1 (by decide) (o_assign (v := .pl _) rfl) ?_
        refine ao1 (by decide) (o_assign (v := .int _ _) rfl) ?_
        refine ao_nil ?_
        repeat (first | refine then_nrm ?_ | refine aw_ret ?_)
        exact e_done hB (r_tmp rfl (r_tmp rfl .nil)) rfl rfl
    | cons c r =>
      rw [show readSet b = ([], 3) by rw [readSet, if_neg hb, hr]; rfl]
      repeat (first | refine then_nrm ?_ | refine aw_seq ?_ | refine aw_skip ?_)
      refine aw_region ?_
      refine ao1 (by decide) (o_move (v := .pl _) rfl) ?_
      refine ao_ret (cs) rfl (by decide) ?_
      refine ao1 (by decide) (o_move (v := .tup _) rfl) ?_
      refine ao1 (by decide) (o_extract (v := .pl _) rfl rfl) ?_
      refine ao1 (by decide) (o_extract (v := .pl _) rfl rfl) ?_
      refine ao1 (by decide) (o_extract (v := .int _ _) rfl rfl) ?_
      refine ao1 (by decide) (o_assign (v := .pl _) rfl) ?_
      refine ao1 (by decide) (o_assign (v := .pl _) rfl) ?_
      refine ao1 (by decide) (o_assign (v := .int _ _) rfl) ?_
      refine ao_nil ?_
      try dsimp only
      repeat (first | refine then_nrm ?_ | refine aw_seq ?_)
      refine aw_out 22 (.bool true) ?_ ?_
      · refine ao1 (by decide) (o_move (v := .int _ _) rfl) ?_
        refine ao1 (by decide) (o_eq rfl rfl) ?_
        refine ao1 (by decide) (o_move (v := .bool _) rfl) ?_
        refine ao_split rfl rfl (fun hg2 => ?_) (fun hg2 => ?_)
        · refine ao_y1 rfl rfl (by decide) (o_move (v := .pl _) rfl) ?_
          refine ao_y1 rfl rfl (by decide) (o_lenp rfl) ?_
          refine ao_y1 rfl rfl (by decide) (o_gt rfl rfl) ?_
          refine ao1 (by decide) (o_pick_t (v := .bool _) rfl rfl) ?_
          exact ao_nil (Out.mk (by (refine congrArg AV.bool ?_; (clear cs; (simp_all; done)))) (by repeat (first | exact SubX.refl _ _ | refine SubX.at ?_ | refine SubX.put rfl ?_)))
        · refine ao_nT rfl rfl (by decide) ?_
          refine ao_nT rfl rfl (by decide) ?_
          refine ao_nT rfl rfl (by decide) ?_
          refine ao1 (by decide) (o_pick_f (v := .bool _) rfl rfl) ?_
          exact ao_nil (Out.mk (by (refine congrArg AV.bool ?_; (clear cs; (simp_all; done)))) (by repeat (first | exact SubX.refl _ _ | refine SubX.at ?_ | refine SubX.put rfl ?_)))
      repeat (refine then_nrm ?_)
      refine aw_cond rfl (fun hc => ?_) (fun hc => ?_)
      · repeat (refine aw_seq ?_)
        refine aw_region ?_
        refine ao1 (by decide) (o_assign (v := .nsl) rfl) ?_
        refine ao1 (by decide) (o_assign (v := .int _ _) rfl) ?_
        refine ao_nil ?_
        repeat (refine then_nrm ?_)
        refine aw_nslpl 2 rfl ?_
        refine aw_ret ?_
        exact e_done hB (r_tmp rfl (r_tmp rfl .nil)) rfl rfl
      · cases hc
end Go.Av

/-
  CODES, plainly: numbers and sets are put as1 bytes, and read as1 they were; what is read was put in just these bytes.
-/
namespace Go.Av
def numB (n : Nat) : List UInt8 := if n < 128 then [UInt8.ofNat n] else UInt8.ofNat (n % 128 + 128) :: numB (n / 128)
termination_by n
decreasing_by omega
theorem numB_lt {n : Nat} (h : n < 128) : numB n = [UInt8.ofNat n] := by rw [numB, if_pos h]
theorem numB_ge {n : Nat} (h : ¬ n < 128) : numB n = UInt8.ofNat (n % 128 + 128) :: numB (n / 128) := by rw [numB, if_neg h]
theorem ofNat_lt {n : Nat} (h : n < 256) : (UInt8.ofNat n).toNat = n := by simp [UInt8.toNat_ofNat', Nat.mod_eq_of_lt h]
theorem got_num (m : Nat) : ∀ (i n : Nat) (r : List UInt8), n + m * 128 ^ i ≤ 4611686018427387904 → (0 < i → 0 < m) → got i n (numB m ++ r) = .ok (n + m * 128 ^ i, r) := by
  induction m using Nat.strongRecOn with
  | _ m ih =>
    intro i n r hb hi
    have hi8 : ¬ 8 < i := by
      intro h8
      have h1 : (128 : Nat) ^ 9 ≤ 128 ^ i := Nat.pow_le_pow_right (by decide) h8
      have h2 : (128 : Nat) ^ 9 = 9223372036854775808 := by decide
      have h3 : 0 < m := hi (by omega)
      have h4 : 1 * 128 ^ i ≤ m * 128 ^ i := Nat.mul_le_mul_right _ h3
      omega
    by_cases hm : m < 128
    · rw [numB_lt hm]
      show got i n (UInt8.ofNat m :: r) = _
      have hc := ofNat_lt (show m < 256 by omega)
      rw [got, if_neg, hc, if_pos hm, if_neg (by rw [Nat.mod_eq_of_lt hm]; omega), Nat.mod_eq_of_lt hm]
      rintro (h | ⟨h, e⟩)
      · exact hi8 h
      · have := hi h
        have e2 := congrArg UInt8.toNat e
        rw [hc] at e2
        have : m = 0 := e2
        omega
    · rw [numB_ge hm]
      show got i n (UInt8.ofNat (m % 128 + 128) :: (numB (m / 128) ++ r)) = _
      have hc := ofNat_lt (show m % 128 + 128 < 256 by omega)
      have e0 : m = m % 128 + m / 128 * 128 := by omega
      have e1 : n + m % 128 * 128 ^ i + m / 128 * 128 ^ (i + 1) = n + m * 128 ^ i := by
        rw [Nat.pow_succ, Nat.add_assoc, show m / 128 * (128 ^ i * 128) = m / 128 * 128 * 128 ^ i by rw [Nat.mul_assoc, Nat.mul_comm (128 ^ i) 128], ← Nat.add_mul, ← e0]
      rw [got, if_neg, hc, if_neg (by omega), show (m % 128 + 128) % 128 = m % 128 by omega, ih (m / 128) (by omega) (i + 1) _ r (by rw [e1]; exact hb) (fun _ => by omega), e1]
      rintro (h | ⟨_, e⟩)
      · exact hi8 h
      · have e2 := congrArg UInt8.toNat e
        rw [hc] at e2
        have : m % 128 + 128 = 0 := e2
        omega
theorem num_got : ∀ {b : List UInt8} {i n x : Nat} {r : List UInt8}, got i n b = .ok (x, r) → ∃ m, b = numB m ++ r ∧ x = n + m * 128 ^ i ∧ (0 < i → 0 < m)
  | [], _, _, _, _, h => by cases h
  | c :: b, i, n, x, r, h => by
    unfold got at h
    split at h
    · cases h
    rename_i hbad
    have hc256 : c.toNat < 256 := c.toNat_lt
    split at h
    · rename_i hlt
      split at h
      · cases h
      · cases h
        refine ⟨c.toNat, ?_, by rw [Nat.mod_eq_of_lt hlt], fun hi => ?_⟩
        · rw [numB_lt hlt]
          show c :: b = UInt8.ofNat c.toNat :: b
          rw [UInt8.ofNat_toNat]
        · rcases Nat.eq_zero_or_pos c.toNat with e | e
          · exact absurd (.inr ⟨hi, UInt8.toNat_inj.1 e⟩) hbad
          · exact e
    · rename_i hlt
      obtain ⟨m, rfl, hx, hm⟩ := num_got h
      have hm0 := hm (by omega)
      refine ⟨c.toNat % 128 + m * 128, ?_, ?_, fun _ => by omega⟩
      · rw [numB_ge (n := c.toNat % 128 + m * 128) (by omega), show (c.toNat % 128 + m * 128) / 128 = m by omega, show (c.toNat % 128 + m * 128) % 128 + 128 = c.toNat by omega, UInt8.ofNat_toNat]
        rfl
      · rw [hx, Nat.add_mul, Nat.pow_succ, Nat.add_assoc, show m * (128 ^ i * 128) = m * 128 * 128 ^ i by rw [Nat.mul_assoc, Nat.mul_comm (128 ^ i) 128]]
theorem got_num0 {m : Nat} (h : m ≤ 4611686018427387904) (r : List UInt8) : got 0 0 (numB m ++ r) = .ok (m, r) := by
  have := got_num m 0 0 r (by simpa using h) (fun h => absurd h (Nat.lt_irrefl _))
  simpa using this
theorem num_got0 {b : List UInt8} {x : Nat} {r : List UInt8} (h : got 0 0 b = .ok (x, r)) : b = numB x ++ r := by
  obtain ⟨m, h1, h2, _⟩ := num_got h
  have : x = m := by simpa using h2
  rw [this]; exact h1

/-! ### runs -/
def addLast (k : Nat) : List (Nat × Nat) → List (Nat × Nat)
  | [] => []
  | [(a, m)] => [(a, m + k)]
  | x :: y :: l => x :: addLast k (y :: l)
theorem addLast_snoc (k : Nat) (l : List (Nat × Nat)) (a m : Nat) : addLast k (l ++ [(a, m)]) = l ++ [(a, m + k)] := by
  induction l with
  | nil => rfl
  | cons x l ih =>
    cases l with
    | nil => rfl
    | cons y l => show x :: addLast k (y :: (l ++ [(a, m)])) = _; rw [show y :: (l ++ [(a, m)]) = (y :: l) ++ [(a, m)] from rfl, ih]; rfl
/-- The runs of what is below n. -/
def rt (f : Nat → Bool) : Nat → List (Nat × Nat)
  | 0 => []
  | n + 1 => if f n = false then rt f n else if 0 < n ∧ f (n - 1) = true then addLast 1 (rt f n) else rt f n ++ [(n, 0)]
theorem rt_no {f : Nat → Bool} {n : Nat} (h : f n = false) : rt f (n + 1) = rt f n := by rw [rt, if_pos h]
theorem rt_last {f : Nat → Bool} : ∀ {n : Nat}, 0 < n → f (n - 1) = true → ∃ l a m, rt f n = l ++ [(a, m)] ∧ a + m = n - 1
  | n + 1, _, h => by
    have h' : f n = true := h
    rw [rt, if_neg (by rw [h']; simp)]
    by_cases h1 : 0 < n ∧ f (n - 1) = true
    · obtain ⟨l, a, m, e, ha⟩ := rt_last h1.1 h1.2
      rw [if_pos h1, e, addLast_snoc]
      exact ⟨l, a, m + 1, rfl, by show a + (m + 1) = n; omega⟩
    · rw [if_neg h1]
      exact ⟨rt f n, n, 0, rfl, by simp⟩
theorem rt_skip {f : Nat → Bool} {a b : Nat} (h : a ≤ b) (hf : ∀ x, a ≤ x → x < b → f x = false) : rt f b = rt f a := by
  obtain ⟨d, rfl⟩ : ∃ d, b = a + d := ⟨b - a, by omega⟩
  induction d with
  | zero => rfl
  | succ d ih =>
    rw [show a + (d + 1) = a + d + 1 by omega, rt_no (hf (a + d) (by omega) (by omega))]
    exact ih (by omega) fun x h1 h2 => hf x h1 (by omega)
/-- How many follow without a gap. -/
def ext (f : Nat → Bool) (n : Nat) : Nat := if h : n < 255 then (if f (n + 1) = true then ext f (n + 1) + 1 else 0) else 0
termination_by 255 - n
theorem ext_yes {f : Nat → Bool} {n : Nat} (h : n < 255) (hf : f (n + 1) = true) : ext f n = ext f (n + 1) + 1 := by rw [ext, dif_pos h, if_pos hf]
theorem ext_no {f : Nat → Bool} {n : Nat} (h : n < 255 → f (n + 1) = false) : ext f n = 0 := by
  rw [ext]
  split
  · rename_i h1; rw [if_neg (by rw [h h1]; simp)]
  · rfl
theorem ext_lt (f : Nat → Bool) : ∀ {n : Nat}, n < 256 → n + ext f n < 256 := by
  intro n hn
  obtain ⟨d, hd⟩ : ∃ d, 256 - n = d := ⟨_, rfl⟩
  induction d generalizing n with
  | zero => omega
  | succ d ih =>
    by_cases h : n < 255 ∧ f (n + 1) = true
    · rw [ext_yes h.1 h.2]
      have := ih (n := n + 1) (by omega) (by omega)
      omega
    · rw [ext_no fun h1 => by cases hf : f (n + 1) with
        | false => rfl
        | true => exact absurd ⟨h1, hf⟩ h]
      omega
theorem ext_in (f : Nat → Bool) {n : Nat} (hn : n < 256) : ∀ {x : Nat}, n < x → x ≤ n + ext f n → f x = true := by
  obtain ⟨d, hd⟩ : ∃ d, 256 - n = d := ⟨_, rfl⟩
  induction d generalizing n with
  | zero => omega
  | succ d ih =>
    intro x h1 h2
    by_cases h : n < 255 ∧ f (n + 1) = true
    · rw [ext_yes h.1 h.2] at h2
      by_cases hx : x = n + 1
      · subst hx; exact h.2
      · exact ih (n := n + 1) (by omega) (by omega) (by omega) (by omega)
    · rw [ext_no fun h1 => by cases hf : f (n + 1) with
        | false => rfl
        | true => exact absurd ⟨h1, hf⟩ h] at h2
      omega
theorem ext_end (f : Nat → Bool) {n : Nat} (hn : n < 256) : n + ext f n < 255 → f (n + ext f n + 1) = false := by
  obtain ⟨d, hd⟩ : ∃ d, 256 - n = d := ⟨_, rfl⟩
  induction d generalizing n with
  | zero => omega
  | succ d ih =>
    intro h2
    by_cases h : n < 255 ∧ f (n + 1) = true
    · rw [ext_yes h.1 h.2] at h2 ⊢
      have := ih (n := n + 1) (by omega) (by omega) (by omega)
      rw [show n + (ext f (n + 1) + 1) + 1 = n + 1 + ext f (n + 1) + 1 by omega]
      exact this
    · have hf : n < 255 → f (n + 1) = false := fun h1 => by cases hf : f (n + 1) with
        | false => rfl
        | true => exact absurd ⟨h1, hf⟩ h
      rw [ext_no hf] at h2 ⊢
      exact hf h2
def startB (f : Nat → Bool) (n : Nat) : Bool := f n && !(decide (0 < n) && f (n - 1))
/-- The runs that begin at n, or later. -/
def rs (f : Nat → Bool) (n : Nat) : List (Nat × Nat) := if h : n < 256 then (if startB f n = true then (n, ext f n) :: rs f (n + 1) else rs f (n + 1)) else []
termination_by 256 - n
theorem rs_end {f : Nat → Bool} {n : Nat} (h : 256 ≤ n) : rs f n = [] := by rw [rs, dif_neg (by omega)]
theorem rs_yes {f : Nat → Bool} {n : Nat} (h : n < 256) (hs : startB f n = true) : rs f n = (n, ext f n) :: rs f (n + 1) := by rw [rs, dif_pos h, if_pos hs]
theorem rs_no {f : Nat → Bool} {n : Nat} (hs : startB f n = false) : rs f n = rs f (n + 1) := by
  by_cases h : n < 256
  · rw [rs, dif_pos h, if_neg (by rw [hs]; simp)]
  · rw [rs_end (by omega), rs_end (by omega)]
theorem rt_rs (f : Nat → Bool) : ∀ n, n ≤ 256 → addLast (if 0 < n ∧ f (n - 1) = true then ext f (n - 1) else 0) (rt f n) ++ rs f n = rs f 0
  | 0, _ => rfl
  | n + 1, hn => by
    have ih := rt_rs f n (by omega)
    have al0 : ∀ l : List (Nat × Nat), addLast 0 l = l := by
      intro l
      rcases List.eq_nil_or_concat l with rfl | ⟨l', ⟨a, m⟩, rfl⟩
      · rfl
      · rw [List.concat_eq_append, addLast_snoc]; rfl
    show addLast (if 0 < n + 1 ∧ f n = true then ext f n else 0) (rt f (n + 1)) ++ rs f (n + 1) = rs f 0
    cases hf : f n with
    | false =>
      rw [if_neg (by simp), rt_no hf, al0, ← ih]
      have hs : startB f n = false := by simp [startB, hf]
      rw [rs_no hs]
      congr 1
      by_cases h1 : 0 < n ∧ f (n - 1) = true
      · rw [if_pos h1, ext_no (fun _ => by rw [show n - 1 + 1 = n by omega]; exact hf), al0]
      · rw [if_neg h1, al0]
    | true =>
      rw [if_pos ⟨by omega, rfl⟩, rt, if_neg (by rw [hf]; simp), ← ih]
      by_cases h1 : 0 < n ∧ f (n - 1) = true
      · have hs : startB f n = false := by simp [startB, h1.1, h1.2]
        rw [if_pos h1, if_pos h1, rs_no hs]
        obtain ⟨l, a, m, e, _⟩ := rt_last h1.1 h1.2
        rw [e, addLast_snoc, addLast_snoc, addLast_snoc, ext_yes (n := n - 1) (by omega) (by rw [show n - 1 + 1 = n by omega]; exact hf), show n - 1 + 1 = n by omega]
        congr 4
        omega
      · have hs : startB f n = true := by
          simp only [startB, hf, Bool.true_and]
          cases h2 : (decide (0 < n) && f (n - 1)) with
          | false => rfl
          | true => exact absurd (by simpa using h2) h1
        rw [if_neg h1, if_neg h1, al0, rs_yes (by omega) hs, addLast_snoc, Nat.zero_add, List.append_assoc]
        rfl
theorem rt_eq (f : Nat → Bool) : rt f 256 = rs f 0 := by
  have := rt_rs f 256 (Nat.le_refl _)
  rw [rs_end (Nat.le_refl _), List.append_nil] at this
  have e : (if 0 < 256 ∧ f (256 - 1) = true then ext f (256 - 1) else 0) = 0 := by
    split
    · exact ext_no (by intro h; omega)
    · rfl
  rw [e] at this
  rw [← this]
  rcases List.eq_nil_or_concat (rt f 256) with h | ⟨l', ⟨a, m⟩, h⟩
  · rw [h]; rfl
  · rw [h, List.concat_eq_append, addLast_snoc]; rfl
def expand (l : List (Nat × Nat)) : List Int := l.flatMap fun x => goti x.1 (x.1 + x.2)
theorem expand_snoc (l : List (Nat × Nat)) (a m : Nat) : expand (l ++ [(a, m)]) = expand l ++ goti a (a + m) := by unfold expand; rw [List.flatMap_append]; simp
theorem goti_one (a : Nat) : goti a (a + 0) = [(a : Int)] := by unfold goti; rw [show a + 0 + 1 - a = 1 by omega]; rfl
theorem goti_snoc (a m : Nat) : goti a (a + (m + 1)) = goti a (a + m) ++ [((a + m + 1 : Nat) : Int)] := by
  unfold goti
  rw [show a + (m + 1) + 1 - a = (a + m + 1 - a) + 1 by omega, List.range_succ, List.map_append, show a + m + 1 - a = m + 1 by omega]
  rfl
theorem expand_rt (f : Nat → Bool) : ∀ n, expand (rt f n) = ((List.range n).filter f).map fun j : Nat => (j : Int)
  | 0 => rfl
  | n + 1 => by
    have ih := expand_rt f n
    rw [List.range_succ, List.filter_append, List.map_append, ← ih, rt]
    cases hf : f n with
    | false => rw [if_pos rfl]; simp [hf]
    | true =>
      rw [if_neg (by simp)]
      have e : ([n].filter f).map (fun j : Nat => (j : Int)) = [(n : Int)] := by simp [hf]
      rw [e]
      by_cases h1 : 0 < n ∧ f (n - 1) = true
      · rw [if_pos h1]
        obtain ⟨l, a, m, e, ha⟩ := rt_last h1.1 h1.2
        rw [e, addLast_snoc, expand_snoc, expand_snoc, goti_snoc, List.append_assoc, show a + m + 1 = n by omega]
      · rw [if_neg h1, expand_snoc, goti_one]
theorem expand_rs (f : Nat → Bool) : expand (rs f 0) = setl f := by rw [← rt_eq, expand_rt]; rfl
end Go.Av

/-
  SETS AS BYTES, plainly: put and read.
-/
namespace Go.Av
def runsB : Nat → List (Nat × Nat) → List UInt8
  | _, [] => []
  | last, (a, m) :: r => numB (a - last) ++ numB m ++ runsB (a + m) r
def RunsOK : Bool → Nat → List (Nat × Nat) → Prop
  | _, _, [] => True
  | first, last, (a, m) :: r => last ≤ a ∧ (first = true ∨ last + 2 ≤ a) ∧ a + m < 256 ∧ RunsOK false (a + m) r
def setB (l : List Int) : List UInt8 := 2 :: (numB (rs (inl l) 0).length ++ runsB 0 (rs (inl l) 0))
def putSet (l : List Int) : List UInt8 × Int := if sok l = false then ([], 1) else (setB l, 0)
theorem rs_ok (f : Nat → Bool) : ∀ (d n : Nat) (first : Bool) (last : Nat), 256 - n = d → (∀ x, n ≤ x → x < 256 → startB f x = true → last ≤ x ∧ (first = true ∨ last + 2 ≤ x)) → RunsOK first last (rs f n)
  | 0, n, first, last, hd, _ => by rw [rs_end (by omega)]; trivial
  | d + 1, n, first, last, hd, h => by
    cases hs : startB f n with
    | false => rw [rs_no hs]; exact rs_ok f d (n + 1) first last (by omega) fun x h1 h2 h3 => h x (by omega) h2 h3
    | true =>
      rw [rs_yes (by omega) hs]
      obtain ⟨k1, k2⟩ := h n (Nat.le_refl _) (by omega) hs
      refine ⟨k1, k2, ext_lt f (by omega), rs_ok f d (n + 1) false _ (by omega) fun x h1 h2 h3 => ?_⟩
      have hfn : f n = true := by simp [startB] at hs; exact hs.1
      have h3' := h3
      simp only [startB, Bool.and_eq_true, Bool.not_eq_true', Bool.and_eq_false_imp, decide_eq_true_eq] at h3'
      obtain ⟨hfx, hprev⟩ := h3'
      have hp := hprev (by omega)
      have : n + ext f n < x := by
        rcases Nat.lt_or_ge (n + ext f n) x with h4 | h4
        · exact h4
        · exfalso
          by_cases hx : x - 1 = n
          · rw [hx, hfn] at hp; cases hp
          · rw [ext_in f (n := n) (by omega) (x := x - 1) (by omega) (by omega)] at hp; cases hp
      have : x ≠ n + ext f n + 1 := by
        intro e
        rw [e, ext_end f (by omega) (by omega)] at hfx; cases hfx
      exact ⟨by omega, .inr (by omega)⟩
theorem rs_len (f : Nat → Bool) : ∀ (d n : Nat), 256 - n = d → (rs f n).length ≤ d
  | 0, n, hd => by rw [rs_end (by omega)]; exact Nat.le_refl _
  | d + 1, n, hd => by
    have := rs_len f d (n + 1) (by omega)
    cases hs : startB f n with
    | false => rw [rs_no hs]; omega
    | true => rw [rs_yes (by omega) hs, List.length_cons]; omega
theorem gots_put : ∀ (q : List (Nat × Nat)) (first : Bool) (last : Nat) (acc : List Int) (r : List UInt8), RunsOK first last q → gots q.length first last acc (runsB last q ++ r) = .ok (acc ++ expand q, r)
  | [], first, last, acc, r, _ => by rw [List.length_nil, gots]; simp [runsB, expand]
  | (a, m) :: q, first, last, acc, r, h => by
    obtain ⟨h1, h2, h3, h4⟩ := h
    rw [List.length_cons, gots, runsB, List.append_assoc, List.append_assoc, got_num0 (by omega)]
    simp only
    rw [got_num0 (by omega)]
    simp only
    have e : last + (a - last) + m = a + m := by omega
    have e2 : last + (a - last) = a := by omega
    rw [if_pos ⟨by omega, by omega, by omega, h2.imp (fun e => e) (fun e => by omega)⟩, e, e2, gots_put q false (a + m) _ r h4]
    simp [expand, List.append_assoc]
theorem rset_put {l : List Int} (hl : sok l = true) (r : List UInt8) : rset (setB l ++ r) = .ok (l, r) := by
  have hlen := rs_len (inl l) 256 0 rfl
  show rset (2 :: (numB (rs (inl l) 0).length ++ runsB 0 (rs (inl l) 0) ++ r)) = _
  rw [rset, if_neg (by simp), List.append_assoc, got_num0 (by omega)]
  simp only
  rw [if_neg (by omega), gots_put _ true 0 [] r (rs_ok _ 256 0 true 0 rfl fun x _ _ _ => ⟨Nat.zero_le _, .inl rfl⟩), List.nil_append, expand_rs]
  congr 2
  exact sok_ext (sok_setl _) hl fun n => by
    rw [inl_setl]
    cases h : inl l n with
    | false => simp
    | true => simp [inl_256 hl h]
theorem gots_inv : ∀ {k : Nat} {first : Bool} {last : Nat} {acc : List Int} {b : List UInt8} {l : List Int} {r : List UInt8}, last < 256 → gots k first last acc b = .ok (l, r) → ∃ q, q.length = k ∧ RunsOK first last q ∧ b = runsB last q ++ r ∧ l = acc ++ expand q
  | 0, _, _, _, _, _, _, _, h => by cases h; exact ⟨[], rfl, trivial, rfl, by simp [expand]⟩
  | k + 1, first, last, acc, b, l, r, hl, h => by
    unfold gots at h
    cases h1 : got 0 0 b with
    | error e => rw [h1] at h; cases h
    | ok x =>
      obtain ⟨far, b1⟩ := x
      rw [h1] at h
      simp only at h
      cases h2 : got 0 0 b1 with
      | error e => rw [h2] at h; cases h
      | ok x =>
        obtain ⟨more, b2⟩ := x
        rw [h2] at h
        simp only at h
        split at h
        · rename_i hok
          obtain ⟨k1, k2, k3, k4⟩ := hok
          obtain ⟨q, e1, e2, e3, e4⟩ := gots_inv k3 h
          refine ⟨(last + far, more) :: q, by simp [e1], ⟨by omega, k4.imp (fun e => e) (fun e => by omega), k3, e2⟩, ?_, ?_⟩
          · rw [num_got0 h1, num_got0 h2, e3, runsB, show last + far - last = far by omega, List.append_assoc, List.append_assoc]
          · rw [e4]; simp [expand, List.append_assoc]
        · cases h
def inq (q : List (Nat × Nat)) (x : Nat) : Bool := q.any fun p => decide (p.1 ≤ x) && decide (x ≤ p.1 + p.2)
theorem inl_expand (q : List (Nat × Nat)) (x : Nat) : inl (expand q) x = inq q x := by
  rw [Bool.eq_iff_iff, inl_mem, expand, List.mem_flatMap, inq, List.any_eq_true]
  constructor
  · rintro ⟨p, hp, hx⟩
    refine ⟨p, hp, ?_⟩
    unfold goti at hx
    obtain ⟨k, hk, e⟩ := List.mem_map.1 hx
    rw [List.mem_range] at hk
    simp
    omega
  · rintro ⟨p, hp, hx⟩
    simp at hx
    refine ⟨p, hp, ?_⟩
    unfold goti
    exact List.mem_map.2 ⟨x - p.1, List.mem_range.2 (by omega), by omega⟩
theorem rs_skip {f : Nat → Bool} {a b : Nat} (h : a ≤ b) (hf : ∀ x, a ≤ x → x < b → startB f x = false) : rs f a = rs f b := by
  obtain ⟨d, rfl⟩ : ∃ d, b = a + d := ⟨b - a, by omega⟩
  clear h
  induction d generalizing a with
  | zero => rfl
  | succ d ih =>
    rw [rs_no (hf a (Nat.le_refl _) (by omega)), show a + (d + 1) = a + 1 + d by omega]
    exact ih fun x h1 h2 => hf x (by omega) (by omega)
theorem ext_eq {f : Nat → Bool} : ∀ {m a : Nat}, a + m < 256 → (∀ x, a < x → x ≤ a + m → f x = true) → (a + m < 255 → f (a + m + 1) = false) → ext f a = m
  | 0, a, h, _, h2 => ext_no fun h1 => h2 h1
  | m + 1, a, h, h1, h2 => by
    rw [ext_yes (by omega) (h1 (a + 1) (by omega) (by omega)), ext_eq (m := m) (a := a + 1) (by omega) (fun x k1 k2 => h1 x (by omega) (by omega)) (fun k => by rw [show a + 1 + m + 1 = a + (m + 1) + 1 by omega]; exact h2 (by omega))]
theorem rs_q {f : Nat → Bool} : ∀ (q : List (Nat × Nat)) (first : Bool) (last n : Nat), RunsOK first last q → (∀ p ∈ q.head?, n ≤ p.1) → (∀ x, n ≤ x → x < 256 → f x = inq q x) → (n = 0 ∨ f (n - 1) = false) → rs f n = q
  | [], first, last, n, _, _, hf, _ => by
    rcases Nat.lt_or_ge n 256 with hn | hn
    · rw [rs_skip (a := n) (b := 256) (by omega) fun x h1 h2 => by simp [startB, hf x h1 h2, inq], rs_end (Nat.le_refl _)]
    · exact rs_end hn
  | (a, m) :: q, first, last, n, hok, hh, hf, hn => by
    obtain ⟨h1, h2, h3, h4⟩ := hok
    have hna : n ≤ a := hh (a, m) rfl
    have hq : ∀ p ∈ q.head?, a + m + 2 ≤ p.1 := by
      intro p hp
      cases q with
      | nil => cases hp
      | cons p' q => obtain ⟨a', m'⟩ := p'; simp at hp; subst hp; exact h4.2.1.resolve_left (by simp)
    have hqlow : ∀ x, x < a + m + 2 → inq q x = false := by
      intro x hx
      have : ∀ (q : List (Nat × Nat)) (fi : Bool) (la : Nat), RunsOK fi la q → (∀ p ∈ q.head?, x < p.1) → inq q x = false := by
        intro q
        induction q with
        | nil => intros; rfl
        | cons p q ih =>
          obtain ⟨a', m'⟩ := p
          intro fi la ⟨g1, g2, g3, g4⟩ gh
          have gx : x < a' := gh (a', m') rfl
          have := ih false (a' + m') g4 (by
            intro p hp
            cases q with
            | nil => cases hp
            | cons p' q => obtain ⟨a2, m2⟩ := p'; simp at hp; subst hp; have := g4.1; show x < a2; omega)
          unfold inq at this ⊢
          rw [List.any_cons, this, Bool.or_false]
          simp; omega
      exact this q false (a + m) h4 fun p hp => by have := hq p hp; omega
    have hfx : ∀ x, n ≤ x → x < 256 → x < a + m + 2 → f x = (decide (a ≤ x) && decide (x ≤ a + m)) := by
      intro x k1 k2 k3
      rw [hf x k1 k2]
      have := hqlow x k3
      unfold inq at this ⊢
      rw [List.any_cons, this, Bool.or_false]
    have hfa : f a = true := by rw [hfx a hna (by omega) (by omega)]; simp
    have hpre : ∀ x, n ≤ x → x < a → f x = false := fun x k1 k2 => by rw [hfx x k1 (by omega) (by omega)]; simp; omega
    rw [rs_skip hna fun x k1 k2 => by simp [startB, hpre x k1 k2]]
    have hs : startB f a = true := by
      simp only [startB, hfa, Bool.true_and, Bool.not_eq_true', Bool.and_eq_false_imp, decide_eq_true_eq]
      intro ha
      by_cases e : a = n
      · subst e; exact hn.resolve_left (by omega)
      · exact hpre (a - 1) (by omega) (by omega)
    have hext : ext f a = m := ext_eq h3 (fun x k1 k2 => by rw [hfx x (by omega) (by omega) (by omega)]; simp; omega) (fun k => by rw [hfx _ (by omega) (by omega) (by omega)]; simp)
    rw [rs_yes (by omega) hs, hext]
    congr 1
    rw [rs_skip (a := a + 1) (b := a + m + 1) (by omega) fun x k1 k2 => by
      have : f (x - 1) = true := by rw [hfx (x - 1) (by omega) (by omega) (by omega)]; simp; omega
      simp [startB, this]; intro _; omega]
    rcases Nat.lt_or_ge (a + m + 1) 256 with hlt | hge
    · have hfe : f (a + m + 1) = false := by rw [hfx _ (by omega) hlt (by omega)]; simp
      rw [rs_no (by simp [startB, hfe])]
      refine rs_q q false (a + m) (a + m + 2) h4 hq (fun x k1 k2 => ?_) (.inr (by show f (a + m + 1) = false; exact hfe))
      rw [hf x (by omega) k2]
      unfold inq
      rw [List.any_cons]
      simp; omega
    · rw [rs_end hge]
      cases q with
      | nil => rfl
      | cons p q => obtain ⟨a', m'⟩ := p; have := h4.2.1.resolve_left (by simp); have := h4.2.2.1; omega
theorem rset_inv {b : List UInt8} {l : List Int} {r : List UInt8} (h : rset b = .ok (l, r)) : sok l = true ∧ b = setB l ++ r := by
  unfold rset at h
  split at h
  · cases h
  rename_i c b'
  split at h
  · cases h
  rename_i hc
  have hc2 : c = 2 := by simpa using hc
  subst hc2
  cases h1 : got 0 0 b' with
  | error e => rw [h1] at h; cases h
  | ok x =>
    obtain ⟨many, b1⟩ := x
    rw [h1] at h
    simp only at h
    split at h
    · cases h
    obtain ⟨q, e1, e2, e3, e4⟩ := gots_inv (by decide) h
    rw [List.nil_append] at e4
    have hrs : rs (inl l) 0 = q := by
      rw [e4]
      exact rs_q q true 0 0 e2 (fun _ _ => Nat.zero_le _) (fun x _ _ => inl_expand q x) (.inl rfl)
    refine ⟨?_, ?_⟩
    · rw [e4, ← hrs, expand_rs]; exact sok_setl _
    · rw [setB, hrs, num_got0 h1, e3, e1]
      simp [List.append_assoc]
end Go.Av

namespace Go.Av
open Go.Proofs
set_option maxRecDepth 10000
set_option linter.unusedSimpArgs false
set_option linter.unusedVariables false

theorem u8_wrap (x : Nat) (h : x < 256) : IntKind.u8.wrap (x : Int) = (x : Int) := by rw [IntKind.wrap_u8]; omega
theorem tdiv128 (n : Nat) : ((n : Int)).tdiv 128 = ((n / 128 : Nat) : Int) := by rw [Int.tdiv_eq_ediv_of_nonneg (by omega)]; omega
theorem brow_ofNat {x : Nat} (h : x < 256) : brow (UInt8.ofNat x) = [.int .u8 (x : Int)] := by unfold brow; rw [ofNat_lt h]
theorem numB_len (n : Nat) : ∀ k, n < 128 ^ (k + 1) → (numB n).length ≤ k + 1 := by
  intro k
  induction k generalizing n with
  | zero => intro h; rw [numB_lt (by omega)]; simp
  | succ k ih =>
    intro h
    by_cases hn : n < 128
    · rw [numB_lt hn]; simp
    · rw [numB_ge hn, List.length_cons]
      have := ih (n / 128) (by rw [Nat.div_lt_iff_lt_mul (by decide), ← Nat.pow_succ]; exact h)
      omega
theorem numB_10 {n : Nat} (h : n < 18446744073709551616) : (numB n).length ≤ 10 := numB_len n 9 (Nat.lt_of_lt_of_le h (by decide))
theorem bytes_bel0 (n : Nat) (l : List UInt8) : ∀ r ∈ l.map brow, AV.bels n r = true := rows_bel (e := brow) (fun _ => rfl) l
set_option maxHeartbeats 0 in
theorem ref08_num (n : Nat) : n < 18446744073709551616 → ∀ H : Heap, AC Try.prog 27 [.int .u64 (n : Int)] H (Ret (.pl ((numB n).map brow)) H) := by
  induction n using Nat.strongRecOn with
  | _ n ih =>
  intro hn H
  refine AC.body (N := 17) [.tmp 2] Try.func27 rfl rfl rfl (Nat.le_of_ble_eq_true rfl) fun B hB => ?_
  repeat (refine aw_seq ?_)
  refine aw_region ?_
  refine ao1 (by decide) (o_assign (v := .nsl) rfl) ?_
  refine ao_nil ?_
  repeat (first | refine then_nrm ?_ | refine aw_seq ?_)
  refine aw_region ?_
  refine ao1 (by decide) (o_move (v := .int _ _) rfl) ?_
  refine ao1 (by decide) (o_lt rfl rfl) ?_
  refine ao_nil ?_
  repeat (refine then_nrm ?_)
  refine aw_cond rfl (fun hc => ?_) (fun hc => ?_)
  · have h1 : n < 128 := by simp at hc; omega
    rw [numB_lt h1, show [UInt8.ofNat n].map brow = [[.int .u8 (n : Int)]] by rw [List.map_cons, brow_ofNat (by omega)]; rfl]
    repeat (refine aw_seq ?_)
    refine aw_region ?_
    refine ao1 (by decide) (o_move (v := .int _ _) rfl) ?_
    refine ao1 (by decide) (o_conv_int (r := (n : Int)) rfl (u8_wrap _ (by omega))) ?_
    refine ao2 (by rintro _ ⟨⟩; decide) (g_lit1 (sz := 1) (v := .int .u8 (n : Int)) rfl (by decide) (by decide) rfl rfl rfl rfl rfl) ?_
    refine ao1 (by decide) (o_assign (v := .pl _) rfl) ?_
    refine ao_nil ?_
    try dsimp only [AV.cells, put]
    repeat (first | refine then_nrm ?_ | refine then_ret ?_ | refine aw_ret ?_)
    exact e_done hB (r_tmp rfl .nil) rfl rfl
  · have h1 : ¬ n < 128 := by simp at hc; omega
    have hl := numB_10 (n := n / 128) (by omega)
    repeat (first | refine then_nrm ?_ | refine aw_seq ?_ | refine aw_skip ?_)
    refine aw_region ?_
    refine ao1 (by decide) (o_move (v := .int _ _) rfl) ?_
    refine ao1 (by decide) (o_rem (r := ((n % 128 : Nat) : Int)) rfl rfl (by decide) (tmod128 _)) ?_
    refine ao1 (by decide) (o_add (r := ((n % 128 + 128 : Nat) : Int)) rfl rfl (u64_wrap (n % 128 + 128) (by omega))) ?_
    refine ao1 (by decide) (o_conv_int (r := ((n % 128 + 128 : Nat) : Int)) rfl (u8_wrap _ (by omega))) ?_
    refine ao2 (by rintro _ ⟨⟩; decide) (o_buildSlice1L (sz := 1) (v := .int _ _) rfl (by decide) (by decide) rfl rfl rfl rfl rfl) ?_
    refine ao1 (by decide) (o_move (v := .int _ _) rfl) ?_
    refine ao1 (by decide) (o_quo (r := ((n / 128 : Nat) : Int)) rfl rfl (by decide) (by rw [tdiv128]; exact u64_wrap _ (by omega))) ?_
    refine ao_ret (ih (n / 128) (by omega) (by omega) _) rfl (by decide) ?_
    refine ao2 (by rintro _ ⟨⟩; decide) (w_append rfl rfl rfl rfl rfl (Src.pl rfl (bytes_len1 (numB (n / 128)))) rfl (by simp) (by rw [numB]; simp; split <;> simp) (by simp; omega) (by simp; omega)) ?_
    refine ao1 (by decide) (o_assign (v := .sl _ _ _ _ _) rfl) ?_
    refine ao_nil ?_
    try dsimp only [List.length_nil, Nat.reduceAdd, put, AV.cells, List.nil_append, List.take_succ_cons, List.take_zero, List.cons_append, List.set_cons_zero]
    repeat (refine then_nrm ?_)
    refine aw_freezeL (ys := (numB n).map brow) 2 rfl rfl rfl rfl (by rw [numB_ge h1, List.map_cons, brow_ofNat (by omega), List.drop_zero]; exact List.take_of_length_le (by simp; omega)) (by rw [numB_ge h1]; simp; omega) (bytes_bel0 0 _) ?_
    refine aw_ret ?_
    exact e_done hB (r_tmp rfl .nil) rfl rfl
theorem or128 : ∀ n : Nat, n < 256 → IntKind.u8.wrap ((BitVec.ofInt IntKind.u8.bits (n : Int) ||| BitVec.ofInt IntKind.u8.bits (128 : Int)).toNat : Int) = ((n % 128 + 128 : Nat) : Int) := by decide +kernel
set_option maxHeartbeats 0 in
theorem code_number (bs : List UInt8) (n : Nat) (hn : n < 18446744073709551616) (H : Heap) (id g : Nat) (hbs : bs.length ≤ 1000000) (hid : H[id]? = some ⟨g, 1, bs.map brow⟩) : AC Try.prog 22 [.sl id g 0 bs.length bs.length, .int .u64 (n : Int)] H
    (Ret (.sl id (g + (numB n).length) 0 (bs.length + (numB n).length) (bs.length + (numB n).length)) (H.set id ⟨g + (numB n).length, 1, (bs ++ numB n).map brow⟩)) := by
  have hlt : id < H.length := (List.getElem?_eq_some_iff.1 hid).1
  have hl10 := numB_10 hn
  refine AC.body (N := 20) [.tmp 4] Try.func22 rfl rfl rfl (Nat.le_of_ble_eq_true rfl) fun B hB => ?_
  repeat (refine aw_seq ?_)
  refine aw_region ?_
  refine ao1 (by decide) (o_assign (v := .nsl) rfl) ?_
  refine ao_nil ?_
  repeat (first | refine then_nrm ?_ | refine aw_seq ?_ | refine aw_block ?_)
  refine aw_loop (G := List UInt8 × Nat) (fun s => s.1 ++ numB s.2 = numB n ∧ s.2 < 18446744073709551616) (fun s => [(0, .sl id (g + s.1.length) 0 (bs.length + s.1.length) (bs.length + s.1.length)), (1, .int .u64 (s.2 : Int))]) (fun s => H.set id ⟨g + s.1.length, 1, (bs ++ s.1).map brow⟩ ++ []) (fun s => s.2) ([], n) ⟨rfl, hn⟩ (by repeat (first | exact Sub.nil | refine Sub.cons (by rfl) ?_)) (.inl (by rw [List.length_nil, Nat.add_zero, List.append_nil bs, set_same hid])) ?_
  rintro ⟨pre, m⟩ ⟨hpre, hm⟩
  simp only at hpre hm ⊢
  have hpl : pre.length ≤ 10 := by
    have := congrArg List.length hpre
    rw [List.length_append] at this
    omega
  have hF : (H.set id ⟨g + pre.length, 1, (bs ++ pre).map brow⟩)[id]? = some ⟨g + pre.length, 1, (bs ++ pre).map brow⟩ := List.getElem?_set_self hlt
  repeat (refine aw_seq ?_)
  refine aw_region ?_
  refine ao1 (by decide) (o_move (v := .int _ _) rfl) ?_
  refine ao1 (by decide) (o_ge rfl rfl) ?_
  refine ao_nil ?_
  have htake : ((bs ++ pre).map brow).take (bs.length + pre.length) = (bs ++ pre).map brow := List.take_of_length_le (by simp)
  repeat (refine then_nrm ?_)
  refine aw_cond rfl (fun hc => ?_) (fun hc => ?_)
  · have h1 : ¬ m < 128 := by simp at hc; omega
    repeat (first | refine then_nrm ?_ | refine aw_seq ?_ | refine aw_block ?_ | refine aw_skip ?_)
    refine aw_region ?_
    refine ao1 (by decide) (o_move (v := .sl _ _ _ _ _) rfl) ?_
    refine ao1 (by decide) (o_move (v := .int _ _) rfl) ?_
    refine ao1 (by decide) (o_conv_int (r := ((m % 256 : Nat) : Int)) rfl (by rw [IntKind.wrap_u8]; omega)) ?_
    refine ao1 (by decide) (o_or (r := ((m % 128 + 128 : Nat) : Int)) rfl rfl (by rw [or128 _ (by omega)]; congr 2; omega)) ?_
    refine ao2 (by rintro _ ⟨⟩; decide) (g_lit1 (sz := 1) (v := .int .u8 ((m % 128 + 128 : Nat) : Int)) rfl (by decide) (by decide) rfl rfl rfl rfl rfl) ?_
    refine ao2 (by rintro _ ⟨⟩; decide) (w_appendF (bs.length + pre.length + 1) rfl hF rfl rfl (Src.pl (ys := [brow (UInt8.ofNat (m % 128 + 128))]) (by rw [brow_ofNat (by omega)]; rfl) (bytes_len1 [_])) rfl (by (simp; done)) (by (simp; omega)) (by (simp; omega)) (by (simp; done))) ?_
    refine ao1 (by decide) (o_assign (v := .sl _ _ _ _ _) rfl) ?_
    refine ao_nil ?_
    try dsimp only [List.length_cons, List.length_nil, Nat.reduceAdd, AV.cells, put]
    rw [List.set_set, htake]
    repeat (refine then_nrm ?_)
    refine aw_region ?_
    refine ao1 (by decide) (o_move (v := .int _ _) rfl) ?_
    refine ao1 (by decide) (o_shr (r := ((m / 128 : Nat) : Int)) rfl rfl (by omega) (by rw [show ((2 : Int) ^ min (7 : Int).toNat IntKind.u64.bits) = ((128 : Nat) : Int) from rfl, Int.fdiv_eq_ediv_of_nonneg _ (by omega)]; exact (Int.natCast_ediv _ _).symm)) ?_
    refine ao1 (by decide) (o_assign (v := .int _ _) rfl) ?_
    refine ao_nil ?_
    repeat (first | refine then_nrm ?_ | refine blk_nrm ?_)
    refine ⟨(pre ++ [UInt8.ofNat (m % 128 + 128)], m / 128), by simp only; omega, ⟨?_, by simp only; omega⟩, ?_, .inl ?_⟩
    · simp only
      rw [← hpre, numB_ge h1, List.append_assoc]
      rfl
    · simp only [List.length_append, List.length_cons, List.length_nil, ← Nat.add_assoc]
      exact (by repeat (first | exact Sub.nil | refine Sub.cons (by rfl) ?_))
    · simp only [List.length_append, List.length_cons, List.length_nil, ← Nat.add_assoc, List.map_append, List.map_cons, List.map_nil, List.append_assoc]
  · have h1 : m < 128 := by simp at hc; omega
    repeat (first | refine then_nrm ?_ | refine then_brk ?_ | refine blk_hit ?_ | refine aw_seq ?_ | refine aw_exit ?_)
    refine aw_region ?_
    refine ao1 (by decide) (o_move (v := .sl _ _ _ _ _) rfl) ?_
    refine ao1 (by decide) (o_move (v := .int _ _) rfl) ?_
    refine ao1 (by decide) (o_conv_int (r := (m : Int)) rfl (u8_wrap _ (by omega))) ?_
    refine ao2 (by rintro _ ⟨⟩; decide) (g_lit1 (sz := 1) (v := .int .u8 (m : Int)) rfl (by decide) (by decide) rfl rfl rfl rfl rfl) ?_
    refine ao2 (by rintro _ ⟨⟩; decide) (w_appendF (bs.length + pre.length + 1) rfl hF rfl rfl (Src.pl (ys := [brow (UInt8.ofNat m)]) (by rw [brow_ofNat (by omega)]; rfl) (bytes_len1 [_])) rfl (by (simp; done)) (by (simp; omega)) (by (simp; omega)) (by (simp; done))) ?_
    refine ao1 (by decide) (o_assign (v := .sl _ _ _ _ _) rfl) ?_
    refine ao_nil ?_
    try dsimp only [List.length_cons, List.length_nil, Nat.reduceAdd, AV.cells, put]
    rw [List.set_set, htake]
    repeat (first | refine then_nrm ?_ | refine aw_ret ?_)
    rw [numB_lt h1] at hpre
    have hnl : (numB n).length = pre.length + 1 := by rw [← hpre]; simp
    refine e_ret hB (r_tmp rfl .nil) rfl ⟨?_, ?_⟩ ?_ (by simp) (HBel.set hB.heap _ _ (fun r hr => bytes_bel0 _ (bs ++ pre ++ [UInt8.ofNat m]) r (by rw [List.map_append]; exact hr)))
    · rw [hnl]; rfl
    · rw [hnl, ← hpre, ← List.append_assoc, List.map_append (l₁ := bs ++ pre)]; rfl
    · exact decide_eq_true hlt
end Go.Av

/-
  THE RUNS OF A SET, as1 they are found in its list.
-/
namespace Go.Av
def bd (l : List Int) (i : Nat) : Nat := if i = 0 then 0 else (l.getD (i - 1) 0).toNat + 1
theorem rt_len (f : Nat → Bool) : ∀ n, (rt f n).length ≤ n
  | 0 => Nat.le_refl _
  | n + 1 => by
    have ih := rt_len f n
    rw [rt]
    split
    · omega
    · split
      · rename_i h
        obtain ⟨l, a, m, e, _⟩ := rt_last h.1 h.2
        rw [e] at ih ⊢
        rw [addLast_snoc]
        simp at ih ⊢
        omega
      · rw [List.length_append]; simp; omega
theorem sok_nat {l : List Int} (h : sok l = true) {i : Nat} (hi : i < l.length) : ∃ n : Nat, l[i]? = some (n : Int) ∧ n < 256 := by
  have := sok_get_range h hi
  exact ⟨l[i].toNat, by rw [List.getElem?_eq_getElem hi]; congr 1; omega, by omega⟩
theorem bd_succ {l : List Int} {i n : Nat} (h : l[i]? = some (n : Int)) : bd l (i + 1) = n + 1 := by
  unfold bd
  rw [if_neg (by omega), Nat.add_sub_cancel, List.getD_eq_getElem?_getD, h]
  simp
theorem sok_lt {l : List Int} (h : sok l = true) {i j a b : Nat} (hij : i < j) (ha : l[i]? = some (a : Int)) (hb : l[j]? = some (b : Int)) : a < b := by
  obtain ⟨hi, ha⟩ := List.getElem?_eq_some_iff.1 ha
  obtain ⟨hj, hb⟩ := List.getElem?_eq_some_iff.1 hb
  have := List.pairwise_iff_getElem.1 (sok_sorted h) i j hi hj hij
  rw [ha, hb] at this
  omega
/-- Nothing lies between one number of a set and the next. -/
theorem bd_gap {l : List Int} (h : sok l = true) {i : Nat} (hil : i ≤ l.length) : ∀ x, bd l i ≤ x → (∀ n : Nat, l[i]? = some (n : Int) → x < n) → inl l x = false := by
  intro x h1 h2
  cases hx : inl l x with
  | false => rfl
  | true =>
    exfalso
    obtain ⟨k, hk, e⟩ := List.getElem_of_mem (inl_mem.1 hx)
    have hk' : l[k]? = some (x : Int) := by rw [List.getElem?_eq_getElem hk, e]
    rcases Nat.lt_or_ge k i with hki | hki
    · obtain ⟨p, hp, _⟩ := sok_nat h (i := i - 1) (by omega)
      have e1 : bd l i = p + 1 := by
        have := bd_succ hp
        rwa [show i - 1 + 1 = i by omega] at this
      by_cases hk2 : k = i - 1
      · subst hk2; rw [hp] at hk'; have := Option.some.inj hk'; omega
      · have := sok_lt h (i := k) (j := i - 1) (by omega) hk' hp; omega
    · obtain ⟨n, hn, _⟩ := sok_nat h (i := i) (by omega)
      have h3 := h2 n hn
      by_cases hk2 : k = i
      · subst hk2; rw [hn] at hk'; have := Option.some.inj hk'; omega
      · have := sok_lt h (i := i) (j := k) (by omega) hn hk'; omega
theorem runs_step {l : List Int} (h : sok l = true) {i n : Nat} (hn : l[i]? = some (n : Int)) :
    rt (inl l) (n + 1) = if 0 < i ∧ l[i - 1]? = some ((n : Int) - 1) then addLast 1 (rt (inl l) (bd l i)) else rt (inl l) (bd l i) ++ [(n, 0)] := by
  have hi : i < l.length := (List.getElem?_eq_some_iff.1 hn).1
  have hf : inl l n = true := inl_mem.2 (List.mem_of_getElem? hn)
  have hbd : bd l i ≤ n := by
    rcases Nat.eq_zero_or_pos i with e | e
    · subst e; exact Nat.zero_le _
    · obtain ⟨p, hp, _⟩ := sok_nat h (i := i - 1) (by omega)
      have e1 := bd_succ hp
      rw [show i - 1 + 1 = i by omega] at e1
      have := sok_lt h (i := i - 1) (j := i) (by omega) hp hn
      omega
  have hgap : ∀ x, bd l i ≤ x → x < n → inl l x = false := fun x h1 h2 => bd_gap h (by omega) x h1 fun n' hn' => by
    rw [hn] at hn'
    have := Option.some.inj hn'
    omega
  rw [rt, if_neg (by rw [hf]; simp), rt_skip hbd hgap]
  have key : (0 < n ∧ inl l (n - 1) = true) ↔ (0 < i ∧ l[i - 1]? = some ((n : Int) - 1)) := by
    constructor
    · rintro ⟨h1, h2⟩
      have hb : n - 1 < bd l i := by
        rcases Nat.lt_or_ge (n - 1) (bd l i) with h3 | h3
        · exact h3
        · rw [hgap (n - 1) h3 (by omega)] at h2; cases h2
      have hi0 : 0 < i := by
        rcases Nat.eq_zero_or_pos i with e | e
        · subst e; simp [bd] at hb
        · exact e
      obtain ⟨p, hp, _⟩ := sok_nat h (i := i - 1) (by omega)
      have e1 := bd_succ hp
      rw [show i - 1 + 1 = i by omega] at e1
      refine ⟨hi0, ?_⟩
      rw [hp]
      congr 1
      omega
    · rintro ⟨h1, h2⟩
      obtain ⟨p, hp, _⟩ := sok_nat h (i := i - 1) (by omega)
      rw [hp] at h2
      have h3 := Option.some.inj h2
      refine ⟨by omega, inl_mem.2 ?_⟩
      have := List.mem_of_getElem? hp
      rw [h3] at this
      rwa [show ((n - 1 : Nat) : Int) = (n : Int) - 1 by omega]
  by_cases hk : 0 < n ∧ inl l (n - 1) = true
  · rw [if_pos hk, if_pos (key.1 hk)]
  · rw [if_neg hk, if_neg (fun e => hk (key.2 e))]
theorem runs_last {l : List Int} (h : sok l = true) {i n : Nat} (hn : l[i]? = some (n : Int)) (hc : 0 < i ∧ l[i - 1]? = some ((n : Int) - 1)) : ∃ q a m, rt (inl l) (bd l i) = q ++ [(a, m)] ∧ a + m < 256 := by
  obtain ⟨p, hp, hp2⟩ := sok_nat h (i := i - 1) (by have := (List.getElem?_eq_some_iff.1 hn).1; omega)
  have e1 := bd_succ hp
  rw [show i - 1 + 1 = i by omega] at e1
  have hf : inl l p = true := inl_mem.2 (List.mem_of_getElem? hp)
  obtain ⟨q, a, m, e, ha⟩ := rt_last (f := inl l) (n := bd l i) (by omega) (by rw [e1]; exact hf)
  exact ⟨q, a, m, e, by omega⟩
theorem runs_done {l : List Int} (h : sok l = true) : rt (inl l) (bd l l.length) = rs (inl l) 0 := by
  have hb : bd l l.length ≤ 256 := by
    rcases Nat.eq_zero_or_pos l.length with e | e
    · rw [e]; simp [bd]
    · obtain ⟨p, hp, hp2⟩ := sok_nat h (i := l.length - 1) (by omega)
      have e1 := bd_succ hp
      rw [show l.length - 1 + 1 = l.length by omega] at e1
      omega
  rw [← rt_eq, rt_skip hb fun x h1 h2 => bd_gap h (Nat.le_refl _) x h1 fun n hn => by
    rw [List.getElem?_eq_none (Nat.le_refl _)] at hn; cases hn]
end Go.Av

namespace Go.Av
open Go.Proofs
set_option maxRecDepth 10000
set_option linter.unusedSimpArgs false
set_option linter.unusedVariables false

abbrev eRun (x : Nat × Nat) : List AV := [.int .i64 (x.1 : Int), .int .i64 (x.2 : Int)]
theorem runs_bel (n : Nat) (l : List (Nat × Nat)) : ∀ r ∈ l.map eRun, AV.bels n r = true := rows_bel (e := eRun) (fun _ => rfl) l
theorem runs_len2 (l : List (Nat × Nat)) : ∀ r ∈ l.map eRun, r.length = 2 := rows_len (e := eRun) (n := 2) (fun _ => rfl) l
set_option maxHeartbeats 0 in
theorem code_runs (l : List Int) (hs : sok l = true) (H : Heap) : AC Try.prog 25 [.pl (l.map eInt)] H (Ret (.pl ((rs (inl l) 0).map eRun)) H) := by
  have hl256 := sok_256 hs
  refine AC.body (N := 42) [.tmp 2] Try.func25 rfl rfl rfl (Nat.le_of_ble_eq_true rfl) fun B hB => ?_
  repeat (refine aw_seq ?_)
  refine aw_region ?_
  refine ao1 (by decide) (o_assign (v := .nsl) rfl) ?_
  refine ao_nil ?_
  repeat (first | refine then_nrm ?_ | refine aw_seq ?_)
  refine aw_region ?_
  refine ao1 (by decide) (o_assign (v := .nsl) rfl) ?_
  refine ao_nil ?_
  repeat (first | refine then_nrm ?_ | refine aw_seq ?_)
  refine aw_ghostL (k := 0) 3 2 rfl (by decide) rfl ?_
  rw [List.nil_append]
  refine aw_region ?_
  refine ao1 (by decide) (o_move (v := .pl _) rfl) ?_
  refine ao1 (by decide) (o_lenp rfl) ?_
  refine ao1 (by decide) (o_move (v := .int _ _) rfl) ?_
  refine ao_nil ?_
  repeat (first | refine then_nrm ?_ | refine aw_block ?_)
  refine aw_loop (G := Nat × Nat) (fun s => s.1 ≤ l.length) (fun s => [(0, .pl (l.map eInt)), (3, .sl (Lid H.length 0) s.2 0 (rt (inl l) (bd l s.1)).length (rt (inl l) (bd l s.1)).length), (6, .pl (l.map eInt)), (7, .int .i64 (l.length : Int)), (8, .int .i64 (s.1 : Int))]) (fun s => H ++ [⟨s.2, 2, (rt (inl l) (bd l s.1)).map eRun⟩]) (fun s => l.length - s.1) (0, 0) (Nat.zero_le _) (by repeat (first | exact Sub.nil | refine Sub.cons (by first | rfl | (simp [get]; done)) ?_)) (.inl rfl) ?_
  rintro ⟨i, g⟩ hil
  simp only at hil ⊢
  have hql := rt_len (inl l) (bd l i)
  repeat (refine aw_seq ?_)
  refine aw_region ?_
  refine ao1 (by decide) (o_lt rfl rfl) ?_
  refine ao_nil ?_
  repeat (first | refine then_nrm ?_ | refine aw_seq ?_)
  refine aw_cond rfl (fun hc => ?_) (fun hc => ?_)
  · have hi : i < l.length := by simp at hc; omega
    obtain ⟨n, hn, hn256⟩ := sok_nat hs hi
    have hr := map_get eInt hn
    have hstep := runs_step hs hn
    have hbd := bd_succ hn
    generalize hout : rt (inl l) (bd l i) = out at hql hstep
    have hbnd : bd l i ≤ 256 := by
      rcases Nat.eq_zero_or_pos i with e | e
      · subst e; simp [bd]
      · obtain ⟨p, hp, hp2⟩ := sok_nat hs (i := i - 1) (by omega)
        have e1 := bd_succ hp
        rw [show i - 1 + 1 = i by omega] at e1
        omega
    obtain ⟨p, hp⟩ : ∃ p : Int, 0 < i → l[i - 1]? = some p ∧ 0 ≤ p ∧ p < 256 := by
      by_cases h0 : 0 < i
      · obtain ⟨p, hp, hp2⟩ := sok_nat hs (i := i - 1) (by omega)
        exact ⟨p, fun _ => ⟨hp, by omega, by omega⟩⟩
      · exact ⟨0, fun h => absurd h h0⟩
    have hq1 : decide ((0 : Int) < (i : Int)) = true → (l.map eInt)[i - 1]? = some (eInt p) := fun h => map_get eInt (hp (by have := of_decide_eq_true h; omega)).1
    have hcnd : 0 < i → (l[i - 1]? = some ((n : Int) - 1) ↔ (n : Int) = p + 1) := fun h => by
      rw [(hp h).1]
      constructor
      · intro e; have := Option.some.inj e; omega
      · intro e; congr 1; omega
    repeat (first | refine then_nrm ?_ | refine aw_seq ?_ | refine aw_block ?_ | refine aw_skip ?_)
    refine aw_region ?_
    refine ao1 (by decide) (o_move (v := .int _ _) rfl) ?_
    refine ao1 (by decide) (w_indexAddrpN rfl rfl hr rfl) ?_
    refine ao1 (by decide) (o_load1p (v := .int _ _) rfl hr rfl) ?_
    refine ao1 (by decide) (o_assign (v := .int _ _) rfl) ?_
    refine ao1 (by decide) (o_assign (v := .int _ _) rfl) ?_
    refine ao_nil ?_
    repeat (first | refine then_nrm ?_ | refine aw_seq ?_)
    refine aw_out 24 (.bool (decide (0 < i ∧ l[i - 1]? = some ((n : Int) - 1)))) ?_ ?_
    · refine ao1 (by decide) (o_move (v := .int _ _) rfl) ?_
      refine ao1 (by decide) (o_gt rfl rfl) ?_
      refine ao1 (by decide) (o_move (v := .bool _) rfl) ?_
      refine ao_split rfl rfl (fun hg2 => ?_) (fun hg2 => ?_)
      · refine ao_y1 rfl rfl (by decide) (o_move (v := .int _ _) rfl) ?_
        refine ao_y1 rfl rfl (by decide) (o_move (v := .pl _) rfl) ?_
        refine ao_y1 rfl rfl (by decide) (o_move (v := .int _ _) rfl) ?_
        refine ao_y1 rfl rfl (by decide) (o_sub (r := ((i - 1 : Nat) : Int)) rfl rfl (by have := of_decide_eq_true hg2; rw [show (i : Int) - 1 = ((i - 1 : Nat) : Int) by omega]; exact wrap64_ok (by omega) (by omega))) ?_
        refine ao_y1 rfl rfl (by decide) (w_indexAddrpN (n := i - 1) rfl rfl (hq1 hg2) rfl) ?_
        refine ao_y1 rfl rfl (by decide) (o_load1p (v := .int .i64 p) rfl (hq1 hg2) rfl) ?_
        refine ao_y1 rfl rfl (by decide) (o_add (r := p + 1) rfl rfl (by have := hp (by have := of_decide_eq_true hg2; omega); exact wrap64_ok (by omega) (by omega))) ?_
        refine ao_y1 rfl rfl (by decide) (o_eq rfl rfl) ?_
        refine ao1 (by decide) (o_pick_t (v := .bool _) rfl rfl) ?_
        exact ao_nil (Out.mk (by (refine congrArg AV.bool ?_; (clear hB hstep hq1 hp; rw [Bool.eq_iff_iff]; by_cases h0 : 0 < i <;> simp_all))) (by repeat (first | exact SubX.refl _ _ | refine SubX.at ?_ | refine SubX.put rfl ?_)))
      · refine ao_nT rfl rfl (by decide) ?_
        refine ao_nT rfl rfl (by decide) ?_
        refine ao_nT rfl rfl (by decide) ?_
        refine ao_nT rfl rfl (by decide) ?_
        refine ao_nT rfl rfl (by decide) ?_
        refine ao_nT rfl rfl (by decide) ?_
        refine ao_nT rfl rfl (by decide) ?_
        refine ao_nT rfl rfl (by decide) ?_
        refine ao1 (by decide) (o_pick_f (v := .bool _) rfl rfl) ?_
        exact ao_nil (Out.mk (by (refine congrArg AV.bool ?_; (clear hB hstep hq1 hp; rw [Bool.eq_iff_iff]; by_cases h0 : 0 < i <;> simp_all))) (by repeat (first | exact SubX.refl _ _ | refine SubX.at ?_ | refine SubX.put rfl ?_)))
    repeat (refine then_nrm ?_)
    refine aw_cond rfl (fun hc => ?_) (fun hc => ?_)
    · have hcd : 0 < i ∧ l[i - 1]? = some ((n : Int) - 1) := of_decide_eq_true hc
      obtain ⟨q, a, m, hq, ham⟩ := runs_last hs hn hcd
      rw [hout] at hq
      subst hq
      rw [if_pos hcd, addLast_snoc] at hstep
      have hrow : ((q ++ [(a, m)]).map eRun)[0 + q.length]? = some (eRun (a, m)) := by simp
      repeat (refine aw_seq ?_)
      refine aw_drawP mixed (some 10) 1 ?_
      try dsimp only [List.take_succ_cons, List.take_zero]
      refine aq0 0 rfl (by decide +kernel) (by decide) (fun _ => o_move (v := .sl _ _ _ _ _) rfl) ?_
      refine aq0 1 rfl (by decide +kernel) (by decide) (fun _ => o_move (v := .sl _ _ _ _ _) rfl) ?_
      refine aqp 2 rfl (by decide +kernel) (by decide) (fun G => w_lens rfl (lk rfl rfl) rfl) ?_
      refine aq0 3 rfl (by decide +kernel) (by decide) (fun _ => o_sub (r := ((q.length : Nat) : Int)) rfl rfl (by rw [show (((q ++ [(a, m)]).length : Nat) : Int) - 1 = ((q.length : Nat) : Int) by simp]; exact wrap64_ok (by omega) (by simp at hql; omega))) ?_
      refine aqp 4 rfl (by decide +kernel) (by decide) (fun G => w_indexAddrN rfl (lk rfl rfl) rfl rfl rfl (by simp)) ?_
      refine aqp 5 rfl (by decide +kernel) (by decide) (fun G => w_indexArr rfl (lk rfl rfl) rfl rfl (by omega) (by omega)) ?_
      refine aqp 6 rfl (by decide +kernel) (by decide) (fun G => w_load1 rfl (lk rfl rfl) rfl hrow rfl) ?_
      refine aq0 7 rfl (by decide +kernel) (by decide) (fun _ => o_add (r := ((m + 1 : Nat) : Int)) rfl rfl (by rw [show (m : Int) + 1 = ((m + 1 : Nat) : Int) by omega]; exact wrap64_ok (by omega) (by omega))) ?_
      refine aqpz [9, 8] 8 rfl (by decide +kernel) (by decide) (fun G => w_indexAddrN rfl (lk rfl rfl) rfl rfl rfl (by simp)) ?_
      refine aqp 9 rfl (by decide +kernel) (by decide) (fun G => w_indexArr rfl (lk rfl rfl) rfl rfl (by omega) (by omega)) ?_
      refine aqs 10 rfl (by decide +kernel) (by exact fun _ => ⟨_, rfl⟩) (by rintro _ ⟨⟩) (w_storeP (sz := 1) (v := .int _ _) (r' := eRun (a, m + 1)) rfl rfl rfl rfl hrow rfl rfl rfl (Nat.le_refl 2) rfl) ?_
      refine aa_done (by decide +kernel) (by exact yet_done (by decide +kernel)) ?_
      try dsimp only [put, List.set_cons_zero]
      rw [show ((q ++ [(a, m)]).map eRun).set (0 + q.length) (eRun (a, m + 1)) = (q ++ [(a, m + 1)]).map eRun by simp]
      repeat (first | refine then_nrm ?_ | refine then_brk ?_ | refine blk_hit ?_ | refine aw_exit ?_)
      refine aw_region ?_
      refine ao1 (by decide) (o_add (r := ((i + 1 : Nat) : Int)) rfl rfl (wrap64_ok (by omega) (by omega))) ?_
      refine ao1 (by decide) (o_move (v := .int _ _) rfl) ?_
      refine ao_nil ?_
      repeat (refine then_nrm ?_)
      exact ⟨(i + 1, g), by simp only; omega, by simp only; omega, by simp only [hbd, hstep, List.length_append, List.length_cons, List.length_nil]; exact (by repeat (first | exact Sub.nil | refine Sub.cons (by rfl) ?_)), .inl (by simp only [hbd, hstep])⟩
    · have hcd : ¬ (0 < i ∧ l[i - 1]? = some ((n : Int) - 1)) := of_decide_eq_false hc
      rw [if_neg hcd] at hstep
      repeat (first | refine then_nrm ?_ | refine aw_skip ?_)
      refine aw_region ?_
      refine ao1 (by decide) (o_move (v := .sl _ _ _ _ _) rfl) ?_
      refine ao1 (by decide) (o_move (v := .int _ _) rfl) ?_
      refine ao1 (by decide) (V1.up (o_buildArr (cs := [.int _ _, .int _ _]) rfl)) ?_
      refine ao2 (by rintro _ ⟨⟩; decide) (g_lit1 (sz := 2) (v := .agg (eRun (n, 0))) (cs := eRun (n, 0)) rfl (by decide) (by decide) rfl rfl rfl rfl rfl) ?_
      refine ao2 (by rintro _ ⟨⟩; decide) (w_append rfl rfl rfl rfl rfl (Src.pl (ys := [eRun (n, 0)]) rfl (runs_len2 [_])) rfl (by simp) (by simp) (by simp; omega) (by simp; omega)) ?_
      refine ao1 (by decide) (o_assign (v := .sl _ _ _ _ _) rfl) ?_
      refine ao_nil ?_
      try dsimp only [List.length_cons, List.length_nil, Nat.reduceAdd, AV.up, put, List.set_cons_zero]
      rw [show (out.map eRun).take out.length = out.map eRun from List.take_of_length_le (by simp)]
      repeat (first | refine then_nrm ?_ | refine blk_nrm ?_)
      refine aw_region ?_
      refine ao1 (by decide) (o_add (r := ((i + 1 : Nat) : Int)) rfl rfl (wrap64_ok (by omega) (by omega))) ?_
      refine ao1 (by decide) (o_move (v := .int _ _) rfl) ?_
      refine ao_nil ?_
      repeat (refine then_nrm ?_)
      exact ⟨(i + 1, g + 1), by simp only; omega, by simp only; omega, by simp only [hbd, hstep, List.length_append, List.length_cons, List.length_nil]; exact (by repeat (first | exact Sub.nil | refine Sub.cons (by rfl) ?_)), .inl (by simp only [hbd, hstep, List.map_append, List.map_cons, List.map_nil])⟩
  · have hi : i = l.length := by simp at hc; omega
    subst hi
    rw [runs_done hs]
    repeat (first | refine then_nrm ?_ | refine then_brk ?_ | refine blk_hit ?_ | refine aw_seq ?_ | refine aw_exit ?_)
    refine aw_region ?_
    refine ao1 (by decide) (o_move (v := .sl _ _ _ _ _) rfl) ?_
    refine ao1 (by decide) (o_assign (v := .sl _ _ _ _ _) rfl) ?_
    refine ao_nil ?_
    repeat (refine then_nrm ?_)
    refine aw_freezeL (ys := (rs (inl l) 0).map eRun) 2 rfl rfl rfl rfl (by rw [List.drop_zero, List.take_of_length_le (by simp)]) (by simp) (runs_bel 0 _) ?_
    refine aw_ret ?_
    exact e_done hB (r_tmp rfl .nil) rfl rfl
end Go.Av

namespace Go.Av
open Go.Proofs
set_option maxRecDepth 10000
set_option linter.unusedSimpArgs false
set_option linter.unusedVariables false

theorem runsB_len : ∀ (q : List (Nat × Nat)) (first : Bool) (last : Nat), RunsOK first last q → (runsB last q).length ≤ 20 * q.length
  | [], _, _, _ => Nat.le_refl _
  | (a, m) :: q, first, last, h => by
    obtain ⟨h1, h2, h3, h4⟩ := h
    have k1 := numB_10 (n := a - last) (by omega)
    have k2 := numB_10 (n := m) (by omega)
    have ih := runsB_len q false (a + m) h4
    rw [runsB, List.length_append, List.length_append, List.length_cons]
    omega
theorem rs_ok0 (f : Nat → Bool) : RunsOK true 0 (rs f 0) := rs_ok f 256 0 true 0 rfl fun x _ _ _ => ⟨Nat.zero_le _, .inl rfl⟩
theorem setB_len (l : List Int) : (setB l).length ≤ 6000 := by
  have h1 := runsB_len _ _ _ (rs_ok0 (inl l))
  have h2 := rs_len (inl l) 256 0 rfl
  have h3 := numB_10 (n := (rs (inl l) 0).length) (by omega)
  rw [setB, List.length_cons, List.length_append]
  omega
theorem one_bel (n : Nat) (bs : List UInt8) (g : Nat) : ∀ o ∈ [AObj.mk g 1 (bs.map brow)], ∀ r ∈ o.rows, AV.bels n r = true := by
  intro o ho r hr
  simp only [List.mem_singleton] at ho
  subst ho
  exact bytes_bel0 _ _ r hr
set_option maxHeartbeats 0 in
theorem code_Set (l : List Int) (hl : l.length ≤ 1000000) (H : Heap) : AC Try.prog 9 [.pl (l.map eInt)] H (Ret (.tup [.pl ((putSet l).1.map brow), .int .i64 (putSet l).2]) H) := by
  refine AC.body (N := 43) [.tmp 2, .tmp 3] Try.func9 rfl rfl rfl (Nat.le_of_ble_eq_true rfl) fun B hB => ?_
  repeat (refine aw_seq ?_)
  refine aw_region ?_
  refine ao1 (by decide) (o_assign (v := .nsl) rfl) ?_
  refine ao1 (by decide) (o_assign (v := .int _ _) rfl) ?_
  refine ao_nil ?_
  repeat (first | refine then_nrm ?_ | refine aw_seq ?_)
  refine aw_region ?_
  refine ao1 (by decide) (o_move (v := .pl _) rfl) ?_
  refine ao_ret (set_Right _ (by assumption) _) rfl (by decide) ?_
  refine ao1 (by decide) (o_not rfl) ?_
  refine ao_nil ?_
  repeat (refine then_nrm ?_)
  refine aw_cond rfl (fun hc => ?_) (fun hc => ?_)
  · have hs : sok l = false := by simpa using hc
    rw [show putSet l = ([], 1) by rw [putSet, if_pos hs]]
    repeat (refine aw_seq ?_)
    refine aw_region ?_
    refine ao1 (by decide) (o_assign (v := .nsl) rfl) ?_
    refine ao1 (by decide) (o_assign (v := .int _ _) rfl) ?_
    refine ao_nil ?_
    try dsimp only
    repeat (refine then_nrm ?_)
    refine aw_nslpl 2 rfl ?_
    refine aw_ret ?_
    exact e_done hB (r_tmp rfl (r_tmp rfl .nil)) rfl rfl
  have hs : sok l = true := by simpa using hc
  rw [show putSet l = (setB l, 0) by rw [putSet, if_neg (by rw [hs]; simp)]]
  have hlen := setB_len l
  have hok := rs_ok0 (inl l)
  have hrl := rs_len (inl l) 256 0 rfl
  have hspec : setB l = ([2] ++ numB (rs (inl l) 0).length) ++ runsB 0 (rs (inl l) 0) := rfl
  repeat (first | refine then_nrm ?_ | refine aw_seq ?_ | refine aw_skip ?_)
  refine aw_region ?_
  refine ao1 (by decide) (o_move (v := .pl _) rfl) ?_
  refine ao_ret (code_runs _ (by assumption) _) rfl (by decide) ?_
  refine ao1 (by decide) (o_assign (v := .pl _) rfl) ?_
  refine ao_nil ?_
  try dsimp only
  clear hc
  generalize hq : rs (inl l) 0 = q at hok hrl hspec
  have hn10 := numB_10 (n := q.length) (by omega)
  repeat (first | refine then_nrm ?_ | refine aw_seq ?_)
  refine aw_region ?_
  refine ao2 (by rintro _ ⟨⟩; decide) (o_buildSlice1L (sz := 1) (v := .int _ _) rfl (by decide) (by decide) rfl rfl rfl rfl rfl) ?_
  refine ao1 (by decide) (o_move (v := .pl _) rfl) ?_
  refine ao1 (by decide) (o_lenp rfl) ?_
  refine ao1 (by decide) (o_conv_int (r := (q.length : Int)) rfl (by (rw [List.length_map]; exact u64_wrap q.length (by omega)))) ?_
  refine ao2 (by rintro _ ⟨⟩; decide) (V2.callo3 (k := 0) (code_number [2] q.length (by omega) _ (Lid H.length 0) 0 (by simp) (lk rfl rfl)) rfl rfl) ?_
  refine ao1 (by decide) (o_assign (v := .sl _ _ _ _ _) rfl) ?_
  refine ao_nil ?_
  try dsimp only [List.length_cons, List.length_nil, Nat.reduceAdd, put, AV.cells, List.nil_append, List.cons_append, List.set_cons_zero]
  repeat (first | refine then_nrm ?_ | refine aw_seq ?_)
  refine aw_region ?_
  refine ao1 (by decide) (o_assign (v := .int _ _) rfl) ?_
  refine ao_nil ?_
  repeat (first | refine then_nrm ?_ | refine aw_seq ?_)
  refine aw_region ?_
  refine ao1 (by decide) (o_move (v := .pl _) rfl) ?_
  refine ao1 (by decide) (o_lenp rfl) ?_
  refine ao1 (by decide) (o_move (v := .int _ _) rfl) ?_
  refine ao_nil ?_
  repeat (first | refine then_nrm ?_ | refine aw_block ?_)
  refine aw_loop (G := Nat × Nat × List UInt8) (fun s => s.1 ≤ q.length ∧ s.2.2 ++ runsB s.2.1 (q.drop s.1) = setB l ∧ RunsOK (s.1 == 0) s.2.1 (q.drop s.1) ∧ 1 ≤ s.2.2.length) (fun s => [(5, .sl (Lid H.length 0) (s.2.2.length - 1) 0 s.2.2.length s.2.2.length), (6, .int .i64 (s.2.1 : Int)), (19, .pl (q.map eRun)), (20, .int .i64 (q.length : Int)), (21, .int .i64 (s.1 : Int))]) (fun s => H ++ [⟨s.2.2.length - 1, 1, s.2.2.map brow⟩]) (fun s => q.length - s.1) (0, 0, [2] ++ numB q.length) ⟨Nat.zero_le _, hspec.symm, hok, by simp⟩ (by simp only [List.length_append, List.length_cons, List.length_nil, Nat.add_sub_cancel_left, Nat.zero_add]; exact (by repeat (first | exact Sub.nil | refine Sub.cons (by first | rfl | (simp [get]; done)) ?_))) (.inl (by simp only [List.length_append, List.length_cons, List.length_nil, Nat.add_sub_cancel_left, Nat.zero_add]; rfl)) ?_
  rintro ⟨i, last, bs⟩ ⟨hi, hbs, hro, hb1⟩
  simp only at hi hbs hro hb1 ⊢
  have hbl : bs.length ≤ 6000 := by
    have := congrArg List.length hbs
    rw [List.length_append] at this
    omega
  repeat (refine aw_seq ?_)
  refine aw_region ?_
  refine ao1 (by decide) (o_lt rfl rfl) ?_
  refine ao_nil ?_
  repeat (first | refine then_nrm ?_ | refine aw_seq ?_)
  refine aw_cond rfl (fun hc => ?_) (fun hc => ?_)
  · have hil : i < q.length := by simp at hc; omega
    obtain ⟨⟨a, m⟩, ham, _⟩ := get_in hil
    have hr := map_get eRun ham
    have hdrop : q.drop i = (a, m) :: q.drop (i + 1) := by
      rw [List.drop_eq_getElem_cons hil]
      congr 1
      rw [List.getElem?_eq_getElem hil] at ham
      exact Option.some.inj ham
    rw [hdrop] at hbs hro
    obtain ⟨k1, k2, k3, k4⟩ := hro
    rw [runsB, ← List.append_assoc, ← List.append_assoc] at hbs
    have hna := numB_10 (n := a - last) (by omega)
    have hnm := numB_10 (n := m) (by omega)
    generalize hb2 : bs ++ numB (a - last) = bs2 at hbs
    have hl2 : bs2.length = bs.length + (numB (a - last)).length := by rw [← hb2, List.length_append]
    have c1 := fun H' id hid => code_number bs (a - last) (by omega) H' id (bs.length - 1) (by omega) hid
    rw [hb2, ← hl2, show bs.length - 1 + (numB (a - last)).length = bs2.length - 1 by omega] at c1
    generalize hb3 : bs2 ++ numB m = bs3 at hbs
    have hl3 : bs3.length = bs2.length + (numB m).length := by rw [← hb3, List.length_append]
    have c2 := fun H' id hid => code_number bs2 m (by omega) H' id (bs2.length - 1) (by omega) hid
    rw [hb3, ← hl3, show bs2.length - 1 + (numB m).length = bs3.length - 1 by omega] at c2
    repeat (first | refine then_nrm ?_ | refine aw_seq ?_ | refine aw_block ?_ | refine aw_skip ?_)
    refine aw_region ?_
    refine ao1 (by decide) (w_indexAddrpN rfl rfl hr rfl) ?_
    refine ao1 (by decide) (w_loadRp rfl hr rfl) ?_
    refine ao2 (by rintro _ ⟨⟩; decide) (o_allocL (sz := 2) rfl (by decide) rfl) ?_
    refine ao2 (by rintro _ ⟨⟩) (w_storeW (sz := 2) rfl rfl rfl rfl rfl rfl rfl rfl (Nat.le_of_ble_eq_true rfl)) ?_
    refine ao_nil ?_
    try dsimp only [put, List.length_cons, List.length_nil, Nat.reduceAdd, List.cons_append, List.nil_append, List.set_cons_zero, List.set_cons_succ]
    repeat (first | refine then_nrm ?_ | refine aw_seq ?_)
    refine aw_drawR mixed none 1 ?_
    refine aq0 0 rfl (by decide +kernel) (by decide) (fun _ => o_move (v := .sl _ _ _ _ _) rfl) ?_
    refine aqr 1 rfl (by decide +kernel) (by decide) (fun G hG => w_indexArr rfl (lk rfl hG) rfl rfl (by omega) (by omega)) ?_
    refine aqr 2 rfl (by decide +kernel) (by decide) (fun G hG => w_load1 (v := .int _ _) rfl (lk rfl hG) rfl rfl rfl) ?_
    refine aq0 3 rfl (by decide +kernel) (by decide) (fun _ => o_move (v := .int _ _) rfl) ?_
    refine aq0 4 rfl (by decide +kernel) (by decide) (fun _ => o_sub (r := ((a - last : Nat) : Int)) rfl rfl (by rw [show (a : Int) - (last : Int) = ((a - last : Nat) : Int) by omega]; exact wrap64_ok (by omega) (by omega))) ?_
    refine aq0 5 rfl (by decide +kernel) (by decide) (fun _ => o_conv_int (r := ((a - last : Nat) : Int)) rfl (u64_wrap _ (by omega))) ?_
    refine aqr 7 rfl (by decide +kernel) (by decide) (fun G hG => w_indexArr rfl (lk rfl hG) rfl rfl (by omega) (by omega)) ?_
    refine aqr 8 rfl (by decide +kernel) (by decide) (fun G hG => w_load1 (v := .int _ _) rfl (lk rfl hG) rfl rfl rfl) ?_
    refine aq0 9 rfl (by decide +kernel) (by decide) (fun _ => o_conv_int (r := (m : Int)) rfl (u64_wrap _ (by omega))) ?_
    refine aqs 6 rfl (by decide +kernel) (by exact fun _ => ⟨_, rfl, rfl⟩) (by rintro _ ⟨⟩; decide) (V2.callo3 (k := 0) (c1 _ (Lid H.length 0) (lk rfl rfl)) rfl rfl) ?_
    refine aqs 10 rfl (by decide +kernel) (by exact fun _ => ⟨_, rfl, rfl⟩) (by rintro _ ⟨⟩; decide) (V2.callo3 (k := 0) (c2 _ (Lid H.length 0) (lk rfl rfl)) rfl rfl) ?_
    refine aq0 11 rfl (by decide +kernel) (by decide) (fun _ => o_assign (v := .sl _ _ _ _ _) rfl) ?_
    refine aa_done (by decide +kernel) (by exact fun _ => ⟨_, rfl, rfl⟩) ?_
    try dsimp only [put, List.set_cons_zero]
    repeat (refine then_nrm ?_)
    refine aw_region ?_
    refine ao1 (by decide) (w_indexArr rfl (lk rfl rfl) rfl rfl (by omega) (by omega)) ?_
    refine ao1 (by decide) (w_load1 (v := .int _ _) rfl (lk rfl rfl) rfl rfl rfl) ?_
    refine ao1 (by decide) (w_indexArr rfl (lk rfl rfl) rfl rfl (by omega) (by omega)) ?_
    refine ao1 (by decide) (w_load1 (v := .int _ _) rfl (lk rfl rfl) rfl rfl rfl) ?_
    refine ao1 (by decide) (o_add (r := ((a + m : Nat) : Int)) rfl rfl (by rw [show (a : Int) + (m : Int) = ((a + m : Nat) : Int) by omega]; exact wrap64_ok (by omega) (by omega))) ?_
    refine ao1 (by decide) (o_assign (v := .int _ _) rfl) ?_
    refine ao_nil ?_
    try dsimp only
    repeat (first | refine then_nrm ?_ | refine blk_nrm ?_)
    refine aw_region ?_
    refine ao1 (by decide) (o_add (r := ((i + 1 : Nat) : Int)) rfl rfl (wrap64_ok (by omega) (by omega))) ?_
    refine ao1 (by decide) (o_move (v := .int _ _) rfl) ?_
    refine ao_nil ?_
    repeat (refine then_nrm ?_)
    exact ⟨(i + 1, a + m, bs3), by simp only; omega, ⟨by simp only; omega, hbs, by simpa using k4, by simp only; omega⟩, (by repeat (first | exact Sub.nil | refine Sub.cons (by rfl) ?_)), Fit.loc hB rfl (by repeat (first | exact EBel.nil | refine EBel.cons (by first | rfl | (simp [AV.bel, AV.bels, Lid]; done)) ?_)) (one_bel _ _ _)⟩
  · have hie : i = q.length := by simp at hc; omega
    subst hie
    rw [List.drop_length, runsB, List.append_nil] at hbs
    subst hbs
    repeat (first | refine then_nrm ?_ | refine then_brk ?_ | refine blk_hit ?_ | refine aw_seq ?_ | refine aw_exit ?_)
    refine aw_region ?_
    refine ao1 (by decide) (o_move (v := .sl _ _ _ _ _) rfl) ?_
    refine ao1 (by decide) (o_assign (v := .sl _ _ _ _ _) rfl) ?_
    refine ao1 (by decide) (o_assign (v := .int _ _) rfl) ?_
    refine ao_nil ?_
    repeat (refine then_nrm ?_)
    refine aw_freezeL (ys := (setB l).map brow) 2 rfl rfl rfl rfl (by rw [List.drop_zero, List.take_of_length_le (by simp)]) (by simp) (bytes_bel0 0 _) ?_
    refine aw_ret ?_
    exact e_done hB (r_tmp rfl (r_tmp rfl .nil)) rfl rfl
end Go.Av

namespace Go.Av
open Go.Proofs
set_option maxRecDepth 10000
set_option linter.unusedSimpArgs false
set_option linter.unusedVariables false

theorem g_appB {P : Program} {N : Nat} {env : Env} {H0 L : Heap} {ty t t' e : TypeId} {x y : Operand} {n k g sz bytes : Nat} {agg : Bool} {zs : List AV} {α : Type} {en : α → List AV} {bs cs : List α} [hu : SlI P t e] [NiI P t'] [TyI P e agg sz] [hz : ZcI P e zs] [ByI P e bytes]
    (hx : aev env x = .sl (Lid n k) g 0 bs.length bs.length) (hn : H0.length = n) (hk : L[k]? = some ⟨g, sz, bs.map en⟩) (hy : Src P N env (H0 ++ L) y sz (cs.map en)) (hz' : zs.length = sz) (h63 : bs.length + cs.length ≤ 9223372036854775807) (hb : (bs.length + cs.length) * bytes ≤ 140737488355328) :
    V2 P N (.call { callee := .builtin .append, args := #[x, y], argTypes := #[t, t'] }) ty env (H0 ++ L) (.sl (Lid n k) (g + 1) 0 (bs ++ cs).length (bs ++ cs).length) (H0 ++ L.set k ⟨g + 1, sz, (bs ++ cs).map en⟩) := by
  have := g_append (P := P) (N := N) (env := env) (ty := ty) (t := t) (t' := t') (e := e) (agg := agg) (zs := zs) (bytes := bytes) (o := ⟨g, sz, bs.map en⟩) hx hn hk rfl rfl hy hz' (by simp) (by simpa using h63) (by simpa using hb)
  rw [show (bs.map en).take bs.length = bs.map en from List.take_of_length_le (by simp), ← List.map_append, List.length_map, ← List.length_append] at this
  exact this
theorem ref01_Has (l : List Int) (n : Nat) (hl : l.length ≤ 1000000) (H : Heap) : AC Try.prog 29 [.pl (l.map eInt), .int .i64 (n : Int)] H (Ret (.bool (sok l && inl l n)) H) := by
  refine AC.body (N := 12) [.tmp 4] Try.func29 rfl rfl rfl (Nat.le_of_ble_eq_true rfl) fun B hB => ?_
  repeat (refine aw_seq ?_)
  refine aw_region ?_
  refine ao1 (by decide) (o_assign (v := .bool _) rfl) ?_
  refine ao_nil ?_
  repeat (first | refine then_nrm ?_ | refine aw_seq ?_)
  refine aw_out 4 (.bool (sok l && inl l n)) ?_ ?_
  · refine ao1 (by decide) (o_move (v := .pl _) rfl) ?_
    refine ao_ret (ref01_Right _ (by assumption) _) rfl (by decide) ?_
    refine ao1 (by decide) (o_move (v := .bool _) rfl) ?_
    refine ao_split rfl rfl (fun hg2 => ?_) (fun hg2 => ?_)
    · refine ao_y1 rfl rfl (by decide) (o_move (v := .pl _) rfl) ?_
      refine ao_y1 rfl rfl (by decide) (o_move (v := .int _ _) rfl) ?_
      refine ao_y rfl rfl (by decide) (V2.call (ref01_in l n hl _) rfl) ?_
      refine ao1 (by decide) (o_pick_t (v := .bool _) rfl rfl) ?_
      refine ao1 (by decide) (o_assign (v := .bool _) rfl) ?_
      exact ao_nil (Out.mk (by (refine congrArg AV.bool ?_; ((simp_all; done)))) (by repeat (first | exact SubX.refl _ _ | refine SubX.at ?_ | refine SubX.put rfl ?_)))
    · refine ao_nT rfl rfl (by decide) ?_
      refine ao_nT rfl rfl (by decide) ?_
      refine ao_nT rfl rfl (by decide) ?_
      refine ao1 (by decide) (o_pick_f (v := .bool _) rfl rfl) ?_
      refine ao1 (by decide) (o_assign (v := .bool _) rfl) ?_
      exact ao_nil (Out.mk (by (refine congrArg AV.bool ?_; ((simp_all; done)))) (by repeat (first | exact SubX.refl _ _ | refine SubX.at ?_ | refine SubX.put rfl ?_)))
  repeat (first | refine then_nrm ?_ | refine aw_ret ?_)
  exact e_done hB (r_tmp rfl .nil) rfl rfl
theorem two_bel (n : Nat) (bs : List UInt8) (g : Nat) : ∀ o ∈ [AObj.mk g 1 (bs.map brow)], ∀ r ∈ o.rows, AV.bels n r = true := one_bel n bs g
set_option maxHeartbeats 0 in
theorem ref08_Set (l : List Int) (hl : l.length ≤ 1000000) (H : Heap) : AC Try.prog 13 [.pl (l.map eInt)] H (Ret (.tup [.pl ((putSet l).1.map brow), .int .i64 (putSet l).2]) H) := by
  refine AC.body (N := 66) [.tmp 2, .tmp 3] Try.func13 rfl rfl rfl (Nat.le_of_ble_eq_true rfl) fun B hB => ?_
  repeat (refine aw_seq ?_)
  refine aw_region ?_
  refine ao1 (by decide) (o_assign (v := .nsl) rfl) ?_
  refine ao1 (by decide) (o_assign (v := .int _ _) rfl) ?_
  refine ao_nil ?_
  repeat (first | refine then_nrm ?_ | refine aw_seq ?_)
  refine aw_region ?_
  refine ao1 (by decide) (o_move (v := .pl _) rfl) ?_
  refine ao_ret (ref01_Right _ (by assumption) _) rfl (by decide) ?_
  refine ao1 (by decide) (o_not rfl) ?_
  refine ao_nil ?_
  repeat (refine then_nrm ?_)
  refine aw_cond rfl (fun hc => ?_) (fun hc => ?_)
  · have hs : sok l = false := by simpa using hc
    rw [show putSet l = ([], 1) by rw [putSet, if_pos hs]]
    repeat (refine aw_seq ?_)
    refine aw_region ?_
    refine ao1 (by decide) (o_assign (v := .nsl) rfl) ?_
    refine ao1 (by decide) (o_assign (v := .int _ _) rfl) ?_
    refine ao_nil ?_
    try dsimp only
    repeat (refine then_nrm ?_)
    refine aw_nslpl 2 rfl ?_
    refine aw_ret ?_
    exact e_done hB (r_tmp rfl (r_tmp rfl .nil)) rfl rfl
  have hs : sok l = true := by simpa using hc
  rw [show putSet l = (setB l, 0) by rw [putSet, if_neg (by rw [hs]; simp)]]
  have hlen := setB_len l
  have hok := rs_ok0 (inl l)
  have hrl := rs_len (inl l) 256 0 rfl
  have hspec : setB l = 2 :: (numB (rs (inl l) 0).length ++ runsB 0 (rs (inl l) 0)) := rfl
  have cH := fun n H => ref01_Has l n hl H
  rw [hs] at cH
  simp only [Bool.true_and] at cH
  clear hc
  generalize hf : inl l = f at hok hrl hspec cH
  repeat (first | refine then_nrm ?_ | refine aw_seq ?_ | refine aw_skip ?_)
  refine aw_region ?_
  refine ao1 (by decide) (o_assign (v := .nsl) rfl) ?_
  refine ao_nil ?_
  try dsimp only
  repeat (first | refine then_nrm ?_ | refine aw_seq ?_)
  refine aw_ghostL (k := 0) 4 1 rfl (by decide) rfl ?_
  rw [List.nil_append]
  refine aw_region ?_
  refine ao1 (by decide) (o_assign (v := .int _ _) rfl) ?_
  refine ao_nil ?_
  repeat (first | refine then_nrm ?_ | refine aw_seq ?_)
  refine aw_region ?_
  refine ao1 (by decide) (o_assign (v := .int _ _) rfl) ?_
  refine ao_nil ?_
  repeat (first | refine then_nrm ?_ | refine aw_seq ?_)
  refine aw_region ?_
  refine ao1 (by decide) (o_assign (v := .int _ _) rfl) ?_
  refine ao_nil ?_
  repeat (first | refine then_nrm ?_ | refine aw_block ?_)
  refine aw_loop (G := Nat × Nat × Nat × List UInt8 × Nat) (fun s => s.1 ≤ 256 ∧ s.2.2.2.1 ++ runsB s.2.2.1 (rs f s.1) = runsB 0 (rs f 0) ∧ s.2.1 + (rs f s.1).length = (rs f 0).length ∧ (s.2.2.1 ≤ s.1 ∨ ∀ x, s.1 ≤ x → x ≤ s.2.2.1 → 0 < x ∧ f (x - 1) = true)) (fun s => [(0, .pl (l.map eInt)), (4, .sl (Lid H.length 0) s.2.2.2.2 0 s.2.2.2.1.length s.2.2.2.1.length), (5, .int .u64 (s.2.1 : Int)), (6, .int .i64 (s.2.2.1 : Int)), (7, .int .i64 (s.1 : Int))]) (fun s => H ++ [⟨s.2.2.2.2, 1, s.2.2.2.1.map brow⟩]) (fun s => 256 - s.1) (0, 0, 0, [], 0) ⟨by decide, rfl, by simp, .inl (Nat.le_refl _)⟩ (by repeat (first | exact Sub.nil | refine Sub.cons (by rfl) ?_)) (.inl rfl) ?_
  rintro ⟨n, many, last, bs, g⟩ ⟨hn, hbs, hmany, hlast⟩
  simp only at hn hbs hmany hlast ⊢
  have hbl : bs.length ≤ 6000 := by
    have h1 := congrArg List.length hbs
    have h2 := congrArg List.length hspec
    rw [List.length_append] at h1
    rw [List.length_cons, List.length_append] at h2
    omega
  repeat (refine aw_seq ?_)
  refine aw_region ?_
  refine ao1 (by decide) (o_move (v := .int _ _) rfl) ?_
  refine ao1 (by decide) (o_lt rfl rfl) ?_
  refine ao_nil ?_
  repeat (refine then_nrm ?_)
  refine aw_cond rfl (fun hc => ?_) (fun hc => ?_)
  · have hn2 : n < 256 := by simp at hc; omega
    have c1 := cH n
    have c2 := cH (n - 1)
    repeat (first | refine then_nrm ?_ | refine aw_seq ?_ | refine aw_block ?_ | refine aw_skip ?_)
    refine aw_out 29 (.bool (!(startB f n))) ?_ ?_
    · refine ao1 (by decide) (o_move (v := .pl _) rfl) ?_
      refine ao1 (by decide) (o_move (v := .int _ _) rfl) ?_
      refine ao_ret (c1 _) rfl (by decide) ?_
      refine ao1 (by decide) (o_not rfl) ?_
      refine ao1 (by decide) (o_move (v := .bool _) rfl) ?_
      refine ao_split rfl rfl (fun hg4 => ?_) (fun hg4 => ?_)
      · refine ao_nF rfl rfl (by decide) ?_
        refine ao_nF rfl rfl (by decide) ?_
        refine ao_nF rfl rfl (by decide) ?_
        refine ao_nU rfl rfl (by decide) ?_
        refine ao_nU rfl rfl (by decide) ?_
        refine ao_nU rfl rfl (by decide) ?_
        refine ao_nU rfl rfl (by decide) ?_
        refine ao_nF rfl rfl (by decide) ?_
        refine ao1 (by decide) (o_pick_t (v := .bool _) rfl rfl) ?_
        exact ao_nil (Out.mk (by (refine congrArg AV.bool ?_; (clear hB cH c1 c2 hlast hspec; simp only [startB]; by_cases h0 : 0 < n <;> simp_all))) (by repeat (first | exact SubX.refl _ _ | refine SubX.at ?_ | refine SubX.put rfl ?_)))
      · refine ao_y1 rfl rfl (by decide) (o_move (v := .int _ _) rfl) ?_
        refine ao_y1 rfl rfl (by decide) (o_gt rfl rfl) ?_
        refine ao_y1 rfl rfl (by decide) (o_move (v := .bool _) rfl) ?_
        refine ao_split rfl rfl (fun hg7 => ?_) (fun hg7 => ?_)
        · refine ao_y1 rfl rfl (by decide) (o_move (v := .pl _) rfl) ?_
          refine ao_y1 rfl rfl (by decide) (o_move (v := .int _ _) rfl) ?_
          refine ao_y1 rfl rfl (by decide) (o_sub (r := ((n - 1 : Nat) : Int)) rfl rfl (by have := of_decide_eq_true hg7; rw [show (n : Int) - 1 = ((n - 1 : Nat) : Int) by omega]; exact wrap64_ok (by omega) (by omega))) ?_
          refine ao_y rfl rfl (by decide) (V2.call (c2 _) rfl) ?_
          refine ao_y1 rfl rfl (by decide) (o_pick_t (v := .bool _) rfl rfl) ?_
          refine ao1 (by decide) (o_pick_f (v := .bool _) rfl rfl) ?_
          exact ao_nil (Out.mk (by (refine congrArg AV.bool ?_; (clear hB cH c1 c2 hlast hspec; simp only [startB]; by_cases h0 : 0 < n <;> simp_all))) (by repeat (first | exact SubX.refl _ _ | refine SubX.at ?_ | refine SubX.put rfl ?_)))
        · refine ao_nT rfl rfl (by decide) ?_
          refine ao_nT rfl rfl (by decide) ?_
          refine ao_nT rfl rfl (by decide) ?_
          refine ao_nT rfl rfl (by decide) ?_
          refine ao_y1 rfl rfl (by decide) (o_pick_f (v := .bool _) rfl rfl) ?_
          refine ao1 (by decide) (o_pick_f (v := .bool _) rfl rfl) ?_
          exact ao_nil (Out.mk (by (refine congrArg AV.bool ?_; (clear hB cH c1 c2 hlast hspec; simp only [startB]; by_cases h0 : 0 < n <;> simp_all))) (by repeat (first | exact SubX.refl _ _ | refine SubX.at ?_ | refine SubX.put rfl ?_)))
    repeat (refine then_nrm ?_)
    refine aw_cond rfl (fun hc => ?_) (fun hc => ?_)
    · have hst : startB f n = false := by simpa using hc
      rw [rs_no hst] at hbs hmany
      repeat (first | refine then_nrm ?_ | refine then_brk ?_ | refine blk_hit ?_ | refine aw_exit ?_)
      refine aw_region ?_
      refine ao1 (by decide) (o_move (v := .int _ _) rfl) ?_
      refine ao1 (by decide) (o_add (r := ((n + 1 : Nat) : Int)) rfl rfl (wrap64_ok (by omega) (by omega))) ?_
      refine ao1 (by decide) (o_assign (v := .int _ _) rfl) ?_
      refine ao_nil ?_
      repeat (refine then_nrm ?_)
      exact ⟨(n + 1, many, last, bs, g), by simp only; omega, ⟨by simp only; omega, hbs, hmany, hlast.imp (fun h => by simp only; omega) (fun h x h1 h2 => h x (by simp only at h1; omega) h2)⟩, (by repeat (first | exact Sub.nil | refine Sub.cons (by rfl) ?_)), .inl rfl⟩
    have hst : startB f n = true := by simpa using hc
    have hst' := hst
    simp only [startB, Bool.and_eq_true, Bool.not_eq_true', Bool.and_eq_false_imp, decide_eq_true_eq] at hst'
    obtain ⟨hfn, hprev⟩ := hst'
    have hln : last ≤ n := by
      rcases hlast with h1 | h1
      · exact h1
      · rcases Nat.lt_or_ge n last with h2 | h2
        · obtain ⟨h3, h4⟩ := h1 n (Nat.le_refl _) (by omega)
          rw [hprev h3] at h4; cases h4
        · exact h2
    have hext := ext_lt f hn2
    have hin := fun x => ext_in f hn2 (x := x)
    have hend := ext_end f hn2
    rw [rs_yes hn2 hst] at hbs hmany
    rw [runsB, ← List.append_assoc, ← List.append_assoc] at hbs
    clear hst hlast hprev c1 c2 hc
    repeat (first | refine then_nrm ?_ | refine aw_seq ?_ | refine aw_skip ?_)
    refine aw_region ?_
    refine ao1 (by decide) (o_assign (v := .int _ _) rfl) ?_
    refine ao_nil ?_
    repeat (first | refine then_nrm ?_ | refine aw_seq ?_ | refine aw_block ?_)
    refine aw_loop (G := Nat) (fun k => k ≤ ext f n) (fun k => [(0, .pl (l.map eInt)), (4, .sl (Lid H.length 0) g 0 bs.length bs.length), (5, .int .u64 (many : Int)), (6, .int .i64 (last : Int)), (7, .int .i64 (n : Int)), (8, .int .i64 (k : Int))]) (fun k => H ++ [⟨g, 1, bs.map brow⟩]) (fun k => ext f n - k) 0 (Nat.zero_le _) (by repeat (first | exact Sub.nil | refine Sub.cons (by rfl) ?_)) (.inl rfl) ?_
    intro k hk
    have c3 := cH (n + k + 1)
    have hck : (n + k < 255 ∧ f (n + k + 1) = true) ↔ k < ext f n := by
      constructor
      · rintro ⟨h1, h2⟩
        rcases Nat.lt_or_ge k (ext f n) with h3 | h3
        · exact h3
        · have : k = ext f n := by omega
          subst this
          rw [hend h1] at h2; cases h2
      · intro h1
        exact ⟨by omega, hin (n + k + 1) (by omega) (by omega)⟩
    repeat (refine aw_seq ?_)
    refine aw_out 41 (.bool (decide (k < ext f n))) ?_ ?_
    · refine ao1 (by decide) (o_move (v := .int _ _) rfl) ?_
      refine ao1 (by decide) (o_move (v := .int _ _) rfl) ?_
      refine ao1 (by decide) (o_add (r := ((n + k : Nat) : Int)) rfl rfl (by rw [show (n : Int) + (k : Int) = ((n + k : Nat) : Int) by omega]; exact wrap64_ok (by omega) (by omega))) ?_
      refine ao1 (by decide) (o_lt rfl rfl) ?_
      refine ao1 (by decide) (o_move (v := .bool _) rfl) ?_
      refine ao_split rfl rfl (fun hg4 => ?_) (fun hg4 => ?_)
      · refine ao_y1 rfl rfl (by decide) (o_move (v := .pl _) rfl) ?_
        refine ao_y1 rfl rfl (by decide) (o_move (v := .int _ _) rfl) ?_
        refine ao_y1 rfl rfl (by decide) (o_move (v := .int _ _) rfl) ?_
        refine ao_y1 rfl rfl (by decide) (o_add (r := ((n + k : Nat) : Int)) rfl rfl (by rw [show (n : Int) + (k : Int) = ((n + k : Nat) : Int) by omega]; exact wrap64_ok (by omega) (by omega))) ?_
        refine ao_y1 rfl rfl (by decide) (o_add (r := ((n + k + 1 : Nat) : Int)) rfl rfl (by rw [show ((n + k : Nat) : Int) + 1 = ((n + k + 1 : Nat) : Int) by omega]; exact wrap64_ok (by omega) (by omega))) ?_
        refine ao_y rfl rfl (by decide) (V2.call (c3 _) rfl) ?_
        refine ao1 (by decide) (o_pick_t (v := .bool _) rfl rfl) ?_
        exact ao_nil (Out.mk (by (refine congrArg AV.bool ?_; (clear hB cH c3 hspec hbs hmany hin hend; rw [Bool.eq_iff_iff, decide_eq_true_eq, ← hck]; grind))) (by repeat (first | exact SubX.refl _ _ | refine SubX.at ?_ | refine SubX.put rfl ?_)))
      · refine ao_nT rfl rfl (by decide) ?_
        refine ao_nT rfl rfl (by decide) ?_
        refine ao_nT rfl rfl (by decide) ?_
        refine ao_nT rfl rfl (by decide) ?_
        refine ao_nT rfl rfl (by decide) ?_
        refine ao_nT rfl rfl (by decide) ?_
        refine ao1 (by decide) (o_pick_f (v := .bool _) rfl rfl) ?_
        exact ao_nil (Out.mk (by (refine congrArg AV.bool ?_; (clear hB cH c3 hspec hbs hmany hin hend; rw [Bool.eq_iff_iff, decide_eq_true_eq, ← hck]; (simp_all; omega)))) (by repeat (first | exact SubX.refl _ _ | refine SubX.at ?_ | refine SubX.put rfl ?_)))
    repeat (refine then_nrm ?_)
    refine aw_cond rfl (fun hc => ?_) (fun hc => ?_)
    · have hkl : k < ext f n := of_decide_eq_true hc
      repeat (first | refine then_nrm ?_ | refine aw_block ?_ | refine aw_skip ?_)
      refine aw_region ?_
      refine ao1 (by decide) (o_move (v := .int _ _) rfl) ?_
      refine ao1 (by decide) (o_add (r := ((k + 1 : Nat) : Int)) rfl rfl (wrap64_ok (by omega) (by omega))) ?_
      refine ao1 (by decide) (o_assign (v := .int _ _) rfl) ?_
      refine ao_nil ?_
      repeat (first | refine then_nrm ?_ | refine blk_nrm ?_)
      exact ⟨k + 1, by omega, by omega, (by repeat (first | exact Sub.nil | refine Sub.cons (by rfl) ?_)), .inl rfl⟩
    have hke : k = ext f n := by have := of_decide_eq_false hc; omega
    subst hke
    clear hck c3 hc hk
    generalize hm : ext f n = m at hbs hmany hext hin hend
    have hna := numB_10 (n := n - last) (by omega)
    have hnm := numB_10 (n := m) (by omega)
    repeat (first | refine then_nrm ?_ | refine then_brk ?_ | refine blk_hit ?_ | refine aw_seq ?_ | refine aw_exit ?_)
    refine aw_region ?_
    refine ao1 (by decide) (o_move (v := .sl _ _ _ _ _) rfl) ?_
    refine ao1 (by decide) (o_move (v := .int _ _) rfl) ?_
    refine ao1 (by decide) (o_move (v := .int _ _) rfl) ?_
    refine ao1 (by decide) (o_sub (r := ((n - last : Nat) : Int)) rfl rfl (by rw [show (n : Int) - (last : Int) = ((n - last : Nat) : Int) by omega]; exact wrap64_ok (by omega) (by omega))) ?_
    refine ao1 (by decide) (o_conv_int (r := ((n - last : Nat) : Int)) rfl (u64_wrap _ (by omega))) ?_
    refine ao_ret (ref08_num (n - last) (by omega) _) rfl (by decide) ?_
    refine ao2 (by rintro _ ⟨⟩; decide) (g_appB (en := brow) (bs := bs) (cs := numB (n - last)) rfl rfl rfl (Src.pl rfl (bytes_len1 _)) rfl (by omega) (by omega)) ?_
    refine ao1 (by decide) (o_move (v := .int _ _) rfl) ?_
    refine ao1 (by decide) (o_conv_int (r := (m : Int)) rfl (u64_wrap _ (by omega))) ?_
    refine ao_ret (ref08_num m (by omega) _) rfl (by decide) ?_
    refine ao2 (by rintro _ ⟨⟩; decide) (g_appB (en := brow) (bs := bs ++ numB (n - last)) (cs := numB m) rfl rfl rfl (Src.pl rfl (bytes_len1 _)) rfl (by rw [List.length_append]; omega) (by rw [List.length_append]; omega)) ?_
    refine ao1 (by decide) (o_assign (v := .sl _ _ _ _ _) rfl) ?_
    refine ao_nil ?_
    try dsimp only [put, List.set_cons_zero]
    generalize bs ++ numB (n - last) ++ numB m = bs3 at hbs
    repeat (first | refine then_nrm ?_ | refine aw_seq ?_)
    refine aw_region ?_
    refine ao1 (by decide) (o_move (v := .int _ _) rfl) ?_
    refine ao1 (by decide) (o_move (v := .int _ _) rfl) ?_
    refine ao1 (by decide) (o_add (r := ((n + m : Nat) : Int)) rfl rfl (by rw [show (n : Int) + (m : Int) = ((n + m : Nat) : Int) by omega]; exact wrap64_ok (by omega) (by omega))) ?_
    refine ao1 (by decide) (o_assign (v := .int _ _) rfl) ?_
    refine ao_nil ?_
    have hm256 : many ≤ 256 := by rw [List.length_cons] at hmany; omega
    repeat (refine then_nrm ?_)
    refine aw_region ?_
    refine ao1 (by decide) (o_move (v := .int _ _) rfl) ?_
    refine ao1 (by decide) (o_add (r := ((many + 1 : Nat) : Int)) rfl rfl (by rw [show (many : Int) + 1 = ((many + 1 : Nat) : Int) by omega]; exact u64_wrap _ (by omega))) ?_
    refine ao1 (by decide) (o_assign (v := .int _ _) rfl) ?_
    refine ao_nil ?_
    repeat (first | refine then_nrm ?_ | refine blk_nrm ?_)
    refine aw_region ?_
    refine ao1 (by decide) (o_move (v := .int _ _) rfl) ?_
    refine ao1 (by decide) (o_add (r := ((n + 1 : Nat) : Int)) rfl rfl (wrap64_ok (by omega) (by omega))) ?_
    refine ao1 (by decide) (o_assign (v := .int _ _) rfl) ?_
    refine ao_nil ?_
    repeat (refine then_nrm ?_)
    refine ⟨(n + 1, many + 1, n + m, bs3, g + 1 + 1), by simp only; omega, ⟨by simp only; omega, hbs, by rw [List.length_cons] at hmany; show many + 1 + (rs f (n + 1)).length = _; omega, .inr fun x h1 h2 => ?_⟩, (by repeat (first | exact Sub.nil | refine Sub.cons (by rfl) ?_)), .inl rfl⟩
    simp only at h1 h2
    refine ⟨by omega, ?_⟩
    by_cases hx : x - 1 = n
    · rw [hx]; exact hfn
    · exact hin (x - 1) (by omega) (by omega)
  · have hne : n = 256 := by simp at hc; omega
    subst hne
    rw [rs_end (Nat.le_refl _)] at hbs hmany
    rw [runsB, List.append_nil] at hbs
    rw [List.length_nil, Nat.add_zero] at hmany
    subst hmany
    have hnn := numB_10 (n := (rs f 0).length) (by omega)
    have hfin : setB l = ([2] ++ numB (rs f 0).length) ++ bs := by rw [hspec, hbs]; rfl
    generalize (rs f 0).length = many at hnn hfin hrl
    repeat (first | refine then_nrm ?_ | refine then_brk ?_ | refine blk_hit ?_ | refine aw_seq ?_ | refine aw_exit ?_)
    refine aw_region ?_
    refine ao2 (by rintro _ ⟨⟩; decide) (o_buildSlice1L (sz := 1) (v := .int _ _) rfl (by decide) (by decide) rfl rfl rfl rfl rfl) ?_
    refine ao1 (by decide) (o_move (v := .int _ _) rfl) ?_
    refine ao_ret (ref08_num many (by omega) _) rfl (by decide) ?_
    refine ao2 (by rintro _ ⟨⟩; decide) (g_appB (en := brow) (bs := [2]) (cs := numB many) rfl rfl rfl (Src.pl rfl (bytes_len1 _)) rfl (by simp; omega) (by simp; omega)) ?_
    refine ao1 (by decide) (o_move (v := .sl _ _ _ _ _) rfl) ?_
    refine ao2 (by rintro _ ⟨⟩; decide) (g_appB (en := brow) (bs := [2] ++ numB many) (cs := bs) rfl rfl rfl (w_src1 (o := ⟨g, 1, bs.map brow⟩) rfl rfl rfl rfl rfl (List.length_map _)) rfl (by simp; omega) (by simp; omega)) ?_
    refine ao1 (by decide) (o_assign (v := .sl _ _ _ _ _) rfl) ?_
    refine ao1 (by decide) (o_assign (v := .int _ _) rfl) ?_
    refine ao_nil ?_
    try dsimp only [List.length_cons, List.length_nil, Nat.reduceAdd, List.cons_append, List.nil_append, put, AV.cells, List.set_cons_succ, List.set_cons_zero]
    have hfin' : setB l = 2 :: (numB many ++ bs) := hfin
    have hfl : (setB l).length = (numB many ++ bs).length + 1 := by rw [hfin']; rfl
    rw [← hfl, ← hfin']
    repeat (refine then_nrm ?_)
    refine aw_freezeL (ys := (setB l).map brow) 2 rfl rfl rfl rfl (by rw [List.drop_zero, List.take_of_length_le (by simp)]) (by simp) (bytes_bel0 0 _) ?_
    refine aw_ret ?_
    exact e_done hB (r_tmp rfl (r_tmp rfl .nil)) rfl rfl
end Go.Av

/-
  SPECS AS BYTES, plainly: put and read; what reading takes is told by its beginning.
-/
namespace Go.Av
abbrev Rd (α : Type) := List UInt8 → Except Int (α × List UInt8)
def pb {α β : Type} (f : Rd α) (g : α → Rd β) : Rd β := fun b => match f b with
  | .error e => .error e
  | .ok (v, r) => g v r
theorem pb_ok {α β : Type} {f : Rd α} {g : α → Rd β} {b : List UInt8} {v : α} {r : List UInt8} (h : f b = .ok (v, r)) : pb f g b = g v r := by unfold pb; rw [h]
theorem pb_err {α β : Type} {f : Rd α} {g : α → Rd β} {b : List UInt8} {e : Int} (h : f b = .error e) : pb f g b = .error e := by unfold pb; rw [h]
theorem pb_inv {α β : Type} {f : Rd α} {g : α → Rd β} {b : List UInt8} {w : β} {r : List UInt8} (h : pb f g b = .ok (w, r)) : ∃ v r1, f b = .ok (v, r1) ∧ g v r1 = .ok (w, r) := by
  unfold pb at h
  cases hf : f b with
  | error e => rw [hf] at h; cases h
  | ok x => obtain ⟨v, r1⟩ := x; rw [hf] at h; exact ⟨v, r1, rfl, h⟩
def failP {α : Type} (e : Int) : Rd α := fun _ => .error e
def needP {α : Type} (c : Bool) (v : α) : Rd α := fun b => if c then .ok (v, b) else .error 3
def gotf : Rd Nat := fun b => got 0 0 b
def nextP : Rd UInt8 | [] => .error 2 | c :: r => .ok (c, r)
def takeP (n : Nat) : Rd ByteArray := fun b => if b.length < n then .error 2 else .ok (⟨(b.take n).toArray⟩, b.drop n)
/-- What is read is told by its bytes alone; what is less is short. -/
def Pfx {α : Type} (f : Rd α) : Prop := ∀ b v r, f b = .ok (v, r) → ∃ x, b = x ++ r ∧ (∀ r', f (x ++ r') = .ok (v, r')) ∧ ∀ y z, x = y ++ z → z ≠ [] → f y = .error 2
theorem fail_pfx {α : Type} (e : Int) : Pfx (failP (α := α) e) := fun b v r h => by cases h
theorem need_pfx {α : Type} (c : Bool) (v : α) : Pfx (needP c v) := fun b w r h => by
  cases c with
  | false => cases h
  | true =>
    cases h
    exact ⟨[], rfl, fun _ => rfl, fun y z e hz => by
      have := congrArg List.length e
      rw [List.length_append] at this
      cases z with
      | nil => exact absurd rfl hz
      | cons _ _ => simp at this⟩
theorem next_pfx : Pfx nextP := fun b v r h => by
  cases b with
  | nil => cases h
  | cons c b =>
    cases h
    refine ⟨[v], rfl, fun _ => rfl, fun y z e hz => ?_⟩
    cases y with
    | nil => rfl
    | cons d y => simp at e; exact absurd e.2.2 hz
theorem take_pfx (n : Nat) : Pfx (takeP n) := fun b v r h => by
  unfold takeP at h
  split at h
  · cases h
  · cases h
    refine ⟨b.take n, (List.take_append_drop n b).symm, fun r' => ?_, fun y z e hz => ?_⟩
    · have hl : (b.take n).length = n := by rw [List.length_take]; omega
      unfold takeP
      rw [if_neg (by rw [List.length_append]; omega), List.take_left' hl, List.drop_left' hl]
    · have hl : (b.take n).length = n := by rw [List.length_take]; omega
      unfold takeP
      rw [if_pos]
      rw [e, List.length_append] at hl
      have : 0 < z.length := List.length_pos_iff.2 hz
      omega
theorem pb_pfx {α β : Type} {f : Rd α} {g : α → Rd β} (hf : Pfx f) (hg : ∀ v, Pfx (g v)) : Pfx (pb f g) := fun b w r h => by
  obtain ⟨v, r1, h1, h2⟩ := pb_inv h
  obtain ⟨x, rfl, k1, k2⟩ := hf _ _ _ h1
  obtain ⟨x2, rfl, m1, m2⟩ := hg v _ _ _ h2
  refine ⟨x ++ x2, (List.append_assoc _ _ _).symm, fun r' => ?_, fun y z e hz => ?_⟩
  · rw [List.append_assoc, pb_ok (k1 _)]; exact m1 r'
  · rcases List.append_eq_append_iff.1 e with ⟨a, e1, e2⟩ | ⟨a, e1, e2⟩
    · subst e1
      rw [pb_ok (k1 a)]
      exact m2 a z e2 hz
    · by_cases ha : a = []
      · subst ha
        rw [List.append_nil] at e1
        subst e1
        have := k1 []
        rw [List.append_nil] at this
        rw [pb_ok this]
        rw [List.nil_append] at e2
        exact m2 [] z (by rw [e2]; rfl) hz
      · exact pb_err (k2 y a e1 ha)
theorem got_pfx' : ∀ (b : List UInt8) {i n m : Nat} {r : List UInt8}, got i n b = .ok (m, r) → ∃ x, b = x ++ r ∧ (∀ r', got i n (x ++ r') = .ok (m, r')) ∧ ∀ y z, x = y ++ z → z ≠ [] → got i n y = .error 2
  | [], _, _, _, _, h => by cases h
  | c :: b, i, n, m, r, h => by
    unfold got at h
    split at h
    · cases h
    rename_i h1
    split at h
    · rename_i h2
      split at h
      · cases h
      · rename_i h3
        cases h
        refine ⟨[c], rfl, fun r' => ?_, fun y z e hz => ?_⟩
        · show got i n (c :: r') = _
          rw [got, if_neg h1, if_pos h2, if_neg h3]
        · cases y with
          | nil => rfl
          | cons d y => simp at e; exact absurd e.2.2 hz
    · rename_i h2
      obtain ⟨x, rfl, k1, k2⟩ := got_pfx' b h
      refine ⟨c :: x, rfl, fun r' => ?_, fun y z e hz => ?_⟩
      · show got i n (c :: (x ++ r')) = _
        rw [got, if_neg h1, if_neg h2]; exact k1 r'
      · cases y with
        | nil => rfl
        | cons d y =>
          rw [List.cons_append, List.cons.injEq] at e
          obtain ⟨rfl, e⟩ := e
          rw [got, if_neg h1, if_neg h2]
          exact k2 y z e hz
theorem got_pfx : Pfx gotf := fun b _ _ h => got_pfx' b h
theorem ite_pfx {α : Type} {c : Prop} [Decidable c] {f g : Rd α} (hf : Pfx f) (hg : Pfx g) : Pfx (if c then f else g) := by split <;> assumption
/-! ### specs -/
def zig (p : Int) : Nat := if p < 0 then (0 - 2 * p - 1).toNat else (2 * p).toNat
def zag (n : Nat) : Int := if n % 2 = 1 then -1 - ((n / 2 : Nat) : Int) else ((n / 2 : Nat) : Int)
theorem zag_zig (p : Int) : zag (zig p) = p := by unfold zag zig; split <;> split <;> omega
theorem zig_zag (n : Nat) : zig (zag n) = n := by unfold zag zig; split <;> split <;> omega
def wb (w : Bool) : UInt8 := if w then 1 else 0
def specB (s : Spec) : List UInt8 := 1 :: (numB s.nodes.toNat ++ (numB s.cores.toNat ++ (numB s.gpus.toNat ++ (numB s.tag.size ++ (s.tag.data.toList ++ (wb s.whole :: (numB s.long.toNat ++ numB (zig s.prio))))))))
def putSpec (s : Spec) : List UInt8 × Int := if sright s = false then ([], 1) else (specB s, 0)
def textS : Rd ByteArray := pb gotf fun n => if 16 < n then failP 3 else takeP n
def rsp6 (n c g : Nat) (t : ByteArray) (w : Bool) : Rd Spec := pb gotf fun l => pb gotf fun p => needP (sright ⟨n, c, g, t, w, l, zag p⟩) ⟨n, c, g, t, w, l, zag p⟩
def rsp5 (n c g : Nat) (t : ByteArray) : Rd Spec := pb nextP fun k => if 1 < k.toNat then failP 3 else rsp6 n c g t (k.toNat == 1)
def rsp1 : Rd Spec := pb gotf fun n => pb gotf fun c => pb gotf fun g => pb textS fun t => rsp5 n c g t
def rspec : Rd Spec := pb nextP fun c => if c ≠ 1 then failP 3 else rsp1
theorem text_pfx : Pfx textS := pb_pfx got_pfx fun _ => ite_pfx (fail_pfx _) (take_pfx _)
theorem rspec_pfx : Pfx rspec := pb_pfx next_pfx fun _ => ite_pfx (fail_pfx _) (pb_pfx got_pfx fun _ => pb_pfx got_pfx fun _ => pb_pfx got_pfx fun _ => pb_pfx text_pfx fun _ => pb_pfx next_pfx fun _ => ite_pfx (fail_pfx _) (pb_pfx got_pfx fun _ => pb_pfx got_pfx fun _ => need_pfx _ _))
def readSpec (b : List UInt8) : Spec × Int :=
  if 65536 < b.length then (spec0, 4)
  else match rspec b with
    | .error e => (spec0, e)
    | .ok (s, r) => if r = [] then (s, 0) else (spec0, 3)
theorem gotf_num {n : Nat} (h : n ≤ 4611686018427387904) (r : List UInt8) : gotf (numB n ++ r) = .ok (n, r) := got_num0 h r
theorem ba_list (t : ByteArray) : (⟨t.data.toList.toArray⟩ : ByteArray) = t := by cases t; simp
theorem rspec_put {s : Spec} (hs : sright s = true) (r : List UInt8) : rspec (specB s ++ r) = .ok (s, r) := by
  have hf := sright_facts hs
  have htag : s.tag.size ≤ 16 := by
    have := hs
    simp only [sright, tagok, Bool.and_eq_true, decide_eq_true_eq] at this
    omega
  have hz : zig s.prio ≤ 4611686018427387904 := by
    have := hs
    simp only [sright, Bool.and_eq_true, decide_eq_true_eq] at this
    unfold zig; split <;> omega
  have hl : s.long.toNat ≤ 4611686018427387904 := by omega
  show rspec (1 :: (numB s.nodes.toNat ++ (numB s.cores.toNat ++ (numB s.gpus.toNat ++ (numB s.tag.size ++ (s.tag.data.toList ++ (wb s.whole :: (numB s.long.toNat ++ numB (zig s.prio)))))))) ++ r) = _
  simp only [List.cons_append, List.append_assoc]
  rw [rspec, pb_ok (v := 1) rfl, if_neg (by simp), rsp1, pb_ok (gotf_num (by omega) _), pb_ok (gotf_num (by omega) _), pb_ok (gotf_num (by omega) _)]
  have hlen : s.tag.data.toList.length = s.tag.size := str_len _
  rw [pb_ok (v := s.tag) (r := wb s.whole :: (numB s.long.toNat ++ (numB (zig s.prio) ++ r))) (by
    rw [textS, pb_ok (gotf_num (by omega) _), if_neg (by omega), takeP, if_neg (by rw [List.length_append]; omega), List.take_left' hlen, List.drop_left' hlen, ba_list])]
  rw [rsp5, pb_ok (v := wb s.whole) (r := numB s.long.toNat ++ (numB (zig s.prio) ++ r)) rfl, if_neg (by unfold wb; split <;> decide), rsp6, pb_ok (gotf_num hl _), pb_ok (gotf_num hz _), zag_zig]
  have e : (⟨(s.nodes.toNat : Int), (s.cores.toNat : Int), (s.gpus.toNat : Int), s.tag, (wb s.whole).toNat == 1, (s.long.toNat : Int), s.prio⟩ : Spec) = s := by
    have hw : ((wb s.whole).toNat == 1) = s.whole := by cases s.whole <;> rfl
    rw [hw]
    cases s
    simp only [Spec.mk.injEq]
    simp only at hf
    refine ⟨by omega, by omega, by omega, trivial, trivial, by omega, trivial⟩
  rw [e, needP, if_pos hs]
theorem gotf_inv {b r : List UInt8} {n : Nat} (h : gotf b = .ok (n, r)) : b = numB n ++ r := num_got0 h
theorem rspec_inv {b r : List UInt8} {s : Spec} (h : rspec b = .ok (s, r)) : sright s = true ∧ b = specB s ++ r := by
  obtain ⟨c, b0, h1, h⟩ := pb_inv h
  split at h
  · cases h
  rename_i hc
  obtain ⟨n, b1, h2, h⟩ := pb_inv h
  obtain ⟨k, b2, h3, h⟩ := pb_inv h
  obtain ⟨g, b3, h4, h⟩ := pb_inv h
  obtain ⟨t, b4, h5, h⟩ := pb_inv h
  obtain ⟨w, b5, h6, h⟩ := pb_inv h
  split at h
  · cases h
  rename_i hw
  obtain ⟨l, b6, h7, h⟩ := pb_inv h
  obtain ⟨p, b7, h8, h⟩ := pb_inv h
  unfold needP at h
  split at h
  · rename_i hs
    cases h
    refine ⟨hs, ?_⟩
    have e1 : b = 1 :: b0 := by
      cases b with
      | nil => cases h1
      | cons d b => cases h1; congr 1; simpa using hc
    have e6 : b4 = wb (w.toNat == 1) :: b5 := by
      cases b4 with
      | nil => cases h6
      | cons d b4 =>
        cases h6
        congr 1
        apply UInt8.toNat_inj.1
        have : w.toNat = 0 ∨ w.toNat = 1 := by omega
        rcases this with e | e <;> rw [e] <;> rfl
    obtain ⟨m, b3', h9, h5⟩ := pb_inv h5
    split at h5
    · cases h5
    unfold takeP at h5
    split at h5
    · cases h5
    rename_i hm1 hm2
    cases h5
    have hsz : (⟨(b3'.take m).toArray⟩ : ByteArray).size = m := by
      show (b3'.take m).toArray.size = m
      rw [List.size_toArray, List.length_take]; omega
    rw [e1, gotf_inv h2, gotf_inv h3, gotf_inv h4, gotf_inv h9]
    show _ = 1 :: (numB _ ++ (numB _ ++ (numB _ ++ (numB (ByteArray.size _) ++ (_ ++ (wb _ :: (numB _ ++ numB _))))))) ++ r
    simp only [List.cons_append, List.append_assoc]
    rw [hsz, zig_zag, Int.toNat_natCast, Int.toNat_natCast, Int.toNat_natCast, Int.toNat_natCast]
    have e4 : b3' = b3'.take m ++ (wb (w.toNat == 1) :: b5) := by rw [← e6, List.take_append_drop]
    rw [gotf_inv h7, gotf_inv h8] at e4
    congr 5
  · cases h
end Go.Av

