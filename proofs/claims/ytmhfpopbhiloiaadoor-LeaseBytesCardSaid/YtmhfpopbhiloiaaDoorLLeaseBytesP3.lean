/- Parts of the proof: rules for an abstract memory, plain laws, and walks through the program. -/
import Derived.Test.YtmhfpopbhiloiaaDoorLLeaseBytesP2
namespace Go.Av
open Go.Proofs
set_option maxRecDepth 10000
set_option linter.unusedSimpArgs false
set_option linter.unusedVariables false

/-- The place of an array's cell, by a number. -/
theorem w_indexArrN {P : Program} {N : Nat} {env : Env} {H : Heap} {ty : TypeId} {t e : TypeId} {x y : Operand} {id g i j m n : Nat} {k : IntKind} {sz : Nat} {agg : Bool} {o : AObj} [ArI P t m e] [TyI P e agg sz] (hx : aev env x = .pt id g i j) (hid : H[id]? = some o) (hg : o.gen = g)
    (hy : aev env y = .int k (n : Int)) (h1 : n < m) : V1 P N (.indexAddr t x y) ty env H (.pt id g i (j + n * sz)) := w_indexArr (agg := agg) (e := e) hx hid hg hy (by omega) (by omega)

theorem p64 {k : Nat} (h : k < 64) : 2 ^ k < 18446744073709551616 := Nat.pow_lt_pow_right (a := 2) (n := 64) (by decide) h
def KD : Know := ⟨0, Lib.deBruijn64tab.map fun n : Nat => Value.int .u8 (n : Int)⟩
theorem KD_at {q k : Nat} (hi : q < 64) (h : Lib.deBruijn64tab.getD q 0 = k) : KD.tab[q]? = some (.int .u8 (k : Int)) := by
  have hlen : Lib.deBruijn64tab.length = 64 := rfl
  unfold KD
  dsimp only
  generalize Lib.deBruijn64tab = l at h hlen
  rw [List.getElem?_map]
  cases hq : l[q]? with
  | none => rw [List.getElem?_eq_none_iff] at hq; omega
  | some v =>
    rw [List.getD_eq_getElem?_getD, hq] at h
    subst h
    rfl
theorem bits_TZ (x : Nat) (hx : x < 18446744073709551616) (H : Heap) : ACT Tryd.prog KD 72 [.int .u64 (x : Int)] H (Ret (.int .i64 ((Lib.ctz 64 x : Nat) : Int)) H) := by
  refine ACT.body (N := 14) [.tmp 2] Tryd.func72 rfl rfl rfl (Nat.le_of_ble_eq_true rfl) fun B hB => ?_
  repeat (first | refine join_ret ?_ | refine join_brk ?_ | refine then_nrm ?_ | refine blk_nrm ?_ | refine then_brk ?_ | refine blk_hit ?_ | refine blk_miss rfl ?_ | refine then_ret ?_ | refine blk_ret ?_ | refine aw_seq ?_ | refine aw_block ?_ | refine aw_skip ?_ | refine aw_exit ?_ | refine aw_scope ?_ | refine aw_ret ?_)
  refine aw_region ?_
  refine ao1 (by decide) (o_assign (v := .int _ _) rfl) ?_
  refine ao_nil ?_
  try dsimp only [List.set_cons_zero, List.set_cons_succ, List.cons_append, List.nil_append, List.take_succ_cons, List.take_zero, List.drop_succ_cons, List.drop_zero, AV.cells, List.length_nil, List.length_cons, Av.put, Nat.reduceAdd, AV.up, AV.up1, List.map_cons, List.map_nil]
  repeat (first | refine join_ret ?_ | refine join_brk ?_ | refine then_nrm ?_ | refine blk_nrm ?_ | refine then_brk ?_ | refine blk_hit ?_ | refine blk_miss rfl ?_ | refine then_ret ?_ | refine blk_ret ?_ | refine aw_seq ?_ | refine aw_block ?_ | refine aw_skip ?_ | refine aw_exit ?_ | refine aw_scope ?_ | refine aw_ret ?_)
  refine aw_region ?_
  refine ao1 (by decide) (o_move (v := .int _ _) rfl) ?_
  refine ao1 (by decide) (o_eq rfl rfl) ?_
  refine ao_nil ?_
  try dsimp only [List.set_cons_zero, List.set_cons_succ, List.cons_append, List.nil_append, List.take_succ_cons, List.take_zero, List.drop_succ_cons, List.drop_zero, AV.cells, List.length_nil, List.length_cons, Av.put, Nat.reduceAdd, AV.up, AV.up1, List.map_cons, List.map_nil]
  repeat (first | refine join_ret ?_ | refine join_brk ?_ | refine then_nrm ?_ | refine blk_nrm ?_ | refine then_brk ?_ | refine blk_hit ?_ | refine blk_miss rfl ?_ | refine then_ret ?_ | refine blk_ret ?_ | refine aw_seq ?_ | refine aw_block ?_ | refine aw_skip ?_ | refine aw_exit ?_ | refine aw_scope ?_ | refine aw_ret ?_)
  refine aw_cond rfl (fun hc => ?_) (fun hc => ?_)
  · repeat (first | refine join_ret ?_ | refine join_brk ?_ | refine then_nrm ?_ | refine blk_nrm ?_ | refine then_brk ?_ | refine blk_hit ?_ | refine blk_miss rfl ?_ | refine then_ret ?_ | refine blk_ret ?_ | refine aw_seq ?_ | refine aw_block ?_ | refine aw_skip ?_ | refine aw_exit ?_ | refine aw_scope ?_ | refine aw_ret ?_)
    refine aw_region ?_
    refine ao1 (by decide) (o_assign (v := .int _ _) rfl) ?_
    refine ao_nil ?_
    try dsimp only [List.set_cons_zero, List.set_cons_succ, List.cons_append, List.nil_append, List.take_succ_cons, List.take_zero, List.drop_succ_cons, List.drop_zero, AV.cells, List.length_nil, List.length_cons, Av.put, Nat.reduceAdd, AV.up, AV.up1, List.map_cons, List.map_nil]
    repeat (first | refine join_ret ?_ | refine join_brk ?_ | refine then_nrm ?_ | refine blk_nrm ?_ | refine then_brk ?_ | refine blk_hit ?_ | refine blk_miss rfl ?_ | refine then_ret ?_ | refine blk_ret ?_ | refine aw_seq ?_ | refine aw_block ?_ | refine aw_skip ?_ | refine aw_exit ?_ | refine aw_scope ?_ | refine aw_ret ?_)
    rw [show Lib.ctz 64 x = 64 by simp at hc; simp [Lib.ctz, hc]]
    exact e_done hB (r_tmp rfl .nil) rfl rfl
  · have hx0 : x ≠ 0 := by simp at hc; omega
    obtain ⟨hlow, hk⟩ := Lib.lowest_bit 64 x hx0 hx
    generalize Lib.ctz 64 x = k at hlow hk
    obtain ⟨hi, htab⟩ := Lib.deBruijn64_at k hk
    have hlt : 2 ^ k < 18446744073709551616 := p64 hk
    generalize hm : 2 ^ k = m at hlow hi htab hlt
    generalize hq : m * 285870213051353865 % 18446744073709551616 / 288230376151711744 = q at hi htab
    have hu := KD_at hi htab
    repeat (first | refine join_ret ?_ | refine join_brk ?_ | refine then_nrm ?_ | refine blk_nrm ?_ | refine then_brk ?_ | refine blk_hit ?_ | refine blk_miss rfl ?_ | refine then_ret ?_ | refine blk_ret ?_ | refine aw_seq ?_ | refine aw_block ?_ | refine aw_skip ?_ | refine aw_exit ?_ | refine aw_scope ?_ | refine aw_ret ?_)
    refine aw_region ?_
    refine ao1 (by decide) (o_move (v := .int _ _) rfl) ?_
    refine ao1 (by decide) (o_move (v := .int _ _) rfl) ?_
    refine ao1 (by decide) (o_neg (r := ((18446744073709551616 - x : Nat) : Int)) rfl (by rw [IntKind.wrap_u64]; omega)) ?_
    refine ao1 (by decide) (o_and (r := (m : Int)) rfl rfl (by rw [u64_and x _ hx (by omega)]; rw [show (18446744073709551616 : Nat) = 2 ^ 64 from rfl, hlow])) ?_
    refine ao1 (by decide) (o_mul (r := ((m * 285870213051353865 % 18446744073709551616 : Nat) : Int)) rfl rfl (by rw [IntKind.wrap_u64]; omega)) ?_
    refine ao1 (by decide) (o_shr (r := (q : Int)) rfl rfl (by omega) (by rw [← hq, show ((2 : Int) ^ min (58 : Int).toNat IntKind.u64.bits) = ((288230376151711744 : Nat) : Int) from rfl, Int.fdiv_eq_ediv_of_nonneg _ (by omega)]; exact (Int.natCast_ediv _ _).symm)) ?_
    refine ao1 (by decide) (o_indexGlob (n := q) rfl rfl (by omega)) ?_
    refine ao1 (by decide) (o_loadGlob (K := KD) (v := .int .u8 (k : Int)) rfl rfl rfl (by rw [Nat.mul_one]; exact hu) (fun _ _ _ => .int)) ?_
    refine ao1 (by decide) (o_conv_int (r := (k : Int)) rfl (wrap64_ok (by omega) (by omega))) ?_
    refine ao1 (by decide) (o_assign (v := .int _ _) rfl) ?_
    refine ao_nil ?_
    try dsimp only [List.set_cons_zero, List.set_cons_succ, List.cons_append, List.nil_append, List.take_succ_cons, List.take_zero, List.drop_succ_cons, List.drop_zero, AV.cells, List.length_nil, List.length_cons, Av.put, Nat.reduceAdd, AV.up, AV.up1, List.map_cons, List.map_nil]
    repeat (first | refine join_ret ?_ | refine join_brk ?_ | refine then_nrm ?_ | refine blk_nrm ?_ | refine then_brk ?_ | refine blk_hit ?_ | refine blk_miss rfl ?_ | refine then_ret ?_ | refine blk_ret ?_ | refine aw_seq ?_ | refine aw_block ?_ | refine aw_skip ?_ | refine aw_exit ?_ | refine aw_scope ?_ | refine aw_ret ?_)
    exact e_done hB (r_tmp rfl .nil) rfl rfl

abbrev eInt (i : Int) : List AV := [.int .i64 i]
theorem ints_bel (n : Nat) (l : List Int) : ∀ r ∈ l.map eInt, AV.bels n r = true := rows_bel (e := eInt) (fun _ => rfl) l
theorem ints_len (l : List Int) : ∀ r ∈ l.map eInt, r.length = 1 := rows_len (e := eInt) (n := 1) (fun _ => rfl) l
theorem eWn_bels (n : Nat) (w : Nat → Nat) : AV.bels n (eWn w) = true := by rw [AV.bels_iff]; intro v hv; simp only [eWn, List.mem_map] at hv; obtain ⟨i, _, rfl⟩ := hv; rfl
theorem eWn_len (w : Nat → Nat) : (eWn w).length = 4 := by simp [eWn]
theorem eW0 (l : List Int) : eWn (wd (fpre l 0)) = [.int .u64 0, .int .u64 0, .int .u64 0, .int .u64 0] := by
  rw [fpre_zero]; simp [eWn, wd_zero, List.range_succ]
def pof (l : List Int) : Nat → Nat := wd (fpre l (okn l))
theorem set_of (l : List Int) (hl : l.length ≤ 1000000) (H : Heap) : AC Tryd.prog 57 [.pl (l.map eInt)] H (Ret (.tup [.agg (eWn (pof l)), .bool (sok l)]) H) := by
  refine AC.body (N := 34) [.cell 2 74, .tmp 3] Tryd.func57 rfl rfl rfl (Nat.le_of_ble_eq_true rfl) fun B hB => ?_
  repeat (first | refine join_ret ?_ | refine join_brk ?_ | refine then_nrm ?_ | refine blk_nrm ?_ | refine then_brk ?_ | refine blk_hit ?_ | refine blk_miss rfl ?_ | refine then_ret ?_ | refine blk_ret ?_ | refine aw_seq ?_ | refine aw_block ?_ | refine aw_skip ?_ | refine aw_exit ?_ | refine aw_scope ?_ | refine aw_ret ?_)
  refine aw_region ?_
  refine ao2 (by rintro _ ⟨⟩; decide) (o_allocL (sz := 4) rfl (by decide) rfl) ?_
  refine ao1 (by decide) (o_assign (v := .bool _) rfl) ?_
  refine ao_nil ?_
  try dsimp only [List.set_cons_zero, List.set_cons_succ, List.cons_append, List.nil_append, List.take_succ_cons, List.take_zero, List.drop_succ_cons, List.drop_zero, AV.cells, List.length_nil, List.length_cons, Av.put, Nat.reduceAdd, AV.up, AV.up1, List.map_cons, List.map_nil]
  repeat (first | refine join_ret ?_ | refine join_brk ?_ | refine then_nrm ?_ | refine blk_nrm ?_ | refine then_brk ?_ | refine blk_hit ?_ | refine blk_miss rfl ?_ | refine then_ret ?_ | refine blk_ret ?_ | refine aw_seq ?_ | refine aw_block ?_ | refine aw_skip ?_ | refine aw_exit ?_ | refine aw_scope ?_ | refine aw_ret ?_)
  refine aw_region ?_
  refine ao2 (by rintro _ ⟨⟩; decide) (o_allocL (sz := 4) rfl (by decide) rfl) ?_
  refine ao_nil ?_
  try dsimp only [List.set_cons_zero, List.set_cons_succ, List.cons_append, List.nil_append, List.take_succ_cons, List.take_zero, List.drop_succ_cons, List.drop_zero, AV.cells, List.length_nil, List.length_cons, Av.put, Nat.reduceAdd, AV.up, AV.up1, List.map_cons, List.map_nil]
  repeat (first | refine join_ret ?_ | refine join_brk ?_ | refine then_nrm ?_ | refine blk_nrm ?_ | refine then_brk ?_ | refine blk_hit ?_ | refine blk_miss rfl ?_ | refine then_ret ?_ | refine blk_ret ?_ | refine aw_seq ?_ | refine aw_block ?_ | refine aw_skip ?_ | refine aw_exit ?_ | refine aw_scope ?_ | refine aw_ret ?_)
  refine aw_region ?_
  refine ao1 (by decide) (o_assign (v := .int _ _) rfl) ?_
  refine ao_nil ?_
  try dsimp only [List.set_cons_zero, List.set_cons_succ, List.cons_append, List.nil_append, List.take_succ_cons, List.take_zero, List.drop_succ_cons, List.drop_zero, AV.cells, List.length_nil, List.length_cons, Av.put, Nat.reduceAdd, AV.up, AV.up1, List.map_cons, List.map_nil]
  repeat (first | refine join_ret ?_ | refine join_brk ?_ | refine then_nrm ?_ | refine blk_nrm ?_ | refine then_brk ?_ | refine blk_hit ?_ | refine blk_miss rfl ?_ | refine then_ret ?_ | refine blk_ret ?_ | refine aw_seq ?_ | refine aw_block ?_ | refine aw_skip ?_ | refine aw_exit ?_ | refine aw_scope ?_ | refine aw_ret ?_)
  refine aw_region ?_
  first | refine ao1 (by decide) (o_move (v := .sl _ _ _ _ _) rfl) ?_ | refine ao1 (by decide) (o_move (v := .pl _) rfl) ?_ | refine ao1 (by decide) (o_move (v := .nsl) rfl) ?_
  first | refine ao1 (by decide) (o_lenp rfl) ?_ | refine ao1 (by decide) (w_lens rfl (lk rfl rfl) rfl) ?_ | refine ao1 (by decide) (o_lenn rfl) ?_ | refine ao1 (by decide) (o_lenStr rfl) ?_ | refine ao1 (by decide) (w_lens rfl (lkF hF) rfl) ?_
  refine ao1 (by decide) (o_move (v := .int _ _) rfl) ?_
  refine ao_nil ?_
  try dsimp only [List.set_cons_zero, List.set_cons_succ, List.cons_append, List.nil_append, List.take_succ_cons, List.take_zero, List.drop_succ_cons, List.drop_zero, AV.cells, List.length_nil, List.length_cons, Av.put, Nat.reduceAdd, AV.up, AV.up1, List.map_cons, List.map_nil]
  repeat (first | refine join_ret ?_ | refine join_brk ?_ | refine then_nrm ?_ | refine blk_nrm ?_ | refine then_brk ?_ | refine blk_hit ?_ | refine blk_miss rfl ?_ | refine then_ret ?_ | refine blk_ret ?_ | refine aw_seq ?_ | refine aw_block ?_ | refine aw_skip ?_ | refine aw_exit ?_ | refine aw_scope ?_)
  refine aw_loop (G := Nat) (fun k => k ≤ l.length ∧ ∀ i, i < k → okB l i = true) (fun k => [(2, .pt (Lid H.length 0) 0 0 0), (4, .pt (Lid H.length 1) 0 0 0), (5, .int .i64 (lastN l k)), (8, .pl (l.map eInt)), (9, .int .i64 (l.length : Int)), (10, .int .i64 (k : Int))]) (fun k => H ++ [⟨0, 4, [[.int .u64 0, .int .u64 0, .int .u64 0, .int .u64 0]]⟩, ⟨0, 4, [eWn (wd (fpre l k))]⟩]) (fun k => l.length - k) 0 ⟨Nat.zero_le _, fun i hi => by omega⟩ (by repeat (first | exact Sub.nil | refine Sub.cons (by first | rfl | (simp [get]; done)) ?_)) (.inl (by rw [eW0])) ?_
  rintro k ⟨hk, hno⟩
  repeat (first | refine join_ret ?_ | refine join_brk ?_ | refine then_nrm ?_ | refine blk_nrm ?_ | refine then_brk ?_ | refine blk_hit ?_ | refine blk_miss rfl ?_ | refine then_ret ?_ | refine blk_ret ?_ | refine aw_seq ?_ | refine aw_block ?_ | refine aw_skip ?_ | refine aw_exit ?_ | refine aw_scope ?_ | refine aw_ret ?_)
  refine aw_region ?_
  refine ao1 (by decide) (o_lt rfl rfl) ?_
  refine ao_nil ?_
  try dsimp only [List.set_cons_zero, List.set_cons_succ, List.cons_append, List.nil_append, List.take_succ_cons, List.take_zero, List.drop_succ_cons, List.drop_zero, AV.cells, List.length_nil, List.length_cons, Av.put, Nat.reduceAdd, AV.up, AV.up1, List.map_cons, List.map_nil]
  repeat (first | refine join_ret ?_ | refine join_brk ?_ | refine then_nrm ?_ | refine blk_nrm ?_ | refine then_brk ?_ | refine blk_hit ?_ | refine blk_miss rfl ?_ | refine then_ret ?_ | refine blk_ret ?_ | refine aw_seq ?_ | refine aw_block ?_ | refine aw_skip ?_ | refine aw_exit ?_ | refine aw_scope ?_ | refine aw_ret ?_)
  refine aw_cond rfl (fun hc => ?_) (fun hc => ?_)
  · have hlt : k < l.length := by simpa using hc
    obtain ⟨x, hx, hxl⟩ := get_in hlt
    have hr := map_get eInt hx
    have hok := okB_last hx hno
    repeat (first | refine join_ret ?_ | refine join_brk ?_ | refine then_nrm ?_ | refine blk_nrm ?_ | refine then_brk ?_ | refine blk_hit ?_ | refine blk_miss rfl ?_ | refine then_ret ?_ | refine blk_ret ?_ | refine aw_seq ?_ | refine aw_block ?_ | refine aw_skip ?_ | refine aw_exit ?_ | refine aw_scope ?_ | refine aw_ret ?_)
    refine aw_region ?_
    first | refine ao1 (by decide) (w_indexAddrpN rfl rfl hr rfl) ?_ | refine ao1 (by decide) (w_indexAddrpN rfl rfl hr1 rfl) ?_ | refine ao1 (by decide) (w_indexAddrpN rfl rfl hr2 rfl) ?_ | refine ao1 (by decide) (w_indexAddrN rfl (lk rfl rfl) rfl rfl rfl (by omega)) ?_ | refine ao1 (by decide) (w_indexAddrp rfl rfl (by omega) hr rfl) ?_ | refine ao1 (by decide) (w_indexAddrp rfl rfl (by omega) hr1 rfl) ?_ | refine ao1 (by decide) (w_indexAddrp rfl rfl (by omega) hr2 rfl) ?_ | refine ao1 (by decide) (w_indexAddr rfl (lk rfl rfl) rfl rfl rfl (by omega) (by omega)) ?_
    first | refine ao1 (by decide) (w_load1 (v := .int _ _) rfl (lk rfl rfl) rfl rfl rfl) ?_ | refine ao1 (by decide) (w_load1 (v := .int _ _) rfl (lk rfl rfl) rfl (zadd hr) rfl) ?_ | refine ao1 (by decide) (w_load1 (v := .int _ _) rfl (lk rfl rfl) rfl (zadd hr1) rfl) ?_ | refine ao1 (by decide) (w_load1 (v := .int _ _) rfl (lk rfl rfl) rfl (zadd hr2) rfl) ?_ | refine ao1 (by decide) (o_load1p (v := .int _ _) rfl hr rfl) ?_ | refine ao1 (by decide) (o_load1p (v := .int _ _) rfl hr1 rfl) ?_ | refine ao1 (by decide) (o_load1p (v := .int _ _) rfl hr2 rfl) ?_ | refine ao1 (by decide) (w_load1 (v := .int _ _) rfl (lkF hF) rfl rfl rfl) ?_
    refine ao1 (by decide) (o_assign (v := .int _ _) rfl) ?_
    refine ao_nil ?_
    try dsimp only [List.set_cons_zero, List.set_cons_succ, List.cons_append, List.nil_append, List.take_succ_cons, List.take_zero, List.drop_succ_cons, List.drop_zero, AV.cells, List.length_nil, List.length_cons, Av.put, Nat.reduceAdd, AV.up, AV.up1, List.map_cons, List.map_nil]
    repeat (first | refine join_ret ?_ | refine join_brk ?_ | refine then_nrm ?_ | refine blk_nrm ?_ | refine then_brk ?_ | refine blk_hit ?_ | refine blk_miss rfl ?_ | refine then_ret ?_ | refine blk_ret ?_ | refine aw_seq ?_ | refine aw_block ?_ | refine aw_skip ?_ | refine aw_exit ?_ | refine aw_scope ?_ | refine aw_ret ?_)
    refine aw_out 20 (.bool (!okB l k)) ?_ ?_
    · refine ao1 (by decide) (o_move (v := .int _ _) rfl) ?_
      refine ao1 (by decide) (o_move (v := .int _ _) rfl) ?_
      refine ao1 (by decide) (o_le rfl rfl) ?_
      refine ao1 (by decide) (o_move (v := .bool _) rfl) ?_
      refine ao_split rfl rfl (fun hg3 => ?_) (fun hg3 => ?_)
      · refine ao_nF rfl rfl (by decide) ?_
        refine ao_nF rfl rfl (by decide) ?_
        first | refine ao1 (by decide) (o_pick_t (v := .bool _) rfl rfl) ?_ | refine ao1 (by decide) (o_pick_f (v := .bool _) rfl rfl) ?_ | refine ao1 (by decide) (o_pick_b rfl rfl rfl) ?_
        exact ao_nil (Out.mk (by first | rfl | (refine congrArg AV.bool ?_; (rw [hok] at *; simp only [Bool.not_not] at *; first | (simp_all; done) | (simp_all; omega) | grind))) (by repeat (first | exact SubX.refl _ _ | refine SubX.at ?_ | refine SubX.put rfl ?_ | refine SubX.put_same rfl ?_)))
      · refine ao_y1 rfl rfl (by decide) (o_move (v := .int _ _) rfl) ?_
        refine ao_y1 rfl rfl (by decide) (o_ge rfl rfl) ?_
        first | refine ao1 (by decide) (o_pick_t (v := .bool _) rfl rfl) ?_ | refine ao1 (by decide) (o_pick_f (v := .bool _) rfl rfl) ?_ | refine ao1 (by decide) (o_pick_b rfl rfl rfl) ?_
        exact ao_nil (Out.mk (by first | rfl | (refine congrArg AV.bool ?_; (rw [hok] at *; simp only [Bool.not_not] at *; first | (simp_all; done) | (simp_all; omega) | grind))) (by repeat (first | exact SubX.refl _ _ | refine SubX.at ?_ | refine SubX.put rfl ?_ | refine SubX.put_same rfl ?_)))
    repeat (first | refine join_ret ?_ | refine join_brk ?_ | refine then_nrm ?_ | refine blk_nrm ?_ | refine then_brk ?_ | refine blk_hit ?_ | refine blk_miss rfl ?_ | refine then_ret ?_ | refine blk_ret ?_ | refine aw_seq ?_ | refine aw_block ?_ | refine aw_skip ?_ | refine aw_exit ?_ | refine aw_scope ?_ | refine aw_ret ?_)
    refine aw_cond rfl (fun hc => ?_) (fun hc => ?_)
    · repeat (first | refine join_ret ?_ | refine join_brk ?_ | refine then_nrm ?_ | refine blk_nrm ?_ | refine then_brk ?_ | refine blk_hit ?_ | refine blk_miss rfl ?_ | refine then_ret ?_ | refine blk_ret ?_ | refine aw_seq ?_ | refine aw_block ?_ | refine aw_skip ?_ | refine aw_exit ?_ | refine aw_scope ?_ | refine aw_ret ?_)
      refine aw_region ?_
      first | refine ao1 (by decide) (w_loadR rfl (lk rfl rfl) rfl rfl rfl) ?_ | refine ao1 (by decide) (w_loadR rfl (lk rfl rfl) rfl (zadd hr) rfl) ?_ | refine ao1 (by decide) (w_loadR rfl (lk rfl rfl) rfl (zadd hr1) rfl) ?_ | refine ao1 (by decide) (w_loadR rfl (lk rfl rfl) rfl (zadd hr2) rfl) ?_ | refine ao1 (by decide) (w_loadRp rfl hr rfl) ?_ | refine ao1 (by decide) (w_loadRp rfl hr1 rfl) ?_ | refine ao1 (by decide) (w_loadRp rfl hr2 rfl) ?_ | refine ao1 (by decide) (w_loadN (cs := [_, _, _, _]) rfl (lk rfl rfl) rfl rfl rfl rfl) ?_ | refine ao1 (by decide) (o_loadNp (cs := [_, _, _, _]) rfl hr rfl rfl) ?_ | refine ao1 (by decide) (o_loadNp (cs := [_, _, _, _]) rfl hr1 rfl rfl) ?_ | refine ao1 (by decide) (o_loadNp (cs := [_, _, _, _]) rfl hr2 rfl rfl) ?_ | refine ao1 (by decide) (w_loadR rfl (lkF hF) rfl rfl rfl) ?_ | refine ao1 (by decide) (w_loadN (cs := [_, _, _, _]) rfl (lkF hF) rfl rfl rfl rfl) ?_
      refine ao2 (by rintro _ ⟨⟩) (w_storeW (sz := 4) rfl rfl rfl rfl rfl rfl (eWn_len _) rfl (Nat.le_of_ble_eq_true rfl)) ?_
      refine ao1 (by decide) (o_assign (v := .bool _) rfl) ?_
      refine ao_nil ?_
      try dsimp only [List.set_cons_zero, List.set_cons_succ, List.cons_append, List.nil_append, List.take_succ_cons, List.take_zero, List.drop_succ_cons, List.drop_zero, AV.cells, List.length_nil, List.length_cons, Av.put, Nat.reduceAdd, AV.up, AV.up1, List.map_cons, List.map_nil]
      repeat (first | refine join_ret ?_ | refine join_brk ?_ | refine then_nrm ?_ | refine blk_nrm ?_ | refine then_brk ?_ | refine blk_hit ?_ | refine blk_miss rfl ?_ | refine then_ret ?_ | refine blk_ret ?_ | refine aw_seq ?_ | refine aw_block ?_ | refine aw_skip ?_ | refine aw_exit ?_ | refine aw_scope ?_ | refine aw_ret ?_)
      rw [sok_false hlt (by simpa using hc), show wd (fpre l k) = pof l by rw [pof, okn_at hlt hno (by simpa using hc)]]
      exact e_done hB (r_cellR rfl (lk rfl rfl) rfl rfl (eWn_len _) (r_tmp rfl .nil)) rfl (by simp [AV.bel, AV.bels, eWn_bels])
    · have hokk : okB l k = true := by simpa using hc
      obtain ⟨h0, h256⟩ := okB_range hx hokk
      obtain ⟨n, rfl⟩ : ∃ n : Nat, x = n := ⟨x.toNat, by omega⟩
      have hn4 : n / 64 < 4 := by omega
      have hp : 2 ^ (n % 64) < 18446744073709551616 := p64 (by omega)
      have hcell : (eWn (wd (fpre l k)))[0 + n / 64 * 1]? = some (.int .u64 ((wd (fpre l k) (n / 64) : Nat) : Int)) := by rw [Nat.zero_add, Nat.mul_one]; exact eWn_get _ hn4
      have hlast : lastN l (k + 1) = (n : Int) := by rw [lastN, if_neg (by omega), Nat.add_sub_cancel, hx]; rfl
      have hset : (eWn (wd (fpre l k))).take (0 + n / 64 * 1) ++ [AV.int .u64 ((wd (fpre l k) (n / 64) ||| 2 ^ (n % 64) : Nat) : Int)] ++ (eWn (wd (fpre l k))).drop (0 + n / 64 * 1 + 1) = eWn (wd (fpre l (k + 1))) := by
        rw [Nat.zero_add, Nat.mul_one, eWn_set _ hn4, fpre_step hx]
        refine eWn_congr fun j _ => ?_
        rw [wd_put]
        split <;> simp_all
      repeat (first | refine join_ret ?_ | refine join_brk ?_ | refine then_nrm ?_ | refine blk_nrm ?_ | refine then_brk ?_ | refine blk_hit ?_ | refine blk_miss rfl ?_ | refine then_ret ?_ | refine blk_ret ?_ | refine aw_seq ?_ | refine aw_block ?_ | refine aw_skip ?_ | refine aw_exit ?_ | refine aw_scope ?_ | refine aw_ret ?_)
      refine aw_region ?_
      refine ao1 (by decide) (o_move (v := .int _ _) rfl) ?_
      refine ao1 (by decide) (o_assign (v := .int _ _) rfl) ?_
      refine ao_nil ?_
      try dsimp only [List.set_cons_zero, List.set_cons_succ, List.cons_append, List.nil_append, List.take_succ_cons, List.take_zero, List.drop_succ_cons, List.drop_zero, AV.cells, List.length_nil, List.length_cons, Av.put, Nat.reduceAdd, AV.up, AV.up1, List.map_cons, List.map_nil]
      repeat (first | refine join_ret ?_ | refine join_brk ?_ | refine then_nrm ?_ | refine blk_nrm ?_ | refine then_brk ?_ | refine blk_hit ?_ | refine blk_miss rfl ?_ | refine then_ret ?_ | refine blk_ret ?_ | refine aw_seq ?_ | refine aw_block ?_ | refine aw_skip ?_ | refine aw_exit ?_ | refine aw_scope ?_ | refine aw_ret ?_)
      refine aw_drawR mixed (some 9) 1 ?_
      try dsimp only [List.take_succ_cons, List.take_zero, List.take_nil, List.set_cons_zero, List.set_cons_succ, List.cons_append, List.nil_append]
      refine aq0 0 rfl (by decide +kernel) (by decide) (fun _ => o_move (v := .int _ _) rfl) ?_
      refine aq0 1 rfl (by decide +kernel) (by decide) (fun _ => o_quo (r := ((n / 64 : Nat) : Int)) rfl rfl (by omega) (wrap64_ok (n := ((n / 64 : Nat) : Int)) (by omega) (by omega))) ?_
      refine aqr 2 rfl (by decide +kernel) (by decide) (fun G hG => w_indexArrN rfl (lk rfl hG) rfl rfl hn4) ?_
      refine aqr 3 rfl (by decide +kernel) (by decide) (fun G hG => w_load1 (v := .int .u64 _) rfl (lk rfl hG) rfl rfl hcell) ?_
      refine aq0 4 rfl (by decide +kernel) (by decide) (fun _ => o_move (v := .int _ _) rfl) ?_
      refine aq0 5 rfl (by decide +kernel) (by decide) (fun _ => o_rem (r := ((n % 64 : Nat) : Int)) rfl rfl (by omega) rfl) ?_
      refine aq0 6 rfl (by decide +kernel) (by decide) (fun _ => o_shl (r := ((2 ^ (n % 64) : Nat) : Int)) rfl rfl (by omega) (by rw [show min ((n % 64 : Nat) : Int).toNat IntKind.u64.bits = n % 64 by show min (n % 64) 64 = _; omega, Int.one_mul]; rw [show ((2 : Int) ^ (n % 64)) = ((2 ^ (n % 64) : Nat) : Int) by simp]; exact u64_wrap _ hp)) ?_
      refine aq0 7 rfl (by decide +kernel) (by decide) (fun _ => o_or (r := ((wd (fpre l k) (n / 64) ||| 2 ^ (n % 64) : Nat) : Int)) rfl rfl (u64_or _ _ (wd_lt _ _) hp)) ?_
      refine aqr 8 rfl (by decide +kernel) (by decide) (fun G hG => w_indexArrN rfl (lk rfl hG) rfl rfl hn4) ?_
      refine aqs 9 rfl (by decide +kernel) (by first | exact fun _ => trivial | exact fun _ => ⟨_, rfl⟩ | exact fun _ => ⟨_, rfl, rfl⟩ | exact yet_done (by decide +kernel)) (by rintro _ ⟨⟩) (w_storeP (sz := 1) (v := .int .u64 _) (r' := eWn (wd (fpre l (k + 1)))) rfl rfl rfl rfl rfl rfl rfl rfl (by show _ ≤ 4; omega) hset) ?_
      refine aa_done (by decide +kernel) (by first | exact fun _ => trivial | exact fun _ => ⟨_, rfl⟩ | exact fun _ => ⟨_, rfl, rfl⟩ | exact yet_done (by decide +kernel)) ?_
      try dsimp only [List.set_cons_zero, List.set_cons_succ, List.cons_append, List.nil_append, List.take_succ_cons, List.take_zero, List.drop_succ_cons, List.drop_zero, AV.cells, List.length_nil, List.length_cons, Av.put, Nat.reduceAdd, AV.up, AV.up1, List.map_cons, List.map_nil]
      repeat (first | refine join_ret ?_ | refine join_brk ?_ | refine then_nrm ?_ | refine blk_nrm ?_ | refine then_brk ?_ | refine blk_hit ?_ | refine blk_miss rfl ?_ | refine then_ret ?_ | refine blk_ret ?_ | refine aw_seq ?_ | refine aw_block ?_ | refine aw_skip ?_ | refine aw_exit ?_ | refine aw_scope ?_ | refine aw_ret ?_)
      refine aw_region ?_
      first | refine ao1 (by decide) (o_add rfl rfl (wrap64_ok (by omega) (by omega))) ?_ | refine ao1 (by decide) (o_add rfl rfl rfl) ?_
      refine ao1 (by decide) (o_move (v := .int _ _) rfl) ?_
      refine ao_nil ?_
      try dsimp only [List.set_cons_zero, List.set_cons_succ, List.cons_append, List.nil_append, List.take_succ_cons, List.take_zero, List.drop_succ_cons, List.drop_zero, AV.cells, List.length_nil, List.length_cons, Av.put, Nat.reduceAdd, AV.up, AV.up1, List.map_cons, List.map_nil]
      repeat (first | refine join_ret ?_ | refine join_brk ?_ | refine then_nrm ?_ | refine blk_nrm ?_ | refine then_brk ?_ | refine blk_hit ?_ | refine blk_miss rfl ?_ | refine then_ret ?_ | refine blk_ret ?_ | refine aw_seq ?_ | refine aw_block ?_ | refine aw_skip ?_ | refine aw_exit ?_ | refine aw_scope ?_ | refine aw_ret ?_)
      refine ⟨k + 1, by omega, ⟨by omega, fun i hi => ?_⟩, by rw [hlast]; exact (by repeat (first | exact Sub.nil | refine Sub.cons (by first | rfl | (simp [get]; done)) ?_)), .refl _ _⟩
      rcases Nat.lt_or_eq_of_le (Nat.le_of_lt_succ hi) with h | h
      · exact hno i h
      · subst h; exact hokk
  · have : k = l.length := by simp at hc; omega
    subst this
    repeat (first | refine join_ret ?_ | refine join_brk ?_ | refine then_nrm ?_ | refine blk_nrm ?_ | refine then_brk ?_ | refine blk_hit ?_ | refine blk_miss rfl ?_ | refine then_ret ?_ | refine blk_ret ?_ | refine aw_seq ?_ | refine aw_block ?_ | refine aw_skip ?_ | refine aw_exit ?_ | refine aw_scope ?_ | refine aw_ret ?_)
    refine aw_region ?_
    first | refine ao1 (by decide) (w_loadR rfl (lk rfl rfl) rfl rfl rfl) ?_ | refine ao1 (by decide) (w_loadR rfl (lk rfl rfl) rfl (zadd hr) rfl) ?_ | refine ao1 (by decide) (w_loadR rfl (lk rfl rfl) rfl (zadd hr1) rfl) ?_ | refine ao1 (by decide) (w_loadR rfl (lk rfl rfl) rfl (zadd hr2) rfl) ?_ | refine ao1 (by decide) (w_loadRp rfl hr rfl) ?_ | refine ao1 (by decide) (w_loadRp rfl hr1 rfl) ?_ | refine ao1 (by decide) (w_loadRp rfl hr2 rfl) ?_ | refine ao1 (by decide) (w_loadN (cs := [_, _, _, _]) rfl (lk rfl rfl) rfl rfl rfl rfl) ?_ | refine ao1 (by decide) (o_loadNp (cs := [_, _, _, _]) rfl hr rfl rfl) ?_ | refine ao1 (by decide) (o_loadNp (cs := [_, _, _, _]) rfl hr1 rfl rfl) ?_ | refine ao1 (by decide) (o_loadNp (cs := [_, _, _, _]) rfl hr2 rfl rfl) ?_ | refine ao1 (by decide) (w_loadR rfl (lkF hF) rfl rfl rfl) ?_ | refine ao1 (by decide) (w_loadN (cs := [_, _, _, _]) rfl (lkF hF) rfl rfl rfl rfl) ?_
    refine ao2 (by rintro _ ⟨⟩) (w_storeW (sz := 4) rfl rfl rfl rfl rfl rfl (eWn_len _) rfl (Nat.le_of_ble_eq_true rfl)) ?_
    refine ao1 (by decide) (o_assign (v := .bool _) rfl) ?_
    refine ao_nil ?_
    try dsimp only [List.set_cons_zero, List.set_cons_succ, List.cons_append, List.nil_append, List.take_succ_cons, List.take_zero, List.drop_succ_cons, List.drop_zero, AV.cells, List.length_nil, List.length_cons, Av.put, Nat.reduceAdd, AV.up, AV.up1, List.map_cons, List.map_nil]
    repeat (first | refine join_ret ?_ | refine join_brk ?_ | refine then_nrm ?_ | refine blk_nrm ?_ | refine then_brk ?_ | refine blk_hit ?_ | refine blk_miss rfl ?_ | refine then_ret ?_ | refine blk_ret ?_ | refine aw_seq ?_ | refine aw_block ?_ | refine aw_skip ?_ | refine aw_exit ?_ | refine aw_scope ?_ | refine aw_ret ?_)
    rw [sok_true hno, show wd (fpre l l.length) = pof l by rw [pof, okn_all hno]]
    exact e_done hB (r_cellR rfl (lk rfl rfl) rfl rfl (eWn_len _) (r_tmp rfl .nil)) rfl (by simp [AV.bel, AV.bels, eWn_bels])
end Go.Av

/-
  A REGION THAT DRAWS: two rows of the call's own are as1 they were.
-/
namespace Go.Av
def AtR2 (H0 L0 : Heap) (k1 k2 : Nat) (H : Heap) : Prop := ∃ G : Heap, H = H0 ++ G ∧ G[k1]? = L0[k1]? ∧ G[k2]? = L0[k2]?
section
variable {P : Program} {N : Nat} {B : Base} {ops : Array Oper} {a : Option Nat} {C : Heap → Prop} {F : Env → Heap → Prop} {Q : Post}
variable {fuel : Nat} {listed : Array Bool} {env : Env} {H H0 L : Heap} {op : Op} {ty : TypeId} {pos : String} {after : Array Edge} {v : AV} {id : Nat} {l : List Oper}
theorem aw_draw2 (hm : P.follows .mixedOrders = true) (a : Option Nat) (k1 k2 : Nat) (h : AAny P N B l.toArray a (AtR2 H0 L k1 k2) (Q .nrm) l.length (Array.replicate l.length false) env (H0 ++ L)) : AWp P N B (.region id l.toArray true) Q env (H0 ++ L) := aw_draw hm a _ h
theorem aqr2 {d k1 k2 : Nat} {L0 : Heap} (i : Nat) (hi : ops[i]? = some ⟨some d, op, ty, pos, after, none⟩) (hB : firstB ops listed a i = true) (hd : DN d N) (h1 : ∀ G : Heap, G[k1]? = L0[k1]? → G[k2]? = L0[k2]? → V1 P N op ty (renv ⟨some d, op, ty, pos, after, none⟩ env) (H0 ++ G) v)
    (h : AAny P N B ops a (AtR2 H0 L0 k1 k2) F fuel (listed.setIfInBounds i true) ((d, v) :: env) H) : AAny P N B ops a (AtR2 H0 L0 k1 k2) F (fuel + 1) listed env H :=
  aq1 i hi hB hd (by rintro _ ⟨G, rfl, hG1, hG2⟩; exact h1 G hG1 hG2) h
theorem aqyr2 {d j g k1 k2 : Nat} {want : Bool} {L0 : Heap} (i : Nat) (hi : ops[i]? = some ⟨some d, op, ty, pos, after, some (j, want)⟩) (hB : firstB ops listed a i = true) (hd : DN d N) (hj : (ops[j]?).bind (·.dst) = some g) (hb : get env g = .bool want)
    (h1 : ∀ G : Heap, G[k1]? = L0[k1]? → G[k2]? = L0[k2]? → V1 P N op ty (renv ⟨some d, op, ty, pos, after, some (j, want)⟩ env) (H0 ++ G) v)
    (h : AAny P N B ops a (AtR2 H0 L0 k1 k2) F fuel (listed.setIfInBounds i true) ((d, v) :: env) H) : AAny P N B ops a (AtR2 H0 L0 k1 k2) F (fuel + 1) listed env H :=
  aqy1 i hi hB hd hj hb (by rintro _ ⟨G, rfl, hG1, hG2⟩; exact h1 G hG1 hG2) h
end
end Go.Av

namespace Go.Av
open Go.Proofs
set_option maxRecDepth 10000
set_option linter.unusedSimpArgs false
set_option linter.unusedVariables false

theorem sok_len {l : List Int} (h : sok l = true) : ∀ k : Nat, k < l.length → (k : Int) ≤ l.getD k 0 := by
  intro k
  induction k with
  | zero =>
    intro hk
    have hm : l[0]? = some l[0] := List.getElem?_eq_getElem hk
    have := okB_range hm (sok_get h hk)
    simp only [List.getD_eq_getElem?_getD, hm, Option.getD_some]
    omega
  | succ k ih =>
    intro hk
    have hm : l[k + 1]? = some l[k + 1] := List.getElem?_eq_getElem hk
    have hm0 : l[k]? = some l[k] := List.getElem?_eq_getElem (by omega)
    have h1 := sok_get h hk
    rw [okB_get hm] at h1
    have ih := ih (by omega)
    simp only [List.getD_eq_getElem?_getD, hm0, hm, Option.getD_some] at ih ⊢
    simp only [Nat.add_sub_cancel, hm0, Bool.and_eq_true, Bool.or_eq_true, decide_eq_true_eq, beq_iff_eq] at h1
    omega
theorem sok_256 {l : List Int} (h : sok l = true) : l.length ≤ 256 := by
  rcases Nat.lt_or_ge 256 l.length with hl | hl
  · have h1 := sok_len h 256 hl
    have hm : l[256]? = some l[256] := List.getElem?_eq_getElem hl
    have := okB_range hm (sok_get h hl)
    simp only [List.getD_eq_getElem?_getD, hm, Option.getD_some] at h1
    omega
  · exact hl
theorem pof_ok {l : List Int} (h : sok l = true) : pof l = wd (inl l) := by
  rw [pof, okn_all fun i hi => sok_get h hi, fpre_all]
theorem set_Right (l : List Int) (hl : l.length ≤ 1000000) (H : Heap) : AC Tryd.prog 44 [.pl (l.map eInt)] H (Ret (.bool (sok l)) H) := by
  refine AC.body (N := 11) [.tmp 2] Tryd.func44 rfl rfl rfl (Nat.le_of_ble_eq_true rfl) fun B hB => ?_
  repeat (first | refine join_ret ?_ | refine join_brk ?_ | refine then_nrm ?_ | refine blk_nrm ?_ | refine then_brk ?_ | refine blk_hit ?_ | refine blk_miss rfl ?_ | refine then_ret ?_ | refine blk_ret ?_ | refine aw_seq ?_ | refine aw_block ?_ | refine aw_skip ?_ | refine aw_exit ?_ | refine aw_scope ?_ | refine aw_ret ?_)
  refine aw_region ?_
  refine ao1 (by decide) (o_assign (v := .bool _) rfl) ?_
  refine ao_nil ?_
  try dsimp only [List.set_cons_zero, List.set_cons_succ, List.cons_append, List.nil_append, List.take_succ_cons, List.take_zero, List.drop_succ_cons, List.drop_zero, AV.cells, List.length_nil, List.length_cons, Av.put, Nat.reduceAdd, AV.up, AV.up1, List.map_cons, List.map_nil]
  repeat (first | refine join_ret ?_ | refine join_brk ?_ | refine then_nrm ?_ | refine blk_nrm ?_ | refine then_brk ?_ | refine blk_hit ?_ | refine blk_miss rfl ?_ | refine then_ret ?_ | refine blk_ret ?_ | refine aw_seq ?_ | refine aw_block ?_ | refine aw_skip ?_ | refine aw_exit ?_ | refine aw_scope ?_ | refine aw_ret ?_)
  refine aw_region ?_
  first | refine ao1 (by decide) (o_move (v := .sl _ _ _ _ _) rfl) ?_ | refine ao1 (by decide) (o_move (v := .pl _) rfl) ?_ | refine ao1 (by decide) (o_move (v := .nsl) rfl) ?_
  refine ao_ret (set_of _ (by assumption) _) rfl (by decide) ?_
  refine ao1 (by decide) (o_move (v := .tup _) rfl) ?_
  refine ao1 (by decide) (o_extract (v := .agg _) rfl rfl) ?_
  refine ao1 (by decide) (o_extract (v := .bool _) rfl rfl) ?_
  refine ao2 (by rintro _ ⟨⟩; decide) (o_allocL (sz := 4) rfl (by decide) rfl) ?_
  refine ao2 (by rintro _ ⟨⟩) (w_storeW (sz := 4) rfl rfl rfl rfl rfl rfl (eWn_len _) rfl (Nat.le_of_ble_eq_true rfl)) ?_
  refine ao1 (by decide) (o_assign (v := .bool _) rfl) ?_
  refine ao_nil ?_
  try dsimp only [List.set_cons_zero, List.set_cons_succ, List.cons_append, List.nil_append, List.take_succ_cons, List.take_zero, List.drop_succ_cons, List.drop_zero, AV.cells, List.length_nil, List.length_cons, Av.put, Nat.reduceAdd, AV.up, AV.up1, List.map_cons, List.map_nil]
  repeat (first | refine join_ret ?_ | refine join_brk ?_ | refine then_nrm ?_ | refine blk_nrm ?_ | refine then_brk ?_ | refine blk_hit ?_ | refine blk_miss rfl ?_ | refine then_ret ?_ | refine blk_ret ?_ | refine aw_seq ?_ | refine aw_block ?_ | refine aw_skip ?_ | refine aw_exit ?_ | refine aw_scope ?_ | refine aw_ret ?_)
  refine aw_region ?_
  refine ao1 (by decide) (o_move (v := .bool _) rfl) ?_
  refine ao1 (by decide) (o_assign (v := .bool _) rfl) ?_
  refine ao_nil ?_
  try dsimp only [List.set_cons_zero, List.set_cons_succ, List.cons_append, List.nil_append, List.take_succ_cons, List.take_zero, List.drop_succ_cons, List.drop_zero, AV.cells, List.length_nil, List.length_cons, Av.put, Nat.reduceAdd, AV.up, AV.up1, List.map_cons, List.map_nil]
  repeat (first | refine join_ret ?_ | refine join_brk ?_ | refine then_nrm ?_ | refine blk_nrm ?_ | refine then_brk ?_ | refine blk_hit ?_ | refine blk_miss rfl ?_ | refine then_ret ?_ | refine blk_ret ?_ | refine aw_seq ?_ | refine aw_block ?_ | refine aw_skip ?_ | refine aw_exit ?_ | refine aw_scope ?_ | refine aw_ret ?_)
  exact e_done hB (r_tmp rfl .nil) rfl rfl
theorem set_both (a b : List Int) (ha : a.length ≤ 1000000) (hb : b.length ≤ 1000000) (H : Heap) : AC Tryd.prog 46 [.pl (a.map eInt), .pl (b.map eInt)] H (Ret (.tup [.agg (eWn (pof a)), .agg (eWn (pof b)), .bool (sok a && sok b)]) H) := by
  refine AC.body (N := 27) [.cell 4 74, .cell 5 74, .tmp 6] Tryd.func46 rfl rfl rfl (Nat.le_of_ble_eq_true rfl) fun B hB => ?_
  repeat (first | refine join_ret ?_ | refine join_brk ?_ | refine then_nrm ?_ | refine blk_nrm ?_ | refine then_brk ?_ | refine blk_hit ?_ | refine blk_miss rfl ?_ | refine then_ret ?_ | refine blk_ret ?_ | refine aw_seq ?_ | refine aw_block ?_ | refine aw_skip ?_ | refine aw_exit ?_ | refine aw_scope ?_ | refine aw_ret ?_)
  refine aw_region ?_
  refine ao2 (by rintro _ ⟨⟩; decide) (o_allocL (sz := 4) rfl (by decide) rfl) ?_
  refine ao2 (by rintro _ ⟨⟩; decide) (o_allocL (sz := 4) rfl (by decide) rfl) ?_
  refine ao1 (by decide) (o_assign (v := .bool _) rfl) ?_
  refine ao_nil ?_
  try dsimp only [List.set_cons_zero, List.set_cons_succ, List.cons_append, List.nil_append, List.take_succ_cons, List.take_zero, List.drop_succ_cons, List.drop_zero, AV.cells, List.length_nil, List.length_cons, Av.put, Nat.reduceAdd, AV.up, AV.up1, List.map_cons, List.map_nil]
  repeat (first | refine join_ret ?_ | refine join_brk ?_ | refine then_nrm ?_ | refine blk_nrm ?_ | refine then_brk ?_ | refine blk_hit ?_ | refine blk_miss rfl ?_ | refine then_ret ?_ | refine blk_ret ?_ | refine aw_seq ?_ | refine aw_block ?_ | refine aw_skip ?_ | refine aw_exit ?_ | refine aw_scope ?_ | refine aw_ret ?_)
  refine aw_region ?_
  first | refine ao1 (by decide) (o_move (v := .sl _ _ _ _ _) rfl) ?_ | refine ao1 (by decide) (o_move (v := .pl _) rfl) ?_ | refine ao1 (by decide) (o_move (v := .nsl) rfl) ?_
  refine ao_ret (set_of _ (by assumption) _) rfl (by decide) ?_
  refine ao1 (by decide) (o_move (v := .tup _) rfl) ?_
  refine ao1 (by decide) (o_extract (v := .agg _) rfl rfl) ?_
  refine ao1 (by decide) (o_extract (v := .bool _) rfl rfl) ?_
  refine ao2 (by rintro _ ⟨⟩; decide) (o_allocL (sz := 4) rfl (by decide) rfl) ?_
  refine ao2 (by rintro _ ⟨⟩) (w_storeW (sz := 4) rfl rfl rfl rfl rfl rfl (eWn_len _) rfl (Nat.le_of_ble_eq_true rfl)) ?_
  refine ao1 (by decide) (o_assign (v := .bool _) rfl) ?_
  refine ao_nil ?_
  try dsimp only [List.set_cons_zero, List.set_cons_succ, List.cons_append, List.nil_append, List.take_succ_cons, List.take_zero, List.drop_succ_cons, List.drop_zero, AV.cells, List.length_nil, List.length_cons, Av.put, Nat.reduceAdd, AV.up, AV.up1, List.map_cons, List.map_nil]
  repeat (first | refine join_ret ?_ | refine join_brk ?_ | refine then_nrm ?_ | refine blk_nrm ?_ | refine then_brk ?_ | refine blk_hit ?_ | refine blk_miss rfl ?_ | refine then_ret ?_ | refine blk_ret ?_ | refine aw_seq ?_ | refine aw_block ?_ | refine aw_skip ?_ | refine aw_exit ?_ | refine aw_scope ?_ | refine aw_ret ?_)
  refine aw_region ?_
  first | refine ao1 (by decide) (o_move (v := .sl _ _ _ _ _) rfl) ?_ | refine ao1 (by decide) (o_move (v := .pl _) rfl) ?_ | refine ao1 (by decide) (o_move (v := .nsl) rfl) ?_
  refine ao_ret (set_of _ (by assumption) _) rfl (by decide) ?_
  refine ao1 (by decide) (o_move (v := .tup _) rfl) ?_
  refine ao1 (by decide) (o_extract (v := .agg _) rfl rfl) ?_
  refine ao1 (by decide) (o_extract (v := .bool _) rfl rfl) ?_
  refine ao2 (by rintro _ ⟨⟩; decide) (o_allocL (sz := 4) rfl (by decide) rfl) ?_
  refine ao2 (by rintro _ ⟨⟩) (w_storeW (sz := 4) rfl rfl rfl rfl rfl rfl (eWn_len _) rfl (Nat.le_of_ble_eq_true rfl)) ?_
  refine ao1 (by decide) (o_assign (v := .bool _) rfl) ?_
  refine ao_nil ?_
  try dsimp only [List.set_cons_zero, List.set_cons_succ, List.cons_append, List.nil_append, List.take_succ_cons, List.take_zero, List.drop_succ_cons, List.drop_zero, AV.cells, List.length_nil, List.length_cons, Av.put, Nat.reduceAdd, AV.up, AV.up1, List.map_cons, List.map_nil]
  have hbel : ∀ n : Nat, (AV.tup [.agg (eWn (pof a)), .agg (eWn (pof b)), .bool (sok a && sok b)]).bel n = true := by intro n; simp [AV.bel, AV.bels, eWn_bels]
  repeat (first | refine join_ret ?_ | refine join_brk ?_ | refine then_nrm ?_ | refine blk_nrm ?_ | refine then_brk ?_ | refine blk_hit ?_ | refine blk_miss rfl ?_ | refine then_ret ?_ | refine blk_ret ?_ | refine aw_seq ?_ | refine aw_block ?_ | refine aw_skip ?_ | refine aw_exit ?_ | refine aw_scope ?_ | refine aw_ret ?_)
  refine aw_draw2 mixed none 2 3 ?_
  try dsimp only [List.take_succ_cons, List.take_zero, List.take_nil, List.set_cons_zero, List.set_cons_succ, List.cons_append, List.nil_append]
  first | refine aqr2 0 rfl (by decide +kernel) (by decide) (fun G hG1 hG2 => w_loadR rfl (lk rfl hG1) rfl rfl (eWn_len _)) ?_ | refine aqr2 0 rfl (by decide +kernel) (by decide) (fun G hG1 hG2 => w_loadR rfl (lk rfl hG2) rfl rfl (eWn_len _)) ?_
  first | refine aqr2 1 rfl (by decide +kernel) (by decide) (fun G hG1 hG2 => w_loadR rfl (lk rfl hG1) rfl rfl (eWn_len _)) ?_ | refine aqr2 1 rfl (by decide +kernel) (by decide) (fun G hG1 hG2 => w_loadR rfl (lk rfl hG2) rfl rfl (eWn_len _)) ?_
  refine aq0 2 rfl (by decide +kernel) (by decide) (fun _ => o_move (v := .bool _) rfl) ?_
  refine aq0 3 rfl (by decide +kernel) (by decide) (fun _ => o_move (v := .bool _) rfl) ?_
  refine aq_split (g := 24) rfl (fun hg3 => ?_) (fun hg3 => ?_)
  · refine aqy0 (g := 24) 4 rfl (by decide +kernel) (by decide) rfl rfl (fun _ => o_move (v := .bool _) rfl) ?_
    first | refine aq0 5 rfl (by decide +kernel) (by decide) (fun _ => o_pick_t (v := .bool _) rfl rfl) ?_ | refine aq0 5 rfl (by decide +kernel) (by decide) (fun _ => o_pick_f (v := .bool _) rfl rfl) ?_ | refine aq0 5 rfl (by decide +kernel) (by decide) (fun _ => o_pick_b rfl rfl rfl) ?_
    refine aqs 6 rfl (by decide +kernel) (by first | exact fun _ => trivial | exact fun _ => ⟨_, rfl⟩ | exact fun _ => ⟨_, rfl, rfl⟩ | exact fun _ => ⟨_, rfl, rfl, rfl⟩ | exact yet_done (by decide +kernel)) (by rintro _ ⟨⟩) (w_storeW (sz := 4) rfl rfl rfl rfl rfl rfl (eWn_len _) rfl (Nat.le_of_ble_eq_true rfl)) ?_
    refine aqs 7 rfl (by decide +kernel) (by first | exact fun _ => trivial | exact fun _ => ⟨_, rfl⟩ | exact fun _ => ⟨_, rfl, rfl⟩ | exact fun _ => ⟨_, rfl, rfl, rfl⟩ | exact yet_done (by decide +kernel)) (by rintro _ ⟨⟩) (w_storeW (sz := 4) rfl rfl rfl rfl rfl rfl (eWn_len _) rfl (Nat.le_of_ble_eq_true rfl)) ?_
    refine aq0 8 rfl (by decide +kernel) (by decide) (fun _ => o_assign (v := .bool _) rfl) ?_
    refine aa_done (by decide +kernel) (by first | exact fun _ => trivial | exact fun _ => ⟨_, rfl⟩ | exact fun _ => ⟨_, rfl, rfl⟩ | exact fun _ => ⟨_, rfl, rfl, rfl⟩ | exact yet_done (by decide +kernel)) ?_
    try dsimp only [List.set_cons_zero, List.set_cons_succ, List.cons_append, List.nil_append, List.take_succ_cons, List.take_zero, List.drop_succ_cons, List.drop_zero, AV.cells, List.length_nil, List.length_cons, Av.put, Nat.reduceAdd, AV.up, AV.up1, List.map_cons, List.map_nil]
    repeat (first | refine join_ret ?_ | refine join_brk ?_ | refine then_nrm ?_ | refine blk_nrm ?_ | refine then_brk ?_ | refine blk_hit ?_ | refine blk_miss rfl ?_ | refine then_ret ?_ | refine blk_ret ?_ | refine aw_seq ?_ | refine aw_block ?_ | refine aw_skip ?_ | refine aw_exit ?_ | refine aw_scope ?_ | refine aw_ret ?_)
    rw [hg3] at hbel ⊢
    exact e_done hB (r_cellR rfl (lk rfl rfl) rfl rfl (eWn_len _) (r_cellR rfl (lk rfl rfl) rfl rfl (eWn_len _) (r_tmp rfl .nil))) rfl (hbel _)
  · refine aqn0 (g := 24) 4 rfl (by decide +kernel) (by decide) rfl rfl rfl ?_
    first | refine aq0 5 rfl (by decide +kernel) (by decide) (fun _ => o_pick_t (v := .bool _) rfl rfl) ?_ | refine aq0 5 rfl (by decide +kernel) (by decide) (fun _ => o_pick_f (v := .bool _) rfl rfl) ?_ | refine aq0 5 rfl (by decide +kernel) (by decide) (fun _ => o_pick_b rfl rfl rfl) ?_
    refine aqs 6 rfl (by decide +kernel) (by first | exact fun _ => trivial | exact fun _ => ⟨_, rfl⟩ | exact fun _ => ⟨_, rfl, rfl⟩ | exact fun _ => ⟨_, rfl, rfl, rfl⟩ | exact yet_done (by decide +kernel)) (by rintro _ ⟨⟩) (w_storeW (sz := 4) rfl rfl rfl rfl rfl rfl (eWn_len _) rfl (Nat.le_of_ble_eq_true rfl)) ?_
    refine aqs 7 rfl (by decide +kernel) (by first | exact fun _ => trivial | exact fun _ => ⟨_, rfl⟩ | exact fun _ => ⟨_, rfl, rfl⟩ | exact fun _ => ⟨_, rfl, rfl, rfl⟩ | exact yet_done (by decide +kernel)) (by rintro _ ⟨⟩) (w_storeW (sz := 4) rfl rfl rfl rfl rfl rfl (eWn_len _) rfl (Nat.le_of_ble_eq_true rfl)) ?_
    refine aq0 8 rfl (by decide +kernel) (by decide) (fun _ => o_assign (v := .bool _) rfl) ?_
    refine aa_done (by decide +kernel) (by first | exact fun _ => trivial | exact fun _ => ⟨_, rfl⟩ | exact fun _ => ⟨_, rfl, rfl⟩ | exact fun _ => ⟨_, rfl, rfl, rfl⟩ | exact yet_done (by decide +kernel)) ?_
    try dsimp only [List.set_cons_zero, List.set_cons_succ, List.cons_append, List.nil_append, List.take_succ_cons, List.take_zero, List.drop_succ_cons, List.drop_zero, AV.cells, List.length_nil, List.length_cons, Av.put, Nat.reduceAdd, AV.up, AV.up1, List.map_cons, List.map_nil]
    repeat (first | refine join_ret ?_ | refine join_brk ?_ | refine then_nrm ?_ | refine blk_nrm ?_ | refine then_brk ?_ | refine blk_hit ?_ | refine blk_miss rfl ?_ | refine then_ret ?_ | refine blk_ret ?_ | refine aw_seq ?_ | refine aw_block ?_ | refine aw_skip ?_ | refine aw_exit ?_ | refine aw_scope ?_ | refine aw_ret ?_)
    rw [hg3] at hbel ⊢
    exact e_done hB (r_cellR rfl (lk rfl rfl) rfl rfl (eWn_len _) (r_cellR rfl (lk rfl rfl) rfl rfl (eWn_len _) (r_tmp rfl .nil))) rfl (hbel _)
end Go.Av

namespace Go.Av
open Go.Proofs
set_option maxRecDepth 10000
set_option linter.unusedSimpArgs false
set_option linter.unusedVariables false

theorem words_zero (f : Nat → Bool) : ((List.range 4).all fun k => wd f k == 0) = decide (setl f = []) := by
  rw [Bool.eq_iff_iff, List.all_eq_true, decide_eq_true_eq, setl, List.map_eq_nil_iff, List.filter_eq_nil_iff]
  simp only [List.mem_range, beq_iff_eq, wd_eq_zero]
  constructor
  · intro h n hn
    have := h (n / 64) (by omega) (n % 64) (by omega)
    rw [show 64 * (n / 64) + n % 64 = n by omega] at this
    simp [this]
  · intro h k hk j hj
    have := h (64 * k + j) (by omega)
    simpa using this
theorem all_range_step {p : Nat → Bool} (k : Nat) : (List.range (k + 1)).all p = ((List.range k).all p && p k) := by
  rw [List.range_succ, List.all_append]; simp
def spart (a b : List Int) : Bool := sok a && sok b && decide (setl (fun n => inl a n && !inl b n) = [])
def sapart (a b : List Int) : Bool := sok a && sok b && decide (setl (fun n => inl a n && inl b n) = [])
theorem set_Part (a b : List Int) (ha : a.length ≤ 1000000) (hb : b.length ≤ 1000000) (H : Heap) : AC Tryd.prog 24 [.pl (a.map eInt), .pl (b.map eInt)] H (Ret (.bool (spart a b)) H) := by
  refine AC.body (N := 32) [.tmp 4] Tryd.func24 rfl rfl rfl (Nat.le_of_ble_eq_true rfl) fun B hB => ?_
  repeat (first | refine join_ret ?_ | refine join_brk ?_ | refine then_nrm ?_ | refine blk_nrm ?_ | refine then_brk ?_ | refine blk_hit ?_ | refine blk_miss rfl ?_ | refine then_ret ?_ | refine blk_ret ?_ | refine aw_seq ?_ | refine aw_block ?_ | refine aw_skip ?_ | refine aw_exit ?_ | refine aw_scope ?_ | refine aw_ret ?_)
  refine aw_region ?_
  refine ao1 (by decide) (o_assign (v := .bool _) rfl) ?_
  refine ao_nil ?_
  try dsimp only [List.set_cons_zero, List.set_cons_succ, List.cons_append, List.nil_append, List.take_succ_cons, List.take_zero, List.drop_succ_cons, List.drop_zero, AV.cells, List.length_nil, List.length_cons, Av.put, Nat.reduceAdd, AV.up, AV.up1, List.map_cons, List.map_nil]
  repeat (first | refine join_ret ?_ | refine join_brk ?_ | refine then_nrm ?_ | refine blk_nrm ?_ | refine then_brk ?_ | refine blk_hit ?_ | refine blk_miss rfl ?_ | refine then_ret ?_ | refine blk_ret ?_ | refine aw_seq ?_ | refine aw_block ?_ | refine aw_skip ?_ | refine aw_exit ?_ | refine aw_scope ?_ | refine aw_ret ?_)
  refine aw_region ?_
  first | refine ao1 (by decide) (o_move (v := .sl _ _ _ _ _) rfl) ?_ | refine ao1 (by decide) (o_move (v := .pl _) rfl) ?_ | refine ao1 (by decide) (o_move (v := .nsl) rfl) ?_
  first | refine ao1 (by decide) (o_move (v := .sl _ _ _ _ _) rfl) ?_ | refine ao1 (by decide) (o_move (v := .pl _) rfl) ?_ | refine ao1 (by decide) (o_move (v := .nsl) rfl) ?_
  refine ao_ret (set_both _ _ (by assumption) (by assumption) _) rfl (by decide) ?_
  refine ao1 (by decide) (o_move (v := .tup _) rfl) ?_
  refine ao1 (by decide) (o_extract (v := .agg _) rfl rfl) ?_
  refine ao1 (by decide) (o_extract (v := .agg _) rfl rfl) ?_
  refine ao1 (by decide) (o_extract (v := .bool _) rfl rfl) ?_
  refine ao2 (by rintro _ ⟨⟩; decide) (o_allocL (sz := 4) rfl (by decide) rfl) ?_
  refine ao2 (by rintro _ ⟨⟩; decide) (o_allocL (sz := 4) rfl (by decide) rfl) ?_
  refine ao2 (by rintro _ ⟨⟩) (w_storeW (sz := 4) rfl rfl rfl rfl rfl rfl (eWn_len _) rfl (Nat.le_of_ble_eq_true rfl)) ?_
  refine ao2 (by rintro _ ⟨⟩) (w_storeW (sz := 4) rfl rfl rfl rfl rfl rfl (eWn_len _) rfl (Nat.le_of_ble_eq_true rfl)) ?_
  refine ao1 (by decide) (o_assign (v := .bool _) rfl) ?_
  refine ao_nil ?_
  try dsimp only [List.set_cons_zero, List.set_cons_succ, List.cons_append, List.nil_append, List.take_succ_cons, List.take_zero, List.drop_succ_cons, List.drop_zero, AV.cells, List.length_nil, List.length_cons, Av.put, Nat.reduceAdd, AV.up, AV.up1, List.map_cons, List.map_nil]
  repeat (first | refine join_ret ?_ | refine join_brk ?_ | refine then_nrm ?_ | refine blk_nrm ?_ | refine then_brk ?_ | refine blk_hit ?_ | refine blk_miss rfl ?_ | refine then_ret ?_ | refine blk_ret ?_ | refine aw_seq ?_ | refine aw_block ?_ | refine aw_skip ?_ | refine aw_exit ?_ | refine aw_scope ?_ | refine aw_ret ?_)
  refine aw_region ?_
  refine ao1 (by decide) (o_move (v := .int _ _) rfl) ?_
  refine ao_nil ?_
  try dsimp only [List.set_cons_zero, List.set_cons_succ, List.cons_append, List.nil_append, List.take_succ_cons, List.take_zero, List.drop_succ_cons, List.drop_zero, AV.cells, List.length_nil, List.length_cons, Av.put, Nat.reduceAdd, AV.up, AV.up1, List.map_cons, List.map_nil]
  repeat (first | refine join_ret ?_ | refine join_brk ?_ | refine then_nrm ?_ | refine blk_nrm ?_ | refine then_brk ?_ | refine blk_hit ?_ | refine blk_miss rfl ?_ | refine then_ret ?_ | refine blk_ret ?_ | refine aw_seq ?_ | refine aw_block ?_ | refine aw_skip ?_ | refine aw_exit ?_ | refine aw_scope ?_)
  refine aw_loop (G := Nat) (fun k => k ≤ 4) (fun k => [(5, .pt (Lid H.length 0) 0 0 0), (6, .pt (Lid H.length 1) 0 0 0), (7, .bool (sok a && sok b && (List.range k).all fun i => wd (fun n => fpre a (okn a) n && !fpre b (okn b) n) i == 0)), (16, .int .i64 (k : Int))]) (fun _ => H ++ [⟨0, 4, [eWn (pof a)]⟩, ⟨0, 4, [eWn (pof b)]⟩]) (fun k => 4 - k) 0 (Nat.zero_le _) (by simp only [List.range_zero, List.all_nil, Bool.and_true]; exact (by repeat (first | exact Sub.nil | refine Sub.cons (by first | rfl | (simp [get]; done)) ?_))) (Fit.refl _ _) ?_
  intro k hk
  repeat (first | refine join_ret ?_ | refine join_brk ?_ | refine then_nrm ?_ | refine blk_nrm ?_ | refine then_brk ?_ | refine blk_hit ?_ | refine blk_miss rfl ?_ | refine then_ret ?_ | refine blk_ret ?_ | refine aw_seq ?_ | refine aw_block ?_ | refine aw_skip ?_ | refine aw_exit ?_ | refine aw_scope ?_ | refine aw_ret ?_)
  refine aw_region ?_
  refine ao1 (by decide) (o_lt rfl rfl) ?_
  refine ao_nil ?_
  try dsimp only [List.set_cons_zero, List.set_cons_succ, List.cons_append, List.nil_append, List.take_succ_cons, List.take_zero, List.drop_succ_cons, List.drop_zero, AV.cells, List.length_nil, List.length_cons, Av.put, Nat.reduceAdd, AV.up, AV.up1, List.map_cons, List.map_nil]
  repeat (first | refine join_ret ?_ | refine join_brk ?_ | refine then_nrm ?_ | refine blk_nrm ?_ | refine then_brk ?_ | refine blk_hit ?_ | refine blk_miss rfl ?_ | refine then_ret ?_ | refine blk_ret ?_ | refine aw_seq ?_ | refine aw_block ?_ | refine aw_skip ?_ | refine aw_exit ?_ | refine aw_scope ?_ | refine aw_ret ?_)
  refine aw_cond rfl (fun hc => ?_) (fun hc => ?_)
  · have hk4 : k < 4 := by simp at hc; omega
    have hx : (eWn (pof a))[0 + k * 1]? = some (.int .u64 ((wd (fpre a (okn a)) k : Nat) : Int)) := by rw [Nat.zero_add, Nat.mul_one]; exact eWn_get _ hk4
    have hy : (eWn (pof b))[0 + k * 1]? = some (.int .u64 ((wd (fpre b (okn b)) k : Nat) : Int)) := by rw [Nat.zero_add, Nat.mul_one]; exact eWn_get _ hk4
    repeat (first | refine join_ret ?_ | refine join_brk ?_ | refine then_nrm ?_ | refine blk_nrm ?_ | refine then_brk ?_ | refine blk_hit ?_ | refine blk_miss rfl ?_ | refine then_ret ?_ | refine blk_ret ?_ | refine aw_seq ?_ | refine aw_block ?_ | refine aw_skip ?_ | refine aw_exit ?_ | refine aw_scope ?_ | refine aw_ret ?_)
    refine aw_region ?_
    refine ao1 (by decide) (o_move (v := .int _ _) rfl) ?_
    refine ao1 (by decide) (o_assign (v := .int _ _) rfl) ?_
    refine ao_nil ?_
    try dsimp only [List.set_cons_zero, List.set_cons_succ, List.cons_append, List.nil_append, List.take_succ_cons, List.take_zero, List.drop_succ_cons, List.drop_zero, AV.cells, List.length_nil, List.length_cons, Av.put, Nat.reduceAdd, AV.up, AV.up1, List.map_cons, List.map_nil]
    repeat (first | refine join_ret ?_ | refine join_brk ?_ | refine then_nrm ?_ | refine blk_nrm ?_ | refine then_brk ?_ | refine blk_hit ?_ | refine blk_miss rfl ?_ | refine then_ret ?_ | refine blk_ret ?_ | refine aw_seq ?_ | refine aw_block ?_ | refine aw_skip ?_ | refine aw_exit ?_ | refine aw_scope ?_ | refine aw_ret ?_)
    refine aw_of_out 7 (.bool (sok a && sok b && (List.range (k + 1)).all fun i => wd (fun n => fpre a (okn a) n && !fpre b (okn b) n) i == 0)) ?_ ?_
    · refine aw_drawP mixed none 2 ?_
      try dsimp only [List.take_succ_cons, List.take_zero, List.take_nil, List.set_cons_zero, List.set_cons_succ, List.cons_append, List.nil_append]
      refine aq0 0 rfl (by decide +kernel) (by decide) (fun _ => o_move (v := .bool _) rfl) ?_
      refine aq0 1 rfl (by decide +kernel) (by decide) (fun _ => o_move (v := .bool _) rfl) ?_
      refine aq_split (g := 20) rfl (fun hg1 => ?_) (fun hg1 => ?_)
      · refine aqy0 (g := 20) 2 rfl (by decide +kernel) (by decide) rfl rfl (fun _ => o_move (v := .int _ _) rfl) ?_
        refine aqyp (g := 20) 3 rfl (by decide +kernel) (by decide) rfl rfl (fun G => w_indexArrN rfl (lk rfl rfl) rfl rfl hk4) ?_
        refine aqyp (g := 20) 4 rfl (by decide +kernel) (by decide) rfl rfl (fun G => w_load1 (v := .int .u64 _) rfl (lk rfl rfl) rfl rfl hx) ?_
        refine aqy0 (g := 20) 5 rfl (by decide +kernel) (by decide) rfl rfl (fun _ => o_move (v := .int _ _) rfl) ?_
        refine aqyp (g := 20) 6 rfl (by decide +kernel) (by decide) rfl rfl (fun G => w_indexArrN rfl (lk rfl rfl) rfl rfl hk4) ?_
        refine aqyp (g := 20) 7 rfl (by decide +kernel) (by decide) rfl rfl (fun G => w_load1 (v := .int .u64 _) rfl (lk rfl rfl) rfl rfl hy) ?_
        refine aqy0 (g := 20) 8 rfl (by decide +kernel) (by decide) rfl rfl (fun _ => o_andNot (r := ((wd (fun n => fpre a (okn a) n && !fpre b (okn b) n) k : Nat) : Int)) rfl rfl (u64_andNot _ _ _)) ?_
        refine aqy0 (g := 20) 9 rfl (by decide +kernel) (by decide) rfl rfl (fun _ => o_eq rfl rfl) ?_
        first | refine aq0 10 rfl (by decide +kernel) (by decide) (fun _ => o_pick_t (v := .bool _) rfl rfl) ?_ | refine aq0 10 rfl (by decide +kernel) (by decide) (fun _ => o_pick_f (v := .bool _) rfl rfl) ?_ | refine aq0 10 rfl (by decide +kernel) (by decide) (fun _ => o_pick_b rfl rfl rfl) ?_
        refine aq0 11 rfl (by decide +kernel) (by decide) (fun _ => o_assign (v := .bool _) rfl) ?_
        exact aa_done (by decide +kernel) (by first | exact fun _ => trivial | exact fun _ => ⟨_, rfl⟩ | exact fun _ => ⟨_, rfl, rfl⟩ | exact fun _ => ⟨_, rfl, rfl, rfl⟩ | exact yet_done (by decide +kernel)) (Out.mk (by first | rfl | (refine congrArg AV.bool ?_; (rw [all_range_step]; generalize ((List.range k).all fun i => wd (fun n => fpre a (okn a) n && !fpre b (okn b) n) i == 0) = q at *; generalize wd (fun n => fpre a (okn a) n && !fpre b (okn b) n) k = m at *; rw [← Bool.and_assoc]; first | (simp_all; done) | (rw [Bool.eq_iff_iff]; simp_all; omega) | grind))) (by repeat (first | exact SubX.refl _ _ | refine SubX.at ?_ | refine SubX.put rfl ?_ | refine SubX.put_same rfl ?_)))
      · refine aqn0 (g := 20) 2 rfl (by decide +kernel) (by decide) rfl rfl rfl ?_
        refine aqn0 (g := 20) 3 rfl (by decide +kernel) (by decide) rfl rfl rfl ?_
        refine aqn0 (g := 20) 4 rfl (by decide +kernel) (by decide) rfl rfl rfl ?_
        refine aqn0 (g := 20) 5 rfl (by decide +kernel) (by decide) rfl rfl rfl ?_
        refine aqn0 (g := 20) 6 rfl (by decide +kernel) (by decide) rfl rfl rfl ?_
        refine aqn0 (g := 20) 7 rfl (by decide +kernel) (by decide) rfl rfl rfl ?_
        refine aqn0 (g := 20) 8 rfl (by decide +kernel) (by decide) rfl rfl rfl ?_
        refine aqn0 (g := 20) 9 rfl (by decide +kernel) (by decide) rfl rfl rfl ?_
        first | refine aq0 10 rfl (by decide +kernel) (by decide) (fun _ => o_pick_t (v := .bool _) rfl rfl) ?_ | refine aq0 10 rfl (by decide +kernel) (by decide) (fun _ => o_pick_f (v := .bool _) rfl rfl) ?_ | refine aq0 10 rfl (by decide +kernel) (by decide) (fun _ => o_pick_b rfl rfl rfl) ?_
        refine aq0 11 rfl (by decide +kernel) (by decide) (fun _ => o_assign (v := .bool _) rfl) ?_
        exact aa_done (by decide +kernel) (by first | exact fun _ => trivial | exact fun _ => ⟨_, rfl⟩ | exact fun _ => ⟨_, rfl, rfl⟩ | exact fun _ => ⟨_, rfl, rfl, rfl⟩ | exact yet_done (by decide +kernel)) (Out.mk (by first | rfl | (refine congrArg AV.bool ?_; (rw [all_range_step]; generalize ((List.range k).all fun i => wd (fun n => fpre a (okn a) n && !fpre b (okn b) n) i == 0) = q at *; generalize wd (fun n => fpre a (okn a) n && !fpre b (okn b) n) k = m at *; rw [← Bool.and_assoc]; first | (simp_all; done) | (rw [Bool.eq_iff_iff]; simp_all; omega) | grind))) (by repeat (first | exact SubX.refl _ _ | refine SubX.at ?_ | refine SubX.put rfl ?_ | refine SubX.put_same rfl ?_)))
    repeat (first | refine join_ret ?_ | refine join_brk ?_ | refine then_nrm ?_ | refine blk_nrm ?_ | refine then_brk ?_ | refine blk_hit ?_ | refine blk_miss rfl ?_ | refine then_ret ?_ | refine blk_ret ?_ | refine aw_seq ?_ | refine aw_block ?_ | refine aw_skip ?_ | refine aw_exit ?_ | refine aw_scope ?_ | refine aw_ret ?_)
    refine aw_region ?_
    first | refine ao1 (by decide) (o_add rfl rfl (wrap64_ok (by omega) (by omega))) ?_ | refine ao1 (by decide) (o_add rfl rfl rfl) ?_
    refine ao1 (by decide) (o_move (v := .int _ _) rfl) ?_
    refine ao_nil ?_
    try dsimp only [List.set_cons_zero, List.set_cons_succ, List.cons_append, List.nil_append, List.take_succ_cons, List.take_zero, List.drop_succ_cons, List.drop_zero, AV.cells, List.length_nil, List.length_cons, Av.put, Nat.reduceAdd, AV.up, AV.up1, List.map_cons, List.map_nil]
    repeat (first | refine join_ret ?_ | refine join_brk ?_ | refine then_nrm ?_ | refine blk_nrm ?_ | refine then_brk ?_ | refine blk_hit ?_ | refine blk_miss rfl ?_ | refine then_ret ?_ | refine blk_ret ?_ | refine aw_seq ?_ | refine aw_block ?_ | refine aw_skip ?_ | refine aw_exit ?_ | refine aw_scope ?_ | refine aw_ret ?_)
    exact ⟨k + 1, by omega, by omega, (by repeat (first | exact Sub.nil | refine Sub.cons (by first | rfl | (simp [get]; done)) ?_)), .refl _ _⟩
  · have : k = 4 := by simp at hc; omega
    subst this
    rw [words_zero]
    repeat (first | refine join_ret ?_ | refine join_brk ?_ | refine then_nrm ?_ | refine blk_nrm ?_ | refine then_brk ?_ | refine blk_hit ?_ | refine blk_miss rfl ?_ | refine then_ret ?_ | refine blk_ret ?_ | refine aw_seq ?_ | refine aw_block ?_ | refine aw_skip ?_ | refine aw_exit ?_ | refine aw_scope ?_ | refine aw_ret ?_)
    refine aw_region ?_
    refine ao1 (by decide) (o_move (v := .bool _) rfl) ?_
    refine ao1 (by decide) (o_assign (v := .bool _) rfl) ?_
    refine ao_nil ?_
    try dsimp only [List.set_cons_zero, List.set_cons_succ, List.cons_append, List.nil_append, List.take_succ_cons, List.take_zero, List.drop_succ_cons, List.drop_zero, AV.cells, List.length_nil, List.length_cons, Av.put, Nat.reduceAdd, AV.up, AV.up1, List.map_cons, List.map_nil]
    repeat (first | refine join_ret ?_ | refine join_brk ?_ | refine then_nrm ?_ | refine blk_nrm ?_ | refine then_brk ?_ | refine blk_hit ?_ | refine blk_miss rfl ?_ | refine then_ret ?_ | refine blk_ret ?_ | refine aw_seq ?_ | refine aw_block ?_ | refine aw_skip ?_ | refine aw_exit ?_ | refine aw_scope ?_ | refine aw_ret ?_)
    rw [show (sok a && sok b && decide (setl (fun n => fpre a (okn a) n && !fpre b (okn b) n) = [])) = spart a b by
      unfold spart
      cases h1 : sok a with
      | false => simp
      | true =>
        cases h2 : sok b with
        | false => simp
        | true => rw [okn_all fun i hi => sok_get h1 hi, okn_all fun i hi => sok_get h2 hi, fpre_all, fpre_all]]
    exact e_done hB (r_tmp rfl .nil) rfl rfl
theorem set_Apart (a b : List Int) (ha : a.length ≤ 1000000) (hb : b.length ≤ 1000000) (H : Heap) : AC Tryd.prog 43 [.pl (a.map eInt), .pl (b.map eInt)] H (Ret (.bool (sapart a b)) H) := by
  refine AC.body (N := 32) [.tmp 4] Tryd.func43 rfl rfl rfl (Nat.le_of_ble_eq_true rfl) fun B hB => ?_
  repeat (first | refine join_ret ?_ | refine join_brk ?_ | refine then_nrm ?_ | refine blk_nrm ?_ | refine then_brk ?_ | refine blk_hit ?_ | refine blk_miss rfl ?_ | refine then_ret ?_ | refine blk_ret ?_ | refine aw_seq ?_ | refine aw_block ?_ | refine aw_skip ?_ | refine aw_exit ?_ | refine aw_scope ?_ | refine aw_ret ?_)
  refine aw_region ?_
  refine ao1 (by decide) (o_assign (v := .bool _) rfl) ?_
  refine ao_nil ?_
  try dsimp only [List.set_cons_zero, List.set_cons_succ, List.cons_append, List.nil_append, List.take_succ_cons, List.take_zero, List.drop_succ_cons, List.drop_zero, AV.cells, List.length_nil, List.length_cons, Av.put, Nat.reduceAdd, AV.up, AV.up1, List.map_cons, List.map_nil]
  repeat (first | refine join_ret ?_ | refine join_brk ?_ | refine then_nrm ?_ | refine blk_nrm ?_ | refine then_brk ?_ | refine blk_hit ?_ | refine blk_miss rfl ?_ | refine then_ret ?_ | refine blk_ret ?_ | refine aw_seq ?_ | refine aw_block ?_ | refine aw_skip ?_ | refine aw_exit ?_ | refine aw_scope ?_ | refine aw_ret ?_)
  refine aw_region ?_
  first | refine ao1 (by decide) (o_move (v := .sl _ _ _ _ _) rfl) ?_ | refine ao1 (by decide) (o_move (v := .pl _) rfl) ?_ | refine ao1 (by decide) (o_move (v := .nsl) rfl) ?_
  first | refine ao1 (by decide) (o_move (v := .sl _ _ _ _ _) rfl) ?_ | refine ao1 (by decide) (o_move (v := .pl _) rfl) ?_ | refine ao1 (by decide) (o_move (v := .nsl) rfl) ?_
  refine ao_ret (set_both _ _ (by assumption) (by assumption) _) rfl (by decide) ?_
  refine ao1 (by decide) (o_move (v := .tup _) rfl) ?_
  refine ao1 (by decide) (o_extract (v := .agg _) rfl rfl) ?_
  refine ao1 (by decide) (o_extract (v := .agg _) rfl rfl) ?_
  refine ao1 (by decide) (o_extract (v := .bool _) rfl rfl) ?_
  refine ao2 (by rintro _ ⟨⟩; decide) (o_allocL (sz := 4) rfl (by decide) rfl) ?_
  refine ao2 (by rintro _ ⟨⟩; decide) (o_allocL (sz := 4) rfl (by decide) rfl) ?_
  refine ao2 (by rintro _ ⟨⟩) (w_storeW (sz := 4) rfl rfl rfl rfl rfl rfl (eWn_len _) rfl (Nat.le_of_ble_eq_true rfl)) ?_
  refine ao2 (by rintro _ ⟨⟩) (w_storeW (sz := 4) rfl rfl rfl rfl rfl rfl (eWn_len _) rfl (Nat.le_of_ble_eq_true rfl)) ?_
  refine ao1 (by decide) (o_assign (v := .bool _) rfl) ?_
  refine ao_nil ?_
  try dsimp only [List.set_cons_zero, List.set_cons_succ, List.cons_append, List.nil_append, List.take_succ_cons, List.take_zero, List.drop_succ_cons, List.drop_zero, AV.cells, List.length_nil, List.length_cons, Av.put, Nat.reduceAdd, AV.up, AV.up1, List.map_cons, List.map_nil]
  repeat (first | refine join_ret ?_ | refine join_brk ?_ | refine then_nrm ?_ | refine blk_nrm ?_ | refine then_brk ?_ | refine blk_hit ?_ | refine blk_miss rfl ?_ | refine then_ret ?_ | refine blk_ret ?_ | refine aw_seq ?_ | refine aw_block ?_ | refine aw_skip ?_ | refine aw_exit ?_ | refine aw_scope ?_ | refine aw_ret ?_)
  refine aw_region ?_
  refine ao1 (by decide) (o_move (v := .int _ _) rfl) ?_
  refine ao_nil ?_
  try dsimp only [List.set_cons_zero, List.set_cons_succ, List.cons_append, List.nil_append, List.take_succ_cons, List.take_zero, List.drop_succ_cons, List.drop_zero, AV.cells, List.length_nil, List.length_cons, Av.put, Nat.reduceAdd, AV.up, AV.up1, List.map_cons, List.map_nil]
  repeat (first | refine join_ret ?_ | refine join_brk ?_ | refine then_nrm ?_ | refine blk_nrm ?_ | refine then_brk ?_ | refine blk_hit ?_ | refine blk_miss rfl ?_ | refine then_ret ?_ | refine blk_ret ?_ | refine aw_seq ?_ | refine aw_block ?_ | refine aw_skip ?_ | refine aw_exit ?_ | refine aw_scope ?_)
  refine aw_loop (G := Nat) (fun k => k ≤ 4) (fun k => [(5, .pt (Lid H.length 0) 0 0 0), (6, .pt (Lid H.length 1) 0 0 0), (7, .bool (sok a && sok b && (List.range k).all fun i => wd (fun n => fpre a (okn a) n && fpre b (okn b) n) i == 0)), (16, .int .i64 (k : Int))]) (fun _ => H ++ [⟨0, 4, [eWn (pof a)]⟩, ⟨0, 4, [eWn (pof b)]⟩]) (fun k => 4 - k) 0 (Nat.zero_le _) (by simp only [List.range_zero, List.all_nil, Bool.and_true]; exact (by repeat (first | exact Sub.nil | refine Sub.cons (by first | rfl | (simp [get]; done)) ?_))) (Fit.refl _ _) ?_
  intro k hk
  repeat (first | refine join_ret ?_ | refine join_brk ?_ | refine then_nrm ?_ | refine blk_nrm ?_ | refine then_brk ?_ | refine blk_hit ?_ | refine blk_miss rfl ?_ | refine then_ret ?_ | refine blk_ret ?_ | refine aw_seq ?_ | refine aw_block ?_ | refine aw_skip ?_ | refine aw_exit ?_ | refine aw_scope ?_ | refine aw_ret ?_)
  refine aw_region ?_
  refine ao1 (by decide) (o_lt rfl rfl) ?_
  refine ao_nil ?_
  try dsimp only [List.set_cons_zero, List.set_cons_succ, List.cons_append, List.nil_append, List.take_succ_cons, List.take_zero, List.drop_succ_cons, List.drop_zero, AV.cells, List.length_nil, List.length_cons, Av.put, Nat.reduceAdd, AV.up, AV.up1, List.map_cons, List.map_nil]
  repeat (first | refine join_ret ?_ | refine join_brk ?_ | refine then_nrm ?_ | refine blk_nrm ?_ | refine then_brk ?_ | refine blk_hit ?_ | refine blk_miss rfl ?_ | refine then_ret ?_ | refine blk_ret ?_ | refine aw_seq ?_ | refine aw_block ?_ | refine aw_skip ?_ | refine aw_exit ?_ | refine aw_scope ?_ | refine aw_ret ?_)
  refine aw_cond rfl (fun hc => ?_) (fun hc => ?_)
  · have hk4 : k < 4 := by simp at hc; omega
    have hx : (eWn (pof a))[0 + k * 1]? = some (.int .u64 ((wd (fpre a (okn a)) k : Nat) : Int)) := by rw [Nat.zero_add, Nat.mul_one]; exact eWn_get _ hk4
    have hy : (eWn (pof b))[0 + k * 1]? = some (.int .u64 ((wd (fpre b (okn b)) k : Nat) : Int)) := by rw [Nat.zero_add, Nat.mul_one]; exact eWn_get _ hk4
    repeat (first | refine join_ret ?_ | refine join_brk ?_ | refine then_nrm ?_ | refine blk_nrm ?_ | refine then_brk ?_ | refine blk_hit ?_ | refine blk_miss rfl ?_ | refine then_ret ?_ | refine blk_ret ?_ | refine aw_seq ?_ | refine aw_block ?_ | refine aw_skip ?_ | refine aw_exit ?_ | refine aw_scope ?_ | refine aw_ret ?_)
    refine aw_region ?_
    refine ao1 (by decide) (o_move (v := .int _ _) rfl) ?_
    refine ao1 (by decide) (o_assign (v := .int _ _) rfl) ?_
    refine ao_nil ?_
    try dsimp only [List.set_cons_zero, List.set_cons_succ, List.cons_append, List.nil_append, List.take_succ_cons, List.take_zero, List.drop_succ_cons, List.drop_zero, AV.cells, List.length_nil, List.length_cons, Av.put, Nat.reduceAdd, AV.up, AV.up1, List.map_cons, List.map_nil]
    repeat (first | refine join_ret ?_ | refine join_brk ?_ | refine then_nrm ?_ | refine blk_nrm ?_ | refine then_brk ?_ | refine blk_hit ?_ | refine blk_miss rfl ?_ | refine then_ret ?_ | refine blk_ret ?_ | refine aw_seq ?_ | refine aw_block ?_ | refine aw_skip ?_ | refine aw_exit ?_ | refine aw_scope ?_ | refine aw_ret ?_)
    refine aw_of_out 7 (.bool (sok a && sok b && (List.range (k + 1)).all fun i => wd (fun n => fpre a (okn a) n && fpre b (okn b) n) i == 0)) ?_ ?_
    · refine aw_drawP mixed none 2 ?_
      try dsimp only [List.take_succ_cons, List.take_zero, List.take_nil, List.set_cons_zero, List.set_cons_succ, List.cons_append, List.nil_append]
      refine aq0 0 rfl (by decide +kernel) (by decide) (fun _ => o_move (v := .bool _) rfl) ?_
      refine aq0 1 rfl (by decide +kernel) (by decide) (fun _ => o_move (v := .bool _) rfl) ?_
      refine aq_split (g := 20) rfl (fun hg1 => ?_) (fun hg1 => ?_)
      · refine aqy0 (g := 20) 2 rfl (by decide +kernel) (by decide) rfl rfl (fun _ => o_move (v := .int _ _) rfl) ?_
        refine aqyp (g := 20) 3 rfl (by decide +kernel) (by decide) rfl rfl (fun G => w_indexArrN rfl (lk rfl rfl) rfl rfl hk4) ?_
        refine aqyp (g := 20) 4 rfl (by decide +kernel) (by decide) rfl rfl (fun G => w_load1 (v := .int .u64 _) rfl (lk rfl rfl) rfl rfl hx) ?_
        refine aqy0 (g := 20) 5 rfl (by decide +kernel) (by decide) rfl rfl (fun _ => o_move (v := .int _ _) rfl) ?_
        refine aqyp (g := 20) 6 rfl (by decide +kernel) (by decide) rfl rfl (fun G => w_indexArrN rfl (lk rfl rfl) rfl rfl hk4) ?_
        refine aqyp (g := 20) 7 rfl (by decide +kernel) (by decide) rfl rfl (fun G => w_load1 (v := .int .u64 _) rfl (lk rfl rfl) rfl rfl hy) ?_
        refine aqy0 (g := 20) 8 rfl (by decide +kernel) (by decide) rfl rfl (fun _ => o_and (r := ((wd (fun n => fpre a (okn a) n && fpre b (okn b) n) k : Nat) : Int)) rfl rfl (by rw [u64_and _ _ (wd_lt _ _) (wd_lt _ _), wd_and])) ?_
        refine aqy0 (g := 20) 9 rfl (by decide +kernel) (by decide) rfl rfl (fun _ => o_eq rfl rfl) ?_
        first | refine aq0 10 rfl (by decide +kernel) (by decide) (fun _ => o_pick_t (v := .bool _) rfl rfl) ?_ | refine aq0 10 rfl (by decide +kernel) (by decide) (fun _ => o_pick_f (v := .bool _) rfl rfl) ?_ | refine aq0 10 rfl (by decide +kernel) (by decide) (fun _ => o_pick_b rfl rfl rfl) ?_
        refine aq0 11 rfl (by decide +kernel) (by decide) (fun _ => o_assign (v := .bool _) rfl) ?_
        exact aa_done (by decide +kernel) (by first | exact fun _ => trivial | exact fun _ => ⟨_, rfl⟩ | exact fun _ => ⟨_, rfl, rfl⟩ | exact fun _ => ⟨_, rfl, rfl, rfl⟩ | exact yet_done (by decide +kernel)) (Out.mk (by first | rfl | (refine congrArg AV.bool ?_; (rw [all_range_step]; generalize ((List.range k).all fun i => wd (fun n => fpre a (okn a) n && fpre b (okn b) n) i == 0) = q at *; generalize wd (fun n => fpre a (okn a) n && fpre b (okn b) n) k = m at *; rw [← Bool.and_assoc]; first | (simp_all; done) | (rw [Bool.eq_iff_iff]; simp_all; omega) | grind))) (by repeat (first | exact SubX.refl _ _ | refine SubX.at ?_ | refine SubX.put rfl ?_ | refine SubX.put_same rfl ?_)))
      · refine aqn0 (g := 20) 2 rfl (by decide +kernel) (by decide) rfl rfl rfl ?_
        refine aqn0 (g := 20) 3 rfl (by decide +kernel) (by decide) rfl rfl rfl ?_
        refine aqn0 (g := 20) 4 rfl (by decide +kernel) (by decide) rfl rfl rfl ?_
        refine aqn0 (g := 20) 5 rfl (by decide +kernel) (by decide) rfl rfl rfl ?_
        refine aqn0 (g := 20) 6 rfl (by decide +kernel) (by decide) rfl rfl rfl ?_
        refine aqn0 (g := 20) 7 rfl (by decide +kernel) (by decide) rfl rfl rfl ?_
        refine aqn0 (g := 20) 8 rfl (by decide +kernel) (by decide) rfl rfl rfl ?_
        refine aqn0 (g := 20) 9 rfl (by decide +kernel) (by decide) rfl rfl rfl ?_
        first | refine aq0 10 rfl (by decide +kernel) (by decide) (fun _ => o_pick_t (v := .bool _) rfl rfl) ?_ | refine aq0 10 rfl (by decide +kernel) (by decide) (fun _ => o_pick_f (v := .bool _) rfl rfl) ?_ | refine aq0 10 rfl (by decide +kernel) (by decide) (fun _ => o_pick_b rfl rfl rfl) ?_
        refine aq0 11 rfl (by decide +kernel) (by decide) (fun _ => o_assign (v := .bool _) rfl) ?_
        exact aa_done (by decide +kernel) (by first | exact fun _ => trivial | exact fun _ => ⟨_, rfl⟩ | exact fun _ => ⟨_, rfl, rfl⟩ | exact fun _ => ⟨_, rfl, rfl, rfl⟩ | exact yet_done (by decide +kernel)) (Out.mk (by first | rfl | (refine congrArg AV.bool ?_; (rw [all_range_step]; generalize ((List.range k).all fun i => wd (fun n => fpre a (okn a) n && fpre b (okn b) n) i == 0) = q at *; generalize wd (fun n => fpre a (okn a) n && fpre b (okn b) n) k = m at *; rw [← Bool.and_assoc]; first | (simp_all; done) | (rw [Bool.eq_iff_iff]; simp_all; omega) | grind))) (by repeat (first | exact SubX.refl _ _ | refine SubX.at ?_ | refine SubX.put rfl ?_ | refine SubX.put_same rfl ?_)))
    repeat (first | refine join_ret ?_ | refine join_brk ?_ | refine then_nrm ?_ | refine blk_nrm ?_ | refine then_brk ?_ | refine blk_hit ?_ | refine blk_miss rfl ?_ | refine then_ret ?_ | refine blk_ret ?_ | refine aw_seq ?_ | refine aw_block ?_ | refine aw_skip ?_ | refine aw_exit ?_ | refine aw_scope ?_ | refine aw_ret ?_)
    refine aw_region ?_
    first | refine ao1 (by decide) (o_add rfl rfl (wrap64_ok (by omega) (by omega))) ?_ | refine ao1 (by decide) (o_add rfl rfl rfl) ?_
    refine ao1 (by decide) (o_move (v := .int _ _) rfl) ?_
    refine ao_nil ?_
    try dsimp only [List.set_cons_zero, List.set_cons_succ, List.cons_append, List.nil_append, List.take_succ_cons, List.take_zero, List.drop_succ_cons, List.drop_zero, AV.cells, List.length_nil, List.length_cons, Av.put, Nat.reduceAdd, AV.up, AV.up1, List.map_cons, List.map_nil]
    repeat (first | refine join_ret ?_ | refine join_brk ?_ | refine then_nrm ?_ | refine blk_nrm ?_ | refine then_brk ?_ | refine blk_hit ?_ | refine blk_miss rfl ?_ | refine then_ret ?_ | refine blk_ret ?_ | refine aw_seq ?_ | refine aw_block ?_ | refine aw_skip ?_ | refine aw_exit ?_ | refine aw_scope ?_ | refine aw_ret ?_)
    exact ⟨k + 1, by omega, by omega, (by repeat (first | exact Sub.nil | refine Sub.cons (by first | rfl | (simp [get]; done)) ?_)), .refl _ _⟩
  · have : k = 4 := by simp at hc; omega
    subst this
    rw [words_zero]
    repeat (first | refine join_ret ?_ | refine join_brk ?_ | refine then_nrm ?_ | refine blk_nrm ?_ | refine then_brk ?_ | refine blk_hit ?_ | refine blk_miss rfl ?_ | refine then_ret ?_ | refine blk_ret ?_ | refine aw_seq ?_ | refine aw_block ?_ | refine aw_skip ?_ | refine aw_exit ?_ | refine aw_scope ?_ | refine aw_ret ?_)
    refine aw_region ?_
    refine ao1 (by decide) (o_move (v := .bool _) rfl) ?_
    refine ao1 (by decide) (o_assign (v := .bool _) rfl) ?_
    refine ao_nil ?_
    try dsimp only [List.set_cons_zero, List.set_cons_succ, List.cons_append, List.nil_append, List.take_succ_cons, List.take_zero, List.drop_succ_cons, List.drop_zero, AV.cells, List.length_nil, List.length_cons, Av.put, Nat.reduceAdd, AV.up, AV.up1, List.map_cons, List.map_nil]
    repeat (first | refine join_ret ?_ | refine join_brk ?_ | refine then_nrm ?_ | refine blk_nrm ?_ | refine then_brk ?_ | refine blk_hit ?_ | refine blk_miss rfl ?_ | refine then_ret ?_ | refine blk_ret ?_ | refine aw_seq ?_ | refine aw_block ?_ | refine aw_skip ?_ | refine aw_exit ?_ | refine aw_scope ?_ | refine aw_ret ?_)
    rw [show (sok a && sok b && decide (setl (fun n => fpre a (okn a) n && fpre b (okn b) n) = [])) = sapart a b by
      unfold sapart
      cases h1 : sok a with
      | false => simp
      | true =>
        cases h2 : sok b with
        | false => simp
        | true => rw [okn_all fun i hi => sok_get h1 hi, okn_all fun i hi => sok_get h2 hi, fpre_all, fpre_all]]
    exact e_done hB (r_tmp rfl .nil) rfl rfl
end Go.Av

namespace Go.Av
open Go.Proofs
set_option maxRecDepth 10000
set_option linter.unusedSimpArgs false
set_option linter.unusedVariables false

theorem setN_len (f : Nat → Bool) (n : Nat) : (setN f n).length ≤ 64 * n := by
  rw [setN, List.length_map]
  exact Nat.le_trans (List.length_filter_le _ _) (by simp)
theorem setl_len (f : Nat → Bool) : (setl f).length ≤ 256 := setN_len f 4
structure LS where
  acc : List Int
  x : Nat
set_option maxHeartbeats 0 in
theorem words_list (f : Nat → Bool) (H : Heap) : ACT Tryd.prog KD 66 [.agg (eWn (wd f))] H (Ret (.pl ((setl f).map eInt)) H) := by
  have hbel : ∀ (n : Nat) (g m : Nat) (l : List Int), ∀ o ∈ [AObj.mk 0 4 [eWn (wd f)], AObj.mk g 1 (l.map eInt)], ∀ r ∈ o.rows, AV.bels n r = true := by
    intro n g m l o ho r hr
    simp only [List.mem_cons, List.not_mem_nil, or_false] at ho
    rcases ho with rfl | rfl
    · simp only [List.mem_singleton] at hr; subst hr; exact eWn_bels _ _
    · exact ints_bel _ _ r hr
  refine ACT.body (N := 27) [.tmp 2] Tryd.func66 rfl rfl rfl (Nat.le_of_ble_eq_true rfl) fun B hB => ?_
  repeat (first | refine join_ret ?_ | refine join_brk ?_ | refine then_nrm ?_ | refine blk_nrm ?_ | refine then_brk ?_ | refine blk_hit ?_ | refine blk_miss rfl ?_ | refine then_ret ?_ | refine blk_ret ?_ | refine aw_seq ?_ | refine aw_block ?_ | refine aw_skip ?_ | refine aw_exit ?_ | refine aw_scope ?_ | refine aw_ret ?_)
  refine aw_region ?_
  refine ao2 (by rintro _ ⟨⟩; decide) (o_boxL (sz := 4) (v := .agg _) rfl rfl rfl (eWn_len _) (by decide) rfl) ?_
  first | refine ao1 (by decide) (o_assign (v := .sl _ _ _ _ _) rfl) ?_ | refine ao1 (by decide) (o_assign (v := .pl _) rfl) ?_ | refine ao1 (by decide) (o_assign (v := .nsl) rfl) ?_
  refine ao_nil ?_
  try dsimp only [List.set_cons_zero, List.set_cons_succ, List.cons_append, List.nil_append, List.take_succ_cons, List.take_zero, List.drop_succ_cons, List.drop_zero, AV.cells, List.length_nil, List.length_cons, Av.put, Nat.reduceAdd, AV.up, AV.up1, List.map_cons, List.map_nil]
  repeat (first | refine join_ret ?_ | refine join_brk ?_ | refine then_nrm ?_ | refine blk_nrm ?_ | refine then_brk ?_ | refine blk_hit ?_ | refine blk_miss rfl ?_ | refine then_ret ?_ | refine blk_ret ?_ | refine aw_seq ?_ | refine aw_block ?_ | refine aw_skip ?_ | refine aw_exit ?_ | refine aw_scope ?_ | refine aw_ret ?_)
  refine aw_region ?_
  first | refine ao1 (by decide) (o_assign (v := .sl _ _ _ _ _) rfl) ?_ | refine ao1 (by decide) (o_assign (v := .pl _) rfl) ?_ | refine ao1 (by decide) (o_assign (v := .nsl) rfl) ?_
  refine ao_nil ?_
  try dsimp only [List.set_cons_zero, List.set_cons_succ, List.cons_append, List.nil_append, List.take_succ_cons, List.take_zero, List.drop_succ_cons, List.drop_zero, AV.cells, List.length_nil, List.length_cons, Av.put, Nat.reduceAdd, AV.up, AV.up1, List.map_cons, List.map_nil]
  repeat (first | refine join_ret ?_ | refine join_brk ?_ | refine then_nrm ?_ | refine blk_nrm ?_ | refine then_brk ?_ | refine blk_hit ?_ | refine blk_miss rfl ?_ | refine then_ret ?_ | refine blk_ret ?_ | refine aw_seq ?_ | refine aw_block ?_ | refine aw_skip ?_ | refine aw_exit ?_ | refine aw_scope ?_)
  refine aw_ghostL (k := 1) 3 1 rfl (by decide) rfl ?_
  repeat (first | refine join_ret ?_ | refine join_brk ?_ | refine then_nrm ?_ | refine blk_nrm ?_ | refine then_brk ?_ | refine blk_hit ?_ | refine blk_miss rfl ?_ | refine then_ret ?_ | refine blk_ret ?_ | refine aw_seq ?_ | refine aw_block ?_ | refine aw_skip ?_ | refine aw_exit ?_ | refine aw_scope ?_ | refine aw_ret ?_)
  refine aw_region ?_
  refine ao1 (by decide) (w_loadR rfl (lk rfl rfl) rfl rfl (eWn_len _)) ?_
  refine ao1 (by decide) (o_move (v := .int _ _) rfl) ?_
  refine ao_nil ?_
  try dsimp only [List.set_cons_zero, List.set_cons_succ, List.cons_append, List.nil_append, List.take_succ_cons, List.take_zero, List.drop_succ_cons, List.drop_zero, AV.cells, List.length_nil, List.length_cons, Av.put, Nat.reduceAdd, AV.up, AV.up1, List.map_cons, List.map_nil]
  repeat (first | refine join_ret ?_ | refine join_brk ?_ | refine then_nrm ?_ | refine blk_nrm ?_ | refine then_brk ?_ | refine blk_hit ?_ | refine blk_miss rfl ?_ | refine then_ret ?_ | refine blk_ret ?_ | refine aw_seq ?_ | refine aw_block ?_ | refine aw_skip ?_ | refine aw_exit ?_ | refine aw_scope ?_)
  refine aw_loop (G := Nat) (fun i => i ≤ 4) (fun i => [(KT, KD.av), (3, .sl (Lid H.length 1) (setN f i).length 0 (setN f i).length (setN f i).length), (6, .agg (eWn (wd f))), (7, .int .i64 (i : Int))]) (fun i => H ++ [⟨0, 4, [eWn (wd f)]⟩, ⟨(setN f i).length, 1, (setN f i).map eInt⟩]) (fun i => 4 - i) 0 (Nat.zero_le _) (by repeat (first | exact Sub.nil | refine Sub.cons (by first | rfl | (simp [get]; done)) ?_)) (Fit.refl _ _) ?_
  intro i hi
  repeat (first | refine join_ret ?_ | refine join_brk ?_ | refine then_nrm ?_ | refine blk_nrm ?_ | refine then_brk ?_ | refine blk_hit ?_ | refine blk_miss rfl ?_ | refine then_ret ?_ | refine blk_ret ?_ | refine aw_seq ?_ | refine aw_block ?_ | refine aw_skip ?_ | refine aw_exit ?_ | refine aw_scope ?_ | refine aw_ret ?_)
  refine aw_region ?_
  refine ao1 (by decide) (o_lt rfl rfl) ?_
  refine ao_nil ?_
  try dsimp only [List.set_cons_zero, List.set_cons_succ, List.cons_append, List.nil_append, List.take_succ_cons, List.take_zero, List.drop_succ_cons, List.drop_zero, AV.cells, List.length_nil, List.length_cons, Av.put, Nat.reduceAdd, AV.up, AV.up1, List.map_cons, List.map_nil]
  repeat (first | refine join_ret ?_ | refine join_brk ?_ | refine then_nrm ?_ | refine blk_nrm ?_ | refine then_brk ?_ | refine blk_hit ?_ | refine blk_miss rfl ?_ | refine then_ret ?_ | refine blk_ret ?_ | refine aw_seq ?_ | refine aw_block ?_ | refine aw_skip ?_ | refine aw_exit ?_ | refine aw_scope ?_ | refine aw_ret ?_)
  refine aw_cond rfl (fun hc => ?_) (fun hc => ?_)
  · have hi4 : i < 4 := by simp at hc; omega
    have hcell : (eWn (wd f))[((i : Nat) : Int).toNat * 1]? = some (.int .u64 ((wd f i : Nat) : Int)) := by show (eWn (wd f))[i * 1]? = _; rw [Nat.mul_one]; exact eWn_get _ hi4
    have hstep := setN_step f i
    have hslen := setN_len f (i + 1)
    repeat (first | refine join_ret ?_ | refine join_brk ?_ | refine then_nrm ?_ | refine blk_nrm ?_ | refine then_brk ?_ | refine blk_hit ?_ | refine blk_miss rfl ?_ | refine then_ret ?_ | refine blk_ret ?_ | refine aw_seq ?_ | refine aw_block ?_ | refine aw_skip ?_ | refine aw_exit ?_ | refine aw_scope ?_ | refine aw_ret ?_)
    refine aw_region ?_
    refine ao1 (by decide) (o_move (v := .int _ _) rfl) ?_
    refine ao1 (by decide) (o_index1 (sz := 1) (v := .int .u64 _) rfl rfl (by omega) (by omega) hcell) ?_
    refine ao1 (by decide) (o_assign (v := .int _ _) rfl) ?_
    refine ao1 (by decide) (o_assign (v := .int _ _) rfl) ?_
    refine ao_nil ?_
    try dsimp only [List.set_cons_zero, List.set_cons_succ, List.cons_append, List.nil_append, List.take_succ_cons, List.take_zero, List.drop_succ_cons, List.drop_zero, AV.cells, List.length_nil, List.length_cons, Av.put, Nat.reduceAdd, AV.up, AV.up1, List.map_cons, List.map_nil]
    repeat (first | refine join_ret ?_ | refine join_brk ?_ | refine then_nrm ?_ | refine blk_nrm ?_ | refine then_brk ?_ | refine blk_hit ?_ | refine blk_miss rfl ?_ | refine then_ret ?_ | refine blk_ret ?_ | refine aw_seq ?_ | refine aw_block ?_ | refine aw_skip ?_ | refine aw_exit ?_ | refine aw_scope ?_)
    refine aw_loop (G := LS) (fun s => s.x < 18446744073709551616 ∧ s.acc ++ (bl s.x).map (fun j : Nat => ((64 * i + j : Nat) : Int)) = setN f (i + 1)) (fun s => [(KT, KD.av), (3, .sl (Lid H.length 1) s.acc.length 0 s.acc.length s.acc.length), (4, .int .i64 (i : Int)), (5, .int .u64 (s.x : Int)), (6, .agg (eWn (wd f))), (7, .int .i64 (i : Int))]) (fun s => H ++ [⟨0, 4, [eWn (wd f)]⟩, ⟨s.acc.length, 1, s.acc.map eInt⟩]) (fun s => s.x) ⟨setN f i, wd f i⟩ ⟨wd_lt f i, hstep.symm⟩ (by repeat (first | exact Sub.nil | refine Sub.cons (by first | rfl | (simp [get]; done)) ?_)) (Fit.refl _ _) ?_
    rintro ⟨acc, x⟩ ⟨hx64, hacc⟩
    simp only at hx64 hacc ⊢
    have hal : acc.length ≤ 256 := by
      have := congrArg List.length hacc
      rw [List.length_append] at this
      omega
    repeat (first | refine join_ret ?_ | refine join_brk ?_ | refine then_nrm ?_ | refine blk_nrm ?_ | refine then_brk ?_ | refine blk_hit ?_ | refine blk_miss rfl ?_ | refine then_ret ?_ | refine blk_ret ?_ | refine aw_seq ?_ | refine aw_block ?_ | refine aw_skip ?_ | refine aw_exit ?_ | refine aw_scope ?_ | refine aw_ret ?_)
    refine aw_region ?_
    refine ao1 (by decide) (o_move (v := .int _ _) rfl) ?_
    refine ao1 (by decide) (o_ne rfl rfl) ?_
    refine ao_nil ?_
    try dsimp only [List.set_cons_zero, List.set_cons_succ, List.cons_append, List.nil_append, List.take_succ_cons, List.take_zero, List.drop_succ_cons, List.drop_zero, AV.cells, List.length_nil, List.length_cons, Av.put, Nat.reduceAdd, AV.up, AV.up1, List.map_cons, List.map_nil]
    repeat (first | refine join_ret ?_ | refine join_brk ?_ | refine then_nrm ?_ | refine blk_nrm ?_ | refine then_brk ?_ | refine blk_hit ?_ | refine blk_miss rfl ?_ | refine then_ret ?_ | refine blk_ret ?_ | refine aw_seq ?_ | refine aw_block ?_ | refine aw_skip ?_ | refine aw_exit ?_ | refine aw_scope ?_ | refine aw_ret ?_)
    refine aw_cond rfl (fun hc => ?_) (fun hc => ?_)
    · have hx0 : x ≠ 0 := by simp at hc; omega
      have hb := bl_step hx0 hx64
      have hlt := and_pred_lt hx0
      obtain ⟨hk, _⟩ := low_bit hx0 hx64
      repeat (first | refine join_ret ?_ | refine join_brk ?_ | refine then_nrm ?_ | refine blk_nrm ?_ | refine then_brk ?_ | refine blk_hit ?_ | refine blk_miss rfl ?_ | refine then_ret ?_ | refine blk_ret ?_ | refine aw_seq ?_ | refine aw_block ?_ | refine aw_skip ?_ | refine aw_exit ?_ | refine aw_scope ?_ | refine aw_ret ?_)
      refine aw_region ?_
      first | refine ao1 (by decide) (o_move (v := .sl _ _ _ _ _) rfl) ?_ | refine ao1 (by decide) (o_move (v := .pl _) rfl) ?_ | refine ao1 (by decide) (o_move (v := .nsl) rfl) ?_
      refine ao1 (by decide) (o_move (v := .int _ _) rfl) ?_
      refine ao1 (by decide) (o_mul (r := ((64 * i : Nat) : Int)) rfl rfl (by rw [show (64 : Int) * (i : Int) = ((64 * i : Nat) : Int) by omega]; exact wrap64_ok (by omega) (by omega))) ?_
      refine ao1 (by decide) (o_move (v := .int _ _) rfl) ?_
      refine ao2 (by rintro _ ⟨⟩; decide) (V2.callT (bits_TZ x hx64 _) rfl rfl) ?_
      refine ao1 (by decide) (o_add (r := ((64 * i + Lib.ctz 64 x : Nat) : Int)) rfl rfl (by rw [show ((64 * i : Nat) : Int) + ((Lib.ctz 64 x : Nat) : Int) = ((64 * i + Lib.ctz 64 x : Nat) : Int) by omega]; exact wrap64_ok (by omega) (by omega))) ?_
      refine ao2 (by rintro _ ⟨⟩; decide) (o_buildSlice1L (sz := 1) (v := .int _ _) rfl (by decide) (by decide) rfl rfl rfl rfl rfl) ?_
      first | refine ao2 (by rintro _ ⟨⟩; decide) (w_append rfl rfl rfl rfl rfl (w_src1 rfl rfl rfl rfl rfl rfl) rfl (by first | (simp; done) | (simp; omega)) (by simp; done) (by first | (simp; done) | (simp; omega)) (by first | (simp; done) | (simp; omega))) ?_ | refine ao2 (by rintro _ ⟨⟩; decide) (o_append_nslL rfl (by decide) rfl (w_src1 rfl rfl rfl rfl rfl rfl) (by simp; done) (by simp; done) (by simp; done) rfl) ?_
      first | refine ao1 (by decide) (o_assign (v := .sl _ _ _ _ _) rfl) ?_ | refine ao1 (by decide) (o_assign (v := .pl _) rfl) ?_ | refine ao1 (by decide) (o_assign (v := .nsl) rfl) ?_
      refine ao_nil ?_
      try dsimp only [List.set_cons_zero, List.set_cons_succ, List.cons_append, List.nil_append, List.take_succ_cons, List.take_zero, List.drop_succ_cons, List.drop_zero, AV.cells, List.length_nil, List.length_cons, Av.put, Nat.reduceAdd, AV.up, AV.up1, List.map_cons, List.map_nil]
      rw [show (acc.map eInt).take acc.length = acc.map eInt from List.take_of_length_le (by simp)]
      repeat (first | refine join_ret ?_ | refine join_brk ?_ | refine then_nrm ?_ | refine blk_nrm ?_ | refine then_brk ?_ | refine blk_hit ?_ | refine blk_miss rfl ?_ | refine then_ret ?_ | refine blk_ret ?_ | refine aw_seq ?_ | refine aw_block ?_ | refine aw_skip ?_ | refine aw_exit ?_ | refine aw_scope ?_ | refine aw_ret ?_)
      refine aw_region ?_
      refine ao1 (by decide) (o_move (v := .int _ _) rfl) ?_
      refine ao1 (by decide) (o_move (v := .int _ _) rfl) ?_
      refine ao1 (by decide) (o_sub (r := ((x - 1 : Nat) : Int)) rfl rfl (u64_pred x hx0 hx64)) ?_
      refine ao1 (by decide) (o_and (r := ((x &&& (x - 1) : Nat) : Int)) rfl rfl (u64_and _ _ hx64 (by omega))) ?_
      refine ao1 (by decide) (o_assign (v := .int _ _) rfl) ?_
      refine ao_nil ?_
      try dsimp only [List.set_cons_zero, List.set_cons_succ, List.cons_append, List.nil_append, List.take_succ_cons, List.take_zero, List.drop_succ_cons, List.drop_zero, AV.cells, List.length_nil, List.length_cons, Av.put, Nat.reduceAdd, AV.up, AV.up1, List.map_cons, List.map_nil]
      repeat (first | refine join_ret ?_ | refine join_brk ?_ | refine then_nrm ?_ | refine blk_nrm ?_ | refine then_brk ?_ | refine blk_hit ?_ | refine blk_miss rfl ?_ | refine then_ret ?_ | refine blk_ret ?_ | refine aw_seq ?_ | refine aw_block ?_ | refine aw_skip ?_ | refine aw_exit ?_ | refine aw_scope ?_ | refine aw_ret ?_)
      refine ⟨⟨acc ++ [((64 * i + Lib.ctz 64 x : Nat) : Int)], x &&& (x - 1)⟩, hlt, ⟨by simp only; omega, ?_⟩, by simp only [List.length_append, List.length_cons, List.length_nil]; exact (by repeat (first | exact Sub.nil | refine Sub.cons (by first | rfl | (simp [get]; done)) ?_)), Fit.loc hB (by simp only [List.length_append, List.length_cons, List.length_nil, List.map_append, List.map_cons, List.map_nil]; rfl) (by repeat (first | exact EBel.nil | refine EBel.cons (by first | rfl | (simp [AV.bel, AV.bels, Lid]; done) | (simp [AV.bel, AV.bels, Lid]; omega)) ?_)) (hbel _ _ 0 _)⟩
      simp only
      rw [← hacc, hb, List.map_cons, List.append_assoc]
      rfl
    · have hx0 : x = 0 := by simp at hc; omega
      subst hx0
      rw [bl_zero, List.map_nil, List.append_nil] at hacc
      subst hacc
      repeat (first | refine join_ret ?_ | refine join_brk ?_ | refine then_nrm ?_ | refine blk_nrm ?_ | refine then_brk ?_ | refine blk_hit ?_ | refine blk_miss rfl ?_ | refine then_ret ?_ | refine blk_ret ?_ | refine aw_seq ?_ | refine aw_block ?_ | refine aw_skip ?_ | refine aw_exit ?_ | refine aw_scope ?_ | refine aw_ret ?_)
      refine aw_region ?_
      first | refine ao1 (by decide) (o_add rfl rfl (wrap64_ok (by omega) (by omega))) ?_ | refine ao1 (by decide) (o_add rfl rfl rfl) ?_
      refine ao1 (by decide) (o_move (v := .int _ _) rfl) ?_
      refine ao_nil ?_
      try dsimp only [List.set_cons_zero, List.set_cons_succ, List.cons_append, List.nil_append, List.take_succ_cons, List.take_zero, List.drop_succ_cons, List.drop_zero, AV.cells, List.length_nil, List.length_cons, Av.put, Nat.reduceAdd, AV.up, AV.up1, List.map_cons, List.map_nil]
      repeat (first | refine join_ret ?_ | refine join_brk ?_ | refine then_nrm ?_ | refine blk_nrm ?_ | refine then_brk ?_ | refine blk_hit ?_ | refine blk_miss rfl ?_ | refine then_ret ?_ | refine blk_ret ?_ | refine aw_seq ?_ | refine aw_block ?_ | refine aw_skip ?_ | refine aw_exit ?_ | refine aw_scope ?_ | refine aw_ret ?_)
      exact ⟨i + 1, by omega, by omega, (by repeat (first | exact Sub.nil | refine Sub.cons (by first | rfl | (simp [get]; done)) ?_)), Fit.refl _ _⟩
  · have : i = 4 := by simp at hc; omega
    subst this
    rw [setN_four]
    repeat (first | refine join_ret ?_ | refine join_brk ?_ | refine then_nrm ?_ | refine blk_nrm ?_ | refine then_brk ?_ | refine blk_hit ?_ | refine blk_miss rfl ?_ | refine then_ret ?_ | refine blk_ret ?_ | refine aw_seq ?_ | refine aw_block ?_ | refine aw_skip ?_ | refine aw_exit ?_ | refine aw_scope ?_ | refine aw_ret ?_)
    refine aw_region ?_
    first | refine ao1 (by decide) (o_move (v := .sl _ _ _ _ _) rfl) ?_ | refine ao1 (by decide) (o_move (v := .pl _) rfl) ?_ | refine ao1 (by decide) (o_move (v := .nsl) rfl) ?_
    first | refine ao1 (by decide) (o_assign (v := .sl _ _ _ _ _) rfl) ?_ | refine ao1 (by decide) (o_assign (v := .pl _) rfl) ?_ | refine ao1 (by decide) (o_assign (v := .nsl) rfl) ?_
    refine ao_nil ?_
    try dsimp only [List.set_cons_zero, List.set_cons_succ, List.cons_append, List.nil_append, List.take_succ_cons, List.take_zero, List.drop_succ_cons, List.drop_zero, AV.cells, List.length_nil, List.length_cons, Av.put, Nat.reduceAdd, AV.up, AV.up1, List.map_cons, List.map_nil]
    repeat (first | refine join_ret ?_ | refine join_brk ?_ | refine then_nrm ?_ | refine blk_nrm ?_ | refine then_brk ?_ | refine blk_hit ?_ | refine blk_miss rfl ?_ | refine then_ret ?_ | refine blk_ret ?_ | refine aw_seq ?_ | refine aw_block ?_ | refine aw_skip ?_ | refine aw_exit ?_ | refine aw_scope ?_)
    refine aw_freezeL (ys := (setl f).map eInt) 2 rfl rfl rfl rfl (by rw [List.drop_zero, List.take_of_length_le (by simp)]) (by simp) (ints_bel 0 _) ?_
    refine aw_ret ?_
    exact e_done hB (r_tmp rfl .nil) rfl rfl

theorem set_Join_1 (f g : Nat → Bool) (k : Nat) (H : Heap) : AC Tryd.prog 52 [.int .u64 (wd f k : Int), .int .u64 (wd g k : Int)] H (Ret (.int .u64 ((wd (fun n => f n || g n) k : Nat) : Int)) H) := by
  refine AC.body (N := 8) [.tmp 4] Tryd.func52 rfl rfl rfl (Nat.le_of_ble_eq_true rfl) fun B hB => ?_
  repeat (first | refine join_ret ?_ | refine join_brk ?_ | refine then_nrm ?_ | refine blk_nrm ?_ | refine then_brk ?_ | refine blk_hit ?_ | refine blk_miss rfl ?_ | refine then_ret ?_ | refine blk_ret ?_ | refine aw_seq ?_ | refine aw_block ?_ | refine aw_skip ?_ | refine aw_exit ?_ | refine aw_scope ?_ | refine aw_ret ?_)
  refine aw_region ?_
  refine ao1 (by decide) (o_assign (v := .int _ _) rfl) ?_
  refine ao_nil ?_
  try dsimp only [List.set_cons_zero, List.set_cons_succ, List.cons_append, List.nil_append, List.take_succ_cons, List.take_zero, List.drop_succ_cons, List.drop_zero, AV.cells, List.length_nil, List.length_cons, Av.put, Nat.reduceAdd, AV.up, AV.up1, List.map_cons, List.map_nil]
  repeat (first | refine join_ret ?_ | refine join_brk ?_ | refine then_nrm ?_ | refine blk_nrm ?_ | refine then_brk ?_ | refine blk_hit ?_ | refine blk_miss rfl ?_ | refine then_ret ?_ | refine blk_ret ?_ | refine aw_seq ?_ | refine aw_block ?_ | refine aw_skip ?_ | refine aw_exit ?_ | refine aw_scope ?_ | refine aw_ret ?_)
  refine aw_region ?_
  refine ao1 (by decide) (o_move (v := .int _ _) rfl) ?_
  refine ao1 (by decide) (o_move (v := .int _ _) rfl) ?_
  refine ao1 (by decide) (o_or (r := ((wd (fun n => f n || g n) k : Nat) : Int)) rfl rfl (by rw [u64_or _ _ (wd_lt _ _) (wd_lt _ _), wd_or])) ?_
  refine ao1 (by decide) (o_assign (v := .int _ _) rfl) ?_
  refine ao_nil ?_
  try dsimp only [List.set_cons_zero, List.set_cons_succ, List.cons_append, List.nil_append, List.take_succ_cons, List.take_zero, List.drop_succ_cons, List.drop_zero, AV.cells, List.length_nil, List.length_cons, Av.put, Nat.reduceAdd, AV.up, AV.up1, List.map_cons, List.map_nil]
  repeat (first | refine join_ret ?_ | refine join_brk ?_ | refine then_nrm ?_ | refine blk_nrm ?_ | refine then_brk ?_ | refine blk_hit ?_ | refine blk_miss rfl ?_ | refine then_ret ?_ | refine blk_ret ?_ | refine aw_seq ?_ | refine aw_block ?_ | refine aw_skip ?_ | refine aw_exit ?_ | refine aw_scope ?_ | refine aw_ret ?_)
  exact e_done hB (r_tmp rfl .nil) rfl rfl
theorem set_Less_1 (f g : Nat → Bool) (k : Nat) (H : Heap) : AC Tryd.prog 53 [.int .u64 (wd f k : Int), .int .u64 (wd g k : Int)] H (Ret (.int .u64 ((wd (fun n => f n && !g n) k : Nat) : Int)) H) := by
  refine AC.body (N := 8) [.tmp 4] Tryd.func53 rfl rfl rfl (Nat.le_of_ble_eq_true rfl) fun B hB => ?_
  repeat (first | refine join_ret ?_ | refine join_brk ?_ | refine then_nrm ?_ | refine blk_nrm ?_ | refine then_brk ?_ | refine blk_hit ?_ | refine blk_miss rfl ?_ | refine then_ret ?_ | refine blk_ret ?_ | refine aw_seq ?_ | refine aw_block ?_ | refine aw_skip ?_ | refine aw_exit ?_ | refine aw_scope ?_ | refine aw_ret ?_)
  refine aw_region ?_
  refine ao1 (by decide) (o_assign (v := .int _ _) rfl) ?_
  refine ao_nil ?_
  try dsimp only [List.set_cons_zero, List.set_cons_succ, List.cons_append, List.nil_append, List.take_succ_cons, List.take_zero, List.drop_succ_cons, List.drop_zero, AV.cells, List.length_nil, List.length_cons, Av.put, Nat.reduceAdd, AV.up, AV.up1, List.map_cons, List.map_nil]
  repeat (first | refine join_ret ?_ | refine join_brk ?_ | refine then_nrm ?_ | refine blk_nrm ?_ | refine then_brk ?_ | refine blk_hit ?_ | refine blk_miss rfl ?_ | refine then_ret ?_ | refine blk_ret ?_ | refine aw_seq ?_ | refine aw_block ?_ | refine aw_skip ?_ | refine aw_exit ?_ | refine aw_scope ?_ | refine aw_ret ?_)
  refine aw_region ?_
  refine ao1 (by decide) (o_move (v := .int _ _) rfl) ?_
  refine ao1 (by decide) (o_move (v := .int _ _) rfl) ?_
  refine ao1 (by decide) (o_andNot (r := ((wd (fun n => f n && !g n) k : Nat) : Int)) rfl rfl (u64_andNot _ _ _)) ?_
  refine ao1 (by decide) (o_assign (v := .int _ _) rfl) ?_
  refine ao_nil ?_
  try dsimp only [List.set_cons_zero, List.set_cons_succ, List.cons_append, List.nil_append, List.take_succ_cons, List.take_zero, List.drop_succ_cons, List.drop_zero, AV.cells, List.length_nil, List.length_cons, Av.put, Nat.reduceAdd, AV.up, AV.up1, List.map_cons, List.map_nil]
  repeat (first | refine join_ret ?_ | refine join_brk ?_ | refine then_nrm ?_ | refine blk_nrm ?_ | refine then_brk ?_ | refine blk_hit ?_ | refine blk_miss rfl ?_ | refine then_ret ?_ | refine blk_ret ?_ | refine aw_seq ?_ | refine aw_block ?_ | refine aw_skip ?_ | refine aw_exit ?_ | refine aw_scope ?_ | refine aw_ret ?_)
  exact e_done hB (r_tmp rfl .nil) rfl rfl

def setop (op : Bool → Bool → Bool) (a b : List Int) : List Int := if sok a && sok b then setl (fun n => op (inl a n) (inl b n)) else []
set_option maxHeartbeats 0 in
theorem set_put (g : Nat) [FnI Tryd.prog g] (op : Bool → Bool → Bool) (hdo : ∀ (f h : Nat → Bool) (k : Nat) (H : Heap), AC Tryd.prog g [.int .u64 (wd f k : Int), .int .u64 (wd h k : Int)] H (Ret (.int .u64 ((wd (fun n => op (f n) (h n)) k : Nat) : Int)) H))
    (a b : List Int) (ha : a.length ≤ 1000000) (hb : b.length ≤ 1000000) (H : Heap) : ACT Tryd.prog KD 51 [.pl (a.map eInt), .pl (b.map eInt), .fn (.func g) [] []] H (Ret (.pl ((setop op a b).map eInt)) H) := by
  refine ACT.body (N := 36) [.tmp 6] Tryd.func51 rfl rfl rfl (Nat.le_of_ble_eq_true rfl) fun B hB => ?_
  repeat (first | refine join_ret ?_ | refine join_brk ?_ | refine then_nrm ?_ | refine blk_nrm ?_ | refine then_brk ?_ | refine blk_hit ?_ | refine blk_miss rfl ?_ | refine then_ret ?_ | refine blk_ret ?_ | refine aw_seq ?_ | refine aw_block ?_ | refine aw_skip ?_ | refine aw_exit ?_ | refine aw_scope ?_ | refine aw_ret ?_)
  refine aw_region ?_
  first | refine ao1 (by decide) (o_assign (v := .sl _ _ _ _ _) rfl) ?_ | refine ao1 (by decide) (o_assign (v := .pl _) rfl) ?_ | refine ao1 (by decide) (o_assign (v := .nsl) rfl) ?_
  refine ao_nil ?_
  try dsimp only [List.set_cons_zero, List.set_cons_succ, List.cons_append, List.nil_append, List.take_succ_cons, List.take_zero, List.drop_succ_cons, List.drop_zero, AV.cells, List.length_nil, List.length_cons, Av.put, Nat.reduceAdd, AV.up, AV.up1, List.map_cons, List.map_nil]
  repeat (first | refine join_ret ?_ | refine join_brk ?_ | refine then_nrm ?_ | refine blk_nrm ?_ | refine then_brk ?_ | refine blk_hit ?_ | refine blk_miss rfl ?_ | refine then_ret ?_ | refine blk_ret ?_ | refine aw_seq ?_ | refine aw_block ?_ | refine aw_skip ?_ | refine aw_exit ?_ | refine aw_scope ?_ | refine aw_ret ?_)
  refine aw_region ?_
  first | refine ao1 (by decide) (o_move (v := .sl _ _ _ _ _) rfl) ?_ | refine ao1 (by decide) (o_move (v := .pl _) rfl) ?_ | refine ao1 (by decide) (o_move (v := .nsl) rfl) ?_
  first | refine ao1 (by decide) (o_move (v := .sl _ _ _ _ _) rfl) ?_ | refine ao1 (by decide) (o_move (v := .pl _) rfl) ?_ | refine ao1 (by decide) (o_move (v := .nsl) rfl) ?_
  refine ao_ret (set_both _ _ (by assumption) (by assumption) _) rfl (by decide) ?_
  refine ao1 (by decide) (o_move (v := .tup _) rfl) ?_
  refine ao1 (by decide) (o_extract (v := .agg _) rfl rfl) ?_
  refine ao1 (by decide) (o_extract (v := .agg _) rfl rfl) ?_
  refine ao1 (by decide) (o_extract (v := .bool _) rfl rfl) ?_
  refine ao2 (by rintro _ ⟨⟩; decide) (o_allocL (sz := 4) rfl (by decide) rfl) ?_
  refine ao2 (by rintro _ ⟨⟩; decide) (o_allocL (sz := 4) rfl (by decide) rfl) ?_
  refine ao2 (by rintro _ ⟨⟩) (w_storeW (sz := 4) rfl rfl rfl rfl rfl rfl (eWn_len _) rfl (Nat.le_of_ble_eq_true rfl)) ?_
  refine ao2 (by rintro _ ⟨⟩) (w_storeW (sz := 4) rfl rfl rfl rfl rfl rfl (eWn_len _) rfl (Nat.le_of_ble_eq_true rfl)) ?_
  refine ao1 (by decide) (o_assign (v := .bool _) rfl) ?_
  refine ao_nil ?_
  try dsimp only [List.set_cons_zero, List.set_cons_succ, List.cons_append, List.nil_append, List.take_succ_cons, List.take_zero, List.drop_succ_cons, List.drop_zero, AV.cells, List.length_nil, List.length_cons, Av.put, Nat.reduceAdd, AV.up, AV.up1, List.map_cons, List.map_nil]
  repeat (first | refine join_ret ?_ | refine join_brk ?_ | refine then_nrm ?_ | refine blk_nrm ?_ | refine then_brk ?_ | refine blk_hit ?_ | refine blk_miss rfl ?_ | refine then_ret ?_ | refine blk_ret ?_ | refine aw_seq ?_ | refine aw_block ?_ | refine aw_skip ?_ | refine aw_exit ?_ | refine aw_scope ?_ | refine aw_ret ?_)
  refine aw_region ?_
  refine ao1 (by decide) (o_move (v := .bool _) rfl) ?_
  refine ao1 (by decide) (o_not rfl) ?_
  refine ao_nil ?_
  try dsimp only [List.set_cons_zero, List.set_cons_succ, List.cons_append, List.nil_append, List.take_succ_cons, List.take_zero, List.drop_succ_cons, List.drop_zero, AV.cells, List.length_nil, List.length_cons, Av.put, Nat.reduceAdd, AV.up, AV.up1, List.map_cons, List.map_nil]
  repeat (first | refine join_ret ?_ | refine join_brk ?_ | refine then_nrm ?_ | refine blk_nrm ?_ | refine then_brk ?_ | refine blk_hit ?_ | refine blk_miss rfl ?_ | refine then_ret ?_ | refine blk_ret ?_ | refine aw_seq ?_ | refine aw_block ?_ | refine aw_skip ?_ | refine aw_exit ?_ | refine aw_scope ?_ | refine aw_ret ?_)
  refine aw_cond rfl (fun hc => ?_) (fun hc => ?_)
  · have hs : (sok a && sok b) = false := by cases h : (sok a && sok b) <;> simp_all
    repeat (first | refine join_ret ?_ | refine join_brk ?_ | refine then_nrm ?_ | refine blk_nrm ?_ | refine then_brk ?_ | refine blk_hit ?_ | refine blk_miss rfl ?_ | refine then_ret ?_ | refine blk_ret ?_ | refine aw_seq ?_ | refine aw_block ?_ | refine aw_skip ?_ | refine aw_exit ?_ | refine aw_scope ?_ | refine aw_ret ?_)
    refine aw_region ?_
    first | refine ao1 (by decide) (o_assign (v := .sl _ _ _ _ _) rfl) ?_ | refine ao1 (by decide) (o_assign (v := .pl _) rfl) ?_ | refine ao1 (by decide) (o_assign (v := .nsl) rfl) ?_
    refine ao_nil ?_
    try dsimp only [List.set_cons_zero, List.set_cons_succ, List.cons_append, List.nil_append, List.take_succ_cons, List.take_zero, List.drop_succ_cons, List.drop_zero, AV.cells, List.length_nil, List.length_cons, Av.put, Nat.reduceAdd, AV.up, AV.up1, List.map_cons, List.map_nil]
    repeat (first | refine join_ret ?_ | refine join_brk ?_ | refine then_nrm ?_ | refine blk_nrm ?_ | refine then_brk ?_ | refine blk_hit ?_ | refine blk_miss rfl ?_ | refine then_ret ?_ | refine blk_ret ?_ | refine aw_seq ?_ | refine aw_block ?_ | refine aw_skip ?_ | refine aw_exit ?_ | refine aw_scope ?_)
    refine aw_nslpl 6 rfl ?_
    refine aw_ret ?_
    rw [show setop op a b = [] by rw [setop, hs]; rfl]
    exact e_done hB (r_tmp rfl .nil) rfl rfl
  have hs : sok a = true ∧ sok b = true := by simpa using hc
  rw [show setop op a b = setl (fun n => op (inl a n) (inl b n)) by rw [setop, hs.1, hs.2]; rfl, pof_ok hs.1, pof_ok hs.2]
  repeat (first | refine join_ret ?_ | refine join_brk ?_ | refine then_nrm ?_ | refine blk_nrm ?_ | refine then_brk ?_ | refine blk_hit ?_ | refine blk_miss rfl ?_ | refine then_ret ?_ | refine blk_ret ?_ | refine aw_seq ?_ | refine aw_block ?_ | refine aw_skip ?_ | refine aw_exit ?_ | refine aw_scope ?_ | refine aw_ret ?_)
  refine aw_region ?_
  refine ao1 (by decide) (o_move (v := .int _ _) rfl) ?_
  refine ao_nil ?_
  try dsimp only [List.set_cons_zero, List.set_cons_succ, List.cons_append, List.nil_append, List.take_succ_cons, List.take_zero, List.drop_succ_cons, List.drop_zero, AV.cells, List.length_nil, List.length_cons, Av.put, Nat.reduceAdd, AV.up, AV.up1, List.map_cons, List.map_nil]
  repeat (first | refine join_ret ?_ | refine join_brk ?_ | refine then_nrm ?_ | refine blk_nrm ?_ | refine then_brk ?_ | refine blk_hit ?_ | refine blk_miss rfl ?_ | refine then_ret ?_ | refine blk_ret ?_ | refine aw_seq ?_ | refine aw_block ?_ | refine aw_skip ?_ | refine aw_exit ?_ | refine aw_scope ?_)
  refine aw_loop (G := Nat) (fun k => k ≤ 4) (fun k => [(KT, KD.av), (2, .fn (.func g) [] []), (7, .pt (Lid H.length 0) 0 0 0), (8, .pt (Lid H.length 1) 0 0 0), (20, .int .i64 (k : Int))]) (fun k => H ++ [⟨0, 4, [eWn (fun j => if j < k then wd (fun n => op (inl a n) (inl b n)) j else wd (inl a) j)]⟩, ⟨0, 4, [eWn (wd (inl b))]⟩]) (fun k => 4 - k) 0 (Nat.zero_le _) (by repeat (first | exact Sub.nil | refine Sub.cons (by first | rfl | (simp [get]; done)) ?_)) (.inl (by simp)) ?_
  intro k hk
  repeat (first | refine join_ret ?_ | refine join_brk ?_ | refine then_nrm ?_ | refine blk_nrm ?_ | refine then_brk ?_ | refine blk_hit ?_ | refine blk_miss rfl ?_ | refine then_ret ?_ | refine blk_ret ?_ | refine aw_seq ?_ | refine aw_block ?_ | refine aw_skip ?_ | refine aw_exit ?_ | refine aw_scope ?_ | refine aw_ret ?_)
  refine aw_region ?_
  refine ao1 (by decide) (o_lt rfl rfl) ?_
  refine ao_nil ?_
  try dsimp only [List.set_cons_zero, List.set_cons_succ, List.cons_append, List.nil_append, List.take_succ_cons, List.take_zero, List.drop_succ_cons, List.drop_zero, AV.cells, List.length_nil, List.length_cons, Av.put, Nat.reduceAdd, AV.up, AV.up1, List.map_cons, List.map_nil]
  repeat (first | refine join_ret ?_ | refine join_brk ?_ | refine then_nrm ?_ | refine blk_nrm ?_ | refine then_brk ?_ | refine blk_hit ?_ | refine blk_miss rfl ?_ | refine then_ret ?_ | refine blk_ret ?_ | refine aw_seq ?_ | refine aw_block ?_ | refine aw_skip ?_ | refine aw_exit ?_ | refine aw_scope ?_ | refine aw_ret ?_)
  refine aw_cond rfl (fun hc => ?_) (fun hc => ?_)
  · have hk4 : k < 4 := by simp at hc; omega
    have hx : (eWn (fun j => if j < k then wd (fun n => op (inl a n) (inl b n)) j else wd (inl a) j))[0 + k * 1]? = some (.int .u64 ((wd (inl a) k : Nat) : Int)) := by
      rw [Nat.zero_add, Nat.mul_one, eWn_get _ hk4]; simp
    have hy : (eWn (wd (inl b)))[0 + k * 1]? = some (.int .u64 ((wd (inl b) k : Nat) : Int)) := by rw [Nat.zero_add, Nat.mul_one]; exact eWn_get _ hk4
    have hset : (eWn (fun j => if j < k then wd (fun n => op (inl a n) (inl b n)) j else wd (inl a) j)).take (0 + k * 1) ++ [AV.int .u64 ((wd (fun n => op (inl a n) (inl b n)) k : Nat) : Int)] ++ (eWn (fun j => if j < k then wd (fun n => op (inl a n) (inl b n)) j else wd (inl a) j)).drop (0 + k * 1 + 1) = eWn (fun j => if j < k + 1 then wd (fun n => op (inl a n) (inl b n)) j else wd (inl a) j) := by
      rw [Nat.zero_add, Nat.mul_one, eWn_set _ hk4]
      refine eWn_congr fun j _ => ?_
      by_cases e : j = k
      · subst e; simp
      · rw [if_neg e]
        by_cases e2 : j < k
        · rw [if_pos e2, if_pos (by omega)]
        · rw [if_neg e2, if_neg (by omega)]
    repeat (first | refine join_ret ?_ | refine join_brk ?_ | refine then_nrm ?_ | refine blk_nrm ?_ | refine then_brk ?_ | refine blk_hit ?_ | refine blk_miss rfl ?_ | refine then_ret ?_ | refine blk_ret ?_ | refine aw_seq ?_ | refine aw_block ?_ | refine aw_skip ?_ | refine aw_exit ?_ | refine aw_scope ?_ | refine aw_ret ?_)
    refine aw_region ?_
    refine ao1 (by decide) (o_move (v := .int _ _) rfl) ?_
    refine ao1 (by decide) (o_assign (v := .int _ _) rfl) ?_
    refine ao_nil ?_
    try dsimp only [List.set_cons_zero, List.set_cons_succ, List.cons_append, List.nil_append, List.take_succ_cons, List.take_zero, List.drop_succ_cons, List.drop_zero, AV.cells, List.length_nil, List.length_cons, Av.put, Nat.reduceAdd, AV.up, AV.up1, List.map_cons, List.map_nil]
    repeat (first | refine join_ret ?_ | refine join_brk ?_ | refine then_nrm ?_ | refine blk_nrm ?_ | refine then_brk ?_ | refine blk_hit ?_ | refine blk_miss rfl ?_ | refine then_ret ?_ | refine blk_ret ?_ | refine aw_seq ?_ | refine aw_block ?_ | refine aw_skip ?_ | refine aw_exit ?_ | refine aw_scope ?_ | refine aw_ret ?_)
    refine aw_drawP mixed (some 10) 2 ?_
    try dsimp only [List.take_succ_cons, List.take_zero, List.take_nil, List.set_cons_zero, List.set_cons_succ, List.cons_append, List.nil_append]
    refine aq0 0 rfl (by decide +kernel) (by decide) (fun _ => o_move (v := .int _ _) rfl) ?_
    first | refine aq0 1 rfl (by decide +kernel) (by decide) (fun _ => o_move (v := .fn _ _ _) rfl) ?_ | refine aq0 1 rfl (by decide +kernel) (by decide) (fun _ => o_move (v := .nfn) rfl) ?_
    refine aq0 2 rfl (by decide +kernel) (by decide) (fun _ => o_move (v := .int _ _) rfl) ?_
    refine aqp 3 rfl (by decide +kernel) (by decide) (fun G => w_indexArrN rfl (lk rfl rfl) rfl rfl hk4) ?_
    refine aqp 4 rfl (by decide +kernel) (by decide) (fun G => w_load1 (v := .int .u64 _) rfl (lk rfl rfl) rfl rfl hx) ?_
    refine aq0 5 rfl (by decide +kernel) (by decide) (fun _ => o_move (v := .int _ _) rfl) ?_
    refine aqp 6 rfl (by decide +kernel) (by decide) (fun G => w_indexArrN rfl (lk rfl rfl) rfl rfl hk4) ?_
    refine aqp 7 rfl (by decide +kernel) (by decide) (fun G => w_load1 (v := .int .u64 _) rfl (lk rfl rfl) rfl rfl hy) ?_
    refine aq02 8 rfl (by decide +kernel) (by decide) (fun _ => V2.callv (hdo (inl a) (inl b) k _) rfl rfl) ?_
    refine aqp 9 rfl (by decide +kernel) (by decide) (fun G => w_indexArrN rfl (lk rfl rfl) rfl rfl hk4) ?_
    refine aqs 10 rfl (by decide +kernel) (by first | exact fun _ => trivial | exact fun _ => ⟨_, rfl⟩ | exact fun _ => ⟨_, rfl, rfl⟩ | exact fun _ => ⟨_, rfl, rfl, rfl⟩ | exact yet_done (by decide +kernel)) (by rintro _ ⟨⟩) (w_storeP (sz := 1) (v := .int .u64 _) (r' := eWn (fun j => if j < k + 1 then wd (fun n => op (inl a n) (inl b n)) j else wd (inl a) j)) rfl rfl rfl rfl rfl rfl rfl rfl (by show _ ≤ 4; omega) hset) ?_
    refine aa_done (by decide +kernel) (by first | exact fun _ => trivial | exact fun _ => ⟨_, rfl⟩ | exact fun _ => ⟨_, rfl, rfl⟩ | exact fun _ => ⟨_, rfl, rfl, rfl⟩ | exact yet_done (by decide +kernel)) ?_
    try dsimp only [List.set_cons_zero, List.set_cons_succ, List.cons_append, List.nil_append, List.take_succ_cons, List.take_zero, List.drop_succ_cons, List.drop_zero, AV.cells, List.length_nil, List.length_cons, Av.put, Nat.reduceAdd, AV.up, AV.up1, List.map_cons, List.map_nil]
    repeat (first | refine join_ret ?_ | refine join_brk ?_ | refine then_nrm ?_ | refine blk_nrm ?_ | refine then_brk ?_ | refine blk_hit ?_ | refine blk_miss rfl ?_ | refine then_ret ?_ | refine blk_ret ?_ | refine aw_seq ?_ | refine aw_block ?_ | refine aw_skip ?_ | refine aw_exit ?_ | refine aw_scope ?_ | refine aw_ret ?_)
    refine aw_region ?_
    first | refine ao1 (by decide) (o_add rfl rfl (wrap64_ok (by omega) (by omega))) ?_ | refine ao1 (by decide) (o_add rfl rfl rfl) ?_
    refine ao1 (by decide) (o_move (v := .int _ _) rfl) ?_
    refine ao_nil ?_
    try dsimp only [List.set_cons_zero, List.set_cons_succ, List.cons_append, List.nil_append, List.take_succ_cons, List.take_zero, List.drop_succ_cons, List.drop_zero, AV.cells, List.length_nil, List.length_cons, Av.put, Nat.reduceAdd, AV.up, AV.up1, List.map_cons, List.map_nil]
    repeat (first | refine join_ret ?_ | refine join_brk ?_ | refine then_nrm ?_ | refine blk_nrm ?_ | refine then_brk ?_ | refine blk_hit ?_ | refine blk_miss rfl ?_ | refine then_ret ?_ | refine blk_ret ?_ | refine aw_seq ?_ | refine aw_block ?_ | refine aw_skip ?_ | refine aw_exit ?_ | refine aw_scope ?_ | refine aw_ret ?_)
    exact ⟨k + 1, by omega, by omega, (by repeat (first | exact Sub.nil | refine Sub.cons (by first | rfl | (simp [get]; done)) ?_)), .refl _ _⟩
  · have : k = 4 := by simp at hc; omega
    subst this
    rw [show eWn (fun j => if j < 4 then wd (fun n => op (inl a n) (inl b n)) j else wd (inl a) j) = eWn (wd fun n => op (inl a n) (inl b n)) from eWn_congr fun j hj => if_pos hj]
    repeat (first | refine join_ret ?_ | refine join_brk ?_ | refine then_nrm ?_ | refine blk_nrm ?_ | refine then_brk ?_ | refine blk_hit ?_ | refine blk_miss rfl ?_ | refine then_ret ?_ | refine blk_ret ?_ | refine aw_seq ?_ | refine aw_block ?_ | refine aw_skip ?_ | refine aw_exit ?_ | refine aw_scope ?_ | refine aw_ret ?_)
    refine aw_region ?_
    refine ao1 (by decide) (w_loadR rfl (lk rfl rfl) rfl rfl (eWn_len _)) ?_
    refine ao2 (by rintro _ ⟨⟩; decide) (V2.callT (words_list (fun n => op (inl a n) (inl b n)) _) rfl rfl) ?_
    first | refine ao1 (by decide) (o_assign (v := .sl _ _ _ _ _) rfl) ?_ | refine ao1 (by decide) (o_assign (v := .pl _) rfl) ?_ | refine ao1 (by decide) (o_assign (v := .nsl) rfl) ?_
    refine ao_nil ?_
    try dsimp only [List.set_cons_zero, List.set_cons_succ, List.cons_append, List.nil_append, List.take_succ_cons, List.take_zero, List.drop_succ_cons, List.drop_zero, AV.cells, List.length_nil, List.length_cons, Av.put, Nat.reduceAdd, AV.up, AV.up1, List.map_cons, List.map_nil]
    repeat (first | refine join_ret ?_ | refine join_brk ?_ | refine then_nrm ?_ | refine blk_nrm ?_ | refine then_brk ?_ | refine blk_hit ?_ | refine blk_miss rfl ?_ | refine then_ret ?_ | refine blk_ret ?_ | refine aw_seq ?_ | refine aw_block ?_ | refine aw_skip ?_ | refine aw_exit ?_ | refine aw_scope ?_ | refine aw_ret ?_)
    exact e_done hB (r_tmp rfl .nil) rfl rfl
theorem set_Join (a b : List Int) (ha : a.length ≤ 1000000) (hb : b.length ≤ 1000000) (H : Heap) : ACT Tryd.prog KD 33 [.pl (a.map eInt), .pl (b.map eInt)] H (Ret (.pl ((setop (· || ·) a b).map eInt)) H) := by
  refine ACT.body (N := 8) [.tmp 4] Tryd.func33 rfl rfl rfl (Nat.le_of_ble_eq_true rfl) fun B hB => ?_
  repeat (first | refine join_ret ?_ | refine join_brk ?_ | refine then_nrm ?_ | refine blk_nrm ?_ | refine then_brk ?_ | refine blk_hit ?_ | refine blk_miss rfl ?_ | refine then_ret ?_ | refine blk_ret ?_ | refine aw_seq ?_ | refine aw_block ?_ | refine aw_skip ?_ | refine aw_exit ?_ | refine aw_scope ?_ | refine aw_ret ?_)
  refine aw_region ?_
  first | refine ao1 (by decide) (o_assign (v := .sl _ _ _ _ _) rfl) ?_ | refine ao1 (by decide) (o_assign (v := .pl _) rfl) ?_ | refine ao1 (by decide) (o_assign (v := .nsl) rfl) ?_
  refine ao_nil ?_
  try dsimp only [List.set_cons_zero, List.set_cons_succ, List.cons_append, List.nil_append, List.take_succ_cons, List.take_zero, List.drop_succ_cons, List.drop_zero, AV.cells, List.length_nil, List.length_cons, Av.put, Nat.reduceAdd, AV.up, AV.up1, List.map_cons, List.map_nil]
  repeat (first | refine join_ret ?_ | refine join_brk ?_ | refine then_nrm ?_ | refine blk_nrm ?_ | refine then_brk ?_ | refine blk_hit ?_ | refine blk_miss rfl ?_ | refine then_ret ?_ | refine blk_ret ?_ | refine aw_seq ?_ | refine aw_block ?_ | refine aw_skip ?_ | refine aw_exit ?_ | refine aw_scope ?_ | refine aw_ret ?_)
  refine aw_region ?_
  first | refine ao1 (by decide) (o_move (v := .sl _ _ _ _ _) rfl) ?_ | refine ao1 (by decide) (o_move (v := .pl _) rfl) ?_ | refine ao1 (by decide) (o_move (v := .nsl) rfl) ?_
  first | refine ao1 (by decide) (o_move (v := .sl _ _ _ _ _) rfl) ?_ | refine ao1 (by decide) (o_move (v := .pl _) rfl) ?_ | refine ao1 (by decide) (o_move (v := .nsl) rfl) ?_
  refine ao2 (by rintro _ ⟨⟩; decide) (V2.callT (set_put 52 (· || ·) (fun f h k H => set_Join_1 f h k H) a b ha hb _) rfl rfl) ?_
  first | refine ao1 (by decide) (o_assign (v := .sl _ _ _ _ _) rfl) ?_ | refine ao1 (by decide) (o_assign (v := .pl _) rfl) ?_ | refine ao1 (by decide) (o_assign (v := .nsl) rfl) ?_
  refine ao_nil ?_
  try dsimp only [List.set_cons_zero, List.set_cons_succ, List.cons_append, List.nil_append, List.take_succ_cons, List.take_zero, List.drop_succ_cons, List.drop_zero, AV.cells, List.length_nil, List.length_cons, Av.put, Nat.reduceAdd, AV.up, AV.up1, List.map_cons, List.map_nil]
  repeat (first | refine join_ret ?_ | refine join_brk ?_ | refine then_nrm ?_ | refine blk_nrm ?_ | refine then_brk ?_ | refine blk_hit ?_ | refine blk_miss rfl ?_ | refine then_ret ?_ | refine blk_ret ?_ | refine aw_seq ?_ | refine aw_block ?_ | refine aw_skip ?_ | refine aw_exit ?_ | refine aw_scope ?_ | refine aw_ret ?_)
  exact e_done hB (r_tmp rfl .nil) rfl rfl
theorem set_Less (a b : List Int) (ha : a.length ≤ 1000000) (hb : b.length ≤ 1000000) (H : Heap) : ACT Tryd.prog KD 34 [.pl (a.map eInt), .pl (b.map eInt)] H (Ret (.pl ((setop (fun x y => x && !y) a b).map eInt)) H) := by
  refine ACT.body (N := 8) [.tmp 4] Tryd.func34 rfl rfl rfl (Nat.le_of_ble_eq_true rfl) fun B hB => ?_
  repeat (first | refine join_ret ?_ | refine join_brk ?_ | refine then_nrm ?_ | refine blk_nrm ?_ | refine then_brk ?_ | refine blk_hit ?_ | refine blk_miss rfl ?_ | refine then_ret ?_ | refine blk_ret ?_ | refine aw_seq ?_ | refine aw_block ?_ | refine aw_skip ?_ | refine aw_exit ?_ | refine aw_scope ?_ | refine aw_ret ?_)
  refine aw_region ?_
  first | refine ao1 (by decide) (o_assign (v := .sl _ _ _ _ _) rfl) ?_ | refine ao1 (by decide) (o_assign (v := .pl _) rfl) ?_ | refine ao1 (by decide) (o_assign (v := .nsl) rfl) ?_
  refine ao_nil ?_
  try dsimp only [List.set_cons_zero, List.set_cons_succ, List.cons_append, List.nil_append, List.take_succ_cons, List.take_zero, List.drop_succ_cons, List.drop_zero, AV.cells, List.length_nil, List.length_cons, Av.put, Nat.reduceAdd, AV.up, AV.up1, List.map_cons, List.map_nil]
  repeat (first | refine join_ret ?_ | refine join_brk ?_ | refine then_nrm ?_ | refine blk_nrm ?_ | refine then_brk ?_ | refine blk_hit ?_ | refine blk_miss rfl ?_ | refine then_ret ?_ | refine blk_ret ?_ | refine aw_seq ?_ | refine aw_block ?_ | refine aw_skip ?_ | refine aw_exit ?_ | refine aw_scope ?_ | refine aw_ret ?_)
  refine aw_region ?_
  first | refine ao1 (by decide) (o_move (v := .sl _ _ _ _ _) rfl) ?_ | refine ao1 (by decide) (o_move (v := .pl _) rfl) ?_ | refine ao1 (by decide) (o_move (v := .nsl) rfl) ?_
  first | refine ao1 (by decide) (o_move (v := .sl _ _ _ _ _) rfl) ?_ | refine ao1 (by decide) (o_move (v := .pl _) rfl) ?_ | refine ao1 (by decide) (o_move (v := .nsl) rfl) ?_
  refine ao2 (by rintro _ ⟨⟩; decide) (V2.callT (set_put 53 (fun x y => x && !y) (fun f h k H => set_Less_1 f h k H) a b ha hb _) rfl rfl) ?_
  first | refine ao1 (by decide) (o_assign (v := .sl _ _ _ _ _) rfl) ?_ | refine ao1 (by decide) (o_assign (v := .pl _) rfl) ?_ | refine ao1 (by decide) (o_assign (v := .nsl) rfl) ?_
  refine ao_nil ?_
  try dsimp only [List.set_cons_zero, List.set_cons_succ, List.cons_append, List.nil_append, List.take_succ_cons, List.take_zero, List.drop_succ_cons, List.drop_zero, AV.cells, List.length_nil, List.length_cons, Av.put, Nat.reduceAdd, AV.up, AV.up1, List.map_cons, List.map_nil]
  repeat (first | refine join_ret ?_ | refine join_brk ?_ | refine then_nrm ?_ | refine blk_nrm ?_ | refine then_brk ?_ | refine blk_hit ?_ | refine blk_miss rfl ?_ | refine then_ret ?_ | refine blk_ret ?_ | refine aw_seq ?_ | refine aw_block ?_ | refine aw_skip ?_ | refine aw_exit ?_ | refine aw_scope ?_ | refine aw_ret ?_)
  exact e_done hB (r_tmp rfl .nil) rfl rfl
end Go.Av

namespace Go.Av
open Go.Proofs
set_option maxRecDepth 10000
set_option linter.unusedSimpArgs false
set_option linter.unusedVariables false

theorem inl_step {l : List Int} {k : Nat} {x : Int} {n : Nat} (hx : l[k]? = some x) (hno : inl (l.take k) n = false) : inl (l.take (k + 1)) n = (x == (n : Int)) := by
  rw [inl, take_snoc_get hx, List.any_append, show (l.take k).any (fun y => y == (n : Int)) = inl (l.take k) n from rfl, hno]; simp
theorem ref01_in (l : List Int) (n : Nat) (hl : l.length ≤ 1000000) (H : Heap) : AC Tryd.prog 54 [.pl (l.map eInt), .int .i64 (n : Int)] H (Ret (.bool (inl l n)) H) := by
  refine AC.body (N := 18) [.tmp 4] Tryd.func54 rfl rfl rfl (Nat.le_of_ble_eq_true rfl) fun B hB => ?_
  repeat (refine aw_seq ?_)
  refine aw_region ?_
  refine ao1 (by decide) (o_assign (v := .bool _) rfl) ?_
  refine ao_nil ?_
  repeat (first | refine then_nrm ?_ | refine aw_seq ?_)
  refine aw_region ?_
  refine ao1 (by decide) (o_assign (v := .int _ _) rfl) ?_
  refine ao_nil ?_
  repeat (first | refine then_nrm ?_ | refine aw_block ?_)
  refine aw_loop (G := Nat) (fun k => k ≤ l.length ∧ inl (l.take k) n = false) (fun k => [(0, .pl (l.map eInt)), (1, .int .i64 (n : Int)), (5, .int .i64 (k : Int))]) (fun _ => H ++ []) (fun k => l.length - k) 0 ⟨Nat.zero_le _, rfl⟩ (by repeat (first | exact Sub.nil | refine Sub.cons (by rfl) ?_)) (Fit.refl _ _) ?_
  rintro k ⟨hk, hno⟩
  repeat (refine aw_seq ?_)
  refine aw_region ?_
  refine ao1 (by decide) (o_move (v := .int _ _) rfl) ?_
  refine ao1 (by decide) (o_move (v := .pl _) rfl) ?_
  refine ao1 (by decide) (o_lenp rfl) ?_
  refine ao1 (by decide) (o_lt rfl rfl) ?_
  refine ao_nil ?_
  repeat (refine then_nrm ?_)
  refine aw_cond rfl (fun hc => ?_) (fun hc => ?_)
  · have hlt : k < l.length := by simpa using hc
    obtain ⟨x, hx, hxl⟩ := get_in hlt
    have hr := map_get eInt hx
    have hst := inl_step hx hno
    repeat (first | refine then_nrm ?_ | refine aw_seq ?_ | refine aw_block ?_ | refine aw_skip ?_)
    refine aw_region ?_
    refine ao1 (by decide) (o_move (v := .pl _) rfl) ?_
    refine ao1 (by decide) (o_move (v := .int _ _) rfl) ?_
    refine ao1 (by decide) (w_indexAddrpN rfl rfl hr rfl) ?_
    refine ao1 (by decide) (o_load1p (v := .int _ _) rfl hr rfl) ?_
    refine ao1 (by decide) (o_move (v := .int _ _) rfl) ?_
    refine ao1 (by decide) (o_eq rfl rfl) ?_
    refine ao_nil ?_
    repeat (refine then_nrm ?_)
    refine aw_cond rfl (fun hc => ?_) (fun hc => ?_)
    · repeat (refine aw_seq ?_)
      refine aw_region ?_
      refine ao1 (by decide) (o_assign (v := .bool _) rfl) ?_
      refine ao_nil ?_
      repeat (first | refine then_nrm ?_ | refine then_ret ?_ | refine blk_ret ?_ | refine aw_ret ?_)
      rw [show inl l n = true from List.any_eq_true.2 ⟨x, hxl, hc⟩]
      exact e_done hB (r_tmp rfl .nil) rfl rfl
    · repeat (first | refine then_nrm ?_ | refine blk_nrm ?_ | refine aw_skip ?_)
      refine aw_region ?_
      refine ao1 (by decide) (o_move (v := .int _ _) rfl) ?_
      refine ao1 (by decide) (o_add rfl rfl (wrap64_ok (by omega) (by omega))) ?_
      refine ao1 (by decide) (o_assign (v := .int _ _) rfl) ?_
      refine ao_nil ?_
      repeat (refine then_nrm ?_)
      exact ⟨k + 1, by omega, ⟨by omega, by rw [hst]; exact hc⟩, (by repeat (first | exact Sub.nil | refine Sub.cons (by rfl) ?_)), .refl _ _⟩
  · have : k = l.length := by simp at hc; omega
    subst this
    rw [List.take_length] at hno
    rw [hno]
    repeat (first | refine then_nrm ?_ | refine then_brk ?_ | refine blk_hit ?_ | refine aw_seq ?_ | refine aw_exit ?_)
    refine aw_region ?_
    refine ao1 (by decide) (o_assign (v := .bool _) rfl) ?_
    refine ao_nil ?_
    repeat (first | refine then_nrm ?_ | refine aw_ret ?_)
    exact e_done hB (r_tmp rfl .nil) rfl rfl

set_option maxHeartbeats 0 in
theorem ref01_Right (l : List Int) (hl : l.length ≤ 1000000) (H : Heap) : AC Tryd.prog 45 [.pl (l.map eInt)] H (Ret (.bool (sok l)) H) := by
  refine AC.body (N := 38) [.tmp 2] Tryd.func45 rfl rfl rfl (Nat.le_of_ble_eq_true rfl) fun B hB => ?_
  repeat (refine aw_seq ?_)
  refine aw_region ?_
  refine ao1 (by decide) (o_assign (v := .bool _) rfl) ?_
  refine ao_nil ?_
  repeat (first | refine then_nrm ?_ | refine aw_seq ?_)
  refine aw_region ?_
  refine ao1 (by decide) (o_assign (v := .int _ _) rfl) ?_
  refine ao_nil ?_
  repeat (first | refine then_nrm ?_ | refine aw_block ?_)
  refine aw_loop (G := Nat) (fun k => k ≤ l.length ∧ ∀ i, i < k → okB l i = true) (fun k => [(0, .pl (l.map eInt)), (3, .int .i64 (k : Int))]) (fun _ => H ++ []) (fun k => l.length - k) 0 ⟨Nat.zero_le _, fun i hi => by omega⟩ (by repeat (first | exact Sub.nil | refine Sub.cons (by rfl) ?_)) (Fit.refl _ _) ?_
  rintro k ⟨hk, hno⟩
  repeat (refine aw_seq ?_)
  refine aw_region ?_
  refine ao1 (by decide) (o_move (v := .int _ _) rfl) ?_
  refine ao1 (by decide) (o_move (v := .pl _) rfl) ?_
  refine ao1 (by decide) (o_lenp rfl) ?_
  refine ao1 (by decide) (o_lt rfl rfl) ?_
  refine ao_nil ?_
  repeat (refine then_nrm ?_)
  refine aw_cond rfl (fun hc => ?_) (fun hc => ?_)
  · have hlt : k < l.length := by simpa using hc
    obtain ⟨x, hx, hxl⟩ := get_in hlt
    have hr := map_get eInt hx
    obtain ⟨m, hm, _⟩ := get_in (l := l) (k := ((k : Int) - 1).toNat) (by omega)
    have hr1 := map_get eInt hm
    have hnd : okB l k = (decide (0 ≤ x) && decide (x < 256) && (decide (k = 0) || decide (m < x))) := by
      rw [okB_get hx]
      cases k with
      | zero => simp
      | succ k =>
        have e : (((k + 1 : Nat) : Int) - 1).toNat = k := by omega
        rw [e] at hm
        simp [hm]
    clear hxl
    repeat (first | refine then_nrm ?_ | refine aw_seq ?_ | refine aw_block ?_ | refine aw_skip ?_)
    refine aw_of_out 37 (.bool (!okB l k)) ?_ ?_
    · refine aw_drawP mixed none 999 ?_
      refine aq0 0 rfl (by decide +kernel) (by decide) (fun _ => o_move (v := .pl _) rfl) ?_
      refine aq0 1 rfl (by decide +kernel) (by decide) (fun _ => o_move (v := .int _ _) rfl) ?_
      refine aqp 2 rfl (by decide +kernel) (by decide) (fun G => w_indexAddrpN rfl rfl hr rfl) ?_
      refine aqp 3 rfl (by decide +kernel) (by decide) (fun G => o_load1p (v := .int _ _) rfl hr rfl) ?_
      refine aq0 4 rfl (by decide +kernel) (by decide) (fun _ => o_lt rfl rfl) ?_
      refine aq0 5 rfl (by decide +kernel) (by decide) (fun _ => o_move (v := .bool _) rfl) ?_
      refine aq_split (g := 15) rfl (fun hg5 => ?_) (fun hg5 => ?_)
      · refine aqn0 (g := 15) 6 rfl (by decide +kernel) (by decide) rfl rfl rfl ?_
        refine aqn0 (g := 15) 7 rfl (by decide +kernel) (by decide) rfl rfl rfl ?_
        refine aqn0 (g := 15) 8 rfl (by decide +kernel) (by decide) rfl rfl rfl ?_
        refine aqn0 (g := 15) 9 rfl (by decide +kernel) (by decide) rfl rfl rfl ?_
        refine aqn0 (g := 15) 10 rfl (by decide +kernel) (by decide) rfl rfl rfl ?_
        refine aq0 11 rfl (by decide +kernel) (by decide) (fun _ => o_pick_t (v := .bool _) rfl rfl) ?_
        refine aq0 12 rfl (by decide +kernel) (by decide) (fun _ => o_move (v := .bool _) rfl) ?_
        refine aqn0 (g := 22) 13 rfl (by decide +kernel) (by decide) rfl rfl rfl ?_
        refine aqn0 (g := 22) 14 rfl (by decide +kernel) (by decide) rfl rfl rfl ?_
        refine aqn0 (g := 22) 15 rfl (by decide +kernel) (by decide) rfl rfl rfl ?_
        refine aqu0 (g := 25) 16 rfl (by decide +kernel) (by decide) rfl rfl ?_
        refine aqu0 (g := 25) 17 rfl (by decide +kernel) (by decide) rfl rfl ?_
        refine aqu0 (g := 25) 18 rfl (by decide +kernel) (by decide) rfl rfl ?_
        refine aqu0 (g := 25) 19 rfl (by decide +kernel) (by decide) rfl rfl ?_
        refine aqu0 (g := 25) 20 rfl (by decide +kernel) (by decide) rfl rfl ?_
        refine aqu0 (g := 25) 21 rfl (by decide +kernel) (by decide) rfl rfl ?_
        refine aqu0 (g := 25) 22 rfl (by decide +kernel) (by decide) rfl rfl ?_
        refine aqu0 (g := 25) 23 rfl (by decide +kernel) (by decide) rfl rfl ?_
        refine aqu0 (g := 25) 24 rfl (by decide +kernel) (by decide) rfl rfl ?_
        refine aqu0 (g := 25) 25 rfl (by decide +kernel) (by decide) rfl rfl ?_
        refine aqn0 (g := 22) 26 rfl (by decide +kernel) (by decide) rfl rfl rfl ?_
        refine aq0 27 rfl (by decide +kernel) (by decide) (fun _ => o_pick_t (v := .bool _) rfl rfl) ?_
        exact aa_done (by decide +kernel) (by exact fun _ => ⟨_, rfl⟩) (Out.mk (by (refine congrArg AV.bool ?_; (rw [hnd]; clear hno hnd hr hr1 hm hx hl hlt hk hc hB; refine Bool.eq_iff_iff.mpr ?_; simp only [Bool.and_eq_true, Bool.or_eq_true, Bool.not_eq_true', decide_eq_true_eq, decide_eq_false_iff_not, beq_iff_eq, bne_iff_ne, Bool.false_eq_true, Bool.and_eq_false_iff, Bool.or_eq_false_iff, false_iff, true_iff, iff_true, iff_false, Bool.not_true, Bool.not_false, not_true, not_false_iff] at *; omega))) (by repeat (first | exact SubX.refl _ _ | refine SubX.at ?_ | refine SubX.put rfl ?_)))
      · refine aqy0 (g := 15) 6 rfl (by decide +kernel) (by decide) rfl rfl (fun _ => o_move (v := .pl _) rfl) ?_
        refine aqy0 (g := 15) 7 rfl (by decide +kernel) (by decide) rfl rfl (fun _ => o_move (v := .int _ _) rfl) ?_
        refine aqyp (g := 15) 8 rfl (by decide +kernel) (by decide) rfl rfl (fun G => w_indexAddrpN rfl rfl hr rfl) ?_
        refine aqyp (g := 15) 9 rfl (by decide +kernel) (by decide) rfl rfl (fun G => o_load1p (v := .int _ _) rfl hr rfl) ?_
        refine aqy0 (g := 15) 10 rfl (by decide +kernel) (by decide) rfl rfl (fun _ => o_gt rfl rfl) ?_
        refine aq0 11 rfl (by decide +kernel) (by decide) (fun _ => o_pick_f (v := .bool _) rfl rfl) ?_
        refine aq0 12 rfl (by decide +kernel) (by decide) (fun _ => o_move (v := .bool _) rfl) ?_
        refine aq_split (g := 22) rfl (fun hg12 => ?_) (fun hg12 => ?_)
        · refine aqn0 (g := 22) 13 rfl (by decide +kernel) (by decide) rfl rfl rfl ?_
          refine aqn0 (g := 22) 14 rfl (by decide +kernel) (by decide) rfl rfl rfl ?_
          refine aqn0 (g := 22) 15 rfl (by decide +kernel) (by decide) rfl rfl rfl ?_
          refine aqu0 (g := 25) 16 rfl (by decide +kernel) (by decide) rfl rfl ?_
          refine aqu0 (g := 25) 17 rfl (by decide +kernel) (by decide) rfl rfl ?_
          refine aqu0 (g := 25) 18 rfl (by decide +kernel) (by decide) rfl rfl ?_
          refine aqu0 (g := 25) 19 rfl (by decide +kernel) (by decide) rfl rfl ?_
          refine aqu0 (g := 25) 20 rfl (by decide +kernel) (by decide) rfl rfl ?_
          refine aqu0 (g := 25) 21 rfl (by decide +kernel) (by decide) rfl rfl ?_
          refine aqu0 (g := 25) 22 rfl (by decide +kernel) (by decide) rfl rfl ?_
          refine aqu0 (g := 25) 23 rfl (by decide +kernel) (by decide) rfl rfl ?_
          refine aqu0 (g := 25) 24 rfl (by decide +kernel) (by decide) rfl rfl ?_
          refine aqu0 (g := 25) 25 rfl (by decide +kernel) (by decide) rfl rfl ?_
          refine aqn0 (g := 22) 26 rfl (by decide +kernel) (by decide) rfl rfl rfl ?_
          refine aq0 27 rfl (by decide +kernel) (by decide) (fun _ => o_pick_t (v := .bool _) rfl rfl) ?_
          exact aa_done (by decide +kernel) (by exact fun _ => ⟨_, rfl⟩) (Out.mk (by (refine congrArg AV.bool ?_; (rw [hnd]; clear hno hnd hr hr1 hm hx hl hlt hk hc hB; refine Bool.eq_iff_iff.mpr ?_; simp only [Bool.and_eq_true, Bool.or_eq_true, Bool.not_eq_true', decide_eq_true_eq, decide_eq_false_iff_not, beq_iff_eq, bne_iff_ne, Bool.false_eq_true, Bool.and_eq_false_iff, Bool.or_eq_false_iff, false_iff, true_iff, iff_true, iff_false, Bool.not_true, Bool.not_false, not_true, not_false_iff] at *; omega))) (by repeat (first | exact SubX.refl _ _ | refine SubX.at ?_ | refine SubX.put rfl ?_)))
        · refine aqy0 (g := 22) 13 rfl (by decide +kernel) (by decide) rfl rfl (fun _ => o_move (v := .int _ _) rfl) ?_
          refine aqy0 (g := 22) 14 rfl (by decide +kernel) (by decide) rfl rfl (fun _ => o_gt rfl rfl) ?_
          refine aqy0 (g := 22) 15 rfl (by decide +kernel) (by decide) rfl rfl (fun _ => o_move (v := .bool _) rfl) ?_
          refine aq_split (g := 25) rfl (fun hg15 => ?_) (fun hg15 => ?_)
          · refine aqy0 (g := 25) 16 rfl (by decide +kernel) (by decide) rfl rfl (fun _ => o_move (v := .pl _) rfl) ?_
            refine aqy0 (g := 25) 17 rfl (by decide +kernel) (by decide) rfl rfl (fun _ => o_move (v := .int _ _) rfl) ?_
            refine aqyp (g := 25) 18 rfl (by decide +kernel) (by decide) rfl rfl (fun G => w_indexAddrpN rfl rfl hr rfl) ?_
            refine aqyp (g := 25) 19 rfl (by decide +kernel) (by decide) rfl rfl (fun G => o_load1p (v := .int _ _) rfl hr rfl) ?_
            refine aqy0 (g := 25) 20 rfl (by decide +kernel) (by decide) rfl rfl (fun _ => o_move (v := .pl _) rfl) ?_
            refine aqy0 (g := 25) 21 rfl (by decide +kernel) (by decide) rfl rfl (fun _ => o_move (v := .int _ _) rfl) ?_
            refine aqy0 (g := 25) 22 rfl (by decide +kernel) (by decide) rfl rfl (fun _ => o_sub (r := (k : Int) - 1) rfl rfl (wrap64_ok (by omega) (by omega))) ?_
            refine aqyp (g := 25) 23 rfl (by decide +kernel) (by decide) rfl rfl (fun G => w_indexAddrp rfl rfl (by simp at hg15; omega) hr1 rfl) ?_
            refine aqyp (g := 25) 24 rfl (by decide +kernel) (by decide) rfl rfl (fun G => o_load1p (v := .int _ _) rfl hr1 rfl) ?_
            refine aqy0 (g := 25) 25 rfl (by decide +kernel) (by decide) rfl rfl (fun _ => o_le rfl rfl) ?_
            refine aqy0 (g := 22) 26 rfl (by decide +kernel) (by decide) rfl rfl (fun _ => o_pick_t (v := .bool _) rfl rfl) ?_
            refine aq0 27 rfl (by decide +kernel) (by decide) (fun _ => o_pick_f (v := .bool _) rfl rfl) ?_
            exact aa_done (by decide +kernel) (by exact fun _ => ⟨_, rfl⟩) (Out.mk (by (refine congrArg AV.bool ?_; (rw [hnd]; clear hno hnd hr hr1 hm hx hl hlt hk hc hB; refine Bool.eq_iff_iff.mpr ?_; simp only [Bool.and_eq_true, Bool.or_eq_true, Bool.not_eq_true', decide_eq_true_eq, decide_eq_false_iff_not, beq_iff_eq, bne_iff_ne, Bool.false_eq_true, Bool.and_eq_false_iff, Bool.or_eq_false_iff, false_iff, true_iff, iff_true, iff_false, Bool.not_true, Bool.not_false, not_true, not_false_iff] at *; omega))) (by repeat (first | exact SubX.refl _ _ | refine SubX.at ?_ | refine SubX.put rfl ?_)))
          · refine aqn0 (g := 25) 16 rfl (by decide +kernel) (by decide) rfl rfl rfl ?_
            refine aqn0 (g := 25) 17 rfl (by decide +kernel) (by decide) rfl rfl rfl ?_
            refine aqn0 (g := 25) 18 rfl (by decide +kernel) (by decide) rfl rfl rfl ?_
            refine aqn0 (g := 25) 19 rfl (by decide +kernel) (by decide) rfl rfl rfl ?_
            refine aqn0 (g := 25) 20 rfl (by decide +kernel) (by decide) rfl rfl rfl ?_
            refine aqn0 (g := 25) 21 rfl (by decide +kernel) (by decide) rfl rfl rfl ?_
            refine aqn0 (g := 25) 22 rfl (by decide +kernel) (by decide) rfl rfl rfl ?_
            refine aqn0 (g := 25) 23 rfl (by decide +kernel) (by decide) rfl rfl rfl ?_
            refine aqn0 (g := 25) 24 rfl (by decide +kernel) (by decide) rfl rfl rfl ?_
            refine aqn0 (g := 25) 25 rfl (by decide +kernel) (by decide) rfl rfl rfl ?_
            refine aqy0 (g := 22) 26 rfl (by decide +kernel) (by decide) rfl rfl (fun _ => o_pick_f (v := .bool _) rfl rfl) ?_
            refine aq0 27 rfl (by decide +kernel) (by decide) (fun _ => o_pick_f (v := .bool _) rfl rfl) ?_
            exact aa_done (by decide +kernel) (by exact fun _ => ⟨_, rfl⟩) (Out.mk (by (refine congrArg AV.bool ?_; (rw [hnd]; clear hno hnd hr hr1 hm hx hl hlt hk hc hB; refine Bool.eq_iff_iff.mpr ?_; simp only [Bool.and_eq_true, Bool.or_eq_true, Bool.not_eq_true', decide_eq_true_eq, decide_eq_false_iff_not, beq_iff_eq, bne_iff_ne, Bool.false_eq_true, Bool.and_eq_false_iff, Bool.or_eq_false_iff, false_iff, true_iff, iff_true, iff_false, Bool.not_true, Bool.not_false, not_true, not_false_iff] at *; omega))) (by repeat (first | exact SubX.refl _ _ | refine SubX.at ?_ | refine SubX.put rfl ?_)))
    repeat (refine then_nrm ?_)
    refine aw_cond rfl (fun hc => ?_) (fun hc => ?_)
    · repeat (refine aw_seq ?_)
      refine aw_region ?_
      refine ao1 (by decide) (o_assign (v := .bool _) rfl) ?_
      refine ao_nil ?_
      repeat (first | refine then_nrm ?_ | refine then_ret ?_ | refine blk_ret ?_ | refine aw_ret ?_)
      rw [sok_false hlt (by simpa using hc)]
      exact e_done hB (r_tmp rfl .nil) rfl rfl
    · repeat (first | refine then_nrm ?_ | refine blk_nrm ?_ | refine aw_skip ?_)
      refine aw_region ?_
      refine ao1 (by decide) (o_move (v := .int _ _) rfl) ?_
      refine ao1 (by decide) (o_add rfl rfl (wrap64_ok (by omega) (by omega))) ?_
      refine ao1 (by decide) (o_assign (v := .int _ _) rfl) ?_
      refine ao_nil ?_
      repeat (refine then_nrm ?_)
      refine ⟨k + 1, by omega, ⟨by omega, fun i hi => ?_⟩, (by repeat (first | exact Sub.nil | refine Sub.cons (by rfl) ?_)), .refl _ _⟩
      rcases Nat.lt_or_eq_of_le (Nat.le_of_lt_succ hi) with h | h
      · exact hno i h
      · subst h; simpa using hc
  · have : k = l.length := by simp at hc; omega
    subst this
    rw [sok_true hno]
    repeat (first | refine then_nrm ?_ | refine then_brk ?_ | refine blk_hit ?_ | refine aw_seq ?_ | refine aw_exit ?_)
    refine aw_region ?_
    refine ao1 (by decide) (o_assign (v := .bool _) rfl) ?_
    refine ao_nil ?_
    repeat (first | refine then_nrm ?_ | refine aw_ret ?_)
    exact e_done hB (r_tmp rfl .nil) rfl rfl

def opw (how : Int) (x y : Bool) : Bool := if how = 0 then x || y else if how = 1 then x && y else if how = 2 then x && !y else false
def setP (f : Nat → Bool) (n : Nat) : List Int := ((List.range n).filter f).map fun j : Nat => (j : Int)
theorem setP_step (f : Nat → Bool) (n : Nat) : setP f (n + 1) = setP f n ++ if f n then [(n : Int)] else [] := by
  rw [setP, List.range_succ, List.filter_append, List.map_append, setP]
  congr 1
  cases h : f n <;> simp [h]
theorem setP_len (f : Nat → Bool) (n : Nat) : (setP f n).length ≤ n := by
  rw [setP, List.length_map]
  exact Nat.le_trans (List.length_filter_le _ _) (by simp)
set_option maxHeartbeats 0 in
theorem ref01_Which (a b : List Int) (how : Int) (ha : a.length ≤ 1000000) (hb : b.length ≤ 1000000) (H : Heap) : AC Tryd.prog 38 [.pl (a.map eInt), .pl (b.map eInt), .int .i64 how] H (Ret (.pl ((setop (opw how) a b).map eInt)) H) := by
  have hbel : ∀ (n g : Nat) (l : List Int), ∀ o ∈ [AObj.mk g 1 (l.map eInt)], ∀ r ∈ o.rows, AV.bels n r = true := by
    intro n g l o ho r hr
    simp only [List.mem_singleton] at ho
    subst ho
    exact ints_bel _ _ r hr
  refine AC.body (N := 63) [.tmp 6] Tryd.func38 rfl rfl rfl (Nat.le_of_ble_eq_true rfl) fun B hB => ?_
  repeat (refine aw_seq ?_)
  refine aw_region ?_
  refine ao1 (by decide) (o_assign (v := .nsl) rfl) ?_
  refine ao_nil ?_
  repeat (first | refine then_nrm ?_ | refine aw_seq ?_)
  refine aw_out 18 (.bool (!(sok a && sok b))) ?_ ?_
  · refine ao1 (by decide) (o_move (v := .pl _) rfl) ?_
    refine ao_ret (ref01_Right _ (by assumption) _) rfl (by decide) ?_
    refine ao1 (by decide) (o_not rfl) ?_
    refine ao1 (by decide) (o_move (v := .bool _) rfl) ?_
    refine ao_split rfl rfl (fun hg3 => ?_) (fun hg3 => ?_)
    · refine ao_nF rfl rfl (by decide) ?_
      refine ao_nF rfl rfl (by decide) ?_
      refine ao_nF rfl rfl (by decide) ?_
      refine ao1 (by decide) (o_pick_t (v := .bool _) rfl rfl) ?_
      exact ao_nil (Out.mk (by (refine congrArg AV.bool ?_; (simp_all; done))) (by repeat (first | exact SubX.refl _ _ | refine SubX.at ?_ | refine SubX.put rfl ?_)))
    · refine ao_y1 rfl rfl (by decide) (o_move (v := .pl _) rfl) ?_
      refine ao_y rfl rfl (by decide) (V2.call (ref01_Right _ (by assumption) _) rfl) ?_
      refine ao_y1 rfl rfl (by decide) (o_not rfl) ?_
      refine ao1 (by decide) (o_pick_f (v := .bool _) rfl rfl) ?_
      exact ao_nil (Out.mk (by (refine congrArg AV.bool ?_; (simp_all; done))) (by repeat (first | exact SubX.refl _ _ | refine SubX.at ?_ | refine SubX.put rfl ?_)))
  repeat (refine then_nrm ?_)
  refine aw_cond rfl (fun hc => ?_) (fun hc => ?_)
  · have hs : (sok a && sok b) = false := by cases h : (sok a && sok b) <;> simp_all
    repeat (refine aw_seq ?_)
    refine aw_region ?_
    refine ao1 (by decide) (o_assign (v := .nsl) rfl) ?_
    refine ao_nil ?_
    repeat (refine then_nrm ?_)
    refine aw_nslpl 6 rfl ?_
    refine aw_ret ?_
    rw [show setop (opw how) a b = [] by rw [setop, hs]; rfl]
    exact e_done hB (r_tmp rfl .nil) rfl rfl
  have hs : (sok a && sok b) = true := by cases h : (sok a && sok b) <;> simp_all
  rw [show setop (opw how) a b = setP (fun n => opw how (inl a n) (inl b n)) 256 by rw [setop, hs]; rfl]
  repeat (first | refine then_nrm ?_ | refine aw_seq ?_ | refine aw_skip ?_)
  refine aw_region ?_
  refine ao1 (by decide) (o_assign (v := .nsl) rfl) ?_
  refine ao_nil ?_
  repeat (first | refine then_nrm ?_ | refine aw_seq ?_)
  refine aw_ghostL (k := 0) 7 1 rfl (by decide) rfl ?_
  refine aw_region ?_
  refine ao1 (by decide) (o_assign (v := .int _ _) rfl) ?_
  refine ao_nil ?_
  try dsimp only [List.nil_append]
  repeat (first | refine then_nrm ?_ | refine aw_block ?_)
  refine aw_loop (G := Nat) (fun n => n ≤ 256) (fun n => [(0, .pl (a.map eInt)), (1, .pl (b.map eInt)), (2, .int .i64 how), (7, .sl (Lid H.length 0) (setP (fun n => opw how (inl a n) (inl b n)) n).length 0 (setP (fun n => opw how (inl a n) (inl b n)) n).length (setP (fun n => opw how (inl a n) (inl b n)) n).length), (8, .int .i64 (n : Int))]) (fun n => H ++ [⟨(setP (fun n => opw how (inl a n) (inl b n)) n).length, 1, (setP (fun n => opw how (inl a n) (inl b n)) n).map eInt⟩]) (fun n => 256 - n) 0 (Nat.zero_le _) (by repeat (first | exact Sub.nil | refine Sub.cons (by rfl) ?_)) (Fit.refl _ _) ?_
  intro n hn
  repeat (refine aw_seq ?_)
  refine aw_region ?_
  refine ao1 (by decide) (o_move (v := .int _ _) rfl) ?_
  refine ao1 (by decide) (o_lt rfl rfl) ?_
  refine ao_nil ?_
  repeat (refine then_nrm ?_)
  refine aw_cond rfl (fun hc => ?_) (fun hc => ?_)
  · have hn2 : n < 256 := by simp at hc; omega
    have hst := setP_step (fun n => opw how (inl a n) (inl b n)) n
    have hle := setP_len (fun n => opw how (inl a n) (inl b n)) n
    try simp only at hst
    generalize setP (fun n => opw how (inl a n) (inl b n)) n = acc at hst hle
    repeat (first | refine then_nrm ?_ | refine aw_seq ?_ | refine aw_block ?_ | refine aw_skip ?_)
    refine aw_region ?_
    refine ao1 (by decide) (o_move (v := .pl _) rfl) ?_
    refine ao1 (by decide) (o_move (v := .int _ _) rfl) ?_
    refine ao_ret (ref01_in _ _ (by assumption) _) rfl (by decide) ?_
    refine ao1 (by decide) (o_move (v := .pl _) rfl) ?_
    refine ao1 (by decide) (o_move (v := .int _ _) rfl) ?_
    refine ao_ret (ref01_in _ _ (by assumption) _) rfl (by decide) ?_
    refine ao1 (by decide) (o_assign (v := .bool _) rfl) ?_
    refine ao1 (by decide) (o_assign (v := .bool _) rfl) ?_
    refine ao_nil ?_
    repeat (first | refine then_nrm ?_ | refine aw_seq ?_)
    refine aw_out 57 (.bool (opw how (inl a n) (inl b n))) ?_ ?_
    · refine ao1 (by decide) (o_move (v := .int _ _) rfl) ?_
      refine ao1 (by decide) (o_eq rfl rfl) ?_
      refine ao1 (by decide) (o_move (v := .bool _) rfl) ?_
      refine ao_split rfl rfl (fun hg2 => ?_) (fun hg2 => ?_)
      · refine ao_y1 rfl rfl (by decide) (o_move (v := .bool _) rfl) ?_
        refine ao_y1 rfl rfl (by decide) (o_move (v := .bool _) rfl) ?_
        refine ao_split rfl rfl (fun hg4 => ?_) (fun hg4 => ?_)
        · refine ao_nF rfl rfl (by decide) ?_
          refine ao_y1 rfl rfl (by decide) (o_pick_t (v := .bool _) rfl rfl) ?_
          refine ao1 (by decide) (o_pick_t (v := .bool _) rfl rfl) ?_
          refine ao1 (by decide) (o_move (v := .bool _) rfl) ?_
          refine ao_nF rfl rfl (by decide) ?_
          refine ao_nF rfl rfl (by decide) ?_
          refine ao_nF rfl rfl (by decide) ?_
          refine ao_nU rfl rfl (by decide) ?_
          refine ao_nF rfl rfl (by decide) ?_
          refine ao_nF rfl rfl (by decide) ?_
          refine ao_nU rfl rfl (by decide) ?_
          refine ao_nF rfl rfl (by decide) ?_
          refine ao1 (by decide) (o_pick_t (v := .bool _) rfl rfl) ?_
          refine ao1 (by decide) (o_move (v := .bool _) rfl) ?_
          refine ao_nF rfl rfl (by decide) ?_
          refine ao_nF rfl rfl (by decide) ?_
          refine ao_nF rfl rfl (by decide) ?_
          refine ao_nU rfl rfl (by decide) ?_
          refine ao_nF rfl rfl (by decide) ?_
          refine ao_nF rfl rfl (by decide) ?_
          refine ao_nU rfl rfl (by decide) ?_
          refine ao_nU rfl rfl (by decide) ?_
          refine ao_nF rfl rfl (by decide) ?_
          refine ao1 (by decide) (o_pick_t (v := .bool _) rfl rfl) ?_
          exact ao_nil (Out.mk (by (refine congrArg AV.bool ?_; (clear hbel hst hle hs hn hn2 ha hb hB hc; unfold opw; generalize inl a n = p at *; generalize inl b n = q at *; (repeat' split) <;> (cases p <;> cases q) <;> first | rfl | grind))) (by repeat (first | exact SubX.refl _ _ | refine SubX.at ?_ | refine SubX.put rfl ?_)))
        · refine ao_y1 rfl rfl (by decide) (o_move (v := .bool _) rfl) ?_
          refine ao_y1 rfl rfl (by decide) (o_pick_f (v := .bool _) rfl rfl) ?_
          refine ao1 (by decide) (o_pick_t (v := .bool _) rfl rfl) ?_
          refine ao1 (by decide) (o_move (v := .bool _) rfl) ?_
          refine ao_split rfl rfl (fun hg8 => ?_) (fun hg8 => ?_)
          · refine ao_nF rfl rfl (by decide) ?_
            refine ao_nF rfl rfl (by decide) ?_
            refine ao_nF rfl rfl (by decide) ?_
            refine ao_nU rfl rfl (by decide) ?_
            refine ao_nF rfl rfl (by decide) ?_
            refine ao_nF rfl rfl (by decide) ?_
            refine ao_nU rfl rfl (by decide) ?_
            refine ao_nF rfl rfl (by decide) ?_
            refine ao1 (by decide) (o_pick_t (v := .bool _) rfl rfl) ?_
            refine ao1 (by decide) (o_move (v := .bool _) rfl) ?_
            refine ao_nF rfl rfl (by decide) ?_
            refine ao_nF rfl rfl (by decide) ?_
            refine ao_nF rfl rfl (by decide) ?_
            refine ao_nU rfl rfl (by decide) ?_
            refine ao_nF rfl rfl (by decide) ?_
            refine ao_nF rfl rfl (by decide) ?_
            refine ao_nU rfl rfl (by decide) ?_
            refine ao_nU rfl rfl (by decide) ?_
            refine ao_nF rfl rfl (by decide) ?_
            refine ao1 (by decide) (o_pick_t (v := .bool _) rfl rfl) ?_
            exact ao_nil (Out.mk (by (refine congrArg AV.bool ?_; (clear hbel hst hle hs hn hn2 ha hb hB hc; unfold opw; generalize inl a n = p at *; generalize inl b n = q at *; (repeat' split) <;> (cases p <;> cases q) <;> first | rfl | grind))) (by repeat (first | exact SubX.refl _ _ | refine SubX.at ?_ | refine SubX.put rfl ?_)))
          · refine ao_y1 rfl rfl (by decide) (o_move (v := .int _ _) rfl) ?_
            refine ao_y1 rfl rfl (by decide) (o_eq rfl rfl) ?_
            refine ao_y1 rfl rfl (by decide) (o_move (v := .bool _) rfl) ?_
            refine ao_split rfl rfl (fun hg11 => ?_) (fun hg11 => ?_)
            · refine ao_y1 rfl rfl (by decide) (o_move (v := .bool _) rfl) ?_
              refine ao_y1 rfl rfl (by decide) (o_pick_t (v := .bool _) rfl rfl) ?_
              refine ao_y1 rfl rfl (by decide) (o_move (v := .bool _) rfl) ?_
              refine ao_split rfl rfl (fun hg14 => ?_) (fun hg14 => ?_)
              · refine ao_y1 rfl rfl (by decide) (o_move (v := .bool _) rfl) ?_
                refine ao_y1 rfl rfl (by decide) (o_pick_t (v := .bool _) rfl rfl) ?_
                refine ao1 (by decide) (o_pick_f (v := .bool _) rfl rfl) ?_
                refine ao1 (by decide) (o_move (v := .bool _) rfl) ?_
                refine ao_split rfl rfl (fun hg18 => ?_) (fun hg18 => ?_)
                · refine ao_nF rfl rfl (by decide) ?_
                  refine ao_nF rfl rfl (by decide) ?_
                  refine ao_nF rfl rfl (by decide) ?_
                  refine ao_nU rfl rfl (by decide) ?_
                  refine ao_nF rfl rfl (by decide) ?_
                  refine ao_nF rfl rfl (by decide) ?_
                  refine ao_nU rfl rfl (by decide) ?_
                  refine ao_nU rfl rfl (by decide) ?_
                  refine ao_nF rfl rfl (by decide) ?_
                  refine ao1 (by decide) (o_pick_t (v := .bool _) rfl rfl) ?_
                  exact ao_nil (Out.mk (by (refine congrArg AV.bool ?_; (clear hbel hst hle hs hn hn2 ha hb hB hc; unfold opw; generalize inl a n = p at *; generalize inl b n = q at *; (repeat' split) <;> (cases p <;> cases q) <;> first | rfl | grind))) (by repeat (first | exact SubX.refl _ _ | refine SubX.at ?_ | refine SubX.put rfl ?_)))
                · refine ao_y1 rfl rfl (by decide) (o_move (v := .int _ _) rfl) ?_
                  refine ao_y1 rfl rfl (by decide) (o_eq rfl rfl) ?_
                  refine ao_y1 rfl rfl (by decide) (o_move (v := .bool _) rfl) ?_
                  refine ao_split rfl rfl (fun hg21 => ?_) (fun hg21 => ?_)
                  · refine ao_y1 rfl rfl (by decide) (o_move (v := .bool _) rfl) ?_
                    refine ao_y1 rfl rfl (by decide) (o_pick_t (v := .bool _) rfl rfl) ?_
                    refine ao_y1 rfl rfl (by decide) (o_move (v := .bool _) rfl) ?_
                    refine ao_split rfl rfl (fun hg24 => ?_) (fun hg24 => ?_)
                    · refine ao_y1 rfl rfl (by decide) (o_move (v := .bool _) rfl) ?_
                      refine ao_y1 rfl rfl (by decide) (o_not rfl) ?_
                      refine ao_y1 rfl rfl (by decide) (o_pick_t (v := .bool _) rfl rfl) ?_
                      refine ao1 (by decide) (o_pick_f (v := .bool _) rfl rfl) ?_
                      exact ao_nil (Out.mk (by (refine congrArg AV.bool ?_; (clear hbel hst hle hs hn hn2 ha hb hB hc; unfold opw; generalize inl a n = p at *; generalize inl b n = q at *; (repeat' split) <;> (cases p <;> cases q) <;> first | rfl | grind))) (by repeat (first | exact SubX.refl _ _ | refine SubX.at ?_ | refine SubX.put rfl ?_)))
                    · refine ao_nT rfl rfl (by decide) ?_
                      refine ao_nT rfl rfl (by decide) ?_
                      refine ao_y1 rfl rfl (by decide) (o_pick_f (v := .bool _) rfl rfl) ?_
                      refine ao1 (by decide) (o_pick_f (v := .bool _) rfl rfl) ?_
                      exact ao_nil (Out.mk (by (refine congrArg AV.bool ?_; (clear hbel hst hle hs hn hn2 ha hb hB hc; unfold opw; generalize inl a n = p at *; generalize inl b n = q at *; (repeat' split) <;> (cases p <;> cases q) <;> first | rfl | grind))) (by repeat (first | exact SubX.refl _ _ | refine SubX.at ?_ | refine SubX.put rfl ?_)))
                  · refine ao_nT rfl rfl (by decide) ?_
                    refine ao_y1 rfl rfl (by decide) (o_pick_f (v := .bool _) rfl rfl) ?_
                    refine ao_y1 rfl rfl (by decide) (o_move (v := .bool _) rfl) ?_
                    refine ao_nT rfl rfl (by decide) ?_
                    refine ao_nT rfl rfl (by decide) ?_
                    refine ao_y1 rfl rfl (by decide) (o_pick_f (v := .bool _) rfl rfl) ?_
                    refine ao1 (by decide) (o_pick_f (v := .bool _) rfl rfl) ?_
                    exact ao_nil (Out.mk (by (refine congrArg AV.bool ?_; (clear hbel hst hle hs hn hn2 ha hb hB hc; unfold opw; generalize inl a n = p at *; generalize inl b n = q at *; (repeat' split) <;> (cases p <;> cases q) <;> first | rfl | grind))) (by repeat (first | exact SubX.refl _ _ | refine SubX.at ?_ | refine SubX.put rfl ?_)))
              · refine ao_nT rfl rfl (by decide) ?_
                refine ao_y1 rfl rfl (by decide) (o_pick_f (v := .bool _) rfl rfl) ?_
                refine ao1 (by decide) (o_pick_f (v := .bool _) rfl rfl) ?_
                refine ao1 (by decide) (o_move (v := .bool _) rfl) ?_
                refine ao_y1 rfl rfl (by decide) (o_move (v := .int _ _) rfl) ?_
                refine ao_y1 rfl rfl (by decide) (o_eq rfl rfl) ?_
                refine ao_y1 rfl rfl (by decide) (o_move (v := .bool _) rfl) ?_
                refine ao_split rfl rfl (fun hg21 => ?_) (fun hg21 => ?_)
                · refine ao_y1 rfl rfl (by decide) (o_move (v := .bool _) rfl) ?_
                  refine ao_y1 rfl rfl (by decide) (o_pick_t (v := .bool _) rfl rfl) ?_
                  refine ao_y1 rfl rfl (by decide) (o_move (v := .bool _) rfl) ?_
                  refine ao_split rfl rfl (fun hg24 => ?_) (fun hg24 => ?_)
                  · refine ao_y1 rfl rfl (by decide) (o_move (v := .bool _) rfl) ?_
                    refine ao_y1 rfl rfl (by decide) (o_not rfl) ?_
                    refine ao_y1 rfl rfl (by decide) (o_pick_t (v := .bool _) rfl rfl) ?_
                    refine ao1 (by decide) (o_pick_f (v := .bool _) rfl rfl) ?_
                    exact ao_nil (Out.mk (by (refine congrArg AV.bool ?_; (clear hbel hst hle hs hn hn2 ha hb hB hc; unfold opw; generalize inl a n = p at *; generalize inl b n = q at *; (repeat' split) <;> (cases p <;> cases q) <;> first | rfl | grind))) (by repeat (first | exact SubX.refl _ _ | refine SubX.at ?_ | refine SubX.put rfl ?_)))
                  · refine ao_nT rfl rfl (by decide) ?_
                    refine ao_nT rfl rfl (by decide) ?_
                    refine ao_y1 rfl rfl (by decide) (o_pick_f (v := .bool _) rfl rfl) ?_
                    refine ao1 (by decide) (o_pick_f (v := .bool _) rfl rfl) ?_
                    exact ao_nil (Out.mk (by (refine congrArg AV.bool ?_; (clear hbel hst hle hs hn hn2 ha hb hB hc; unfold opw; generalize inl a n = p at *; generalize inl b n = q at *; (repeat' split) <;> (cases p <;> cases q) <;> first | rfl | grind))) (by repeat (first | exact SubX.refl _ _ | refine SubX.at ?_ | refine SubX.put rfl ?_)))
                · refine ao_nT rfl rfl (by decide) ?_
                  refine ao_y1 rfl rfl (by decide) (o_pick_f (v := .bool _) rfl rfl) ?_
                  refine ao_y1 rfl rfl (by decide) (o_move (v := .bool _) rfl) ?_
                  refine ao_nT rfl rfl (by decide) ?_
                  refine ao_nT rfl rfl (by decide) ?_
                  refine ao_y1 rfl rfl (by decide) (o_pick_f (v := .bool _) rfl rfl) ?_
                  refine ao1 (by decide) (o_pick_f (v := .bool _) rfl rfl) ?_
                  exact ao_nil (Out.mk (by (refine congrArg AV.bool ?_; (clear hbel hst hle hs hn hn2 ha hb hB hc; unfold opw; generalize inl a n = p at *; generalize inl b n = q at *; (repeat' split) <;> (cases p <;> cases q) <;> first | rfl | grind))) (by repeat (first | exact SubX.refl _ _ | refine SubX.at ?_ | refine SubX.put rfl ?_)))
            · refine ao_nT rfl rfl (by decide) ?_
              refine ao_y1 rfl rfl (by decide) (o_pick_f (v := .bool _) rfl rfl) ?_
              refine ao_y1 rfl rfl (by decide) (o_move (v := .bool _) rfl) ?_
              refine ao_nT rfl rfl (by decide) ?_
              refine ao_y1 rfl rfl (by decide) (o_pick_f (v := .bool _) rfl rfl) ?_
              refine ao1 (by decide) (o_pick_f (v := .bool _) rfl rfl) ?_
              refine ao1 (by decide) (o_move (v := .bool _) rfl) ?_
              refine ao_y1 rfl rfl (by decide) (o_move (v := .int _ _) rfl) ?_
              refine ao_y1 rfl rfl (by decide) (o_eq rfl rfl) ?_
              refine ao_y1 rfl rfl (by decide) (o_move (v := .bool _) rfl) ?_
              refine ao_split rfl rfl (fun hg21 => ?_) (fun hg21 => ?_)
              · refine ao_y1 rfl rfl (by decide) (o_move (v := .bool _) rfl) ?_
                refine ao_y1 rfl rfl (by decide) (o_pick_t (v := .bool _) rfl rfl) ?_
                refine ao_y1 rfl rfl (by decide) (o_move (v := .bool _) rfl) ?_
                refine ao_split rfl rfl (fun hg24 => ?_) (fun hg24 => ?_)
                · refine ao_y1 rfl rfl (by decide) (o_move (v := .bool _) rfl) ?_
                  refine ao_y1 rfl rfl (by decide) (o_not rfl) ?_
                  refine ao_y1 rfl rfl (by decide) (o_pick_t (v := .bool _) rfl rfl) ?_
                  refine ao1 (by decide) (o_pick_f (v := .bool _) rfl rfl) ?_
                  exact ao_nil (Out.mk (by (refine congrArg AV.bool ?_; (clear hbel hst hle hs hn hn2 ha hb hB hc; unfold opw; generalize inl a n = p at *; generalize inl b n = q at *; (repeat' split) <;> (cases p <;> cases q) <;> first | rfl | grind))) (by repeat (first | exact SubX.refl _ _ | refine SubX.at ?_ | refine SubX.put rfl ?_)))
                · refine ao_nT rfl rfl (by decide) ?_
                  refine ao_nT rfl rfl (by decide) ?_
                  refine ao_y1 rfl rfl (by decide) (o_pick_f (v := .bool _) rfl rfl) ?_
                  refine ao1 (by decide) (o_pick_f (v := .bool _) rfl rfl) ?_
                  exact ao_nil (Out.mk (by (refine congrArg AV.bool ?_; (clear hbel hst hle hs hn hn2 ha hb hB hc; unfold opw; generalize inl a n = p at *; generalize inl b n = q at *; (repeat' split) <;> (cases p <;> cases q) <;> first | rfl | grind))) (by repeat (first | exact SubX.refl _ _ | refine SubX.at ?_ | refine SubX.put rfl ?_)))
              · refine ao_nT rfl rfl (by decide) ?_
                refine ao_y1 rfl rfl (by decide) (o_pick_f (v := .bool _) rfl rfl) ?_
                refine ao_y1 rfl rfl (by decide) (o_move (v := .bool _) rfl) ?_
                refine ao_nT rfl rfl (by decide) ?_
                refine ao_nT rfl rfl (by decide) ?_
                refine ao_y1 rfl rfl (by decide) (o_pick_f (v := .bool _) rfl rfl) ?_
                refine ao1 (by decide) (o_pick_f (v := .bool _) rfl rfl) ?_
                exact ao_nil (Out.mk (by (refine congrArg AV.bool ?_; (clear hbel hst hle hs hn hn2 ha hb hB hc; unfold opw; generalize inl a n = p at *; generalize inl b n = q at *; (repeat' split) <;> (cases p <;> cases q) <;> first | rfl | grind))) (by repeat (first | exact SubX.refl _ _ | refine SubX.at ?_ | refine SubX.put rfl ?_)))
      · refine ao_nT rfl rfl (by decide) ?_
        refine ao_nT rfl rfl (by decide) ?_
        refine ao_nU rfl rfl (by decide) ?_
        refine ao_nT rfl rfl (by decide) ?_
        refine ao1 (by decide) (o_pick_f (v := .bool _) rfl rfl) ?_
        refine ao1 (by decide) (o_move (v := .bool _) rfl) ?_
        refine ao_y1 rfl rfl (by decide) (o_move (v := .int _ _) rfl) ?_
        refine ao_y1 rfl rfl (by decide) (o_eq rfl rfl) ?_
        refine ao_y1 rfl rfl (by decide) (o_move (v := .bool _) rfl) ?_
        refine ao_split rfl rfl (fun hg11 => ?_) (fun hg11 => ?_)
        · refine ao_y1 rfl rfl (by decide) (o_move (v := .bool _) rfl) ?_
          refine ao_y1 rfl rfl (by decide) (o_pick_t (v := .bool _) rfl rfl) ?_
          refine ao_y1 rfl rfl (by decide) (o_move (v := .bool _) rfl) ?_
          refine ao_split rfl rfl (fun hg14 => ?_) (fun hg14 => ?_)
          · refine ao_y1 rfl rfl (by decide) (o_move (v := .bool _) rfl) ?_
            refine ao_y1 rfl rfl (by decide) (o_pick_t (v := .bool _) rfl rfl) ?_
            refine ao1 (by decide) (o_pick_f (v := .bool _) rfl rfl) ?_
            refine ao1 (by decide) (o_move (v := .bool _) rfl) ?_
            refine ao_split rfl rfl (fun hg18 => ?_) (fun hg18 => ?_)
            · refine ao_nF rfl rfl (by decide) ?_
              refine ao_nF rfl rfl (by decide) ?_
              refine ao_nF rfl rfl (by decide) ?_
              refine ao_nU rfl rfl (by decide) ?_
              refine ao_nF rfl rfl (by decide) ?_
              refine ao_nF rfl rfl (by decide) ?_
              refine ao_nU rfl rfl (by decide) ?_
              refine ao_nU rfl rfl (by decide) ?_
              refine ao_nF rfl rfl (by decide) ?_
              refine ao1 (by decide) (o_pick_t (v := .bool _) rfl rfl) ?_
              exact ao_nil (Out.mk (by (refine congrArg AV.bool ?_; (clear hbel hst hle hs hn hn2 ha hb hB hc; unfold opw; generalize inl a n = p at *; generalize inl b n = q at *; (repeat' split) <;> (cases p <;> cases q) <;> first | rfl | grind))) (by repeat (first | exact SubX.refl _ _ | refine SubX.at ?_ | refine SubX.put rfl ?_)))
            · refine ao_y1 rfl rfl (by decide) (o_move (v := .int _ _) rfl) ?_
              refine ao_y1 rfl rfl (by decide) (o_eq rfl rfl) ?_
              refine ao_y1 rfl rfl (by decide) (o_move (v := .bool _) rfl) ?_
              refine ao_split rfl rfl (fun hg21 => ?_) (fun hg21 => ?_)
              · refine ao_y1 rfl rfl (by decide) (o_move (v := .bool _) rfl) ?_
                refine ao_y1 rfl rfl (by decide) (o_pick_t (v := .bool _) rfl rfl) ?_
                refine ao_y1 rfl rfl (by decide) (o_move (v := .bool _) rfl) ?_
                refine ao_split rfl rfl (fun hg24 => ?_) (fun hg24 => ?_)
                · refine ao_y1 rfl rfl (by decide) (o_move (v := .bool _) rfl) ?_
                  refine ao_y1 rfl rfl (by decide) (o_not rfl) ?_
                  refine ao_y1 rfl rfl (by decide) (o_pick_t (v := .bool _) rfl rfl) ?_
                  refine ao1 (by decide) (o_pick_f (v := .bool _) rfl rfl) ?_
                  exact ao_nil (Out.mk (by (refine congrArg AV.bool ?_; (clear hbel hst hle hs hn hn2 ha hb hB hc; unfold opw; generalize inl a n = p at *; generalize inl b n = q at *; (repeat' split) <;> (cases p <;> cases q) <;> first | rfl | grind))) (by repeat (first | exact SubX.refl _ _ | refine SubX.at ?_ | refine SubX.put rfl ?_)))
                · refine ao_nT rfl rfl (by decide) ?_
                  refine ao_nT rfl rfl (by decide) ?_
                  refine ao_y1 rfl rfl (by decide) (o_pick_f (v := .bool _) rfl rfl) ?_
                  refine ao1 (by decide) (o_pick_f (v := .bool _) rfl rfl) ?_
                  exact ao_nil (Out.mk (by (refine congrArg AV.bool ?_; (clear hbel hst hle hs hn hn2 ha hb hB hc; unfold opw; generalize inl a n = p at *; generalize inl b n = q at *; (repeat' split) <;> (cases p <;> cases q) <;> first | rfl | grind))) (by repeat (first | exact SubX.refl _ _ | refine SubX.at ?_ | refine SubX.put rfl ?_)))
              · refine ao_nT rfl rfl (by decide) ?_
                refine ao_y1 rfl rfl (by decide) (o_pick_f (v := .bool _) rfl rfl) ?_
                refine ao_y1 rfl rfl (by decide) (o_move (v := .bool _) rfl) ?_
                refine ao_nT rfl rfl (by decide) ?_
                refine ao_nT rfl rfl (by decide) ?_
                refine ao_y1 rfl rfl (by decide) (o_pick_f (v := .bool _) rfl rfl) ?_
                refine ao1 (by decide) (o_pick_f (v := .bool _) rfl rfl) ?_
                exact ao_nil (Out.mk (by (refine congrArg AV.bool ?_; (clear hbel hst hle hs hn hn2 ha hb hB hc; unfold opw; generalize inl a n = p at *; generalize inl b n = q at *; (repeat' split) <;> (cases p <;> cases q) <;> first | rfl | grind))) (by repeat (first | exact SubX.refl _ _ | refine SubX.at ?_ | refine SubX.put rfl ?_)))
          · refine ao_nT rfl rfl (by decide) ?_
            refine ao_y1 rfl rfl (by decide) (o_pick_f (v := .bool _) rfl rfl) ?_
            refine ao1 (by decide) (o_pick_f (v := .bool _) rfl rfl) ?_
            refine ao1 (by decide) (o_move (v := .bool _) rfl) ?_
            refine ao_y1 rfl rfl (by decide) (o_move (v := .int _ _) rfl) ?_
            refine ao_y1 rfl rfl (by decide) (o_eq rfl rfl) ?_
            refine ao_y1 rfl rfl (by decide) (o_move (v := .bool _) rfl) ?_
            refine ao_split rfl rfl (fun hg21 => ?_) (fun hg21 => ?_)
            · refine ao_y1 rfl rfl (by decide) (o_move (v := .bool _) rfl) ?_
              refine ao_y1 rfl rfl (by decide) (o_pick_t (v := .bool _) rfl rfl) ?_
              refine ao_y1 rfl rfl (by decide) (o_move (v := .bool _) rfl) ?_
              refine ao_split rfl rfl (fun hg24 => ?_) (fun hg24 => ?_)
              · refine ao_y1 rfl rfl (by decide) (o_move (v := .bool _) rfl) ?_
                refine ao_y1 rfl rfl (by decide) (o_not rfl) ?_
                refine ao_y1 rfl rfl (by decide) (o_pick_t (v := .bool _) rfl rfl) ?_
                refine ao1 (by decide) (o_pick_f (v := .bool _) rfl rfl) ?_
                exact ao_nil (Out.mk (by (refine congrArg AV.bool ?_; (clear hbel hst hle hs hn hn2 ha hb hB hc; unfold opw; generalize inl a n = p at *; generalize inl b n = q at *; (repeat' split) <;> (cases p <;> cases q) <;> first | rfl | grind))) (by repeat (first | exact SubX.refl _ _ | refine SubX.at ?_ | refine SubX.put rfl ?_)))
              · refine ao_nT rfl rfl (by decide) ?_
                refine ao_nT rfl rfl (by decide) ?_
                refine ao_y1 rfl rfl (by decide) (o_pick_f (v := .bool _) rfl rfl) ?_
                refine ao1 (by decide) (o_pick_f (v := .bool _) rfl rfl) ?_
                exact ao_nil (Out.mk (by (refine congrArg AV.bool ?_; (clear hbel hst hle hs hn hn2 ha hb hB hc; unfold opw; generalize inl a n = p at *; generalize inl b n = q at *; (repeat' split) <;> (cases p <;> cases q) <;> first | rfl | grind))) (by repeat (first | exact SubX.refl _ _ | refine SubX.at ?_ | refine SubX.put rfl ?_)))
            · refine ao_nT rfl rfl (by decide) ?_
              refine ao_y1 rfl rfl (by decide) (o_pick_f (v := .bool _) rfl rfl) ?_
              refine ao_y1 rfl rfl (by decide) (o_move (v := .bool _) rfl) ?_
              refine ao_nT rfl rfl (by decide) ?_
              refine ao_nT rfl rfl (by decide) ?_
              refine ao_y1 rfl rfl (by decide) (o_pick_f (v := .bool _) rfl rfl) ?_
              refine ao1 (by decide) (o_pick_f (v := .bool _) rfl rfl) ?_
              exact ao_nil (Out.mk (by (refine congrArg AV.bool ?_; (clear hbel hst hle hs hn hn2 ha hb hB hc; unfold opw; generalize inl a n = p at *; generalize inl b n = q at *; (repeat' split) <;> (cases p <;> cases q) <;> first | rfl | grind))) (by repeat (first | exact SubX.refl _ _ | refine SubX.at ?_ | refine SubX.put rfl ?_)))
        · refine ao_nT rfl rfl (by decide) ?_
          refine ao_y1 rfl rfl (by decide) (o_pick_f (v := .bool _) rfl rfl) ?_
          refine ao_y1 rfl rfl (by decide) (o_move (v := .bool _) rfl) ?_
          refine ao_nT rfl rfl (by decide) ?_
          refine ao_y1 rfl rfl (by decide) (o_pick_f (v := .bool _) rfl rfl) ?_
          refine ao1 (by decide) (o_pick_f (v := .bool _) rfl rfl) ?_
          refine ao1 (by decide) (o_move (v := .bool _) rfl) ?_
          refine ao_y1 rfl rfl (by decide) (o_move (v := .int _ _) rfl) ?_
          refine ao_y1 rfl rfl (by decide) (o_eq rfl rfl) ?_
          refine ao_y1 rfl rfl (by decide) (o_move (v := .bool _) rfl) ?_
          refine ao_split rfl rfl (fun hg21 => ?_) (fun hg21 => ?_)
          · refine ao_y1 rfl rfl (by decide) (o_move (v := .bool _) rfl) ?_
            refine ao_y1 rfl rfl (by decide) (o_pick_t (v := .bool _) rfl rfl) ?_
            refine ao_y1 rfl rfl (by decide) (o_move (v := .bool _) rfl) ?_
            refine ao_split rfl rfl (fun hg24 => ?_) (fun hg24 => ?_)
            · refine ao_y1 rfl rfl (by decide) (o_move (v := .bool _) rfl) ?_
              refine ao_y1 rfl rfl (by decide) (o_not rfl) ?_
              refine ao_y1 rfl rfl (by decide) (o_pick_t (v := .bool _) rfl rfl) ?_
              refine ao1 (by decide) (o_pick_f (v := .bool _) rfl rfl) ?_
              exact ao_nil (Out.mk (by (refine congrArg AV.bool ?_; (clear hbel hst hle hs hn hn2 ha hb hB hc; unfold opw; generalize inl a n = p at *; generalize inl b n = q at *; (repeat' split) <;> (cases p <;> cases q) <;> first | rfl | grind))) (by repeat (first | exact SubX.refl _ _ | refine SubX.at ?_ | refine SubX.put rfl ?_)))
            · refine ao_nT rfl rfl (by decide) ?_
              refine ao_nT rfl rfl (by decide) ?_
              refine ao_y1 rfl rfl (by decide) (o_pick_f (v := .bool _) rfl rfl) ?_
              refine ao1 (by decide) (o_pick_f (v := .bool _) rfl rfl) ?_
              exact ao_nil (Out.mk (by (refine congrArg AV.bool ?_; (clear hbel hst hle hs hn hn2 ha hb hB hc; unfold opw; generalize inl a n = p at *; generalize inl b n = q at *; (repeat' split) <;> (cases p <;> cases q) <;> first | rfl | grind))) (by repeat (first | exact SubX.refl _ _ | refine SubX.at ?_ | refine SubX.put rfl ?_)))
          · refine ao_nT rfl rfl (by decide) ?_
            refine ao_y1 rfl rfl (by decide) (o_pick_f (v := .bool _) rfl rfl) ?_
            refine ao_y1 rfl rfl (by decide) (o_move (v := .bool _) rfl) ?_
            refine ao_nT rfl rfl (by decide) ?_
            refine ao_nT rfl rfl (by decide) ?_
            refine ao_y1 rfl rfl (by decide) (o_pick_f (v := .bool _) rfl rfl) ?_
            refine ao1 (by decide) (o_pick_f (v := .bool _) rfl rfl) ?_
            exact ao_nil (Out.mk (by (refine congrArg AV.bool ?_; (clear hbel hst hle hs hn hn2 ha hb hB hc; unfold opw; generalize inl a n = p at *; generalize inl b n = q at *; (repeat' split) <;> (cases p <;> cases q) <;> first | rfl | grind))) (by repeat (first | exact SubX.refl _ _ | refine SubX.at ?_ | refine SubX.put rfl ?_)))
    repeat (refine then_nrm ?_)
    refine aw_cond rfl (fun hc => ?_) (fun hc => ?_)
    · rw [if_pos hc] at hst
      refine aw_region ?_
      refine ao1 (by decide) (o_move (v := .sl _ _ _ _ _) rfl) ?_
      refine ao1 (by decide) (o_move (v := .int _ _) rfl) ?_
      refine ao2 (by rintro _ ⟨⟩; decide) (o_buildSlice1L (sz := 1) (v := .int _ _) rfl (by decide) (by decide) rfl rfl rfl rfl rfl) ?_
      refine ao2 (by rintro _ ⟨⟩; decide) (w_append rfl rfl rfl rfl rfl (w_src1 rfl rfl rfl rfl rfl rfl) rfl (by (simp; done)) (by simp; done) (by (simp; omega)) (by (simp; omega))) ?_
      refine ao1 (by decide) (o_assign (v := .sl _ _ _ _ _) rfl) ?_
      refine ao_nil ?_
      try dsimp only [AV.cells, List.length_cons, List.length_nil, Nat.reduceAdd, put, List.cons_append, List.nil_append, List.set_cons_zero]
      rw [show (acc.map eInt).take acc.length = acc.map eInt from List.take_of_length_le (by simp)]
      repeat (first | refine then_nrm ?_ | refine blk_nrm ?_)
      refine aw_region ?_
      refine ao1 (by decide) (o_move (v := .int _ _) rfl) ?_
      refine ao1 (by decide) (o_add rfl rfl (wrap64_ok (by omega) (by omega))) ?_
      refine ao1 (by decide) (o_assign (v := .int _ _) rfl) ?_
      refine ao_nil ?_
      repeat (refine then_nrm ?_)
      exact ⟨n + 1, by omega, by omega, by rw [hst, List.length_append]; exact (by repeat (first | exact Sub.nil | refine Sub.cons (by rfl) ?_)), Fit.loc hB (by rw [hst, List.length_append, List.map_append]; rfl) (by repeat (first | exact EBel.nil | refine EBel.cons (by first | rfl | (simp [AV.bel, AV.bels, Lid]; done)) ?_)) (hbel _ _ _)⟩
    · rw [if_neg (by rw [hc]; simp), List.append_nil] at hst
      repeat (first | refine then_nrm ?_ | refine blk_nrm ?_ | refine aw_skip ?_)
      refine aw_region ?_
      refine ao1 (by decide) (o_move (v := .int _ _) rfl) ?_
      refine ao1 (by decide) (o_add rfl rfl (wrap64_ok (by omega) (by omega))) ?_
      refine ao1 (by decide) (o_assign (v := .int _ _) rfl) ?_
      refine ao_nil ?_
      repeat (refine then_nrm ?_)
      exact ⟨n + 1, by omega, by omega, by rw [hst]; exact (by repeat (first | exact Sub.nil | refine Sub.cons (by rfl) ?_)), by rw [hst]; exact Fit.refl _ _⟩
  · have : n = 256 := by simp at hc; omega
    subst this
    repeat (first | refine then_nrm ?_ | refine then_brk ?_ | refine blk_hit ?_ | refine aw_seq ?_ | refine aw_exit ?_)
    refine aw_region ?_
    refine ao1 (by decide) (o_move (v := .sl _ _ _ _ _) rfl) ?_
    refine ao1 (by decide) (o_assign (v := .sl _ _ _ _ _) rfl) ?_
    refine ao_nil ?_
    repeat (refine then_nrm ?_)
    refine aw_freezeL (ys := (setP (fun n => opw how (inl a n) (inl b n)) 256).map eInt) 6 rfl rfl rfl rfl (by rw [List.drop_zero, List.take_of_length_le (by simp)]) (by simp) (ints_bel 0 _) ?_
    refine aw_ret ?_
    exact e_done hB (r_tmp rfl .nil) rfl rfl
end Go.Av

