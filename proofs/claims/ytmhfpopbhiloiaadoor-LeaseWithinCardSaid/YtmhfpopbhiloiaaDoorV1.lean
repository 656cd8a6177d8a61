/- A part of the proof: walks through the program over abstract values. -/
import Derived.Test.YtmhfpopbhiloiaaDoorSw2
import Derived.Test.YtmhfpopbhiloiaaDoorAv24
import Derived.Test.YtmhfpopbhiloiaaDoorAvTyC
namespace Go.Av
open Go.Proofs
set_option maxRecDepth 10000
set_option linter.unusedSimpArgs false
set_option linter.unusedVariables false

/-- The place of an array's cell, by a number. -/
theorem w_indexArrN {P : Program} {N : Nat} {env : Env} {H : Heap} {ty : TypeId} {t e : TypeId} {x y : Operand} {id g i j m n : Nat} {k : IntKind} {sz : Nat} {agg : Bool} {o : AObj} [ArI P t m e] [TyI P e agg sz] (hx : aev env x = .pt id g i j) (hid : H[id]? = some o) (hg : o.gen = g)
    (hy : aev env y = .int k (n : Int)) (h1 : n < m) : V1 P N (.indexAddr t x y) ty env H (.pt id g i (j + n * sz)) := w_indexArr (agg := agg) (e := e) hx hid hg hy (by omega) (by omega)

theorem p64 {k : Nat} (h : k < 64) : 2 ^ k < 18446744073709551616 := Nat.pow_lt_pow_right (a := 2) (n := 64) (by decide) h
def KD : Know := ⟨0, Lib.deBruijn64tab.map fun n : Nat => Value.int .u8 (n : Int)⟩
theorem KD_at {q k : Nat} (hi : q < 64) (h : Lib.deBruijn64tab.getD q 0 = k) : KD.tab[q]? = some (.int .u8 (k : Int)) := by
  have hlen : Lib.deBruijn64tab.length = 64 := rfl
  unfold KD
  dsimp only
  generalize Lib.deBruijn64tab = l at h hlen
  rw [List.getElem?_map]
  cases hq : l[q]? with
  | none => rw [List.getElem?_eq_none_iff] at hq; omega
  | some v =>
    rw [List.getD_eq_getElem?_getD, hq] at h
    subst h
    rfl
theorem bits_TZ (x : Nat) (hx : x < 18446744073709551616) (H : Heap) : ACT Tryd.prog KD 72 [.int .u64 (x : Int)] H (Ret (.int .i64 ((Lib.ctz 64 x : Nat) : Int)) H) := by
  refine ACT.body (N := 14) [.tmp 2] Tryd.func72 rfl rfl rfl (Nat.le_of_ble_eq_true rfl) fun B hB => ?_
  repeat (first | refine join_ret ?_ | refine join_brk ?_ | refine then_nrm ?_ | refine blk_nrm ?_ | refine then_brk ?_ | refine blk_hit ?_ | refine blk_miss rfl ?_ | refine then_ret ?_ | refine blk_ret ?_ | refine aw_seq ?_ | refine aw_block ?_ | refine aw_skip ?_ | refine aw_exit ?_ | refine aw_scope ?_ | refine aw_ret ?_)
  refine aw_region ?_
  refine ao1 (by decide) (o_assign (v := .int _ _) rfl) ?_
  refine ao_nil ?_
  try dsimp only [List.set_cons_zero, List.set_cons_succ, List.cons_append, List.nil_append, List.take_succ_cons, List.take_zero, List.drop_succ_cons, List.drop_zero, AV.cells, List.length_nil, List.length_cons, Av.put, Nat.reduceAdd, AV.up, AV.up1, List.map_cons, List.map_nil]
  repeat (first | refine join_ret ?_ | refine join_brk ?_ | refine then_nrm ?_ | refine blk_nrm ?_ | refine then_brk ?_ | refine blk_hit ?_ | refine blk_miss rfl ?_ | refine then_ret ?_ | refine blk_ret ?_ | refine aw_seq ?_ | refine aw_block ?_ | refine aw_skip ?_ | refine aw_exit ?_ | refine aw_scope ?_ | refine aw_ret ?_)
  refine aw_region ?_
  refine ao1 (by decide) (o_move (v := .int _ _) rfl) ?_
  refine ao1 (by decide) (o_eq rfl rfl) ?_
  refine ao_nil ?_
  try dsimp only [List.set_cons_zero, List.set_cons_succ, List.cons_append, List.nil_append, List.take_succ_cons, List.take_zero, List.drop_succ_cons, List.drop_zero, AV.cells, List.length_nil, List.length_cons, Av.put, Nat.reduceAdd, AV.up, AV.up1, List.map_cons, List.map_nil]
  repeat (first | refine join_ret ?_ | refine join_brk ?_ | refine then_nrm ?_ | refine blk_nrm ?_ | refine then_brk ?_ | refine blk_hit ?_ | refine blk_miss rfl ?_ | refine then_ret ?_ | refine blk_ret ?_ | refine aw_seq ?_ | refine aw_block ?_ | refine aw_skip ?_ | refine aw_exit ?_ | refine aw_scope ?_ | refine aw_ret ?_)
  refine aw_cond rfl (fun hc => ?_) (fun hc => ?_)
  · repeat (first | refine join_ret ?_ | refine join_brk ?_ | refine then_nrm ?_ | refine blk_nrm ?_ | refine then_brk ?_ | refine blk_hit ?_ | refine blk_miss rfl ?_ | refine then_ret ?_ | refine blk_ret ?_ | refine aw_seq ?_ | refine aw_block ?_ | refine aw_skip ?_ | refine aw_exit ?_ | refine aw_scope ?_ | refine aw_ret ?_)
    refine aw_region ?_
    refine ao1 (by decide) (o_assign (v := .int _ _) rfl) ?_
    refine ao_nil ?_
    try dsimp only [List.set_cons_zero, List.set_cons_succ, List.cons_append, List.nil_append, List.take_succ_cons, List.take_zero, List.drop_succ_cons, List.drop_zero, AV.cells, List.length_nil, List.length_cons, Av.put, Nat.reduceAdd, AV.up, AV.up1, List.map_cons, List.map_nil]
    repeat (first | refine join_ret ?_ | refine join_brk ?_ | refine then_nrm ?_ | refine blk_nrm ?_ | refine then_brk ?_ | refine blk_hit ?_ | refine blk_miss rfl ?_ | refine then_ret ?_ | refine blk_ret ?_ | refine aw_seq ?_ | refine aw_block ?_ | refine aw_skip ?_ | refine aw_exit ?_ | refine aw_scope ?_ | refine aw_ret ?_)
    rw [show Lib.ctz 64 x = 64 by simp at hc; simp [Lib.ctz, hc]]
    exact e_done hB (r_tmp rfl .nil) rfl rfl
  · have hx0 : x ≠ 0 := by simp at hc; omega
    obtain ⟨hlow, hk⟩ := Lib.lowest_bit 64 x hx0 hx
    generalize Lib.ctz 64 x = k at hlow hk
    obtain ⟨hi, htab⟩ := Lib.deBruijn64_at k hk
    have hlt : 2 ^ k < 18446744073709551616 := p64 hk
    generalize hm : 2 ^ k = m at hlow hi htab hlt
    generalize hq : m * 285870213051353865 % 18446744073709551616 / 288230376151711744 = q at hi htab
    have hu := KD_at hi htab
    repeat (first | refine join_ret ?_ | refine join_brk ?_ | refine then_nrm ?_ | refine blk_nrm ?_ | refine then_brk ?_ | refine blk_hit ?_ | refine blk_miss rfl ?_ | refine then_ret ?_ | refine blk_ret ?_ | refine aw_seq ?_ | refine aw_block ?_ | refine aw_skip ?_ | refine aw_exit ?_ | refine aw_scope ?_ | refine aw_ret ?_)
    refine aw_region ?_
    refine ao1 (by decide) (o_move (v := .int _ _) rfl) ?_
    refine ao1 (by decide) (o_move (v := .int _ _) rfl) ?_
    refine ao1 (by decide) (o_neg (r := ((18446744073709551616 - x : Nat) : Int)) rfl (by rw [IntKind.wrap_u64]; omega)) ?_
    refine ao1 (by decide) (o_and (r := (m : Int)) rfl rfl (by rw [u64_and x _ hx (by omega)]; rw [show (18446744073709551616 : Nat) = 2 ^ 64 from rfl, hlow])) ?_
    refine ao1 (by decide) (o_mul (r := ((m * 285870213051353865 % 18446744073709551616 : Nat) : Int)) rfl rfl (by rw [IntKind.wrap_u64]; omega)) ?_
    refine ao1 (by decide) (o_shr (r := (q : Int)) rfl rfl (by omega) (by rw [← hq, show ((2 : Int) ^ min (58 : Int).toNat IntKind.u64.bits) = ((288230376151711744 : Nat) : Int) from rfl, Int.fdiv_eq_ediv_of_nonneg _ (by omega)]; exact (Int.natCast_ediv _ _).symm)) ?_
    refine ao1 (by decide) (o_indexGlob (n := q) rfl rfl (by omega)) ?_
    refine ao1 (by decide) (o_loadGlob (K := KD) (v := .int .u8 (k : Int)) rfl rfl rfl (by rw [Nat.mul_one]; exact hu) (fun _ _ _ => .int)) ?_
    refine ao1 (by decide) (o_conv_int (r := (k : Int)) rfl (wrap64_ok (by omega) (by omega))) ?_
    refine ao1 (by decide) (o_assign (v := .int _ _) rfl) ?_
    refine ao_nil ?_
    try dsimp only [List.set_cons_zero, List.set_cons_succ, List.cons_append, List.nil_append, List.take_succ_cons, List.take_zero, List.drop_succ_cons, List.drop_zero, AV.cells, List.length_nil, List.length_cons, Av.put, Nat.reduceAdd, AV.up, AV.up1, List.map_cons, List.map_nil]
    repeat (first | refine join_ret ?_ | refine join_brk ?_ | refine then_nrm ?_ | refine blk_nrm ?_ | refine then_brk ?_ | refine blk_hit ?_ | refine blk_miss rfl ?_ | refine then_ret ?_ | refine blk_ret ?_ | refine aw_seq ?_ | refine aw_block ?_ | refine aw_skip ?_ | refine aw_exit ?_ | refine aw_scope ?_ | refine aw_ret ?_)
    exact e_done hB (r_tmp rfl .nil) rfl rfl

abbrev eInt (i : Int) : List AV := [.int .i64 i]
theorem ints_bel (n : Nat) (l : List Int) : ∀ r ∈ l.map eInt, AV.bels n r = true := rows_bel (e := eInt) (fun _ => rfl) l
theorem ints_len (l : List Int) : ∀ r ∈ l.map eInt, r.length = 1 := rows_len (e := eInt) (n := 1) (fun _ => rfl) l
theorem eWn_bels (n : Nat) (w : Nat → Nat) : AV.bels n (eWn w) = true := by rw [AV.bels_iff]; intro v hv; simp only [eWn, List.mem_map] at hv; obtain ⟨i, _, rfl⟩ := hv; rfl
theorem eWn_len (w : Nat → Nat) : (eWn w).length = 4 := by simp [eWn]
theorem eW0 (l : List Int) : eWn (wd (fpre l 0)) = [.int .u64 0, .int .u64 0, .int .u64 0, .int .u64 0] := by
  rw [fpre_zero]; simp [eWn, wd_zero, List.range_succ]
def pof (l : List Int) : Nat → Nat := wd (fpre l (okn l))
theorem set_of (l : List Int) (hl : l.length ≤ 1000000) (H : Heap) : AC Tryd.prog 57 [.pl (l.map eInt)] H (Ret (.tup [.agg (eWn (pof l)), .bool (sok l)]) H) := by
  refine AC.body (N := 34) [.cell 2 74, .tmp 3] Tryd.func57 rfl rfl rfl (Nat.le_of_ble_eq_true rfl) fun B hB => ?_
  repeat (first | refine join_ret ?_ | refine join_brk ?_ | refine then_nrm ?_ | refine blk_nrm ?_ | refine then_brk ?_ | refine blk_hit ?_ | refine blk_miss rfl ?_ | refine then_ret ?_ | refine blk_ret ?_ | refine aw_seq ?_ | refine aw_block ?_ | refine aw_skip ?_ | refine aw_exit ?_ | refine aw_scope ?_ | refine aw_ret ?_)
  refine aw_region ?_
  refine ao2 (by rintro _ ⟨⟩; decide) (o_allocL (sz := 4) rfl (by decide) rfl) ?_
  refine ao1 (by decide) (o_assign (v := .bool _) rfl) ?_
  refine ao_nil ?_
  try dsimp only [List.set_cons_zero, List.set_cons_succ, List.cons_append, List.nil_append, List.take_succ_cons, List.take_zero, List.drop_succ_cons, List.drop_zero, AV.cells, List.length_nil, List.length_cons, Av.put, Nat.reduceAdd, AV.up, AV.up1, List.map_cons, List.map_nil]
  repeat (first | refine join_ret ?_ | refine join_brk ?_ | refine then_nrm ?_ | refine blk_nrm ?_ | refine then_brk ?_ | refine blk_hit ?_ | refine blk_miss rfl ?_ | refine then_ret ?_ | refine blk_ret ?_ | refine aw_seq ?_ | refine aw_block ?_ | refine aw_skip ?_ | refine aw_exit ?_ | refine aw_scope ?_ | refine aw_ret ?_)
  refine aw_region ?_
  refine ao2 (by rintro _ ⟨⟩; decide) (o_allocL (sz := 4) rfl (by decide) rfl) ?_
  refine ao_nil ?_
  try dsimp only [List.set_cons_zero, List.set_cons_succ, List.cons_append, List.nil_append, List.take_succ_cons, List.take_zero, List.drop_succ_cons, List.drop_zero, AV.cells, List.length_nil, List.length_cons, Av.put, Nat.reduceAdd, AV.up, AV.up1, List.map_cons, List.map_nil]
  repeat (first | refine join_ret ?_ | refine join_brk ?_ | refine then_nrm ?_ | refine blk_nrm ?_ | refine then_brk ?_ | refine blk_hit ?_ | refine blk_miss rfl ?_ | refine then_ret ?_ | refine blk_ret ?_ | refine aw_seq ?_ | refine aw_block ?_ | refine aw_skip ?_ | refine aw_exit ?_ | refine aw_scope ?_ | refine aw_ret ?_)
  refine aw_region ?_
  refine ao1 (by decide) (o_assign (v := .int _ _) rfl) ?_
  refine ao_nil ?_
  try dsimp only [List.set_cons_zero, List.set_cons_succ, List.cons_append, List.nil_append, List.take_succ_cons, List.take_zero, List.drop_succ_cons, List.drop_zero, AV.cells, List.length_nil, List.length_cons, Av.put, Nat.reduceAdd, AV.up, AV.up1, List.map_cons, List.map_nil]
  repeat (first | refine join_ret ?_ | refine join_brk ?_ | refine then_nrm ?_ | refine blk_nrm ?_ | refine then_brk ?_ | refine blk_hit ?_ | refine blk_miss rfl ?_ | refine then_ret ?_ | refine blk_ret ?_ | refine aw_seq ?_ | refine aw_block ?_ | refine aw_skip ?_ | refine aw_exit ?_ | refine aw_scope ?_ | refine aw_ret ?_)
  refine aw_region ?_
  first | refine ao1 (by decide) (o_move (v := .sl _ _ _ _ _) rfl) ?_ | refine ao1 (by decide) (o_move (v := .pl _) rfl) ?_ | refine ao1 (by decide) (o_move (v := .nsl) rfl) ?_
  first | refine ao1 (by decide) (o_lenp rfl) ?_ | refine ao1 (by decide) (w_lens rfl (lk rfl rfl) rfl) ?_ | refine ao1 (by decide) (o_lenn rfl) ?_ | refine ao1 (by decide) (o_lenStr rfl) ?_ | refine ao1 (by decide) (w_lens rfl (lkF hF) rfl) ?_
  refine ao1 (by decide) (o_move (v := .int _ _) rfl) ?_
  refine ao_nil ?_
  try dsimp only [List.set_cons_zero, List.set_cons_succ, List.cons_append, List.nil_append, List.take_succ_cons, List.take_zero, List.drop_succ_cons, List.drop_zero, AV.cells, List.length_nil, List.length_cons, Av.put, Nat.reduceAdd, AV.up, AV.up1, List.map_cons, List.map_nil]
  repeat (first | refine join_ret ?_ | refine join_brk ?_ | refine then_nrm ?_ | refine blk_nrm ?_ | refine then_brk ?_ | refine blk_hit ?_ | refine blk_miss rfl ?_ | refine then_ret ?_ | refine blk_ret ?_ | refine aw_seq ?_ | refine aw_block ?_ | refine aw_skip ?_ | refine aw_exit ?_ | refine aw_scope ?_)
  refine aw_loop (G := Nat) (fun k => k ≤ l.length ∧ ∀ i, i < k → okB l i = true) (fun k => [(2, .pt (Lid H.length 0) 0 0 0), (4, .pt (Lid H.length 1) 0 0 0), (5, .int .i64 (lastN l k)), (8, .pl (l.map eInt)), (9, .int .i64 (l.length : Int)), (10, .int .i64 (k : Int))]) (fun k => H ++ [⟨0, 4, [[.int .u64 0, .int .u64 0, .int .u64 0, .int .u64 0]]⟩, ⟨0, 4, [eWn (wd (fpre l k))]⟩]) (fun k => l.length - k) 0 ⟨Nat.zero_le _, fun i hi => by omega⟩ (by repeat (first | exact Sub.nil | refine Sub.cons (by first | rfl | (simp [get]; done)) ?_)) (.inl (by rw [eW0])) ?_
  rintro k ⟨hk, hno⟩
  repeat (first | refine join_ret ?_ | refine join_brk ?_ | refine then_nrm ?_ | refine blk_nrm ?_ | refine then_brk ?_ | refine blk_hit ?_ | refine blk_miss rfl ?_ | refine then_ret ?_ | refine blk_ret ?_ | refine aw_seq ?_ | refine aw_block ?_ | refine aw_skip ?_ | refine aw_exit ?_ | refine aw_scope ?_ | refine aw_ret ?_)
  refine aw_region ?_
  refine ao1 (by decide) (o_lt rfl rfl) ?_
  refine ao_nil ?_
  try dsimp only [List.set_cons_zero, List.set_cons_succ, List.cons_append, List.nil_append, List.take_succ_cons, List.take_zero, List.drop_succ_cons, List.drop_zero, AV.cells, List.length_nil, List.length_cons, Av.put, Nat.reduceAdd, AV.up, AV.up1, List.map_cons, List.map_nil]
  repeat (first | refine join_ret ?_ | refine join_brk ?_ | refine then_nrm ?_ | refine blk_nrm ?_ | refine then_brk ?_ | refine blk_hit ?_ | refine blk_miss rfl ?_ | refine then_ret ?_ | refine blk_ret ?_ | refine aw_seq ?_ | refine aw_block ?_ | refine aw_skip ?_ | refine aw_exit ?_ | refine aw_scope ?_ | refine aw_ret ?_)
  refine aw_cond rfl (fun hc => ?_) (fun hc => ?_)
  · have hlt : k < l.length := by simpa using hc
    obtain ⟨x, hx, hxl⟩ := get_in hlt
    have hr := map_get eInt hx
    have hok := okB_last hx hno
    repeat (first | refine join_ret ?_ | refine join_brk ?_ | refine then_nrm ?_ | refine blk_nrm ?_ | refine then_brk ?_ | refine blk_hit ?_ | refine blk_miss rfl ?_ | refine then_ret ?_ | refine blk_ret ?_ | refine aw_seq ?_ | refine aw_block ?_ | refine aw_skip ?_ | refine aw_exit ?_ | refine aw_scope ?_ | refine aw_ret ?_)
    refine aw_region ?_
    first | refine ao1 (by decide) (w_indexAddrpN rfl rfl hr rfl) ?_ | refine ao1 (by decide) (w_indexAddrpN rfl rfl hr1 rfl) ?_ | refine ao1 (by decide) (w_indexAddrpN rfl rfl hr2 rfl) ?_ | refine ao1 (by decide) (w_indexAddrN rfl (lk rfl rfl) rfl rfl rfl (by omega)) ?_ | refine ao1 (by decide) (w_indexAddrp rfl rfl (by omega) hr rfl) ?_ | refine ao1 (by decide) (w_indexAddrp rfl rfl (by omega) hr1 rfl) ?_ | refine ao1 (by decide) (w_indexAddrp rfl rfl (by omega) hr2 rfl) ?_ | refine ao1 (by decide) (w_indexAddr rfl (lk rfl rfl) rfl rfl rfl (by omega) (by omega)) ?_
    first | refine ao1 (by decide) (w_load1 (v := .int _ _) rfl (lk rfl rfl) rfl rfl rfl) ?_ | refine ao1 (by decide) (w_load1 (v := .int _ _) rfl (lk rfl rfl) rfl (zadd hr) rfl) ?_ | refine ao1 (by decide) (w_load1 (v := .int _ _) rfl (lk rfl rfl) rfl (zadd hr1) rfl) ?_ | refine ao1 (by decide) (w_load1 (v := .int _ _) rfl (lk rfl rfl) rfl (zadd hr2) rfl) ?_ | refine ao1 (by decide) (o_load1p (v := .int _ _) rfl hr rfl) ?_ | refine ao1 (by decide) (o_load1p (v := .int _ _) rfl hr1 rfl) ?_ | refine ao1 (by decide) (o_load1p (v := .int _ _) rfl hr2 rfl) ?_ | refine ao1 (by decide) (w_load1 (v := .int _ _) rfl (lkF hF) rfl rfl rfl) ?_
    refine ao1 (by decide) (o_assign (v := .int _ _) rfl) ?_
    refine ao_nil ?_
    try dsimp only [List.set_cons_zero, List.set_cons_succ, List.cons_append, List.nil_append, List.take_succ_cons, List.take_zero, List.drop_succ_cons, List.drop_zero, AV.cells, List.length_nil, List.length_cons, Av.put, Nat.reduceAdd, AV.up, AV.up1, List.map_cons, List.map_nil]
    repeat (first | refine join_ret ?_ | refine join_brk ?_ | refine then_nrm ?_ | refine blk_nrm ?_ | refine then_brk ?_ | refine blk_hit ?_ | refine blk_miss rfl ?_ | refine then_ret ?_ | refine blk_ret ?_ | refine aw_seq ?_ | refine aw_block ?_ | refine aw_skip ?_ | refine aw_exit ?_ | refine aw_scope ?_ | refine aw_ret ?_)
    refine aw_out 20 (.bool (!okB l k)) ?_ ?_
    · refine ao1 (by decide) (o_move (v := .int _ _) rfl) ?_
      refine ao1 (by decide) (o_move (v := .int _ _) rfl) ?_
      refine ao1 (by decide) (o_le rfl rfl) ?_
      refine ao1 (by decide) (o_move (v := .bool _) rfl) ?_
      refine ao_split rfl rfl (fun hg3 => ?_) (fun hg3 => ?_)
      · refine ao_nF rfl rfl (by decide) ?_
        refine ao_nF rfl rfl (by decide) ?_
        first | refine ao1 (by decide) (o_pick_t (v := .bool _) rfl rfl) ?_ | refine ao1 (by decide) (o_pick_f (v := .bool _) rfl rfl) ?_ | refine ao1 (by decide) (o_pick_b rfl rfl rfl) ?_
        exact ao_nil (Out.mk (by first | rfl | (refine congrArg AV.bool ?_; (rw [hok] at *; simp only [Bool.not_not] at *; first | (simp_all; done) | (simp_all; omega) | grind))) (by repeat (first | exact SubX.refl _ _ | refine SubX.at ?_ | refine SubX.put rfl ?_ | refine SubX.put_same rfl ?_)))
      · refine ao_y1 rfl rfl (by decide) (o_move (v := .int _ _) rfl) ?_
        refine ao_y1 rfl rfl (by decide) (o_ge rfl rfl) ?_
        first | refine ao1 (by decide) (o_pick_t (v := .bool _) rfl rfl) ?_ | refine ao1 (by decide) (o_pick_f (v := .bool _) rfl rfl) ?_ | refine ao1 (by decide) (o_pick_b rfl rfl rfl) ?_
        exact ao_nil (Out.mk (by first | rfl | (refine congrArg AV.bool ?_; (rw [hok] at *; simp only [Bool.not_not] at *; first | (simp_all; done) | (simp_all; omega) | grind))) (by repeat (first | exact SubX.refl _ _ | refine SubX.at ?_ | refine SubX.put rfl ?_ | refine SubX.put_same rfl ?_)))
    repeat (first | refine join_ret ?_ | refine join_brk ?_ | refine then_nrm ?_ | refine blk_nrm ?_ | refine then_brk ?_ | refine blk_hit ?_ | refine blk_miss rfl ?_ | refine then_ret ?_ | refine blk_ret ?_ | refine aw_seq ?_ | refine aw_block ?_ | refine aw_skip ?_ | refine aw_exit ?_ | refine aw_scope ?_ | refine aw_ret ?_)
    refine aw_cond rfl (fun hc => ?_) (fun hc => ?_)
    · repeat (first | refine join_ret ?_ | refine join_brk ?_ | refine then_nrm ?_ | refine blk_nrm ?_ | refine then_brk ?_ | refine blk_hit ?_ | refine blk_miss rfl ?_ | refine then_ret ?_ | refine blk_ret ?_ | refine aw_seq ?_ | refine aw_block ?_ | refine aw_skip ?_ | refine aw_exit ?_ | refine aw_scope ?_ | refine aw_ret ?_)
      refine aw_region ?_
      first | refine ao1 (by decide) (w_loadR rfl (lk rfl rfl) rfl rfl rfl) ?_ | refine ao1 (by decide) (w_loadR rfl (lk rfl rfl) rfl (zadd hr) rfl) ?_ | refine ao1 (by decide) (w_loadR rfl (lk rfl rfl) rfl (zadd hr1) rfl) ?_ | refine ao1 (by decide) (w_loadR rfl (lk rfl rfl) rfl (zadd hr2) rfl) ?_ | refine ao1 (by decide) (w_loadRp rfl hr rfl) ?_ | refine ao1 (by decide) (w_loadRp rfl hr1 rfl) ?_ | refine ao1 (by decide) (w_loadRp rfl hr2 rfl) ?_ | refine ao1 (by decide) (w_loadN (cs := [_, _, _, _]) rfl (lk rfl rfl) rfl rfl rfl rfl) ?_ | refine ao1 (by decide) (o_loadNp (cs := [_, _, _, _]) rfl hr rfl rfl) ?_ | refine ao1 (by decide) (o_loadNp (cs := [_, _, _, _]) rfl hr1 rfl rfl) ?_ | refine ao1 (by decide) (o_loadNp (cs := [_, _, _, _]) rfl hr2 rfl rfl) ?_ | refine ao1 (by decide) (w_loadR rfl (lkF hF) rfl rfl rfl) ?_ | refine ao1 (by decide) (w_loadN (cs := [_, _, _, _]) rfl (lkF hF) rfl rfl rfl rfl) ?_
      refine ao2 (by rintro _ ⟨⟩) (w_storeW (sz := 4) rfl rfl rfl rfl rfl rfl (eWn_len _) rfl (Nat.le_of_ble_eq_true rfl)) ?_
      refine ao1 (by decide) (o_assign (v := .bool _) rfl) ?_
      refine ao_nil ?_
      try dsimp only [List.set_cons_zero, List.set_cons_succ, List.cons_append, List.nil_append, List.take_succ_cons, List.take_zero, List.drop_succ_cons, List.drop_zero, AV.cells, List.length_nil, List.length_cons, Av.put, Nat.reduceAdd, AV.up, AV.up1, List.map_cons, List.map_nil]
      repeat (first | refine join_ret ?_ | refine join_brk ?_ | refine then_nrm ?_ | refine blk_nrm ?_ | refine then_brk ?_ | refine blk_hit ?_ | refine blk_miss rfl ?_ | refine then_ret ?_ | refine blk_ret ?_ | refine aw_seq ?_ | refine aw_block ?_ | refine aw_skip ?_ | refine aw_exit ?_ | refine aw_scope ?_ | refine aw_ret ?_)
      rw [sok_false hlt (by simpa using hc), show wd (fpre l k) = pof l by rw [pof, okn_at hlt hno (by simpa using hc)]]
      exact e_done hB (r_cellR rfl (lk rfl rfl) rfl rfl (eWn_len _) (r_tmp rfl .nil)) rfl (by simp [AV.bel, AV.bels, eWn_bels])
    · have hokk : okB l k = true := by simpa using hc
      obtain ⟨h0, h256⟩ := okB_range hx hokk
      obtain ⟨n, rfl⟩ : ∃ n : Nat, x = n := ⟨x.toNat, by omega⟩
      have hn4 : n / 64 < 4 := by omega
      have hp : 2 ^ (n % 64) < 18446744073709551616 := p64 (by omega)
      have hcell : (eWn (wd (fpre l k)))[0 + n / 64 * 1]? = some (.int .u64 ((wd (fpre l k) (n / 64) : Nat) : Int)) := by rw [Nat.zero_add, Nat.mul_one]; exact eWn_get _ hn4
      have hlast : lastN l (k + 1) = (n : Int) := by rw [lastN, if_neg (by omega), Nat.add_sub_cancel, hx]; rfl
      have hset : (eWn (wd (fpre l k))).take (0 + n / 64 * 1) ++ [AV.int .u64 ((wd (fpre l k) (n / 64) ||| 2 ^ (n % 64) : Nat) : Int)] ++ (eWn (wd (fpre l k))).drop (0 + n / 64 * 1 + 1) = eWn (wd (fpre l (k + 1))) := by
        rw [Nat.zero_add, Nat.mul_one, eWn_set _ hn4, fpre_step hx]
        refine eWn_congr fun j _ => ?_
        rw [wd_put]
        split <;> simp_all
      repeat (first | refine join_ret ?_ | refine join_brk ?_ | refine then_nrm ?_ | refine blk_nrm ?_ | refine then_brk ?_ | refine blk_hit ?_ | refine blk_miss rfl ?_ | refine then_ret ?_ | refine blk_ret ?_ | refine aw_seq ?_ | refine aw_block ?_ | refine aw_skip ?_ | refine aw_exit ?_ | refine aw_scope ?_ | refine aw_ret ?_)
      refine aw_region ?_
      refine ao1 (by decide) (o_move (v := .int _ _) rfl) ?_
      refine ao1 (by decide) (o_assign (v := .int _ _) rfl) ?_
      refine ao_nil ?_
      try dsimp only [List.set_cons_zero, List.set_cons_succ, List.cons_append, List.nil_append, List.take_succ_cons, List.take_zero, List.drop_succ_cons, List.drop_zero, AV.cells, List.length_nil, List.length_cons, Av.put, Nat.reduceAdd, AV.up, AV.up1, List.map_cons, List.map_nil]
      repeat (first | refine join_ret ?_ | refine join_brk ?_ | refine then_nrm ?_ | refine blk_nrm ?_ | refine then_brk ?_ | refine blk_hit ?_ | refine blk_miss rfl ?_ | refine then_ret ?_ | refine blk_ret ?_ | refine aw_seq ?_ | refine aw_block ?_ | refine aw_skip ?_ | refine aw_exit ?_ | refine aw_scope ?_ | refine aw_ret ?_)
      refine aw_drawR mixed (some 9) 1 ?_
      try dsimp only [List.take_succ_cons, List.take_zero, List.take_nil, List.set_cons_zero, List.set_cons_succ, List.cons_append, List.nil_append]
      refine aq0 0 rfl (by decide +kernel) (by decide) (fun _ => o_move (v := .int _ _) rfl) ?_
      refine aq0 1 rfl (by decide +kernel) (by decide) (fun _ => o_quo (r := ((n / 64 : Nat) : Int)) rfl rfl (by omega) (wrap64_ok (n := ((n / 64 : Nat) : Int)) (by omega) (by omega))) ?_
      refine aqr 2 rfl (by decide +kernel) (by decide) (fun G hG => w_indexArrN rfl (lk rfl hG) rfl rfl hn4) ?_
      refine aqr 3 rfl (by decide +kernel) (by decide) (fun G hG => w_load1 (v := .int .u64 _) rfl (lk rfl hG) rfl rfl hcell) ?_
      refine aq0 4 rfl (by decide +kernel) (by decide) (fun _ => o_move (v := .int _ _) rfl) ?_
      refine aq0 5 rfl (by decide +kernel) (by decide) (fun _ => o_rem (r := ((n % 64 : Nat) : Int)) rfl rfl (by omega) rfl) ?_
      refine aq0 6 rfl (by decide +kernel) (by decide) (fun _ => o_shl (r := ((2 ^ (n % 64) : Nat) : Int)) rfl rfl (by omega) (by rw [show min ((n % 64 : Nat) : Int).toNat IntKind.u64.bits = n % 64 by show min (n % 64) 64 = _; omega, Int.one_mul]; rw [show ((2 : Int) ^ (n % 64)) = ((2 ^ (n % 64) : Nat) : Int) by simp]; exact u64_wrap _ hp)) ?_
      refine aq0 7 rfl (by decide +kernel) (by decide) (fun _ => o_or (r := ((wd (fpre l k) (n / 64) ||| 2 ^ (n % 64) : Nat) : Int)) rfl rfl (u64_or _ _ (wd_lt _ _) hp)) ?_
      refine aqr 8 rfl (by decide +kernel) (by decide) (fun G hG => w_indexArrN rfl (lk rfl hG) rfl rfl hn4) ?_
      refine aqs 9 rfl (by decide +kernel) (by first | exact fun _ => trivial | exact fun _ => ⟨_, rfl⟩ | exact fun _ => ⟨_, rfl, rfl⟩ | exact yet_done (by decide +kernel)) (by rintro _ ⟨⟩) (w_storeP (sz := 1) (v := .int .u64 _) (r' := eWn (wd (fpre l (k + 1)))) rfl rfl rfl rfl rfl rfl rfl rfl (by show _ ≤ 4; omega) hset) ?_
      refine aa_done (by decide +kernel) (by first | exact fun _ => trivial | exact fun _ => ⟨_, rfl⟩ | exact fun _ => ⟨_, rfl, rfl⟩ | exact yet_done (by decide +kernel)) ?_
      try dsimp only [List.set_cons_zero, List.set_cons_succ, List.cons_append, List.nil_append, List.take_succ_cons, List.take_zero, List.drop_succ_cons, List.drop_zero, AV.cells, List.length_nil, List.length_cons, Av.put, Nat.reduceAdd, AV.up, AV.up1, List.map_cons, List.map_nil]
      repeat (first | refine join_ret ?_ | refine join_brk ?_ | refine then_nrm ?_ | refine blk_nrm ?_ | refine then_brk ?_ | refine blk_hit ?_ | refine blk_miss rfl ?_ | refine then_ret ?_ | refine blk_ret ?_ | refine aw_seq ?_ | refine aw_block ?_ | refine aw_skip ?_ | refine aw_exit ?_ | refine aw_scope ?_ | refine aw_ret ?_)
      refine aw_region ?_
      first | refine ao1 (by decide) (o_add rfl rfl (wrap64_ok (by omega) (by omega))) ?_ | refine ao1 (by decide) (o_add rfl rfl rfl) ?_
      refine ao1 (by decide) (o_move (v := .int _ _) rfl) ?_
      refine ao_nil ?_
      try dsimp only [List.set_cons_zero, List.set_cons_succ, List.cons_append, List.nil_append, List.take_succ_cons, List.take_zero, List.drop_succ_cons, List.drop_zero, AV.cells, List.length_nil, List.length_cons, Av.put, Nat.reduceAdd, AV.up, AV.up1, List.map_cons, List.map_nil]
      repeat (first | refine join_ret ?_ | refine join_brk ?_ | refine then_nrm ?_ | refine blk_nrm ?_ | refine then_brk ?_ | refine blk_hit ?_ | refine blk_miss rfl ?_ | refine then_ret ?_ | refine blk_ret ?_ | refine aw_seq ?_ | refine aw_block ?_ | refine aw_skip ?_ | refine aw_exit ?_ | refine aw_scope ?_ | refine aw_ret ?_)
      refine ⟨k + 1, by omega, ⟨by omega, fun i hi => ?_⟩, by rw [hlast]; exact (by repeat (first | exact Sub.nil | refine Sub.cons (by first | rfl | (simp [get]; done)) ?_)), .refl _ _⟩
      rcases Nat.lt_or_eq_of_le (Nat.le_of_lt_succ hi) with h | h
      · exact hno i h
      · subst h; exact hokk
  · have : k = l.length := by simp at hc; omega
    subst this
    repeat (first | refine join_ret ?_ | refine join_brk ?_ | refine then_nrm ?_ | refine blk_nrm ?_ | refine then_brk ?_ | refine blk_hit ?_ | refine blk_miss rfl ?_ | refine then_ret ?_ | refine blk_ret ?_ | refine aw_seq ?_ | refine aw_block ?_ | refine aw_skip ?_ | refine aw_exit ?_ | refine aw_scope ?_ | refine aw_ret ?_)
    refine aw_region ?_
    first | refine ao1 (by decide) (w_loadR rfl (lk rfl rfl) rfl rfl rfl) ?_ | refine ao1 (by decide) (w_loadR rfl (lk rfl rfl) rfl (zadd hr) rfl) ?_ | refine ao1 (by decide) (w_loadR rfl (lk rfl rfl) rfl (zadd hr1) rfl) ?_ | refine ao1 (by decide) (w_loadR rfl (lk rfl rfl) rfl (zadd hr2) rfl) ?_ | refine ao1 (by decide) (w_loadRp rfl hr rfl) ?_ | refine ao1 (by decide) (w_loadRp rfl hr1 rfl) ?_ | refine ao1 (by decide) (w_loadRp rfl hr2 rfl) ?_ | refine ao1 (by decide) (w_loadN (cs := [_, _, _, _]) rfl (lk rfl rfl) rfl rfl rfl rfl) ?_ | refine ao1 (by decide) (o_loadNp (cs := [_, _, _, _]) rfl hr rfl rfl) ?_ | refine ao1 (by decide) (o_loadNp (cs := [_, _, _, _]) rfl hr1 rfl rfl) ?_ | refine ao1 (by decide) (o_loadNp (cs := [_, _, _, _]) rfl hr2 rfl rfl) ?_ | refine ao1 (by decide) (w_loadR rfl (lkF hF) rfl rfl rfl) ?_ | refine ao1 (by decide) (w_loadN (cs := [_, _, _, _]) rfl (lkF hF) rfl rfl rfl rfl) ?_
    refine ao2 (by rintro _ ⟨⟩) (w_storeW (sz := 4) rfl rfl rfl rfl rfl rfl (eWn_len _) rfl (Nat.le_of_ble_eq_true rfl)) ?_
    refine ao1 (by decide) (o_assign (v := .bool _) rfl) ?_
    refine ao_nil ?_
    try dsimp only [List.set_cons_zero, List.set_cons_succ, List.cons_append, List.nil_append, List.take_succ_cons, List.take_zero, List.drop_succ_cons, List.drop_zero, AV.cells, List.length_nil, List.length_cons, Av.put, Nat.reduceAdd, AV.up, AV.up1, List.map_cons, List.map_nil]
    repeat (first | refine join_ret ?_ | refine join_brk ?_ | refine then_nrm ?_ | refine blk_nrm ?_ | refine then_brk ?_ | refine blk_hit ?_ | refine blk_miss rfl ?_ | refine then_ret ?_ | refine blk_ret ?_ | refine aw_seq ?_ | refine aw_block ?_ | refine aw_skip ?_ | refine aw_exit ?_ | refine aw_scope ?_ | refine aw_ret ?_)
    rw [sok_true hno, show wd (fpre l l.length) = pof l by rw [pof, okn_all hno]]
    exact e_done hB (r_cellR rfl (lk rfl rfl) rfl rfl (eWn_len _) (r_tmp rfl .nil)) rfl (by simp [AV.bel, AV.bels, eWn_bels])
end Go.Av
