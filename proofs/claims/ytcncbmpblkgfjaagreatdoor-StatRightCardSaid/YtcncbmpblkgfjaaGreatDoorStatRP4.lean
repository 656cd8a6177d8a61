/- Parts of the proof: rules for an abstract memory, plain laws, and walks through the program. -/
import Derived.Test.YtcncbmpblkgfjaaGreatDoorStatRP0
import Derived.Test.YtcncbmpblkgfjaaGreatDoorStatRP3
import Derived.Test.YtcncbmpblkgfjaaGreatDoorStatRP2
set_option linter.unusedVariables false
set_option linter.unusedSimpArgs false
/-
  HEAD AND TAIL of a slice that nobody writes.
-/
namespace Go.Av
section
variable {P : Program} {N : Nat} {env : Env} {H : Heap} {ty : TypeId}
theorem o_tailp {t e : TypeId} {x : Operand} {lo : Option Operand} {xs ys : List (List AV)} {l sz : Nat} {agg : Bool} [hu : SlI P t e] [TyI P e agg sz] (hx : aev env x = .pl xs) (hl : Bd env lo 0 l) (h1 : l ≤ xs.length) (hsz : ∀ r ∈ xs, r.length = sz) (hy : xs.drop l = ys) :
    V1 P N (.slice t x lo Option.none Option.none) ty env H (.pl ys) := by
  have := o_slicep (P := P) (N := N) (env := env) (H := H) (ty := ty) (t := t) (e := e) (agg := agg) (h := xs.length) hx hl .none h1 (Nat.le_refl _) hsz
  rwa [List.take_of_length_le (by simp), hy] at this
theorem o_headp {t e : TypeId} {x : Operand} {hi : Option Operand} {xs ys : List (List AV)} {h sz : Nat} {agg : Bool} [hu : SlI P t e] [TyI P e agg sz] (hx : aev env x = .pl xs) (hh : Bd env hi xs.length h) (h1 : h ≤ xs.length) (hsz : ∀ r ∈ xs, r.length = sz) (hy : xs.take h = ys) :
    V1 P N (.slice t x Option.none hi Option.none) ty env H (.pl ys) := by
  have := o_slicep (P := P) (N := N) (env := env) (H := H) (ty := ty) (t := t) (e := e) (agg := agg) (l := 0) (h := h) hx .none hh (Nat.zero_le _) h1 hsz
  rwa [List.drop_zero, Nat.sub_zero, hy] at this
end
end Go.Av

namespace Go.Av
open Go.Proofs
set_option maxRecDepth 10000
set_option linter.unusedSimpArgs false
set_option linter.unusedVariables false

theorem graph_part (k u : Int) (H : Heap) : AC Tryz.prog 101 [.int .i64 k, .int .i64 u] H (Ret (.bool (gpart k u)) H) := by
  refine AC.body (N := 23) [.tmp 4] Tryz.func101 rfl rfl rfl (Nat.le_of_ble_eq_true rfl) fun B hB => ?_
  refine Z1s ?_
  refine Z7 ?_
  refine Z12 ?_
  refine aw_cond rfl (fun hc => ?_) (fun hc => ?_)
  · have h1 : k = 1 := by simpa using hc
    refine Z10 ?_
    refine Z12 ?_
    rw [show gpart k u = (u == 0) by simp [gpart, h1]; rfl]
    exact Zd
  have h1 : ¬ k = 1 := by simpa using hc
  refine Z4t ?_
  refine aw_cond rfl (fun hc => ?_) (fun hc => ?_)
  · have h2 : k = 2 := by simpa using hc
    refine Z1 ?_
    refine aw_out 4 (.bool (gpart k u)) ?_ ?_
    · refine Z64 ?_
      refine ao_split rfl rfl (fun hg2 => ?_) (fun hg2 => ?_)
      · refine Z36 ?_
        refine Zo ?_
        exact Z9p
      · refine Z65 ?_
        refine Zo ?_
        exact Z9p
    exact Z1z
  have h2 : ¬ k = 2 := by simpa using hc
  refine Z2 ?_
  refine Z11 ?_
  refine Zf ?_
  refine Z6 ?_
  repeat (first | refine join_ret ?_ | refine join_brk ?_ | refine then_nrm ?_ | refine blk_nrm ?_ | refine then_brk ?_ | refine blk_hit ?_ | refine blk_miss rfl ?_ | refine then_ret ?_ | refine blk_ret ?_ | refine aw_seq ?_ | refine aw_skip ?_ | refine aw_exit ?_ | refine aw_scope ?_ | refine aw_ret ?_)
  refine aw_joinQ ([(1, .int .i64 u), (18, .bool (decide (k = 3) || decide (k = 4)))]) (H ++ []) ?_ ?_
  · refine Z1 ?_
    refine aw_cond rfl (fun hc => ?_) (fun hc => ?_)
    · have h3 : k = 3 := by simpa using hc
      refine Z1 ?_
      refine join_nrm ?_ (.inl rfl)
      rw [show (decide (k = 3) || decide (k = 4)) = (k == 3) by simp [h3]]
      exact (by repeat (first | exact Sub.nil | refine Sub.cons (by first | rfl | (simp [get]; done)) ?_))
    · have h3 : ¬ k = 3 := by simpa using hc
      refine Z4t ?_
      refine join_nrm ?_ (.inl rfl)
      rw [show (decide (k = 3) || decide (k = 4)) = (k == 4) by simp [h3]; rfl]
      exact (by repeat (first | exact Sub.nil | refine Sub.cons (by first | rfl | (simp [get]; done)) ?_))
  refine Z1 ?_
  refine aw_cond rfl (fun hc => ?_) (fun hc => ?_)
  · have h3 : k = 3 ∨ k = 4 := by simpa using hc
    refine Z10 ?_
    refine Z12 ?_
    rw [show gpart k u = (u == 2) by simp only [gpart]; rw [Bool.eq_iff_iff]; simp; omega]
    exact Zd
  · have h3 : ¬ (k = 3 ∨ k = 4) := by simpa using hc
    refine Zh ?_
    rw [show gpart k u = false by simp only [gpart]; rw [Bool.eq_false_iff]; simp; omega]
    exact Zd
def uThing (t : Thing) : List Value := [.int .i64 t.kind, .int .i64 t.up, .string t.tag]
theorem eqThing_run (a b : Thing) (w : World) : (Op.equalIn 10000 72 (.agg (uThing a).toArray) (.agg (uThing b).toArray)).run Tryz.prog w = .ok (decide (a = b)) w := by
  have hS : Tryz.prog.underlying 72 = some (.struct (Tryz.prog.fieldsOf 72)) := by kernel_rfl
  have hp : Tryz.prog.stoodInHeld 72 = false := by kernel_rfl
  rw [show (10000 : Nat) = 9999 + 1 from rfl, run_equalIn_agg w 9999 72 _ _ hS hp]
  have u3 := Tryz.underlying3
  have a3 := Tryz.isAgg3
  have z3 := Tryz.sizeOf3
  simp only [uThing, Program.fieldsOf, Tryz.underlying72]
  go_simp
  have ht : a.tag.toList = b.tag.toList ↔ a.tag = b.tag := by have := str_eq a.tag b.tag; rw [Bool.eq_iff_iff] at this; simpa using this
  simp only [ht]
  cases a; cases b
  simp only [Thing.mk.injEq]
  (repeat' split) <;> simp_all
theorem things_len (g : List Thing) : ∀ r ∈ g.map eThing, r.length = 3 := rows_len (e := eThing) (n := 3) (fun _ => rfl) g
theorem things_bel (n : Nat) (g : List Thing) : ∀ r ∈ g.map eThing, AV.bels n r = true := rows_bel (e := eThing) (fun _ => rfl) g
theorem drop1_map {g : List Thing} : (g.map eThing).drop 1 = (g.drop 1).map eThing := by rw [List.map_drop]
theorem gokB_get {g : List Thing} {i : Nat} {t : Thing} (h : g[i + 1]? = some t) : gokB g i = (decide (0 ≤ t.up) && decide (t.up ≤ (i : Int)) && gpart t.kind (kindAt g t.up.toNat) && tagok t.tag && (decide (t.tag = ⟨#[]⟩) || decide (t.kind = 2))) := by rw [gokB, h]
theorem gright_cons (t0 : Thing) (g1 : List Thing) : gright (t0 :: g1) = (decide (g1.length + 1 ≤ 256) && decide (t0 = thing0) && allI (gokB (t0 :: g1)) g1.length) := by
  simp [gright]
set_option maxHeartbeats 0 in
theorem graph_Right (g : List Thing) (H : Heap) (hl : g.length ≤ 9223372036854775807) : AC Tryz.prog 50 [.pl (g.map eThing)] H (Ret (.bool (gright g)) H) := by
  refine AC.body (N := 66) [.tmp 2] Tryz.func50 rfl rfl rfl (Nat.le_of_ble_eq_true rfl) fun B hB => ?_
  refine Z1r ?_
  refine Z6 ?_
  cases g with
  | nil =>
    refine Z1 ?_
    refine aw_out 19 (.bool true) ?_ ?_
    · refine Z6t ?_
      refine Zv ?_
      refine ao_split rfl rfl (fun hg3 => ?_) (fun hg3 => ?_)
      · refine Z38 ?_
        refine Z36 ?_
        refine Z3j ?_
        exact Zp
      · exfalso; simp at hg3
    refine Z1 ?_
    refine aw_cond rfl (fun hc => ?_) (fun hc => ?_)
    · exact Z4l
    · simp at hc
  | cons t0 g1 =>
    have hr : ((t0 :: g1).map eThing)[(0 : Int).toNat]? = some (eThing t0) := rfl
    refine Z1 ?_
    refine aw_out 19 (.bool (!(decide (g1.length + 1 ≤ 256) && decide (t0 = thing0)))) ?_ ?_
    · refine Z6t ?_
      refine Zv ?_
      refine ao_split rfl rfl (fun hg3 => ?_) (fun hg3 => ?_)
      · refine Z38 ?_
        refine Z36 ?_
        refine Z3j ?_
        exact Z9q
      · refine Z9r ?_
        refine Z3a ?_
        refine Z31 ?_
        refine ao_split rfl rfl (fun hg8 => ?_) (fun hg8 => ?_)
        · refine Z36 ?_
          refine Z3j ?_
          exact Z9q
        · refine Z95 ?_
          refine ao_y1 rfl rfl (by decide) (w_indexAddrp rfl rfl (by decide) hr rfl) ?_
          refine ao_y1 rfl rfl (by decide) (w_loadRp rfl hr rfl) ?_
          refine ao_y1 rfl rfl (by decide) (V1.up (o_build (cs := [.int _ _, .int _ _, .str _]) rfl)) ?_
          refine ao_y1 rfl rfl (by decide) (o_neAgg (us := uThing t0) (vs := uThing thing0) rfl rfl rfl rfl (by kernel_rfl) (eqThing_run _ _)) ?_
          refine Zn ?_
          exact Z9q
    clear hr
    rw [gright_cons]
    refine Z1 ?_
    refine aw_cond rfl (fun hc => ?_) (fun hc => ?_)
    · have hno : (decide (g1.length + 1 ≤ 256) && decide (t0 = thing0)) = false := by simpa only [Bool.not_eq_true'] using hc
      rw [hno, Bool.false_and]
      exact Z4l
    have hyes : (decide (g1.length + 1 ≤ 256) && decide (t0 = thing0)) = true := by simpa only [Bool.not_eq_false'] using hc
    rw [hyes, Bool.true_and]
    have hl2 : g1.length + 1 ≤ 256 := by simp at hyes; omega
    refine Z8c ?_
    refine ao1 (by decide) (o_tailp (ys := g1.map eThing) rfl (Bd.some rfl rfl) (by simp) (things_len _) rfl) ?_
    refine Z9s ?_
    refine aw_loop (G := Nat) (fun i => i ≤ g1.length ∧ ∀ k, k < i → gokB (t0 :: g1) k = true) (fun i => [(0, .pl ((t0 :: g1).map eThing)), (21, .pl (g1.map eThing)), (22, .int .i64 ((g1.map eThing).length : Int)), (23, .int .i64 (i : Int))]) (fun _ => H ++ []) (fun i => g1.length - i) 0 ⟨Nat.zero_le _, fun k hk => by omega⟩ (by repeat (first | exact Sub.nil | refine Sub.cons (by first | rfl | (simp [get]; done)) ?_)) (Fit.refl _ _) ?_
    rintro i ⟨hi, hno⟩
    refine Z4d ?_
    refine aw_cond rfl (fun hc => ?_) (fun hc => ?_)
    · have hlt : i < g1.length := by simpa using hc
      obtain ⟨t, ht, htl⟩ := get_in hlt
      have hr := map_get eThing ht
      have hB2 := gokB_get (g := t0 :: g1) (i := i) (t := t) ht
      refine Z10 ?_
      refine Z4e ?_
      refine Z9t ?_
      refine Z9u ?_
      refine Z3 ?_
      refine Z9v ?_
      refine Z6 ?_
      have hno0 := hno
      clear hr htl ht hno hc
      by_cases hup : 0 ≤ t.up ∧ t.up ≤ (i : Int)
      · obtain ⟨u, hu, _⟩ := get_in (l := t0 :: g1) (k := t.up.toNat) (by simp only [List.length_cons]; omega)
        have hr1 := map_get eThing hu
        have hk : kindAt (t0 :: g1) t.up.toNat = u.kind := by rw [kindAt, hu]
        rw [hk] at hB2
        clear hu hk hyes hl
        refine Z1 ?_
        refine aw_of_out 64 (.bool (!gokB (t0 :: g1) i)) ?_ ?_
        · refine Z9w ?_
          refine Z5a ?_
          refine Z9x ?_
          refine Z9y ?_
          refine Z7g ?_
          refine aq_split (g := 31) rfl (fun hg3 => ?_) (fun hg3 => ?_)
          · refine Z9z ?_
            refine Za0 ?_
            refine Za1 ?_
            refine Za2 ?_
            refine Za3 ?_
            refine Za4 ?_
            refine Za5 ?_
            refine Za6 ?_
            refine Za7 ?_
            refine Za8 ?_
            refine Za9 ?_
            refine Zaa ?_
            refine Zab ?_
            refine Zac ?_
            refine Zad ?_
            refine Zae ?_
            refine Zaf ?_
            refine Zag ?_
            refine Zah ?_
            refine Zai ?_
            refine Zaj ?_
            refine Zak ?_
            refine Zat ?_
            exact Zau
          · refine Zav ?_
            refine Zaw ?_
            refine Zax ?_
            refine Zay ?_
            refine Za3 ?_
            refine aq_split (g := 37) rfl (fun hg9 => ?_) (fun hg9 => ?_)
            · refine Za4 ?_
              refine Za5 ?_
              refine Za6 ?_
              refine Za7 ?_
              refine Za8 ?_
              refine Za9 ?_
              refine Zaa ?_
              refine Zab ?_
              refine Zac ?_
              refine Zad ?_
              refine Zae ?_
              refine Zaf ?_
              refine Zag ?_
              refine Zah ?_
              refine Zai ?_
              refine Zaj ?_
              refine Zak ?_
              refine Zat ?_
              exact Zau
            · first | refine aqyp (g := 37) 10 rfl (by decide +kernel) (by decide) rfl rfl (fun G => w_fieldAddr rfl (lk rfl rfl) rfl (by decide)) ?_ | refine aqyp (g := 37) 10 rfl (by decide +kernel) (by decide) rfl rfl (fun G => w_fieldAddrp rfl (by decide)) ?_ | refine aqyp (g := 37) 10 rfl (by decide +kernel) (by decide) rfl rfl (fun G => w_fieldAddr rfl (lkF hF) rfl (by decide)) ?_
              first | refine aqyp (g := 37) 11 rfl (by decide +kernel) (by decide) rfl rfl (fun G => w_load1 (v := .int _ _) rfl (lk rfl rfl) rfl rfl rfl) ?_ | refine aqyp (g := 37) 11 rfl (by decide +kernel) (by decide) rfl rfl (fun G => w_load1 (v := .int _ _) rfl (lk rfl rfl) rfl (zadd hr) rfl) ?_ | refine aqyp (g := 37) 11 rfl (by decide +kernel) (by decide) rfl rfl (fun G => w_load1 (v := .int _ _) rfl (lk rfl rfl) rfl (zadd hr1) rfl) ?_ | refine aqyp (g := 37) 11 rfl (by decide +kernel) (by decide) rfl rfl (fun G => w_load1 (v := .int _ _) rfl (lk rfl rfl) rfl (zadd hr2) rfl) ?_ | refine aqyp (g := 37) 11 rfl (by decide +kernel) (by decide) rfl rfl (fun G => o_load1p (v := .int _ _) rfl hr rfl) ?_ | refine aqyp (g := 37) 11 rfl (by decide +kernel) (by decide) rfl rfl (fun G => o_load1p (v := .int _ _) rfl hr1 rfl) ?_ | refine aqyp (g := 37) 11 rfl (by decide +kernel) (by decide) rfl rfl (fun G => o_load1p (v := .int _ _) rfl hr2 rfl) ?_ | refine aqyp (g := 37) 11 rfl (by decide +kernel) (by decide) rfl rfl (fun G => w_load1 (v := .int _ _) rfl (lkF hF) rfl rfl rfl) ?_
              first | refine aqy0 (g := 37) 12 rfl (by decide +kernel) (by decide) rfl rfl (fun _ => o_move (v := .sl _ _ _ _ _) rfl) ?_ | refine aqy0 (g := 37) 12 rfl (by decide +kernel) (by decide) rfl rfl (fun _ => o_move (v := .pl _) rfl) ?_ | refine aqy0 (g := 37) 12 rfl (by decide +kernel) (by decide) rfl rfl (fun _ => o_move (v := .nsl) rfl) ?_
              first | refine aqyp (g := 37) 13 rfl (by decide +kernel) (by decide) rfl rfl (fun G => w_fieldAddr rfl (lk rfl rfl) rfl (by decide)) ?_ | refine aqyp (g := 37) 13 rfl (by decide +kernel) (by decide) rfl rfl (fun G => w_fieldAddrp rfl (by decide)) ?_ | refine aqyp (g := 37) 13 rfl (by decide +kernel) (by decide) rfl rfl (fun G => w_fieldAddr rfl (lkF hF) rfl (by decide)) ?_
              first | refine aqyp (g := 37) 14 rfl (by decide +kernel) (by decide) rfl rfl (fun G => w_load1 (v := .int _ _) rfl (lk rfl rfl) rfl rfl rfl) ?_ | refine aqyp (g := 37) 14 rfl (by decide +kernel) (by decide) rfl rfl (fun G => w_load1 (v := .int _ _) rfl (lk rfl rfl) rfl (zadd hr) rfl) ?_ | refine aqyp (g := 37) 14 rfl (by decide +kernel) (by decide) rfl rfl (fun G => w_load1 (v := .int _ _) rfl (lk rfl rfl) rfl (zadd hr1) rfl) ?_ | refine aqyp (g := 37) 14 rfl (by decide +kernel) (by decide) rfl rfl (fun G => w_load1 (v := .int _ _) rfl (lk rfl rfl) rfl (zadd hr2) rfl) ?_ | refine aqyp (g := 37) 14 rfl (by decide +kernel) (by decide) rfl rfl (fun G => o_load1p (v := .int _ _) rfl hr rfl) ?_ | refine aqyp (g := 37) 14 rfl (by decide +kernel) (by decide) rfl rfl (fun G => o_load1p (v := .int _ _) rfl hr1 rfl) ?_ | refine aqyp (g := 37) 14 rfl (by decide +kernel) (by decide) rfl rfl (fun G => o_load1p (v := .int _ _) rfl hr2 rfl) ?_ | refine aqyp (g := 37) 14 rfl (by decide +kernel) (by decide) rfl rfl (fun G => w_load1 (v := .int _ _) rfl (lkF hF) rfl rfl rfl) ?_
              refine aqyp (g := 37) 15 rfl (by decide +kernel) (by decide) rfl rfl (fun G => w_indexAddrp rfl rfl hup.1 hr1 rfl) ?_
              first | refine aqyp (g := 37) 16 rfl (by decide +kernel) (by decide) rfl rfl (fun G => w_fieldAddr rfl (lk rfl rfl) rfl (by decide)) ?_ | refine aqyp (g := 37) 16 rfl (by decide +kernel) (by decide) rfl rfl (fun G => w_fieldAddrp rfl (by decide)) ?_ | refine aqyp (g := 37) 16 rfl (by decide +kernel) (by decide) rfl rfl (fun G => w_fieldAddr rfl (lkF hF) rfl (by decide)) ?_
              refine aqyp (g := 37) 17 rfl (by decide +kernel) (by decide) rfl rfl (fun G => o_load1p (v := .int _ _) rfl hr1 rfl) ?_
              refine aqy02 (g := 37) 18 rfl (by decide +kernel) (by decide) rfl rfl (fun _ => V2.call (graph_part _ _ _) rfl) ?_
              refine aqy0 (g := 37) 19 rfl (by decide +kernel) (by decide) rfl rfl (fun _ => o_not rfl) ?_
              refine Zae ?_
              refine Zaf ?_
              refine aq_split (g := 49) rfl (fun hg21 => ?_) (fun hg21 => ?_)
              · refine Zag ?_
                refine Zah ?_
                refine Zai ?_
                refine Zaj ?_
                refine Zak ?_
                refine Zat ?_
                exact Zau
              · first | refine aqyp (g := 49) 22 rfl (by decide +kernel) (by decide) rfl rfl (fun G => w_fieldAddr rfl (lk rfl rfl) rfl (by decide)) ?_ | refine aqyp (g := 49) 22 rfl (by decide +kernel) (by decide) rfl rfl (fun G => w_fieldAddrp rfl (by decide)) ?_ | refine aqyp (g := 49) 22 rfl (by decide +kernel) (by decide) rfl rfl (fun G => w_fieldAddr rfl (lkF hF) rfl (by decide)) ?_
                first | refine aqyp (g := 49) 23 rfl (by decide +kernel) (by decide) rfl rfl (fun G => w_load1 (v := .str _) rfl (lk rfl rfl) rfl rfl rfl) ?_ | refine aqyp (g := 49) 23 rfl (by decide +kernel) (by decide) rfl rfl (fun G => w_load1 (v := .str _) rfl (lk rfl rfl) rfl (zadd hr) rfl) ?_ | refine aqyp (g := 49) 23 rfl (by decide +kernel) (by decide) rfl rfl (fun G => w_load1 (v := .str _) rfl (lk rfl rfl) rfl (zadd hr1) rfl) ?_ | refine aqyp (g := 49) 23 rfl (by decide +kernel) (by decide) rfl rfl (fun G => w_load1 (v := .str _) rfl (lk rfl rfl) rfl (zadd hr2) rfl) ?_ | refine aqyp (g := 49) 23 rfl (by decide +kernel) (by decide) rfl rfl (fun G => o_load1p (v := .str _) rfl hr rfl) ?_ | refine aqyp (g := 49) 23 rfl (by decide +kernel) (by decide) rfl rfl (fun G => o_load1p (v := .str _) rfl hr1 rfl) ?_ | refine aqyp (g := 49) 23 rfl (by decide +kernel) (by decide) rfl rfl (fun G => o_load1p (v := .str _) rfl hr2 rfl) ?_ | refine aqyp (g := 49) 23 rfl (by decide +kernel) (by decide) rfl rfl (fun G => w_load1 (v := .str _) rfl (lkF hF) rfl rfl rfl) ?_
                refine aqy02 (g := 49) 24 rfl (by decide +kernel) (by decide) rfl rfl (fun _ => V2.call (graph_Tag _ _) rfl) ?_
                refine aqy0 (g := 49) 25 rfl (by decide +kernel) (by decide) rfl rfl (fun _ => o_not rfl) ?_
                refine Zak ?_
                refine aq_split (g := 55) rfl (fun hg27 => ?_) (fun hg27 => ?_)
                · refine Zat ?_
                  exact Zau
                · first | refine aqyp (g := 55) 28 rfl (by decide +kernel) (by decide) rfl rfl (fun G => w_fieldAddr rfl (lk rfl rfl) rfl (by decide)) ?_ | refine aqyp (g := 55) 28 rfl (by decide +kernel) (by decide) rfl rfl (fun G => w_fieldAddrp rfl (by decide)) ?_ | refine aqyp (g := 55) 28 rfl (by decide +kernel) (by decide) rfl rfl (fun G => w_fieldAddr rfl (lkF hF) rfl (by decide)) ?_
                  first | refine aqyp (g := 55) 29 rfl (by decide +kernel) (by decide) rfl rfl (fun G => w_load1 (v := .str _) rfl (lk rfl rfl) rfl rfl rfl) ?_ | refine aqyp (g := 55) 29 rfl (by decide +kernel) (by decide) rfl rfl (fun G => w_load1 (v := .str _) rfl (lk rfl rfl) rfl (zadd hr) rfl) ?_ | refine aqyp (g := 55) 29 rfl (by decide +kernel) (by decide) rfl rfl (fun G => w_load1 (v := .str _) rfl (lk rfl rfl) rfl (zadd hr1) rfl) ?_ | refine aqyp (g := 55) 29 rfl (by decide +kernel) (by decide) rfl rfl (fun G => w_load1 (v := .str _) rfl (lk rfl rfl) rfl (zadd hr2) rfl) ?_ | refine aqyp (g := 55) 29 rfl (by decide +kernel) (by decide) rfl rfl (fun G => o_load1p (v := .str _) rfl hr rfl) ?_ | refine aqyp (g := 55) 29 rfl (by decide +kernel) (by decide) rfl rfl (fun G => o_load1p (v := .str _) rfl hr1 rfl) ?_ | refine aqyp (g := 55) 29 rfl (by decide +kernel) (by decide) rfl rfl (fun G => o_load1p (v := .str _) rfl hr2 rfl) ?_ | refine aqyp (g := 55) 29 rfl (by decide +kernel) (by decide) rfl rfl (fun G => w_load1 (v := .str _) rfl (lkF hF) rfl rfl rfl) ?_
                  refine aqy0 (g := 55) 30 rfl (by decide +kernel) (by decide) rfl rfl (fun _ => o_sned rfl rfl) ?_
                  refine aqy0 (g := 55) 31 rfl (by decide +kernel) (by decide) rfl rfl (fun _ => o_move (v := .bool _) rfl) ?_
                  refine aq_split (g := 59) rfl (fun hg31 => ?_) (fun hg31 => ?_)
                  · first | refine aqyp (g := 59) 32 rfl (by decide +kernel) (by decide) rfl rfl (fun G => w_fieldAddr rfl (lk rfl rfl) rfl (by decide)) ?_ | refine aqyp (g := 59) 32 rfl (by decide +kernel) (by decide) rfl rfl (fun G => w_fieldAddrp rfl (by decide)) ?_ | refine aqyp (g := 59) 32 rfl (by decide +kernel) (by decide) rfl rfl (fun G => w_fieldAddr rfl (lkF hF) rfl (by decide)) ?_
                    first | refine aqyp (g := 59) 33 rfl (by decide +kernel) (by decide) rfl rfl (fun G => w_load1 (v := .int _ _) rfl (lk rfl rfl) rfl rfl rfl) ?_ | refine aqyp (g := 59) 33 rfl (by decide +kernel) (by decide) rfl rfl (fun G => w_load1 (v := .int _ _) rfl (lk rfl rfl) rfl (zadd hr) rfl) ?_ | refine aqyp (g := 59) 33 rfl (by decide +kernel) (by decide) rfl rfl (fun G => w_load1 (v := .int _ _) rfl (lk rfl rfl) rfl (zadd hr1) rfl) ?_ | refine aqyp (g := 59) 33 rfl (by decide +kernel) (by decide) rfl rfl (fun G => w_load1 (v := .int _ _) rfl (lk rfl rfl) rfl (zadd hr2) rfl) ?_ | refine aqyp (g := 59) 33 rfl (by decide +kernel) (by decide) rfl rfl (fun G => o_load1p (v := .int _ _) rfl hr rfl) ?_ | refine aqyp (g := 59) 33 rfl (by decide +kernel) (by decide) rfl rfl (fun G => o_load1p (v := .int _ _) rfl hr1 rfl) ?_ | refine aqyp (g := 59) 33 rfl (by decide +kernel) (by decide) rfl rfl (fun G => o_load1p (v := .int _ _) rfl hr2 rfl) ?_ | refine aqyp (g := 59) 33 rfl (by decide +kernel) (by decide) rfl rfl (fun G => w_load1 (v := .int _ _) rfl (lkF hF) rfl rfl rfl) ?_
                    refine aqy0 (g := 59) 34 rfl (by decide +kernel) (by decide) rfl rfl (fun _ => o_ne rfl rfl) ?_
                    refine Zaz ?_
                    refine Zas ?_
                    exact Zau
                  · refine aqn0 (g := 59) 32 rfl (by decide +kernel) (by decide) rfl rfl rfl ?_
                    refine aqn0 (g := 59) 33 rfl (by decide +kernel) (by decide) rfl rfl rfl ?_
                    refine aqn0 (g := 59) 34 rfl (by decide +kernel) (by decide) rfl rfl rfl ?_
                    refine Zaz ?_
                    refine Zas ?_
                    exact Zau
        refine Z1 ?_
        refine aw_cond rfl (fun hc => ?_) (fun hc => ?_)
        · have hbad : gokB (t0 :: g1) i = false := by simpa only [Bool.not_eq_true'] using hc
          refine Zh ?_
          rw [allI_false hlt hbad]
          exact Zd
        · have hgood : gokB (t0 :: g1) i = true := by simpa only [Bool.not_eq_false'] using hc
          refine Z7a ?_
          refine ⟨i + 1, by omega, ⟨by omega, fun k hk => ?_⟩, (by repeat (first | exact Sub.nil | refine Sub.cons (by first | rfl | (simp [get]; done)) ?_)), Fit.loc hB (L := []) rfl (by repeat (first | exact EBel.nil | refine EBel.cons (by first | rfl | (simp [AV.bel, AV.bels, Lid]; done) | (simp [AV.bel, AV.bels, Lid]; omega)) ?_)) (fun o ho => by simp at ho)⟩
          rcases Nat.lt_or_eq_of_le (Nat.le_of_lt_succ hk) with h | h
          · exact hno0 k h
          · subst h; exact hgood
      · have hB3 : gokB (t0 :: g1) i = false := by
          rw [hB2]
          rcases Classical.not_and_iff_not_or_not.1 hup with h | h
          · rw [decide_eq_false h]; rfl
          · rw [decide_eq_false h]; simp
        clear hB2 hyes hl
        refine Z1 ?_
        refine aw_of_out 64 (.bool (!gokB (t0 :: g1) i)) ?_ ?_
        · refine Z9w ?_
          refine Z5a ?_
          refine Z9x ?_
          refine Z9y ?_
          refine Z7g ?_
          refine aq_split (g := 31) rfl (fun hg3 => ?_) (fun hg3 => ?_)
          · refine Z9z ?_
            refine Za0 ?_
            refine Za1 ?_
            refine Za2 ?_
            refine Za3 ?_
            refine Za4 ?_
            refine Za5 ?_
            refine Za6 ?_
            refine Za7 ?_
            refine Za8 ?_
            refine Za9 ?_
            refine Zaa ?_
            refine Zab ?_
            refine Zac ?_
            refine Zad ?_
            refine Zae ?_
            refine Zaf ?_
            refine Zag ?_
            refine Zah ?_
            refine Zai ?_
            refine Zaj ?_
            refine Zak ?_
            refine Zat ?_
            exact Zb0
          · refine Zav ?_
            refine Zaw ?_
            refine Zax ?_
            refine Zay ?_
            refine Za3 ?_
            refine aq_split (g := 37) rfl (fun hg9 => ?_) (fun hg9 => ?_)
            · refine Za4 ?_
              refine Za5 ?_
              refine Za6 ?_
              refine Za7 ?_
              refine Za8 ?_
              refine Za9 ?_
              refine Zaa ?_
              refine Zab ?_
              refine Zac ?_
              refine Zad ?_
              refine Zae ?_
              refine Zaf ?_
              refine Zag ?_
              refine Zah ?_
              refine Zai ?_
              refine Zaj ?_
              refine Zak ?_
              refine Zat ?_
              exact Zb0
            · exfalso; simp at hg3 hg9; omega
        refine Z1 ?_
        refine aw_cond rfl (fun hc => ?_) (fun hc => ?_)
        · have hbad : gokB (t0 :: g1) i = false := by simpa only [Bool.not_eq_true'] using hc
          refine Zh ?_
          rw [allI_false hlt hbad]
          exact Zd
        · have hgood : gokB (t0 :: g1) i = true := by simpa only [Bool.not_eq_false'] using hc
          refine Z7a ?_
          refine ⟨i + 1, by omega, ⟨by omega, fun k hk => ?_⟩, (by repeat (first | exact Sub.nil | refine Sub.cons (by first | rfl | (simp [get]; done)) ?_)), Fit.loc hB (L := []) rfl (by repeat (first | exact EBel.nil | refine EBel.cons (by first | rfl | (simp [AV.bel, AV.bels, Lid]; done) | (simp [AV.bel, AV.bels, Lid]; omega)) ?_)) (fun o ho => by simp at ho)⟩
          rcases Nat.lt_or_eq_of_le (Nat.le_of_lt_succ hk) with h | h
          · exact hno0 k h
          · subst h; exact hgood
    · have : i = g1.length := by simp at hc; omega
      subst this
      refine Zh ?_
      rw [allI_true hno]
      exact Zd
end Go.Av

/-
  THE SCHEDULER's PARTS, plainly: what is under a thing, kinds, how things are.
-/
namespace Go.Av
set_option linter.unusedVariables false
set_option linter.unusedSimpArgs false

theorem gright_len {g : List Thing} (h : gright g = true) : 1 ≤ g.length ∧ g.length ≤ 256 := by
  simp only [gright, Bool.and_eq_true, decide_eq_true_eq] at h; exact ⟨h.1.1.1, h.1.1.2⟩
theorem gright_up {g : List Thing} (h : gright g = true) {j : Nat} {t : Thing} (ht : g[j]? = some t) : t.up < (j : Int) ∧ (0 ≤ t.up ∨ t.up = -1) := by
  simp only [gright, Bool.and_eq_true, decide_eq_true_eq] at h
  have hj : j < g.length := (List.getElem?_eq_some_iff.1 ht).1
  cases j with
  | zero => rw [h.1.2] at ht; cases ht; exact ⟨by decide, .inr rfl⟩
  | succ i =>
    have h2 := allI_get h.2 (k := i) (by omega)
    rw [gokB, ht] at h2
    simp only [Bool.and_eq_true, decide_eq_true_eq] at h2
    exact ⟨by omega, .inl h2.1.1.1.1⟩
theorem gright_kind {g : List Thing} (h : gright g = true) {j : Nat} {t : Thing} (ht : g[j]? = some t) : 0 ≤ t.kind ∧ t.kind ≤ 4 := by
  simp only [gright, Bool.and_eq_true, decide_eq_true_eq] at h
  have hj : j < g.length := (List.getElem?_eq_some_iff.1 ht).1
  cases j with
  | zero => rw [h.1.2] at ht; cases ht; exact ⟨by decide, by decide⟩
  | succ i =>
    have h2 := allI_get h.2 (k := i) (by omega)
    rw [gokB, ht] at h2
    simp only [Bool.and_eq_true, decide_eq_true_eq] at h2
    have h3 := h2.1.1.2
    simp only [gpart, Bool.or_eq_true, Bool.and_eq_true, decide_eq_true_eq] at h3
    omega

/-! ### under a thing -/
theorem uinL_len (g : List Thing) (n : Int) : ∀ k, (uinL g n k).length = k
  | 0 => rfl
  | k + 1 => by rw [uinL, List.length_append, uinL_len g n k]; rfl
theorem uinL_get (g : List Thing) (n : Int) {j k : Nat} (hj : j < k) : ∀ m, k ≤ m → (uinL g n m).getD j false = (uinL g n k).getD j false
  | 0, h => by omega
  | m + 1, h => by
    rcases Nat.lt_or_eq_of_le h with h1 | h1
    · rw [uinL, List.getD_eq_getElem?_getD, List.getElem?_append_left (by rw [uinL_len]; omega), ← List.getD_eq_getElem?_getD]
      exact uinL_get g n hj m (by omega)
    · rw [h1]
def uU (g : List Thing) (n : Int) (j : Nat) : Bool := (uinL g n g.length).getD j false
theorem uU_at {g : List Thing} {n : Int} {j : Nat} {t : Thing} (ht : g[j]? = some t) (hu : t.up < (j : Int)) : uU g n j = (decide ((j : Int) = n) || (decide (0 ≤ t.up) && uU g n t.up.toNat)) := by
  have hj : j < g.length := (List.getElem?_eq_some_iff.1 ht).1
  have e : upAt g j = t.up := by rw [upAt, ht]
  rw [uU, uinL_get g n (Nat.lt_succ_self j) g.length (by omega), uinL, List.getD_eq_getElem?_getD, List.getElem?_append_right (by rw [uinL_len]; exact Nat.le_refl _), uinL_len, Nat.sub_self, e]
  simp only [List.getElem?_cons_zero, Option.getD_some]
  by_cases h0 : 0 ≤ t.up
  · rw [uU, uinL_get g n (k := j) (by omega) g.length (by omega)]
  · rw [decide_eq_false h0, Bool.false_and, Bool.false_and]
/-- What stands in the row of bools ahead of round i. -/
def uAt (g : List Thing) (n : Int) (i j : Nat) : Bool := if j < i then uU g n j else decide ((j : Int) = n)
def uRow (g : List Thing) (n : Int) (i : Nat) : List (List AV) := (List.range g.length).map fun j => [AV.bool (uAt g n i j)]
theorem uRow_len (g : List Thing) (n : Int) (i : Nat) : (uRow g n i).length = g.length := by simp [uRow]
theorem uRow_get {g : List Thing} {n : Int} {i j : Nat} (h : j < g.length) : (uRow g n i)[j]? = some [AV.bool (uAt g n i j)] := by
  simp [uRow, h]
theorem uRow_set (g : List Thing) (n : Int) (i : Nat) : (uRow g n i).set i [AV.bool (uU g n i)] = uRow g n (i + 1) := by
  apply List.ext_getElem?
  intro j
  rw [List.getElem?_set]
  by_cases hj : j < g.length
  · rw [uRow_get hj]
    by_cases e : i = j
    · subst e; rw [if_pos rfl, if_pos (by rw [uRow_len]; exact hj), uRow_get hj, uAt, if_pos (by omega)]
    · rw [if_neg e, uRow_get hj]
      have : (j < i + 1) ↔ (j < i) := by omega
      simp only [uAt, this]
  · rw [List.getElem?_eq_none (by rw [uRow_len]; omega), List.getElem?_eq_none (by rw [uRow_len]; omega)]
    split
    · rw [if_neg (by rw [uRow_len]; omega)]
    · rfl
theorem uRow_zero {g : List Thing} {m : Nat} (h : m < g.length) : (List.replicate g.length [AV.bool false]).set m [AV.bool true] = uRow g m 0 := by
  apply List.ext_getElem?
  intro j
  rw [List.getElem?_set]
  by_cases hj : j < g.length
  · rw [uRow_get hj]
    by_cases e : m = j
    · subst e; simp [uAt, hj]
    · rw [if_neg e, List.getElem?_replicate, if_pos hj]
      have : ¬ ((j : Int) = (m : Int)) := by omega
      simp [uAt, this]
  · rw [List.getElem?_eq_none (l := uRow g m 0) (by rw [uRow_len]; omega), List.getElem?_replicate, if_neg hj]
    split
    · rw [if_neg (by simp; omega)]
    · rfl
theorem uRow_bel (k : Nat) (g : List Thing) (n : Int) (i : Nat) : ∀ r ∈ uRow g n i, AV.bels k r = true := by
  intro r hr
  simp only [uRow, List.mem_map, List.mem_range] at hr
  obtain ⟨j, _, rfl⟩ := hr
  rfl
theorem gunder_yes {g : List Thing} {n : Int} (h : gthere g n = true) : gunder g n = idx (uU g n) g.length := by rw [gunder, if_pos h]; rfl
end Go.Av

namespace Go.Av
open Go.Proofs
set_option maxRecDepth 10000
set_option linter.unusedSimpArgs false
set_option linter.unusedVariables false

theorem graph_there (g : List Thing) (n : Int) (H : Heap) (hl : g.length ≤ 9223372036854775807) : AC Tryz.prog 103 [.pl (g.map eThing), .int .i64 n] H (Ret (.bool (gthere g n)) H) := by
  refine AC.body (N := 17) [.tmp 4] Tryz.func103 rfl rfl rfl (Nat.le_of_ble_eq_true rfl) fun B hB => ?_
  refine Zh ?_
  refine aw_out 4 (.bool (gthere g n)) ?_ ?_
  · refine Za ?_
    refine Z20 ?_
    refine ao_split rfl rfl (fun hg2 => ?_) (fun hg2 => ?_)
    · refine Zl ?_
      refine Z9r ?_
      refine Z3l ?_
      refine ao_split rfl rfl (fun hg8 => ?_) (fun hg8 => ?_)
      · refine Z95 ?_
        refine ao_y rfl rfl (by decide) (V2.call (graph_Right _ _ (by assumption)) rfl) ?_
        refine Zo ?_
        exact Zb1
      · refine Zt ?_
        exact Zb1
    · refine Z29 ?_
      refine Z31 ?_
      refine Zt ?_
      exact Zb1
  exact Z1z
set_option maxHeartbeats 0 in
theorem graph_Under (g : List Thing) (n : Int) (H : Heap) (hl : g.length ≤ 9223372036854775807) : AC Tryz.prog 54 [.pl (g.map eThing), .int .i64 n] H (Ret (.pl ((gunder g n).map eInt)) H) := by
  have hbel : ∀ (b i : Nat) (n : Int) (l : List Int), ∀ o ∈ [AObj.mk 0 1 (uRow g n i), AObj.mk l.length 1 (l.map eInt)], ∀ r ∈ o.rows, AV.bels b r = true := by
    intro b i n l o ho r hr
    simp only [List.mem_cons, List.not_mem_nil, or_false] at ho
    rcases ho with rfl | rfl
    · exact uRow_bel _ _ _ _ r hr
    · exact ints_bel _ _ r hr
  refine AC.body (N := 55) [.tmp 4] Tryz.func54 rfl rfl rfl (Nat.le_of_ble_eq_true rfl) fun B hB => ?_
  refine Z41 ?_
  refine Z98 ?_
  refine ao_ret (graph_there _ _ _ (by assumption)) rfl (by decide) ?_
  refine Z3u ?_
  refine aw_cond rfl (fun hc => ?_) (fun hc => ?_)
  · have hno : gthere g n = false := by simpa only [Bool.not_eq_true'] using hc
    rw [show gunder g n = [] by rw [gunder, hno]; rfl]
    refine Z43 ?_
    refine aw_nslpl 4 rfl ?_
    exact aw_ret (e_done hB (r_tmp rfl .nil) rfl rfl)
  have hyes : gthere g n = true := by simpa only [Bool.not_eq_false'] using hc
  rw [gunder_yes hyes]
  obtain ⟨m, rfl⟩ : ∃ m : Nat, n = m := ⟨n.toNat, by simp only [gthere, Bool.and_eq_true, decide_eq_true_eq] at hyes; omega⟩
  have hm : m < g.length := by simp only [gthere, Bool.and_eq_true, decide_eq_true_eq] at hyes; omega
  have hg : gright g = true := by simp only [gthere, Bool.and_eq_true, decide_eq_true_eq] at hyes; exact hyes.2
  have hlen := gright_len hg
  have hml : (g.map eThing).length = g.length := by simp
  refine Z8c ?_
  refine Z19 ?_
  refine ao2 (by rintro _ ⟨⟩; decide) (o_makeSliceL (n := g.length) (c := g.length) (bytes := 1) rfl (by decide) (congrArg (fun k : Nat => AV.int .i64 (k : Int)) hml) (congrArg (fun k : Nat => AV.int .i64 (k : Int)) hml) (Nat.le_refl _) (by omega) (by omega) rfl) ?_
  refine Z8g ?_
  have hrow : (List.replicate g.length [AV.bool false])[0 + m]? = some [.bool false] := by rw [Nat.zero_add, List.getElem?_replicate, if_pos hm]
  refine Z8d ?_
  refine Zb2 ?_
  refine ao2 (by rintro _ ⟨⟩) (w_storeP (sz := 1) (v := .bool _) (r' := [.bool true]) rfl rfl rfl rfl hrow rfl rfl rfl (by show _ ≤ 1; omega) rfl) ?_
  refine Z6 ?_
  rw [Nat.zero_add, uRow_zero hm]
  clear hrow hc
  refine Z43 ?_
  refine aw_ghostL (k := 1) 6 1 rfl (by decide) rfl ?_
  refine Zb3 ?_
  refine aw_loop (G := Nat) (fun i => i ≤ g.length) (fun i => [(5, .sl (Lid H.length 0) 0 0 g.length g.length), (6, .sl (Lid H.length 1) (idx (uU g m) i).length 0 (idx (uU g m) i).length (idx (uU g m) i).length), (19, .pl (g.map eThing)), (20, .int .i64 ((g.map eThing).length : Int)), (21, .int .i64 (i : Int))]) (fun i => H ++ [⟨0, 1, uRow g m i⟩, ⟨(idx (uU g m) i).length, 1, (idx (uU g m) i).map eInt⟩]) (fun i => g.length - i) 0 (Nat.zero_le _) (by repeat (first | exact Sub.nil | refine Sub.cons (by first | rfl | (simp [get]; done)) ?_)) (Fit.refl _ _) ?_
  intro i hi
  refine Z4d ?_
  refine aw_cond rfl (fun hc => ?_) (fun hc => ?_)
  · have hlt : i < g.length := by simpa using hc
    obtain ⟨t, ht, htl⟩ := get_in hlt
    have hr := map_get eThing ht
    obtain ⟨hu1, hu2⟩ := gright_up hg ht
    have hat := uU_at (n := (m : Int)) ht hu1
    have hrow0 : (uRow g (m : Int) i)[0 + i]? = some [.bool (decide ((i : Int) = (m : Int)))] := by rw [Nat.zero_add, uRow_get hlt, uAt, if_neg (Nat.lt_irrefl _)]
    have hset := uRow_set g (m : Int) i
    have hstep := idx_succ (uU g (m : Int)) i
    have hil := idx_len (uU g (m : Int)) i
    have hrow1 : (uRow g (m : Int) (i + 1))[0 + i]? = some [.bool (uU g (m : Int) i)] := by rw [Nat.zero_add, uRow_get hlt, uAt, if_pos (Nat.lt_succ_self _)]
    refine Z10 ?_
    refine Z4e ?_
    refine Z9t ?_
    refine Z9u ?_
    refine Z3 ?_
    refine Z9v ?_
    refine Z6 ?_
    clear hr ht htl hc
    refine Z1 ?_
    refine aw_joinQ ([(5, .sl (Lid H.length 0) 0 0 g.length g.length), (6, .sl (Lid H.length 1) (idx (uU g m) i).length 0 (idx (uU g m) i).length (idx (uU g m) i).length), (7, .int .i64 (i : Int)), (19, .pl (g.map eThing)), (20, .int .i64 ((g.map eThing).length : Int)), (21, .int .i64 (i : Int))]) (H ++ [⟨0, 1, uRow g m (i + 1)⟩, ⟨(idx (uU g m) i).length, 1, (idx (uU g m) i).map eInt⟩, ⟨0, 3, [eThing t]⟩]) ?_ ?_
    · by_cases hup : 0 ≤ t.up
      · have hrow2 := uRow_get (g := g) (n := (m : Int)) (i := i) (j := t.up.toNat) (by omega)
        rw [uAt, if_pos (by omega), ← Nat.zero_add t.up.toNat] at hrow2
        refine Z8d ?_
        refine Z98 ?_
        refine Zb2 ?_
        refine Zb4 ?_
        refine Zj ?_
        refine ao_split rfl rfl (fun hg6 => ?_) (fun hg6 => ?_)
        · refine Z4g ?_
          refine Zb5 ?_
          refine Z9c ?_
          refine Zb2 ?_
          refine Zb6 ?_
          refine ao_nil ?_
          (rw [Nat.zero_add, hset]; exact join_nrm (by repeat (first | exact Sub.nil | refine Sub.cons (by first | rfl | (simp [get]; done)) ?_)) (.inl rfl))
        · refine Z3s ?_
          refine Z24 ?_
          refine ao_split rfl rfl (fun hg10 => ?_) (fun hg10 => ?_)
          · refine Z95 ?_
            refine Z2z ?_
            refine ao_y1 rfl rfl (by decide) (w_indexAddr rfl (lk rfl rfl) rfl rfl rfl hup (by omega)) ?_
            refine ao_y1 rfl rfl (by decide) (w_load1 (v := .bool _) rfl (lk rfl rfl) rfl hrow2 rfl) ?_
            refine Z9j ?_
            refine Zb2 ?_
            refine Zb6 ?_
            refine ao_nil ?_
            (rw [Nat.zero_add, hset]; exact join_nrm (by repeat (first | exact Sub.nil | refine Sub.cons (by first | rfl | (simp [get]; done)) ?_)) (.inl rfl))
          · refine Zs ?_
            refine Z1x ?_
            refine Z9j ?_
            refine Zb2 ?_
            refine Zb6 ?_
            refine ao_nil ?_
            (rw [Nat.zero_add, hset]; exact join_nrm (by repeat (first | exact Sub.nil | refine Sub.cons (by first | rfl | (simp [get]; done)) ?_)) (.inl rfl))
      · refine Z8d ?_
        refine Z98 ?_
        refine Zb2 ?_
        refine Zb4 ?_
        refine Zj ?_
        refine ao_split rfl rfl (fun hg6 => ?_) (fun hg6 => ?_)
        · refine Z4g ?_
          refine Zb5 ?_
          refine Z9c ?_
          refine Zb2 ?_
          refine Zb6 ?_
          refine ao_nil ?_
          (rw [Nat.zero_add, hset]; exact join_nrm (by repeat (first | exact Sub.nil | refine Sub.cons (by first | rfl | (simp [get]; done)) ?_)) (.inl rfl))
        · refine Z3s ?_
          refine Z24 ?_
          refine ao_split rfl rfl (fun hg10 => ?_) (fun hg10 => ?_)
          · exfalso; simp at hg10; omega
          · refine Zs ?_
            refine Z1x ?_
            refine Z9j ?_
            refine Zb2 ?_
            refine Zb6 ?_
            refine ao_nil ?_
            (rw [Nat.zero_add, hset]; exact join_nrm (by repeat (first | exact Sub.nil | refine Sub.cons (by first | rfl | (simp [get]; done)) ?_)) (.inl rfl))
    refine Z8d ?_
    refine Zb2 ?_
    refine ao1 (by decide) (w_load1 (v := .bool _) rfl (lk rfl rfl) rfl hrow1 rfl) ?_
    refine Zb ?_
    refine aw_cond rfl (fun hc => ?_) (fun hc => ?_)
    · refine Z8d ?_
      refine Z8e ?_
      refine Z8f ?_
      refine Z8g ?_
      rw [show ((idx (uU g (m : Int)) i).map eInt).take (idx (uU g (m : Int)) i).length = (idx (uU g (m : Int)) i).map eInt from List.take_of_length_le (by simp)]
      refine Z7a ?_
      refine ⟨i + 1, by omega, by omega, by rw [hstep, if_pos hc, List.length_append]; exact (by repeat (first | exact Sub.nil | refine Sub.cons (by first | rfl | (simp [get]; done)) ?_)), Fit.loc hB (by rw [hstep, if_pos hc]; simp only [List.length_append, List.length_cons, List.length_nil, List.map_append, List.map_cons, List.map_nil]; rfl) (by repeat (first | exact EBel.nil | refine EBel.cons (by first | rfl | (simp [AV.bel, AV.bels, Lid]; done) | (simp [AV.bel, AV.bels, Lid]; omega)) ?_)) (hbel _ _ _ _)⟩
    · refine Z7a ?_
      refine ⟨i + 1, by omega, by omega, by rw [hstep, if_neg (by simp [hc]), List.append_nil]; exact (by repeat (first | exact Sub.nil | refine Sub.cons (by first | rfl | (simp [get]; done)) ?_)), Fit.loc hB (L' := _) (G := [_]) (by rw [hstep, if_neg (by simp [hc]), List.append_nil]; rfl) (by repeat (first | exact EBel.nil | refine EBel.cons (by first | rfl | (simp [AV.bel, AV.bels, Lid]; done) | (simp [AV.bel, AV.bels, Lid]; omega)) ?_)) (hbel _ _ _ _)⟩
  · have : i = g.length := by simp at hc; omega
    subst this
    refine Z8c ?_
    refine Z8a ?_
    refine aw_freezeL (ys := (idx (uU g m) g.length).map eInt) 4 rfl rfl rfl rfl (by rw [List.drop_zero, List.take_of_length_le (by simp)]) (by simp) (ints_bel 0 _) ?_
    exact Z8h
end Go.Av

/-
  THE SCHEDULER's PARTS, plainly: kinds counted one by one, the worst one by one.
-/
namespace Go.Av
set_option linter.unusedVariables false
set_option linter.unusedSimpArgs false

def kin (g : List Thing) (c : Int) (n : Int) : Bool := decide (n < (g.length : Int)) && decide (kindAt g n.toNat = c)
theorem kcnt_kin (g : List Thing) (l : List Int) (c : Int) : kcnt g l c = ((l.filter (kin g c)).length : Int) := rfl
theorem kcnt_step {g : List Thing} {l : List Int} {k : Nat} {x : Int} (hx : l[k]? = some x) (c : Int) : kcnt g (l.take (k + 1)) c = kcnt g (l.take k) c + if kin g c x then 1 else 0 := by
  rw [kcnt_kin, kcnt_kin, List.take_add_one, hx, List.filter_append, List.length_append]
  simp only [Option.toList_some, List.filter_cons, List.filter_nil]
  cases h : kin g c x <;> simp
theorem kcnt_le (g : List Thing) (l : List Int) (c : Int) : 0 ≤ kcnt g l c ∧ kcnt g l c ≤ (l.length : Int) := by
  have := List.length_filter_le (fun n => decide (n < (g.length : Int)) && decide (kindAt g n.toNat = c)) l
  rw [kcnt]; omega
abbrev eK5 (f : Nat → Int) : List AV := [.int .i64 (f 0), .int .i64 (f 1), .int .i64 (f 2), .int .i64 (f 3), .int .i64 (f 4)]
theorem eK5_get (f : Nat → Int) {c : Nat} (h : c < 5) : (eK5 f)[c]? = some (.int .i64 (f c)) := by
  rcases c with _ | _ | _ | _ | _ | c <;> first | rfl | omega
theorem eK5_set (f : Nat → Int) {c : Nat} (h : c < 5) (v : Int) : (eK5 f).take c ++ [.int .i64 v] ++ (eK5 f).drop (c + 1) = eK5 (fun j => if j = c then v else f j) := by
  rcases c with _ | _ | _ | _ | _ | c <;> first | rfl | omega
theorem eK5_congr {f h : Nat → Int} (e : ∀ j, j < 5 → f j = h j) : eK5 f = eK5 h := by
  simp only [eK5, e 0 (by decide), e 1 (by decide), e 2 (by decide), e 3 (by decide), e 4 (by decide)]
def kfun (g : List Thing) (l : List Int) (j : Nat) : Int := kcnt g l (j : Int)
theorem gkinds_yes {g : List Thing} {l : List Int} (h : gright g = true) (hs : sok l = true) : (gkinds g l).map (AV.int .i64) = eK5 (kfun g l) := by rw [gkinds, if_pos (by rw [h, hs]; rfl)]; rfl
theorem gkinds_no {g : List Thing} {l : List Int} (h : (gright g && sok l) = false) : (gkinds g l).map (AV.int .i64) = eK5 (fun _ => 0) := by rw [gkinds, if_neg (by rw [h]; decide)]; rfl

/-! ### the worst -/
theorem worstL_len (g : List Thing) (h : List Int) : ∀ k, (worstL g h k).length = k
  | 0 => rfl
  | k + 1 => by rw [worstL, List.length_append, worstL_len g h k]; rfl
theorem worstL_get (g : List Thing) (h : List Int) {j k : Nat} (hj : j < k) : ∀ m, k ≤ m → (worstL g h m).getD j 0 = (worstL g h k).getD j 0
  | 0, e => by omega
  | m + 1, e => by
    rcases Nat.lt_or_eq_of_le e with h1 | h1
    · rw [worstL, List.getD_eq_getElem?_getD, List.getElem?_append_left (by rw [worstL_len]; omega), ← List.getD_eq_getElem?_getD]
      exact worstL_get g h hj m (by omega)
    · rw [h1]
def wW (g : List Thing) (h : List Int) (j : Nat) : Int := (worstL g h g.length).getD j 0
theorem wW_at {g : List Thing} {h : List Int} {j : Nat} {t : Thing} (ht : g[j]? = some t) (hu : t.up < (j : Int)) : wW g h j = if 0 ≤ t.up then max (h.getD j 0) (wW g h t.up.toNat) else h.getD j 0 := by
  have hj : j < g.length := (List.getElem?_eq_some_iff.1 ht).1
  have e : upAt g j = t.up := by rw [upAt, ht]
  rw [wW, worstL_get g h (Nat.lt_succ_self j) g.length (by omega), worstL, List.getD_eq_getElem?_getD, List.getElem?_append_right (by rw [worstL_len]; exact Nat.le_refl _), worstL_len, Nat.sub_self, e]
  simp only [List.getElem?_cons_zero, Option.getD_some]
  by_cases h0 : 0 ≤ t.up
  · rw [if_pos h0, if_pos h0, wW, worstL_get g h (k := j) (by omega) g.length (by omega)]
  · rw [if_neg h0, if_neg h0]
def wAt (g : List Thing) (h : List Int) (i j : Nat) : Int := if j < i then wW g h j else h.getD j 0
def wRow (g : List Thing) (h : List Int) (i : Nat) : List Int := (List.range g.length).map (wAt g h i)
theorem wRow_len (g : List Thing) (h : List Int) (i : Nat) : (wRow g h i).length = g.length := by simp [wRow]
theorem wRow_get {g : List Thing} {h : List Int} {i j : Nat} (hj : j < g.length) : (wRow g h i)[j]? = some (wAt g h i j) := by simp [wRow, hj]
theorem wRow_set (g : List Thing) (h : List Int) (i : Nat) : (wRow g h i).set i (wW g h i) = wRow g h (i + 1) := by
  apply List.ext_getElem?
  intro j
  rw [List.getElem?_set]
  by_cases hj : j < g.length
  · rw [wRow_get hj]
    by_cases e : i = j
    · subst e; rw [if_pos rfl, if_pos (by rw [wRow_len]; exact hj), wRow_get hj, wAt, if_pos (by omega)]
    · rw [if_neg e, wRow_get hj]
      have : (j < i + 1) ↔ (j < i) := by omega
      simp only [wAt, this]
  · rw [List.getElem?_eq_none (by rw [wRow_len]; omega), List.getElem?_eq_none (by rw [wRow_len]; omega)]
    split
    · rw [if_neg (by rw [wRow_len]; omega)]
    · rfl
theorem wRow_zero {g : List Thing} {h : List Int} (e : h.length = g.length) : wRow g h 0 = h := by
  apply List.ext_getElem?
  intro j
  by_cases hj : j < g.length
  · rw [wRow_get hj, wAt, if_neg (by omega), List.getD_eq_getElem?_getD, List.getElem?_eq_getElem (by omega)]; rfl
  · rw [List.getElem?_eq_none (by rw [wRow_len]; omega), List.getElem?_eq_none (by omega)]
theorem wRow_same {g : List Thing} {h : List Int} {i : Nat} (e : wW g h i = h.getD i 0) : wRow g h (i + 1) = wRow g h i := by
  refine List.map_congr_left fun j _ => ?_
  simp only [wAt]
  by_cases h1 : j < i
  · rw [if_pos h1, if_pos (by omega)]
  · by_cases h2 : j = i
    · subst h2; rw [if_pos (by omega), if_neg (by omega), e]
    · rw [if_neg h1, if_neg (by omega)]
theorem wRow_all (g : List Thing) (h : List Int) : wRow g h g.length = worstL g h g.length := by
  apply List.ext_getElem?
  intro j
  by_cases hj : j < g.length
  · rw [wRow_get hj, wAt, if_pos hj, wW, List.getD_eq_getElem?_getD, List.getElem?_eq_getElem (by rw [worstL_len]; omega)]; rfl
  · rw [List.getElem?_eq_none (by rw [wRow_len]; omega), List.getElem?_eq_none (by rw [worstL_len]; omega)]
theorem worst_get {g : List Thing} {h : List Int} {k : Nat} {x : Int} (hx : (worstL g h g.length)[k]? = some x) : x = wW g h k := by
  rw [wW, List.getD_eq_getElem?_getD, hx]; rfl
theorem hright_parts {g : List Thing} {h : List Int} (e : hright g h = true) : gright g = true ∧ h.length = g.length ∧ (h.any fun n => decide (n < 0) || decide (2 < n)) = false := by
  simp only [hright, Bool.and_eq_true, decide_eq_true_eq, Bool.not_eq_true'] at e; exact ⟨e.1.1, e.1.2, e.2⟩
end Go.Av

namespace Go.Av
open Go.Proofs
set_option maxRecDepth 10000
set_option linter.unusedSimpArgs false
set_option linter.unusedVariables false

set_option maxHeartbeats 0 in
theorem graph_Kinds (g : List Thing) (l : List Int) (H : Heap) (hl : g.length ≤ 9223372036854775807) (hn : l.length ≤ 9223372036854775807) : AC Tryz.prog 43 [.pl (g.map eThing), .pl (l.map eInt)] H (Ret (.agg ((gkinds g l).map (AV.int .i64))) H) := by
  refine AC.body (N := 38) [.cell 4 28] Tryz.func43 rfl rfl rfl (Nat.le_of_ble_eq_true rfl) fun B hB => ?_
  refine Z2 ?_
  refine Zb7 ?_
  refine Z7 ?_
  refine Zb7 ?_
  refine Zb ?_
  refine aw_out 15 (.bool (!(gright g && sok l))) ?_ ?_
  · refine Z45 ?_
    refine Zb8 ?_
    refine Z22 ?_
    refine ao_split rfl rfl (fun hg3 => ?_) (fun hg3 => ?_)
    · refine Z3j ?_
      exact Zb9
    · refine Z95 ?_
      refine Zba ?_
      refine Z26 ?_
      exact Zb9
  refine Z1 ?_
  refine aw_cond rfl (fun hc => ?_) (fun hc => ?_)
  · have hno : (gright g && sok l) = false := by simpa only [Bool.not_eq_true'] using hc
    rw [gkinds_no hno]
    refine Z2 ?_
    refine Zbb ?_
    refine Zbc ?_
    exact Zbe
  have hyes : gright g = true ∧ sok l = true := by simpa only [Bool.not_eq_false', Bool.and_eq_true] using hc
  obtain ⟨hg, hs⟩ := hyes
  rw [gkinds_yes hg hs]
  clear hc
  have hlen := gright_len hg
  have hl2 := sok_256 hs
  refine Zb3 ?_
  refine aw_loop (G := Nat) (fun k => k ≤ l.length) (fun k => [(0, .pl (g.map eThing)), (4, .pt (Lid H.length 0) 0 0 0), (5, .pt (Lid H.length 1) 0 0 0), (17, .pl (l.map eInt)), (18, .int .i64 (l.length : Int)), (19, .int .i64 (k : Int))]) (fun k => H ++ [⟨0, 5, [eK5 (fun _ => 0)]⟩, ⟨0, 5, [eK5 (kfun g (l.take k))]⟩]) (fun k => l.length - k) 0 (Nat.zero_le _) (by repeat (first | exact Sub.nil | refine Sub.cons (by first | rfl | (simp [get]; done)) ?_)) (.inl rfl) ?_
  intro k hk
  refine Z4d ?_
  refine aw_cond rfl (fun hc => ?_) (fun hc => ?_)
  · have hlt : k < l.length := by simpa using hc
    obtain ⟨x, hx, hxl⟩ := get_in hlt
    have hr := map_get eInt hx
    have hstep := fun c => kcnt_step (g := g) hx c
    have hx0 := sok_get_range hs hlt
    rw [show l[k] = x from Option.some.inj (by rw [← hx, List.getElem?_eq_getElem hlt])] at hx0
    refine Z2 ?_
    refine Z4f ?_
    refine Z15 ?_
    refine Z6v ?_
    refine aw_cond rfl (fun hc => ?_) (fun hc => ?_)
    · have hxg : x < (g.length : Int) := by simpa using hc
      obtain ⟨t, ht, htl⟩ := get_in (l := g) (k := x.toNat) (by omega)
      have hr1 := map_get eThing ht
      obtain ⟨c, hcc, hc5⟩ : ∃ c : Nat, t.kind = c ∧ c < 5 := ⟨t.kind.toNat, by have := gright_kind hg ht; omega, by have := gright_kind hg ht; omega⟩
      have hb := kcnt_le g (l.take k) c
      have hb2 : (l.take k).length ≤ 256 := by rw [List.length_take]; omega
      have hcell : (eK5 (kfun g (l.take k)))[0 + c * 1]? = some (.int .i64 (kfun g (l.take k) c)) := by rw [Nat.zero_add, Nat.mul_one]; exact eK5_get _ hc5
      have hset : (eK5 (kfun g (l.take k))).take (0 + c * 1) ++ [AV.int .i64 (kfun g (l.take k) c + 1)] ++ (eK5 (kfun g (l.take k))).drop (0 + c * 1 + 1) = eK5 (kfun g (l.take (k + 1))) := by
        rw [Nat.zero_add, Nat.mul_one, eK5_set _ hc5]
        refine eK5_congr fun j _ => ?_
        simp only [kfun, hstep, kin, decide_eq_true hxg, Bool.true_and, show kindAt g x.toNat = (c : Int) by rw [kindAt, ht]; exact hcc]
        by_cases e : j = c
        · subst e; simp
        · have : ¬ (c : Int) = (j : Int) := by omega
          simp [e, this]
      refine Z8d ?_
      refine ao1 (by decide) (w_indexAddrp rfl rfl hx0.1 hr1 rfl) ?_
      refine Z2u ?_
      refine Zbf ?_
      refine Zbg ?_
      refine Zbh ?_
      refine ao1 (by decide) (o_add (r := kfun g (l.take k) c + 1) rfl rfl (wrap64_ok (by simp only [kfun]; omega) (by simp only [kfun]; omega))) ?_
      refine Zbg ?_
      refine ao2 (by rintro _ ⟨⟩) (w_storeP (sz := 1) (v := .int .i64 _) (r' := eK5 (kfun g (l.take (k + 1)))) rfl rfl rfl rfl rfl rfl rfl rfl (by show _ ≤ 5; omega) hset) ?_
      refine Z7 ?_
      refine Z4k ?_
      exact ⟨k + 1, by omega, by omega, (by repeat (first | exact Sub.nil | refine Sub.cons (by first | rfl | (simp [get]; done)) ?_)), .refl _ _⟩
    · have hxg : ¬ x < (g.length : Int) := by simpa using hc
      refine Z7a ?_
      refine ⟨k + 1, by omega, by omega, (by repeat (first | exact Sub.nil | refine Sub.cons (by first | rfl | (simp [get]; done)) ?_)), .inl ?_⟩
      rw [show eK5 (kfun g (l.take (k + 1))) = eK5 (kfun g (l.take k)) from eK5_congr fun j _ => by simp [kfun, hstep, kin, hxg]]
  · have : k = l.length := by simp at hc; omega
    subst this
    refine Z2 ?_
    refine Zbb ?_
    refine Zbc ?_
    refine Zb ?_
    rw [List.take_length]
    exact Zbd
end Go.Av

namespace Go.Av
open Go.Proofs
set_option maxRecDepth 10000
set_option linter.unusedSimpArgs false
set_option linter.unusedVariables false

theorem slices_CloneT (l : List Thing) (H : Heap) (hn : l.length ≤ 1000000) : AC Tryz.prog 52 [.pl (l.map eThing)] H (Ret (.pl (l.map eThing)) H) := by
  refine AC.body (N := 8) [.tmp 2] Tryz.func52 rfl rfl rfl (Nat.le_of_ble_eq_true rfl) fun B hB => ?_
  refine Z41 ?_
  refine Z42 ?_
  refine ao_cons rfl (by rintro _ ⟨⟩; decide) (o_eqNil rfl rfl _ _ _ _) ?_ (fun _ _ h => h.elim)
  rintro _ _ ⟨nb, rfl, hnb, rfl⟩
  refine Zb ?_
  refine aw_cond rfl (fun hc => ?_) (fun hc => ?_)
  · subst hc
    have hb : l = [] := by
      cases l with
      | nil => rfl
      | cons x b => simp at hnb
    subst hb
    refine Z43 ?_
    refine aw_nslpl 2 rfl ?_
    exact aw_ret (e_done hB (r_tmp rfl .nil) rfl rfl)
  · refine Z2 ?_
    refine Z44 ?_
    refine Z45 ?_
    refine ao2 (by rintro _ ⟨⟩; decide) (g_append_new (sz := 3) (bytes := 32) rfl (Src.pl rfl (things_len l)) rfl (by decide) (by simp; omega) (by simp; omega) (things_bel 0 l)) ?_
    exact Z47

/-- A clone that is written. -/
theorem slices_CloneO (l : List Int) (H : Heap) (hn : l.length ≤ 1000000) : AC Tryz.prog 109 [.pl (l.map eI)] H (Ret (.sl (Lid H.length 0) 0 0 l.length l.length) (H ++ [⟨0, 1, l.map eI⟩])) := by
  refine AC.body (N := 8) [.tmp 2] Tryz.func109 rfl rfl rfl (Nat.le_of_ble_eq_true rfl) fun B hB => ?_
  refine Z41 ?_
  refine Z42 ?_
  refine ao_cons rfl (by rintro _ ⟨⟩; decide) (o_eqNil rfl rfl _ _ _ _) ?_ (fun _ _ h => h.elim)
  rintro _ _ ⟨nb, rfl, hnb, rfl⟩
  refine Zb ?_
  refine aw_cond rfl (fun hc => ?_) (fun hc => ?_)
  · subst hc
    have hb : l = [] := by
      cases l with
      | nil => rfl
      | cons x b => simp at hnb
    subst hb
    refine Z43 ?_
    refine aw_ghostL (k := 0) 2 1 rfl (by decide) rfl ?_
    exact aw_ret (e_keep (G := []) hB (r_tmp rfl .nil) rfl rfl (by simp [AV.bel, Lid]) (by simp))
  · refine Z2 ?_
    refine Z44 ?_
    refine Z45 ?_
    refine ao2 (by rintro _ ⟨⟩; decide) (g_append_nsl rfl (Src.pl rfl (eI_len l)) rfl (by decide) (by simp; omega) (by simp; omega) rfl) ?_
    refine Z46 ?_
    exact e_keep (G := []) hB (r_tmp rfl .nil) (congrArg (fun n => AV.sl (Lid H.length 0) 0 0 n n) (show (l.map eI).length = l.length by simp)) (by simp) (by simp [AV.bel, Lid]) (by intro o ho r hr; simp only [List.mem_singleton] at ho; subst ho; exact eI_bel _ _ r hr)

theorem slices_IndexFuncI (F : Nat) [FnI Tryz.prog F] (p : Int → Bool) (hF : ∀ (x : Int) (H : Heap), AC Tryz.prog F [.int .i64 x] H (Ret (.bool (p x)) H)) (l : List Int) (H : Heap) (hl : l.length ≤ 1000000) : AC Tryz.prog 162 [.pl (l.map eI), .fn (.func F) [] []] H (Ret (.int .i64 (ixf p l)) H) := by
  refine AC.body (N := 19) [.tmp 4] Tryz.func162 rfl rfl rfl (Nat.le_of_ble_eq_true rfl) fun B hB => ?_
  refine Z8 ?_
  refine Z6t ?_
  refine Z4c ?_
  refine aw_loop (G := Nat) (fun k => k ≤ l.length ∧ ∀ y ∈ l.take k, p y = false) (fun k => [(0, .pl (l.map eI)), (1, .fn (.func F) [] []), (7, .int .i64 (l.length : Int)), (8, .int .i64 (k : Int))]) (fun _ => H ++ []) (fun k => l.length - k) 0 ⟨Nat.zero_le _, by simp⟩ (by repeat (first | exact Sub.nil | refine Sub.cons (by first | rfl | (simp [get]; done)) ?_)) (Fit.refl _ _) ?_
  rintro k ⟨hk, hno⟩
  refine Z4d ?_
  refine aw_cond rfl (fun hc => ?_) (fun hc => ?_)
  · have hlt : k < l.length := by simpa using hc
    obtain ⟨x, hx, hxl⟩ := get_in hlt
    have hr := map_get eI hx
    refine Z10 ?_
    refine Z1a ?_
    refine Z1t ?_
    refine Z98 ?_
    refine Z4f ?_
    refine ao2 (by rintro _ ⟨⟩; decide) (V2.callv (hF x _) rfl rfl) ?_
    refine Zb ?_
    refine aw_cond rfl (fun hc => ?_) (fun hc => ?_)
    · refine Z1u ?_
      rw [ixf_some hx hc hno]
      exact Zd
    · refine Z7a ?_
      refine ⟨k + 1, by omega, ⟨by omega, ?_⟩, (by repeat (first | exact Sub.nil | refine Sub.cons (by first | rfl | (simp [get]; done)) ?_)), .refl _ _⟩
      rw [take_snoc_get hx]
      intro y hy
      rcases List.mem_append.1 hy with h | h
      · exact hno y h
      · simp only [List.mem_singleton] at h
        subst h
        exact hc
  · have : k = l.length := by simp at hc; omega
    subst this
    rw [List.take_length] at hno
    rw [ixf_none hno]
    exact Z17
theorem slices_ContainsFuncI (F : Nat) [FnI Tryz.prog F] (p : Int → Bool) (hF : ∀ (x : Int) (H : Heap), AC Tryz.prog F [.int .i64 x] H (Ret (.bool (p x)) H)) (l : List Int) (H : Heap) (hl : l.length ≤ 1000000) : AC Tryz.prog 122 [.pl (l.map eI), .fn (.func F) [] []] H (Ret (.bool (l.any p)) H) := by
  refine AC.body (N := 9) [.tmp 4] Tryz.func122 rfl rfl rfl (Nat.le_of_ble_eq_true rfl) fun B hB => ?_
  refine Z1p ?_
  refine Z45 ?_
  refine Z1t ?_
  refine ao2 (by rintro _ ⟨⟩; decide) (V2.call (slices_IndexFuncI F p hF l _ hl) rfl) ?_
  refine Z1q ?_
  refine Zg ?_
  rw [← ixf_nonneg]
  exact Zd
theorem health_Right_1 (n : Int) (H : Heap) : AC Tryz.prog 123 [.int .i64 n] H (Ret (.bool (decide (n < 0) || decide (2 < n))) H) := by
  refine AC.body (N := 9) [.tmp 2] Tryz.func123 rfl rfl rfl (Nat.le_of_ble_eq_true rfl) fun B hB => ?_
  refine Zh ?_
  refine aw_out 2 (.bool (decide (n < 0) || decide (2 < n))) ?_ ?_
  · refine Zw ?_
    refine ao_split rfl rfl (fun hg2 => ?_) (fun hg2 => ?_)
    · refine Z36 ?_
      exact Zq
    · refine Zl ?_
      refine Z3a ?_
      exact Zq
  exact Z1z
theorem health_Right (g : List Thing) (h : List Int) (H : Heap) (hl : g.length ≤ 1000000) (hh : h.length ≤ 1000000) : AC Tryz.prog 72 [.pl (g.map eThing), .pl (h.map eI)] H (Ret (.bool (hright g h)) H) := by
  have hl2 : g.length ≤ 9223372036854775807 := by omega
  refine AC.body (N := 19) [.tmp 4] Tryz.func72 rfl rfl rfl (Nat.le_of_ble_eq_true rfl) fun B hB => ?_
  refine Zh ?_
  refine aw_out 4 (.bool (hright g h)) ?_ ?_
  · refine Z45 ?_
    refine Zb8 ?_
    refine Zj ?_
    refine ao_split rfl rfl (fun hg2 => ?_) (fun hg2 => ?_)
    · refine Z9r ?_
      refine Zbi ?_
      refine Z31 ?_
      refine ao_split rfl rfl (fun hg9 => ?_) (fun hg9 => ?_)
      · refine Z95 ?_
        refine ao_y rfl rfl (by decide) (V2.call (slices_ContainsFuncI 123 _ health_Right_1 h _ hh) rfl) ?_
        refine Z1w ?_
        refine Zo ?_
        exact Zbj
      · refine Z1y ?_
        exact Zbj
    · refine Zs ?_
      refine Z34 ?_
      exact Zbj
  exact Z1z
theorem health_New (g : List Thing) (H : Heap) (hl : g.length ≤ 1000000) : AC Tryz.prog 53 [.pl (g.map eThing)] H (Ret (.pl ((if gright g then List.replicate g.length (0 : Int) else []).map eI)) H) := by
  have hl2 : g.length ≤ 9223372036854775807 := by omega
  refine AC.body (N := 9) [.tmp 2] Tryz.func53 rfl rfl rfl (Nat.le_of_ble_eq_true rfl) fun B hB => ?_
  refine Z41 ?_
  refine Z45 ?_
  refine Zb8 ?_
  refine Z3u ?_
  refine aw_cond rfl (fun hc => ?_) (fun hc => ?_)
  · have hno : gright g = false := by simpa only [Bool.not_eq_true'] using hc
    rw [hno]
    refine Z43 ?_
    refine aw_nslpl 2 rfl ?_
    exact aw_ret (e_done hB (r_tmp rfl .nil) rfl rfl)
  have hyes : gright g = true := by simpa only [Bool.not_eq_false'] using hc
  rw [hyes, if_pos rfl]
  have hml : (g.map eThing).length = g.length := by simp
  refine Z8c ?_
  refine Z19 ?_
  refine ao2 (by rintro _ ⟨⟩; decide) (o_makeSliceL (n := g.length) (c := g.length) (bytes := 8) rfl (by decide) (congrArg (fun k : Nat => AV.int .i64 (k : Int)) hml) (congrArg (fun k : Nat => AV.int .i64 (k : Int)) hml) (Nat.le_refl _) (by omega) (by omega) rfl) ?_
  refine Z8a ?_
  refine aw_freezeL (ys := (List.replicate g.length (0 : Int)).map eI) 2 rfl rfl rfl rfl (by rw [List.drop_zero, List.take_of_length_le (by simp), List.map_replicate]) (by simp) (eI_bel 0 _) ?_
  exact Z8h
theorem wRow_bel (k : Nat) (g : List Thing) (h : List Int) (i : Nat) : ∀ r ∈ (wRow g h i).map eI, AV.bels k r = true := eI_bel k _
set_option maxHeartbeats 0 in
theorem health_worst (g : List Thing) (h : List Int) (H : Heap) (hg : gright g = true) (hh : h.length = g.length) : AC Tryz.prog 131 [.pl (g.map eThing), .pl (h.map eI)] H (Ret (.pl ((worstL g h g.length).map eI)) H) := by
  have hlen := gright_len hg
  refine AC.body (N := 35) [.tmp 4] Tryz.func131 rfl rfl rfl (Nat.le_of_ble_eq_true rfl) fun B hB => ?_
  refine Z41 ?_
  refine Z45 ?_
  refine ao2 (by rintro _ ⟨⟩; decide) (V2.callo (slices_CloneO h _ (by omega)) rfl rfl) ?_
  refine Z8g ?_
  rw [hh]
  refine Zb3 ?_
  refine aw_loop (G := Nat) (fun i => i ≤ g.length) (fun i => [(5, .sl (Lid H.length 0) 0 0 g.length g.length), (10, .pl (g.map eThing)), (11, .int .i64 ((g.map eThing).length : Int)), (12, .int .i64 (i : Int))]) (fun i => H ++ [⟨0, 1, (wRow g h i).map eI⟩]) (fun i => g.length - i) 0 (Nat.zero_le _) (by repeat (first | exact Sub.nil | refine Sub.cons (by first | rfl | (simp [get]; done)) ?_)) (.inl (by rw [wRow_zero hh])) ?_
  intro i hi
  refine Z4d ?_
  refine aw_cond rfl (fun hc => ?_) (fun hc => ?_)
  · have hlt : i < g.length := by simpa using hc
    obtain ⟨t, ht, htl⟩ := get_in hlt
    have hr := map_get eThing ht
    obtain ⟨hu1, hu2⟩ := gright_up hg ht
    have hat := wW_at (h := h) ht hu1
    refine Z10 ?_
    refine Z4e ?_
    refine Z9t ?_
    refine Z9u ?_
    refine Z3 ?_
    refine Z9v ?_
    refine Z7 ?_
    refine Z2w ?_
    refine Z1q ?_
    refine Z6 ?_
    clear hr
    refine Z1 ?_
    refine aw_cond rfl (fun hc => ?_) (fun hc => ?_)
    · have hup : 0 ≤ t.up := by simpa using hc
      rw [if_pos hup] at hat
      have hr0 : ((wRow g h i).map eI)[0 + i]? = some [.int .i64 (h.getD i 0)] := by rw [Nat.zero_add, List.getElem?_map, wRow_get hlt, wAt, if_neg (by omega)]; rfl
      have hr1 : ((wRow g h i).map eI)[0 + t.up.toNat]? = some [.int .i64 (wW g h t.up.toNat)] := by rw [Nat.zero_add, List.getElem?_map, wRow_get (by omega), wAt, if_pos (by omega)]; rfl
      have hset : ((wRow g h i).map eI).set (0 + i) [.int .i64 (wW g h i)] = (wRow g h (i + 1)).map eI := by rw [Nat.zero_add, ← wRow_set, List.map_set]
      refine Z1 ?_
      refine aw_drawP mixed (some 13) 2 ?_
      refine Z1f ?_
      refine Z6x ?_
      first | refine aq0 2 rfl (by decide +kernel) (by decide) (fun _ => o_move (v := .sl _ _ _ _ _) rfl) ?_ | refine aq0 2 rfl (by decide +kernel) (by decide) (fun _ => o_move (v := .pl _) rfl) ?_ | refine aq0 2 rfl (by decide +kernel) (by decide) (fun _ => o_move (v := .nsl) rfl) ?_
      refine Zbk ?_
      refine aqp 4 rfl (by decide +kernel) (by decide) (fun G => w_indexAddrN rfl (lk rfl rfl) rfl rfl rfl (by omega)) ?_
      refine aqp 5 rfl (by decide +kernel) (by decide) (fun G => w_load1 (v := .int _ _) rfl (lk rfl rfl) rfl hr0 rfl) ?_
      first | refine aq0 6 rfl (by decide +kernel) (by decide) (fun _ => o_move (v := .sl _ _ _ _ _) rfl) ?_ | refine aq0 6 rfl (by decide +kernel) (by decide) (fun _ => o_move (v := .pl _) rfl) ?_ | refine aq0 6 rfl (by decide +kernel) (by decide) (fun _ => o_move (v := .nsl) rfl) ?_
      refine Zbl ?_
      first | refine aqp 8 rfl (by decide +kernel) (by decide) (fun G => w_load1 (v := .int _ _) rfl (lk rfl rfl) rfl rfl rfl) ?_ | refine aqp 8 rfl (by decide +kernel) (by decide) (fun G => w_load1 (v := .int _ _) rfl (lk rfl rfl) rfl (zadd hr) rfl) ?_ | refine aqp 8 rfl (by decide +kernel) (by decide) (fun G => w_load1 (v := .int _ _) rfl (lk rfl rfl) rfl (zadd hr1) rfl) ?_ | refine aqp 8 rfl (by decide +kernel) (by decide) (fun G => w_load1 (v := .int _ _) rfl (lk rfl rfl) rfl (zadd hr2) rfl) ?_ | refine aqp 8 rfl (by decide +kernel) (by decide) (fun G => o_load1p (v := .int _ _) rfl hr rfl) ?_ | refine aqp 8 rfl (by decide +kernel) (by decide) (fun G => o_load1p (v := .int _ _) rfl hr1 rfl) ?_ | refine aqp 8 rfl (by decide +kernel) (by decide) (fun G => o_load1p (v := .int _ _) rfl hr2 rfl) ?_ | refine aqp 8 rfl (by decide +kernel) (by decide) (fun G => w_load1 (v := .int _ _) rfl (lkF hF) rfl rfl rfl) ?_
      refine aqp 9 rfl (by decide +kernel) (by decide) (fun G => w_indexAddr rfl (lk rfl rfl) rfl rfl rfl hup (by omega)) ?_
      refine aqp 10 rfl (by decide +kernel) (by decide) (fun G => w_load1 (v := .int _ _) rfl (lk rfl rfl) rfl hr1 rfl) ?_
      refine aq0 11 rfl (by decide +kernel) (by decide) (fun _ => o_max (r := wW g h i) rfl rfl hat.symm) ?_
      refine aqp 12 rfl (by decide +kernel) (by decide) (fun G => w_indexAddrN rfl (lk rfl rfl) rfl rfl rfl (by omega)) ?_
      refine aqs 13 rfl (by decide +kernel) (by first | exact fun _ => trivial | exact fun _ => ⟨_, rfl⟩ | exact fun _ => ⟨_, rfl, rfl⟩ | exact fun _ => ⟨_, rfl, rfl, rfl⟩ | exact yet_done (by decide +kernel)) (by rintro _ ⟨⟩) (w_storeP (sz := 1) (v := .int _ _) (r' := [.int .i64 (wW g h i)]) rfl rfl rfl rfl hr0 rfl rfl rfl (by show _ ≤ 1; omega) rfl) ?_
      refine Z1k ?_
      rw [hset]
      refine Z7a ?_
      exact ⟨i + 1, by omega, by omega, (by repeat (first | exact Sub.nil | refine Sub.cons (by first | rfl | (simp [get]; done)) ?_)), Fit.loc hB rfl (by repeat (first | exact EBel.nil | refine EBel.cons (by first | rfl | (simp [AV.bel, AV.bels, Lid]; done) | (simp [AV.bel, AV.bels, Lid]; omega)) ?_)) (by intro o ho r hr; simp only [List.mem_singleton] at ho; subst ho; exact eI_bel _ _ r hr)⟩
    · have hup : ¬ 0 ≤ t.up := by simpa using hc
      rw [if_neg hup] at hat
      refine Z7a ?_
      refine ⟨i + 1, by omega, by omega, (by repeat (first | exact Sub.nil | refine Sub.cons (by first | rfl | (simp [get]; done)) ?_)), Fit.loc hB (G := [_]) (by rw [wRow_same hat]; rfl) (by repeat (first | exact EBel.nil | refine EBel.cons (by first | rfl | (simp [AV.bel, AV.bels, Lid]; done) | (simp [AV.bel, AV.bels, Lid]; omega)) ?_)) (by intro o ho r hr; simp only [List.mem_singleton] at ho; subst ho; exact eI_bel _ _ r hr)⟩
  · have : i = g.length := by simp at hc; omega
    subst this
    rw [wRow_all]
    refine Z8c ?_
    refine Z8a ?_
    refine aw_freezeL (ys := (worstL g h g.length).map eI) 4 rfl rfl rfl rfl (by rw [List.drop_zero, List.take_of_length_le (by simp [worstL_len])]) (by simp [worstL_len]) (eI_bel 0 _) ?_
    exact Z8h
def hbP (g : List Thing) (h : List Int) (most : Int) (k : Nat) : Bool := decide ((worstL g h g.length).getD k 0 ≤ most)
set_option maxHeartbeats 0 in
theorem health_below (g : List Thing) (h : List Int) (most : Int) (H : Heap) (hl : g.length ≤ 1000000) (hh : h.length ≤ 1000000) : AC Tryz.prog 78 [.pl (g.map eThing), .pl (h.map eI), .int .i64 most] H (Ret (.pl ((hbelow g h most).map eI)) H) := by
  refine AC.body (N := 32) [.tmp 6] Tryz.func78 rfl rfl rfl (Nat.le_of_ble_eq_true rfl) fun B hB => ?_
  refine Z8i ?_
  refine Zbm ?_
  refine Z3u ?_
  refine aw_cond rfl (fun hc => ?_) (fun hc => ?_)
  · have hno : hright g h = false := by simpa only [Bool.not_eq_true'] using hc
    rw [show hbelow g h most = [] by rw [hbelow, hno]; rfl]
    refine Z43 ?_
    refine aw_nslpl 6 rfl ?_
    exact aw_ret (e_done hB (r_tmp rfl .nil) rfl rfl)
  have hyes : hright g h = true := by simpa only [Bool.not_eq_false'] using hc
  obtain ⟨hg, hh2, _⟩ := hright_parts hyes
  have hlen := gright_len hg
  rw [show hbelow g h most = idx (hbP g h most) g.length by rw [hbelow, hyes]; rfl]
  have hwl : ((worstL g h g.length).map eI).length = g.length := by rw [List.length_map, worstL_len]
  clear hc
  refine Z43 ?_
  refine Z96 ?_
  refine Z8c ?_
  refine Z45 ?_
  refine ao_ret (health_worst _ _ _ (by assumption) (by assumption)) rfl (by decide) ?_
  refine Z9s ?_
  refine aw_loop (G := Nat) (fun i => i ≤ g.length) (fun i => [(2, .int .i64 most), (7, .sl (Lid H.length 0) (idx (hbP g h most) i).length 0 (idx (hbP g h most) i).length (idx (hbP g h most) i).length), (16, .pl ((worstL g h g.length).map eI)), (17, .int .i64 (((worstL g h g.length).map eI).length : Int)), (18, .int .i64 (i : Int))]) (fun i => H ++ [⟨(idx (hbP g h most) i).length, 1, (idx (hbP g h most) i).map eI⟩]) (fun i => g.length - i) 0 (Nat.zero_le _) (by repeat (first | exact Sub.nil | refine Sub.cons (by first | rfl | (simp [get]; done)) ?_)) (Fit.refl _ _) ?_
  intro i hi
  refine Z4d ?_
  refine aw_cond rfl (fun hc => ?_) (fun hc => ?_)
  · have hlt : i < g.length := by rw [hwl] at hc; simpa using hc
    obtain ⟨x, hx, hxl⟩ := get_in (l := worstL g h g.length) (k := i) (by rw [worstL_len]; exact hlt)
    have hr := map_get eI hx
    have hxw := worst_get hx
    have hstep := idx_succ (hbP g h most) i
    have hil := idx_len (hbP g h most) i
    have hP : hbP g h most i = decide (x ≤ most) := by rw [hbP, hxw]; rfl
    refine Z10 ?_
    refine Z4f ?_
    refine Z3 ?_
    refine Z15 ?_
    refine Za ?_
    refine Zi ?_
    refine Zb ?_
    refine aw_cond rfl (fun hc => ?_) (fun hc => ?_)
    · have hp : hbP g h most i = true := by rw [hP]; exact hc
      refine Z8d ?_
      refine Z8e ?_
      refine Z8f ?_
      refine Z8g ?_
      rw [show ((idx (hbP g h most) i).map eI).take (idx (hbP g h most) i).length = (idx (hbP g h most) i).map eI from List.take_of_length_le (by simp)]
      refine Z7a ?_
      refine ⟨i + 1, by omega, by omega, by rw [hstep, if_pos hp, List.length_append]; exact (by repeat (first | exact Sub.nil | refine Sub.cons (by first | rfl | (simp [get]; done)) ?_)), Fit.loc hB (by rw [hstep, if_pos hp]; simp only [List.length_append, List.length_cons, List.length_nil, List.map_append, List.map_cons, List.map_nil]; rfl) (by repeat (first | exact EBel.nil | refine EBel.cons (by first | rfl | (simp [AV.bel, AV.bels, Lid]; done) | (simp [AV.bel, AV.bels, Lid]; omega)) ?_)) (by intro o ho r hr; simp only [List.mem_singleton] at ho; subst ho; exact eI_bel _ _ r hr)⟩
    · have hp : ¬ hbP g h most i = true := by rw [hP]; simpa using hc
      refine Z7a ?_
      refine ⟨i + 1, by omega, by omega, by rw [hstep, if_neg hp, List.append_nil]; exact (by repeat (first | exact Sub.nil | refine Sub.cons (by first | rfl | (simp [get]; done)) ?_)), .inl (by rw [hstep, if_neg hp, List.append_nil])⟩
  · have : i = g.length := by rw [hwl] at hc; simp at hc; omega
    subst this
    refine Z8c ?_
    refine Z8a ?_
    refine aw_freezeL (ys := (idx (hbP g h most) g.length).map eI) 6 rfl rfl rfl rfl (by rw [List.drop_zero, List.take_of_length_le (by simp)]) (by simp) (eI_bel 0 _) ?_
    exact Z8h
theorem health_Usable (g : List Thing) (h : List Int) (H : Heap) (hl : g.length ≤ 1000000) (hh : h.length ≤ 1000000) : AC Tryz.prog 41 [.pl (g.map eThing), .pl (h.map eI)] H (Ret (.pl ((hbelow g h 0).map eI)) H) := by
  refine AC.body (N := 8) [.tmp 4] Tryz.func41 rfl rfl rfl (Nat.le_of_ble_eq_true rfl) fun B hB => ?_
  refine Z8i ?_
  refine ao_ret (health_below _ _ _ _ (by omega) (by omega)) rfl (by decide) ?_
  exact Z47
end Go.Av

/-
  THE SCHEDULER's PARTS, plainly: holdings, as1 walks meet them.
-/
namespace Go.Av
set_option linter.unusedVariables false
set_option linter.unusedSimpArgs false

abbrev eN (x : Int) : List AV := [.int .i64 x]
abbrev eHeld (h : Held) : List AV := [.int .i64 h.id, .pl (h.things.map eN), .int .i64 h.frm, .int .i64 h.to]
theorem helds_len (l : List Held) : ∀ r ∈ l.map eHeld, r.length = 4 := rows_len (e := eHeld) (n := 4) (fun _ => rfl) l
theorem helds_bel (n : Nat) (l : List Held) : ∀ r ∈ l.map eHeld, AV.bels n r = true := rows_bel (e := eHeld) (fun _ => rfl) l
theorem heldB_get {l : List Held} {i : Nat} {h : Held} (e : l[i]? = some h) : heldB l i = (hmay h && !(decide (0 < i) && decide (h.id ≤ heldId l (i - 1))) && !((l.take i).any fun x => clash x h)) := by rw [heldB, e]
theorem heldId_get {l : List Held} {i : Nat} {h : Held} (e : l[i]? = some h) : heldId l i = h.id := by rw [heldId, e]
theorem heldAt_get {l : List Held} {i : Nat} {h : Held} (e : l[i]? = some h) : heldAt l i = h := by rw [heldAt, List.getD_eq_getElem?_getD, e]; rfl
/-- Short lists of things: what walks ask for. -/
def HW (l : List Held) : Prop := l.length ≤ 1000000 ∧ ∀ h ∈ l, h.things.length ≤ 1000000
theorem HW.take {l : List Held} (h : HW l) (k : Nat) : HW (l.take k) := ⟨Nat.le_trans (by rw [List.length_take]; omega) h.1, fun x hx => h.2 x (List.mem_of_mem_take hx)⟩
/-- A holding, or none. -/
def eHG (r : Held × Bool) : List AV := if r.2 then eHeld r.1 else [.int .i64 0, .nsl, .int .i64 0, .int .i64 0]
theorem eHG_len (r : Held × Bool) : (eHG r).length = 4 := by unfold eHG; split <;> rfl
structure LH where
  lo : Nat
  hi : Nat
theorem busyL_step {l : List Held} {k : Nat} {h : Held} (e : l[k]? = some h) (frm to : Int) : busyL (l.take (k + 1)) frm to = if meets h.frm h.to frm to then sjoin (busyL (l.take k) frm to) h.things else busyL (l.take k) frm to := by
  rw [busyL, busyL, List.take_add_one, e, List.foldl_append]; rfl
theorem setl_le (op : Bool → Bool → Bool) (a b : List Int) : (setop op a b).length ≤ 1000000 := Nat.le_trans (setop_len op a b) (by decide)
theorem busyL_le : ∀ (l : List Held) (frm to : Int), (busyL l frm to).length ≤ 256 := by
  intro l frm to
  suffices h : ∀ (l : List Held) (out : List Int), out.length ≤ 256 → (l.foldl (fun out h => if meets h.frm h.to frm to then sjoin out h.things else out) out).length ≤ 256 from h l [] (by decide)
  intro l
  induction l with
  | nil => intro out h; exact h
  | cons x l ih =>
    intro out h
    rw [List.foldl_cons]
    refine ih _ ?_
    split
    · exact setop_len _ _ _
    · exact h
theorem heldR_sorted {l : List Held} (h : heldR l = true) : l.Pairwise (fun a b => a.id < b.id) := (held_iff.1 h).2.2.1
end Go.Av

/-
  A REGION THAT DRAWS: calls that read the first rows, and leave the memory as1 it was.
-/
namespace Go.Av
section
variable {P : Program} {N : Nat} {B : Base} {ops : Array Oper} {a : Option Nat} {C : Heap → Prop} {F : Env → Heap → Prop}
variable {fuel : Nat} {listed : Array Bool} {env : Env} {H H0 L : Heap} {op : Op} {ty : TypeId} {pos : String} {after : Array Edge} {v : AV}
theorem aqp2 {d : Nat} {L0 : Heap} (i : Nat) (hi : ops[i]? = some ⟨some d, op, ty, pos, after, none⟩) (hB : firstB ops listed a i = true) (hd : DN d N) (h1 : ∀ G, V2 P N op ty (renv ⟨some d, op, ty, pos, after, none⟩ env) (H0 ++ (L0 ++ G)) v (H0 ++ (L0 ++ G)))
    (h : AAny P N B ops a (Pre H0 L0) F fuel (listed.setIfInBounds i true) ((d, v) :: env) H) : AAny P N B ops a (Pre H0 L0) F (fuel + 1) listed env H :=
  aq2 i hi hB hd (by rintro _ ⟨G, rfl⟩; exact h1 G) h
theorem aqyp2 {d j g : Nat} {want : Bool} {L0 : Heap} (i : Nat) (hi : ops[i]? = some ⟨some d, op, ty, pos, after, some (j, want)⟩) (hB : firstB ops listed a i = true) (hd : DN d N) (hj : (ops[j]?).bind (·.dst) = some g) (hb : get env g = .bool want)
    (h1 : ∀ G, V2 P N op ty (renv ⟨some d, op, ty, pos, after, some (j, want)⟩ env) (H0 ++ (L0 ++ G)) v (H0 ++ (L0 ++ G)))
    (h : AAny P N B ops a (Pre H0 L0) F fuel (listed.setIfInBounds i true) ((d, v) :: env) H) : AAny P N B ops a (Pre H0 L0) F (fuel + 1) listed env H :=
  aqy2 i hi hB hd hj hb (by rintro _ ⟨G, rfl⟩; exact h1 G) h
end
end Go.Av

namespace Go.Av
open Go.Proofs
set_option maxRecDepth 10000
set_option linter.unusedSimpArgs false
set_option linter.unusedVariables false

theorem when_Meets (a b c d : Int) (H : Heap) : AC Tryz.prog 80 [.int .i64 a, .int .i64 b, .int .i64 c, .int .i64 d] H (Ret (.bool (meets a b c d)) H) := by
  refine AC.body (N := 16) [.tmp 8] Tryz.func80 rfl rfl rfl (Nat.le_of_ble_eq_true rfl) fun B hB => ?_
  refine Zh ?_
  refine aw_out 8 (.bool (meets a b c d)) ?_ ?_
  · refine Z2r ?_
    refine ao1 (by decide) (o_max (r := max a c) rfl rfl rfl) ?_
    refine Z2r ?_
    refine ao1 (by decide) (o_min (r := min b d) rfl rfl rfl) ?_
    refine Zu ?_
    refine Zf ?_
    exact Zp
  exact Z1z
theorem held_may (h : Held) (H : Heap) (hw : h.things.length ≤ 1000000) : AC Tryz.prog 125 [.agg (eHeld h)] H (Ret (.bool (hmay h)) H) := by
  refine AC.body (N := 29) [.tmp 2] Tryz.func125 rfl rfl rfl (Nat.le_of_ble_eq_true rfl) fun B hB => ?_
  refine Zbo ?_
  refine Zg ?_
  refine aw_out 2 (.bool (hmay h)) ?_ ?_
  · refine Z4b ?_
    refine Z2j ?_
    refine Zj ?_
    refine ao_split rfl rfl (fun hg4 => ?_) (fun hg4 => ?_)
    · refine Z55 ?_
      refine Zba ?_
      refine Z31 ?_
      refine ao_split rfl rfl (fun hg9 => ?_) (fun hg9 => ?_)
      · refine Z2z ?_
        refine Z4y ?_
        refine Z31 ?_
        refine ao_split rfl rfl (fun hg14 => ?_) (fun hg14 => ?_)
        · refine Z2z ?_
          refine Z4y ?_
          refine Z31 ?_
          refine ao_split rfl rfl (fun hg19 => ?_) (fun hg19 => ?_)
          · refine Z2z ?_
            refine Z2z ?_
            refine Zm ?_
            refine Zo ?_
            exact Zbp
          · refine Z4o ?_
            exact Zbp
        · refine Z74 ?_
          exact Zbp
      · refine Z33 ?_
        refine Z74 ?_
        exact Zbp
    · refine Z33 ?_
      refine Z33 ?_
      refine Z74 ?_
      exact Zbp
  exact Z1z
theorem held_clash (a b : Held) (H : Heap) (ha : a.things.length ≤ 1000000) (hb : b.things.length ≤ 1000000) : AC Tryz.prog 128 [.agg (eHeld a), .agg (eHeld b)] H (Ret (.bool (clash a b)) H) := by
  refine AC.body (N := 22) [.tmp 4] Tryz.func128 rfl rfl rfl (Nat.le_of_ble_eq_true rfl) fun B hB => ?_
  refine Zbo ?_
  refine Zbn ?_
  refine Zg ?_
  refine aw_out 4 (.bool (clash a b)) ?_ ?_
  · refine Z5z ?_
    refine Z5z ?_
    refine Zbq ?_
    refine Zj ?_
    refine ao_split rfl rfl (fun hg9 => ?_) (fun hg9 => ?_)
    · refine Z72 ?_
      refine ao_y rfl rfl (by decide) (V2.call (set_Apart _ _ (by omega) (by omega) _) rfl) ?_
      refine Z1w ?_
      refine Zo ?_
      exact Zbr
    · refine Z29 ?_
      refine Zt ?_
      exact Zbr
  exact Z1z
theorem held_Right_1 (x y : Held) (ia : Nat) (H : Heap) (hx : x.things.length ≤ 1000000) (hy : y.things.length ≤ 1000000) (ha : H[ia]? = some ⟨0, 4, [eHeld y]⟩) : AC Tryz.prog 127 [.agg (eHeld x), .pt ia 0 0 0] H (Ret (.bool (clash x y)) H) := by
  have hF := ha
  refine AC.body (N := 7) [.tmp 3] Tryz.func127 rfl rfl rfl (Nat.le_of_ble_eq_true rfl) fun B hB => ?_
  refine Zbo ?_
  refine Z1o ?_
  refine Z76 ?_
  refine Z76 ?_
  refine ao_ret (held_clash _ _ _ (by assumption) (by assumption)) rfl (by decide) ?_
  refine Zg ?_
  exact Zd

theorem slices_IndexFuncH (l : List Held) (h : Held) (ia : Nat) (H : Heap) (hl : HW l) (hy : h.things.length ≤ 1000000) (ha : H[ia]? = some ⟨0, 4, [eHeld h]⟩) :
    AC Tryz.prog 165 [.pl (l.map eHeld), .fn (.func 127) [] [.pt ia 0 0 0]] H (Ret (.int .i64 (ixf (fun x => clash x h) l)) H) := by
  have hl1 := hl.1
  refine AC.body (N := 19) [.tmp 4] Tryz.func165 rfl rfl rfl (Nat.le_of_ble_eq_true rfl) fun B hB => ?_
  refine Z8 ?_
  refine Z6t ?_
  refine Z4c ?_
  refine aw_loop (G := Nat) (fun k => k ≤ l.length ∧ ∀ y ∈ l.take k, clash y h = false) (fun k => [(0, .pl (l.map eHeld)), (1, .fn (.func 127) [] [.pt ia 0 0 0]), (7, .int .i64 (l.length : Int)), (8, .int .i64 (k : Int))]) (fun _ => H ++ []) (fun k => l.length - k) 0 ⟨Nat.zero_le _, by simp⟩ (by repeat (first | exact Sub.nil | refine Sub.cons (by first | rfl | (simp [get]; done)) ?_)) (Fit.refl _ _) ?_
  rintro k ⟨hk, hno⟩
  refine Z4d ?_
  refine aw_cond rfl (fun hc => ?_) (fun hc => ?_)
  · have hlt : k < l.length := by simp at hc; omega
    obtain ⟨x, hx, hxl⟩ := get_in hlt
    have hr := map_get eHeld hx
    have hxw := hl.2 x hxl
    refine Z10 ?_
    refine Z1a ?_
    refine Z1t ?_
    refine Z98 ?_
    refine Z4e ?_
    refine Z76 ?_
    refine ao_retv (held_Right_1 x h ia _ hxw hy (lkF ha)) rfl rfl (by decide) ?_
    refine Zb ?_
    refine aw_cond rfl (fun hc => ?_) (fun hc => ?_)
    · refine Z1u ?_
      rw [ixf_some (p := fun x : Held => clash x h) hx hc hno]
      exact Zd
    · refine Z7a ?_
      refine ⟨k + 1, by omega, ⟨by omega, ?_⟩, (by repeat (first | exact Sub.nil | refine Sub.cons (by first | rfl | (simp [get]; done)) ?_)), .refl _ _⟩
      rw [take_snoc_get hx]
      intro y hy
      rcases List.mem_append.1 hy with h | h
      · exact hno y h
      · simp only [List.mem_singleton] at h
        subst h
        exact hc
  · have : k = l.length := by simp at hc; omega
    subst this
    rw [List.take_length] at hno
    rw [ixf_none hno]
    exact Z17
theorem slices_ContainsFuncH (l : List Held) (h : Held) (ia : Nat) (H : Heap) (hl : HW l) (hy : h.things.length ≤ 1000000) (ha : H[ia]? = some ⟨0, 4, [eHeld h]⟩) :
    AC Tryz.prog 126 [.pl (l.map eHeld), .fn (.func 127) [] [.pt ia 0 0 0]] H (Ret (.bool (l.any fun x => clash x h)) H) := by
  refine AC.body (N := 9) [.tmp 4] Tryz.func126 rfl rfl rfl (Nat.le_of_ble_eq_true rfl) fun B hB => ?_
  refine Z1p ?_
  refine Z45 ?_
  refine Z1t ?_
  refine ao2 (by rintro _ ⟨⟩; decide) (V2.call (slices_IndexFuncH l h ia _ hl hy (lkF ha)) rfl) ?_
  refine Z1q ?_
  refine Zg ?_
  rw [← ixf_nonneg]
  exact Zd
set_option maxHeartbeats 0 in
theorem held_Right (l : List Held) (H : Heap) (hl : HW l) : AC Tryz.prog 76 [.pl (l.map eHeld)] H (Ret (.bool (heldR l)) H) := by
  have hl1 := hl.1
  refine AC.body (N := 41) [.tmp 2] Tryz.func76 rfl rfl rfl (Nat.le_of_ble_eq_true rfl) fun B hB => ?_
  refine Zbs ?_
  refine aw_cond rfl (fun hc => ?_) (fun hc => ?_)
  · have h256 : ¬ l.length ≤ 256 := by simp at hc; omega
    refine Zh ?_
    rw [show heldR l = false by rw [heldR, decide_eq_false h256, Bool.false_and]]
    exact Zd
  have h256 : l.length ≤ 256 := by simp at hc; omega
  rw [show heldR l = allI (heldB l) l.length by rw [heldR, decide_eq_true h256, Bool.true_and]]
  refine Zb3 ?_
  refine aw_loop (G := Nat) (fun i => i ≤ l.length ∧ ∀ k, k < i → heldB l k = true) (fun i => [(0, .pl (l.map eHeld)), (8, .pl (l.map eHeld)), (9, .int .i64 (l.length : Int)), (10, .int .i64 (i : Int))]) (fun _ => H ++ []) (fun i => l.length - i) 0 ⟨Nat.zero_le _, fun k hk => by omega⟩ (by repeat (first | exact Sub.nil | refine Sub.cons (by first | rfl | (simp [get]; done)) ?_)) (Fit.refl _ _) ?_
  rintro i ⟨hi, hno⟩
  refine Z4d ?_
  refine aw_cond rfl (fun hc => ?_) (fun hc => ?_)
  · have hlt : i < l.length := by simp at hc; omega
    obtain ⟨h, hh, hhl⟩ := get_in hlt
    have hr := map_get eHeld hh
    have hw := hl.2 h hhl
    have hB2 := heldB_get hh
    have hno0 := hno
    have hli : ((l.map eHeld).take i) = (l.take i).map eHeld := by rw [List.map_take]
    clear hno hc
    refine Z10 ?_
    refine Z4e ?_
    refine Z76 ?_
    refine Z75 ?_
    refine Z3 ?_
    refine Zbt ?_
    refine Z6 ?_
    clear hr
    by_cases h0 : 0 < i
    · obtain ⟨h1, hh1, _⟩ := get_in (l := l) (k := i - 1) (by omega)
      have hr1 := map_get eHeld hh1
      rw [heldId_get hh1, decide_eq_true h0, Bool.true_and] at hB2
      clear hh hhl hh1
      refine Z1 ?_
      refine aw_of_out 39 (.bool (!heldB l i)) ?_ ?_
      · refine Z9w ?_
        refine Zbu ?_
        refine Zbv ?_
        refine Zbw ?_
        refine Z7g ?_
        refine aq_split (g := 18) rfl (fun hg3 => ?_) (fun hg3 => ?_)
        · refine Zbx ?_
          refine Zby ?_
          refine Zbz ?_
          refine Zc0 ?_
          refine Zc1 ?_
          refine Zc2 ?_
          refine Zc3 ?_
          refine Zc4 ?_
          refine Zc5 ?_
          refine Zc6 ?_
          refine Zc7 ?_
          refine Zc8 ?_
          refine Zc9 ?_
          refine Zca ?_
          refine Zcb ?_
          refine Zcc ?_
          refine Zcd ?_
          refine Zce ?_
          refine Zcf ?_
          refine Zcg ?_
          refine Zch ?_
          exact Zci
        · refine Zcj ?_
          refine Zck ?_
          refine Zcl ?_
          refine aq_split (g := 21) rfl (fun hg6 => ?_) (fun hg6 => ?_)
          · first | refine aqyp (g := 21) 7 rfl (by decide +kernel) (by decide) rfl rfl (fun G => w_fieldAddr rfl (lk rfl rfl) rfl (by decide)) ?_ | refine aqyp (g := 21) 7 rfl (by decide +kernel) (by decide) rfl rfl (fun G => w_fieldAddrp rfl (by decide)) ?_ | refine aqyp (g := 21) 7 rfl (by decide +kernel) (by decide) rfl rfl (fun G => w_fieldAddr rfl (lkF hF) rfl (by decide)) ?_
            first | refine aqyp (g := 21) 8 rfl (by decide +kernel) (by decide) rfl rfl (fun G => w_load1 (v := .int _ _) rfl (lk rfl rfl) rfl rfl rfl) ?_ | refine aqyp (g := 21) 8 rfl (by decide +kernel) (by decide) rfl rfl (fun G => w_load1 (v := .int _ _) rfl (lk rfl rfl) rfl (zadd hr) rfl) ?_ | refine aqyp (g := 21) 8 rfl (by decide +kernel) (by decide) rfl rfl (fun G => w_load1 (v := .int _ _) rfl (lk rfl rfl) rfl (zadd hr1) rfl) ?_ | refine aqyp (g := 21) 8 rfl (by decide +kernel) (by decide) rfl rfl (fun G => w_load1 (v := .int _ _) rfl (lk rfl rfl) rfl (zadd hr2) rfl) ?_ | refine aqyp (g := 21) 8 rfl (by decide +kernel) (by decide) rfl rfl (fun G => o_load1p (v := .int _ _) rfl hr rfl) ?_ | refine aqyp (g := 21) 8 rfl (by decide +kernel) (by decide) rfl rfl (fun G => o_load1p (v := .int _ _) rfl hr1 rfl) ?_ | refine aqyp (g := 21) 8 rfl (by decide +kernel) (by decide) rfl rfl (fun G => o_load1p (v := .int _ _) rfl hr2 rfl) ?_ | refine aqyp (g := 21) 8 rfl (by decide +kernel) (by decide) rfl rfl (fun G => w_load1 (v := .int _ _) rfl (lkF hF) rfl rfl rfl) ?_
            first | refine aqy0 (g := 21) 9 rfl (by decide +kernel) (by decide) rfl rfl (fun _ => o_move (v := .sl _ _ _ _ _) rfl) ?_ | refine aqy0 (g := 21) 9 rfl (by decide +kernel) (by decide) rfl rfl (fun _ => o_move (v := .pl _) rfl) ?_ | refine aqy0 (g := 21) 9 rfl (by decide +kernel) (by decide) rfl rfl (fun _ => o_move (v := .nsl) rfl) ?_
            refine aqy0 (g := 21) 10 rfl (by decide +kernel) (by decide) rfl rfl (fun _ => o_move (v := .int _ _) rfl) ?_
            refine aqy0 (g := 21) 11 rfl (by decide +kernel) (by decide) rfl rfl (fun _ => o_sub (r := ((i - 1 : Nat) : Int)) rfl rfl (by rw [show (i : Int) - 1 = ((i - 1 : Nat) : Int) by omega]; exact wrap64_ok (by omega) (by omega))) ?_
            refine aqyp (g := 21) 12 rfl (by decide +kernel) (by decide) rfl rfl (fun G => w_indexAddrpN rfl rfl hr1 rfl) ?_
            first | refine aqyp (g := 21) 13 rfl (by decide +kernel) (by decide) rfl rfl (fun G => w_fieldAddr rfl (lk rfl rfl) rfl (by decide)) ?_ | refine aqyp (g := 21) 13 rfl (by decide +kernel) (by decide) rfl rfl (fun G => w_fieldAddrp rfl (by decide)) ?_ | refine aqyp (g := 21) 13 rfl (by decide +kernel) (by decide) rfl rfl (fun G => w_fieldAddr rfl (lkF hF) rfl (by decide)) ?_
            refine aqyp (g := 21) 14 rfl (by decide +kernel) (by decide) rfl rfl (fun G => o_load1p (v := .int _ _) rfl hr1 rfl) ?_
            refine aqy0 (g := 21) 15 rfl (by decide +kernel) (by decide) rfl rfl (fun _ => o_le rfl rfl) ?_
            refine Zcm ?_
            refine Zca ?_
            refine Zcb ?_
            refine aq_split (g := 33) rfl (fun hg18 => ?_) (fun hg18 => ?_)
            · refine Zcc ?_
              refine Zcd ?_
              refine Zce ?_
              refine Zcf ?_
              refine Zcg ?_
              refine Zch ?_
              exact Zci
            · refine Zcn ?_
              refine Zco ?_
              refine Zcp ?_
              refine Zcq ?_
              refine Zcr ?_
              refine Zch ?_
              exact Zci
          · refine Zcs ?_
            refine Zct ?_
            refine Zcu ?_
            refine Zcv ?_
            refine Zcw ?_
            refine Zcx ?_
            refine Zcy ?_
            refine Zcz ?_
            refine Zd0 ?_
            refine Zcm ?_
            refine Zca ?_
            refine Zcb ?_
            refine Zcn ?_
            refine Zco ?_
            refine Zcp ?_
            refine Zcq ?_
            refine Zcr ?_
            refine Zch ?_
            exact Zci
      refine Z1 ?_
      refine aw_cond rfl (fun hc => ?_) (fun hc => ?_)
      · have hbad : heldB l i = false := by simpa only [Bool.not_eq_true'] using hc
        refine Zh ?_
        rw [allI_false hlt hbad]
        exact Zd
      · have hgood : heldB l i = true := by simpa only [Bool.not_eq_false'] using hc
        refine Z7a ?_
        refine ⟨i + 1, by omega, ⟨by omega, fun k hk => ?_⟩, (by repeat (first | exact Sub.nil | refine Sub.cons (by first | rfl | (simp [get]; done)) ?_)), Fit.loc hB (L := []) rfl (by repeat (first | exact EBel.nil | refine EBel.cons (by first | rfl | (simp [AV.bel, AV.bels, Lid]; done) | (simp [AV.bel, AV.bels, Lid]; omega)) ?_)) (fun o ho => by simp at ho)⟩
        rcases Nat.lt_or_eq_of_le (Nat.le_of_lt_succ hk) with h | h
        · exact hno0 k h
        · subst h; exact hgood
    · rw [decide_eq_false h0, Bool.false_and, Bool.not_false, Bool.and_true] at hB2
      clear hh hhl
      refine Z1 ?_
      refine aw_of_out 39 (.bool (!heldB l i)) ?_ ?_
      · refine Z9w ?_
        refine Zbu ?_
        refine Zbv ?_
        refine Zbw ?_
        refine Z7g ?_
        refine aq_split (g := 18) rfl (fun hg3 => ?_) (fun hg3 => ?_)
        · refine Zbx ?_
          refine Zby ?_
          refine Zbz ?_
          refine Zc0 ?_
          refine Zc1 ?_
          refine Zc2 ?_
          refine Zc3 ?_
          refine Zc4 ?_
          refine Zc5 ?_
          refine Zc6 ?_
          refine Zc7 ?_
          refine Zc8 ?_
          refine Zc9 ?_
          refine Zca ?_
          refine Zcb ?_
          refine Zcc ?_
          refine Zcd ?_
          refine Zce ?_
          refine Zcf ?_
          refine Zcg ?_
          refine Zch ?_
          exact Zd1
        · refine Zcj ?_
          refine Zck ?_
          refine Zcl ?_
          refine aq_split (g := 21) rfl (fun hg6 => ?_) (fun hg6 => ?_)
          · exfalso; simp at hg6; omega
          · refine Zcs ?_
            refine Zct ?_
            refine Zcu ?_
            refine Zcv ?_
            refine Zcw ?_
            refine Zcx ?_
            refine Zcy ?_
            refine Zcz ?_
            refine Zd0 ?_
            refine Zcm ?_
            refine Zca ?_
            refine Zcb ?_
            refine Zcn ?_
            refine Zco ?_
            refine Zcp ?_
            refine Zcq ?_
            refine Zcr ?_
            refine Zch ?_
            exact Zd1
      refine Z1 ?_
      refine aw_cond rfl (fun hc => ?_) (fun hc => ?_)
      · have hbad : heldB l i = false := by simpa only [Bool.not_eq_true'] using hc
        refine Zh ?_
        rw [allI_false hlt hbad]
        exact Zd
      · have hgood : heldB l i = true := by simpa only [Bool.not_eq_false'] using hc
        refine Z7a ?_
        refine ⟨i + 1, by omega, ⟨by omega, fun k hk => ?_⟩, (by repeat (first | exact Sub.nil | refine Sub.cons (by first | rfl | (simp [get]; done)) ?_)), Fit.loc hB (L := []) rfl (by repeat (first | exact EBel.nil | refine EBel.cons (by first | rfl | (simp [AV.bel, AV.bels, Lid]; done) | (simp [AV.bel, AV.bels, Lid]; omega)) ?_)) (fun o ho => by simp at ho)⟩
        rcases Nat.lt_or_eq_of_le (Nat.le_of_lt_succ hk) with h | h
        · exact hno0 k h
        · subst h; exact hgood
  · have : i = l.length := by simp at hc; omega
    subst this
    refine Zh ?_
    rw [allI_true hno]
    exact Zd
end Go.Av

/-
  THE SCHEDULER's PARTS, plainly: jobs and schedulers, as1 walks meet them.
-/
namespace Go.Av
set_option linter.unusedVariables false
set_option linter.unusedSimpArgs false

theorem jright_needs {j : Job} (h : jright j = true) : j.needs.length ≤ 16 := by
  simp only [jright, jneeds, Bool.and_eq_true, decide_eq_true_eq] at h; exact h.1.1.2.1
theorem jobAt_take {l : List Job} {i k : Nat} (h : k < i) : jobAt (l.take i) k = jobAt l k := by
  rw [jobAt, jobAt, List.getD_eq_getElem?_getD, List.getD_eq_getElem?_getD, List.getElem?_take, if_pos h]
theorem jobB_take {l : List Job} {i k : Nat} (h : k < i) : jobB (l.take i) k = jobB l k := by
  unfold jobB jobId
  rw [List.getElem?_take, if_pos h, List.take_take, Nat.min_eq_left (Nat.le_of_lt h)]
  cases l[k]? with
  | none => rfl
  | some j =>
    simp only
    rw [jobAt_take (by omega)]
theorem jobs_take_ok {l : List Job} {i : Nat} (h64 : l.length ≤ 64) (h : ∀ k, k < i → jobB l k = true) : jobsR (l.take i) = true := by
  rw [jobsR, Bool.and_eq_true, decide_eq_true_eq]
  refine ⟨by rw [List.length_take]; omega, allI_true fun k hk => ?_⟩
  rw [List.length_take] at hk
  rw [jobB_take (by omega)]
  exact h k (by omega)
theorem jobs_take_sorted {l : List Job} {i : Nat} (h64 : l.length ≤ 64) (h : ∀ k, k < i → jobB l k = true) : (l.take i).Pairwise (fun a b => a.id < b.id) := (jobs_iff.1 (jobs_take_ok h64 h)).2.2.1
theorem jobB_get {l : List Job} {i : Nat} {j : Job} (e : l[i]? = some j) : jobB l i = (jright j && !(decide (0 < i) && (decide (j.id ≤ jobId l (i - 1)) || decide (j.came < (jobAt l (i - 1)).came))) && j.needs.all fun n => jobHit (l.take i) n) := by rw [jobB, e]
theorem jobId_get {l : List Job} {i : Nat} {j : Job} (e : l[i]? = some j) : jobId l i = j.id := by rw [jobId, jobAt_get e]
theorem jobsR_sorted {l : List Job} (h : jobsR l = true) : l.Pairwise (fun a b => a.id < b.id) := (jobs_iff.1 h).2.2.1

/-! ### counting states -/
theorem stcnt_step {l : List Job} {k : Nat} {j : Job} (e : l[k]? = some j) (c : Int) : stcnt (l.take (k + 1)) c = stcnt (l.take k) c + if decide (j.state = c) then 1 else 0 := by
  rw [stcnt, stcnt, List.take_add_one, e, List.filter_append, List.length_append]
  simp only [Option.toList_some, List.filter_cons, List.filter_nil]
  cases h : decide (j.state = c) <;> simp
theorem stcnt_le (l : List Job) (c : Int) : 0 ≤ stcnt l c ∧ stcnt l c ≤ (l.length : Int) := by
  have := List.length_filter_le (fun j : Job => decide (j.state = c)) l
  rw [stcnt]; omega
abbrev eK7 (f : Nat → Int) : List AV := [.int .i64 (f 0), .int .i64 (f 1), .int .i64 (f 2), .int .i64 (f 3), .int .i64 (f 4), .int .i64 (f 5), .int .i64 (f 6)]
theorem eK7_get (f : Nat → Int) {c : Nat} (h : c < 7) : (eK7 f)[c]? = some (.int .i64 (f c)) := by
  rcases c with _ | _ | _ | _ | _ | _ | _ | c <;> first | rfl | omega
theorem eK7_set (f : Nat → Int) {c : Nat} (h : c < 7) (v : Int) : (eK7 f).take c ++ [.int .i64 v] ++ (eK7 f).drop (c + 1) = eK7 (fun j => if j = c then v else f j) := by
  rcases c with _ | _ | _ | _ | _ | _ | _ | c <;> first | rfl | omega
theorem eK7_congr {f h : Nat → Int} (e : ∀ j, j < 7 → f j = h j) : eK7 f = eK7 h := by
  simp only [eK7, e 0 (by decide), e 1 (by decide), e 2 (by decide), e 3 (by decide), e 4 (by decide), e 5 (by decide), e 6 (by decide)]
def sfun (l : List Job) (j : Nat) : Int := stcnt l (j : Int)
theorem counts_yes {l : List Job} (h : jobsR l = true) : (jobsCounts l).map (AV.int .i64) = eK7 (sfun l) := by rw [jobsCounts, if_pos h]; rfl
theorem counts_no {l : List Job} (h : jobsR l = false) : (jobsCounts l).map (AV.int .i64) = eK7 (fun _ => 0) := by rw [jobsCounts, if_neg (by rw [h]; decide)]; rfl
/-- What runs, so far. -/
def runs (l : List Job) : Nat := (l.filter fun j => decide (j.state = 2)).length
theorem runs_step {l : List Job} {k : Nat} {j : Job} (e : l[k]? = some j) : runs (l.take (k + 1)) = runs (l.take k) + if decide (j.state = 2) then 1 else 0 := by
  rw [runs, runs, List.take_add_one, e, List.filter_append, List.length_append]
  simp only [Option.toList_some, List.filter_cons, List.filter_nil]
  cases h : decide (j.state = 2) <;> simp
theorem runs_le (l : List Job) : runs l ≤ l.length := List.length_filter_le _ _
theorem itoldB_get {i : Inst} {k : Nat} {j : Job} (e : i.jobs[k]? = some j) : itoldB i k = (decide (j.came ≤ i.now) && decide (j.frm ≤ i.now) && (decide (j.state ≠ 2) ||
  ((heldGet i.table j.id).2 && decide ((heldGet i.table j.id).1.frm = j.frm) && decide ((heldGet i.table j.id).1.to = sEnds j.spec j.frm) &&
    decide (i.now < (heldGet i.table j.id).1.to) && ithings i.graph (heldGet i.table j.id).1.things))) := by rw [itoldB, jobAt_get e]
theorem heldGet_len {l : List Held} (h : HW l) (id : Int) : (heldGet l id).1.things.length ≤ 1000000 := by
  rw [heldGet]
  split
  · rename_i hh
    simp only [Bool.and_eq_true, heldHit, decide_eq_true_eq] at hh
    obtain ⟨x, hx, hxl⟩ := get_in hh.2.1
    simp only [heldAt_get hx]
    exact h.2 x hxl
  · decide
/-- Short parts: what walks ask for. -/
structure IW (i : Inst) : Prop where
  graph : i.graph.length ≤ 1000000
  health : i.health.length ≤ 1000000
  lease : i.lease.length ≤ 1000000
  jobs : i.jobs.length ≤ 1000000
  table : HW i.table
end Go.Av

/-
  THE SCHEDULER's PARTS, plainly: what is counted.
-/
namespace Go.Av
set_option linter.unusedVariables false
set_option linter.unusedSimpArgs false

theorem hbelow_le (g : List Thing) (h : List Int) (m : Int) : (hbelow g h m).length ≤ 256 := by
  rw [hbelow]
  split
  · rename_i hh
    exact Nat.le_trans (idx_len _ _) (gright_len (hright_parts hh).1).2
  · decide
theorem heldBusy_le (l : List Held) (a b : Int) : (heldBusy l a b).length ≤ 256 := by
  rw [heldBusy]
  split
  · exact busyL_le l a b
  · decide
theorem iusable_le (w : Inst) : (iusable w).length ≤ 256 := setop_len _ _ _
theorem ifree_le (i : Inst) : (ifree i).length ≤ 256 := by
  rw [ifree]
  split
  · decide
  · exact setop_len _ _ _
theorem iright_graph {i : Inst} (h : iright i = true) : gright i.graph = true := by
  simp only [iright, hright, Bool.and_eq_true] at h; exact h.1.1.1.1.1.1.1.1.1
theorem iright_jobs {i : Inst} (h : iright i = true) : jobsR i.jobs = true := by
  simp only [iright, Bool.and_eq_true] at h; exact h.1.1.2
theorem iright_table {i : Inst} (h : iright i = true) : heldR i.table = true := by
  simp only [iright, Bool.and_eq_true] at h; exact h.1.2
theorem sok_busyL : ∀ (l : List Held) (a b : Int), sok (busyL l a b) = true := by
  intro l a b
  suffices h : ∀ (l : List Held) (out : List Int), sok out = true → sok (l.foldl (fun out h => if meets h.frm h.to a b then sjoin out h.things else out) out) = true from h l [] rfl
  intro l
  induction l with
  | nil => intro out h; exact h
  | cons x l ih =>
    intro out h
    rw [List.foldl_cons]
    refine ih _ ?_
    split
    · exact sok_setop _ _ _
    · exact h
theorem sok_heldBusy (l : List Held) (a b : Int) : sok (heldBusy l a b) = true := by
  rw [heldBusy]
  split
  · exact sok_busyL l a b
  · rfl
end Go.Av

/-
  THE SCHEDULER's PARTS, plainly: counts.
-/
namespace Go.Av
set_option linter.unusedVariables false
set_option linter.unusedSimpArgs false

abbrev eStat (f : Nat → Int) : List AV := [.int .i64 (f 0), .int .i64 (f 1), .int .i64 (f 2), .int .i64 (f 3), .int .i64 (f 4), .int .i64 (f 5), .int .i64 (f 6), .int .i64 (f 7), .int .i64 (f 8), .int .i64 (f 9), .int .i64 (f 10), .int .i64 (f 11), .int .i64 (f 12), .int .i64 (f 13), .int .i64 (f 14), .int .i64 (f 15), .int .i64 (f 16), .int .i64 (f 17), .int .i64 (f 18), .int .i64 (f 19), .int .i64 (f 20), .int .i64 (f 21), .int .i64 (f 22), .int .i64 (f 23), .int .i64 (f 24), .int .i64 (f 25), .int .i64 (f 26)]
theorem eStat_get (f : Nat → Int) {c : Nat} (h : c < 27) : (eStat f)[c]? = some (.int .i64 (f c)) := by
  rcases c with _ | _ | _ | _ | _ | _ | _ | _ | _ | _ | _ | _ | _ | _ | _ | _ | _ | _ | _ | _ | _ | _ | _ | _ | _ | _ | _ | c <;> first | rfl | omega
theorem eStat_set (f : Nat → Int) {c : Nat} (h : c < 27) (v : Int) : (eStat f).take c ++ [.int .i64 v] ++ (eStat f).drop (c + 1) = eStat (fun j => if j = c then v else f j) := by
  rcases c with _ | _ | _ | _ | _ | _ | _ | _ | _ | _ | _ | _ | _ | _ | _ | _ | _ | _ | _ | _ | _ | _ | _ | _ | _ | _ | _ | c <;> first | rfl | omega
theorem eStat_congr {f h : Nat → Int} (e : ∀ j, j < 27 → f j = h j) : eStat f = eStat h := by
  simp only [eStat, e 0 (by decide), e 1 (by decide), e 2 (by decide), e 3 (by decide), e 4 (by decide), e 5 (by decide), e 6 (by decide), e 7 (by decide), e 8 (by decide), e 9 (by decide), e 10 (by decide), e 11 (by decide), e 12 (by decide), e 13 (by decide), e 14 (by decide), e 15 (by decide), e 16 (by decide), e 17 (by decide), e 18 (by decide), e 19 (by decide), e 20 (by decide), e 21 (by decide), e 22 (by decide), e 23 (by decide), e 24 (by decide), e 25 (by decide), e 26 (by decide)]
def snear (n : Int) : Int := max 0 (min n 1099511627776)
def splus (f h : Nat → Int) : Nat → Int := fun j => snear (snear (f j) + snear (h j))
def skinds (f : Nat → Int) : Nat → Int := fun k => IntKind.i64.wrap (IntKind.i64.wrap (IntKind.i64.wrap (f k + f (5 + k)) + f (10 + k)) + f (15 + k))
def sjobsL (f : Nat → Int) : Nat → Int
  | 0 => 0
  | k + 1 => IntKind.i64.wrap (sjobsL f k + f (20 + k))
def sjobs (f : Nat → Int) : Int := sjobsL f 7
def snone : Nat → Int := fun _ => 0
/-- The counts of a scheduler. -/
def statS (g : List Thing) (a b c : List Int) (l : List Job) : Nat → Int := fun j => if j < 5 then kfun g a j else if j < 10 then kfun g b (j - 5) else if j < 15 then kfun g c (j - 10) else if j < 20 then 0 else sfun l (j - 20)
def ibusy (i : Inst) : List Int := heldBusy i.table i.now (plus i.now 1)
def istat (i : Inst) : Nat → Int := if iright i then statS i.graph (ifree i) (ibusy i) (sless (sless i.lease (hbelow i.graph i.health 0)) (ibusy i)) i.jobs else snone
/-- The first rows of pointers. -/
def numRows (id n : Nat) : List (List AV) := (List.range n).map fun j => [AV.pt id 0 0 j]
theorem numRows_len (id n : Nat) : (numRows id n).length = n := by simp [numRows]
theorem numRows_get {id n j : Nat} (h : j < n) : (numRows id n)[j]? = some [.pt id 0 0 j] := by simp [numRows, h]
theorem numRows_succ (id n : Nat) : numRows id (n + 1) = numRows id n ++ [[.pt id 0 0 n]] := by simp [numRows, List.range_succ]
theorem numRows_bel {k id : Nat} (h : id < k) (n : Nat) : ∀ r ∈ numRows id n, AV.bels k r = true := by
  intro r hr
  simp only [numRows, List.mem_map, List.mem_range] at hr
  obtain ⟨j, _, rfl⟩ := hr
  simp [AV.bels, AV.bel, h]
def arrRows (id : Nat) : List (List AV) := [[.pt id 0 0 0], [.pt id 0 0 5], [.pt id 0 0 10], [.pt id 0 0 15]]
theorem arrRows_get {id j : Nat} (h : j < 4) : (arrRows id)[j]? = some [.pt id 0 0 (5 * j)] := by
  rcases j with _ | _ | _ | _ | j <;> first | rfl | omega
theorem arrRows_bel {k id : Nat} (h : id < k) : ∀ r ∈ arrRows id, AV.bels k r = true := by
  intro r hr
  simp only [arrRows, List.mem_cons, List.not_mem_nil, or_false] at hr
  rcases hr with rfl | rfl | rfl | rfl <;> simp [AV.bels, AV.bel, h]
/-- Put together up to i. -/
def splusN (f h : Nat → Int) (i : Nat) : Nat → Int := fun j => if j < i then splus f h j else f j
end Go.Av

/-
  THE LAWS OF COUNTS, plainly, on no program.
-/
namespace Go.Av
set_option linter.unusedVariables false
set_option linter.unusedSimpArgs false

/-! ### counts are put together -/
theorem splus_none2 (f : Nat → Int) (j : Nat) : splus (splus f snone) snone j = splus f snone j := by simp only [splus, snear, snone]; omega
theorem splus_assoc (f g h : Nat → Int) (j : Nat) : splus (splus f g) h j = splus f (splus g h) j := by simp only [splus, snear]; omega
def sp (x y z : Int) : Nat → Int := fun j => if j = 0 then x else if j = 1 then y else if j = 20 then z else 0
def sq (x y z : Int) : Nat → Int := fun j => if j = 5 then y else if j = 6 then z else if j = 15 then x else if j = 21 then x else 0
theorem snear_id {n : Int} (h0 : 0 ≤ n) (h1 : n ≤ 65535) : snear n = n := by simp only [snear]; omega
theorem sp_in {x y z : Int} (hx : 0 ≤ x ∧ x ≤ 65535) (hy : 0 ≤ y ∧ y ≤ 65535) (hz : 0 ≤ z ∧ z ≤ 65535) (j : Nat) : 0 ≤ sp x y z j ∧ sp x y z j ≤ 65535 := by
  unfold sp; (repeat' split) <;> omega
theorem sq_in {x y z : Int} (hx : 0 ≤ x ∧ x ≤ 65535) (hy : 0 ≤ y ∧ y ≤ 65535) (hz : 0 ≤ z ∧ z ≤ 65535) (j : Nat) : 0 ≤ sq x y z j ∧ sq x y z j ≤ 65535 := by
  unfold sq; (repeat' split) <;> omega
theorem splus_small {f h : Nat → Int} {j : Nat} (hf : 0 ≤ f j ∧ f j ≤ 65535) (hh : 0 ≤ h j ∧ h j ≤ 65535) : splus f h j = f j + h j := by simp only [splus, snear]; omega
theorem sp_none {x y z : Int} (hx : 0 ≤ x ∧ x ≤ 65535) (hy : 0 ≤ y ∧ y ≤ 65535) (hz : 0 ≤ z ∧ z ≤ 65535) (j : Nat) : splus (sp x y z) snone j = sp x y z j := by
  rw [splus_small (sp_in hx hy hz j) ⟨by show (0 : Int) ≤ 0; decide, by show (0 : Int) ≤ 65535; decide⟩]; simp [snone]
theorem skinds_small {f : Nat → Int} {k : Nat} (h : ∀ j, 0 ≤ f j ∧ f j ≤ 1000000) : skinds f k = f k + f (5 + k) + f (10 + k) + f (15 + k) := by
  have h1 := h k
  have h2 := h (5 + k)
  have h3 := h (10 + k)
  have h4 := h (15 + k)
  unfold skinds
  rw [wrap64_ok (n := f k + f (5 + k)) (by omega) (by omega), wrap64_ok (n := f k + f (5 + k) + f (10 + k)) (by omega) (by omega), wrap64_ok (by omega) (by omega)]
theorem sjobs_small {f : Nat → Int} (h : ∀ j, 0 ≤ f j ∧ f j ≤ 1000000) : sjobs f = f 20 + f 21 + f 22 + f 23 + f 24 + f 25 + f 26 := by
  have h0 := h 20
  have h1 := h 21
  have h2 := h 22
  have h3 := h 23
  have h4 := h 24
  have h5 := h 25
  have h6 := h 26
  simp only [sjobs, sjobsL, Nat.reduceAdd]
  rw [wrap64_ok (n := 0 + f 20) (by omega) (by omega), wrap64_ok (n := 0 + f 20 + f 21) (by omega) (by omega), wrap64_ok (n := 0 + f 20 + f 21 + f 22) (by omega) (by omega), wrap64_ok (n := 0 + f 20 + f 21 + f 22 + f 23) (by omega) (by omega), wrap64_ok (n := 0 + f 20 + f 21 + f 22 + f 23 + f 24) (by omega) (by omega), wrap64_ok (n := 0 + f 20 + f 21 + f 22 + f 23 + f 24 + f 25) (by omega) (by omega), wrap64_ok (by omega) (by omega)]
  omega
theorem sums_jobs {x y z : Int} (hx : 0 ≤ x ∧ x ≤ 65535) (hy : 0 ≤ y ∧ y ≤ 65535) (hz : 0 ≤ z ∧ z ≤ 65535) : sjobs (splus (sp x y z) (sq x y z)) = sjobs (sp x y z) + sjobs (sq x y z) := by
  have hp := sp_in hx hy hz
  have hq := sq_in hx hy hz
  rw [sjobs_small (f := sp x y z) (fun j => ⟨(hp j).1, by have := (hp j).2; omega⟩), sjobs_small (f := sq x y z) (fun j => ⟨(hq j).1, by have := (hq j).2; omega⟩), sjobs_small (f := splus _ _) (fun j => by have h1 := hp j; have h2 := hq j; rw [splus_small h1 h2]; omega)]
  simp only [splus_small (hp _) (hq _)]
  omega
theorem sums_kinds {x y z : Int} (hx : 0 ≤ x ∧ x ≤ 65535) (hy : 0 ≤ y ∧ y ≤ 65535) (hz : 0 ≤ z ∧ z ≤ 65535) (k : Nat) : skinds (splus (sp x y z) (sq x y z)) k = skinds (sp x y z) k + skinds (sq x y z) k := by
  have hp := sp_in hx hy hz
  have hq := sq_in hx hy hz
  rw [skinds_small (f := sp x y z) (fun j => ⟨(hp j).1, by have := (hp j).2; omega⟩), skinds_small (f := sq x y z) (fun j => ⟨(hq j).1, by have := (hq j).2; omega⟩), skinds_small (f := splus _ _) (fun j => by have h1 := hp j; have h2 := hq j; rw [splus_small h1 h2]; omega)]
  simp only [splus_small (hp _) (hq _)]
  omega

/-! ### each thing of a lease is counted once -/
def cn (p : Nat → Bool) : Nat := (List.range 256).countP p
theorem countP_add (a b c u : Nat → Bool) : ∀ l : List Nat, (∀ n ∈ l, (if a n then 1 else 0) + (if b n then 1 else 0) + (if c n then 1 else 0) = if u n then (1 : Nat) else 0) → l.countP a + l.countP b + l.countP c = l.countP u
  | [], _ => rfl
  | x :: l, h => by
    have h1 := h x List.mem_cons_self
    have h2 := countP_add a b c u l fun n hn => h n (List.mem_cons_of_mem _ hn)
    simp only [List.countP_cons]
    omega
theorem kcnt_set {g : List Thing} {l : List Int} (h : sok l = true) (c : Int) : kcnt g l c = (cn fun n => inl l n && kin g c (n : Int) : Nat) := by
  have e : l = setl (inl l) := sok_ext h (sok_setl _) fun n => by
    rw [inl_setl]
    cases hn : inl l n with
    | false => simp
    | true => simp [inl_256 h hn]
  rw [kcnt_kin, cn]
  conv => lhs; rw [e]
  rw [setl, List.filter_map, List.length_map, List.filter_filter, ← List.countP_eq_length_filter]
  congr 1
  refine List.countP_congr fun n _ => ?_
  simp [Function.comp, Bool.and_comm]
theorem nd_sub {α : Type} [DecidableEq α] : ∀ (R T : List α), R.Nodup → (∀ x ∈ R, x ∈ T) → T.length ≤ R.length → ∀ y ∈ T, y ∈ R
  | [], T, _, _, hl, y, hy => by
    cases T with
    | nil => cases hy
    | cons a t => simp at hl
  | x :: R, T, hnd, hs, hl, y, hy => by
    have hx := hs x List.mem_cons_self
    rw [List.nodup_cons] at hnd
    by_cases e : y = x
    · rw [e]; exact List.mem_cons_self
    · refine List.mem_cons_of_mem _ (nd_sub R (T.erase x) hnd.2 (fun z hz => ?_) ?_ y ((List.mem_erase_of_ne e).2 hy))
      · have hzx : z ≠ x := fun h => hnd.1 (h ▸ hz)
        exact (List.mem_erase_of_ne hzx).2 (hs z (List.mem_cons_of_mem _ hz))
      · have := List.length_erase_of_mem hx
        simp only [List.length_cons] at hl
        omega
/-- What is held is held by a job that runs now. -/
theorem table_now {i : Inst} (h : iright i = true) : ∀ x ∈ i.table, ∃ j ∈ i.jobs, j.state = 2 ∧ j.id = x.id ∧ x.frm = j.frm ∧ x.frm ≤ i.now ∧ i.now < x.to ∧ x.to = sEnds j.spec j.frm ∧ ithings i.graph x.things = true := by
  have ht := iright_table h
  have hj := iright_jobs h
  have htold : itold i = true := by simp only [iright, Bool.and_eq_true] at h; exact h.2
  rw [itold, Bool.and_eq_true, decide_eq_true_eq] at htold
  obtain ⟨hall, hlen⟩ := htold
  have hrun : ∀ j ∈ i.jobs, j.state = 2 → ∃ x ∈ i.table, x.id = j.id ∧ x.frm = j.frm ∧ x.frm ≤ i.now ∧ i.now < x.to ∧ x.to = sEnds j.spec j.frm ∧ ithings i.graph x.things = true := by
    intro j hjm hst
    obtain ⟨k, hk⟩ := List.mem_iff_getElem?.1 hjm
    have hb := allI_get hall (List.getElem?_eq_some_iff.1 hk).1
    rw [itoldB_get hk] at hb
    simp only [Bool.and_eq_true, Bool.or_eq_true, decide_eq_true_eq, hst, ne_eq, not_true_eq_false, false_or] at hb
    obtain ⟨⟨h1, h2⟩, ⟨⟨⟨⟨h3, h4⟩, h5⟩, h6⟩, h7⟩⟩ := hb
    have hget : ∃ x ∈ i.table, x.id = j.id := by
      unfold heldGet at h3
      split at h3
      · rename_i hh
        rw [Bool.and_eq_true] at hh
        exact (heldHit_iff (held_iff.1 ht).2.2.1).1 hh.2
      · cases h3
    obtain ⟨x, hx, hid⟩ := hget
    have he := heldGet_eq ht hx
    rw [hid] at he
    rw [he] at h4 h5 h6 h7
    exact ⟨x, hx, hid, h4, by simp only at h4; omega, h6, h5, h7⟩
  intro x hx
  have hp := (held_iff.1 ht).2.2.1
  have hpj := jobsR_sorted hj
  have hsub := nd_sub ((i.jobs.filter fun j => decide (j.state = 2)).map (·.id)) (i.table.map (·.id)) ?_ ?_ ?_ x.id (List.mem_map.2 ⟨x, hx, rfl⟩)
  · obtain ⟨j, hjm, hid⟩ := List.mem_map.1 hsub
    rw [List.mem_filter, decide_eq_true_eq] at hjm
    obtain ⟨y, hy, hyid, r⟩ := hrun j hjm.1 hjm.2
    have : y = x := key_inj (f := Held.id) hp hy hx (by rw [hyid, hid])
    subst this
    exact ⟨j, hjm.1, hjm.2, hid, r⟩
  · exact (keys_sorted (f := Job.id) (hpj.sublist (List.filter_sublist))).imp fun h => by omega
  · intro n hn
    obtain ⟨j, hjm, rfl⟩ := List.mem_map.1 hn
    rw [List.mem_filter, decide_eq_true_eq] at hjm
    obtain ⟨y, hy, hyid, r⟩ := hrun j hjm.1 hjm.2
    exact List.mem_map.2 ⟨y, hy, hyid⟩
  · rw [List.length_map, List.length_map, hlen]; exact Nat.le_refl _
theorem tm_iff {t : Int} : tm t = true ↔ 0 ≤ t ∧ t ≤ 4611686018427387904 := by simp [tm]
theorem busyL_congr {a b a' b' : Int} : ∀ (l : List Held), (∀ h ∈ l, meets h.frm h.to a b = meets h.frm h.to a' b') → busyL l a b = busyL l a' b' := by
  intro l h
  unfold busyL
  generalize ([] : List Int) = out
  induction l generalizing out with
  | nil => rfl
  | cons x l ih =>
    rw [List.foldl_cons, List.foldl_cons, h x List.mem_cons_self]
    exact ih (fun y hy => h y (List.mem_cons_of_mem _ hy)) _
theorem busy_now {i : Inst} (h : iright i = true) : ibusy i = heldBusy i.table i.now 4611686018427387904 := by
  have ht := iright_table h
  rw [ibusy, heldBusy, heldBusy, ht, if_pos rfl, if_pos rfl]
  refine busyL_congr _ fun x hx => ?_
  obtain ⟨j, _, _, _, _, h1, h2, _⟩ := table_now h x hx
  have hm := (held_iff.1 ht).2.1 x hx
  simp only [hmay, Bool.and_eq_true, tm_iff, decide_eq_true_eq] at hm
  have hn : 0 ≤ i.now ∧ i.now ≤ 4611686018427387904 := by simp only [iright, Bool.and_eq_true, tm_iff] at h; exact h.1.1.1.1.2
  rw [meets, meets, decide_eq_true (by simp only [plus, near]; omega), decide_eq_true (by omega)]
theorem ithings_ok {g : List Thing} {l : List Int} (h : ithings g l = true) : sok l = true := by rw [ithings, Bool.and_eq_true] at h; exact h.1
theorem iright_lease {i : Inst} (h : iright i = true) : sok i.lease = true := by
  simp only [iright, Bool.and_eq_true] at h; exact ithings_ok h.1.1.1.1.1.1.2
theorem hbelow_sok (g : List Thing) (h : List Int) (m : Int) : sok (hbelow g h m) = true := by
  rw [hbelow]
  split
  · rename_i hh
    exact idx_sok _ (gright_len (hright_parts hh).1).2
  · rfl
theorem istat_small {i : Inst} (h : iright i = true) : ∀ j, 0 ≤ istat i j ∧ istat i j ≤ 1000000 := by
  have hs : istat i = statS i.graph (ifree i) (ibusy i) (sless (sless i.lease (hbelow i.graph i.health 0)) (ibusy i)) i.jobs := by rw [istat, if_pos h]
  intro j
  rw [hs]
  have k1 := fun c => kcnt_le i.graph (ifree i) c
  have k2 := fun c => kcnt_le i.graph (ibusy i) c
  have k3 := fun c => kcnt_le i.graph (sless (sless i.lease (hbelow i.graph i.health 0)) (ibusy i)) c
  have n1 := ifree_le i
  have n2 := heldBusy_le i.table i.now (plus i.now 1)
  have n3 : (sless (sless i.lease (hbelow i.graph i.health 0)) (ibusy i)).length ≤ 256 := setop_len _ _ _
  have k4 := fun c => stcnt_le i.jobs c
  have n4 := (jobs_iff.1 (iright_jobs h)).1
  unfold statS kfun sfun
  have n2' : (ibusy i).length ≤ 256 := n2
  split
  · have := k1 (j : Int); omega
  · split
    · have := k2 ((j - 5 : Nat) : Int); omega
    · split
      · have := k3 ((j - 10 : Nat) : Int); omega
      · split
        · omega
        · have := k4 ((j - 20 : Nat) : Int); omega
theorem lease_kinds {i : Inst} (h : iright i = true) (k : Nat) (hk : k < 5) : skinds (istat i) k = kfun i.graph (sjoin i.lease (heldBusy i.table i.now 4611686018427387904)) k := by
  have sl := iright_lease h
  have sg := hbelow_sok i.graph i.health 0
  have sb : sok (ibusy i) = true := sok_heldBusy _ _ _
  have hs : istat i = statS i.graph (ifree i) (ibusy i) (sless (sless i.lease (hbelow i.graph i.health 0)) (ibusy i)) i.jobs := by rw [istat, if_pos h]
  have hfree : ifree i = sless (smeet i.lease (hbelow i.graph i.health 0)) (ibusy i) := by rw [ifree, h]; rfl
  have small := istat_small h
  rw [skinds_small small, hs]
  have e1 : statS i.graph (ifree i) (ibusy i) (sless (sless i.lease (hbelow i.graph i.health 0)) (ibusy i)) i.jobs k = kfun i.graph (ifree i) k := by rw [statS, if_pos hk]
  have e2 : statS i.graph (ifree i) (ibusy i) (sless (sless i.lease (hbelow i.graph i.health 0)) (ibusy i)) i.jobs (5 + k) = kfun i.graph (ibusy i) k := by rw [statS, if_neg (by omega), if_pos (by omega), Nat.add_sub_cancel_left]
  have e3 : statS i.graph (ifree i) (ibusy i) (sless (sless i.lease (hbelow i.graph i.health 0)) (ibusy i)) i.jobs (10 + k) = kfun i.graph (sless (sless i.lease (hbelow i.graph i.health 0)) (ibusy i)) k := by rw [statS, if_neg (by omega), if_neg (by omega), if_pos (by omega), Nat.add_sub_cancel_left]
  have e4 : statS i.graph (ifree i) (ibusy i) (sless (sless i.lease (hbelow i.graph i.health 0)) (ibusy i)) i.jobs (15 + k) = 0 := by rw [statS, if_neg (by omega), if_neg (by omega), if_neg (by omega), if_pos (by omega)]
  rw [e1, e2, e3, e4, ← busy_now h, Int.add_zero, hfree]
  unfold kfun
  rw [kcnt_set (sok_setop _ _ _), kcnt_set sb, kcnt_set (sok_setop _ _ _), kcnt_set (sok_setop _ _ _)]
  rw [← Int.natCast_add, ← Int.natCast_add]
  congr 1
  refine countP_add _ _ _ _ _ fun n _ => ?_
  rw [in_less (sok_setop _ _ _) sb, in_meet sl sg, in_less (sok_setop _ _ _) sb, in_less sl sg, in_join sl sb]
  cases inl i.lease n <;> cases inl (hbelow i.graph i.health 0) n <;> cases inl (ibusy i) n <;> cases kin i.graph (k : Int) (n : Int) <;> rfl
theorem states_sum : ∀ l : List Job, (∀ j ∈ l, 0 ≤ j.state ∧ j.state ≤ 6) → stcnt l 0 + stcnt l 1 + stcnt l 2 + stcnt l 3 + stcnt l 4 + stcnt l 5 + stcnt l 6 = (l.length : Int)
  | [], _ => rfl
  | j :: l, h => by
    have h1 := h j List.mem_cons_self
    have h2 := states_sum l fun x hx => h x (List.mem_cons_of_mem _ hx)
    have hc : ∀ c : Int, stcnt (j :: l) c = stcnt l c + if j.state = c then 1 else 0 := by
      intro c
      rw [stcnt, stcnt, List.filter_cons]
      by_cases e : j.state = c <;> simp [e]
    simp only [hc, List.length_cons]
    have : j.state = 0 ∨ j.state = 1 ∨ j.state = 2 ∨ j.state = 3 ∨ j.state = 4 ∨ j.state = 5 ∨ j.state = 6 := by omega
    rcases this with e | e | e | e | e | e | e <;> rw [e] <;> simp <;> omega
theorem lease_jobs {i : Inst} (h : iright i = true) : sjobs (istat i) = (i.jobs.length : Int) := by
  have hj := iright_jobs h
  rw [sjobs_small (istat_small h), istat, if_pos h]
  have e : ∀ c : Nat, statS i.graph (ifree i) (ibusy i) (sless (sless i.lease (hbelow i.graph i.health 0)) (ibusy i)) i.jobs (20 + c) = stcnt i.jobs (c : Int) := by
    intro c
    rw [statS, if_neg (by omega), if_neg (by omega), if_neg (by omega), if_neg (by omega), Nat.add_sub_cancel_left]; rfl
  rw [show statS _ _ _ _ i.jobs 20 = _ from e 0, show statS _ _ _ _ i.jobs 21 = _ from e 1, show statS _ _ _ _ i.jobs 22 = _ from e 2, show statS _ _ _ _ i.jobs 23 = _ from e 3, show statS _ _ _ _ i.jobs 24 = _ from e 4, show statS _ _ _ _ i.jobs 25 = _ from e 5, show statS _ _ _ _ i.jobs 26 = _ from e 6]
  exact states_sum i.jobs fun j hjm => jright_state ((jobs_iff.1 hj).2.1 j hjm)
theorem lease_away {i : Inst} (h : iright i = true) (k : Nat) (hk : k < 5) : istat i (15 + k) = 0 := by
  rw [istat, if_pos h, statS, if_neg (by omega), if_neg (by omega), if_neg (by omega), if_pos (by omega)]
end Go.Av

/-
  THE REFERENCES of graphs, health, holdings and jobs, plainly: they tell what the program's side tells.
-/
namespace Go.Av
set_option linter.unusedVariables false
set_option linter.unusedSimpArgs false

theorem allI_iff {p : Nat → Bool} {n : Nat} : allI p n = true ↔ ∀ i, i < n → p i = true := ⟨fun h i hi => allI_get h hi, allI_true⟩
/-! ### graphs -/
def g5B (g : List Thing) (i : Nat) : Bool := if i = 0 then decide (g[0]? = some thing0) else gokB g (i - 1)
theorem g5_all {g : List Thing} (h1 : g.length ≠ 0) (h2 : g.length ≤ 256) : gright g = allI (g5B g) g.length := by
  rw [gright, decide_eq_true (show 1 ≤ g.length by omega), decide_eq_true h2, Bool.true_and, Bool.true_and, Bool.eq_iff_iff, Bool.and_eq_true, decide_eq_true_eq, allI_iff, allI_iff]
  constructor
  · rintro ⟨a, b⟩ i hi
    rw [g5B]
    split
    · rw [decide_eq_true_eq]; exact a
    · exact b (i - 1) (by omega)
  · intro h
    refine ⟨?_, fun i hi => ?_⟩
    · have := h 0 (by omega)
      rw [g5B, if_pos rfl, decide_eq_true_eq] at this
      exact this
    · have := h (i + 1) (by omega)
      rw [g5B, if_neg (by omega), Nat.add_sub_cancel] at this
      exact this
theorem g5B_zero {g : List Thing} {t : Thing} (h : g[0]? = some t) : g5B g 0 = (decide (t.kind = 0) && decide (t.up = -1) && decide (t.tag = ⟨#[]⟩)) := by
  rw [g5B, if_pos rfl, h, thing0, Bool.eq_iff_iff]
  cases t
  simp [and_assoc]
theorem g5B_get {g : List Thing} {i : Nat} {t : Thing} (h : g[i]? = some t) (h0 : 0 < i) : g5B g i = (decide (0 ≤ t.up) && decide (t.up < (i : Int)) && gpart t.kind (kindAt g t.up.toNat) && tagok t.tag && (decide (t.tag = ⟨#[]⟩) || decide (t.kind = 2))) := by
  obtain ⟨j, rfl⟩ : ∃ j, i = j + 1 := ⟨i - 1, by omega⟩
  rw [g5B, if_neg (by omega), Nat.add_sub_cancel, gokB, h]
  have : decide (t.up ≤ (j : Int)) = decide (t.up < ((j + 1 : Nat) : Int)) := by rw [Bool.eq_iff_iff]; simp; omega
  simp only [this]
/-! ### the worst on the way up -/
theorem hright_nn {g : List Thing} {h : List Int} (e : hright g h = true) (k : Nat) : 0 ≤ h.getD k 0 ∧ h.getD k 0 ≤ 2 := by
  have := (hright_parts e).2.2
  rw [List.any_eq_false] at this
  by_cases hk : k < h.length
  · have h2 := this _ (List.getElem_mem hk)
    rw [List.getD_eq_getElem?_getD, List.getElem?_eq_getElem hk, Option.getD_some]
    simp only [Bool.or_eq_true, decide_eq_true_eq, not_or] at h2
    omega
  · rw [List.getD_eq_getElem?_getD, List.getElem?_eq_none (by omega)]
    exact ⟨by decide, by decide⟩
theorem wW_nn {g : List Thing} {h : List Int} (e : hright g h = true) : ∀ k, k < g.length → 0 ≤ wW g h k := by
  intro k
  induction k using Nat.strongRecOn with
  | ind k ih =>
    intro hk
    have hu := gright_up (hright_parts e).1 (List.getElem?_eq_getElem hk)
    rw [wW_at (List.getElem?_eq_getElem hk) hu.1]
    have := hright_nn e k
    split
    · have := ih g[k].up.toNat (by omega) (by omega); omega
    · omega
/-- What is left of the way up. -/
def wUp (g : List Thing) (h : List Int) (n : Int) : Int := if 0 ≤ n then wW g h n.toNat else 0
theorem wUp_step {g : List Thing} {h : List Int} (e : hright g h = true) {k : Nat} {t : Thing} (ht : g[k]? = some t) {b : Int} (hb : 0 ≤ b) : max (max b (h.getD k 0)) (wUp g h t.up) = max b (wUp g h (k : Int)) := by
  have hu := gright_up (hright_parts e).1 ht
  have hn := hright_nn e k
  have e1 : wUp g h (k : Int) = wW g h k := by rw [wUp, if_pos (by omega), Int.toNat_natCast]
  rw [e1, wW_at ht hu.1, wUp]
  split <;> omega
/-! ### sets that touch -/
def touch (a b : List Int) : Bool := a.any fun x => decide (x ∈ b)
theorem touch_iff {a b : List Int} : touch a b = true ↔ ∃ x, x ∈ a ∧ x ∈ b := by simp [touch]
theorem touch_apart {a b : List Int} (ha : sok a = true) (hb : sok b = true) : touch a b = !sapart a b := by
  rw [Bool.eq_iff_iff, touch_iff, Bool.not_eq_true', ← Bool.not_eq_true, sapart_iff]
  constructor
  · rintro ⟨x, h1, h2⟩ ⟨_, _, h⟩
    have hx := sok_mem ha h1
    have := h x.toNat
    rw [inl_mem.2 (by rw [Int.toNat_of_nonneg hx.1]; exact h1), inl_mem.2 (by rw [Int.toNat_of_nonneg hx.1]; exact h2)] at this
    cases this
  · intro h
    refine Classical.byContradiction fun hn => h ⟨ha, hb, fun n => ?_⟩
    cases h1 : inl a n with
    | false => rfl
    | true =>
      cases h2 : inl b n with
      | false => rfl
      | true => exact absurd ⟨_, inl_mem.1 h1, inl_mem.1 h2⟩ hn
theorem hmay_sok {h : Held} (e : hmay h = true) : sok h.things = true := by
  simp only [hmay, Bool.and_eq_true] at e; exact e.1.1.1.2
theorem hmay_pos {h : Held} (e : hmay h = true) : 0 < h.things.length := by
  simp only [hmay, Bool.and_eq_true, decide_eq_true_eq] at e; exact e.1.1.1.1
theorem heldB_may {l : List Held} {i : Nat} {h : Held} (e : l[i]? = some h) (hb : heldB l i = true) : hmay h = true := by
  rw [heldB_get e] at hb
  simp only [Bool.and_eq_true] at hb
  exact hb.1.1
/-- A holding that clashes with none of the first k ahead. -/
def noclash (l : List Held) (h : Held) (k : Nat) : Bool := !((l.take k).any fun x => clash x h)
theorem noclash_step {l : List Held} {h x : Held} {k : Nat} (e : l[k]? = some x) : noclash l h (k + 1) = (noclash l h k && !clash x h) := by
  rw [noclash, noclash, List.take_add_one, e, List.any_append]; simp
theorem noclash_bad {l : List Held} {h x : Held} {k i : Nat} (e : l[k]? = some x) (hk : k < i) (hc : clash x h = true) : noclash l h i = false := by
  rw [noclash, Bool.not_eq_false', List.any_eq_true]
  exact ⟨x, List.mem_iff_getElem?.2 ⟨k, by rw [List.getElem?_take, if_pos hk]; exact e⟩, hc⟩
/-! ### where a number stands -/
def fAt {α : Type} (p : α → Bool) (l : List α) : Int := match l.findIdx? p with
  | some k => (k : Int)
  | none => -1
theorem fAt_hit {α : Type} {p : α → Bool} {l : List α} {k : Nat} {x : α} (hk : l[k]? = some x) (hp : p x = true) (hno : ∀ y ∈ l.take k, p y = false) : fAt p l = (k : Int) := by
  have : l.findIdx? p = some k := by
    obtain ⟨h1, h2⟩ := List.getElem?_eq_some_iff.1 hk
    rw [List.findIdx?_eq_some_iff_getElem]
    refine ⟨h1, by rw [h2]; exact hp, fun j hj => ?_⟩
    have := hno l[j] (List.mem_iff_getElem?.2 ⟨j, by rw [List.getElem?_take, if_pos hj]; exact List.getElem?_eq_getElem (by omega)⟩)
    rw [this]; decide
  rw [fAt, this]
theorem fAt_none {α : Type} {p : α → Bool} {l : List α} (hno : ∀ y ∈ l, p y = false) : fAt p l = -1 := by
  have : l.findIdx? p = none := List.findIdx?_eq_none_iff.2 hno
  rw [fAt, this]
theorem fAt_cases {α : Type} (p : α → Bool) (l : List α) : (fAt p l = -1 ∧ ∀ y ∈ l, p y = false) ∨ ∃ k x, fAt p l = ((k : Nat) : Int) ∧ l[k]? = some x ∧ p x = true := by
  unfold fAt
  cases h : l.findIdx? p with
  | none => exact .inl ⟨rfl, List.findIdx?_eq_none_iff.1 h⟩
  | some k =>
    obtain ⟨h1, h2, _⟩ := List.findIdx?_eq_some_iff_getElem.1 h
    exact .inr ⟨k, l[k], rfl, List.getElem?_eq_getElem h1, h2⟩
theorem fAt_neg {α : Type} (p : α → Bool) (l : List α) : decide (fAt p l < 0) = !l.any p := by
  rcases fAt_cases p l with ⟨h, hn⟩ | ⟨k, x, h, hk, hx⟩
  · have : l.any p = false := by rw [List.any_eq_false]; exact fun y hy => by rw [hn y hy]; decide
    rw [h, this]; rfl
  · have : l.any p = true := List.any_eq_true.2 ⟨x, List.mem_of_getElem? hk, hx⟩
    rw [h, this, decide_eq_false (by omega)]; rfl
def jAt (l : List Job) (id : Int) : Int := fAt (fun j : Job => decide (j.id = id)) l
def hAt (l : List Held) (id : Int) : Int := fAt (fun h : Held => decide (h.id = id)) l
theorem jAt_sorted {l : List Job} (hp : l.Pairwise (fun a b => a.id < b.id)) (id : Int) : jAt l id = if jobHit l id then (jobPos l id : Int) else -1 := by
  unfold jAt
  rcases fAt_cases (fun j : Job => decide (j.id = id)) l with ⟨h, hn⟩ | ⟨k, x, h, hk, hx⟩
  · rw [h, if_neg]
    intro hh
    obtain ⟨j, hj, e⟩ := (jobHit_iff hp).1 hh
    have := hn j hj
    rw [decide_eq_false_iff_not] at this
    exact this e
  · rw [decide_eq_true_eq] at hx
    subst hx
    rw [h, if_pos ((jobHit_iff hp).2 ⟨x, List.mem_of_getElem? hk, rfl⟩), jobPos_eq, kpos_at (f := Job.id) hp hk]
theorem hAt_sorted {l : List Held} (hp : l.Pairwise (fun a b => a.id < b.id)) (id : Int) : hAt l id = if heldHit l id then (heldPos l id : Int) else -1 := by
  unfold hAt
  rcases fAt_cases (fun j : Held => decide (j.id = id)) l with ⟨h, hn⟩ | ⟨k, x, h, hk, hx⟩
  · rw [h, if_neg]
    intro hh
    obtain ⟨j, hj, e⟩ := (heldHit_iff hp).1 hh
    have := hn j hj
    rw [decide_eq_false_iff_not] at this
    exact this e
  · rw [decide_eq_true_eq] at hx
    subst hx
    rw [h, if_pos ((heldHit_iff hp).2 ⟨x, List.mem_of_getElem? hk, rfl⟩), heldPos_eq, kpos_at (f := Held.id) hp hk]
/-! ### jobs, as1 the reference looks at them -/
def j12B (l : List Job) (i : Nat) : Bool := jright (jobAt l i) && !(decide (0 < i) && (decide ((jobAt l i).id ≤ jobId l (i - 1)) || decide ((jobAt l i).came < (jobAt l (i - 1)).came))) && (jobAt l i).needs.all fun n => l.any fun j => decide (j.id = n)
theorem jright_lt {j : Job} (h : jright j = true) : ∀ n ∈ j.needs, n < j.id := by
  intro n hn
  have hnd : ndall j.id j.needs = true := by simp only [jright, jneeds, Bool.and_eq_true] at h; exact h.1.1.2.2
  obtain ⟨k, hk⟩ := List.mem_iff_getElem?.1 hn
  have hb : ndB j.id j.needs k = true := List.all_eq_true.1 hnd k (by simpa using (List.getElem?_eq_some_iff.1 hk).1)
  rw [ndB_get hk] at hb
  simp only [Bool.and_eq_true, decide_eq_true_eq] at hb
  exact hb.1.2
theorem j12_sorted {l : List Job} (h : ∀ i, i < l.length → j12B l i = true) : l.Pairwise (fun a b => a.id < b.id) := by
  have step : ∀ k a b, l[k]? = some a → l[k + 1]? = some b → a.id < b.id := by
    intro k a b ha hb
    have := h (k + 1) (List.getElem?_eq_some_iff.1 hb).1
    rw [j12B, jobAt_get hb, Nat.add_sub_cancel, jobId, jobAt_get ha] at this
    simp only [Bool.and_eq_true, Bool.not_eq_true', Bool.and_eq_false_iff, Bool.or_eq_false_iff, decide_eq_false_iff_not] at this
    rcases this.1.2 with h | h
    · omega
    · omega
  have mono : ∀ d i a b, l[i]? = some a → l[i + d + 1]? = some b → a.id < b.id := by
    intro d
    induction d with
    | zero => intro i a b ha hb; exact step i a b ha hb
    | succ d ih =>
      intro i a b ha hb
      have hlt := (List.getElem?_eq_some_iff.1 hb).1
      have h3 := ih i a l[i + d + 1] ha (List.getElem?_eq_getElem (by omega))
      have h4 := step (i + d + 1) _ b (List.getElem?_eq_getElem (by omega)) hb
      omega
  rw [List.pairwise_iff_getElem]
  intro i j hi hj hij
  exact mono (j - i - 1) i _ _ (List.getElem?_eq_getElem hi) (by rw [show i + (j - i - 1) + 1 = j by omega]; exact List.getElem?_eq_getElem hj)
theorem j12_all {l : List Job} (h64 : l.length ≤ 64) : jobsR l = allI (j12B l) l.length := by
  rw [jobsR, decide_eq_true h64, Bool.true_and, Bool.eq_iff_iff, allI_iff, allI_iff]
  have get : ∀ i, i < l.length → ∃ j, l[i]? = some j := fun i hi => ⟨l[i], List.getElem?_eq_getElem hi⟩
  constructor
  · intro h i hi
    obtain ⟨j, hj⟩ := get i hi
    have hb := h i hi
    have hs := (jobs_take_sorted (i := i) h64 fun k hk => h k (by omega))
    rw [jobB_get hj] at hb
    rw [j12B, jobAt_get hj]
    rw [Bool.and_eq_true] at hb ⊢
    refine ⟨hb.1, ?_⟩
    rw [List.all_eq_true]
    intro n hn
    obtain ⟨x, hx, e⟩ := (jobHit_iff hs).1 (List.all_eq_true.1 hb.2 n hn)
    exact List.any_eq_true.2 ⟨x, List.mem_of_mem_take hx, by rw [e]; simp⟩
  · intro h i hi
    obtain ⟨j, hj⟩ := get i hi
    have hb := h i hi
    have hp := j12_sorted h
    rw [j12B, jobAt_get hj, Bool.and_eq_true] at hb
    rw [jobB_get hj, Bool.and_eq_true]
    refine ⟨hb.1, ?_⟩
    have hjr : jright j = true := by have := hb.1; rw [Bool.and_eq_true] at this; exact this.1
    rw [List.all_eq_true]
    intro n hn
    obtain ⟨x, hx, e⟩ := List.any_eq_true.1 (List.all_eq_true.1 hb.2 n hn)
    rw [decide_eq_true_eq] at e
    have hlt := jright_lt hjr n hn
    obtain ⟨k, hk⟩ := List.mem_iff_getElem?.1 hx
    refine (jobHit_iff (hp.sublist (List.take_sublist i l))).2 ⟨x, ?_, e⟩
    refine List.mem_iff_getElem?.2 ⟨k, ?_⟩
    have hkl := (List.getElem?_eq_some_iff.1 hk)
    have hil := (List.getElem?_eq_some_iff.1 hj)
    rw [List.getElem?_take, if_pos, hk]
    rcases Nat.lt_or_ge k i with h1 | h1
    · exact h1
    · rcases Nat.lt_or_eq_of_le h1 with h2 | h2
      · have := List.pairwise_iff_getElem.1 hp i k hi hkl.1 h2
        rw [hil.2, hkl.2] at this
        omega
      · subst h2
        rw [hk] at hj
        cases hj
        omega
/-! ### schedulers, as1 the reference looks at them -/
def i16B (i : Inst) (k : Nat) : Bool := decide ((jobAt i.jobs k).came ≤ i.now) && decide ((jobAt i.jobs k).frm ≤ i.now) && (decide ((jobAt i.jobs k).state ≠ 2) ||
  (heldHit i.table (jobAt i.jobs k).id && decide ((heldAt i.table (heldPos i.table (jobAt i.jobs k).id)).frm = (jobAt i.jobs k).frm) && decide ((heldAt i.table (heldPos i.table (jobAt i.jobs k).id)).to = sEnds (jobAt i.jobs k).spec (jobAt i.jobs k).frm) &&
    decide (i.now < (heldAt i.table (heldPos i.table (jobAt i.jobs k).id)).to) && decide ((heldAt i.table (heldPos i.table (jobAt i.jobs k).id)).things.getD ((heldAt i.table (heldPos i.table (jobAt i.jobs k).id)).things.length - 1) 0 < (i.graph.length : Int))))
theorem i16_told {i : Inst} (hr : heldR i.table = true) (k : Nat) : i16B i k = itoldB i k := by
  unfold i16B itoldB heldGet
  rw [hr, Bool.true_and]
  cases hh : heldHit i.table (jobAt i.jobs k).id with
  | false => simp
  | true =>
    simp only [if_pos, Bool.true_and]
    have hm : heldAt i.table (heldPos i.table (jobAt i.jobs k).id) ∈ i.table := by
      rw [heldHit, Bool.and_eq_true, decide_eq_true_eq] at hh
      rw [heldAt_get (List.getElem?_eq_getElem hh.1)]
      exact List.getElem_mem hh.1
    have hmay' := (held_iff.1 hr).2.1 _ hm
    generalize heldAt i.table (heldPos i.table (jobAt i.jobs k).id) = h at *
    have e1 := hmay_sok hmay'
    have e2 := hmay_pos hmay'
    rw [ithings, e1, decide_eq_false (show ¬ h.things.length = 0 by omega), Bool.false_or, Bool.true_and]
end Go.Av

/-
  THE REFERENCE OF COUNTS, plainly: thing by thing.
-/
namespace Go.Av
set_option linter.unusedVariables false
set_option linter.unusedSimpArgs false

def hbB (i : Inst) (k : Nat) : Bool := i.table.any fun h => inl h.things k
def frB (i : Inst) (k : Nat) : Bool := !hbB i k && (inl i.lease k && decide (wW i.graph i.health k = 0))
def goB (i : Inst) (k : Nat) : Bool := !hbB i k && !(inl i.lease k && decide (wW i.graph i.health k = 0)) && inl i.lease k
def cntI (g : List Thing) (p : Nat → Bool) (n : Nat) (c : Nat) : Int := ((List.range n).countP fun k => p k && decide (kindAt g k = (c : Int)) : Nat)
theorem cntI_succ (g : List Thing) (p : Nat → Bool) (n c : Nat) : cntI g p (n + 1) c = cntI g p n c + if p n && decide (kindAt g n = (c : Int)) then 1 else 0 := by
  rw [cntI, cntI, List.range_succ, List.countP_append, List.countP_cons, List.countP_nil]
  split <;> simp
theorem cntI_le (g : List Thing) (p : Nat → Bool) (n c : Nat) : 0 ≤ cntI g p n c ∧ cntI g p n c ≤ (n : Int) := by
  have := List.countP_le_length (p := fun k => p k && decide (kindAt g k = (c : Int))) (l := List.range n)
  rw [List.length_range] at this
  unfold cntI
  omega
/-- The counts behind n things and m jobs. -/
def rOf (i : Inst) (n m : Nat) : Nat → Int := fun j => if j < 5 then cntI i.graph (frB i) n j else if j < 10 then cntI i.graph (hbB i) n (j - 5) else if j < 15 then cntI i.graph (goB i) n (j - 10) else if j < 20 then 0 else sfun (i.jobs.take m) (j - 20)
theorem rOf_held {i : Inst} {n c : Nat} (m : Nat) (hk : kindAt i.graph n = (c : Int)) (h5 : c < 5) (hb : hbB i n = true) : ∀ j, rOf i (n + 1) m j = if j = 5 + c then rOf i n m j + 1 else rOf i n m j := by
  intro j
  unfold rOf
  simp only [cntI_succ, hk, frB, goB, hb, Bool.not_true, Bool.false_and, Bool.true_and, Bool.false_eq_true, if_false, Int.add_zero]
  clear hk hb
  (repeat' split) <;> (try simp only [decide_eq_true_eq] at *) <;> omega
theorem rOf_free {i : Inst} {n c : Nat} (m : Nat) (hk : kindAt i.graph n = (c : Int)) (h5 : c < 5) (hb : hbB i n = false) (hf : (inl i.lease n && decide (wW i.graph i.health n = 0)) = true) : ∀ j, rOf i (n + 1) m j = if j = c then rOf i n m j + 1 else rOf i n m j := by
  intro j
  unfold rOf
  simp only [cntI_succ, hk, frB, goB, hb, hf, Bool.not_true, Bool.not_false, Bool.false_and, Bool.true_and, Bool.and_false, Bool.false_eq_true, if_false, Int.add_zero]
  clear hk hb hf
  (repeat' split) <;> (try simp only [decide_eq_true_eq] at *) <;> omega
theorem rOf_gone {i : Inst} {n c : Nat} (m : Nat) (hk : kindAt i.graph n = (c : Int)) (h5 : c < 5) (hb : hbB i n = false) (hf : (inl i.lease n && decide (wW i.graph i.health n = 0)) = false) (hl : inl i.lease n = true) : ∀ j, rOf i (n + 1) m j = if j = 10 + c then rOf i n m j + 1 else rOf i n m j := by
  intro j
  unfold rOf
  rw [hl, Bool.true_and] at hf
  simp only [cntI_succ, hk, frB, goB, hb, hf, hl, Bool.not_true, Bool.not_false, Bool.false_and, Bool.true_and, Bool.and_false, Bool.false_eq_true, if_false, Int.add_zero]
  clear hk hb hf hl
  (repeat' split) <;> (try simp only [decide_eq_true_eq] at *) <;> omega
theorem rOf_none {i : Inst} {n : Nat} (m : Nat) (hb : hbB i n = false) (hl : inl i.lease n = false) : ∀ j, rOf i (n + 1) m j = rOf i n m j := by
  intro j
  unfold rOf
  simp only [cntI_succ, frB, goB, hb, hl, Bool.not_true, Bool.not_false, Bool.false_and, Bool.true_and, Bool.and_false, Bool.false_eq_true, if_false, Int.add_zero]
theorem rOf_job {i : Inst} {n m : Nat} {x : Job} (hx : i.jobs[m]? = some x) {c : Nat} (hcc : x.state = (c : Int)) (h7 : c < 7) : ∀ j, j < 27 → rOf i n (m + 1) j = if j = 20 + c then rOf i n m j + 1 else rOf i n m j := by
  intro j hj
  unfold rOf sfun
  simp only [stcnt_step hx, hcc]
  clear hx hcc
  (repeat' split) <;> (try simp only [decide_eq_true_eq] at *) <;> omega
theorem rOf_zero (i : Inst) : ∀ j, rOf i 0 0 j = 0 := by
  intro j
  unfold rOf cntI sfun stcnt
  simp
/-! ### it is the program's -/
theorem inl_busyL : ∀ (l : List Held) (a b : Int) (n : Nat), (∀ h ∈ l, sok h.things = true) → inl (busyL l a b) n = l.any fun h => meets h.frm h.to a b && inl h.things n := by
  intro l a b n
  suffices key : ∀ (l : List Held) (out : List Int), sok out = true → (∀ h ∈ l, sok h.things = true) → inl (l.foldl (fun out h => if meets h.frm h.to a b then sjoin out h.things else out) out) n = (inl out n || l.any fun h => meets h.frm h.to a b && inl h.things n) by
    intro h
    rw [busyL, key l [] rfl h, inl_nil, Bool.false_or]
  intro l
  induction l with
  | nil => intro out _ _; simp
  | cons x l ih =>
    intro out ho h
    rw [List.foldl_cons, List.any_cons, ← Bool.or_assoc]
    rw [ih _ (by split; exact sok_setop _ _ _; exact ho) (fun y hy => h y (List.mem_cons_of_mem _ hy))]
    congr 1
    cases hm : meets x.frm x.to a b with
    | false => simp
    | true => rw [if_pos rfl, in_join ho (h x List.mem_cons_self), Bool.true_and]
theorem inl_ibusy {i : Inst} (h : iright i = true) (n : Nat) : inl (ibusy i) n = hbB i n := by
  have ht := iright_table h
  have hs : ∀ x ∈ i.table, sok x.things = true := fun x hx => hmay_sok ((held_iff.1 ht).2.1 x hx)
  rw [ibusy, heldBusy, if_pos ht, inl_busyL _ _ _ _ hs, hbB]
  have e : ∀ x ∈ i.table, (meets x.frm x.to i.now (plus i.now 1) && inl x.things n) = inl x.things n := by
    intro x hx
    obtain ⟨j, _, _, _, _, h1, h2, _⟩ := table_now h x hx
    have hm := (held_iff.1 ht).2.1 x hx
    simp only [hmay, Bool.and_eq_true, tm_iff, decide_eq_true_eq] at hm
    have hn : 0 ≤ i.now ∧ i.now ≤ 4611686018427387904 := by simp only [iright, Bool.and_eq_true, tm_iff] at h; exact h.1.1.1.1.2
    rw [meets, decide_eq_true (by simp only [plus, near]; omega), Bool.true_and]
  clear hs
  generalize i.table = l at e
  induction l with
  | nil => rfl
  | cons x l ih => rw [List.any_cons, List.any_cons, e x List.mem_cons_self, ih fun y hy => e y (List.mem_cons_of_mem _ hy)]
theorem iright_health {i : Inst} (h : iright i = true) : hright i.graph i.health = true := by
  simp only [iright, Bool.and_eq_true] at h; exact h.1.1.1.1.1.1.1
theorem inl_hbelow {g : List Thing} {h : List Int} (e : hright g h = true) (m : Int) (n : Nat) : inl (hbelow g h m) n = (decide (n < g.length) && decide (wW g h n ≤ m)) := by
  rw [hbelow, if_pos e, Bool.eq_iff_iff, inl_mem, idx_mem]
  simp only [Bool.and_eq_true, decide_eq_true_eq]
  constructor
  · rintro ⟨k, hk, h1, h2⟩
    obtain rfl : n = k := by omega
    exact ⟨h1, h2⟩
  · rintro ⟨h1, h2⟩
    exact ⟨n, rfl, h1, h2⟩
theorem countP_range {p : Nat → Bool} {a b : Nat} (hab : a ≤ b) (h : ∀ k, a ≤ k → p k = false) : (List.range b).countP p = (List.range a).countP p := by
  obtain ⟨d, rfl⟩ : ∃ d, b = a + d := ⟨b - a, by omega⟩
  rw [List.range_add, List.countP_append]
  have : ((List.range d).map fun x => a + x).countP p = 0 := by
    rw [List.countP_eq_zero]
    intro x hx
    obtain ⟨y, _, rfl⟩ := List.mem_map.1 hx
    rw [h _ (by omega)]; decide
  omega
theorem kfun_cnt {g : List Thing} {l : List Int} {p : Nat → Bool} (hg : g.length ≤ 256) (hs : sok l = true) (hp : ∀ n, n < g.length → inl l n = p n) (c : Nat) : kfun g l c = cntI g p g.length c := by
  rw [kfun, kcnt_set hs, cn, cntI, countP_range hg fun k hk => by
    rw [kin, decide_eq_false (by omega), Bool.false_and, Bool.and_false]]
  congr 1
  refine List.countP_congr fun n hn => ?_
  rw [List.mem_range] at hn
  rw [hp n hn, kin, decide_eq_true (by omega), Bool.true_and, Int.toNat_natCast]
theorem rOf_istat {i : Inst} (h : iright i = true) : ∀ j, j < 27 → rOf i i.graph.length i.jobs.length j = istat i j := by
  intro j hj
  have hh := iright_health h
  have hg := (gright_len (iright_graph h)).2
  have sl := iright_lease h
  have sg := hbelow_sok i.graph i.health 0
  have sb : sok (ibusy i) = true := sok_heldBusy _ _ _
  have w0 : ∀ n, n < i.graph.length → decide (wW i.graph i.health n ≤ 0) = decide (wW i.graph i.health n = 0) := fun n hn => by
    have := wW_nn hh n hn
    rw [Bool.eq_iff_iff, decide_eq_true_eq, decide_eq_true_eq]; omega
  rw [istat, if_pos h, rOf, statS]
  have e1 := fun c => kfun_cnt (g := i.graph) (l := ifree i) (p := frB i) hg (by rw [ifree, h, if_neg (by decide)]; exact sok_setop _ _ _) (fun n hn => by
    rw [ifree, h, if_neg (by decide), iusable, in_less (sok_setop _ _ _) (sok_heldBusy _ _ _), in_meet sl sg, inl_hbelow hh, show inl (heldBusy i.table i.now (plus i.now 1)) n = hbB i n from inl_ibusy h n, decide_eq_true hn, Bool.true_and, w0 n hn, frB, Bool.and_comm]) c
  have e2 := fun c => kfun_cnt (g := i.graph) (l := ibusy i) (p := hbB i) hg sb (fun n hn => inl_ibusy h n) c
  have e3 := fun c => kfun_cnt (g := i.graph) (l := sless (sless i.lease (hbelow i.graph i.health 0)) (ibusy i)) (p := goB i) hg (sok_setop _ _ _) (fun n hn => by
    rw [in_less (sok_setop _ _ _) sb, in_less sl sg, inl_hbelow hh, inl_ibusy h n, decide_eq_true hn, Bool.true_and, w0 n hn, goB]
    cases hbB i n <;> cases inl i.lease n <;> cases decide (wW i.graph i.health n = 0) <;> rfl) c
  rw [e1, e2, e3, List.take_length]
theorem rOf_le (i : Inst) (n m : Nat) : ∀ j, 0 ≤ rOf i n m j ∧ rOf i n m j ≤ (n : Int) + (i.jobs.length : Int) := by
  intro j
  have h1 := cntI_le i.graph (frB i) n j
  have h2 := cntI_le i.graph (hbB i) n (j - 5)
  have h3 := cntI_le i.graph (goB i) n (j - 10)
  have h4 := stcnt_le (i.jobs.take m) ((j - 20 : Nat) : Int)
  rw [List.length_take] at h4
  unfold rOf sfun
  (repeat' split) <;> omega
/-! ### two are put together -/
def rPlus (f h : Nat → Int) (n m : Nat) : Nat → Int := fun j => if j < 20 then (if j % 5 < n then splus f h j else 0) else if j - 20 < m then splus f h j else 0
theorem snear_splus (f h : Nat → Int) (j : Nat) : snear (snear (f j) + snear (h j)) = splus f h j := rfl
theorem splus_comm (f h : Nat → Int) : splus f h = splus h f := by
  funext j
  simp only [splus, Int.add_comm]
theorem rPlus_all (f h : Nat → Int) : ∀ j, j < 27 → rPlus f h 5 7 j = splus f h j := by
  intro j hj
  unfold rPlus
  split
  · rw [if_pos (by omega)]
  · rw [if_pos (by omega)]
end Go.Av

namespace Go.Av
open Go.Proofs
set_option maxRecDepth 10000
set_option linter.unusedSimpArgs false
set_option linter.unusedVariables false

def TW (g : List Thing) : Prop := ∀ t ∈ g, t.tag.size ≤ 9223372036854775807
theorem g5B_kind {g : List Thing} {i : Nat} {t : Thing} (h : g[i]? = some t) (hb : g5B g i = true) : 0 ≤ t.kind := by
  rcases Nat.eq_zero_or_pos i with rfl | h0
  · rw [g5B_zero h] at hb
    simp only [Bool.and_eq_true, decide_eq_true_eq] at hb
    omega
  · rw [g5B_get h h0] at hb
    simp only [gpart, Bool.and_eq_true, Bool.or_eq_true, decide_eq_true_eq] at hb
    omega
set_option maxHeartbeats 0 in
theorem ref05_Right (g : List Thing) (H : Heap) (hl : g.length ≤ 1000000) (hw : TW g) : AC Tryz.prog 55 [.pl (g.map eThing)] H (Ret (.bool (gright g)) H) := by
  refine AC.body (N := 101) [.tmp 2] Tryz.func55 rfl rfl rfl (Nat.le_of_ble_eq_true rfl) fun B hB => ?_
  refine Zh ?_
  refine aw_out 13 (.bool (decide (g.length = 0) || decide (256 < g.length))) ?_ ?_
  · refine Z6t ?_
    refine Z3n ?_
    refine ao_split rfl rfl (fun hg3 => ?_) (fun hg3 => ?_)
    · refine Z3j ?_
      exact Zb9
    · refine Z9r ?_
      refine Z3a ?_
      refine Zn ?_
      exact Zb9
  refine Z1 ?_
  refine aw_cond rfl (fun hc => ?_) (fun hc => ?_)
  · rw [show gright g = false by
      rw [gright]
      rw [Bool.or_eq_true, decide_eq_true_eq, decide_eq_true_eq] at hc
      rcases hc with h | h
      · rw [decide_eq_false (by omega)]; rfl
      · rw [decide_eq_false (show ¬ g.length ≤ 256 by omega), Bool.and_false]; rfl]
    exact Z4l
  have h1 : g.length ≠ 0 := by intro h; simp [h] at hc
  have h2 : g.length ≤ 256 := by
    rw [Bool.or_eq_false_iff, decide_eq_false_iff_not, decide_eq_false_iff_not] at hc
    omega
  clear hc
  rw [g5_all h1 h2]
  refine Z58 ?_
  refine aw_loop (G := Nat) (fun i => i ≤ g.length ∧ ∀ k, k < i → g5B g k = true) (fun i => [(0, .pl (g.map eThing)), (3, .int .i64 (i : Int))]) (fun _ => H ++ []) (fun i => g.length - i) 0 ⟨Nat.zero_le _, fun k hk => by omega⟩ (by repeat (first | exact Sub.nil | refine Sub.cons (by first | rfl | (simp [get]; done)) ?_)) (Fit.refl _ _) ?_
  rintro i ⟨hi, hno⟩
  refine Z6w ?_
  refine aw_cond rfl (fun hc => ?_) (fun hc => ?_)
  · have hlt : i < g.length := by simpa using hc
    obtain ⟨t, ht, htl⟩ := get_in hlt
    have hr := map_get eThing ht
    have hsz := hw t htl
    have hno0 := hno
    clear hno hc
    refine Zd2 ?_
    refine Z9t ?_
    refine Z9u ?_
    refine Z9v ?_
    refine Z6 ?_
    clear hr
    refine Z10 ?_
    refine Z16 ?_
    refine aw_cond rfl (fun hc => ?_) (fun hc => ?_)
    · have h0 : i = 0 := by simp at hc; omega
      subst h0
      have hB0 := g5B_zero ht
      clear hc ht htl hno0 hlt
      refine Z1 ?_
      refine aw_out 38 (.bool (!g5B g 0)) ?_ ?_
      · refine Z2w ?_
        refine Z2n ?_
        refine Zj ?_
        refine ao_split rfl rfl (fun hg3 => ?_) (fun hg3 => ?_)
        · refine Z3k ?_
          exact Zd3
        · refine Z2z ?_
          refine Zd4 ?_
          refine Z31 ?_
          refine ao_split rfl rfl (fun hg8 => ?_) (fun hg8 => ?_)
          · refine Z3j ?_
            exact Zd3
          · refine Z2x ?_
            refine Z3e ?_
            refine Zd5 ?_
            refine Zn ?_
            exact Zd3
      refine Z1 ?_
      refine aw_cond rfl (fun hc => ?_) (fun hc => ?_)
      · have hbad : g5B g 0 = false := by simpa only [Bool.not_eq_true'] using hc
        refine Zh ?_
        rw [allI_false (by omega) hbad]
        exact Zd
      · have hgood : g5B g 0 = true := by simpa only [Bool.not_eq_false'] using hc
        refine Z2f ?_
        refine ⟨0 + 1, by omega, ⟨by omega, fun k hk => ?_⟩, (by repeat (first | exact Sub.nil | refine Sub.cons (by first | rfl | (simp [get]; done)) ?_)), Fit.loc hB (L := []) rfl (by repeat (first | exact EBel.nil | refine EBel.cons (by first | rfl | (simp [AV.bel, AV.bels, Lid]; done) | (simp [AV.bel, AV.bels, Lid]; omega)) ?_)) (fun o ho => by simp at ho)⟩
        obtain rfl : k = 0 := by omega
        exact hgood
    have h0 : 0 < i := by simp at hc; omega
    have hB2 := g5B_get ht h0
    clear hc ht htl
    refine Z1 ?_
    refine aw_out 63 (.bool (!(decide (0 ≤ t.up) && decide (t.up < (i : Int)) && tagok t.tag && (decide (t.tag = ⟨#[]⟩) || decide (t.kind = 2))))) ?_ ?_
    · refine Z2w ?_
      refine Zv ?_
      refine ao_split rfl rfl (fun hg3 => ?_) (fun hg3 => ?_)
      · refine Z52 ?_
        refine Z4g ?_
        refine Z62 ?_
        refine Z35 ?_
        refine Z31 ?_
        refine Z4h ?_
        exact Zd6
      · refine Z2z ?_
        refine Zl ?_
        refine Z23 ?_
        refine Z31 ?_
        refine ao_split rfl rfl (fun hg9 => ?_) (fun hg9 => ?_)
        · refine Z4g ?_
          refine Z62 ?_
          refine Z35 ?_
          refine Z31 ?_
          refine Z4h ?_
          exact Zd6
        · refine Z2x ?_
          refine Z3e ?_
          refine Zd5 ?_
          refine Z24 ?_
          refine ao_split rfl rfl (fun hg13 => ?_) (fun hg13 => ?_)
          · refine Z2z ?_
            refine Zd4 ?_
            refine Z99 ?_
            refine ao_split rfl rfl (fun hg19 => ?_) (fun hg19 => ?_)
            · refine Z4h ?_
              exact Zd6
            · refine Z2x ?_
              refine Z3e ?_
              refine Zd7 ?_
              refine Z26 ?_
              exact Zd6
          · refine Z1x ?_
            refine Z99 ?_
            refine Z2x ?_
            refine Z3e ?_
            refine Zd7 ?_
            refine Z26 ?_
            exact Zd6
    refine Z1 ?_
    refine aw_cond rfl (fun hc => ?_) (fun hc => ?_)
    · have hbad : g5B g i = false := by
        rw [Bool.not_eq_true'] at hc
        rw [hB2]
        revert hc
        generalize gpart t.kind (kindAt g t.up.toNat) = p
        cases decide (0 ≤ t.up) <;> cases decide (t.up < (i : Int)) <;> cases tagok t.tag <;> cases (decide (t.tag = ⟨#[]⟩) || decide (t.kind = 2)) <;> cases p <;> simp
      refine Zh ?_
      rw [allI_false hlt hbad]
      exact Zd
    have hgd : (decide (0 ≤ t.up) && decide (t.up < (i : Int)) && tagok t.tag && (decide (t.tag = ⟨#[]⟩) || decide (t.kind = 2))) = true := by simpa only [Bool.not_eq_false'] using hc
    have hup : 0 ≤ t.up ∧ t.up < (i : Int) := by
      simp only [Bool.and_eq_true, decide_eq_true_eq] at hgd
      exact hgd.1.1
    obtain ⟨u, hu, _⟩ := get_in (l := g) (k := t.up.toNat) (by omega)
    have hr1 := map_get eThing hu
    have hu0 := g5B_kind hu (hno0 t.up.toNat (by omega))
    have hk : kindAt g t.up.toNat = u.kind := by rw [kindAt, hu]
    have hB3 : g5B g i = gpart t.kind u.kind := by
      rw [hB2, hk]
      revert hgd
      generalize gpart t.kind u.kind = p
      cases decide (0 ≤ t.up) <;> cases decide (t.up < (i : Int)) <;> cases tagok t.tag <;> cases (decide (t.tag = ⟨#[]⟩) || decide (t.kind = 2)) <;> cases p <;> simp
    clear hc hgd hB2 hu hk hsz
    refine Z8c ?_
    refine Z2w ?_
    refine ao1 (by decide) (w_indexAddrp rfl rfl hup.1 hr1 rfl) ?_
    refine Z2u ?_
    refine Zbf ?_
    refine Z3 ?_
    refine Z6 ?_
    clear hr1
    refine Z1 ?_
    refine aw_out 100 (.bool (!g5B g i)) ?_ ?_
    · refine Z3o ?_
      refine ao_split rfl rfl (fun hg3 => ?_) (fun hg3 => ?_)
      · refine Z65 ?_
        refine Z31 ?_
        refine ao_split rfl rfl (fun hg7 => ?_) (fun hg7 => ?_)
        · refine Z4g ?_
          refine Z2b ?_
          refine Z35 ?_
          refine Z31 ?_
          refine Z4g ?_
          refine Z62 ?_
          refine Z9d ?_
          exact Zd8
        · refine Z61 ?_
          refine ao_split rfl rfl (fun hg11 => ?_) (fun hg11 => ?_)
          · refine Zl ?_
            refine Zm ?_
            refine Z99 ?_
            refine ao_split rfl rfl (fun hg16 => ?_) (fun hg16 => ?_)
            · refine Z4g ?_
              refine Z62 ?_
              refine Z9d ?_
              exact Zd8
            · refine Z61 ?_
              refine ao_split rfl rfl (fun hg20 => ?_) (fun hg20 => ?_)
              · refine Z37 ?_
                refine Z9g ?_
                exact Zda
              · refine Z3q ?_
                refine Z9g ?_
                refine ao_split rfl rfl (fun hg25 => ?_) (fun hg25 => ?_)
                · exact Zda
                · refine Zs ?_
                  exact Zd9
          · refine Zs ?_
            refine Z99 ?_
            refine Z61 ?_
            refine ao_split rfl rfl (fun hg20 => ?_) (fun hg20 => ?_)
            · refine Z37 ?_
              refine Z9g ?_
              exact Zda
            · refine Z3q ?_
              refine Z9g ?_
              refine ao_split rfl rfl (fun hg25 => ?_) (fun hg25 => ?_)
              · exact Zda
              · refine Zs ?_
                exact Zd9
      · refine Zs ?_
        refine Z31 ?_
        refine Z61 ?_
        refine ao_split rfl rfl (fun hg11 => ?_) (fun hg11 => ?_)
        · refine Zl ?_
          refine Zm ?_
          refine Z99 ?_
          refine ao_split rfl rfl (fun hg16 => ?_) (fun hg16 => ?_)
          · refine Z4g ?_
            refine Z62 ?_
            refine Z9d ?_
            exact Zd8
          · refine Z61 ?_
            refine ao_split rfl rfl (fun hg20 => ?_) (fun hg20 => ?_)
            · refine Z37 ?_
              refine Z9g ?_
              exact Zda
            · refine Z3q ?_
              refine Z9g ?_
              refine ao_split rfl rfl (fun hg25 => ?_) (fun hg25 => ?_)
              · exact Zda
              · refine Zs ?_
                exact Zd9
        · refine Zs ?_
          refine Z99 ?_
          refine Z61 ?_
          refine ao_split rfl rfl (fun hg20 => ?_) (fun hg20 => ?_)
          · refine Z37 ?_
            refine Z9g ?_
            exact Zda
          · refine Z3q ?_
            refine Z9g ?_
            refine ao_split rfl rfl (fun hg25 => ?_) (fun hg25 => ?_)
            · exact Zda
            · refine Zs ?_
              exact Zd9
    refine Z1 ?_
    refine aw_cond rfl (fun hc => ?_) (fun hc => ?_)
    · have hbad : g5B g i = false := by simpa only [Bool.not_eq_true'] using hc
      refine Zh ?_
      rw [allI_false hlt hbad]
      exact Zd
    · have hgood : g5B g i = true := by simpa only [Bool.not_eq_false'] using hc
      refine Z2f ?_
      refine ⟨i + 1, by omega, ⟨by omega, fun k hk => ?_⟩, (by repeat (first | exact Sub.nil | refine Sub.cons (by first | rfl | (simp [get]; done)) ?_)), Fit.loc hB (L := []) rfl (by repeat (first | exact EBel.nil | refine EBel.cons (by first | rfl | (simp [AV.bel, AV.bels, Lid]; done) | (simp [AV.bel, AV.bels, Lid]; omega)) ?_)) (fun o ho => by simp at ho)⟩
      rcases Nat.lt_or_eq_of_le (Nat.le_of_lt_succ hk) with h | h
      · exact hno0 k h
      · subst h; exact hgood
  · have : i = g.length := by simp at hc; omega
    subst this
    refine Zh ?_
    rw [allI_true hno]
    exact Zd
theorem hb_step {l : List Int} {k : Nat} {x : Int} (hx : l[k]? = some x) (hno : (l.take k).any (fun n => decide (n < 0) || decide (2 < n)) = false) : (l.take (k + 1)).any (fun n => decide (n < 0) || decide (2 < n)) = (decide (x < 0) || decide (2 < x)) := by
  rw [take_snoc_get hx, List.any_append, hno]; simp
set_option maxHeartbeats 0 in
theorem ref06_Right (g : List Thing) (h : List Int) (H : Heap) (hl : g.length ≤ 1000000) (hh : h.length ≤ 1000000) (hw : TW g) : AC Tryz.prog 92 [.pl (g.map eThing), .pl (h.map eI)] H (Ret (.bool (hright g h)) H) := by
  refine AC.body (N := 40) [.tmp 4] Tryz.func92 rfl rfl rfl (Nat.le_of_ble_eq_true rfl) fun B hB => ?_
  refine Z1p ?_
  refine Z1d ?_
  refine aw_loop (G := Nat) (fun k => k ≤ h.length ∧ (h.take k).any (fun n => decide (n < 0) || decide (2 < n)) = false) (fun k => [(0, .pl (g.map eThing)), (1, .pl (h.map eI)), (5, .int .i64 (k : Int))]) (fun _ => H ++ []) (fun k => h.length - k) 0 ⟨Nat.zero_le _, rfl⟩ (by repeat (first | exact Sub.nil | refine Sub.cons (by first | rfl | (simp [get]; done)) ?_)) (Fit.refl _ _) ?_
  rintro k ⟨hk, hno⟩
  refine Z6w ?_
  refine aw_cond rfl (fun hc => ?_) (fun hc => ?_)
  · have hlt : k < h.length := by simpa using hc
    obtain ⟨x, hx, hxl⟩ := get_in hlt
    have hr := map_get eI hx
    have hst := hb_step hx hno
    refine Z1 ?_
    refine aw_out 30 (.bool (decide (x < 0) || decide (2 < x))) ?_ ?_
    · refine Z98 ?_
      refine Z4f ?_
      refine Z2n ?_
      refine Zj ?_
      refine ao_split rfl rfl (fun hg5 => ?_) (fun hg5 => ?_)
      · refine Z95 ?_
        refine Zl ?_
        refine Zdb ?_
        refine Z2y ?_
        refine Zd4 ?_
        refine Z31 ?_
        refine ao_split rfl rfl (fun hg12 => ?_) (fun hg12 => ?_)
        · refine Z95 ?_
          refine Zl ?_
          refine Zdb ?_
          refine Z2y ?_
          refine Zd4 ?_
          refine Zn ?_
          exact Zdc
        · refine Zs ?_
          refine Z1x ?_
          refine Zn ?_
          exact Zdc
      · refine Zs ?_
        refine Z50 ?_
        refine Z1x ?_
        refine Zn ?_
        exact Zdc
    refine Z1 ?_
    refine aw_cond rfl (fun hc => ?_) (fun hc => ?_)
    · refine Zh ?_
      rw [show hright g h = false by
        have : h.any (fun n => decide (n < 0) || decide (2 < n)) = true := List.any_eq_true.2 ⟨x, hxl, hc⟩
        rw [hright, this]; simp]
      exact Zd
    · refine Z2f ?_
      exact ⟨k + 1, by omega, ⟨by omega, by rw [hst]; exact hc⟩, (by repeat (first | exact Sub.nil | refine Sub.cons (by first | rfl | (simp [get]; done)) ?_)), .refl _ _⟩
  · have : k = h.length := by simp at hc; omega
    subst this
    rw [List.take_length] at hno
    rw [show hright g h = (gright g && decide (h.length = g.length)) by rw [hright, hno]; simp]
    refine Z1 ?_
    refine aw_out 4 (.bool (gright g && decide (h.length = g.length))) ?_ ?_
    · refine Z45 ?_
      refine ao_ret (ref05_Right _ _ (by omega) (by assumption)) rfl (by decide) ?_
      refine Zj ?_
      refine ao_split rfl rfl (fun hg2 => ?_) (fun hg2 => ?_)
      · refine Z9r ?_
        refine Zbi ?_
        refine Zo ?_
        exact Zdd
      · refine Z4o ?_
        exact Zdd
    exact Z1z
structure BN where
  b : Int
  n : Int
set_option maxHeartbeats 0 in
theorem ref06_worst (g : List Thing) (h : List Int) (n : Nat) (H : Heap) (hh : hright g h = true) (hn : n < g.length) : AC Tryz.prog 99 [.pl (g.map eThing), .pl (h.map eI), .int .i64 (n : Int)] H (Ret (.int .i64 (wW g h n)) H) := by
  have hg := (hright_parts hh).1
  have hlen := (hright_parts hh).2.1
  have hg256 := (gright_len hg).2
  have hw0 := wW_nn hh n hn
  refine AC.body (N := 26) [.tmp 6] Tryz.func99 rfl rfl rfl (Nat.le_of_ble_eq_true rfl) fun B hB => ?_
  refine Z8 ?_
  refine Z1d ?_
  refine aw_loop (G := BN) (fun s => 0 ≤ s.b ∧ -1 ≤ s.n ∧ s.n < (g.length : Int) ∧ max s.b (wUp g h s.n) = wW g h n) (fun s => [(0, .pl (g.map eThing)), (1, .pl (h.map eI)), (2, .int .i64 s.n), (7, .int .i64 s.b)]) (fun _ => H ++ []) (fun s => (s.n + 1).toNat) ⟨0, (n : Int)⟩ ⟨Int.le_refl _, by simp only; omega, by simp only; omega, by simp only [wUp]; rw [if_pos (by omega), Int.toNat_natCast]; omega⟩ (by repeat (first | exact Sub.nil | refine Sub.cons (by first | rfl | (simp [get]; done)) ?_)) (Fit.refl _ _) ?_
  rintro ⟨b, m⟩ ⟨i1, i2, i3, i4⟩
  simp only at i1 i2 i3 i4 ⊢
  refine Z10 ?_
  refine Z1q ?_
  refine Zb ?_
  refine aw_cond rfl (fun hc => ?_) (fun hc => ?_)
  · have hm : 0 ≤ m := by simpa using hc
    obtain ⟨k, rfl⟩ : ∃ k : Nat, m = (k : Int) := ⟨m.toNat, by omega⟩
    obtain ⟨t, ht, htl⟩ := get_in (l := g) (k := k) (by omega)
    obtain ⟨x, hx, hxl⟩ := get_in (l := h) (k := k) (by omega)
    have hr := map_get eThing ht
    have hr2 := map_get eI hx
    have hup := gright_up hg ht
    have hst := wUp_step hh ht i1
    rw [show h.getD k 0 = x by rw [List.getD_eq_getElem?_getD, hx]; rfl] at hst
    clear hc
    refine Z8d ?_
    refine Zde ?_
    refine Zdf ?_
    refine Za ?_
    refine Z2k ?_
    refine aw_cond rfl (fun hc => ?_) (fun hc => ?_)
    · have hlt : b < x := by simpa using hc
      refine Z8d ?_
      refine Zde ?_
      refine Zdf ?_
      refine Z1a ?_
      refine Z98 ?_
      refine Zdg ?_
      refine Z2u ?_
      refine Zdh ?_
      refine Zc ?_
      exact ⟨⟨x, t.up⟩, by simp only; omega, ⟨by simp only; omega, by simp only; omega, by simp only; omega, by simp only; rw [← i4, ← hst]; congr 1; omega⟩, (by repeat (first | exact Sub.nil | refine Sub.cons (by first | rfl | (simp [get]; done)) ?_)), .refl _ _⟩
    · have hlt : ¬ b < x := by simpa using hc
      refine Z8d ?_
      refine Zdg ?_
      refine Z2u ?_
      refine Zdh ?_
      refine Zc ?_
      exact ⟨⟨b, t.up⟩, by simp only; omega, ⟨i1, by simp only; omega, by simp only; omega, by simp only; rw [← i4, ← hst]; congr 1; omega⟩, (by repeat (first | exact Sub.nil | refine Sub.cons (by first | rfl | (simp [get]; done)) ?_)), .refl _ _⟩
  · have hm : m < 0 := by simpa using hc
    have hb : b = wW g h n := by rw [wUp, if_neg (by omega)] at i4; omega
    subst hb
    refine Z10 ?_
    exact Ze
set_option maxHeartbeats 0 in
theorem ref06_Worst (g : List Thing) (h : List Int) (n : Nat) (H : Heap) (hh : hright g h = true) (hn : n < g.length) (hw : TW g) : AC Tryz.prog 47 [.pl (g.map eThing), .pl (h.map eI), .int .i64 (n : Int)] H (Ret (.int .i64 (wW g h n)) H) := by
  have hlen := (hright_parts hh).2.1
  have hg256 := (gright_len (hright_parts hh).1).2
  refine AC.body (N := 25) [.tmp 6] Tryz.func47 rfl rfl rfl (Nat.le_of_ble_eq_true rfl) fun B hB => ?_
  refine Zz ?_
  refine aw_out 20 (.bool false) ?_ ?_
  · refine Z7m ?_
    refine Zdi ?_
    refine Z22 ?_
    refine ao_split rfl rfl (fun hg4 => ?_) (fun hg4 => ?_)
    · refine Z6e ?_
      refine Z4h ?_
      exact Zb9
    · refine Zl ?_
      refine Z3l ?_
      refine ao_split rfl rfl (fun hg8 => ?_) (fun hg8 => ?_)
      · refine Z4h ?_
        exact Zb9
      · refine Zl ?_
        refine Z9r ?_
        refine Z23 ?_
        refine Zn ?_
        exact Zb9
  refine Z1 ?_
  refine aw_cond rfl (fun hc => ?_) (fun hc => ?_)
  · cases hc
  refine Z8c ?_
  refine Z98 ?_
  refine ao_ret (ref06_worst _ _ _ _ (by assumption) (by assumption)) rfl (by decide) ?_
  exact Ze
theorem touch_lt {a b : List Int} {x y : Int} {k : Nat} (hb : b.Pairwise (· < ·)) (hx : x ∈ a) (hy : b[k]? = some y) (hlt : x < y) (hno : ∀ z ∈ b.take k, z ∉ a) : x ∉ b := by
  intro hxb
  obtain ⟨j, hj⟩ := List.mem_iff_getElem?.1 hxb
  obtain ⟨h1, h2⟩ := List.getElem?_eq_some_iff.1 hj
  obtain ⟨h3, h4⟩ := List.getElem?_eq_some_iff.1 hy
  rcases Nat.lt_trichotomy j k with h | h | h
  · exact hno x (List.mem_iff_getElem?.2 ⟨j, by rw [List.getElem?_take, if_pos h]; exact hj⟩) hx
  · subst h; rw [hj] at hy; cases hy; omega
  · have := List.pairwise_iff_getElem.1 hb k j h3 h1 h
    omega
theorem touch_no {a b : List Int} (h : ∀ x ∈ a, x ∉ b) : touch a b = false := by
  rw [← Bool.not_eq_true, touch_iff]
  rintro ⟨x, h1, h2⟩
  exact h x h1 h2
set_option maxHeartbeats 0 in
theorem ref01_Touch (a b : List Int) (H : Heap) (ha : a.length ≤ 1000000) (hb : b.length ≤ 1000000) (sa : a.Pairwise (· < ·)) (sb : b.Pairwise (· < ·)) : AC Tryz.prog 181 [.pl (a.map eI), .pl (b.map eI)] H (Ret (.bool (touch a b)) H) := by
  refine AC.body (N := 39) [.tmp 4] Tryz.func181 rfl rfl rfl (Nat.le_of_ble_eq_true rfl) fun B hB => ?_
  refine Z1p ?_
  refine Z3 ?_
  refine Z1d ?_
  refine aw_loop (G := LH) (fun s => s.lo ≤ a.length ∧ s.hi ≤ b.length ∧ (∀ x ∈ a.take s.lo, x ∉ b) ∧ (∀ y ∈ b.take s.hi, y ∉ a)) (fun s => [(0, .pl (a.map eI)), (1, .pl (b.map eI)), (5, .int .i64 (s.lo : Int)), (6, .int .i64 (s.hi : Int))]) (fun _ => H ++ []) (fun s => (a.length - s.lo) + (b.length - s.hi)) ⟨0, 0⟩ ⟨Nat.zero_le _, Nat.zero_le _, by simp, by simp⟩ (by repeat (first | exact Sub.nil | refine Sub.cons (by first | rfl | (simp [get]; done)) ?_)) (Fit.refl _ _) ?_
  rintro ⟨i, k⟩ ⟨hi, hk, h1, h2⟩
  simp only at hi hk h1 h2 ⊢
  refine Z1 ?_
  refine aw_out 16 (.bool (decide (i < a.length) && decide (k < b.length))) ?_ ?_
  · refine Za ?_
    refine Z6t ?_
    refine Zv ?_
    refine ao_split rfl rfl (fun hg4 => ?_) (fun hg4 => ?_)
    · refine Zl ?_
      refine Z9r ?_
      refine Zm ?_
      refine Zn ?_
      exact Zdj
    · refine Z2c ?_
      exact Zdj
  refine Z1 ?_
  refine aw_cond rfl (fun hc => ?_) (fun hc => ?_)
  · rw [Bool.and_eq_true, decide_eq_true_eq, decide_eq_true_eq] at hc
    obtain ⟨hli, hlk⟩ := hc
    obtain ⟨x, hx, hxl⟩ := get_in hli
    obtain ⟨y, hy, hyl⟩ := get_in hlk
    have hr := map_get eI hx
    have hr2 := map_get eI hy
    refine Z1 ?_
    refine Z6z ?_
    refine Z70 ?_
    refine Z71 ?_
    refine Z1m ?_
    refine Zdk ?_
    refine Zdl ?_
    refine aq0 8 rfl (by decide +kernel) (by decide) (fun _ => o_eq rfl rfl) ?_
    refine Z1l ?_
    refine aw_cond rfl (fun hc => ?_) (fun hc => ?_)
    · have hxy : x = y := by simpa using hc
      subst hxy
      refine Zh ?_
      rw [show touch a b = true from touch_iff.2 ⟨x, hxl, hyl⟩]
      exact Zd
    have hne : x ≠ y := by simpa using hc
    clear hc
    refine Z1 ?_
    refine Z6z ?_
    refine Z70 ?_
    refine Z71 ?_
    refine Z1m ?_
    refine Zdk ?_
    refine Zdl ?_
    refine aq0 8 rfl (by decide +kernel) (by decide) (fun _ => o_lt rfl rfl) ?_
    refine Z1l ?_
    refine aw_cond rfl (fun hc => ?_) (fun hc => ?_)
    · have hlt : x < y := by simpa using hc
      have hnb := touch_lt sb hxl hy hlt h2
      refine Z2f ?_
      refine ⟨⟨i + 1, k⟩, by simp only; omega, ⟨by simp only; omega, hk, fun z hz => ?_, h2⟩, (by repeat (first | exact Sub.nil | refine Sub.cons (by first | rfl | (simp [get]; done)) ?_)), .refl _ _⟩
      simp only [take_snoc_get hx] at hz
      rcases List.mem_append.1 hz with h | h
      · exact h1 z h
      · simp only [List.mem_singleton] at h; subst h; exact hnb
    · have hlt : y < x := by have : ¬ x < y := by simpa using hc
                             omega
      have hna := touch_lt sa hyl hx hlt h1
      refine Z2f ?_
      refine ⟨⟨i, k + 1⟩, by simp only; omega, ⟨hi, by simp only; omega, h1, fun z hz => ?_⟩, (by repeat (first | exact Sub.nil | refine Sub.cons (by first | rfl | (simp [get]; done)) ?_)), .refl _ _⟩
      simp only [take_snoc_get hy] at hz
      rcases List.mem_append.1 hz with h | h
      · exact h2 z h
      · simp only [List.mem_singleton] at h; subst h; exact hna
  · have hno : touch a b = false := by
      rw [Bool.and_eq_false_iff, decide_eq_false_iff_not, decide_eq_false_iff_not] at hc
      rcases hc with h | h
      · obtain rfl : i = a.length := by omega
        rw [List.take_length] at h1
        exact touch_no h1
      · obtain rfl : k = b.length := by omega
        rw [List.take_length] at h2
        exact touch_no fun x hx hxb => h2 x hxb hx
    rw [hno]
    exact Z4l
theorem ref01_Has (a : List Int) (n : Nat) (H : Heap) (ha : a.length ≤ 1000000) : AC Tryz.prog 46 [.pl (a.map eI), .int .i64 (n : Int)] H (Ret (.bool (sok a && inl a n)) H) := by
  refine AC.body (N := 12) [.tmp 4] Tryz.func46 rfl rfl rfl (Nat.le_of_ble_eq_true rfl) fun B hB => ?_
  refine Zh ?_
  refine aw_out 4 (.bool (sok a && inl a n)) ?_ ?_
  · refine Z45 ?_
    refine Zdm ?_
    refine Zj ?_
    refine ao_split rfl rfl (fun hg2 => ?_) (fun hg2 => ?_)
    · refine Z95 ?_
      refine Zl ?_
      refine ao_y rfl rfl (by decide) (V2.call (ref01_in _ _ (by omega) _) rfl) ?_
      refine Zo ?_
      exact Zdn
    · refine Z1y ?_
      exact Zdn
  exact Z1z
set_option maxHeartbeats 0 in
theorem ref02_Meets (a b c d : Int) (H : Heap) : AC Tryz.prog 120 [.int .i64 a, .int .i64 b, .int .i64 c, .int .i64 d] H (Ret (.bool (meets a b c d)) H) := by
  refine AC.body (N := 33) [.tmp 8] Tryz.func120 rfl rfl rfl (Nat.le_of_ble_eq_true rfl) fun B hB => ?_
  refine Z1s ?_
  refine Z15 ?_
  refine Za ?_
  refine Z2k ?_
  refine aw_cond rfl (fun hc => ?_) (fun hc => ?_)
  · have h1 : a < c := by simpa using hc
    rw [show meets a b c d = (decide (c ≥ a) && decide (c < b) && decide (c ≥ c) && decide (c < d)) by rw [meets, Bool.eq_iff_iff]; simp only [Bool.and_eq_true, decide_eq_true_eq]; omega]
    clear hc
    refine Z1u ?_
    refine aw_out 8 (.bool (decide (c ≥ a) && decide (c < b) && decide (c ≥ c) && decide (c < d))) ?_ ?_
    · refine Z2r ?_
      refine Z20 ?_
      refine ao_split rfl rfl (fun hg3 => ?_) (fun hg3 => ?_)
      · refine Z2s ?_
        refine Z3l ?_
        refine ao_split rfl rfl (fun hg8 => ?_) (fun hg8 => ?_)
        · refine Z2s ?_
          refine Z23 ?_
          refine Z31 ?_
          refine ao_split rfl rfl (fun hg13 => ?_) (fun hg13 => ?_)
          · refine Z2s ?_
            refine Zm ?_
            refine Zo ?_
            exact Zb9
          · refine Z1y ?_
            exact Zb9
        · exact Zdo
      · refine Z33 ?_
        exact Zdo
    exact Z1z
  · have h1 : ¬ a < c := by simpa using hc
    rw [show meets a b c d = (decide (a ≥ a) && decide (a < b) && decide (a ≥ c) && decide (a < d)) by rw [meets, Bool.eq_iff_iff]; simp only [Bool.and_eq_true, decide_eq_true_eq]; omega]
    clear hc
    refine Z1 ?_
    refine aw_out 8 (.bool (decide (a ≥ a) && decide (a < b) && decide (a ≥ c) && decide (a < d))) ?_ ?_
    · refine Z2r ?_
      refine Z20 ?_
      refine ao_split rfl rfl (fun hg3 => ?_) (fun hg3 => ?_)
      · refine Z2s ?_
        refine Z3l ?_
        refine ao_split rfl rfl (fun hg8 => ?_) (fun hg8 => ?_)
        · refine Z2s ?_
          refine Z23 ?_
          refine Z31 ?_
          refine ao_split rfl rfl (fun hg13 => ?_) (fun hg13 => ?_)
          · refine Z2s ?_
            refine Zm ?_
            refine Zo ?_
            exact Zb9
          · refine Z1y ?_
            exact Zb9
        · exact Zdo
      · refine Z33 ?_
        exact Zdo
    exact Z1z
end Go.Av

namespace Go.Av
open Go.Proofs
set_option maxRecDepth 10000
set_option linter.unusedSimpArgs false
set_option linter.unusedVariables false

theorem held_find_1 (x : Held) (id : Int) (H : Heap) : AC Tryz.prog 192 [.agg (eHeld x), .int .i64 id] H (Ret (.int .i64 (cmpI x.id id)) H) := by
  refine AC.body (N := 9) [.tmp 4] Tryz.func192 rfl rfl rfl (Nat.le_of_ble_eq_true rfl) fun B hB => ?_
  refine Zbo ?_
  refine Z1a ?_
  refine Z2w ?_
  refine Za ?_
  refine Zdp ?_
  exact Ze
set_option maxHeartbeats 0 in
theorem held_search (l : List Held) (id : Int) (H : Heap) (hl : l.length ≤ 1000000) (hs : l.Pairwise (fun a b => a.id < b.id)) :
    AC Tryz.prog 191 [.pl (l.map eHeld), .int .i64 id, .fn (.func 192) [] []] H (Ret (.tup [.int .i64 (heldPos l id : Int), .bool (heldHit l id)]) H) := by
  have hle := kpos_le (f := Held.id) l id
  refine AC.body (N := 49) [.tmp 6, .tmp 7] Tryz.func191 rfl rfl rfl (Nat.le_of_ble_eq_true rfl) fun B hB => ?_
  refine Z4 ?_
  refine Z1o ?_
  refine Z6t ?_
  refine Z15 ?_
  refine Z3 ?_
  refine Z1d ?_
  refine aw_loop (G := LH) (fun g => g.lo ≤ kpos Held.id l id ∧ kpos Held.id l id ≤ g.hi ∧ g.hi ≤ l.length) (fun g => [(0, .pl (l.map eHeld)), (1, .int .i64 id), (2, .fn (.func 192) [] []), (8, .int .i64 ((l.map eHeld).length : Int)), (9, .int .i64 (g.lo : Int)), (10, .int .i64 (g.hi : Int))]) (fun _ => H ++ []) (fun g => g.hi - g.lo) ⟨0, (l.map eHeld).length⟩ ⟨Nat.zero_le _, by simp only [List.length_map]; exact hle, by simp⟩ (by repeat (first | exact Sub.nil | refine Sub.cons (by first | rfl | (simp [get]; done)) ?_)) (Fit.refl _ _) ?_
  rintro ⟨lo, hi⟩ ⟨i1, i2, i3⟩
  simp only at i1 i2 i3 ⊢
  refine Z2q ?_
  refine Z1e ?_
  refine aw_cond rfl (fun hc => ?_) (fun hc => ?_)
  · have hlt : lo < hi := by simpa using hc
    obtain ⟨x, hx, hxl⟩ := get_in (l := l) (k := (lo + hi) / 2) (by omega)
    have hr := map_get eHeld hx
    refine Z2q ?_
    refine Zdq ?_
    refine Zdr ?_
    refine Zds ?_
    refine Zdt ?_
    refine Z1a ?_
    refine Z1t ?_
    refine Z98 ?_
    refine Z4e ?_
    refine Z76 ?_
    refine Za ?_
    refine ao_retv (held_find_1 x id _) rfl rfl (by decide) ?_
    refine Z1e ?_
    refine aw_cond rfl (fun hc => ?_) (fun hc => ?_)
    · have hk : x.id < id := by simp only [decide_eq_true_eq] at hc; unfold cmpI at hc; split at hc <;> first | assumption | (split at hc <;> omega)
      have hp : (lo + hi) / 2 + 1 ≤ kpos Held.id l id := by
        rcases Nat.lt_or_ge ((lo + hi) / 2) (kpos Held.id l id) with h | h
        · omega
        · have := kpos_ge hs h hx; omega
      refine Z10 ?_
      refine Zdu ?_
      refine Zc ?_
      exact ⟨⟨(lo + hi) / 2 + 1, hi⟩, by simp only; omega, ⟨hp, i2, i3⟩, (by repeat (first | exact Sub.nil | refine Sub.cons (by first | rfl | (simp [get]; done)) ?_)), .refl _ _⟩
    · have hk : id ≤ x.id := by simp only [decide_eq_false_iff_not] at hc; unfold cmpI at hc; split at hc <;> first | (exfalso; exact hc (by decide)) | omega
      have hp : kpos Held.id l id ≤ (lo + hi) / 2 := by
        rcases Nat.lt_or_ge ((lo + hi) / 2) (kpos Held.id l id) with h | h
        · have := kpos_lt (f := Held.id) h hx; omega
        · exact h
      refine Z1u ?_
      exact ⟨⟨lo, (lo + hi) / 2⟩, by simp only; omega, ⟨i1, hp, by simp only; omega⟩, (by repeat (first | exact Sub.nil | refine Sub.cons (by first | rfl | (simp [get]; done)) ?_)), .refl _ _⟩
  · have hlt : ¬ lo < hi := by simpa using hc
    obtain rfl : lo = kpos Held.id l id := by omega
    have hml : (l.map eHeld).length = l.length := by simp
    clear hc
    refine Z1 ?_
    refine aw_joinQ ([(6, .int .i64 (heldPos l id : Int)), (7, .bool (heldHit l id))]) (H ++ []) ?_ ?_
    · by_cases hn : kpos Held.id l id < l.length
      · obtain ⟨x, hx, hxl⟩ := get_in hn
        have hr := map_get eHeld hx
        have hh : heldHit l id = (cmpI x.id id == 0) := by
          rw [heldHit, show heldPos l id = kpos Held.id l id from rfl, decide_eq_true hn, Bool.true_and, heldId_get hx, Bool.eq_iff_iff]
          unfold cmpI
          simp only [decide_eq_true_eq, beq_iff_eq]
          split
          · omega
          · split <;> omega
        refine Z2q ?_
        refine Zw ?_
        refine ao_split rfl rfl (fun hg4 => ?_) (fun hg4 => ?_)
        · refine Zdv ?_
          refine Z95 ?_
          refine Zl ?_
          refine Zdb ?_
          first | refine ao_y1 rfl rfl (by decide) (w_loadR rfl (lk rfl rfl) rfl rfl rfl) ?_ | refine ao_y1 rfl rfl (by decide) (w_loadR rfl (lk rfl rfl) rfl (zadd hr) rfl) ?_ | refine ao_y1 rfl rfl (by decide) (w_loadR rfl (lk rfl rfl) rfl (zadd hr1) rfl) ?_ | refine ao_y1 rfl rfl (by decide) (w_loadR rfl (lk rfl rfl) rfl (zadd hr2) rfl) ?_ | refine ao_y1 rfl rfl (by decide) (w_loadRp rfl hr rfl) ?_ | refine ao_y1 rfl rfl (by decide) (w_loadRp rfl hr1 rfl) ?_ | refine ao_y1 rfl rfl (by decide) (w_loadRp rfl hr2 rfl) ?_ | refine ao_y1 rfl rfl (by decide) (w_loadN (cs := [_, _, _, _]) rfl (lk rfl rfl) rfl rfl rfl rfl) ?_ | refine ao_y1 rfl rfl (by decide) (o_loadNp (cs := [_, _, _, _]) rfl hr rfl rfl) ?_ | refine ao_y1 rfl rfl (by decide) (o_loadNp (cs := [_, _, _, _]) rfl hr1 rfl rfl) ?_ | refine ao_y1 rfl rfl (by decide) (o_loadNp (cs := [_, _, _, _]) rfl hr2 rfl rfl) ?_ | refine ao_y1 rfl rfl (by decide) (w_loadR rfl (lkF hF) rfl rfl rfl) ?_ | refine ao_y1 rfl rfl (by decide) (w_loadN (cs := [_, _, _, _]) rfl (lkF hF) rfl rfl rfl rfl) ?_
          refine Zl ?_
          refine ao_y rfl rfl (by decide) (V2.callv (held_find_1 x id _) rfl rfl) ?_
          refine Z3p ?_
          refine Zn ?_
          refine Zdx ?_
          (first | (exfalso; simp at hg4; omega) | exact join_nrm (by rw [hh]; exact (by repeat (first | exact Sub.nil | refine Sub.cons (by first | rfl | (simp [get]; done)) ?_))) (.inl rfl))
        · refine Z29 ?_
          refine Z2c ?_
          refine Zdx ?_
          (first | (exfalso; simp at hg4; omega) | exact join_nrm (by rw [hh]; exact (by repeat (first | exact Sub.nil | refine Sub.cons (by first | rfl | (simp [get]; done)) ?_))) (.inl rfl))
      · have hh : heldHit l id = false := by rw [heldHit, show heldPos l id = kpos Held.id l id from rfl, decide_eq_false hn, Bool.false_and]
        refine Z2q ?_
        refine Zw ?_
        refine ao_split rfl rfl (fun hg4 => ?_) (fun hg4 => ?_)
        · exfalso; simp at hg4; omega
        · refine Z29 ?_
          refine Z2c ?_
          refine Zdx ?_
          (exact join_nrm (by rw [hh]; exact (by repeat (first | exact Sub.nil | refine Sub.cons (by first | rfl | (simp [get]; done)) ?_))) (.inl rfl))
    refine Z1 ?_
    exact Z68
theorem held_find (l : List Held) (id : Int) (H : Heap) (hl : l.length ≤ 1000000) (hs : l.Pairwise (fun a b => a.id < b.id)) : AC Tryz.prog 167 [.pl (l.map eHeld), .int .i64 id] H (Ret (.tup [.int .i64 (heldPos l id : Int), .bool (heldHit l id)]) H) := by
  refine AC.body (N := 11) [.tmp 4, .tmp 5] Tryz.func167 rfl rfl rfl (Nat.le_of_ble_eq_true rfl) fun B hB => ?_
  refine Z4 ?_
  refine Z1o ?_
  refine Z98 ?_
  refine ao_ret (held_search _ _ _ (by omega) (by assumption)) rfl (by decide) ?_
  refine Z6p ?_
  refine Zg ?_
  exact Z68
theorem held_copied (h : Held) (H : Heap) (hw : h.things.length ≤ 1000000) : AC Tryz.prog 168 [.agg (eHeld h)] H (Ret (.agg (eHeld h)) H) := by
  refine AC.body (N := 8) [.cell 2 60] Tryz.func168 rfl rfl rfl (Nat.le_of_ble_eq_true rfl) fun B hB => ?_
  refine Zbo ?_
  refine Z75 ?_
  refine Z7 ?_
  refine Z4a ?_
  refine Z6c ?_
  refine Z2u ?_
  first | refine ao2 (by rintro _ ⟨⟩) (w_storeP (sz := 1) (v := .sl _ _ _ _ _) (r' := [_, _, _, _]) rfl rfl rfl rfl rfl rfl rfl rfl (Nat.le_of_ble_eq_true rfl) rfl) ?_ | refine ao2 (by rintro _ ⟨⟩) (w_storeP (sz := 1) (v := .pl _) (r' := [_, _, _, _]) rfl rfl rfl rfl rfl rfl rfl rfl (Nat.le_of_ble_eq_true rfl) rfl) ?_ | refine ao2 (by rintro _ ⟨⟩) (w_storeP (sz := 1) (v := .nsl) (r' := [_, _, _, _]) rfl rfl rfl rfl rfl rfl rfl rfl (Nat.le_of_ble_eq_true rfl) rfl) ?_ | refine ao2 (by rintro _ ⟨⟩) (w_storeFP (sz := 1) (v := .sl _ _ _ _ _) (r' := [_, _, _, _]) rfl hF rfl rfl rfl rfl rfl (Nat.le_of_ble_eq_true rfl) rfl) ?_ | refine ao2 (by rintro _ ⟨⟩) (w_storeFP (sz := 1) (v := .sl _ _ _ _ _) (r' := [_, _, _, _]) rfl hF1 rfl rfl rfl rfl rfl (Nat.le_of_ble_eq_true rfl) rfl) ?_ | refine ao2 (by rintro _ ⟨⟩) (w_storeFP (sz := 1) (v := .pl _) (r' := [_, _, _, _]) rfl hF rfl rfl rfl rfl rfl (Nat.le_of_ble_eq_true rfl) rfl) ?_ | refine ao2 (by rintro _ ⟨⟩) (w_storeFP (sz := 1) (v := .pl _) (r' := [_, _, _, _]) rfl hF1 rfl rfl rfl rfl rfl (Nat.le_of_ble_eq_true rfl) rfl) ?_ | refine ao2 (by rintro _ ⟨⟩) (w_storeFP (sz := 1) (v := .nsl) (r' := [_, _, _, _]) rfl hF rfl rfl rfl rfl rfl (Nat.le_of_ble_eq_true rfl) rfl) ?_ | refine ao2 (by rintro _ ⟨⟩) (w_storeFP (sz := 1) (v := .nsl) (r' := [_, _, _, _]) rfl hF1 rfl rfl rfl rfl rfl (Nat.le_of_ble_eq_true rfl) rfl) ?_
  refine Z7 ?_
  refine Z76 ?_
  refine Zbt ?_
  exact Zbe
theorem held_Get (l : List Held) (id : Int) (H : Heap) (hw : HW l) : AC Tryz.prog 129 [.pl (l.map eHeld), .int .i64 id] H (Ret (.tup [.agg (eHeld (heldGet l id).1), .bool (heldGet l id).2]) H) := by
  have hw1 := hw.1
  refine AC.body (N := 26) [.cell 4 60, .tmp 5] Tryz.func129 rfl rfl rfl (Nat.le_of_ble_eq_true rfl) fun B hB => ?_
  refine Z2 ?_
  refine Z75 ?_
  refine Z1o ?_
  refine Z45 ?_
  refine Zdy ?_
  refine Z3u ?_
  refine aw_cond rfl (fun hc => ?_) (fun hc => ?_)
  · have hno : heldR l = false := by simpa only [Bool.not_eq_true'] using hc
    rw [show heldGet l id = (held0, false) by rw [heldGet, hno]; rfl]
    refine Z2 ?_
    refine Zdz ?_
    refine Zbt ?_
    refine Zg ?_
    exact Z6k
  have hyes : heldR l = true := by simpa only [Bool.not_eq_false'] using hc
  have hs := heldR_sorted hyes
  refine Z8d ?_
  refine ao_ret (held_find _ _ _ (by omega) (by assumption)) rfl (by decide) ?_
  refine Z6m ?_
  refine Z6p ?_
  refine Z2p ?_
  refine Z3u ?_
  refine aw_cond rfl (fun hc => ?_) (fun hc => ?_)
  · have hno : heldHit l id = false := by simpa only [Bool.not_eq_true'] using hc
    rw [show heldGet l id = (held0, false) by rw [heldGet, hyes, hno]; rfl]
    refine Z2 ?_
    refine Zdz ?_
    refine Zbt ?_
    refine Zg ?_
    exact Z6k
  have hhit : heldHit l id = true := by simpa only [Bool.not_eq_false'] using hc
  have hn : heldPos l id < l.length := by simp only [heldHit, Bool.and_eq_true, decide_eq_true_eq] at hhit; exact hhit.1
  obtain ⟨x, hx, hxl⟩ := get_in hn
  have hr := map_get eHeld hx
  have hxw := hw.2 x hxl
  rw [show heldGet l id = (x, true) by rw [heldGet, hyes, hhit, heldAt_get hx]; rfl]
  refine Zd2 ?_
  refine Z76 ?_
  refine ao_ret (held_copied _ _ (by assumption)) rfl (by decide) ?_
  refine Zbt ?_
  refine Zg ?_
  exact Z6k
set_option maxHeartbeats 0 in
theorem held_Busy (l : List Held) (frm to : Int) (H : Heap) (hw : HW l) : ACT Tryz.prog KD 29 [.pl (l.map eHeld), .int .i64 frm, .int .i64 to] H (Ret (.pl ((heldBusy l frm to).map eInt)) H) := by
  have hw1 := hw.1
  refine ACT.body (N := 32) [.tmp 6] Tryz.func29 rfl rfl rfl (Nat.le_of_ble_eq_true rfl) fun B hB => ?_
  refine Z41 ?_
  refine Z89 ?_
  refine Z45 ?_
  refine Zdy ?_
  refine Z3u ?_
  refine aw_cond rfl (fun hc => ?_) (fun hc => ?_)
  · have hno : heldR l = false := by simpa only [Bool.not_eq_true'] using hc
    rw [show heldBusy l frm to = [] by rw [heldBusy, hno]; rfl]
    refine Z43 ?_
    refine aw_nslpl 6 rfl ?_
    exact aw_ret (e_done hB (r_tmp rfl .nil) rfl rfl)
  have hyes : heldR l = true := by simpa only [Bool.not_eq_false'] using hc
  rw [show heldBusy l frm to = busyL l frm to by rw [heldBusy, hyes]; rfl]
  refine Zb3 ?_
  refine aw_nslpl 7 rfl ?_
  refine aw_loop (G := Nat) (fun k => k ≤ l.length) (fun k => [(KT, KD.av), (1, .int .i64 frm), (2, .int .i64 to), (7, .pl ((busyL (l.take k) frm to).map eInt)), (13, .pl (l.map eHeld)), (14, .int .i64 (l.length : Int)), (15, .int .i64 (k : Int))]) (fun _ => H ++ []) (fun k => l.length - k) 0 (Nat.zero_le _) (by repeat (first | exact Sub.nil | refine Sub.cons (by first | rfl | (simp [get]; done)) ?_)) (Fit.refl _ _) ?_
  intro k hk
  refine Z4d ?_
  refine aw_cond rfl (fun hc => ?_) (fun hc => ?_)
  · have hlt : k < l.length := by simp at hc; omega
    obtain ⟨x, hx, hxl⟩ := get_in hlt
    have hr := map_get eHeld hx
    have hxw := hw.2 x hxl
    have hstep := busyL_step hx frm to
    have hbl := busyL_le (l.take k) frm to
    refine Z2 ?_
    refine Z4e ?_
    refine Z76 ?_
    refine Z75 ?_
    refine Zbt ?_
    refine Z7 ?_
    refine Z5z ?_
    refine Z2r ?_
    refine Zbq ?_
    refine Zb ?_
    refine aw_cond rfl (fun hc => ?_) (fun hc => ?_)
    · rw [if_pos hc] at hstep
      refine Z8c ?_
      refine Z4a ?_
      refine ao2 (by rintro _ ⟨⟩; decide) (V2.callT (set_Join _ _ (by omega) (by omega) _) rfl rfl) ?_
      refine Z89 ?_
      refine Z4k ?_
      refine ⟨k + 1, by omega, by omega, by rw [hstep]; exact (by repeat (first | exact Sub.nil | refine Sub.cons (by first | rfl | (simp [get]; done)) ?_)), Fit.loc hB (L := []) rfl (by repeat (first | exact EBel.nil | refine EBel.cons (by first | rfl | (simp [AV.bel, AV.bels, Lid]; done) | (simp [AV.bel, AV.bels, Lid]; omega)) ?_)) (fun o ho => by simp at ho)⟩
    · rw [if_neg (by simp [hc])] at hstep
      refine Z7a ?_
      refine ⟨k + 1, by omega, by omega, by rw [hstep]; exact (by repeat (first | exact Sub.nil | refine Sub.cons (by first | rfl | (simp [get]; done)) ?_)), Fit.loc hB (L := []) rfl (by repeat (first | exact EBel.nil | refine EBel.cons (by first | rfl | (simp [AV.bel, AV.bels, Lid]; done) | (simp [AV.bel, AV.bels, Lid]; omega)) ?_)) (fun o ho => by simp at ho)⟩
  · have : k = l.length := by simp at hc; omega
    subst this
    rw [List.take_length]
    refine Z8c ?_
    exact Z47
end Go.Av

namespace Go.Av
open Go.Proofs
set_option maxRecDepth 10000
set_option linter.unusedSimpArgs false
set_option linter.unusedVariables false

theorem queue_find_1 (x : Job) (id : Int) (H : Heap) : AC Tryz.prog 135 [.agg (eJob x), .int .i64 id] H (Ret (.int .i64 (cmpI x.id id)) H) := by
  refine AC.body (N := 9) [.tmp 4] Tryz.func135 rfl rfl rfl (Nat.le_of_ble_eq_true rfl) fun B hB => ?_
  refine Z49 ?_
  refine Z1a ?_
  refine Z2w ?_
  refine Za ?_
  refine Zdp ?_
  exact Ze
set_option maxHeartbeats 0 in
theorem queue_search (l : List Job) (id : Int) (H : Heap) (hl : l.length ≤ 1000000) (hs : l.Pairwise (fun a b => a.id < b.id)) :
    AC Tryz.prog 134 [.pl (l.map eJob), .int .i64 id, .fn (.func 135) [] []] H (Ret (.tup [.int .i64 (jobPos l id : Int), .bool (jobHit l id)]) H) := by
  have hle := kpos_le (f := Job.id) l id
  refine AC.body (N := 49) [.tmp 6, .tmp 7] Tryz.func134 rfl rfl rfl (Nat.le_of_ble_eq_true rfl) fun B hB => ?_
  refine Z4 ?_
  refine Z1o ?_
  refine Z6t ?_
  refine Z15 ?_
  refine Z3 ?_
  refine Z1d ?_
  refine aw_loop (G := LH) (fun g => g.lo ≤ kpos Job.id l id ∧ kpos Job.id l id ≤ g.hi ∧ g.hi ≤ l.length) (fun g => [(0, .pl (l.map eJob)), (1, .int .i64 id), (2, .fn (.func 135) [] []), (8, .int .i64 ((l.map eJob).length : Int)), (9, .int .i64 (g.lo : Int)), (10, .int .i64 (g.hi : Int))]) (fun _ => H ++ []) (fun g => g.hi - g.lo) ⟨0, (l.map eJob).length⟩ ⟨Nat.zero_le _, by simp only [List.length_map]; exact hle, by simp⟩ (by repeat (first | exact Sub.nil | refine Sub.cons (by first | rfl | (simp [get]; done)) ?_)) (Fit.refl _ _) ?_
  rintro ⟨lo, hi⟩ ⟨i1, i2, i3⟩
  simp only at i1 i2 i3 ⊢
  refine Z2q ?_
  refine Z1e ?_
  refine aw_cond rfl (fun hc => ?_) (fun hc => ?_)
  · have hlt : lo < hi := by simpa using hc
    obtain ⟨x, hx, hxl⟩ := get_in (l := l) (k := (lo + hi) / 2) (by omega)
    have hr := map_get eJob hx
    refine Z2q ?_
    refine Zdq ?_
    refine Zdr ?_
    refine Zds ?_
    refine Zdt ?_
    refine Z1a ?_
    refine Z1t ?_
    refine Z98 ?_
    refine Z4e ?_
    refine Z6d ?_
    refine Za ?_
    refine ao_retv (queue_find_1 x id _) rfl rfl (by decide) ?_
    refine Z1e ?_
    refine aw_cond rfl (fun hc => ?_) (fun hc => ?_)
    · have hk : x.id < id := by simp only [decide_eq_true_eq] at hc; unfold cmpI at hc; split at hc <;> first | assumption | (split at hc <;> omega)
      have hp : (lo + hi) / 2 + 1 ≤ kpos Job.id l id := by
        rcases Nat.lt_or_ge ((lo + hi) / 2) (kpos Job.id l id) with h | h
        · omega
        · have := kpos_ge hs h hx; omega
      refine Z10 ?_
      refine Zdu ?_
      refine Zc ?_
      exact ⟨⟨(lo + hi) / 2 + 1, hi⟩, by simp only; omega, ⟨hp, i2, i3⟩, (by repeat (first | exact Sub.nil | refine Sub.cons (by first | rfl | (simp [get]; done)) ?_)), .refl _ _⟩
    · have hk : id ≤ x.id := by simp only [decide_eq_false_iff_not] at hc; unfold cmpI at hc; split at hc <;> first | (exfalso; exact hc (by decide)) | omega
      have hp : kpos Job.id l id ≤ (lo + hi) / 2 := by
        rcases Nat.lt_or_ge ((lo + hi) / 2) (kpos Job.id l id) with h | h
        · have := kpos_lt (f := Job.id) h hx; omega
        · exact h
      refine Z1u ?_
      exact ⟨⟨lo, (lo + hi) / 2⟩, by simp only; omega, ⟨i1, hp, by simp only; omega⟩, (by repeat (first | exact Sub.nil | refine Sub.cons (by first | rfl | (simp [get]; done)) ?_)), .refl _ _⟩
  · have hlt : ¬ lo < hi := by simpa using hc
    obtain rfl : lo = kpos Job.id l id := by omega
    have hml : (l.map eJob).length = l.length := by simp
    clear hc
    refine Z1 ?_
    refine aw_joinQ ([(6, .int .i64 (jobPos l id : Int)), (7, .bool (jobHit l id))]) (H ++ []) ?_ ?_
    · by_cases hn : kpos Job.id l id < l.length
      · obtain ⟨x, hx, hxl⟩ := get_in hn
        have hr := map_get eJob hx
        have hh : jobHit l id = (cmpI x.id id == 0) := by
          rw [jobHit, show jobPos l id = kpos Job.id l id from rfl, decide_eq_true hn, Bool.true_and, jobId_get hx, Bool.eq_iff_iff]
          unfold cmpI
          simp only [decide_eq_true_eq, beq_iff_eq]
          split
          · omega
          · split <;> omega
        refine Z2q ?_
        refine Zw ?_
        refine ao_split rfl rfl (fun hg4 => ?_) (fun hg4 => ?_)
        · refine Zdv ?_
          refine Z95 ?_
          refine Zl ?_
          refine Zdb ?_
          refine Z4x ?_
          refine Zl ?_
          refine ao_y rfl rfl (by decide) (V2.callv (queue_find_1 x id _) rfl rfl) ?_
          refine Z3p ?_
          refine Zn ?_
          refine Zdx ?_
          (first | (exfalso; simp at hg4; omega) | exact join_nrm (by rw [hh]; exact (by repeat (first | exact Sub.nil | refine Sub.cons (by first | rfl | (simp [get]; done)) ?_))) (.inl rfl))
        · refine Z29 ?_
          refine Z2c ?_
          refine Zdx ?_
          (first | (exfalso; simp at hg4; omega) | exact join_nrm (by rw [hh]; exact (by repeat (first | exact Sub.nil | refine Sub.cons (by first | rfl | (simp [get]; done)) ?_))) (.inl rfl))
      · have hh : jobHit l id = false := by rw [jobHit, show jobPos l id = kpos Job.id l id from rfl, decide_eq_false hn, Bool.false_and]
        refine Z2q ?_
        refine Zw ?_
        refine ao_split rfl rfl (fun hg4 => ?_) (fun hg4 => ?_)
        · exfalso; simp at hg4; omega
        · refine Z29 ?_
          refine Z2c ?_
          refine Zdx ?_
          (exact join_nrm (by rw [hh]; exact (by repeat (first | exact Sub.nil | refine Sub.cons (by first | rfl | (simp [get]; done)) ?_))) (.inl rfl))
    refine Z1 ?_
    exact Z68
theorem queue_find (l : List Job) (id : Int) (H : Heap) (hl : l.length ≤ 1000000) (hs : l.Pairwise (fun a b => a.id < b.id)) : AC Tryz.prog 82 [.pl (l.map eJob), .int .i64 id] H (Ret (.tup [.int .i64 (jobPos l id : Int), .bool (jobHit l id)]) H) := by
  refine AC.body (N := 11) [.tmp 4, .tmp 5] Tryz.func82 rfl rfl rfl (Nat.le_of_ble_eq_true rfl) fun B hB => ?_
  refine Z4 ?_
  refine Z1o ?_
  refine Z98 ?_
  refine ao_ret (queue_search _ _ _ (by omega) (by assumption)) rfl (by decide) ?_
  refine Z6p ?_
  refine Zg ?_
  exact Z68
theorem jobs_len (l : List Job) : ∀ r ∈ l.map eJob, r.length = 13 := rows_len (e := eJob) (n := 13) (fun _ => rfl) l
theorem jobs_bel (n : Nat) (l : List Job) : ∀ r ∈ l.map eJob, AV.bels n r = true := rows_bel (e := eJob) (fun _ => rfl) l
set_option maxHeartbeats 0 in
theorem queue_Right (l : List Job) (H : Heap) (hl : l.length ≤ 1000000) : AC Tryz.prog 75 [.pl (l.map eJob)] H (Ret (.bool (jobsR l)) H) := by
  refine AC.body (N := 67) [.tmp 2] Tryz.func75 rfl rfl rfl (Nat.le_of_ble_eq_true rfl) fun B hB => ?_
  refine Zbs ?_
  refine aw_cond rfl (fun hc => ?_) (fun hc => ?_)
  · have h64 : ¬ l.length ≤ 64 := by simp at hc; omega
    refine Zh ?_
    rw [show jobsR l = false by rw [jobsR, decide_eq_false h64, Bool.false_and]]
    exact Zd
  have h64 : l.length ≤ 64 := by simp at hc; omega
  rw [show jobsR l = allI (jobB l) l.length by rw [jobsR, decide_eq_true h64, Bool.true_and]]
  refine Zb3 ?_
  refine aw_loop (G := Nat) (fun i => i ≤ l.length ∧ ∀ k, k < i → jobB l k = true) (fun i => [(0, .pl (l.map eJob)), (12, .pl (l.map eJob)), (13, .int .i64 (l.length : Int)), (14, .int .i64 (i : Int))]) (fun _ => H ++ []) (fun i => l.length - i) 0 ⟨Nat.zero_le _, fun k hk => by omega⟩ (by repeat (first | exact Sub.nil | refine Sub.cons (by first | rfl | (simp [get]; done)) ?_)) (Fit.refl _ _) ?_
  rintro i ⟨hi, hno⟩
  refine Z4d ?_
  refine aw_cond rfl (fun hc => ?_) (fun hc => ?_)
  · have hlt : i < l.length := by simp at hc; omega
    obtain ⟨j, hj, hjl⟩ := get_in hlt
    have hr := map_get eJob hj
    have hB2 := jobB_get hj
    have hno0 := hno
    have hli : ((l.map eJob).take i) = (l.take i).map eJob := by rw [List.map_take]
    have hs := jobs_take_sorted h64 hno
    have htl : (l.take i).length ≤ 1000000 := by rw [List.length_take]; omega
    clear hno hc
    refine Z10 ?_
    refine Z4e ?_
    refine Z6d ?_
    refine Z6b ?_
    refine Z3 ?_
    refine Z6g ?_
    refine Z6 ?_
    clear hr
    refine Z1 ?_
    refine aw_joinQ ([(0, .pl (l.map eJob)), (3, .int .i64 (i : Int)), (4, .pt (Lid H.length 0) 0 0 0), (12, .pl (l.map eJob)), (13, .int .i64 (l.length : Int)), (14, .int .i64 (i : Int)), (47, .bool (!(jright j && !(decide (0 < i) && (decide (j.id ≤ jobId l (i - 1)) || decide (j.came < (jobAt l (i - 1)).came))))))]) (H ++ [⟨0, 13, [eJob j]⟩]) ?_ ?_
    · by_cases h0 : 0 < i
      · obtain ⟨h1, hh1, _⟩ := get_in (l := l) (k := i - 1) (by omega)
        have hr1 := map_get eJob hh1
        rw [jobId_get hh1, jobAt_get hh1, decide_eq_true h0, Bool.true_and]
        clear hB2 hno0 hj hjl hs hh1
        refine Z1 ?_
        refine aw_of_out 47 (.bool (!(jright j && !((decide (j.id ≤ h1.id) || decide (j.came < h1.came)))))) ?_ ?_
        · refine Z9w ?_
          refine Ze0 ?_
          refine Ze1 ?_
          refine Zbw ?_
          refine Z7g ?_
          refine aq_split (g := 22) rfl (fun hg3 => ?_) (fun hg3 => ?_)
          · refine Ze2 ?_
            refine Ze3 ?_
            refine Ze4 ?_
            refine Ze5 ?_
            refine Ze6 ?_
            refine Ze7 ?_
            refine Ze8 ?_
            refine Ze9 ?_
            refine Zea ?_
            refine Zeb ?_
            refine Zec ?_
            refine Zed ?_
            refine Z8p ?_
            refine Zee ?_
            refine Zef ?_
            refine Zeg ?_
            refine Zeh ?_
            refine Zei ?_
            refine Zej ?_
            refine Zek ?_
            refine Zel ?_
            refine Zem ?_
            refine Zen ?_
            refine Zeo ?_
            refine Zep ?_
            exact Zeq
          · refine Zer ?_
            refine Zes ?_
            refine Zet ?_
            refine aq_split (g := 25) rfl (fun hg6 => ?_) (fun hg6 => ?_)
            · first | refine aqyp (g := 25) 7 rfl (by decide +kernel) (by decide) rfl rfl (fun G => w_fieldAddr rfl (lk rfl rfl) rfl (by decide)) ?_ | refine aqyp (g := 25) 7 rfl (by decide +kernel) (by decide) rfl rfl (fun G => w_fieldAddrp rfl (by decide)) ?_ | refine aqyp (g := 25) 7 rfl (by decide +kernel) (by decide) rfl rfl (fun G => w_fieldAddr rfl (lkF hF) rfl (by decide)) ?_
              first | refine aqyp (g := 25) 8 rfl (by decide +kernel) (by decide) rfl rfl (fun G => w_load1 (v := .int _ _) rfl (lk rfl rfl) rfl rfl rfl) ?_ | refine aqyp (g := 25) 8 rfl (by decide +kernel) (by decide) rfl rfl (fun G => w_load1 (v := .int _ _) rfl (lk rfl rfl) rfl (zadd hr) rfl) ?_ | refine aqyp (g := 25) 8 rfl (by decide +kernel) (by decide) rfl rfl (fun G => w_load1 (v := .int _ _) rfl (lk rfl rfl) rfl (zadd hr1) rfl) ?_ | refine aqyp (g := 25) 8 rfl (by decide +kernel) (by decide) rfl rfl (fun G => w_load1 (v := .int _ _) rfl (lk rfl rfl) rfl (zadd hr2) rfl) ?_ | refine aqyp (g := 25) 8 rfl (by decide +kernel) (by decide) rfl rfl (fun G => o_load1p (v := .int _ _) rfl hr rfl) ?_ | refine aqyp (g := 25) 8 rfl (by decide +kernel) (by decide) rfl rfl (fun G => o_load1p (v := .int _ _) rfl hr1 rfl) ?_ | refine aqyp (g := 25) 8 rfl (by decide +kernel) (by decide) rfl rfl (fun G => o_load1p (v := .int _ _) rfl hr2 rfl) ?_ | refine aqyp (g := 25) 8 rfl (by decide +kernel) (by decide) rfl rfl (fun G => w_load1 (v := .int _ _) rfl (lkF hF) rfl rfl rfl) ?_
              first | refine aqy0 (g := 25) 9 rfl (by decide +kernel) (by decide) rfl rfl (fun _ => o_move (v := .sl _ _ _ _ _) rfl) ?_ | refine aqy0 (g := 25) 9 rfl (by decide +kernel) (by decide) rfl rfl (fun _ => o_move (v := .pl _) rfl) ?_ | refine aqy0 (g := 25) 9 rfl (by decide +kernel) (by decide) rfl rfl (fun _ => o_move (v := .nsl) rfl) ?_
              refine aqy0 (g := 25) 10 rfl (by decide +kernel) (by decide) rfl rfl (fun _ => o_move (v := .int _ _) rfl) ?_
              refine aqy0 (g := 25) 11 rfl (by decide +kernel) (by decide) rfl rfl (fun _ => o_sub (r := ((i - 1 : Nat) : Int)) rfl rfl (by rw [show (i : Int) - 1 = ((i - 1 : Nat) : Int) by omega]; exact wrap64_ok (by omega) (by omega))) ?_
              refine aqyp (g := 25) 12 rfl (by decide +kernel) (by decide) rfl rfl (fun G => w_indexAddrpN rfl rfl hr1 rfl) ?_
              first | refine aqyp (g := 25) 13 rfl (by decide +kernel) (by decide) rfl rfl (fun G => w_fieldAddr rfl (lk rfl rfl) rfl (by decide)) ?_ | refine aqyp (g := 25) 13 rfl (by decide +kernel) (by decide) rfl rfl (fun G => w_fieldAddrp rfl (by decide)) ?_ | refine aqyp (g := 25) 13 rfl (by decide +kernel) (by decide) rfl rfl (fun G => w_fieldAddr rfl (lkF hF) rfl (by decide)) ?_
              refine aqyp (g := 25) 14 rfl (by decide +kernel) (by decide) rfl rfl (fun G => o_load1p (v := .int _ _) rfl hr1 rfl) ?_
              refine aqy0 (g := 25) 15 rfl (by decide +kernel) (by decide) rfl rfl (fun _ => o_le rfl rfl) ?_
              refine aqy0 (g := 25) 16 rfl (by decide +kernel) (by decide) rfl rfl (fun _ => o_move (v := .bool _) rfl) ?_
              refine aq_split (g := 35) rfl (fun hg16 => ?_) (fun hg16 => ?_)
              · refine aqn0 (g := 35) 17 rfl (by decide +kernel) (by decide) rfl rfl rfl ?_
                refine aqn0 (g := 35) 18 rfl (by decide +kernel) (by decide) rfl rfl rfl ?_
                refine aqn0 (g := 35) 19 rfl (by decide +kernel) (by decide) rfl rfl rfl ?_
                refine aqn0 (g := 35) 20 rfl (by decide +kernel) (by decide) rfl rfl rfl ?_
                refine aqn0 (g := 35) 21 rfl (by decide +kernel) (by decide) rfl rfl rfl ?_
                refine aqn0 (g := 35) 22 rfl (by decide +kernel) (by decide) rfl rfl rfl ?_
                refine aqn0 (g := 35) 23 rfl (by decide +kernel) (by decide) rfl rfl rfl ?_
                refine aqn0 (g := 35) 24 rfl (by decide +kernel) (by decide) rfl rfl rfl ?_
                refine aqn0 (g := 35) 25 rfl (by decide +kernel) (by decide) rfl rfl rfl ?_
                refine Zeu ?_
                refine Zev ?_
                refine Zep ?_
                exact Zeq
              · first | refine aqyp (g := 35) 17 rfl (by decide +kernel) (by decide) rfl rfl (fun G => w_fieldAddr rfl (lk rfl rfl) rfl (by decide)) ?_ | refine aqyp (g := 35) 17 rfl (by decide +kernel) (by decide) rfl rfl (fun G => w_fieldAddrp rfl (by decide)) ?_ | refine aqyp (g := 35) 17 rfl (by decide +kernel) (by decide) rfl rfl (fun G => w_fieldAddr rfl (lkF hF) rfl (by decide)) ?_
                first | refine aqyp (g := 35) 18 rfl (by decide +kernel) (by decide) rfl rfl (fun G => w_load1 (v := .int _ _) rfl (lk rfl rfl) rfl rfl rfl) ?_ | refine aqyp (g := 35) 18 rfl (by decide +kernel) (by decide) rfl rfl (fun G => w_load1 (v := .int _ _) rfl (lk rfl rfl) rfl (zadd hr) rfl) ?_ | refine aqyp (g := 35) 18 rfl (by decide +kernel) (by decide) rfl rfl (fun G => w_load1 (v := .int _ _) rfl (lk rfl rfl) rfl (zadd hr1) rfl) ?_ | refine aqyp (g := 35) 18 rfl (by decide +kernel) (by decide) rfl rfl (fun G => w_load1 (v := .int _ _) rfl (lk rfl rfl) rfl (zadd hr2) rfl) ?_ | refine aqyp (g := 35) 18 rfl (by decide +kernel) (by decide) rfl rfl (fun G => o_load1p (v := .int _ _) rfl hr rfl) ?_ | refine aqyp (g := 35) 18 rfl (by decide +kernel) (by decide) rfl rfl (fun G => o_load1p (v := .int _ _) rfl hr1 rfl) ?_ | refine aqyp (g := 35) 18 rfl (by decide +kernel) (by decide) rfl rfl (fun G => o_load1p (v := .int _ _) rfl hr2 rfl) ?_ | refine aqyp (g := 35) 18 rfl (by decide +kernel) (by decide) rfl rfl (fun G => w_load1 (v := .int _ _) rfl (lkF hF) rfl rfl rfl) ?_
                first | refine aqy0 (g := 35) 19 rfl (by decide +kernel) (by decide) rfl rfl (fun _ => o_move (v := .sl _ _ _ _ _) rfl) ?_ | refine aqy0 (g := 35) 19 rfl (by decide +kernel) (by decide) rfl rfl (fun _ => o_move (v := .pl _) rfl) ?_ | refine aqy0 (g := 35) 19 rfl (by decide +kernel) (by decide) rfl rfl (fun _ => o_move (v := .nsl) rfl) ?_
                refine aqy0 (g := 35) 20 rfl (by decide +kernel) (by decide) rfl rfl (fun _ => o_move (v := .int _ _) rfl) ?_
                refine aqy0 (g := 35) 21 rfl (by decide +kernel) (by decide) rfl rfl (fun _ => o_sub (r := ((i - 1 : Nat) : Int)) rfl rfl (by rw [show (i : Int) - 1 = ((i - 1 : Nat) : Int) by omega]; exact wrap64_ok (by omega) (by omega))) ?_
                refine aqyp (g := 35) 22 rfl (by decide +kernel) (by decide) rfl rfl (fun G => w_indexAddrpN rfl rfl hr1 rfl) ?_
                first | refine aqyp (g := 35) 23 rfl (by decide +kernel) (by decide) rfl rfl (fun G => w_fieldAddr rfl (lk rfl rfl) rfl (by decide)) ?_ | refine aqyp (g := 35) 23 rfl (by decide +kernel) (by decide) rfl rfl (fun G => w_fieldAddrp rfl (by decide)) ?_ | refine aqyp (g := 35) 23 rfl (by decide +kernel) (by decide) rfl rfl (fun G => w_fieldAddr rfl (lkF hF) rfl (by decide)) ?_
                refine aqyp (g := 35) 24 rfl (by decide +kernel) (by decide) rfl rfl (fun G => o_load1p (v := .int _ _) rfl hr1 rfl) ?_
                refine aqy0 (g := 35) 25 rfl (by decide +kernel) (by decide) rfl rfl (fun _ => o_lt rfl rfl) ?_
                refine Zeu ?_
                refine Zev ?_
                refine Zep ?_
                exact Zeq
            · refine Zew ?_
              refine Zex ?_
              refine Zey ?_
              refine Zez ?_
              refine Zf0 ?_
              refine Zf1 ?_
              refine Zf2 ?_
              refine Zf3 ?_
              refine Zf4 ?_
              refine Z93 ?_
              refine Zee ?_
              refine Zef ?_
              refine Zeg ?_
              refine Zeh ?_
              refine Zei ?_
              refine Zej ?_
              refine Zek ?_
              refine Zel ?_
              refine Zem ?_
              refine Zf5 ?_
              refine Zev ?_
              refine Zep ?_
              exact Zeq
        exact join_nrm (by repeat (first | exact Sub.nil | refine Sub.cons (by first | rfl | (simp [get]; done)) ?_)) (.inl rfl)
      · rw [decide_eq_false h0, Bool.false_and, Bool.not_false, Bool.and_true]
        clear hB2 hno0 hj hjl hs
        refine Z1 ?_
        refine aw_of_out 47 (.bool (!jright j)) ?_ ?_
        · refine Z9w ?_
          refine Ze0 ?_
          refine Ze1 ?_
          refine Zbw ?_
          refine Z7g ?_
          refine aq_split (g := 22) rfl (fun hg3 => ?_) (fun hg3 => ?_)
          · refine Ze2 ?_
            refine Ze3 ?_
            refine Ze4 ?_
            refine Ze5 ?_
            refine Ze6 ?_
            refine Ze7 ?_
            refine Ze8 ?_
            refine Ze9 ?_
            refine Zea ?_
            refine Zeb ?_
            refine Zec ?_
            refine Zed ?_
            refine Z8p ?_
            refine Zee ?_
            refine Zef ?_
            refine Zeg ?_
            refine Zeh ?_
            refine Zei ?_
            refine Zej ?_
            refine Zek ?_
            refine Zel ?_
            refine Zem ?_
            refine Zen ?_
            refine Zeo ?_
            refine Zep ?_
            exact Zf6
          · refine Zer ?_
            refine Zes ?_
            refine Zet ?_
            refine aq_split (g := 25) rfl (fun hg6 => ?_) (fun hg6 => ?_)
            · exfalso; simp at hg6; omega
            · refine Zew ?_
              refine Zex ?_
              refine Zey ?_
              refine Zez ?_
              refine Zf0 ?_
              refine Zf1 ?_
              refine Zf2 ?_
              refine Zf3 ?_
              refine Zf4 ?_
              refine Z93 ?_
              refine Zee ?_
              refine Zef ?_
              refine Zeg ?_
              refine Zeh ?_
              refine Zei ?_
              refine Zej ?_
              refine Zek ?_
              refine Zel ?_
              refine Zem ?_
              refine Zf5 ?_
              refine Zev ?_
              refine Zep ?_
              exact Zf6
        exact join_nrm (by repeat (first | exact Sub.nil | refine Sub.cons (by first | rfl | (simp [get]; done)) ?_)) (.inl rfl)
    refine Z1 ?_
    refine aw_cond rfl (fun hc => ?_) (fun hc => ?_)
    · have hbad : jobB l i = false := by rw [hB2]; rw [Bool.not_eq_true'] at hc; rw [hc, Bool.false_and]
      refine Zh ?_
      rw [allI_false hlt hbad]
      exact Zd
    have hgd : (jright j && !(decide (0 < i) && (decide (j.id ≤ jobId l (i - 1)) || decide (j.came < (jobAt l (i - 1)).came)))) = true := by simpa only [Bool.not_eq_false'] using hc
    have hjr : jright j = true := by rw [Bool.and_eq_true] at hgd; exact hgd.1
    have hn16 := jright_needs hjr
    rw [hgd, Bool.true_and] at hB2
    clear hc hgd
    refine Z2 ?_
    refine Z4b ?_
    refine Z4c ?_
    refine aw_loop (G := Nat) (fun k => k ≤ j.needs.length ∧ ∀ n ∈ j.needs.take k, jobHit (l.take i) n = true) (fun k => [(0, .pl (l.map eJob)), (3, .int .i64 (i : Int)), (12, .pl (l.map eJob)), (13, .int .i64 (l.length : Int)), (14, .int .i64 (i : Int)), (49, .pl (j.needs.map eI)), (50, .int .i64 (j.needs.length : Int)), (51, .int .i64 (k : Int))]) (fun _ => H ++ [⟨0, 13, [eJob j]⟩]) (fun k => j.needs.length - k) 0 ⟨Nat.zero_le _, by simp⟩ (by repeat (first | exact Sub.nil | refine Sub.cons (by first | rfl | (simp [get]; done)) ?_)) (Fit.refl _ _) ?_
    rintro k ⟨hk, hhit⟩
    refine Z4d ?_
    refine aw_cond rfl (fun hc => ?_) (fun hc => ?_)
    · have hltk : k < j.needs.length := by simpa using hc
      obtain ⟨n, hn, hnl⟩ := get_in hltk
      have hr := map_get eI hn
      refine Z2 ?_
      refine Z4f ?_
      refine Z1a ?_
      refine Z98 ?_
      refine ao1 (by decide) (o_headp (ys := (l.take i).map eJob) rfl (Bd.some rfl rfl) (by simp; omega) (jobs_len _) hli) ?_
      refine Za ?_
      refine ao_ret (queue_find _ _ _ (by omega) (by assumption)) rfl (by decide) ?_
      refine Z6m ?_
      refine Z6p ?_
      refine Z2p ?_
      refine Z3u ?_
      refine aw_cond rfl (fun hc => ?_) (fun hc => ?_)
      · have hbad : jobB l i = false := by
          rw [hB2, List.all_eq_false]
          exact ⟨n, hnl, by simpa using hc⟩
        refine Zh ?_
        rw [allI_false hlt hbad]
        exact Zd
      · refine Z7a ?_
        refine ⟨k + 1, by omega, ⟨by omega, ?_⟩, (by repeat (first | exact Sub.nil | refine Sub.cons (by first | rfl | (simp [get]; done)) ?_)), .refl _ _⟩
        rw [take_snoc_get hn]
        intro y hy
        rcases List.mem_append.1 hy with h | h
        · exact hhit y h
        · simp only [List.mem_singleton] at h
          subst h
          simpa using hc
    · have : k = j.needs.length := by simp at hc; omega
      subst this
      rw [List.take_length] at hhit
      have hgood : jobB l i = true := by rw [hB2, List.all_eq_true]; exact hhit
      refine Z7a ?_
      refine ⟨i + 1, by omega, ⟨by omega, fun k hk => ?_⟩, (by repeat (first | exact Sub.nil | refine Sub.cons (by first | rfl | (simp [get]; done)) ?_)), Fit.loc hB (L := []) rfl (by repeat (first | exact EBel.nil | refine EBel.cons (by first | rfl | (simp [AV.bel, AV.bels, Lid]; done) | (simp [AV.bel, AV.bels, Lid]; omega)) ?_)) (fun o ho => by simp at ho)⟩
      rcases Nat.lt_or_eq_of_le (Nat.le_of_lt_succ hk) with h | h
      · exact hno0 k h
      · subst h; exact hgood
  · have : i = l.length := by simp at hc; omega
    subst this
    refine Zh ?_
    rw [allI_true hno]
    exact Zd
end Go.Av

namespace Go.Av
open Go.Proofs
set_option maxRecDepth 10000
set_option linter.unusedSimpArgs false
set_option linter.unusedVariables false

set_option maxHeartbeats 0 in
theorem ref10_May (h : Held) (H : Heap) (hw : h.things.length ≤ 1000000) : AC Tryz.prog 145 [.agg (eHeld h)] H (Ret (.bool (hmay h)) H) := by
  rw [show hmay h = (decide (0 < h.things.length) && sok h.things && decide (0 ≤ h.frm) && decide (h.frm < h.to) && decide (h.to ≤ 4611686018427387904)) by
    rw [hmay, tm, tm, Bool.eq_iff_iff]
    simp only [Bool.and_eq_true, decide_eq_true_eq]
    constructor
    · rintro ⟨⟨⟨⟨a, b⟩, c⟩, d⟩, e⟩
      exact ⟨⟨⟨⟨a, b⟩, by omega⟩, by omega⟩, by omega⟩
    · rintro ⟨⟨⟨⟨a, b⟩, c⟩, d⟩, e⟩
      exact ⟨⟨⟨⟨a, b⟩, by omega⟩, by omega⟩, by omega⟩]
  refine AC.body (N := 29) [.tmp 2] Tryz.func145 rfl rfl rfl (Nat.le_of_ble_eq_true rfl) fun B hB => ?_
  refine Zbo ?_
  refine Zg ?_
  refine aw_out 2 (.bool (decide (0 < h.things.length) && sok h.things && decide (0 ≤ h.frm) && decide (h.frm < h.to) && decide (h.to ≤ 4611686018427387904))) ?_ ?_
  · refine Z4b ?_
    refine Z2j ?_
    refine Zj ?_
    refine ao_split rfl rfl (fun hg4 => ?_) (fun hg4 => ?_)
    · refine Z55 ?_
      refine ao_y rfl rfl (by decide) (V2.call (ref01_Right _ (by omega) _) rfl) ?_
      refine Z31 ?_
      refine ao_split rfl rfl (fun hg9 => ?_) (fun hg9 => ?_)
      · refine Z3s ?_
        refine Z31 ?_
        refine ao_split rfl rfl (fun hg14 => ?_) (fun hg14 => ?_)
        · refine Z2z ?_
          refine Z3m ?_
          refine ao_split rfl rfl (fun hg21 => ?_) (fun hg21 => ?_)
          · refine Z2z ?_
            refine Zx ?_
            refine Zo ?_
            exact Zb9
          · refine Z1y ?_
            exact Zb9
        · refine Zs ?_
          exact Zdo
      · refine Z50 ?_
        exact Zdo
    · refine Z33 ?_
      refine Z50 ?_
      exact Zdo
  exact Z1z
set_option maxHeartbeats 0 in
theorem ref10_clash (a b : Held) (H : Heap) (ha : a.things.length ≤ 1000000) (hb : b.things.length ≤ 1000000) (sa : sok a.things = true) (sb : sok b.things = true) : AC Tryz.prog 146 [.agg (eHeld a), .agg (eHeld b)] H (Ret (.bool (clash a b)) H) := by
  have ct := fun H => ref01_Touch a.things b.things H ha hb (sok_sorted sa) (sok_sorted sb)
  rw [touch_apart sa sb] at ct
  refine AC.body (N := 21) [.tmp 4] Tryz.func146 rfl rfl rfl (Nat.le_of_ble_eq_true rfl) fun B hB => ?_
  refine Zbo ?_
  refine Zbn ?_
  refine Zg ?_
  refine aw_out 4 (.bool (clash a b)) ?_ ?_
  · refine Z5z ?_
    refine Z5z ?_
    refine ao_ret (ref02_Meets _ _ _ _ _) rfl (by decide) ?_
    refine Zj ?_
    refine ao_split rfl rfl (fun hg9 => ?_) (fun hg9 => ?_)
    · refine Z72 ?_
      refine ao_y rfl rfl (by decide) (V2.call (ct _) rfl) ?_
      refine Zo ?_
      exact Zf7
    · refine Z4o ?_
      exact Zf7
  exact Z1z
theorem ref10_At (l : List Held) (id : Int) (H : Heap) (hl : l.length ≤ 1000000) : AC Tryz.prog 96 [.pl (l.map eHeld), .int .i64 id] H (Ret (.int .i64 (hAt l id)) H) := by
  refine AC.body (N := 20) [.tmp 4] Tryz.func96 rfl rfl rfl (Nat.le_of_ble_eq_true rfl) fun B hB => ?_
  refine Z8 ?_
  refine Z1d ?_
  refine aw_loop (G := Nat) (fun k => k ≤ l.length ∧ ∀ y ∈ l.take k, decide (y.id = id) = false) (fun k => [(0, .pl (l.map eHeld)), (1, .int .i64 id), (5, .int .i64 (k : Int))]) (fun _ => H ++ []) (fun k => l.length - k) 0 ⟨Nat.zero_le _, by simp⟩ (by repeat (first | exact Sub.nil | refine Sub.cons (by first | rfl | (simp [get]; done)) ?_)) (Fit.refl _ _) ?_
  rintro k ⟨hk, hno⟩
  refine Z6w ?_
  refine aw_cond rfl (fun hc => ?_) (fun hc => ?_)
  · have hlt : k < l.length := by simpa using hc
    obtain ⟨x, hx, hxl⟩ := get_in hlt
    have hr := map_get eHeld hx
    refine Zd2 ?_
    refine Z2w ?_
    refine Za ?_
    refine Z16 ?_
    refine aw_cond rfl (fun hc => ?_) (fun hc => ?_)
    · have he : x.id = id := by simpa using hc
      refine Z1u ?_
      rw [show hAt l id = (k : Int) from fAt_hit hx (by rw [he]; simp) hno]
      exact Zd
    · have he : ¬ x.id = id := by simpa using hc
      refine Z2f ?_
      refine ⟨k + 1, by omega, ⟨by omega, ?_⟩, (by repeat (first | exact Sub.nil | refine Sub.cons (by first | rfl | (simp [get]; done)) ?_)), .refl _ _⟩
      rw [take_snoc_get hx]
      intro y hy
      rcases List.mem_append.1 hy with h | h
      · exact hno y h
      · simp only [List.mem_singleton] at h
        subst h
        simpa using he
  · have : k = l.length := by simp at hc; omega
    subst this
    rw [List.take_length] at hno
    rw [show hAt l id = -1 from fAt_none hno]
    exact Z17
theorem ref12_At (l : List Job) (id : Int) (H : Heap) (hl : l.length ≤ 1000000) : AC Tryz.prog 112 [.pl (l.map eJob), .int .i64 id] H (Ret (.int .i64 (jAt l id)) H) := by
  refine AC.body (N := 20) [.tmp 4] Tryz.func112 rfl rfl rfl (Nat.le_of_ble_eq_true rfl) fun B hB => ?_
  refine Z8 ?_
  refine Z1d ?_
  refine aw_loop (G := Nat) (fun k => k ≤ l.length ∧ ∀ y ∈ l.take k, decide (y.id = id) = false) (fun k => [(0, .pl (l.map eJob)), (1, .int .i64 id), (5, .int .i64 (k : Int))]) (fun _ => H ++ []) (fun k => l.length - k) 0 ⟨Nat.zero_le _, by simp⟩ (by repeat (first | exact Sub.nil | refine Sub.cons (by first | rfl | (simp [get]; done)) ?_)) (Fit.refl _ _) ?_
  rintro k ⟨hk, hno⟩
  refine Z6w ?_
  refine aw_cond rfl (fun hc => ?_) (fun hc => ?_)
  · have hlt : k < l.length := by simpa using hc
    obtain ⟨x, hx, hxl⟩ := get_in hlt
    have hr := map_get eJob hx
    refine Zd2 ?_
    refine Z2w ?_
    refine Za ?_
    refine Z16 ?_
    refine aw_cond rfl (fun hc => ?_) (fun hc => ?_)
    · have he : x.id = id := by simpa using hc
      refine Z1u ?_
      rw [show jAt l id = (k : Int) from fAt_hit hx (by rw [he]; simp) hno]
      exact Zd
    · have he : ¬ x.id = id := by simpa using hc
      refine Z2f ?_
      refine ⟨k + 1, by omega, ⟨by omega, ?_⟩, (by repeat (first | exact Sub.nil | refine Sub.cons (by first | rfl | (simp [get]; done)) ?_)), .refl _ _⟩
      rw [take_snoc_get hx]
      intro y hy
      rcases List.mem_append.1 hy with h | h
      · exact hno y h
      · simp only [List.mem_singleton] at h
        subst h
        simpa using he
  · have : k = l.length := by simp at hc; omega
    subst this
    rw [List.take_length] at hno
    rw [show jAt l id = -1 from fAt_none hno]
    exact Z17
theorem heldB_nc {l : List Held} {i : Nat} {h : Held} (e : l[i]? = some h) : heldB l i = (hmay h && !(decide (0 < i) && decide (h.id ≤ heldId l (i - 1))) && noclash l h i) := heldB_get e
set_option maxHeartbeats 0 in
theorem ref10_Right (l : List Held) (H : Heap) (hl : HW l) : AC Tryz.prog 95 [.pl (l.map eHeld)] H (Ret (.bool (heldR l)) H) := by
  have hl1 := hl.1
  refine AC.body (N := 52) [.tmp 2] Tryz.func95 rfl rfl rfl (Nat.le_of_ble_eq_true rfl) fun B hB => ?_
  refine Zbs ?_
  refine aw_cond rfl (fun hc => ?_) (fun hc => ?_)
  · have h256 : ¬ l.length ≤ 256 := by simp at hc; omega
    refine Zh ?_
    rw [show heldR l = false by rw [heldR, decide_eq_false h256, Bool.false_and]]
    exact Zd
  have h256 : l.length ≤ 256 := by simp at hc; omega
  rw [show heldR l = allI (heldB l) l.length by rw [heldR, decide_eq_true h256, Bool.true_and]]
  refine Z58 ?_
  refine aw_loop (G := Nat) (fun i => i ≤ l.length ∧ ∀ k, k < i → heldB l k = true) (fun i => [(0, .pl (l.map eHeld)), (3, .int .i64 (i : Int))]) (fun _ => H ++ []) (fun i => l.length - i) 0 ⟨Nat.zero_le _, fun k hk => by omega⟩ (by repeat (first | exact Sub.nil | refine Sub.cons (by first | rfl | (simp [get]; done)) ?_)) (Fit.refl _ _) ?_
  rintro i ⟨hi, hno⟩
  refine Z6w ?_
  refine aw_cond rfl (fun hc => ?_) (fun hc => ?_)
  · have hlt : i < l.length := by simpa using hc
    obtain ⟨h, hh, hhl⟩ := get_in hlt
    have hr := map_get eHeld hh
    have hw := hl.2 h hhl
    have hB2 := heldB_nc hh
    have hno0 := hno
    clear hno hc
    refine Z1 ?_
    refine aw_joinQ ([(0, .pl (l.map eHeld)), (3, .int .i64 (i : Int)), (37, .bool (!(hmay h && !(decide (0 < i) && decide (h.id ≤ heldId l (i - 1))))))]) (H ++ []) ?_ ?_
    · by_cases h0 : 0 < i
      · obtain ⟨h1, hh1, _⟩ := get_in (l := l) (k := i - 1) (by omega)
        have hr1 := map_get eHeld hh1
        rw [heldId_get hh1, decide_eq_true h0, Bool.true_and]
        clear hB2 hno0 hh hhl hh1
        refine Z1 ?_
        refine aw_of_out 37 (.bool (!(hmay h && !decide (h.id ≤ h1.id)))) ?_ ?_
        · refine Z6z ?_
          refine Zf8 ?_
          refine Zf9 ?_
          refine Zfa ?_
          refine Z5d ?_
          refine aq_split (g := 20) rfl (fun hg6 => ?_) (fun hg6 => ?_)
          · refine Z87 ?_
            refine Zfb ?_
            refine Zfc ?_
            refine Zfd ?_
            refine Zfe ?_
            refine Zff ?_
            refine Zfg ?_
            refine Zfh ?_
            refine Zfi ?_
            refine Zfj ?_
            refine Zfk ?_
            refine Zfl ?_
            refine Zfm ?_
            refine Zfn ?_
            refine Zfo ?_
            exact Zfp
          · refine Zfq ?_
            refine Zfr ?_
            refine Zfs ?_
            refine aq_split (g := 23) rfl (fun hg9 => ?_) (fun hg9 => ?_)
            · refine Zft ?_
              refine Zfu ?_
              refine aqyp (g := 23) 12 rfl (by decide +kernel) (by decide) rfl rfl (fun G => w_indexAddrpN rfl rfl hr rfl) ?_
              first | refine aqyp (g := 23) 13 rfl (by decide +kernel) (by decide) rfl rfl (fun G => w_fieldAddr rfl (lk rfl rfl) rfl (by decide)) ?_ | refine aqyp (g := 23) 13 rfl (by decide +kernel) (by decide) rfl rfl (fun G => w_fieldAddrp rfl (by decide)) ?_ | refine aqyp (g := 23) 13 rfl (by decide +kernel) (by decide) rfl rfl (fun G => w_fieldAddr rfl (lkF hF) rfl (by decide)) ?_
              refine aqyp (g := 23) 14 rfl (by decide +kernel) (by decide) rfl rfl (fun G => o_load1p (v := .int _ _) rfl hr rfl) ?_
              first | refine aqy0 (g := 23) 15 rfl (by decide +kernel) (by decide) rfl rfl (fun _ => o_move (v := .sl _ _ _ _ _) rfl) ?_ | refine aqy0 (g := 23) 15 rfl (by decide +kernel) (by decide) rfl rfl (fun _ => o_move (v := .pl _) rfl) ?_ | refine aqy0 (g := 23) 15 rfl (by decide +kernel) (by decide) rfl rfl (fun _ => o_move (v := .nsl) rfl) ?_
              refine aqy0 (g := 23) 16 rfl (by decide +kernel) (by decide) rfl rfl (fun _ => o_move (v := .int _ _) rfl) ?_
              refine aqy0 (g := 23) 17 rfl (by decide +kernel) (by decide) rfl rfl (fun _ => o_sub (r := ((i - 1 : Nat) : Int)) rfl rfl (by rw [show (i : Int) - 1 = ((i - 1 : Nat) : Int) by omega]; exact wrap64_ok (by omega) (by omega))) ?_
              refine aqyp (g := 23) 18 rfl (by decide +kernel) (by decide) rfl rfl (fun G => w_indexAddrpN rfl rfl hr1 rfl) ?_
              refine Zfv ?_
              refine aqyp (g := 23) 20 rfl (by decide +kernel) (by decide) rfl rfl (fun G => o_load1p (v := .int _ _) rfl hr1 rfl) ?_
              refine aqy0 (g := 23) 21 rfl (by decide +kernel) (by decide) rfl rfl (fun _ => o_le rfl rfl) ?_
              refine Zfw ?_
              refine Zfo ?_
              exact Zfp
            · refine Zfx ?_
              refine Zfy ?_
              refine Zfz ?_
              refine Zg0 ?_
              refine Zg1 ?_
              refine Zg2 ?_
              refine Zg3 ?_
              refine Zg4 ?_
              refine Zg5 ?_
              refine Zg6 ?_
              refine Zg7 ?_
              refine Zg8 ?_
              refine Zfw ?_
              refine Zfo ?_
              exact Zfp
        exact join_nrm (by repeat (first | exact Sub.nil | refine Sub.cons (by first | rfl | (simp [get]; done)) ?_)) (.inl rfl)
      · rw [decide_eq_false h0, Bool.false_and, Bool.not_false, Bool.and_true]
        clear hB2 hno0 hh hhl
        refine Z1 ?_
        refine aw_of_out 37 (.bool (!hmay h)) ?_ ?_
        · refine Z6z ?_
          refine Zf8 ?_
          refine Zf9 ?_
          refine Zfa ?_
          refine Z5d ?_
          refine aq_split (g := 20) rfl (fun hg6 => ?_) (fun hg6 => ?_)
          · refine Z87 ?_
            refine Zfb ?_
            refine Zfc ?_
            refine Zfd ?_
            refine Zfe ?_
            refine Zff ?_
            refine Zfg ?_
            refine Zfh ?_
            refine Zfi ?_
            refine Zfj ?_
            refine Zfk ?_
            refine Zfl ?_
            refine Zfm ?_
            refine Zfn ?_
            refine Zfo ?_
            exact Zg9
          · refine Zfq ?_
            refine Zfr ?_
            refine Zfs ?_
            refine aq_split (g := 23) rfl (fun hg9 => ?_) (fun hg9 => ?_)
            · exfalso; simp at hg9; omega
            · refine Zfx ?_
              refine Zfy ?_
              refine Zfz ?_
              refine Zg0 ?_
              refine Zg1 ?_
              refine Zg2 ?_
              refine Zg3 ?_
              refine Zg4 ?_
              refine Zg5 ?_
              refine Zg6 ?_
              refine Zg7 ?_
              refine Zg8 ?_
              refine Zfw ?_
              refine Zfo ?_
              exact Zg9
        exact join_nrm (by repeat (first | exact Sub.nil | refine Sub.cons (by first | rfl | (simp [get]; done)) ?_)) (.inl rfl)
    refine Z1 ?_
    refine aw_cond rfl (fun hc => ?_) (fun hc => ?_)
    · have hbad : heldB l i = false := by rw [hB2]; rw [Bool.not_eq_true'] at hc; rw [hc, Bool.false_and]
      refine Zh ?_
      rw [allI_false hlt hbad]
      exact Zd
    have hgd : (hmay h && !(decide (0 < i) && decide (h.id ≤ heldId l (i - 1)))) = true := by simpa only [Bool.not_eq_false'] using hc
    have hm : hmay h = true := by rw [Bool.and_eq_true] at hgd; exact hgd.1
    have hsh := hmay_sok hm
    rw [hgd, Bool.true_and] at hB2
    clear hc hgd
    refine Z58 ?_
    refine aw_loop (G := Nat) (fun k => k ≤ i ∧ noclash l h k = true) (fun k => [(0, .pl (l.map eHeld)), (3, .int .i64 (i : Int)), (4, .int .i64 (k : Int))]) (fun _ => H ++ []) (fun k => i - k) 0 ⟨Nat.zero_le _, by simp [noclash]⟩ (by repeat (first | exact Sub.nil | refine Sub.cons (by first | rfl | (simp [get]; done)) ?_)) (Fit.refl _ _) ?_
    rintro k ⟨hk, hnc⟩
    refine Z2q ?_
    refine Z1e ?_
    refine aw_cond rfl (fun hc => ?_) (fun hc => ?_)
    · have hltk : k < i := by simpa using hc
      obtain ⟨x, hx, hxl⟩ := get_in (l := l) (k := k) (by omega)
      have hrx := map_get eHeld hx
      have hwx := hl.2 x hxl
      have hsx := hmay_sok (heldB_may hx (hno0 k hltk))
      have hstep := noclash_step (h := h) hx
      clear hc
      refine Z1 ?_
      refine Z6y ?_
      refine aqp 2 rfl (by decide +kernel) (by decide) (fun G => w_indexAddrpN rfl rfl hrx rfl) ?_
      refine aqp 3 rfl (by decide +kernel) (by decide) (fun G => w_loadRp rfl hrx rfl) ?_
      refine Z71 ?_
      refine Z1m ?_
      refine aqp 6 rfl (by decide +kernel) (by decide) (fun G => w_indexAddrpN rfl rfl hr rfl) ?_
      refine aqp 7 rfl (by decide +kernel) (by decide) (fun G => w_loadRp rfl hr rfl) ?_
      refine aq02 8 rfl (by decide +kernel) (by decide) (fun _ => V2.call (ref10_clash x h _ hwx hw hsx hsh) rfl) ?_
      refine Z1l ?_
      refine aw_cond rfl (fun hc => ?_) (fun hc => ?_)
      · have hbad : heldB l i = false := by rw [hB2]; exact noclash_bad hx hltk hc
        refine Zh ?_
        rw [allI_false hlt hbad]
        exact Zd
      · refine Z2f ?_
        exact ⟨k + 1, by omega, ⟨by omega, by rw [hstep, hnc, hc]; rfl⟩, (by repeat (first | exact Sub.nil | refine Sub.cons (by first | rfl | (simp [get]; done)) ?_)), .refl _ _⟩
    · have : k = i := by simp at hc; omega
      subst this
      have hgood : heldB l k = true := by rw [hB2]; exact hnc
      refine Z2f ?_
      refine ⟨k + 1, by omega, ⟨by omega, fun m hm => ?_⟩, (by repeat (first | exact Sub.nil | refine Sub.cons (by first | rfl | (simp [get]; done)) ?_)), .refl _ _⟩
      rcases Nat.lt_or_eq_of_le (Nat.le_of_lt_succ hm) with h | h
      · exact hno0 m h
      · subst h; exact hgood
  · have : i = l.length := by simp at hc; omega
    subst this
    refine Zh ?_
    rw [allI_true hno]
    exact Zd
def QT (l : List Job) : Prop := ∀ j ∈ l, j.spec.tag.size ≤ 9223372036854775807
theorem jneg (l : List Job) (n : Int) : decide (jAt l n < 0) = !l.any fun j => decide (j.id = n) := fAt_neg _ l
theorem j12B_get {l : List Job} {i : Nat} {j : Job} (e : l[i]? = some j) : j12B l i = (jright j && !(decide (0 < i) && (decide (j.id ≤ jobId l (i - 1)) || decide (j.came < (jobAt l (i - 1)).came))) && j.needs.all fun n => l.any fun j => decide (j.id = n)) := by rw [j12B, jobAt_get e]
set_option maxHeartbeats 0 in
theorem ref12_Right (l : List Job) (H : Heap) (hl : l.length ≤ 1000000) (hq : QT l) : AC Tryz.prog 94 [.pl (l.map eJob)] H (Ret (.bool (jobsR l)) H) := by
  refine AC.body (N := 73) [.tmp 2] Tryz.func94 rfl rfl rfl (Nat.le_of_ble_eq_true rfl) fun B hB => ?_
  refine Zbs ?_
  refine aw_cond rfl (fun hc => ?_) (fun hc => ?_)
  · have h64 : ¬ l.length ≤ 64 := by simp at hc; omega
    refine Zh ?_
    rw [show jobsR l = false by rw [jobsR, decide_eq_false h64, Bool.false_and]]
    exact Zd
  have h64 : l.length ≤ 64 := by simp at hc; omega
  rw [j12_all h64]
  refine Z58 ?_
  refine aw_loop (G := Nat) (fun i => i ≤ l.length ∧ ∀ k, k < i → j12B l k = true) (fun i => [(0, .pl (l.map eJob)), (3, .int .i64 (i : Int))]) (fun _ => H ++ []) (fun i => l.length - i) 0 ⟨Nat.zero_le _, fun k hk => by omega⟩ (by repeat (first | exact Sub.nil | refine Sub.cons (by first | rfl | (simp [get]; done)) ?_)) (Fit.refl _ _) ?_
  rintro i ⟨hi, hno⟩
  refine Z6w ?_
  refine aw_cond rfl (fun hc => ?_) (fun hc => ?_)
  · have hlt : i < l.length := by simpa using hc
    obtain ⟨j, hj, hjl⟩ := get_in hlt
    have hr := map_get eJob hj
    have hts := hq j hjl
    have hB2 := j12B_get hj
    have hno0 := hno
    clear hno hc
    refine Z1 ?_
    refine aw_joinQ ([(0, .pl (l.map eJob)), (3, .int .i64 (i : Int)), (51, .bool (!(jright j && !(decide (0 < i) && (decide (j.id ≤ jobId l (i - 1)) || decide (j.came < (jobAt l (i - 1)).came))))))]) (H ++ []) ?_ ?_
    · by_cases h0 : 0 < i
      · obtain ⟨h1, hh1, _⟩ := get_in (l := l) (k := i - 1) (by omega)
        have hr1 := map_get eJob hh1
        rw [jobId_get hh1, jobAt_get hh1, decide_eq_true h0, Bool.true_and]
        clear hB2 hno0 hj hjl hh1
        refine Z1 ?_
        refine aw_of_out 51 (.bool (!(jright j && !((decide (j.id ≤ h1.id) || decide (j.came < h1.came)))))) ?_ ?_
        · refine Z6z ?_
          refine Zf8 ?_
          refine Zga ?_
          refine Zfa ?_
          refine Z5d ?_
          refine aq_split (g := 20) rfl (fun hg6 => ?_) (fun hg6 => ?_)
          · refine Z87 ?_
            refine Zfb ?_
            refine Zfc ?_
            refine Zfd ?_
            refine Zfe ?_
            refine Zff ?_
            refine Zfg ?_
            refine Zfh ?_
            refine Zfi ?_
            refine Zfj ?_
            refine Zfk ?_
            refine Zfl ?_
            refine Zfm ?_
            refine Zgb ?_
            refine Zgc ?_
            refine Zgd ?_
            refine Zge ?_
            refine Zgf ?_
            refine Zgg ?_
            refine Zgh ?_
            refine Zgi ?_
            refine Zgj ?_
            refine Zgk ?_
            refine Zgl ?_
            refine Zgm ?_
            refine Zgn ?_
            refine Zgo ?_
            refine Zgp ?_
            refine Zgq ?_
            exact Zfp
          · refine Zfq ?_
            refine Zfr ?_
            refine Zfs ?_
            refine aq_split (g := 23) rfl (fun hg9 => ?_) (fun hg9 => ?_)
            · refine Zft ?_
              refine Zfu ?_
              refine aqy0 (g := 23) 12 rfl (by decide +kernel) (by decide) rfl rfl (fun _ => o_sub (r := ((i - 1 : Nat) : Int)) rfl rfl (by rw [show (i : Int) - 1 = ((i - 1 : Nat) : Int) by omega]; exact wrap64_ok (by omega) (by omega))) ?_
              refine aqyp (g := 23) 13 rfl (by decide +kernel) (by decide) rfl rfl (fun G => w_indexAddrpN rfl rfl hr1 rfl) ?_
              first | refine aqyp (g := 23) 14 rfl (by decide +kernel) (by decide) rfl rfl (fun G => w_fieldAddr rfl (lk rfl rfl) rfl (by decide)) ?_ | refine aqyp (g := 23) 14 rfl (by decide +kernel) (by decide) rfl rfl (fun G => w_fieldAddrp rfl (by decide)) ?_ | refine aqyp (g := 23) 14 rfl (by decide +kernel) (by decide) rfl rfl (fun G => w_fieldAddr rfl (lkF hF) rfl (by decide)) ?_
              refine aqyp (g := 23) 15 rfl (by decide +kernel) (by decide) rfl rfl (fun G => o_load1p (v := .int _ _) rfl hr1 rfl) ?_
              first | refine aqy0 (g := 23) 16 rfl (by decide +kernel) (by decide) rfl rfl (fun _ => o_move (v := .sl _ _ _ _ _) rfl) ?_ | refine aqy0 (g := 23) 16 rfl (by decide +kernel) (by decide) rfl rfl (fun _ => o_move (v := .pl _) rfl) ?_ | refine aqy0 (g := 23) 16 rfl (by decide +kernel) (by decide) rfl rfl (fun _ => o_move (v := .nsl) rfl) ?_
              refine aqy0 (g := 23) 17 rfl (by decide +kernel) (by decide) rfl rfl (fun _ => o_move (v := .int _ _) rfl) ?_
              refine aqyp (g := 23) 18 rfl (by decide +kernel) (by decide) rfl rfl (fun G => w_indexAddrpN rfl rfl hr rfl) ?_
              refine Zfv ?_
              refine aqyp (g := 23) 20 rfl (by decide +kernel) (by decide) rfl rfl (fun G => o_load1p (v := .int _ _) rfl hr rfl) ?_
              refine aqy0 (g := 23) 21 rfl (by decide +kernel) (by decide) rfl rfl (fun _ => o_ge rfl rfl) ?_
              refine aqy0 (g := 23) 22 rfl (by decide +kernel) (by decide) rfl rfl (fun _ => o_move (v := .bool _) rfl) ?_
              refine aq_split (g := 36) rfl (fun hg22 => ?_) (fun hg22 => ?_)
              · refine aqn0 (g := 36) 23 rfl (by decide +kernel) (by decide) rfl rfl rfl ?_
                refine aqn0 (g := 36) 24 rfl (by decide +kernel) (by decide) rfl rfl rfl ?_
                refine aqn0 (g := 36) 25 rfl (by decide +kernel) (by decide) rfl rfl rfl ?_
                refine aqn0 (g := 36) 26 rfl (by decide +kernel) (by decide) rfl rfl rfl ?_
                refine aqn0 (g := 36) 27 rfl (by decide +kernel) (by decide) rfl rfl rfl ?_
                refine aqn0 (g := 36) 28 rfl (by decide +kernel) (by decide) rfl rfl rfl ?_
                refine aqn0 (g := 36) 29 rfl (by decide +kernel) (by decide) rfl rfl rfl ?_
                refine aqn0 (g := 36) 30 rfl (by decide +kernel) (by decide) rfl rfl rfl ?_
                refine aqn0 (g := 36) 31 rfl (by decide +kernel) (by decide) rfl rfl rfl ?_
                refine aqn0 (g := 36) 32 rfl (by decide +kernel) (by decide) rfl rfl rfl ?_
                refine aqn0 (g := 36) 33 rfl (by decide +kernel) (by decide) rfl rfl rfl ?_
                refine aqn0 (g := 36) 34 rfl (by decide +kernel) (by decide) rfl rfl rfl ?_
                refine Zgr ?_
                refine Zgs ?_
                refine Zgq ?_
                exact Zfp
              · first | refine aqy0 (g := 36) 23 rfl (by decide +kernel) (by decide) rfl rfl (fun _ => o_move (v := .sl _ _ _ _ _) rfl) ?_ | refine aqy0 (g := 36) 23 rfl (by decide +kernel) (by decide) rfl rfl (fun _ => o_move (v := .pl _) rfl) ?_ | refine aqy0 (g := 36) 23 rfl (by decide +kernel) (by decide) rfl rfl (fun _ => o_move (v := .nsl) rfl) ?_
                refine aqy0 (g := 36) 24 rfl (by decide +kernel) (by decide) rfl rfl (fun _ => o_move (v := .int _ _) rfl) ?_
                refine aqy0 (g := 36) 25 rfl (by decide +kernel) (by decide) rfl rfl (fun _ => o_sub (r := ((i - 1 : Nat) : Int)) rfl rfl (by rw [show (i : Int) - 1 = ((i - 1 : Nat) : Int) by omega]; exact wrap64_ok (by omega) (by omega))) ?_
                refine aqyp (g := 36) 26 rfl (by decide +kernel) (by decide) rfl rfl (fun G => w_indexAddrpN rfl rfl hr1 rfl) ?_
                first | refine aqyp (g := 36) 27 rfl (by decide +kernel) (by decide) rfl rfl (fun G => w_fieldAddr rfl (lk rfl rfl) rfl (by decide)) ?_ | refine aqyp (g := 36) 27 rfl (by decide +kernel) (by decide) rfl rfl (fun G => w_fieldAddrp rfl (by decide)) ?_ | refine aqyp (g := 36) 27 rfl (by decide +kernel) (by decide) rfl rfl (fun G => w_fieldAddr rfl (lkF hF) rfl (by decide)) ?_
                refine aqyp (g := 36) 28 rfl (by decide +kernel) (by decide) rfl rfl (fun G => o_load1p (v := .int _ _) rfl hr1 rfl) ?_
                first | refine aqy0 (g := 36) 29 rfl (by decide +kernel) (by decide) rfl rfl (fun _ => o_move (v := .sl _ _ _ _ _) rfl) ?_ | refine aqy0 (g := 36) 29 rfl (by decide +kernel) (by decide) rfl rfl (fun _ => o_move (v := .pl _) rfl) ?_ | refine aqy0 (g := 36) 29 rfl (by decide +kernel) (by decide) rfl rfl (fun _ => o_move (v := .nsl) rfl) ?_
                refine aqy0 (g := 36) 30 rfl (by decide +kernel) (by decide) rfl rfl (fun _ => o_move (v := .int _ _) rfl) ?_
                refine aqyp (g := 36) 31 rfl (by decide +kernel) (by decide) rfl rfl (fun G => w_indexAddrpN rfl rfl hr rfl) ?_
                first | refine aqyp (g := 36) 32 rfl (by decide +kernel) (by decide) rfl rfl (fun G => w_fieldAddr rfl (lk rfl rfl) rfl (by decide)) ?_ | refine aqyp (g := 36) 32 rfl (by decide +kernel) (by decide) rfl rfl (fun G => w_fieldAddrp rfl (by decide)) ?_ | refine aqyp (g := 36) 32 rfl (by decide +kernel) (by decide) rfl rfl (fun G => w_fieldAddr rfl (lkF hF) rfl (by decide)) ?_
                refine aqyp (g := 36) 33 rfl (by decide +kernel) (by decide) rfl rfl (fun G => o_load1p (v := .int _ _) rfl hr rfl) ?_
                refine aqy0 (g := 36) 34 rfl (by decide +kernel) (by decide) rfl rfl (fun _ => o_gt rfl rfl) ?_
                refine Zgr ?_
                refine Zgs ?_
                refine Zgq ?_
                exact Zfp
            · refine Zfx ?_
              refine Zfy ?_
              refine Zfz ?_
              refine Zg0 ?_
              refine Zg1 ?_
              refine Zg2 ?_
              refine Zg3 ?_
              refine Zg4 ?_
              refine Zg5 ?_
              refine Zg6 ?_
              refine Zg7 ?_
              refine Zg8 ?_
              refine Zgt ?_
              refine Zgc ?_
              refine Zgd ?_
              refine Zge ?_
              refine Zgf ?_
              refine Zgg ?_
              refine Zgh ?_
              refine Zgi ?_
              refine Zgj ?_
              refine Zgk ?_
              refine Zgl ?_
              refine Zgm ?_
              refine Zgn ?_
              refine Zgu ?_
              refine Zgs ?_
              refine Zgq ?_
              exact Zfp
        exact join_nrm (by repeat (first | exact Sub.nil | refine Sub.cons (by first | rfl | (simp [get]; done)) ?_)) (.inl rfl)
      · rw [decide_eq_false h0, Bool.false_and, Bool.not_false, Bool.and_true]
        clear hB2 hno0 hj hjl
        refine Z1 ?_
        refine aw_of_out 51 (.bool (!jright j)) ?_ ?_
        · refine Z6z ?_
          refine Zf8 ?_
          refine Zga ?_
          refine Zfa ?_
          refine Z5d ?_
          refine aq_split (g := 20) rfl (fun hg6 => ?_) (fun hg6 => ?_)
          · refine Z87 ?_
            refine Zfb ?_
            refine Zfc ?_
            refine Zfd ?_
            refine Zfe ?_
            refine Zff ?_
            refine Zfg ?_
            refine Zfh ?_
            refine Zfi ?_
            refine Zfj ?_
            refine Zfk ?_
            refine Zfl ?_
            refine Zfm ?_
            refine Zgb ?_
            refine Zgc ?_
            refine Zgd ?_
            refine Zge ?_
            refine Zgf ?_
            refine Zgg ?_
            refine Zgh ?_
            refine Zgi ?_
            refine Zgj ?_
            refine Zgk ?_
            refine Zgl ?_
            refine Zgm ?_
            refine Zgn ?_
            refine Zgo ?_
            refine Zgp ?_
            refine Zgq ?_
            exact Zg9
          · refine Zfq ?_
            refine Zfr ?_
            refine Zfs ?_
            refine aq_split (g := 23) rfl (fun hg9 => ?_) (fun hg9 => ?_)
            · exfalso; simp at hg9; omega
            · refine Zfx ?_
              refine Zfy ?_
              refine Zfz ?_
              refine Zg0 ?_
              refine Zg1 ?_
              refine Zg2 ?_
              refine Zg3 ?_
              refine Zg4 ?_
              refine Zg5 ?_
              refine Zg6 ?_
              refine Zg7 ?_
              refine Zg8 ?_
              refine Zgt ?_
              refine Zgc ?_
              refine Zgd ?_
              refine Zge ?_
              refine Zgf ?_
              refine Zgg ?_
              refine Zgh ?_
              refine Zgi ?_
              refine Zgj ?_
              refine Zgk ?_
              refine Zgl ?_
              refine Zgm ?_
              refine Zgn ?_
              refine Zgu ?_
              refine Zgs ?_
              refine Zgq ?_
              exact Zg9
        exact join_nrm (by repeat (first | exact Sub.nil | refine Sub.cons (by first | rfl | (simp [get]; done)) ?_)) (.inl rfl)
    refine Z1 ?_
    refine aw_cond rfl (fun hc => ?_) (fun hc => ?_)
    · have hbad : j12B l i = false := by rw [hB2]; rw [Bool.not_eq_true'] at hc; rw [hc, Bool.false_and]
      refine Zh ?_
      rw [allI_false hlt hbad]
      exact Zd
    have hgd : (jright j && !(decide (0 < i) && (decide (j.id ≤ jobId l (i - 1)) || decide (j.came < (jobAt l (i - 1)).came)))) = true := by simpa only [Bool.not_eq_false'] using hc
    have hjr : jright j = true := by rw [Bool.and_eq_true] at hgd; exact hgd.1
    have hn16 := jright_needs hjr
    rw [hgd, Bool.true_and] at hB2
    clear hc hgd
    refine Z58 ?_
    refine aw_loop (G := Nat) (fun k => k ≤ j.needs.length ∧ ∀ n ∈ j.needs.take k, (l.any fun j => decide (j.id = n)) = true) (fun k => [(0, .pl (l.map eJob)), (3, .int .i64 (i : Int)), (4, .int .i64 (k : Int))]) (fun _ => H ++ []) (fun k => j.needs.length - k) 0 ⟨Nat.zero_le _, by simp⟩ (by repeat (first | exact Sub.nil | refine Sub.cons (by first | rfl | (simp [get]; done)) ?_)) (Fit.refl _ _) ?_
    rintro k ⟨hk, hhit⟩
    refine Z10 ?_
    refine Z98 ?_
    refine Z4e ?_
    refine Z4b ?_
    refine Z1e ?_
    refine aw_cond rfl (fun hc => ?_) (fun hc => ?_)
    · have hltk : k < j.needs.length := by simpa using hc
      obtain ⟨n, hn, hnl⟩ := get_in hltk
      have hr2 := map_get eI hn
      clear hc
      refine Z8c ?_
      refine Z98 ?_
      refine Zdg ?_
      refine Z2u ?_
      refine ao1 (by decide) (o_load1p (v := .pl _) rfl hr rfl) ?_
      refine Za ?_
      refine Zde ?_
      refine Zdf ?_
      refine ao_ret (ref12_At _ _ _ (by omega)) rfl (by decide) ?_
      refine Zu ?_
      refine Z6 ?_
      rw [jneg]
      refine Z1 ?_
      refine aw_cond rfl (fun hc => ?_) (fun hc => ?_)
      · have hbad : j12B l i = false := by
          rw [hB2, List.all_eq_false]
          exact ⟨n, hnl, by rw [Bool.not_eq_true]; simpa only [Bool.not_eq_true'] using hc⟩
        refine Zh ?_
        rw [allI_false hlt hbad]
        exact Zd
      · refine Z2f ?_
        refine ⟨k + 1, by omega, ⟨by omega, ?_⟩, (by repeat (first | exact Sub.nil | refine Sub.cons (by first | rfl | (simp [get]; done)) ?_)), .refl _ _⟩
        rw [take_snoc_get hn]
        intro y hy
        rcases List.mem_append.1 hy with h | h
        · exact hhit y h
        · simp only [List.mem_singleton] at h
          subst h
          simpa only [Bool.not_eq_false'] using hc
    · have : k = j.needs.length := by simp at hc; omega
      subst this
      rw [List.take_length] at hhit
      have hgood : j12B l i = true := by rw [hB2, List.all_eq_true]; exact hhit
      refine Z2f ?_
      refine ⟨i + 1, by omega, ⟨by omega, fun m hm => ?_⟩, (by repeat (first | exact Sub.nil | refine Sub.cons (by first | rfl | (simp [get]; done)) ?_)), .refl _ _⟩
      rcases Nat.lt_or_eq_of_le (Nat.le_of_lt_succ hm) with h | h
      · exact hno0 m h
      · subst h; exact hgood
  · have : i = l.length := by simp at hc; omega
    subst this
    refine Zh ?_
    rw [allI_true hno]
    exact Zd
end Go.Av

namespace Go.Av
open Go.Proofs
set_option maxRecDepth 10000
set_option linter.unusedSimpArgs false
set_option linter.unusedVariables false

set_option maxHeartbeats 0 in
theorem queue_Counts (l : List Job) (H : Heap) (hl : l.length ≤ 1000000) : AC Tryz.prog 44 [.pl (l.map eJob)] H (Ret (.agg ((jobsCounts l).map (AV.int .i64))) H) := by
  refine AC.body (N := 24) [.cell 2 29] Tryz.func44 rfl rfl rfl (Nat.le_of_ble_eq_true rfl) fun B hB => ?_
  refine Z2 ?_
  refine Zgv ?_
  refine Z7 ?_
  refine Zgv ?_
  refine Z7 ?_
  refine Z45 ?_
  refine ao_ret (queue_Right _ _ (by omega)) rfl (by decide) ?_
  refine Z3u ?_
  refine aw_cond rfl (fun hc => ?_) (fun hc => ?_)
  · have hno : jobsR l = false := by simpa only [Bool.not_eq_true'] using hc
    rw [counts_no hno]
    refine Z2 ?_
    refine Z3t ?_
    refine Zgw ?_
    exact Zbe
  have hyes : jobsR l = true := by simpa only [Bool.not_eq_false'] using hc
  rw [counts_yes hyes]
  clear hc
  refine Zb3 ?_
  refine aw_loop (G := Nat) (fun k => k ≤ l.length) (fun k => [(2, .pt (Lid H.length 0) 0 0 0), (3, .pt (Lid H.length 1) 0 0 0), (10, .pl (l.map eJob)), (11, .int .i64 (l.length : Int)), (12, .int .i64 (k : Int))]) (fun k => H ++ [⟨0, 7, [eK7 (fun _ => 0)]⟩, ⟨0, 7, [eK7 (sfun (l.take k))]⟩]) (fun k => l.length - k) 0 (Nat.zero_le _) (by repeat (first | exact Sub.nil | refine Sub.cons (by first | rfl | (simp [get]; done)) ?_)) (.inl rfl) ?_
  intro k hk
  refine Z4d ?_
  refine aw_cond rfl (fun hc => ?_) (fun hc => ?_)
  · have hlt : k < l.length := by simp at hc; omega
    obtain ⟨x, hx, hxl⟩ := get_in hlt
    have hr := map_get eJob hx
    have hstep := fun c => stcnt_step hx c
    obtain ⟨c, hcc, hc7⟩ : ∃ c : Nat, x.state = c ∧ c < 7 := ⟨x.state.toNat, by have := jright_state ((jobs_iff.1 hyes).2.1 x hxl); omega, by have := jright_state ((jobs_iff.1 hyes).2.1 x hxl); omega⟩
    have hb := stcnt_le (l.take k) c
    have hb2 : (l.take k).length ≤ 1000000 := by rw [List.length_take]; omega
    have hcell : (eK7 (sfun (l.take k)))[0 + c * 1]? = some (.int .i64 (sfun (l.take k) c)) := by rw [Nat.zero_add, Nat.mul_one]; exact eK7_get _ hc7
    have hset : (eK7 (sfun (l.take k))).take (0 + c * 1) ++ [AV.int .i64 (sfun (l.take k) c + 1)] ++ (eK7 (sfun (l.take k))).drop (0 + c * 1 + 1) = eK7 (sfun (l.take (k + 1))) := by
      rw [Nat.zero_add, Nat.mul_one, eK7_set _ hc7]
      refine eK7_congr fun j _ => ?_
      simp only [sfun, hstep, hcc]
      by_cases e : j = c
      · subst e; simp
      · have : ¬ (c : Int) = (j : Int) := by omega
        simp [e, this]
    refine Z2 ?_
    refine Z4e ?_
    refine Z6d ?_
    refine Z6b ?_
    refine Z6g ?_
    refine Z7 ?_
    refine Z2w ?_
    refine Zgx ?_
    refine Zbh ?_
    refine ao1 (by decide) (o_add (r := sfun (l.take k) c + 1) rfl rfl (wrap64_ok (by simp only [sfun]; omega) (by simp only [sfun]; omega))) ?_
    refine Zgx ?_
    refine ao2 (by rintro _ ⟨⟩) (w_storeP (sz := 1) (v := .int .i64 _) (r' := eK7 (sfun (l.take (k + 1)))) rfl rfl rfl rfl rfl rfl rfl rfl (by show _ ≤ 7; omega) hset) ?_
    refine Z7 ?_
    refine Z4k ?_
    exact ⟨k + 1, by omega, by omega, (by repeat (first | exact Sub.nil | refine Sub.cons (by first | rfl | (simp [get]; done)) ?_)), Fit.loc hB rfl (by repeat (first | exact EBel.nil | refine EBel.cons (by first | rfl | (simp [AV.bel, AV.bels, Lid]; done) | (simp [AV.bel, AV.bels, Lid]; omega)) ?_)) (by intro o ho r hr; simp only [List.mem_cons, List.not_mem_nil, or_false] at ho; rcases ho with rfl | rfl <;> (simp only [List.mem_singleton] at hr; subst hr; rfl))⟩
  · have : k = l.length := by simp at hc; omega
    subst this
    refine Z2 ?_
    refine Z3t ?_
    refine Zgw ?_
    refine Zb ?_
    rw [List.take_length]
    exact Zbd

theorem inst_policy (p d : Int) (H : Heap) : AC Tryz.prog 51 [.int .i64 p, .int .i64 d] H (Ret (.bool (ipolicy p d)) H) := by
  refine AC.body (N := 19) [.tmp 4] Tryz.func51 rfl rfl rfl (Nat.le_of_ble_eq_true rfl) fun B hB => ?_
  refine Zh ?_
  refine aw_out 4 (.bool (ipolicy p d)) ?_ ?_
  · refine Za ?_
    refine Z20 ?_
    refine ao_split rfl rfl (fun hg2 => ?_) (fun hg2 => ?_)
    · refine Zy ?_
      refine Z31 ?_
      refine ao_split rfl rfl (fun hg6 => ?_) (fun hg6 => ?_)
      · refine Zl ?_
        refine Z23 ?_
        refine Z31 ?_
        refine ao_split rfl rfl (fun hg10 => ?_) (fun hg10 => ?_)
        · refine Zy ?_
          refine Zo ?_
          exact Zgy
        · refine Zt ?_
          exact Zgy
      · refine Zs ?_
        refine Z31 ?_
        refine Zt ?_
        exact Zgy
    · refine Zs ?_
      refine Z31 ?_
      refine Zs ?_
      refine Z31 ?_
      refine Zt ?_
      exact Zgy
  exact Z1z
theorem inst_things (g : List Thing) (l : List Int) (H : Heap) (hg : g.length ≤ 1000000) (hl : l.length ≤ 1000000) : AC Tryz.prog 73 [.pl (g.map eThing), .pl (l.map eInt)] H (Ret (.bool (ithings g l)) H) := by
  refine AC.body (N := 23) [.tmp 4] Tryz.func73 rfl rfl rfl (Nat.le_of_ble_eq_true rfl) fun B hB => ?_
  refine Z1r ?_
  refine Z6 ?_
  by_cases h0 : l.length = 0
  · refine Z1 ?_
    refine aw_out 4 (.bool (ithings g l)) ?_ ?_
    · refine Z45 ?_
      refine Zgz ?_
      refine Zj ?_
      refine ao_split rfl rfl (fun hg2 => ?_) (fun hg2 => ?_)
      · refine Zbi ?_
        refine Z24 ?_
        refine ao_split rfl rfl (fun hg6 => ?_) (fun hg6 => ?_)
        · refine Z4g ?_
          refine Z36 ?_
          refine Z37 ?_
          refine Zh0 ?_
          exact Zh1
        · exfalso; have := List.eq_nil_of_length_eq_zero h0; subst this; simp at hg6
      · refine Z29 ?_
        refine Z2b ?_
        refine Z2b ?_
        refine Zb5 ?_
        refine Z4v ?_
        exact Zh1
    exact Z1z
  · obtain ⟨x, hx, hxl⟩ := get_in (l := l) (k := l.length - 1) (by omega)
    have hr := map_get eInt hx
    have hd : l.getD (l.length - 1) 0 = x := by rw [List.getD_eq_getElem?_getD, hx]; rfl
    have hs : ithings g l = (sok l && decide (x < (g.length : Int))) := by rw [ithings, hd, decide_eq_false h0, Bool.false_or]
    rw [hs]
    refine Z1 ?_
    refine aw_out 4 (.bool (sok l && decide (x < (g.length : Int)))) ?_ ?_
    · refine Z45 ?_
      refine Zgz ?_
      refine Zj ?_
      refine ao_split rfl rfl (fun hg2 => ?_) (fun hg2 => ?_)
      · refine Zbi ?_
        refine Z24 ?_
        refine ao_split rfl rfl (fun hg6 => ?_) (fun hg6 => ?_)
        · refine Z4g ?_
          refine Z36 ?_
          refine Z37 ?_
          refine Zh0 ?_
          exact Zh2
        · refine Z95 ?_
          refine Z9r ?_
          refine Zh3 ?_
          refine Zdb ?_
          refine Z2y ?_
          refine Z9r ?_
          refine Zm ?_
          refine Zh0 ?_
          exact Zh2
      · refine Z29 ?_
        refine Z2b ?_
        refine Z2b ?_
        refine Zb5 ?_
        refine Z4v ?_
        exact Zh2
    exact Z1z
abbrev eInst (i : Inst) : List AV := [.pl (i.graph.map eThing), .pl (i.health.map eI), .pl (i.lease.map eI), .int .i64 i.til, .pl (i.jobs.map eJob), .pl (i.table.map eHeld), .int .i64 i.now, .int .i64 i.policy, .int .i64 i.depth]
set_option maxHeartbeats 0 in
theorem inst_told (i : Inst) (H : Heap) (hw : IW i) : AC Tryz.prog 77 [.agg (eInst i)] H (Ret (.bool (itold i)) H) := by
  have w1 := hw.graph
  have w2 := hw.jobs
  have w3 := hw.table
  refine AC.body (N := 80) [.tmp 2] Tryz.func77 rfl rfl rfl (Nat.le_of_ble_eq_true rfl) fun B hB => ?_
  refine Zh5 ?_
  refine Z1o ?_
  refine Z1a ?_
  refine Z4b ?_
  refine Z4c ?_
  refine aw_loop (G := Nat) (fun k => k ≤ i.jobs.length ∧ ∀ m, m < k → itoldB i m = true) (fun k => [(1, .pt (Lid H.length 0) 0 0 0), (3, .int .i64 (runs (i.jobs.take k) : Int)), (9, .pl (i.jobs.map eJob)), (10, .int .i64 (i.jobs.length : Int)), (11, .int .i64 (k : Int))]) (fun _ => H ++ [⟨0, 9, [eInst i]⟩]) (fun k => i.jobs.length - k) 0 ⟨Nat.zero_le _, fun m hm => by omega⟩ (by repeat (first | exact Sub.nil | refine Sub.cons (by first | rfl | (simp [get]; done)) ?_)) (Fit.refl _ _) ?_
  rintro k ⟨hk, hno⟩
  have hbel : ∀ (b : Nat), ∀ o ∈ [AObj.mk 0 9 [eInst i]], ∀ r ∈ o.rows, AV.bels b r = true := by
    intro b o ho r hr
    simp only [List.mem_singleton] at ho
    subst ho
    simp only [List.mem_singleton] at hr
    subst hr
    rfl
  refine Z4d ?_
  refine aw_cond rfl (fun hc => ?_) (fun hc => ?_)
  · have hlt : k < i.jobs.length := by simp at hc; omega
    obtain ⟨j, hj, hjl⟩ := get_in hlt
    have hr := map_get eJob hj
    have hB2 := itoldB_get hj
    have hstep := runs_step hj
    have hrl := runs_le (i.jobs.take k)
    rw [List.length_take] at hrl
    have hno0 := hno
    have hget := heldGet_len w3 j.id
    clear hno hc
    refine Z2 ?_
    refine Z4e ?_
    refine Z6d ?_
    refine Z6b ?_
    refine Z6g ?_
    refine Z6 ?_
    clear hr
    refine Z1 ?_
    refine aw_out 26 (.bool (!(decide (j.came ≤ i.now) && decide (j.frm ≤ i.now)))) ?_ ?_
    · refine Z5z ?_
      refine Z2j ?_
      refine Zj ?_
      refine ao_split rfl rfl (fun hg5 => ?_) (fun hg5 => ?_)
      · refine Z36 ?_
        refine Z3j ?_
        exact Zh6
      · refine Z2z ?_
        refine Z3b ?_
        refine Zn ?_
        exact Zh6
    refine Z1 ?_
    refine aw_cond rfl (fun hc => ?_) (fun hc => ?_)
    · have hbad : itoldB i k = false := by rw [Bool.not_eq_true'] at hc; rw [hB2, hc, Bool.false_and]
      refine Zh ?_
      rw [show itold i = false by rw [itold, allI_false hlt hbad, Bool.false_and]]
      exact Zd
    have h1 : (decide (j.came ≤ i.now) && decide (j.frm ≤ i.now)) = true := by simpa only [Bool.not_eq_false'] using hc
    rw [h1, Bool.true_and] at hB2
    clear hc
    refine Z3w ?_
    refine Z2n ?_
    refine Zb ?_
    refine aw_cond rfl (fun hc => ?_) (fun hc => ?_)
    · have h2 : j.state ≠ 2 := by simpa using hc
      rw [decide_eq_true h2, Bool.true_or] at hB2
      rw [if_neg (by simpa using h2), Nat.add_zero] at hstep
      refine Z7a ?_
      refine ⟨k + 1, by omega, ⟨by omega, fun m hm => ?_⟩, by rw [hstep]; exact (by repeat (first | exact Sub.nil | refine Sub.cons (by first | rfl | (simp [get]; done)) ?_)), Fit.loc hB rfl (by repeat (first | exact EBel.nil | refine EBel.cons (by first | rfl | (simp [AV.bel, AV.bels, Lid]; done) | (simp [AV.bel, AV.bels, Lid]; omega)) ?_)) (hbel _)⟩
      rcases Nat.lt_or_eq_of_le (Nat.le_of_lt_succ hm) with h | h
      · exact hno0 m h
      · subst h; exact hB2
    have h2 : j.state = 2 := by simpa using hc
    rw [if_pos (by simpa using h2)] at hstep
    rw [show decide (j.state ≠ 2) = false by simp [h2], Bool.false_or] at hB2
    refine Z10 ?_
    refine Zh7 ?_
    refine Z1a ?_
    refine Z4a ?_
    refine Z2w ?_
    refine ao_ret (held_Get _ _ _ (by assumption)) rfl (by decide) ?_
    refine Z7d ?_
    refine Z7e ?_
    refine Zbt ?_
    refine Zf ?_
    refine Z6 ?_
    generalize heldGet i.table j.id = q at hB2 hget ⊢
    obtain ⟨h, ok⟩ := q
    simp only at hB2 hget
    clear hj hjl
    refine Z1 ?_
    refine aw_of_out 73 (.bool (!itoldB i k)) ?_ ?_
    · refine Zh8 ?_
      refine Z1f ?_
      refine Z7p ?_
      refine aq0 1 rfl (by decide +kernel) (by decide) (fun _ => o_not rfl) ?_
      refine Z7f ?_
      refine aq_split (g := 42) rfl (fun hg2 => ?_) (fun hg2 => ?_)
      · refine aqn0 (g := 42) 3 rfl (by decide +kernel) (by decide) rfl rfl rfl ?_
        refine aqn0 (g := 42) 4 rfl (by decide +kernel) (by decide) rfl rfl rfl ?_
        refine aqn0 (g := 42) 5 rfl (by decide +kernel) (by decide) rfl rfl rfl ?_
        refine aqn0 (g := 42) 6 rfl (by decide +kernel) (by decide) rfl rfl rfl ?_
        refine aqn0 (g := 42) 7 rfl (by decide +kernel) (by decide) rfl rfl rfl ?_
        refine Za3 ?_
        refine Zh9 ?_
        refine Zha ?_
        refine Zhb ?_
        refine Zhc ?_
        refine Zhd ?_
        refine Zhe ?_
        refine Zhf ?_
        refine Zhg ?_
        refine Zhh ?_
        refine Zhi ?_
        refine Zhj ?_
        refine Zhk ?_
        refine Zhl ?_
        refine Zhm ?_
        refine Zhn ?_
        refine Zho ?_
        refine Zhp ?_
        refine Zhq ?_
        refine Zhr ?_
        refine Zhs ?_
        refine Zht ?_
        refine Zhu ?_
        refine Zhv ?_
        refine Z5w ?_
        exact Zhw
      · first | refine aqyp (g := 42) 3 rfl (by decide +kernel) (by decide) rfl rfl (fun G => w_fieldAddr rfl (lk rfl rfl) rfl (by decide)) ?_ | refine aqyp (g := 42) 3 rfl (by decide +kernel) (by decide) rfl rfl (fun G => w_fieldAddrp rfl (by decide)) ?_ | refine aqyp (g := 42) 3 rfl (by decide +kernel) (by decide) rfl rfl (fun G => w_fieldAddr rfl (lkF hF) rfl (by decide)) ?_
        first | refine aqyp (g := 42) 4 rfl (by decide +kernel) (by decide) rfl rfl (fun G => w_load1 (v := .int _ _) rfl (lk rfl rfl) rfl rfl rfl) ?_ | refine aqyp (g := 42) 4 rfl (by decide +kernel) (by decide) rfl rfl (fun G => w_load1 (v := .int _ _) rfl (lk rfl rfl) rfl (zadd hr) rfl) ?_ | refine aqyp (g := 42) 4 rfl (by decide +kernel) (by decide) rfl rfl (fun G => w_load1 (v := .int _ _) rfl (lk rfl rfl) rfl (zadd hr1) rfl) ?_ | refine aqyp (g := 42) 4 rfl (by decide +kernel) (by decide) rfl rfl (fun G => w_load1 (v := .int _ _) rfl (lk rfl rfl) rfl (zadd hr2) rfl) ?_ | refine aqyp (g := 42) 4 rfl (by decide +kernel) (by decide) rfl rfl (fun G => o_load1p (v := .int _ _) rfl hr rfl) ?_ | refine aqyp (g := 42) 4 rfl (by decide +kernel) (by decide) rfl rfl (fun G => o_load1p (v := .int _ _) rfl hr1 rfl) ?_ | refine aqyp (g := 42) 4 rfl (by decide +kernel) (by decide) rfl rfl (fun G => o_load1p (v := .int _ _) rfl hr2 rfl) ?_ | refine aqyp (g := 42) 4 rfl (by decide +kernel) (by decide) rfl rfl (fun G => w_load1 (v := .int _ _) rfl (lkF hF) rfl rfl rfl) ?_
        first | refine aqyp (g := 42) 5 rfl (by decide +kernel) (by decide) rfl rfl (fun G => w_fieldAddr rfl (lk rfl rfl) rfl (by decide)) ?_ | refine aqyp (g := 42) 5 rfl (by decide +kernel) (by decide) rfl rfl (fun G => w_fieldAddrp rfl (by decide)) ?_ | refine aqyp (g := 42) 5 rfl (by decide +kernel) (by decide) rfl rfl (fun G => w_fieldAddr rfl (lkF hF) rfl (by decide)) ?_
        first | refine aqyp (g := 42) 6 rfl (by decide +kernel) (by decide) rfl rfl (fun G => w_load1 (v := .int _ _) rfl (lk rfl rfl) rfl rfl rfl) ?_ | refine aqyp (g := 42) 6 rfl (by decide +kernel) (by decide) rfl rfl (fun G => w_load1 (v := .int _ _) rfl (lk rfl rfl) rfl (zadd hr) rfl) ?_ | refine aqyp (g := 42) 6 rfl (by decide +kernel) (by decide) rfl rfl (fun G => w_load1 (v := .int _ _) rfl (lk rfl rfl) rfl (zadd hr1) rfl) ?_ | refine aqyp (g := 42) 6 rfl (by decide +kernel) (by decide) rfl rfl (fun G => w_load1 (v := .int _ _) rfl (lk rfl rfl) rfl (zadd hr2) rfl) ?_ | refine aqyp (g := 42) 6 rfl (by decide +kernel) (by decide) rfl rfl (fun G => o_load1p (v := .int _ _) rfl hr rfl) ?_ | refine aqyp (g := 42) 6 rfl (by decide +kernel) (by decide) rfl rfl (fun G => o_load1p (v := .int _ _) rfl hr1 rfl) ?_ | refine aqyp (g := 42) 6 rfl (by decide +kernel) (by decide) rfl rfl (fun G => o_load1p (v := .int _ _) rfl hr2 rfl) ?_ | refine aqyp (g := 42) 6 rfl (by decide +kernel) (by decide) rfl rfl (fun G => w_load1 (v := .int _ _) rfl (lkF hF) rfl rfl rfl) ?_
        refine aqy0 (g := 42) 7 rfl (by decide +kernel) (by decide) rfl rfl (fun _ => o_ne rfl rfl) ?_
        refine Za3 ?_
        refine aq_split (g := 49) rfl (fun hg9 => ?_) (fun hg9 => ?_)
        · refine Zh9 ?_
          refine Zha ?_
          refine Zhb ?_
          refine Zhc ?_
          refine Zhd ?_
          refine Zhe ?_
          refine Zhf ?_
          refine Zhg ?_
          refine Zhh ?_
          refine Zhi ?_
          refine Zhj ?_
          refine Zhk ?_
          refine Zhl ?_
          refine Zhm ?_
          refine Zhn ?_
          refine Zho ?_
          refine Zhp ?_
          refine Zhq ?_
          refine Zhr ?_
          refine Zhs ?_
          refine Zht ?_
          refine Zhu ?_
          refine Zhv ?_
          refine Z5w ?_
          exact Zhw
        · first | refine aqyp (g := 49) 10 rfl (by decide +kernel) (by decide) rfl rfl (fun G => w_fieldAddr rfl (lk rfl rfl) rfl (by decide)) ?_ | refine aqyp (g := 49) 10 rfl (by decide +kernel) (by decide) rfl rfl (fun G => w_fieldAddrp rfl (by decide)) ?_ | refine aqyp (g := 49) 10 rfl (by decide +kernel) (by decide) rfl rfl (fun G => w_fieldAddr rfl (lkF hF) rfl (by decide)) ?_
          first | refine aqyp (g := 49) 11 rfl (by decide +kernel) (by decide) rfl rfl (fun G => w_load1 (v := .int _ _) rfl (lk rfl rfl) rfl rfl rfl) ?_ | refine aqyp (g := 49) 11 rfl (by decide +kernel) (by decide) rfl rfl (fun G => w_load1 (v := .int _ _) rfl (lk rfl rfl) rfl (zadd hr) rfl) ?_ | refine aqyp (g := 49) 11 rfl (by decide +kernel) (by decide) rfl rfl (fun G => w_load1 (v := .int _ _) rfl (lk rfl rfl) rfl (zadd hr1) rfl) ?_ | refine aqyp (g := 49) 11 rfl (by decide +kernel) (by decide) rfl rfl (fun G => w_load1 (v := .int _ _) rfl (lk rfl rfl) rfl (zadd hr2) rfl) ?_ | refine aqyp (g := 49) 11 rfl (by decide +kernel) (by decide) rfl rfl (fun G => o_load1p (v := .int _ _) rfl hr rfl) ?_ | refine aqyp (g := 49) 11 rfl (by decide +kernel) (by decide) rfl rfl (fun G => o_load1p (v := .int _ _) rfl hr1 rfl) ?_ | refine aqyp (g := 49) 11 rfl (by decide +kernel) (by decide) rfl rfl (fun G => o_load1p (v := .int _ _) rfl hr2 rfl) ?_ | refine aqyp (g := 49) 11 rfl (by decide +kernel) (by decide) rfl rfl (fun G => w_load1 (v := .int _ _) rfl (lkF hF) rfl rfl rfl) ?_
          first | refine aqyp (g := 49) 12 rfl (by decide +kernel) (by decide) rfl rfl (fun G => w_fieldAddr rfl (lk rfl rfl) rfl (by decide)) ?_ | refine aqyp (g := 49) 12 rfl (by decide +kernel) (by decide) rfl rfl (fun G => w_fieldAddrp rfl (by decide)) ?_ | refine aqyp (g := 49) 12 rfl (by decide +kernel) (by decide) rfl rfl (fun G => w_fieldAddr rfl (lkF hF) rfl (by decide)) ?_
          first | refine aqyp (g := 49) 13 rfl (by decide +kernel) (by decide) rfl rfl (fun G => w_loadR rfl (lk rfl rfl) rfl rfl rfl) ?_ | refine aqyp (g := 49) 13 rfl (by decide +kernel) (by decide) rfl rfl (fun G => w_loadR rfl (lk rfl rfl) rfl (zadd hr) rfl) ?_ | refine aqyp (g := 49) 13 rfl (by decide +kernel) (by decide) rfl rfl (fun G => w_loadR rfl (lk rfl rfl) rfl (zadd hr1) rfl) ?_ | refine aqyp (g := 49) 13 rfl (by decide +kernel) (by decide) rfl rfl (fun G => w_loadR rfl (lk rfl rfl) rfl (zadd hr2) rfl) ?_ | refine aqyp (g := 49) 13 rfl (by decide +kernel) (by decide) rfl rfl (fun G => w_loadRp rfl hr rfl) ?_ | refine aqyp (g := 49) 13 rfl (by decide +kernel) (by decide) rfl rfl (fun G => w_loadRp rfl hr1 rfl) ?_ | refine aqyp (g := 49) 13 rfl (by decide +kernel) (by decide) rfl rfl (fun G => w_loadRp rfl hr2 rfl) ?_ | refine aqyp (g := 49) 13 rfl (by decide +kernel) (by decide) rfl rfl (fun G => w_loadN (cs := [_, _, _, _, _, _, _]) rfl (lk rfl rfl) rfl rfl rfl rfl) ?_ | refine aqyp (g := 49) 13 rfl (by decide +kernel) (by decide) rfl rfl (fun G => o_loadNp (cs := [_, _, _, _, _, _, _]) rfl hr rfl rfl) ?_ | refine aqyp (g := 49) 13 rfl (by decide +kernel) (by decide) rfl rfl (fun G => o_loadNp (cs := [_, _, _, _, _, _, _]) rfl hr1 rfl rfl) ?_ | refine aqyp (g := 49) 13 rfl (by decide +kernel) (by decide) rfl rfl (fun G => o_loadNp (cs := [_, _, _, _, _, _, _]) rfl hr2 rfl rfl) ?_ | refine aqyp (g := 49) 13 rfl (by decide +kernel) (by decide) rfl rfl (fun G => w_loadR rfl (lkF hF) rfl rfl rfl) ?_ | refine aqyp (g := 49) 13 rfl (by decide +kernel) (by decide) rfl rfl (fun G => w_loadN (cs := [_, _, _, _, _, _, _]) rfl (lkF hF) rfl rfl rfl rfl) ?_
          first | refine aqyp (g := 49) 14 rfl (by decide +kernel) (by decide) rfl rfl (fun G => w_fieldAddr rfl (lk rfl rfl) rfl (by decide)) ?_ | refine aqyp (g := 49) 14 rfl (by decide +kernel) (by decide) rfl rfl (fun G => w_fieldAddrp rfl (by decide)) ?_ | refine aqyp (g := 49) 14 rfl (by decide +kernel) (by decide) rfl rfl (fun G => w_fieldAddr rfl (lkF hF) rfl (by decide)) ?_
          first | refine aqyp (g := 49) 15 rfl (by decide +kernel) (by decide) rfl rfl (fun G => w_load1 (v := .int _ _) rfl (lk rfl rfl) rfl rfl rfl) ?_ | refine aqyp (g := 49) 15 rfl (by decide +kernel) (by decide) rfl rfl (fun G => w_load1 (v := .int _ _) rfl (lk rfl rfl) rfl (zadd hr) rfl) ?_ | refine aqyp (g := 49) 15 rfl (by decide +kernel) (by decide) rfl rfl (fun G => w_load1 (v := .int _ _) rfl (lk rfl rfl) rfl (zadd hr1) rfl) ?_ | refine aqyp (g := 49) 15 rfl (by decide +kernel) (by decide) rfl rfl (fun G => w_load1 (v := .int _ _) rfl (lk rfl rfl) rfl (zadd hr2) rfl) ?_ | refine aqyp (g := 49) 15 rfl (by decide +kernel) (by decide) rfl rfl (fun G => o_load1p (v := .int _ _) rfl hr rfl) ?_ | refine aqyp (g := 49) 15 rfl (by decide +kernel) (by decide) rfl rfl (fun G => o_load1p (v := .int _ _) rfl hr1 rfl) ?_ | refine aqyp (g := 49) 15 rfl (by decide +kernel) (by decide) rfl rfl (fun G => o_load1p (v := .int _ _) rfl hr2 rfl) ?_ | refine aqyp (g := 49) 15 rfl (by decide +kernel) (by decide) rfl rfl (fun G => w_load1 (v := .int _ _) rfl (lkF hF) rfl rfl rfl) ?_
          refine aqy02 (g := 49) 16 rfl (by decide +kernel) (by decide) rfl rfl (fun _ => V2.call (spec_Ends _ _ _) rfl) ?_
          refine aqy0 (g := 49) 17 rfl (by decide +kernel) (by decide) rfl rfl (fun _ => o_ne rfl rfl) ?_
          refine Zhh ?_
          refine Zhi ?_
          refine aq_split (g := 59) rfl (fun hg19 => ?_) (fun hg19 => ?_)
          · refine Zhj ?_
            refine Zhk ?_
            refine Zhl ?_
            refine Zhm ?_
            refine Zhn ?_
            refine Zho ?_
            refine Zhp ?_
            refine Zhq ?_
            refine Zhr ?_
            refine Zhs ?_
            refine Zht ?_
            refine Zhu ?_
            refine Zhv ?_
            refine Z5w ?_
            exact Zhw
          · first | refine aqyp (g := 59) 20 rfl (by decide +kernel) (by decide) rfl rfl (fun G => w_fieldAddr rfl (lk rfl rfl) rfl (by decide)) ?_ | refine aqyp (g := 59) 20 rfl (by decide +kernel) (by decide) rfl rfl (fun G => w_fieldAddrp rfl (by decide)) ?_ | refine aqyp (g := 59) 20 rfl (by decide +kernel) (by decide) rfl rfl (fun G => w_fieldAddr rfl (lkF hF) rfl (by decide)) ?_
            first | refine aqyp (g := 59) 21 rfl (by decide +kernel) (by decide) rfl rfl (fun G => w_load1 (v := .int _ _) rfl (lk rfl rfl) rfl rfl rfl) ?_ | refine aqyp (g := 59) 21 rfl (by decide +kernel) (by decide) rfl rfl (fun G => w_load1 (v := .int _ _) rfl (lk rfl rfl) rfl (zadd hr) rfl) ?_ | refine aqyp (g := 59) 21 rfl (by decide +kernel) (by decide) rfl rfl (fun G => w_load1 (v := .int _ _) rfl (lk rfl rfl) rfl (zadd hr1) rfl) ?_ | refine aqyp (g := 59) 21 rfl (by decide +kernel) (by decide) rfl rfl (fun G => w_load1 (v := .int _ _) rfl (lk rfl rfl) rfl (zadd hr2) rfl) ?_ | refine aqyp (g := 59) 21 rfl (by decide +kernel) (by decide) rfl rfl (fun G => o_load1p (v := .int _ _) rfl hr rfl) ?_ | refine aqyp (g := 59) 21 rfl (by decide +kernel) (by decide) rfl rfl (fun G => o_load1p (v := .int _ _) rfl hr1 rfl) ?_ | refine aqyp (g := 59) 21 rfl (by decide +kernel) (by decide) rfl rfl (fun G => o_load1p (v := .int _ _) rfl hr2 rfl) ?_ | refine aqyp (g := 59) 21 rfl (by decide +kernel) (by decide) rfl rfl (fun G => w_load1 (v := .int _ _) rfl (lkF hF) rfl rfl rfl) ?_
            first | refine aqyp (g := 59) 22 rfl (by decide +kernel) (by decide) rfl rfl (fun G => w_fieldAddr rfl (lk rfl rfl) rfl (by decide)) ?_ | refine aqyp (g := 59) 22 rfl (by decide +kernel) (by decide) rfl rfl (fun G => w_fieldAddrp rfl (by decide)) ?_ | refine aqyp (g := 59) 22 rfl (by decide +kernel) (by decide) rfl rfl (fun G => w_fieldAddr rfl (lkF hF) rfl (by decide)) ?_
            first | refine aqyp (g := 59) 23 rfl (by decide +kernel) (by decide) rfl rfl (fun G => w_load1 (v := .int _ _) rfl (lk rfl rfl) rfl rfl rfl) ?_ | refine aqyp (g := 59) 23 rfl (by decide +kernel) (by decide) rfl rfl (fun G => w_load1 (v := .int _ _) rfl (lk rfl rfl) rfl (zadd hr) rfl) ?_ | refine aqyp (g := 59) 23 rfl (by decide +kernel) (by decide) rfl rfl (fun G => w_load1 (v := .int _ _) rfl (lk rfl rfl) rfl (zadd hr1) rfl) ?_ | refine aqyp (g := 59) 23 rfl (by decide +kernel) (by decide) rfl rfl (fun G => w_load1 (v := .int _ _) rfl (lk rfl rfl) rfl (zadd hr2) rfl) ?_ | refine aqyp (g := 59) 23 rfl (by decide +kernel) (by decide) rfl rfl (fun G => o_load1p (v := .int _ _) rfl hr rfl) ?_ | refine aqyp (g := 59) 23 rfl (by decide +kernel) (by decide) rfl rfl (fun G => o_load1p (v := .int _ _) rfl hr1 rfl) ?_ | refine aqyp (g := 59) 23 rfl (by decide +kernel) (by decide) rfl rfl (fun G => o_load1p (v := .int _ _) rfl hr2 rfl) ?_ | refine aqyp (g := 59) 23 rfl (by decide +kernel) (by decide) rfl rfl (fun G => w_load1 (v := .int _ _) rfl (lkF hF) rfl rfl rfl) ?_
            refine aqy0 (g := 59) 24 rfl (by decide +kernel) (by decide) rfl rfl (fun _ => o_le rfl rfl) ?_
            refine Zho ?_
            refine Zhp ?_
            refine aq_split (g := 66) rfl (fun hg26 => ?_) (fun hg26 => ?_)
            · refine Zhq ?_
              refine Zhr ?_
              refine Zhs ?_
              refine Zht ?_
              refine Zhu ?_
              refine Zhv ?_
              refine Z5w ?_
              exact Zhw
            · first | refine aqyp (g := 66) 27 rfl (by decide +kernel) (by decide) rfl rfl (fun G => w_fieldAddr rfl (lk rfl rfl) rfl (by decide)) ?_ | refine aqyp (g := 66) 27 rfl (by decide +kernel) (by decide) rfl rfl (fun G => w_fieldAddrp rfl (by decide)) ?_ | refine aqyp (g := 66) 27 rfl (by decide +kernel) (by decide) rfl rfl (fun G => w_fieldAddr rfl (lkF hF) rfl (by decide)) ?_
              first | refine aqyp (g := 66) 28 rfl (by decide +kernel) (by decide) rfl rfl (fun G => w_load1 (v := .sl _ _ _ _ _) rfl (lk rfl rfl) rfl rfl rfl) ?_ | refine aqyp (g := 66) 28 rfl (by decide +kernel) (by decide) rfl rfl (fun G => w_load1 (v := .pl _) rfl (lk rfl rfl) rfl rfl rfl) ?_ | refine aqyp (g := 66) 28 rfl (by decide +kernel) (by decide) rfl rfl (fun G => w_load1 (v := .nsl) rfl (lk rfl rfl) rfl rfl rfl) ?_ | refine aqyp (g := 66) 28 rfl (by decide +kernel) (by decide) rfl rfl (fun G => w_load1 (v := .sl _ _ _ _ _) rfl (lk rfl rfl) rfl (zadd hr) rfl) ?_ | refine aqyp (g := 66) 28 rfl (by decide +kernel) (by decide) rfl rfl (fun G => w_load1 (v := .sl _ _ _ _ _) rfl (lk rfl rfl) rfl (zadd hr1) rfl) ?_ | refine aqyp (g := 66) 28 rfl (by decide +kernel) (by decide) rfl rfl (fun G => w_load1 (v := .sl _ _ _ _ _) rfl (lk rfl rfl) rfl (zadd hr2) rfl) ?_ | refine aqyp (g := 66) 28 rfl (by decide +kernel) (by decide) rfl rfl (fun G => w_load1 (v := .pl _) rfl (lk rfl rfl) rfl (zadd hr) rfl) ?_ | refine aqyp (g := 66) 28 rfl (by decide +kernel) (by decide) rfl rfl (fun G => w_load1 (v := .pl _) rfl (lk rfl rfl) rfl (zadd hr1) rfl) ?_ | refine aqyp (g := 66) 28 rfl (by decide +kernel) (by decide) rfl rfl (fun G => w_load1 (v := .pl _) rfl (lk rfl rfl) rfl (zadd hr2) rfl) ?_ | refine aqyp (g := 66) 28 rfl (by decide +kernel) (by decide) rfl rfl (fun G => w_load1 (v := .nsl) rfl (lk rfl rfl) rfl (zadd hr) rfl) ?_ | refine aqyp (g := 66) 28 rfl (by decide +kernel) (by decide) rfl rfl (fun G => w_load1 (v := .nsl) rfl (lk rfl rfl) rfl (zadd hr1) rfl) ?_ | refine aqyp (g := 66) 28 rfl (by decide +kernel) (by decide) rfl rfl (fun G => w_load1 (v := .nsl) rfl (lk rfl rfl) rfl (zadd hr2) rfl) ?_ | refine aqyp (g := 66) 28 rfl (by decide +kernel) (by decide) rfl rfl (fun G => o_load1p (v := .sl _ _ _ _ _) rfl hr rfl) ?_ | refine aqyp (g := 66) 28 rfl (by decide +kernel) (by decide) rfl rfl (fun G => o_load1p (v := .sl _ _ _ _ _) rfl hr1 rfl) ?_ | refine aqyp (g := 66) 28 rfl (by decide +kernel) (by decide) rfl rfl (fun G => o_load1p (v := .sl _ _ _ _ _) rfl hr2 rfl) ?_ | refine aqyp (g := 66) 28 rfl (by decide +kernel) (by decide) rfl rfl (fun G => o_load1p (v := .pl _) rfl hr rfl) ?_ | refine aqyp (g := 66) 28 rfl (by decide +kernel) (by decide) rfl rfl (fun G => o_load1p (v := .pl _) rfl hr1 rfl) ?_ | refine aqyp (g := 66) 28 rfl (by decide +kernel) (by decide) rfl rfl (fun G => o_load1p (v := .pl _) rfl hr2 rfl) ?_ | refine aqyp (g := 66) 28 rfl (by decide +kernel) (by decide) rfl rfl (fun G => o_load1p (v := .nsl) rfl hr rfl) ?_ | refine aqyp (g := 66) 28 rfl (by decide +kernel) (by decide) rfl rfl (fun G => o_load1p (v := .nsl) rfl hr1 rfl) ?_ | refine aqyp (g := 66) 28 rfl (by decide +kernel) (by decide) rfl rfl (fun G => o_load1p (v := .nsl) rfl hr2 rfl) ?_ | refine aqyp (g := 66) 28 rfl (by decide +kernel) (by decide) rfl rfl (fun G => w_load1 (v := .sl _ _ _ _ _) rfl (lkF hF) rfl rfl rfl) ?_ | refine aqyp (g := 66) 28 rfl (by decide +kernel) (by decide) rfl rfl (fun G => w_load1 (v := .pl _) rfl (lkF hF) rfl rfl rfl) ?_ | refine aqyp (g := 66) 28 rfl (by decide +kernel) (by decide) rfl rfl (fun G => w_load1 (v := .nsl) rfl (lkF hF) rfl rfl rfl) ?_
              first | refine aqyp (g := 66) 29 rfl (by decide +kernel) (by decide) rfl rfl (fun G => w_fieldAddr rfl (lk rfl rfl) rfl (by decide)) ?_ | refine aqyp (g := 66) 29 rfl (by decide +kernel) (by decide) rfl rfl (fun G => w_fieldAddrp rfl (by decide)) ?_ | refine aqyp (g := 66) 29 rfl (by decide +kernel) (by decide) rfl rfl (fun G => w_fieldAddr rfl (lkF hF) rfl (by decide)) ?_
              first | refine aqyp (g := 66) 30 rfl (by decide +kernel) (by decide) rfl rfl (fun G => w_load1 (v := .sl _ _ _ _ _) rfl (lk rfl rfl) rfl rfl rfl) ?_ | refine aqyp (g := 66) 30 rfl (by decide +kernel) (by decide) rfl rfl (fun G => w_load1 (v := .pl _) rfl (lk rfl rfl) rfl rfl rfl) ?_ | refine aqyp (g := 66) 30 rfl (by decide +kernel) (by decide) rfl rfl (fun G => w_load1 (v := .nsl) rfl (lk rfl rfl) rfl rfl rfl) ?_ | refine aqyp (g := 66) 30 rfl (by decide +kernel) (by decide) rfl rfl (fun G => w_load1 (v := .sl _ _ _ _ _) rfl (lk rfl rfl) rfl (zadd hr) rfl) ?_ | refine aqyp (g := 66) 30 rfl (by decide +kernel) (by decide) rfl rfl (fun G => w_load1 (v := .sl _ _ _ _ _) rfl (lk rfl rfl) rfl (zadd hr1) rfl) ?_ | refine aqyp (g := 66) 30 rfl (by decide +kernel) (by decide) rfl rfl (fun G => w_load1 (v := .sl _ _ _ _ _) rfl (lk rfl rfl) rfl (zadd hr2) rfl) ?_ | refine aqyp (g := 66) 30 rfl (by decide +kernel) (by decide) rfl rfl (fun G => w_load1 (v := .pl _) rfl (lk rfl rfl) rfl (zadd hr) rfl) ?_ | refine aqyp (g := 66) 30 rfl (by decide +kernel) (by decide) rfl rfl (fun G => w_load1 (v := .pl _) rfl (lk rfl rfl) rfl (zadd hr1) rfl) ?_ | refine aqyp (g := 66) 30 rfl (by decide +kernel) (by decide) rfl rfl (fun G => w_load1 (v := .pl _) rfl (lk rfl rfl) rfl (zadd hr2) rfl) ?_ | refine aqyp (g := 66) 30 rfl (by decide +kernel) (by decide) rfl rfl (fun G => w_load1 (v := .nsl) rfl (lk rfl rfl) rfl (zadd hr) rfl) ?_ | refine aqyp (g := 66) 30 rfl (by decide +kernel) (by decide) rfl rfl (fun G => w_load1 (v := .nsl) rfl (lk rfl rfl) rfl (zadd hr1) rfl) ?_ | refine aqyp (g := 66) 30 rfl (by decide +kernel) (by decide) rfl rfl (fun G => w_load1 (v := .nsl) rfl (lk rfl rfl) rfl (zadd hr2) rfl) ?_ | refine aqyp (g := 66) 30 rfl (by decide +kernel) (by decide) rfl rfl (fun G => o_load1p (v := .sl _ _ _ _ _) rfl hr rfl) ?_ | refine aqyp (g := 66) 30 rfl (by decide +kernel) (by decide) rfl rfl (fun G => o_load1p (v := .sl _ _ _ _ _) rfl hr1 rfl) ?_ | refine aqyp (g := 66) 30 rfl (by decide +kernel) (by decide) rfl rfl (fun G => o_load1p (v := .sl _ _ _ _ _) rfl hr2 rfl) ?_ | refine aqyp (g := 66) 30 rfl (by decide +kernel) (by decide) rfl rfl (fun G => o_load1p (v := .pl _) rfl hr rfl) ?_ | refine aqyp (g := 66) 30 rfl (by decide +kernel) (by decide) rfl rfl (fun G => o_load1p (v := .pl _) rfl hr1 rfl) ?_ | refine aqyp (g := 66) 30 rfl (by decide +kernel) (by decide) rfl rfl (fun G => o_load1p (v := .pl _) rfl hr2 rfl) ?_ | refine aqyp (g := 66) 30 rfl (by decide +kernel) (by decide) rfl rfl (fun G => o_load1p (v := .nsl) rfl hr rfl) ?_ | refine aqyp (g := 66) 30 rfl (by decide +kernel) (by decide) rfl rfl (fun G => o_load1p (v := .nsl) rfl hr1 rfl) ?_ | refine aqyp (g := 66) 30 rfl (by decide +kernel) (by decide) rfl rfl (fun G => o_load1p (v := .nsl) rfl hr2 rfl) ?_ | refine aqyp (g := 66) 30 rfl (by decide +kernel) (by decide) rfl rfl (fun G => w_load1 (v := .sl _ _ _ _ _) rfl (lkF hF) rfl rfl rfl) ?_ | refine aqyp (g := 66) 30 rfl (by decide +kernel) (by decide) rfl rfl (fun G => w_load1 (v := .pl _) rfl (lkF hF) rfl rfl rfl) ?_ | refine aqyp (g := 66) 30 rfl (by decide +kernel) (by decide) rfl rfl (fun G => w_load1 (v := .nsl) rfl (lkF hF) rfl rfl rfl) ?_
              refine aqy02 (g := 66) 31 rfl (by decide +kernel) (by decide) rfl rfl (fun _ => V2.call (inst_things _ _ _ (by omega) (by omega)) rfl) ?_
              refine aqy0 (g := 66) 32 rfl (by decide +kernel) (by decide) rfl rfl (fun _ => o_not rfl) ?_
              refine Z5w ?_
              exact Zhw
    refine Z1 ?_
    refine aw_cond rfl (fun hc => ?_) (fun hc => ?_)
    · have hbad : itoldB i k = false := by simpa only [Bool.not_eq_true'] using hc
      refine Zh ?_
      rw [show itold i = false by rw [itold, allI_false hlt hbad, Bool.false_and]]
      exact Zd
    · have hgood : itoldB i k = true := by simpa only [Bool.not_eq_false'] using hc
      refine Z7a ?_
      refine ⟨k + 1, by omega, ⟨by omega, fun m hm => ?_⟩, by rw [hstep]; exact (by repeat (first | exact Sub.nil | refine Sub.cons (by first | rfl | (simp [get]; done)) ?_)), Fit.loc hB rfl (by repeat (first | exact EBel.nil | refine EBel.cons (by first | rfl | (simp [AV.bel, AV.bels, Lid]; done) | (simp [AV.bel, AV.bels, Lid]; omega)) ?_)) (hbel _)⟩
      rcases Nat.lt_or_eq_of_le (Nat.le_of_lt_succ hm) with h | h
      · exact hno0 m h
      · subst h; exact hgood
  · have : k = i.jobs.length := by simp at hc; omega
    subst this
    refine Z59 ?_
    refine Z12 ?_
    rw [List.take_length, show itold i = decide (runs i.jobs = i.table.length) by rw [itold, allI_true hno, Bool.true_and]; rfl]
    exact Zhx
set_option maxHeartbeats 0 in
theorem inst_Right (i : Inst) (H : Heap) (hw : IW i) : AC Tryz.prog 26 [.agg (eInst i)] H (Ret (.bool (iright i)) H) := by
  have w1 := hw.graph
  have w2 := hw.jobs
  have w3 := hw.table
  have w4 := hw.health
  have w5 := hw.lease
  refine AC.body (N := 48) [.tmp 2] Tryz.func26 rfl rfl rfl (Nat.le_of_ble_eq_true rfl) fun B hB => ?_
  refine Zh5 ?_
  refine Zg ?_
  refine aw_out 3 (.bool (hright i.graph i.health && ithings i.graph i.lease && tm i.til && tm i.now && ipolicy i.policy i.depth)) ?_ ?_
  · refine Z4a ?_
    refine Z4a ?_
    refine Zbm ?_
    refine Zj ?_
    refine ao_split rfl rfl (fun hg5 => ?_) (fun hg5 => ?_)
    · refine Z72 ?_
      refine ao_y rfl rfl (by decide) (V2.call (inst_things _ _ _ (by omega) (by omega)) rfl) ?_
      refine Z31 ?_
      refine ao_split rfl rfl (fun hg12 => ?_) (fun hg12 => ?_)
      · refine Z2z ?_
        refine Z4y ?_
        refine Z31 ?_
        refine ao_split rfl rfl (fun hg17 => ?_) (fun hg17 => ?_)
        · refine Z2z ?_
          refine Z4y ?_
          refine Z31 ?_
          refine ao_split rfl rfl (fun hg22 => ?_) (fun hg22 => ?_)
          · refine Z2z ?_
            refine Z2z ?_
            refine Zhy ?_
            refine Zo ?_
            exact Zhz
          · refine Z4o ?_
            exact Zhz
        · refine Z74 ?_
          exact Zhz
      · refine Z33 ?_
        refine Z74 ?_
        exact Zhz
    · refine Zs ?_
      refine Z33 ?_
      refine Z33 ?_
      refine Z74 ?_
      exact Zhz
  refine Z1 ?_
  refine aw_out 2 (.bool (iright i)) ?_ ?_
  · refine Z3d ?_
    refine ao_split rfl rfl (fun hg1 => ?_) (fun hg1 => ?_)
    · refine Z55 ?_
      refine ao_y rfl rfl (by decide) (V2.call (queue_Right _ _ (by omega)) rfl) ?_
      refine Z31 ?_
      refine ao_split rfl rfl (fun hg6 => ?_) (fun hg6 => ?_)
      · refine Z55 ?_
        refine ao_y rfl rfl (by decide) (V2.call (held_Right _ _ (by assumption)) rfl) ?_
        refine Z31 ?_
        refine ao_split rfl rfl (fun hg11 => ?_) (fun hg11 => ?_)
        · first | refine ao_y1 rfl rfl (by decide) (w_loadR rfl (lk rfl rfl) rfl rfl rfl) ?_ | refine ao_y1 rfl rfl (by decide) (w_loadR rfl (lk rfl rfl) rfl (zadd hr) rfl) ?_ | refine ao_y1 rfl rfl (by decide) (w_loadR rfl (lk rfl rfl) rfl (zadd hr1) rfl) ?_ | refine ao_y1 rfl rfl (by decide) (w_loadR rfl (lk rfl rfl) rfl (zadd hr2) rfl) ?_ | refine ao_y1 rfl rfl (by decide) (w_loadRp rfl hr rfl) ?_ | refine ao_y1 rfl rfl (by decide) (w_loadRp rfl hr1 rfl) ?_ | refine ao_y1 rfl rfl (by decide) (w_loadRp rfl hr2 rfl) ?_ | refine ao_y1 rfl rfl (by decide) (w_loadN (cs := [_, _, _, _, _, _, _, _, _]) rfl (lk rfl rfl) rfl rfl rfl rfl) ?_ | refine ao_y1 rfl rfl (by decide) (o_loadNp (cs := [_, _, _, _, _, _, _, _, _]) rfl hr rfl rfl) ?_ | refine ao_y1 rfl rfl (by decide) (o_loadNp (cs := [_, _, _, _, _, _, _, _, _]) rfl hr1 rfl rfl) ?_ | refine ao_y1 rfl rfl (by decide) (o_loadNp (cs := [_, _, _, _, _, _, _, _, _]) rfl hr2 rfl rfl) ?_ | refine ao_y1 rfl rfl (by decide) (w_loadR rfl (lkF hF) rfl rfl rfl) ?_ | refine ao_y1 rfl rfl (by decide) (w_loadN (cs := [_, _, _, _, _, _, _, _, _]) rfl (lkF hF) rfl rfl rfl rfl) ?_
          refine ao_y rfl rfl (by decide) (V2.call (inst_told _ _ (by assumption)) rfl) ?_
          refine Zo ?_
          exact Zi0
        · refine Zt ?_
          exact Zi0
      · refine Z51 ?_
        exact Zi0
    · refine Z33 ?_
      refine Z51 ?_
      exact Zi0
  exact Z1z
end Go.Av

