/- Parts of the proof: rules for an abstract memory, plain laws, and walks through the program. -/
import Derived.Test.YtljahedgdjnohaaCodeP2
import Derived.Test.YtljahedgdjnohaaCodeP5
import Derived.Test.YtljahedgdjnohaaCodeP3
/-
  A ROW OF THE CALL's OWN TAKES ANOTHER ROW's PLACE: what a cell leads to is told anew.
-/
namespace Go.Av
section
variable {P : Program} {N : Nat} {env : Env} {H : Heap}
theorem CR.move {B : Base} {S : List Slot} {a : Act} {w : World} (h : CR N env H S a w) (hb : Ext B.S B.w S w) {i m t off len cap : Nat} {oi om : AObj} (hi : H[i]? = some oi) (hm : H[m]? = some om) (hne : i ≠ m) (ht : get env t = .sl m om.gen off len cap) :
    ∃ S', CR N ((t, .sl i (oi.gen + 1) off len cap) :: env) ((H.set i ⟨oi.gen + 1, om.sz, om.rows⟩).set m ⟨om.gen + 1, om.sz, []⟩) S' a w ∧ Ext B.S B.w S' w := by
  obtain ⟨si, hsi, oki⟩ := h.heap.slot hi
  obtain ⟨sm, hsm, okm⟩ := h.heap.slot hm
  have hli : i < S.length := (List.getElem?_eq_some_iff.1 hsi).1
  have hlm : m < S.length := (List.getElem?_eq_some_iff.1 hsm).1
  have hLi : i < H.length := (List.getElem?_eq_some_iff.1 hi).1
  have hLm : m < H.length := (List.getElem?_eq_some_iff.1 hm).1
  generalize hS' : (S.set i ⟨si.gen + 1, sm.sz, sm.place⟩).set m ⟨sm.gen + 1, sm.sz, none⟩ = S'
  have gi : S'[i]? = some ⟨si.gen + 1, sm.sz, sm.place⟩ := by rw [← hS', List.getElem?_set_ne (Ne.symm hne), List.getElem?_set_self hli]
  have gm : S'[m]? = some ⟨sm.gen + 1, sm.sz, none⟩ := by rw [← hS', List.getElem?_set_self (by rw [List.length_set]; exact hlm)]
  have go : ∀ j, j ≠ i → j ≠ m → S'[j]? = S[j]? := fun j h1 h2 => by rw [← hS', List.getElem?_set_ne (Ne.symm h2), List.getElem?_set_ne (Ne.symm h1)]
  have hse : SExt S S' := by
    intro j s hs
    by_cases e1 : j = i
    · subst e1
      rw [hsi] at hs
      obtain rfl := Option.some.inj hs
      exact ⟨_, gi, Nat.le_succ _, fun e => by simp at e⟩
    · by_cases e2 : j = m
      · subst e2
        rw [hsm] at hs
        obtain rfl := Option.some.inj hs
        exact ⟨_, gm, Nat.le_succ _, fun e => by simp at e⟩
      · exact ⟨s, by rw [go j e1 e2]; exact hs, Nat.le_refl _, fun _ => ⟨rfl, rfl⟩⟩
  have hown : ∀ b, own S' b → own S b := by
    rintro b ⟨j, s, hs, hp⟩
    by_cases e1 : j = i
    · subst e1
      rw [gi] at hs
      obtain rfl := Option.some.inj hs
      exact ⟨m, sm, hsm, hp⟩
    · by_cases e2 : j = m
      · subst e2
        rw [gm] at hs
        obtain rfl := Option.some.inj hs
        cases hp
      · exact ⟨j, s, by rw [← go j e1 e2]; exact hs, hp⟩
  have hx : Ext S w S' w := ⟨rfl, rfl, rfl, ⟨Nat.le_refl _, fun b _ ho => ⟨fun k => ho (hown b k), rfl⟩, fun _ arr _ h => ⟨arr, h, rfl⟩⟩, hse⟩
  have hh : HRel ((H.set i ⟨oi.gen + 1, om.sz, om.rows⟩).set m ⟨om.gen + 1, om.sz, []⟩) S' w := by
    refine ⟨by rw [← hS']; simp [h.heap.len], fun j o s ho hs => ?_, fun j k sj sk b hj hk hbj hbk => ?_⟩
    · by_cases e2 : j = m
      · subst e2
        rw [List.getElem?_set_self (by rw [List.length_set]; exact hLm)] at ho
        rw [gm] at hs
        obtain rfl := Option.some.inj ho
        obtain rfl := Option.some.inj hs
        exact ⟨by simp [okm.gen], okm.sz, okm.pos, fun _ => rfl, fun b hb => by cases hb⟩
      · rw [List.getElem?_set_ne (Ne.symm e2)] at ho
        by_cases e1 : j = i
        · subst e1
          rw [List.getElem?_set_self hLi] at ho
          rw [gi] at hs
          obtain rfl := Option.some.inj ho
          obtain rfl := Option.some.inj hs
          refine ⟨by simp [oki.gen], okm.sz, okm.pos, okm.nope, fun b hb => ?_⟩
          obtain ⟨arr, ty, h1, h2, h3⟩ := okm.lies b hb
          exact ⟨arr, ty, h1, h2, fun r row hr => ⟨(h3 r row hr).1, fun c v hv => by
            obtain ⟨k1, u, k2, k3⟩ := (h3 r row hr).2 c v hv
            exact ⟨k1, u, k2, k3.ext hx⟩⟩⟩
        · rw [List.getElem?_set_ne (Ne.symm e1)] at ho
          rw [go j e1 e2] at hs
          have ok := h.heap.obj j o s ho hs
          refine ⟨ok.gen, ok.sz, ok.pos, ok.nope, fun b hb => ?_⟩
          obtain ⟨arr, ty, h1, h2, h3⟩ := ok.lies b hb
          exact ⟨arr, ty, h1, h2, fun r row hr => ⟨(h3 r row hr).1, fun c v hv => by
            obtain ⟨k1, u, k2, k3⟩ := (h3 r row hr).2 c v hv
            exact ⟨k1, u, k2, k3.ext hx⟩⟩⟩
    · -- each block has one home
      have home : ∀ j sj, S'[j]? = some sj → sj.place = some b → ∃ j' s', S[j']? = some s' ∧ s'.place = some b ∧ ((j = i ∧ j' = m) ∨ (j ≠ i ∧ j ≠ m ∧ j' = j)) := by
        intro j sj hj hbj
        by_cases e1 : j = i
        · subst e1
          rw [gi] at hj
          obtain rfl := Option.some.inj hj
          exact ⟨m, sm, hsm, hbj, .inl ⟨rfl, rfl⟩⟩
        · by_cases e2 : j = m
          · subst e2
            rw [gm] at hj
            obtain rfl := Option.some.inj hj
            cases hbj
          · rw [go j e1 e2] at hj
            exact ⟨j, sj, hj, hbj, .inr ⟨e1, e2, rfl⟩⟩
      obtain ⟨j', s1, a0, a1, a2⟩ := home j sj hj hbj
      obtain ⟨k', s2, b0, b1, b2⟩ := home k sk hk hbk
      have e := h.heap.inj j' k' _ _ b a0 b0 a1 b1
      rcases a2 with ⟨rfl, rfl⟩ | ⟨x1, x2, rfl⟩ <;> rcases b2 with ⟨rfl, rfl⟩ | ⟨y1, y2, rfl⟩
      · rfl
      · exact absurd e.symm y2
      · exact absurd e x2
      · exact e
  refine ⟨S', ⟨hh, fun t' => ?_, h.size, h.defers⟩, hb.trans hx⟩
  by_cases e : t = t'
  · subst e
    rw [get_put_same]
    have hv := h.env t
    rw [ht] at hv
    generalize a.tmps.getD t undef = u at hv
    cases hv with
    | sl s hs hg h1 hok =>
      rw [hsm] at hs
      obtain rfl := Option.some.inj hs
      have ho := hok okm.gen.symm
      exact .sl _ gi (by simp [oki.gen]) h1 fun _ => ho
  · rw [get_put_other _ _ e]
    exact (h.env t').ext hx
theorem CR.nilTo {B : Base} {S : List Slot} {a : Act} {w : World} (h : CR N env H S a w) (hb : Ext B.S B.w S w) {i t : Nat} {oi : AObj} (hi : H[i]? = some oi) (ht : get env t = .nsl) :
    ∃ S', CR N ((t, .sl i (oi.gen + 1) 0 0 0) :: env) (H.set i ⟨oi.gen + 1, oi.sz, []⟩) S' a w ∧ Ext B.S B.w S' w := by
  obtain ⟨si, hsi, oki⟩ := h.heap.slot hi
  have hli : i < S.length := (List.getElem?_eq_some_iff.1 hsi).1
  have hLi : i < H.length := (List.getElem?_eq_some_iff.1 hi).1
  generalize hS' : S.set i ⟨si.gen + 1, si.sz, none⟩ = S'
  have gi : S'[i]? = some ⟨si.gen + 1, si.sz, none⟩ := by rw [← hS', List.getElem?_set_self hli]
  have go : ∀ j, j ≠ i → S'[j]? = S[j]? := fun j h1 => by rw [← hS', List.getElem?_set_ne (Ne.symm h1)]
  have hse : SExt S S' := by rw [← hS']; exact SExt.bump hsi (Nat.lt_succ_self _)
  have hown : ∀ b, own S' b → own S b := by
    rintro b ⟨j, s, hs, hp⟩
    by_cases e1 : j = i
    · subst e1
      rw [gi] at hs
      obtain rfl := Option.some.inj hs
      cases hp
    · exact ⟨j, s, by rw [← go j e1]; exact hs, hp⟩
  have hx : Ext S w S' w := ⟨rfl, rfl, rfl, ⟨Nat.le_refl _, fun b _ ho => ⟨fun k => ho (hown b k), rfl⟩, fun _ arr _ h => ⟨arr, h, rfl⟩⟩, hse⟩
  have hh : HRel (H.set i ⟨oi.gen + 1, oi.sz, []⟩) S' w := by
    refine ⟨by rw [← hS']; simp [h.heap.len], fun j o s ho hs => ?_, fun j k sj sk b hj hk hbj hbk => ?_⟩
    · by_cases e1 : j = i
      · subst e1
        rw [List.getElem?_set_self hLi] at ho
        rw [gi] at hs
        obtain rfl := Option.some.inj ho
        obtain rfl := Option.some.inj hs
        exact ⟨by simp [oki.gen], oki.sz, oki.pos, fun _ => rfl, fun b hb => by cases hb⟩
      · rw [List.getElem?_set_ne (Ne.symm e1)] at ho
        rw [go j e1] at hs
        have ok := h.heap.obj j o s ho hs
        refine ⟨ok.gen, ok.sz, ok.pos, ok.nope, fun b hb => ?_⟩
        obtain ⟨arr, ty, h1, h2, h3⟩ := ok.lies b hb
        exact ⟨arr, ty, h1, h2, fun r row hr => ⟨(h3 r row hr).1, fun c v hv => by
          obtain ⟨k1, u, k2, k3⟩ := (h3 r row hr).2 c v hv
          exact ⟨k1, u, k2, k3.ext hx⟩⟩⟩
    · by_cases e1 : j = i
      · subst e1; rw [gi] at hj; obtain rfl := Option.some.inj hj; cases hbj
      · by_cases e2 : k = i
        · subst e2; rw [gi] at hk; obtain rfl := Option.some.inj hk; cases hbk
        · rw [go j e1] at hj
          rw [go k e2] at hk
          exact h.heap.inj j k sj sk b hj hk hbj hbk
  refine ⟨S', ⟨hh, fun t' => ?_, h.size, h.defers⟩, hb.trans hx⟩
  by_cases e : t = t'
  · subst e
    rw [get_put_same]
    have hv := h.env t
    rw [ht] at hv
    generalize a.tmps.getD t undef = u at hv
    cases hv with
    | @nsl _ ad => exact .sl _ gi (by simp [oki.gen]) rfl fun _ => ⟨0, Nat.le_refl _, Nat.le_refl _, .inl ⟨rfl, ad, rfl⟩⟩
  · rw [get_put_other _ _ e]
    exact (h.env t').ext hx
/-- The same of a cell. -/
theorem CR.viaCell {B : Base} {S : List Slot} {a : Act} {w : World} {k i j : Nat} {q : AObj} {r : List AV} {v v2 : AV} {H' : Heap} (h : CR N env H S a w) (hx : Ext B.S B.w S w) (hk : H[k]? = some q) (hr : q.rows[i]? = some r) (hj : r[j]? = some v) (hk' : H'[k]? = some q) (hl : v2.leaf = true)
    (step : ∀ u, CR 1 [(0, v)] H S { tmps := #[u], defers := [] } w → ∃ S', CR 1 ((0, v2) :: [(0, v)]) H' S' { tmps := #[u], defers := [] } w ∧ Ext S w S' w) :
    ∃ S', CR N env (H'.set k { q with rows := q.rows.set i (r.set j v2) }) S' a w ∧ Ext B.S B.w S' w := by
  obtain ⟨s, hs, ok⟩ := h.heap.slot hk
  have hil := (List.getElem?_eq_some_iff.1 hr).1
  cases hpl : s.place with
  | none => rw [ok.nope hpl] at hil; simp at hil
  | some b =>
    obtain ⟨arr, ty, h1, h2, h3⟩ := ok.lies b hpl
    obtain ⟨k1, k2⟩ := h3 i r hr
    obtain ⟨_, u, hu, hv⟩ := k2 j _ hj
    have hc : CR 1 [(0, v)] H S { tmps := #[u], defers := [] } w := ⟨h.heap, fun t => by
      cases t with
      | zero => exact hv
      | succ t => exact .junk, rfl, rfl⟩
    obtain ⟨S', hc', hx'⟩ := step u hc
    have hv2 := hc'.env 0
    rw [get_put_same] at hv2
    obtain ⟨s', hs', ok'⟩ := hc'.heap.slot hk'
    obtain ⟨s2, hs2, hg, he⟩ := hx'.slots k s hs
    rw [hs'] at hs2
    obtain rfl := Option.some.inj hs2
    have hpl' : s'.place = some b := (he (by rw [← ok'.gen, ok.gen])).2.trans hpl
    have hh := hc'.heap.retell (v2 := v2) hk' hs' hpl' h1 hr (List.getElem?_eq_some_iff.1 hj).1 hu hl hv2
    exact ⟨S', ⟨hh, fun t => (h.env t).ext hx', h.size, h.defers⟩, hx.trans hx'⟩
theorem aw_moveC {B : Base} {Q : Post} {c : Code} {L : Heap} {H0 : Heap} {n ri j m g off len cap : Nat} {oi om q : AObj} {r : List AV} (k i : Nat) (hk : L[k]? = some q) (hr : q.rows[ri]? = some r) (hj : r[j]? = some (.sl (Lid n m) g off len cap)) (hn : H0.length = n) (hi : L[i]? = some oi) (hm : L[m]? = some om) (hg : om.gen = g) (h1 : k ≠ i) (h2 : k ≠ m) (h3 : i ≠ m)
    (h : AWp P N B c Q env (H0 ++ ((L.set i ⟨oi.gen + 1, om.sz, om.rows⟩).set m ⟨om.gen + 1, om.sz, []⟩).set k { q with rows := q.rows.set ri (r.set j (.sl (Lid n i) (oi.gen + 1) off len cap)) })) : AWp P N B c Q env (H0 ++ L) := fun S a w hc hb => by
  subst hg
  have e1 : Lid n i ≠ Lid n m := by unfold Lid; omega
  have e2 : Lid n k ≠ Lid n i := by unfold Lid; omega
  have e3 : Lid n k ≠ Lid n m := by unfold Lid; omega
  obtain ⟨S', hc', hb'⟩ := hc.viaCell (B := B) (k := Lid n k) (v2 := .sl (Lid n i) (oi.gen + 1) off len cap) (H' := ((H0 ++ L).set (Lid n i) ⟨oi.gen + 1, om.sz, om.rows⟩).set (Lid n m) ⟨om.gen + 1, om.sz, []⟩) hb (lk hn hk) hr hj
    (by rw [List.getElem?_set_ne (Ne.symm e3), List.getElem?_set_ne (Ne.symm e2)]; exact lk hn hk) rfl
    (fun u hc1 => hc1.move (B := ⟨S, w⟩) (Ext.refl S w) (lk hn hi) (lk hn hm) e1 rfl)
  rw [st hn, st hn, st hn] at hc'
  exact h S' a w hc' hb'
theorem aw_nilC {B : Base} {Q : Post} {c : Code} {L : Heap} {H0 : Heap} {n ri j : Nat} {oi q : AObj} {r : List AV} (k i : Nat) (hk : L[k]? = some q) (hr : q.rows[ri]? = some r) (hj : r[j]? = some .nsl) (hn : H0.length = n) (hi : L[i]? = some oi) (h1 : k ≠ i)
    (h : AWp P N B c Q env (H0 ++ (L.set i ⟨oi.gen + 1, oi.sz, []⟩).set k { q with rows := q.rows.set ri (r.set j (.sl (Lid n i) (oi.gen + 1) 0 0 0)) })) : AWp P N B c Q env (H0 ++ L) := fun S a w hc hb => by
  have e2 : Lid n k ≠ Lid n i := by unfold Lid; omega
  obtain ⟨S', hc', hb'⟩ := hc.viaCell (B := B) (k := Lid n k) (v2 := .sl (Lid n i) (oi.gen + 1) 0 0 0) (H' := (H0 ++ L).set (Lid n i) ⟨oi.gen + 1, oi.sz, []⟩) hb (lk hn hk) hr hj
    (by rw [List.getElem?_set_ne (Ne.symm e2)]; exact lk hn hk) rfl
    (fun u hc1 => hc1.nilTo (B := ⟨S, w⟩) (Ext.refl S w) (lk hn hi) rfl)
  rw [st hn, st hn] at hc'
  exact h S' a w hc' hb'
/-- A row with nothing in it, that nobody knows of. -/
theorem aw_newG {B : Base} {Q : Post} {c : Code} {L : Heap} {H0 : Heap} (sz : Nat) (hp : 0 < sz) (h : AWp P N B c Q env (H0 ++ (L ++ [⟨0, sz, []⟩]))) : AWp P N B c Q env (H0 ++ L) := fun S a w hc hb => by
  have hx : Ext S w (S ++ [⟨0, sz, none⟩]) w := by
    refine ⟨rfl, rfl, rfl, ⟨Nat.le_refl _, fun b _ ho => ⟨fun k => ?_, rfl⟩, fun _ arr _ h => ⟨arr, h, rfl⟩⟩, SExt.snoc S _⟩
    rcases own_snoc k with k | k
    · exact ho k
    · cases k
  have hh : HRel ((H0 ++ L) ++ [⟨0, sz, []⟩]) (S ++ [⟨0, sz, none⟩]) w := hc.heap.push (s := ⟨0, sz, none⟩) hx hp (fun _ _ => rfl) (fun _ => rfl) (fun b hb => by cases hb)
  rw [List.append_assoc] at hh
  exact h _ a w ⟨hh, fun t => (hc.env t).ext hx, hc.size, hc.defers⟩ (hb.trans hx)
end
end Go.Av

namespace Go.Av
open Go.Proofs
set_option maxRecDepth 10000
set_option linter.unusedSimpArgs false
set_option linter.unusedVariables false

theorem lh_app {W L : Heap} {lid gid : Nat} {ps : List (List UInt8)} (hl : lid < W.length) (hg : gid < W.length) : LH (W ++ L) lid gid ps = LH W lid gid ps ++ L := by
  unfold LH
  rw [List.set_append_left _ _ hg, List.set_append_left _ _ (by rw [List.length_set]; exact hl)]
def lstH (H : Heap) (ps : List (List UInt8)) : Heap := H ++ [⟨0, 1, [[.sl (Lid H.length 1) (ps.length + 1) 0 ps.length ps.length]]⟩, ⟨ps.length + 1, 1, ps.map eB⟩]
theorem lh_lst (H : Heap) (ps qs : List (List UInt8)) : LH (lstH H ps) (Lid H.length 0) (Lid H.length 1) qs = lstH H qs := by
  unfold LH lstH
  rw [st rfl, st rfl]
  rfl
theorem lst_len (H : Heap) (ps : List (List UInt8)) : (lstH H ps).length = H.length + 2 := by unfold lstH; rw [List.length_append]; rfl
theorem lst_bel {H : Heap} (h : HBel H.length H) (ps : List (List UInt8)) : HBel (H.length + 2) (lstH H ps) := by
  intro x hx r hr
  unfold lstH at hx
  rcases List.mem_append.1 hx with h1 | h1
  · exact AV.bels_mono (by omega) r (h x h1 r hr)
  · simp only [List.mem_cons, List.not_mem_nil, or_false] at h1
    rcases h1 with rfl | rfl
    · simp only [List.mem_singleton] at hr; subst hr; simp [AV.bels, AV.bel, Lid]
    · exact eB_bel _ ps r hr
theorem readList_1 (b : List UInt8) (hb : b.length ≤ 65536) (H : Heap) :
    AC Try.prog 41 [.pt ((lstH H []).length + 1) 0 0 0, .pt (Lid H.length 0) 0 0 0] (lstH H [] ++ [⟨0, 1, [[.int .i64 0]]⟩, ⟨0, 1, [[.pl (b.map brow)]]⟩]) (rdC (lstH H (rlist b).1) (lstH H (rlist b).1) (rlist b).2) := by
  have hl0 : Lid H.length 0 < (lstH H []).length := by rw [lst_len]; unfold Lid; omega
  have hg0 : Lid H.length 1 < (lstH H []).length := by rw [lst_len]; unfold Lid; omega
  have k := readList_w b hb (lstH H [] ++ [⟨0, 1, [[.int .i64 0]]⟩, ⟨0, 1, [[.pl (b.map brow)]]⟩]) (Lid H.length 0) (Lid H.length 1) ((lstH H []).length + 1) (by rw [List.length_append]; omega) (by rw [List.length_append]; omega) (by rw [List.length_append]; simp) (by unfold Lid; omega) (by omega) (by omega)
  have e1 : ∀ ps r, Hs (LH (lstH H [] ++ [⟨0, 1, [[.int .i64 0]]⟩, ⟨0, 1, [[.pl (b.map brow)]]⟩]) (Lid H.length 0) (Lid H.length 1) ps) ((lstH H []).length + 1) 0 r = lstH H ps ++ [⟨0, 1, [[.int .i64 0]]⟩, ⟨0, 1, [[.pl (r.map brow)]]⟩] := fun ps r => by
    rw [lh_app hl0 hg0, lh_lst, show (lstH H []).length = (lstH H ps).length by rw [lst_len, lst_len], hs_two]
  rw [e1] at k
  refine k.mono fun o H' hh => ?_
  unfold rlR at hh
  unfold rdC
  cases hr : (rlist b).2 with
  | ok r => rw [hr] at hh; exact ⟨hh.1, by rw [hh.2, e1]⟩
  | error e => rw [hr] at hh; obtain ⟨h1, r, h2⟩ := hh; exact ⟨h1, r, by rw [h2, e1]⟩
set_option maxHeartbeats 0 in
theorem code_ReadList (b : List UInt8) (H : Heap) : AC Try.prog 20 [.pl (b.map brow)] H (Ret (.tup [.pl ((readList b).1.map eB), .int .i64 (readList b).2]) H) := by
  refine AC.body (N := 14) [.tmp 2, .tmp 3] Try.func20 rfl rfl rfl (Nat.le_of_ble_eq_true rfl) fun B hB => ?_
  repeat (refine aw_seq ?_)
  refine aw_region ?_
  refine ao1 (by decide) (o_assign (v := .nsl) rfl) ?_
  refine ao1 (by decide) (o_assign (v := .int _ _) rfl) ?_
  refine ao_nil ?_
  repeat (first | refine then_nrm ?_ | refine aw_seq ?_)
  refine aw_region ?_
  refine ao2 (by rintro _ ⟨⟩; decide) (o_allocL (sz := 1) rfl (by decide) rfl) ?_
  refine ao_nil ?_
  try dsimp only [put, List.length_nil, List.nil_append]
  by_cases hb : 65536 < b.length
  · rw [show readList b = ([], 4) by rw [readList, if_pos hb]]
    repeat (first | refine then_nrm ?_ | refine aw_seq ?_)
    refine aw_region ?_
    refine ao1 (by decide) (o_move (v := .pl _) rfl) ?_
    refine ao1 (by decide) (o_makeFunc (vs := []) (us := [_]) rfl rfl) ?_
    refine ao_ret (code_wholeL _ b _ hb) rfl (by decide) ?_
    refine ao1 (by decide) (o_assign (v := .int _ _) rfl) ?_
    refine ao_nil ?_
    try dsimp only
    repeat (first | refine then_nrm ?_ | refine aw_seq ?_)
    refine aw_region ?_
    refine ao1 (by decide) (o_move (v := .int _ _) rfl) ?_
    refine ao1 (by decide) (o_ne rfl rfl) ?_
    refine ao_nil ?_
    repeat (refine then_nrm ?_)
    refine aw_cond rfl (fun hc => ?_) (fun hc => ?_)
    · repeat (refine aw_seq ?_)
      refine aw_region ?_
      refine ao1 (by decide) (o_move (v := .int _ _) rfl) ?_
      refine ao1 (by decide) (o_assign (v := .nsl) rfl) ?_
      refine ao1 (by decide) (o_assign (v := .int _ _) rfl) ?_
      refine ao_nil ?_
      repeat (refine then_nrm ?_)
      refine aw_nslpl 2 rfl ?_
      refine aw_ret ?_
      exact e_done hB (r_tmp rfl (r_tmp rfl .nil)) rfl rfl
    · simp at hc
  repeat (first | refine then_nrm ?_ | refine aw_seq ?_)
  refine aw_newG 1 (by decide) ?_
  refine aw_nilC (ri := 0) (j := 0) 0 1 rfl rfl rfl rfl rfl (by decide) ?_
  have h1 := readList_1 b (by omega) H
  have c1 := code_whole (.pt (Lid H.length 0) 0 0 0) b (lstH H []) (lstH H (rlist b).1) (lstH H (rlist b).1) (rlist b).2 (by omega) (by rw [lst_len, lst_len]) (by rw [lst_len]; exact lst_bel hB.heap _) (by rw [lst_len, lst_len]) (by rw [lst_len]; exact lst_bel hB.heap _) (by rw [lst_len]; simp [AV.bel, Lid]) h1
  have hw : wholeH (lstH H (rlist b).1) (lstH H (rlist b).1) (rlist b).2 = lstH H (rlist b).1 := by unfold wholeH; split <;> rfl
  rw [hw] at c1
  generalize hr : rlist b = res at c1
  obtain ⟨l, x⟩ := res
  change AWp _ _ _ _ _ _ (lstH H [])
  refine aw_region ?_
  refine ao1 (by decide) (o_move (v := .pl _) rfl) ?_
  refine ao1 (by decide) (o_makeFunc (vs := []) (us := [_]) rfl rfl) ?_
  refine ao_ret (c1) rfl (by decide) ?_
  refine ao1 (by decide) (o_assign (v := .int _ _) rfl) ?_
  refine ao_nil ?_
  try dsimp only
  repeat (first | refine then_nrm ?_ | refine aw_seq ?_)
  refine aw_region ?_
  refine ao1 (by decide) (o_move (v := .int _ _) rfl) ?_
  refine ao1 (by decide) (o_ne rfl rfl) ?_
  refine ao_nil ?_
  cases x with
  | error e =>
    have he := rlist_err hr
    rw [show readList b = ([], e) by rw [readList, if_neg hb, hr]]
    repeat (refine then_nrm ?_)
    refine aw_cond rfl (fun hc => ?_) (fun hc => ?_)
    · repeat (refine aw_seq ?_)
      refine aw_region ?_
      refine ao1 (by decide) (o_move (v := .int _ _) rfl) ?_
      refine ao1 (by decide) (o_assign (v := .nsl) rfl) ?_
      refine ao1 (by decide) (o_assign (v := .int _ _) rfl) ?_
      refine ao_nil ?_
      try dsimp only
      repeat (refine then_nrm ?_)
      refine aw_nslpl 2 rfl ?_
      refine aw_ret ?_
      exact e_done hB (r_tmp rfl (r_tmp rfl .nil)) rfl rfl
    · simp [wholeE] at hc; omega
  | ok r =>
    cases r with
    | cons c r =>
      rw [show readList b = ([], 3) by rw [readList, if_neg hb, hr]]
      repeat (refine then_nrm ?_)
      refine aw_cond rfl (fun hc => ?_) (fun hc => ?_)
      · repeat (refine aw_seq ?_)
        refine aw_region ?_
        refine ao1 (by decide) (o_move (v := .int _ _) rfl) ?_
        refine ao1 (by decide) (o_assign (v := .nsl) rfl) ?_
        refine ao1 (by decide) (o_assign (v := .int _ _) rfl) ?_
        refine ao_nil ?_
        try dsimp only
        repeat (refine then_nrm ?_)
        refine aw_nslpl 2 rfl ?_
        refine aw_ret ?_
        exact e_done hB (r_tmp rfl (r_tmp rfl .nil)) rfl rfl
      · simp [wholeE] at hc
    | nil =>
      rw [show readList b = (l, 0) by rw [readList, if_neg hb, hr]]
      repeat (refine then_nrm ?_)
      refine aw_cond rfl (fun hc => ?_) (fun hc => ?_)
      · simp [wholeE] at hc
      unfold lstH
      repeat (first | refine then_nrm ?_ | refine aw_seq ?_ | refine aw_skip ?_)
      refine aw_freezeC (ys := l.map eB) (i := 0) (j := 0) 0 rfl rfl rfl rfl rfl (by decide) rfl rfl (by rw [List.drop_zero, List.take_of_length_le (by simp)]) (by simp) (eB_bel 0 _) ?_
      refine aw_region ?_
      refine ao1 (by decide) (w_load1 (v := .pl _) rfl (lk rfl rfl) rfl rfl rfl) ?_
      refine ao_ret (slices_ClipB _ _) rfl (by decide) ?_
      refine ao1 (by decide) (o_assign (v := .pl _) rfl) ?_
      refine ao1 (by decide) (o_assign (v := .int _ _) rfl) ?_
      refine ao_nil ?_
      try dsimp only [List.set_cons_succ, List.set_cons_zero]
      repeat (first | refine then_nrm ?_ | refine aw_ret ?_)
      exact e_done hB (r_tmp rfl (r_tmp rfl .nil)) rfl rfl
end Go.Av

namespace Go.Av
open Go.Proofs
set_option maxRecDepth 10000
set_option linter.unusedSimpArgs false
set_option linter.unusedVariables false

def aw_s : Spec := ⟨2, 3, 0, ⟨#[97]⟩, true, 5, -1⟩
theorem aw_set : putSet [0, 1, 2, 3, 7] = ([2, 2, 0, 3, 4, 0], 0) := by decide +kernel
theorem aw_spec : readSpec [1, 2, 3, 0, 1, 97, 1, 5, 1] = (aw_s, 0) := by decide +kernel
set_option maxHeartbeats 0 in
theorem law08_awake (H : Heap) : AC Try.prog 7 [] H (Ret (.bool true) H) := by
  have c1 := fun H => code_Set [0, 1, 2, 3, 7] (by simp) H
  rw [aw_set] at c1
  have c2 := fun H => code_ReadSpec [1, 2, 3, 0, 1, 97, 1, 5, 1] H
  rw [aw_spec] at c2
  refine AC.body (N := 31) [.tmp 0] Try.func7 rfl rfl rfl (Nat.le_of_ble_eq_true rfl) fun B hB => ?_
  repeat (refine aw_seq ?_)
  refine aw_region ?_
  refine ao1 (by decide) (o_assign (v := .bool _) rfl) ?_
  refine ao_nil ?_
  repeat (first | refine then_nrm ?_ | refine aw_seq ?_)
  refine aw_region ?_
  refine ao2 (by rintro _ ⟨⟩; decide) (g_litL (sz := 1) [[.int .i64 0], [.int .i64 1], [.int .i64 2], [.int .i64 3], [.int .i64 7]] rfl (by decide) (by decide) (by decide) rfl rfl (by simp) rfl (by simp [AV.bels, AV.bel])) ?_
  refine ao_ret (c1 _) rfl (by decide) ?_
  refine ao1 (by decide) (o_move (v := .tup _) rfl) ?_
  refine ao1 (by decide) (o_extract (v := .pl _) rfl rfl) ?_
  refine ao1 (by decide) (o_extract (v := .int _ _) rfl rfl) ?_
  refine ao1 (by decide) (o_assign (v := .pl _) rfl) ?_
  refine ao1 (by decide) (o_assign (v := .int _ _) rfl) ?_
  refine ao_nil ?_
  try dsimp only [put]
  repeat (first | refine then_nrm ?_ | refine aw_seq ?_)
  refine aw_region ?_
  refine ao2 (by rintro _ ⟨⟩; decide) (g_litL (sz := 1) [[.int .u8 1], [.int .u8 2], [.int .u8 3], [.int .u8 0], [.int .u8 1], [.int .u8 97], [.int .u8 1], [.int .u8 5], [.int .u8 1]] rfl (by decide) (by decide) (by decide) rfl rfl (by simp) rfl (by simp [AV.bels, AV.bel])) ?_
  refine ao_ret (c2 _) rfl (by decide) ?_
  refine ao1 (by decide) (o_move (v := .tup _) rfl) ?_
  refine ao1 (by decide) (o_extract (v := .agg _) rfl rfl) ?_
  refine ao1 (by decide) (o_extract (v := .int _ _) rfl rfl) ?_
  refine ao2 (by rintro _ ⟨⟩; decide) (o_allocL (sz := 7) rfl (by decide) rfl) ?_
  refine ao2 (by rintro _ ⟨⟩) (w_storeW (sz := 7) rfl rfl rfl rfl rfl rfl rfl rfl (Nat.le_of_ble_eq_true rfl)) ?_
  refine ao1 (by decide) (o_assign (v := .int _ _) rfl) ?_
  refine ao_nil ?_
  try dsimp only [put, List.length_nil, List.nil_append, List.set_cons_zero]
  repeat (first | refine then_nrm ?_ | refine aw_seq ?_)
  refine aw_out 0 (.bool true) ?_ ?_
  · refine ao1 (by decide) (o_move (v := .int _ _) rfl) ?_
    refine ao1 (by decide) (o_eq rfl rfl) ?_
    refine ao1 (by decide) (o_move (v := .bool _) rfl) ?_
    refine ao_split rfl rfl (fun hg2 => ?_) (fun hg2 => ?_)
    · refine ao_y1 rfl rfl (by decide) (o_move (v := .pl _) rfl) ?_
      refine ao_y1 rfl rfl (by decide) (o_bytesStr (bs := [2, 2, 0, 3, 4, 0]) rfl) ?_
      refine ao_y1 rfl rfl (by decide) (o_seqd rfl rfl) ?_
      refine ao1 (by decide) (o_pick_t (v := .bool _) rfl rfl) ?_
      refine ao1 (by decide) (o_move (v := .bool _) rfl) ?_
      refine ao_split rfl rfl (fun hg7 => ?_) (fun hg7 => ?_)
      · refine ao_y1 rfl rfl (by decide) (o_move (v := .int _ _) rfl) ?_
        refine ao_y1 rfl rfl (by decide) (o_eq rfl rfl) ?_
        refine ao1 (by decide) (o_pick_t (v := .bool _) rfl rfl) ?_
        refine ao1 (by decide) (o_move (v := .bool _) rfl) ?_
        refine ao_split rfl rfl (fun hg11 => ?_) (fun hg11 => ?_)
        · refine ao_y1 rfl rfl (by decide) (w_loadR rfl (lk rfl rfl) rfl rfl rfl) ?_
          refine ao_y1 rfl rfl (by decide) (V1.up (o_build (cs := [.int _ _, .int _ _, .int _ _, .str _, .bool _, .int _ _, .int _ _]) rfl)) ?_
          refine ao_y1 rfl rfl (by decide) (o_eqAgg (us := uSpec aw_s) (vs := uSpec aw_s) rfl rfl rfl rfl (by kernel_rfl) (eqSpec_run aw_s aw_s)) ?_
          refine ao1 (by decide) (o_pick_t (v := .bool _) rfl rfl) ?_
          refine ao1 (by decide) (o_assign (v := .bool _) rfl) ?_
          exact ao_nil (Out.mk (by rfl) (by repeat (first | exact SubX.refl _ _ | refine SubX.at ?_ | refine SubX.put rfl ?_)))
        · refine ao_nT rfl rfl (by decide) ?_
          refine ao_nT rfl rfl (by decide) ?_
          refine ao_nT rfl rfl (by decide) ?_
          refine ao1 (by decide) (o_pick_f (v := .bool _) rfl rfl) ?_
          refine ao1 (by decide) (o_assign (v := .bool _) rfl) ?_
          exact ao_nil (Out.mk (by (refine congrArg AV.bool ?_; (simp_all; done))) (by repeat (first | exact SubX.refl _ _ | refine SubX.at ?_ | refine SubX.put rfl ?_)))
      · refine ao_nT rfl rfl (by decide) ?_
        refine ao_nT rfl rfl (by decide) ?_
        refine ao1 (by decide) (o_pick_f (v := .bool _) rfl rfl) ?_
        refine ao1 (by decide) (o_move (v := .bool _) rfl) ?_
        refine ao_nT rfl rfl (by decide) ?_
        refine ao_nT rfl rfl (by decide) ?_
        refine ao_nT rfl rfl (by decide) ?_
        refine ao1 (by decide) (o_pick_f (v := .bool _) rfl rfl) ?_
        refine ao1 (by decide) (o_assign (v := .bool _) rfl) ?_
        exact ao_nil (Out.mk (by (refine congrArg AV.bool ?_; (simp_all; done))) (by repeat (first | exact SubX.refl _ _ | refine SubX.at ?_ | refine SubX.put rfl ?_)))
    · refine ao_nT rfl rfl (by decide) ?_
      refine ao_nT rfl rfl (by decide) ?_
      refine ao_nT rfl rfl (by decide) ?_
      refine ao1 (by decide) (o_pick_f (v := .bool _) rfl rfl) ?_
      refine ao1 (by decide) (o_move (v := .bool _) rfl) ?_
      refine ao_nT rfl rfl (by decide) ?_
      refine ao_nT rfl rfl (by decide) ?_
      refine ao1 (by decide) (o_pick_f (v := .bool _) rfl rfl) ?_
      refine ao1 (by decide) (o_move (v := .bool _) rfl) ?_
      refine ao_nT rfl rfl (by decide) ?_
      refine ao_nT rfl rfl (by decide) ?_
      refine ao_nT rfl rfl (by decide) ?_
      refine ao1 (by decide) (o_pick_f (v := .bool _) rfl rfl) ?_
      refine ao1 (by decide) (o_assign (v := .bool _) rfl) ?_
      exact ao_nil (Out.mk (by (refine congrArg AV.bool ?_; (simp_all; done))) (by repeat (first | exact SubX.refl _ _ | refine SubX.at ?_ | refine SubX.put rfl ?_)))
  repeat (first | refine then_nrm ?_ | refine aw_ret ?_)
  exact e_done hB (r_tmp rfl .nil) rfl rfl
theorem short_facts {l : List (List UInt8)} (h : short l = true) : l.length ≤ 60 ∧ ∀ p ∈ l, p.length ≤ 300 := by
  rw [short, Bool.and_eq_true] at h
  exact ⟨of_decide_eq_true h.1, fun p hp => of_decide_eq_true (List.all_eq_true.1 h.2 p hp)⟩
set_option maxHeartbeats 0 in
theorem law08_CodePuts (s : Spec) (l : List Int) (ps : List (List UInt8)) (ht : s.tag.size ≤ 9223372036854775807) (H : Heap) : AC Try.prog 4 [.agg (eSpec s), .pl (l.map eInt), .pl (ps.map eB)] H (Ret (.bool true) H) := by
  refine AC.body (N := 93) [.tmp 6] Try.func4 rfl rfl rfl (Nat.le_of_ble_eq_true rfl) fun B hB => ?_
  repeat (refine aw_seq ?_)
  refine aw_region ?_
  refine ao2 (by rintro _ ⟨⟩; decide) (o_boxL (sz := 7) (v := .agg _) rfl rfl rfl rfl (by decide) rfl) ?_
  refine ao1 (by decide) (o_assign (v := .bool _) rfl) ?_
  refine ao_nil ?_
  try dsimp only [List.length_nil, put, AV.cells, List.nil_append]
  repeat (first | refine then_nrm ?_ | refine aw_seq ?_)
  refine aw_region ?_
  refine ao_ret (law08_awake _) rfl (by decide) ?_
  refine ao1 (by decide) (o_not rfl) ?_
  refine ao_nil ?_
  repeat (refine then_nrm ?_)
  refine aw_cond rfl (fun hc => ?_) (fun hc => ?_)
  · simp at hc
  clear hc
  repeat (first | refine then_nrm ?_ | refine aw_seq ?_ | refine aw_skip ?_)
  refine aw_out 28 (.bool (decide (300 < l.length) || !short ps)) ?_ ?_
  · refine ao1 (by decide) (o_move (v := .pl _) rfl) ?_
    refine ao1 (by decide) (o_lenp rfl) ?_
    refine ao1 (by decide) (o_gt rfl rfl) ?_
    refine ao1 (by decide) (o_move (v := .bool _) rfl) ?_
    refine ao_split rfl rfl (fun hg3 => ?_) (fun hg3 => ?_)
    · refine ao_nF rfl rfl (by decide) ?_
      refine ao_nF rfl rfl (by decide) ?_
      refine ao_nF rfl rfl (by decide) ?_
      refine ao1 (by decide) (o_pick_t (v := .bool _) rfl rfl) ?_
      exact ao_nil (Out.mk (by (refine congrArg AV.bool ?_; (clear hB; (simp_all; omega)))) (by repeat (first | exact SubX.refl _ _ | refine SubX.at ?_ | refine SubX.put rfl ?_)))
    · refine ao_y1 rfl rfl (by decide) (o_move (v := .pl _) rfl) ?_
      refine ao_y rfl rfl (by decide) (V2.call (ref08_Short _ _) rfl) ?_
      refine ao_y1 rfl rfl (by decide) (o_not rfl) ?_
      refine ao1 (by decide) (o_pick_f (v := .bool _) rfl rfl) ?_
      exact ao_nil (Out.mk (by (refine congrArg AV.bool ?_; (clear hB; (simp_all; omega)))) (by repeat (first | exact SubX.refl _ _ | refine SubX.at ?_ | refine SubX.put rfl ?_)))
  repeat (refine then_nrm ?_)
  refine aw_cond rfl (fun hc => ?_) (fun hc => ?_)
  · repeat (refine aw_seq ?_)
    refine aw_region ?_
    refine ao1 (by decide) (o_assign (v := .bool _) rfl) ?_
    refine ao_nil ?_
    repeat (first | refine then_nrm ?_ | refine then_ret ?_ | refine aw_ret ?_)
    exact e_done hB (r_tmp rfl .nil) rfl rfl
  have hl : l.length ≤ 1000000 := by simp at hc; omega
  have hs : short ps = true := by simp at hc; exact hc.2
  have hp : ps.length ≤ 1000000 := by have := (short_facts hs).1; omega
  clear hc
  repeat (first | refine then_nrm ?_ | refine aw_seq ?_ | refine aw_skip ?_)
  refine aw_region ?_
  refine ao1 (by decide) (w_loadR rfl (lk rfl rfl) rfl rfl rfl) ?_
  refine ao_ret (code_Spec _ _) rfl (by decide) ?_
  refine ao1 (by decide) (o_move (v := .tup _) rfl) ?_
  refine ao1 (by decide) (o_extract (v := .pl _) rfl rfl) ?_
  refine ao1 (by decide) (o_extract (v := .int _ _) rfl rfl) ?_
  refine ao1 (by decide) (o_assign (v := .pl _) rfl) ?_
  refine ao1 (by decide) (o_assign (v := .int _ _) rfl) ?_
  refine ao_nil ?_
  repeat (first | refine then_nrm ?_ | refine aw_seq ?_)
  refine aw_region ?_
  refine ao1 (by decide) (w_loadR rfl (lk rfl rfl) rfl rfl rfl) ?_
  refine ao_ret (ref08_Spec _ _ (by assumption)) rfl (by decide) ?_
  refine ao1 (by decide) (o_move (v := .tup _) rfl) ?_
  refine ao1 (by decide) (o_extract (v := .pl _) rfl rfl) ?_
  refine ao1 (by decide) (o_extract (v := .int _ _) rfl rfl) ?_
  refine ao1 (by decide) (o_assign (v := .pl _) rfl) ?_
  refine ao1 (by decide) (o_assign (v := .int _ _) rfl) ?_
  refine ao_nil ?_
  repeat (first | refine then_nrm ?_ | refine aw_seq ?_)
  refine aw_region ?_
  refine ao1 (by decide) (o_move (v := .pl _) rfl) ?_
  refine ao_ret (code_Set _ (by assumption) _) rfl (by decide) ?_
  refine ao1 (by decide) (o_move (v := .tup _) rfl) ?_
  refine ao1 (by decide) (o_extract (v := .pl _) rfl rfl) ?_
  refine ao1 (by decide) (o_extract (v := .int _ _) rfl rfl) ?_
  refine ao1 (by decide) (o_assign (v := .pl _) rfl) ?_
  refine ao1 (by decide) (o_assign (v := .int _ _) rfl) ?_
  refine ao_nil ?_
  repeat (first | refine then_nrm ?_ | refine aw_seq ?_)
  refine aw_region ?_
  refine ao1 (by decide) (o_move (v := .pl _) rfl) ?_
  refine ao_ret (ref08_Set _ (by assumption) _) rfl (by decide) ?_
  refine ao1 (by decide) (o_move (v := .tup _) rfl) ?_
  refine ao1 (by decide) (o_extract (v := .pl _) rfl rfl) ?_
  refine ao1 (by decide) (o_extract (v := .int _ _) rfl rfl) ?_
  refine ao1 (by decide) (o_assign (v := .pl _) rfl) ?_
  refine ao1 (by decide) (o_assign (v := .int _ _) rfl) ?_
  refine ao_nil ?_
  repeat (first | refine then_nrm ?_ | refine aw_seq ?_)
  refine aw_region ?_
  refine ao1 (by decide) (o_move (v := .pl _) rfl) ?_
  refine ao_ret (code_List _ (by assumption) _) rfl (by decide) ?_
  refine ao1 (by decide) (o_move (v := .tup _) rfl) ?_
  refine ao1 (by decide) (o_extract (v := .pl _) rfl rfl) ?_
  refine ao1 (by decide) (o_extract (v := .int _ _) rfl rfl) ?_
  refine ao1 (by decide) (o_assign (v := .pl _) rfl) ?_
  refine ao1 (by decide) (o_assign (v := .int _ _) rfl) ?_
  refine ao_nil ?_
  repeat (first | refine then_nrm ?_ | refine aw_seq ?_)
  refine aw_region ?_
  refine ao1 (by decide) (o_move (v := .pl _) rfl) ?_
  refine ao_ret (ref08_List _ (by assumption) _) rfl (by decide) ?_
  refine ao1 (by decide) (o_move (v := .tup _) rfl) ?_
  refine ao1 (by decide) (o_extract (v := .pl _) rfl rfl) ?_
  refine ao1 (by decide) (o_extract (v := .int _ _) rfl rfl) ?_
  refine ao1 (by decide) (o_assign (v := .pl _) rfl) ?_
  refine ao1 (by decide) (o_assign (v := .int _ _) rfl) ?_
  refine ao_nil ?_
  generalize putSpec s = x
  generalize putSet l = y
  generalize putList ps = z
  obtain ⟨x1, x2⟩ := x
  obtain ⟨y1, y2⟩ := y
  obtain ⟨z1, z2⟩ := z
  simp only
  repeat (first | refine then_nrm ?_ | refine aw_seq ?_)
  refine aw_out 6 (.bool true) ?_ ?_
  · refine ao1 (by decide) (o_move (v := .pl _) rfl) ?_
    refine ao1 (by decide) (o_bytesStr (bs := x1) rfl) ?_
    refine ao1 (by decide) (o_move (v := .pl _) rfl) ?_
    refine ao1 (by decide) (o_bytesStr (bs := x1) rfl) ?_
    refine ao1 (by decide) (o_seqd rfl rfl) ?_
    refine ao1 (by decide) (o_move (v := .bool _) rfl) ?_
    refine ao_split rfl rfl (fun hg5 => ?_) (fun hg5 => ?_)
    · refine ao_y1 rfl rfl (by decide) (o_move (v := .int _ _) rfl) ?_
      refine ao_y1 rfl rfl (by decide) (o_move (v := .int _ _) rfl) ?_
      refine ao_y1 rfl rfl (by decide) (o_eq rfl rfl) ?_
      refine ao1 (by decide) (o_pick_t (v := .bool _) rfl rfl) ?_
      refine ao1 (by decide) (o_move (v := .bool _) rfl) ?_
      refine ao_split rfl rfl (fun hg10 => ?_) (fun hg10 => ?_)
      · refine ao_y1 rfl rfl (by decide) (o_move (v := .pl _) rfl) ?_
        refine ao_y1 rfl rfl (by decide) (o_bytesStr (bs := y1) rfl) ?_
        refine ao_y1 rfl rfl (by decide) (o_move (v := .pl _) rfl) ?_
        refine ao_y1 rfl rfl (by decide) (o_bytesStr (bs := y1) rfl) ?_
        refine ao_y1 rfl rfl (by decide) (o_seqd rfl rfl) ?_
        refine ao1 (by decide) (o_pick_t (v := .bool _) rfl rfl) ?_
        refine ao1 (by decide) (o_move (v := .bool _) rfl) ?_
        refine ao_split rfl rfl (fun hg17 => ?_) (fun hg17 => ?_)
        · refine ao_y1 rfl rfl (by decide) (o_move (v := .int _ _) rfl) ?_
          refine ao_y1 rfl rfl (by decide) (o_move (v := .int _ _) rfl) ?_
          refine ao_y1 rfl rfl (by decide) (o_eq rfl rfl) ?_
          refine ao1 (by decide) (o_pick_t (v := .bool _) rfl rfl) ?_
          refine ao1 (by decide) (o_move (v := .bool _) rfl) ?_
          refine ao_split rfl rfl (fun hg22 => ?_) (fun hg22 => ?_)
          · refine ao_y1 rfl rfl (by decide) (o_move (v := .pl _) rfl) ?_
            refine ao_y1 rfl rfl (by decide) (o_bytesStr (bs := z1) rfl) ?_
            refine ao_y1 rfl rfl (by decide) (o_move (v := .pl _) rfl) ?_
            refine ao_y1 rfl rfl (by decide) (o_bytesStr (bs := z1) rfl) ?_
            refine ao_y1 rfl rfl (by decide) (o_seqd rfl rfl) ?_
            refine ao1 (by decide) (o_pick_t (v := .bool _) rfl rfl) ?_
            refine ao1 (by decide) (o_move (v := .bool _) rfl) ?_
            refine ao_split rfl rfl (fun hg29 => ?_) (fun hg29 => ?_)
            · refine ao_y1 rfl rfl (by decide) (o_move (v := .int _ _) rfl) ?_
              refine ao_y1 rfl rfl (by decide) (o_move (v := .int _ _) rfl) ?_
              refine ao_y1 rfl rfl (by decide) (o_eq rfl rfl) ?_
              refine ao1 (by decide) (o_pick_t (v := .bool _) rfl rfl) ?_
              refine ao1 (by decide) (o_assign (v := .bool _) rfl) ?_
              exact ao_nil (Out.mk (by (refine congrArg AV.bool ?_; (simp_all; done))) (by repeat (first | exact SubX.refl _ _ | refine SubX.at ?_ | refine SubX.put rfl ?_)))
            · refine ao_nT rfl rfl (by decide) ?_
              refine ao_nT rfl rfl (by decide) ?_
              refine ao_nT rfl rfl (by decide) ?_
              refine ao1 (by decide) (o_pick_f (v := .bool _) rfl rfl) ?_
              refine ao1 (by decide) (o_assign (v := .bool _) rfl) ?_
              exact ao_nil (Out.mk (by (refine congrArg AV.bool ?_; (simp_all; done))) (by repeat (first | exact SubX.refl _ _ | refine SubX.at ?_ | refine SubX.put rfl ?_)))
          · refine ao_nT rfl rfl (by decide) ?_
            refine ao_nT rfl rfl (by decide) ?_
            refine ao_nT rfl rfl (by decide) ?_
            refine ao_nT rfl rfl (by decide) ?_
            refine ao_nT rfl rfl (by decide) ?_
            refine ao1 (by decide) (o_pick_f (v := .bool _) rfl rfl) ?_
            refine ao1 (by decide) (o_move (v := .bool _) rfl) ?_
            refine ao_nT rfl rfl (by decide) ?_
            refine ao_nT rfl rfl (by decide) ?_
            refine ao_nT rfl rfl (by decide) ?_
            refine ao1 (by decide) (o_pick_f (v := .bool _) rfl rfl) ?_
            refine ao1 (by decide) (o_assign (v := .bool _) rfl) ?_
            exact ao_nil (Out.mk (by (refine congrArg AV.bool ?_; (simp_all; done))) (by repeat (first | exact SubX.refl _ _ | refine SubX.at ?_ | refine SubX.put rfl ?_)))
        · refine ao_nT rfl rfl (by decide) ?_
          refine ao_nT rfl rfl (by decide) ?_
          refine ao_nT rfl rfl (by decide) ?_
          refine ao1 (by decide) (o_pick_f (v := .bool _) rfl rfl) ?_
          refine ao1 (by decide) (o_move (v := .bool _) rfl) ?_
          refine ao_nT rfl rfl (by decide) ?_
          refine ao_nT rfl rfl (by decide) ?_
          refine ao_nT rfl rfl (by decide) ?_
          refine ao_nT rfl rfl (by decide) ?_
          refine ao_nT rfl rfl (by decide) ?_
          refine ao1 (by decide) (o_pick_f (v := .bool _) rfl rfl) ?_
          refine ao1 (by decide) (o_move (v := .bool _) rfl) ?_
          refine ao_nT rfl rfl (by decide) ?_
          refine ao_nT rfl rfl (by decide) ?_
          refine ao_nT rfl rfl (by decide) ?_
          refine ao1 (by decide) (o_pick_f (v := .bool _) rfl rfl) ?_
          refine ao1 (by decide) (o_assign (v := .bool _) rfl) ?_
          exact ao_nil (Out.mk (by (refine congrArg AV.bool ?_; (simp_all; done))) (by repeat (first | exact SubX.refl _ _ | refine SubX.at ?_ | refine SubX.put rfl ?_)))
      · refine ao_nT rfl rfl (by decide) ?_
        refine ao_nT rfl rfl (by decide) ?_
        refine ao_nT rfl rfl (by decide) ?_
        refine ao_nT rfl rfl (by decide) ?_
        refine ao_nT rfl rfl (by decide) ?_
        refine ao1 (by decide) (o_pick_f (v := .bool _) rfl rfl) ?_
        refine ao1 (by decide) (o_move (v := .bool _) rfl) ?_
        refine ao_nT rfl rfl (by decide) ?_
        refine ao_nT rfl rfl (by decide) ?_
        refine ao_nT rfl rfl (by decide) ?_
        refine ao1 (by decide) (o_pick_f (v := .bool _) rfl rfl) ?_
        refine ao1 (by decide) (o_move (v := .bool _) rfl) ?_
        refine ao_nT rfl rfl (by decide) ?_
        refine ao_nT rfl rfl (by decide) ?_
        refine ao_nT rfl rfl (by decide) ?_
        refine ao_nT rfl rfl (by decide) ?_
        refine ao_nT rfl rfl (by decide) ?_
        refine ao1 (by decide) (o_pick_f (v := .bool _) rfl rfl) ?_
        refine ao1 (by decide) (o_move (v := .bool _) rfl) ?_
        refine ao_nT rfl rfl (by decide) ?_
        refine ao_nT rfl rfl (by decide) ?_
        refine ao_nT rfl rfl (by decide) ?_
        refine ao1 (by decide) (o_pick_f (v := .bool _) rfl rfl) ?_
        refine ao1 (by decide) (o_assign (v := .bool _) rfl) ?_
        exact ao_nil (Out.mk (by (refine congrArg AV.bool ?_; (simp_all; done))) (by repeat (first | exact SubX.refl _ _ | refine SubX.at ?_ | refine SubX.put rfl ?_)))
    · refine ao_nT rfl rfl (by decide) ?_
      refine ao_nT rfl rfl (by decide) ?_
      refine ao_nT rfl rfl (by decide) ?_
      refine ao1 (by decide) (o_pick_f (v := .bool _) rfl rfl) ?_
      refine ao1 (by decide) (o_move (v := .bool _) rfl) ?_
      refine ao_nT rfl rfl (by decide) ?_
      refine ao_nT rfl rfl (by decide) ?_
      refine ao_nT rfl rfl (by decide) ?_
      refine ao_nT rfl rfl (by decide) ?_
      refine ao_nT rfl rfl (by decide) ?_
      refine ao1 (by decide) (o_pick_f (v := .bool _) rfl rfl) ?_
      refine ao1 (by decide) (o_move (v := .bool _) rfl) ?_
      refine ao_nT rfl rfl (by decide) ?_
      refine ao_nT rfl rfl (by decide) ?_
      refine ao_nT rfl rfl (by decide) ?_
      refine ao1 (by decide) (o_pick_f (v := .bool _) rfl rfl) ?_
      refine ao1 (by decide) (o_move (v := .bool _) rfl) ?_
      refine ao_nT rfl rfl (by decide) ?_
      refine ao_nT rfl rfl (by decide) ?_
      refine ao_nT rfl rfl (by decide) ?_
      refine ao_nT rfl rfl (by decide) ?_
      refine ao_nT rfl rfl (by decide) ?_
      refine ao1 (by decide) (o_pick_f (v := .bool _) rfl rfl) ?_
      refine ao1 (by decide) (o_move (v := .bool _) rfl) ?_
      refine ao_nT rfl rfl (by decide) ?_
      refine ao_nT rfl rfl (by decide) ?_
      refine ao_nT rfl rfl (by decide) ?_
      refine ao1 (by decide) (o_pick_f (v := .bool _) rfl rfl) ?_
      refine ao1 (by decide) (o_assign (v := .bool _) rfl) ?_
      exact ao_nil (Out.mk (by (refine congrArg AV.bool ?_; (simp_all; done))) (by repeat (first | exact SubX.refl _ _ | refine SubX.at ?_ | refine SubX.put rfl ?_)))
  repeat (first | refine then_nrm ?_ | refine aw_ret ?_)
  exact e_done hB (r_tmp rfl .nil) rfl rfl
end Go.Av

/-
  CODES, plainly: what was put is read as1 it was; what is read was put in just these bytes; what is less is short; none is the beginning of another one.
-/
namespace Go.Av
theorem putSpec_ok {s : Spec} (h : sright s = true) : putSpec s = (specB s, 0) := by rw [putSpec, if_neg (by rw [h]; simp)]
theorem putSpec_no {s : Spec} (h : sright s = false) : putSpec s = ([], 1) := by rw [putSpec, if_pos h]
theorem putSet_ok {l : List Int} (h : sok l = true) : putSet l = (setB l, 0) := by rw [putSet, if_neg (by rw [h]; simp)]
theorem putSet_no {l : List Int} (h : sok l = false) : putSet l = ([], 1) := by rw [putSet, if_pos h]
theorem rspec_all {s : Spec} (h : sright s = true) : rspec (specB s) = .ok (s, []) := by have := rspec_put h []; rwa [List.append_nil] at this
theorem rset_all {l : List Int} (h : sok l = true) : rset (setB l) = .ok (l, []) := by have := rset_put h []; rwa [List.append_nil] at this
theorem readSpec_put {s : Spec} (h : sright s = true) : readSpec (specB s) = (s, 0) := by
  have := specB_len h
  rw [readSpec, if_neg (by omega), rspec_all h]; rfl
theorem readSet_put {l : List Int} (h : sok l = true) : readSet (setB l) = (l, 0) := by
  have := setB_len l
  rw [readSet, if_neg (by omega), rset_all h]; rfl
theorem pfx_less {α : Type} {f : Rd α} (hf : Pfx f) {b : List UInt8} {v : α} (h : f b = .ok (v, [])) (hne : b ≠ []) : f (b.take (b.length - 1)) = .error 2 := by
  obtain ⟨x, e, _, k⟩ := hf _ _ _ h
  rw [List.append_nil] at e
  subst e
  refine k _ (b.drop (b.length - 1)) (List.take_append_drop _ _).symm ?_
  intro h0
  have := congrArg List.length h0
  rw [List.length_drop, List.length_nil] at this
  have : 0 < b.length := List.length_pos_iff.2 hne
  omega
/-- A spec that is read. -/
theorem readSpec_cases (b : List UInt8) (hb : b.length ≤ 3000) : ((readSpec b).2 = 0 ∧ putSpec (readSpec b).1 = (b, 0) ∧ (∃ b0, b = 1 :: b0) ∧ (readSpec (b.take (b.length - 1))).2 = 2) ∨ ((readSpec b).2 ≠ 0 ∧ (readSpec b).1 = spec0) := by
  cases hr : rspec b with
  | error e =>
    right
    have := rspec_err23 _ _ hr
    rw [readSpec, if_neg (by omega), hr]
    exact ⟨by simp only; omega, rfl⟩
  | ok y =>
    obtain ⟨s, r⟩ := y
    by_cases h0 : r = []
    · subst h0
      left
      obtain ⟨h1, h2⟩ := rspec_inv hr
      rw [List.append_nil] at h2
      have hr2 := pfx_less rspec_pfx hr (by rw [h2, specB]; simp)
      have e : readSpec b = (s, 0) := by rw [readSpec, if_neg (by omega), hr]; rfl
      rw [e]
      refine ⟨rfl, by rw [putSpec_ok h1, ← h2], rspec_head hr, ?_⟩
      rw [readSpec, if_neg (by rw [List.length_take]; omega), hr2]
    · right
      rw [readSpec, if_neg (by omega), hr]
      simp [h0]
theorem readSet_cases (b : List UInt8) (hb : b.length ≤ 3000) : ((readSet b).2 = 0 ∧ putSet (readSet b).1 = (b, 0) ∧ (∃ b0, b = 2 :: b0) ∧ (readSet (b.take (b.length - 1))).2 = 2 ∧ (readSet b).1.length ≤ 256) ∨ ((readSet b).2 ≠ 0 ∧ (readSet b).1 = []) := by
  cases hr : rset b with
  | error e =>
    right
    have := rset_err hr
    rw [readSet, if_neg (by omega), hr]
    exact ⟨by simp only; omega, rfl⟩
  | ok y =>
    obtain ⟨l, r⟩ := y
    by_cases h0 : r = []
    · subst h0
      left
      obtain ⟨h1, h2⟩ := rset_inv hr
      rw [List.append_nil] at h2
      have hr2 := pfx_less rset_pfx hr (by rw [h2, setB]; simp)
      have e : readSet b = (l, 0) := by rw [readSet, if_neg (by omega), hr]; rfl
      rw [e]
      refine ⟨rfl, by rw [putSet_ok h1, ← h2], rset_head hr, ?_, sok_256 h1⟩
      rw [readSet, if_neg (by rw [List.length_take]; omega), hr2]
    · right
      rw [readSet, if_neg (by omega), hr]
      simp [h0]
theorem readList_cases (b : List UInt8) (hb : b.length ≤ 3000) : ((readList b).2 = 0 ∧ putList (readList b).1 = (b, 0) ∧ (∃ b0, b = 3 :: b0) ∧ (readList b).1.length ≤ 1000) ∨ ((readList b).2 ≠ 0 ∧ (readList b).1 = []) := by
  by_cases h : (readList b).2 = 0
  · left
    obtain ⟨h1, h2⟩ := readList_inv h
    refine ⟨h, h1, h2, ?_⟩
    unfold putList at h1
    split at h1
    · cases h1
    · omega
  · right
    refine ⟨h, ?_⟩
    unfold readList at h ⊢
    rw [if_neg (by omega)] at h ⊢
    generalize rlist b = x at h ⊢
    obtain ⟨l, y⟩ := x
    cases y with
    | error e => rfl
    | ok r =>
      cases r with
      | nil => exact absurd rfl h
      | cons c r => rfl
theorem isPart_spec {s : Spec} (h : sright s = true) : IsPart (specB s) := .inl ⟨s, rspec_all h⟩
theorem isPart_set {l : List Int} (h : sok l = true) : IsPart (setB l) := .inr ⟨l, rset_all h⟩
/-! ### none is the beginning of another one -/
def PreB (x y : List UInt8) : Prop := x.length ≤ y.length ∧ x = y.take x.length
theorem pre_app {x y : List UInt8} (h : PreB x y) : ∃ z, y = x ++ z := ⟨y.drop x.length, by
  have := (List.take_append_drop x.length y).symm
  rwa [← h.2] at this⟩
theorem pre_spec {s t : Spec} (hs : sright s = true) (ht : sright t = true) (h : PreB (specB s) (specB t)) : s = t := by
  obtain ⟨z, e⟩ := pre_app h
  have h1 := rspec_put hs z
  rw [← e, rspec_all ht] at h1
  cases h1
  rfl
theorem pre_set {a b : List Int} (ha : sok a = true) (hb : sok b = true) (h : PreB (setB a) (setB b)) : a = b := by
  obtain ⟨z, e⟩ := pre_app h
  have h1 := rset_put ha z
  rw [← e, rset_all hb] at h1
  cases h1
  rfl
theorem pre_st {s : Spec} {a : List Int} (h : PreB (specB s) (setB a)) : False := by
  obtain ⟨z, e⟩ := pre_app h
  rw [specB, setB] at e
  simp at e
theorem pre_ts {s : Spec} {a : List Int} (h : PreB (setB a) (specB s)) : False := by
  obtain ⟨z, e⟩ := pre_app h
  rw [specB, setB] at e
  simp at e
def ApartB (l : List (List UInt8)) : Prop := ∀ (i k : Nat) (x y : List UInt8), i ≠ k → l[i]? = some x → l[k]? = some y → ¬ PreB x y
end Go.Av

namespace Go.Av
open Go.Proofs
set_option maxRecDepth 10000
set_option linter.unusedSimpArgs false
set_option linter.unusedVariables false

theorem specparts_bel (n : Nat) (s : Spec) (ps : List (List UInt8)) (g : Nat) : ∀ o ∈ [AObj.mk 0 7 [eSpec s], AObj.mk g 1 (ps.map eB)], ∀ r ∈ o.rows, AV.bels n r = true := by
  intro o ho r hr
  simp only [List.mem_cons, List.not_mem_nil, or_false] at ho
  rcases ho with rfl | rfl
  · simp only [List.mem_singleton] at hr; subst hr; rfl
  · exact eB_bel _ _ r hr
set_option maxHeartbeats 0 in
theorem law08_CodeBack (s : Spec) (l : List Int) (H : Heap) : AC Try.prog 5 [.agg (eSpec s), .pl (l.map eInt)] H (Ret (.bool true) H) := by
  refine AC.body (N := 102) [.tmp 4] Try.func5 rfl rfl rfl (Nat.le_of_ble_eq_true rfl) fun B hB => ?_
  repeat (refine aw_seq ?_)
  refine aw_region ?_
  refine ao2 (by rintro _ ⟨⟩; decide) (o_boxL (sz := 7) (v := .agg _) rfl rfl rfl rfl (by decide) rfl) ?_
  refine ao1 (by decide) (o_assign (v := .bool _) rfl) ?_
  refine ao_nil ?_
  try dsimp only [List.length_nil, put, AV.cells, List.nil_append]
  repeat (first | refine then_nrm ?_ | refine aw_seq ?_)
  refine aw_region ?_
  refine ao_ret (law08_awake _) rfl (by decide) ?_
  refine ao1 (by decide) (o_not rfl) ?_
  refine ao_nil ?_
  repeat (refine then_nrm ?_)
  refine aw_cond rfl (fun hc => ?_) (fun hc => ?_)
  · simp at hc
  clear hc
  repeat (first | refine then_nrm ?_ | refine aw_seq ?_ | refine aw_skip ?_)
  refine aw_region ?_
  refine ao1 (by decide) (o_assign (v := .nsl) rfl) ?_
  refine ao_nil ?_
  repeat (first | refine then_nrm ?_ | refine aw_seq ?_)
  refine aw_ghostL (k := 1) 5 1 rfl (by decide) rfl ?_
  obtain ⟨P0, hP0⟩ : ∃ P0 : List (List UInt8), P0 = if sright s then [specB s] else [] := ⟨_, rfl⟩
  refine aw_region ?_
  refine ao1 (by decide) (w_loadR rfl (lk rfl rfl) rfl rfl rfl) ?_
  refine ao_ret (spec_Right _ _) rfl (by decide) ?_
  refine ao_nil ?_
  try dsimp only [List.cons_append, List.nil_append]
  repeat (refine then_nrm ?_)
  refine aw_joinQ ([(1, .pl (l.map eInt)), (2, .pt (Lid H.length 0) 0 0 0), (5, .sl (Lid H.length 1) P0.length 0 P0.length P0.length)]) (H ++ [⟨0, 7, [eSpec s]⟩, ⟨P0.length, 1, P0.map eB⟩]) ?_ ?_
  · repeat (fail)
    refine aw_cond rfl (fun hc => ?_) (fun hc => ?_)
    · have hs : sright s = true := by simpa using hc
      rw [if_pos hs] at hP0
      have c1 := fun H => code_Spec s H
      rw [putSpec_ok hs] at c1
      have c2 := fun H => code_ReadSpec (specB s) H
      rw [readSpec_put hs] at c2
      repeat (refine aw_seq ?_)
      refine aw_region ?_
      refine ao1 (by decide) (w_loadR rfl (lk rfl rfl) rfl rfl rfl) ?_
      refine ao_ret (c1 _) rfl (by decide) ?_
      refine ao1 (by decide) (o_move (v := .tup _) rfl) ?_
      refine ao1 (by decide) (o_extract (v := .pl _) rfl rfl) ?_
      refine ao1 (by decide) (o_extract (v := .int _ _) rfl rfl) ?_
      refine ao1 (by decide) (o_assign (v := .pl _) rfl) ?_
      refine ao1 (by decide) (o_assign (v := .int _ _) rfl) ?_
      refine ao_nil ?_
      try dsimp only
      repeat (first | refine then_nrm ?_ | refine aw_seq ?_)
      refine aw_region ?_
      refine ao1 (by decide) (o_move (v := .pl _) rfl) ?_
      refine ao_ret (c2 _) rfl (by decide) ?_
      refine ao1 (by decide) (o_move (v := .tup _) rfl) ?_
      refine ao1 (by decide) (o_extract (v := .agg _) rfl rfl) ?_
      refine ao1 (by decide) (o_extract (v := .int _ _) rfl rfl) ?_
      refine ao2 (by rintro _ ⟨⟩; decide) (o_allocL (sz := 7) rfl (by decide) rfl) ?_
      refine ao2 (by rintro _ ⟨⟩) (w_storeW (sz := 7) rfl rfl rfl rfl rfl rfl rfl rfl (Nat.le_of_ble_eq_true rfl)) ?_
      refine ao1 (by decide) (o_assign (v := .int _ _) rfl) ?_
      refine ao_nil ?_
      try dsimp only [List.length_cons, List.length_nil, Nat.reduceAdd, put, List.cons_append, List.nil_append, List.set_cons_zero, List.set_cons_succ]
      repeat (first | refine then_nrm ?_ | refine aw_seq ?_)
      refine aw_out 42 (.bool false) ?_ ?_
      · refine ao1 (by decide) (o_move (v := .int _ _) rfl) ?_
        refine ao1 (by decide) (o_ne rfl rfl) ?_
        refine ao1 (by decide) (o_move (v := .bool _) rfl) ?_
        refine ao_split rfl rfl (fun hg2 => ?_) (fun hg2 => ?_)
        · refine ao_nF rfl rfl (by decide) ?_
          refine ao_nF rfl rfl (by decide) ?_
          refine ao1 (by decide) (o_pick_t (v := .bool _) rfl rfl) ?_
          refine ao1 (by decide) (o_move (v := .bool _) rfl) ?_
          refine ao_nF rfl rfl (by decide) ?_
          refine ao_nF rfl rfl (by decide) ?_
          refine ao_nF rfl rfl (by decide) ?_
          refine ao1 (by decide) (o_pick_t (v := .bool _) rfl rfl) ?_
          exact ao_nil (Out.mk (by (refine congrArg AV.bool ?_; (clear c1 c2 hB hP0; (simp_all; done)))) (by repeat (first | exact SubX.refl _ _ | refine SubX.at ?_ | refine SubX.put rfl ?_)))
        · refine ao_y1 rfl rfl (by decide) (o_move (v := .int _ _) rfl) ?_
          refine ao_y1 rfl rfl (by decide) (o_ne rfl rfl) ?_
          refine ao1 (by decide) (o_pick_f (v := .bool _) rfl rfl) ?_
          refine ao1 (by decide) (o_move (v := .bool _) rfl) ?_
          refine ao_split rfl rfl (fun hg6 => ?_) (fun hg6 => ?_)
          · refine ao_nF rfl rfl (by decide) ?_
            refine ao_nF rfl rfl (by decide) ?_
            refine ao_nF rfl rfl (by decide) ?_
            refine ao1 (by decide) (o_pick_t (v := .bool _) rfl rfl) ?_
            exact ao_nil (Out.mk (by (refine congrArg AV.bool ?_; (clear c1 c2 hB hP0; (simp_all; done)))) (by repeat (first | exact SubX.refl _ _ | refine SubX.at ?_ | refine SubX.put rfl ?_)))
          · refine ao_y1 rfl rfl (by decide) (w_loadR rfl (lk rfl rfl) rfl rfl rfl) ?_
            refine ao_y1 rfl rfl (by decide) (w_loadR rfl (lk rfl rfl) rfl rfl rfl) ?_
            refine ao_y1 rfl rfl (by decide) (o_neAgg (us := uSpec s) (vs := uSpec s) rfl rfl rfl rfl (by kernel_rfl) (eqSpec_run s s)) ?_
            refine ao1 (by decide) (o_pick_f (v := .bool _) rfl rfl) ?_
            exact ao_nil (Out.mk (by (refine congrArg AV.bool ?_; (clear c1 c2 hB hP0; (simp_all; done)))) (by repeat (first | exact SubX.refl _ _ | refine SubX.at ?_ | refine SubX.put rfl ?_)))
      repeat (refine then_nrm ?_)
      refine aw_cond rfl (fun hc => ?_) (fun hc => ?_)
      · cases hc
      subst hP0
      repeat (first | refine then_nrm ?_ | refine aw_skip ?_)
      refine aw_region ?_
      refine ao1 (by decide) (o_move (v := .sl _ _ _ _ _) rfl) ?_
      refine ao1 (by decide) (o_move (v := .pl _) rfl) ?_
      refine ao2 (by rintro _ ⟨⟩; decide) (g_lit1 (sz := 1) (v := .pl _) rfl (by decide) (by decide) rfl rfl rfl rfl rfl) ?_
      refine ao2 (by rintro _ ⟨⟩; decide) (g_appB (bs := []) (cs := [specB s]) (en := eB) rfl rfl rfl (Src.pl rfl (eB_len [_])) rfl (by simp) (by simp)) ?_
      refine ao1 (by decide) (o_assign (v := .sl _ _ _ _ _) rfl) ?_
      refine ao_nil ?_
      try dsimp only [List.length_cons, List.length_nil, Nat.reduceAdd, List.nil_append, AV.cells, put, List.set_cons_succ, List.set_cons_zero]
      exact join_nrm (by repeat (first | exact Sub.nil | refine Sub.cons (by rfl) ?_)) (Fit.loc hB rfl (by repeat (first | exact EBel.nil | refine EBel.cons (by first | rfl | (simp [AV.bel, AV.bels, Lid]; done)) ?_)) (specparts_bel _ _ [specB s] _))
    · have hs : sright s = false := by simpa using hc
      rw [if_neg (by rw [hs]; simp)] at hP0
      subst hP0
      repeat (refine aw_skip ?_)
      exact join_nrm (by repeat (first | exact Sub.nil | refine Sub.cons (by rfl) ?_)) (.inl rfl)
  have hP0l : P0.length ≤ 1 := by rw [hP0]; split <;> simp
  obtain ⟨P1, hP1⟩ : ∃ P1 : List (List UInt8), P1 = P0 ++ (if (decide (l.length ≤ 300) && sok l) = true then [setB l, setB l] else []) := ⟨_, rfl⟩
  obtain ⟨g1, hg1⟩ : ∃ g1 : Nat, g1 = if (decide (l.length ≤ 300) && sok l) = true then P0.length + 1 else P0.length := ⟨_, rfl⟩
  repeat (first | refine then_nrm ?_ | refine aw_seq ?_)
  refine aw_out 53 (.bool (decide (l.length ≤ 300) && sok l)) ?_ ?_
  · refine ao1 (by decide) (o_move (v := .pl _) rfl) ?_
    refine ao1 (by decide) (o_lenp rfl) ?_
    refine ao1 (by decide) (o_le rfl rfl) ?_
    refine ao1 (by decide) (o_move (v := .bool _) rfl) ?_
    refine ao_split rfl rfl (fun hg3 => ?_) (fun hg3 => ?_)
    · refine ao_y1 rfl rfl (by decide) (o_move (v := .pl _) rfl) ?_
      refine ao_y rfl rfl (by decide) (V2.call (set_Right l (by simp at hg3; omega) _) rfl) ?_
      refine ao1 (by decide) (o_pick_t (v := .bool _) rfl rfl) ?_
      exact ao_nil (Out.mk (by (refine congrArg AV.bool ?_; (clear hB hP0 hP1 hg1; (simp_all; omega)))) (by repeat (first | exact SubX.refl _ _ | refine SubX.at ?_ | refine SubX.put rfl ?_)))
    · refine ao_nT rfl rfl (by decide) ?_
      refine ao_nT rfl rfl (by decide) ?_
      refine ao1 (by decide) (o_pick_f (v := .bool _) rfl rfl) ?_
      exact ao_nil (Out.mk (by (refine congrArg AV.bool ?_; (clear hB hP0 hP1 hg1; (simp_all; omega)))) (by repeat (first | exact SubX.refl _ _ | refine SubX.at ?_ | refine SubX.put rfl ?_)))
  repeat (refine then_nrm ?_)
  refine aw_joinQ ([(5, .sl (Lid H.length 1) g1 0 P1.length P1.length)]) (H ++ [⟨0, 7, [eSpec s]⟩, ⟨g1, 1, P1.map eB⟩]) ?_ ?_
  · repeat (fail)
    refine aw_cond rfl (fun hc => ?_) (fun hc => ?_)
    · rw [if_pos hc] at hP1 hg1
      rw [Bool.and_eq_true, decide_eq_true_eq] at hc
      obtain ⟨hl3, hs⟩ := hc
      have c1 := fun H => code_Set l (by omega) H
      rw [putSet_ok hs] at c1
      have c2 := fun H => code_ReadSet (setB l) H
      rw [readSet_put hs] at c2
      repeat (refine aw_seq ?_)
      refine aw_region ?_
      refine ao1 (by decide) (o_move (v := .pl _) rfl) ?_
      refine ao_ret (c1 _) rfl (by decide) ?_
      refine ao1 (by decide) (o_move (v := .tup _) rfl) ?_
      refine ao1 (by decide) (o_extract (v := .pl _) rfl rfl) ?_
      refine ao1 (by decide) (o_extract (v := .int _ _) rfl rfl) ?_
      refine ao1 (by decide) (o_assign (v := .pl _) rfl) ?_
      refine ao1 (by decide) (o_assign (v := .int _ _) rfl) ?_
      refine ao_nil ?_
      try dsimp only
      repeat (first | refine then_nrm ?_ | refine aw_seq ?_)
      refine aw_region ?_
      refine ao1 (by decide) (o_move (v := .pl _) rfl) ?_
      refine ao_ret (c2 _) rfl (by decide) ?_
      refine ao1 (by decide) (o_move (v := .tup _) rfl) ?_
      refine ao1 (by decide) (o_extract (v := .pl _) rfl rfl) ?_
      refine ao1 (by decide) (o_extract (v := .int _ _) rfl rfl) ?_
      refine ao1 (by decide) (o_assign (v := .pl _) rfl) ?_
      refine ao1 (by decide) (o_assign (v := .int _ _) rfl) ?_
      refine ao_nil ?_
      try dsimp only
      repeat (first | refine then_nrm ?_ | refine aw_seq ?_)
      refine aw_out 75 (.bool false) ?_ ?_
      · refine ao1 (by decide) (o_move (v := .int _ _) rfl) ?_
        refine ao1 (by decide) (o_ne rfl rfl) ?_
        refine ao1 (by decide) (o_move (v := .bool _) rfl) ?_
        refine ao_split rfl rfl (fun hg2 => ?_) (fun hg2 => ?_)
        · refine ao_nF rfl rfl (by decide) ?_
          refine ao_nF rfl rfl (by decide) ?_
          refine ao1 (by decide) (o_pick_t (v := .bool _) rfl rfl) ?_
          refine ao1 (by decide) (o_move (v := .bool _) rfl) ?_
          refine ao_nF rfl rfl (by decide) ?_
          refine ao_nF rfl rfl (by decide) ?_
          refine ao_nF rfl rfl (by decide) ?_
          refine ao_nF rfl rfl (by decide) ?_
          refine ao1 (by decide) (o_pick_t (v := .bool _) rfl rfl) ?_
          exact ao_nil (Out.mk (by (refine congrArg AV.bool ?_; (clear c1 c2 hB hP0 hP1 hg1; (simp_all; done)))) (by repeat (first | exact SubX.refl _ _ | refine SubX.at ?_ | refine SubX.put rfl ?_)))
        · refine ao_y1 rfl rfl (by decide) (o_move (v := .int _ _) rfl) ?_
          refine ao_y1 rfl rfl (by decide) (o_ne rfl rfl) ?_
          refine ao1 (by decide) (o_pick_f (v := .bool _) rfl rfl) ?_
          refine ao1 (by decide) (o_move (v := .bool _) rfl) ?_
          refine ao_split rfl rfl (fun hg6 => ?_) (fun hg6 => ?_)
          · refine ao_nF rfl rfl (by decide) ?_
            refine ao_nF rfl rfl (by decide) ?_
            refine ao_nF rfl rfl (by decide) ?_
            refine ao_nF rfl rfl (by decide) ?_
            refine ao1 (by decide) (o_pick_t (v := .bool _) rfl rfl) ?_
            exact ao_nil (Out.mk (by (refine congrArg AV.bool ?_; (clear c1 c2 hB hP0 hP1 hg1; (simp_all; done)))) (by repeat (first | exact SubX.refl _ _ | refine SubX.at ?_ | refine SubX.put rfl ?_)))
          · refine ao_y1 rfl rfl (by decide) (o_move (v := .pl _) rfl) ?_
            refine ao_y1 rfl rfl (by decide) (o_move (v := .pl _) rfl) ?_
            refine ao_y rfl rfl (by decide) (V2.call (ref01_Same l l (by omega) _) rfl) ?_
            refine ao_y1 rfl rfl (by decide) (o_not rfl) ?_
            refine ao1 (by decide) (o_pick_f (v := .bool _) rfl rfl) ?_
            exact ao_nil (Out.mk (by (refine congrArg AV.bool ?_; (clear c1 c2 hB hP0 hP1 hg1; (simp_all; done)))) (by repeat (first | exact SubX.refl _ _ | refine SubX.at ?_ | refine SubX.put rfl ?_)))
      repeat (refine then_nrm ?_)
      refine aw_cond rfl (fun hc => ?_) (fun hc => ?_)
      · cases hc
      subst hP1 hg1
      repeat (first | refine then_nrm ?_ | refine aw_skip ?_)
      refine aw_region ?_
      refine ao1 (by decide) (o_move (v := .sl _ _ _ _ _) rfl) ?_
      refine ao1 (by decide) (o_move (v := .pl _) rfl) ?_
      refine ao1 (by decide) (o_move (v := .pl _) rfl) ?_
      refine ao2 (by rintro _ ⟨⟩; decide) (g_litL (sz := 1) [[.pl ((setB l).map brow)], [.pl ((setB l).map brow)]] rfl (by decide) (by decide) (by decide) rfl rfl (by simp) rfl (by simp [AV.bels, AV.bel])) ?_
      refine ao2 (by rintro _ ⟨⟩; decide) (g_appB (bs := P0) (cs := [setB l, setB l]) (en := eB) rfl rfl rfl (Src.pl rfl (eB_len [_, _])) rfl (by simp; omega) (by simp; omega)) ?_
      refine ao1 (by decide) (o_assign (v := .sl _ _ _ _ _) rfl) ?_
      refine ao_nil ?_
      try dsimp only [put, List.set_cons_succ, List.set_cons_zero]
      exact join_nrm (by repeat (first | exact Sub.nil | refine Sub.cons (by rfl) ?_)) (.inl rfl)
    · rw [if_neg (by rw [hc]; simp)] at hP1 hg1
      rw [List.append_nil] at hP1
      subst hP1 hg1
      repeat (refine aw_skip ?_)
      exact join_nrm (by repeat (first | exact Sub.nil | refine Sub.cons (by rfl) ?_)) (.inl rfl)
  have hp : ∀ p ∈ P1, IsPart p ∧ p.length ≤ 6000 := by
    rw [hP1, hP0]
    intro p hp
    rcases List.mem_append.1 hp with h1 | h1
    · split at h1
      · rename_i hs
        rw [List.mem_singleton] at h1; subst h1
        exact ⟨isPart_spec hs, by have := specB_len hs; omega⟩
      · cases h1
    · split at h1
      · rename_i hs
        have hs : sok l = true := by rw [Bool.and_eq_true] at hs; exact hs.2
        have : p = setB l := by simpa using h1
        subst this
        exact ⟨isPart_set hs, setB_len l⟩
      · cases h1
  have hP1l : P1.length ≤ 3 := by rw [hP1, List.length_append]; split <;> simp <;> omega
  have hfl : P1.flatten.length ≤ 60000 := by
    have : ∀ (q : List (List UInt8)), (∀ p ∈ q, p.length ≤ 6000) → q.flatten.length ≤ 6000 * q.length := by
      intro q
      induction q with
      | nil => intro _; simp
      | cons p q ih =>
        intro h
        have h1 := h p (by simp)
        have h2 := ih fun r hr => h r (by simp [hr])
        rw [List.flatten_cons, List.length_append, List.length_cons]
        omega
    have := this P1 fun p h => (hp p h).2
    omega
  obtain ⟨k1, k2⟩ := readList_put (by omega) (fun p h => (hp p h).1) hfl
  clear hP1 hP0 hp hfl
  repeat (first | refine then_nrm ?_ | refine aw_seq ?_)
  refine aw_freezeL (ys := P1.map eB) 5 rfl rfl rfl rfl (by rw [List.drop_zero, List.take_of_length_le (by simp)]) (by simp) (eB_bel 0 _) ?_
  have c1 := fun H => code_List P1 (by omega) H
  have c2 := fun H => code_ReadList (putList P1).1 H
  rw [k2] at c2
  rw [k1] at c1
  refine aw_region ?_
  refine ao1 (by decide) (o_move (v := .pl _) rfl) ?_
  refine ao_ret (c1 _) rfl (by decide) ?_
  refine ao1 (by decide) (o_move (v := .tup _) rfl) ?_
  refine ao1 (by decide) (o_extract (v := .pl _) rfl rfl) ?_
  refine ao1 (by decide) (o_extract (v := .int _ _) rfl rfl) ?_
  refine ao1 (by decide) (o_assign (v := .pl _) rfl) ?_
  refine ao1 (by decide) (o_assign (v := .int _ _) rfl) ?_
  refine ao_nil ?_
  try dsimp only [List.set_cons_succ, List.set_cons_zero]
  repeat (first | refine then_nrm ?_ | refine aw_seq ?_)
  refine aw_region ?_
  refine ao1 (by decide) (o_move (v := .pl _) rfl) ?_
  refine ao_ret (c2 _) rfl (by decide) ?_
  refine ao1 (by decide) (o_move (v := .tup _) rfl) ?_
  refine ao1 (by decide) (o_extract (v := .pl _) rfl rfl) ?_
  refine ao1 (by decide) (o_extract (v := .int _ _) rfl rfl) ?_
  refine ao1 (by decide) (o_assign (v := .pl _) rfl) ?_
  refine ao1 (by decide) (o_assign (v := .int _ _) rfl) ?_
  refine ao_nil ?_
  try dsimp only
  repeat (first | refine then_nrm ?_ | refine aw_seq ?_)
  refine aw_out 4 (.bool true) ?_ ?_
  · refine ao1 (by decide) (o_move (v := .int _ _) rfl) ?_
    refine ao1 (by decide) (o_eq rfl rfl) ?_
    refine ao1 (by decide) (o_move (v := .bool _) rfl) ?_
    refine ao_split rfl rfl (fun hg2 => ?_) (fun hg2 => ?_)
    · refine ao_y1 rfl rfl (by decide) (o_move (v := .int _ _) rfl) ?_
      refine ao_y1 rfl rfl (by decide) (o_eq rfl rfl) ?_
      refine ao1 (by decide) (o_pick_t (v := .bool _) rfl rfl) ?_
      refine ao1 (by decide) (o_move (v := .bool _) rfl) ?_
      refine ao_split rfl rfl (fun hg6 => ?_) (fun hg6 => ?_)
      · refine ao_y1 rfl rfl (by decide) (o_move (v := .pl _) rfl) ?_
        refine ao_y1 rfl rfl (by decide) (o_move (v := .pl _) rfl) ?_
        refine ao_y rfl rfl (by decide) (V2.call (ref08_Same P1 P1 _ (by omega)) rfl) ?_
        refine ao1 (by decide) (o_pick_t (v := .bool _) rfl rfl) ?_
        refine ao1 (by decide) (o_assign (v := .bool _) rfl) ?_
        exact ao_nil (Out.mk (by (refine congrArg AV.bool ?_; (clear c1 c2 hB k1 k2; (simp_all; done)))) (by repeat (first | exact SubX.refl _ _ | refine SubX.at ?_ | refine SubX.put rfl ?_)))
      · refine ao_nT rfl rfl (by decide) ?_
        refine ao_nT rfl rfl (by decide) ?_
        refine ao_nT rfl rfl (by decide) ?_
        refine ao1 (by decide) (o_pick_f (v := .bool _) rfl rfl) ?_
        refine ao1 (by decide) (o_assign (v := .bool _) rfl) ?_
        exact ao_nil (Out.mk (by (refine congrArg AV.bool ?_; (clear c1 c2 hB k1 k2; (simp_all; done)))) (by repeat (first | exact SubX.refl _ _ | refine SubX.at ?_ | refine SubX.put rfl ?_)))
    · refine ao_nT rfl rfl (by decide) ?_
      refine ao_nT rfl rfl (by decide) ?_
      refine ao1 (by decide) (o_pick_f (v := .bool _) rfl rfl) ?_
      refine ao1 (by decide) (o_move (v := .bool _) rfl) ?_
      refine ao_nT rfl rfl (by decide) ?_
      refine ao_nT rfl rfl (by decide) ?_
      refine ao_nT rfl rfl (by decide) ?_
      refine ao1 (by decide) (o_pick_f (v := .bool _) rfl rfl) ?_
      refine ao1 (by decide) (o_assign (v := .bool _) rfl) ?_
      exact ao_nil (Out.mk (by (refine congrArg AV.bool ?_; (clear c1 c2 hB k1 k2; (simp_all; done)))) (by repeat (first | exact SubX.refl _ _ | refine SubX.at ?_ | refine SubX.put rfl ?_)))
  repeat (first | refine then_nrm ?_ | refine aw_ret ?_)
  exact e_done hB (r_tmp rfl .nil) rfl rfl
end Go.Av

namespace Go.Av
open Go.Proofs
set_option maxRecDepth 10000
set_option linter.unusedSimpArgs false
set_option linter.unusedVariables false

theorem head_ne {b b1 b2 : List UInt8} {x y : UInt8} (h1 : b = x :: b1) (h2 : b = y :: b2) (h : x ≠ y) : False := by
  rw [h1] at h2; injection h2 with h3 _; exact h h3
set_option maxHeartbeats 0 in
theorem law08_CodeOne (b0 : List UInt8) (H : Heap) : AC Try.prog 6 [.pl (b0.map brow)] H (Ret (.bool true) H) := by
  refine AC.body (N := 147) [.tmp 2] Try.func6 rfl rfl rfl (Nat.le_of_ble_eq_true rfl) fun B hB => ?_
  repeat (refine aw_seq ?_)
  refine aw_region ?_
  refine ao1 (by decide) (o_assign (v := .bool _) rfl) ?_
  refine ao_nil ?_
  repeat (first | refine then_nrm ?_ | refine aw_seq ?_)
  refine aw_region ?_
  refine ao_ret (law08_awake _) rfl (by decide) ?_
  refine ao1 (by decide) (o_not rfl) ?_
  refine ao_nil ?_
  repeat (refine then_nrm ?_)
  refine aw_cond rfl (fun hc => ?_) (fun hc => ?_)
  · simp at hc
  clear hc
  repeat (first | refine then_nrm ?_ | refine aw_seq ?_ | refine aw_skip ?_)
  refine aw_region ?_
  refine ao1 (by decide) (o_move (v := .pl _) rfl) ?_
  refine ao1 (by decide) (o_move (v := .pl _) rfl) ?_
  refine ao1 (by decide) (o_lenp rfl) ?_
  refine ao1 (by decide) (o_min (r := ((min b0.length 3000 : Nat) : Int)) rfl rfl (by rw [List.length_map]; omega)) ?_
  refine ao1 (by decide) (o_slicepT (sz := 1) (h := min b0.length 3000) (ys := (b0.take (min b0.length 3000)).map brow) rfl (.some rfl rfl) (by simp; omega) (bytes_len1 _) (List.map_take).symm) ?_
  refine ao1 (by decide) (o_assign (v := .pl _) rfl) ?_
  refine ao_nil ?_
  have hb : (b0.take (min b0.length 3000)).length ≤ 3000 := by rw [List.length_take]; omega
  generalize b0.take (min b0.length 3000) = b at hb
  have q1 := readSpec_cases b hb
  have q2 := readSet_cases b hb
  have q3 := readList_cases b hb
  have d1 := fun H => code_ReadSpec (b.take (b.length - 1)) H
  have d2 := fun H => code_ReadSet (b.take (b.length - 1)) H
  repeat (first | refine then_nrm ?_ | refine aw_seq ?_)
  refine aw_region ?_
  refine ao1 (by decide) (o_move (v := .pl _) rfl) ?_
  refine ao_ret (code_ReadSpec _ _) rfl (by decide) ?_
  refine ao1 (by decide) (o_move (v := .tup _) rfl) ?_
  refine ao1 (by decide) (o_extract (v := .agg _) rfl rfl) ?_
  refine ao1 (by decide) (o_extract (v := .int _ _) rfl rfl) ?_
  refine ao2 (by rintro _ ⟨⟩; decide) (o_allocL (sz := 7) rfl (by decide) rfl) ?_
  refine ao2 (by rintro _ ⟨⟩) (w_storeW (sz := 7) rfl rfl rfl rfl rfl rfl rfl rfl (Nat.le_of_ble_eq_true rfl)) ?_
  refine ao1 (by decide) (o_assign (v := .int _ _) rfl) ?_
  refine ao_nil ?_
  try dsimp only [List.length_nil, put, List.nil_append, List.set_cons_zero]
  repeat (first | refine then_nrm ?_ | refine aw_seq ?_)
  refine aw_region ?_
  refine ao1 (by decide) (o_move (v := .pl _) rfl) ?_
  refine ao_ret (code_ReadSet _ _) rfl (by decide) ?_
  refine ao1 (by decide) (o_move (v := .tup _) rfl) ?_
  refine ao1 (by decide) (o_extract (v := .pl _) rfl rfl) ?_
  refine ao1 (by decide) (o_extract (v := .int _ _) rfl rfl) ?_
  refine ao1 (by decide) (o_assign (v := .pl _) rfl) ?_
  refine ao1 (by decide) (o_assign (v := .int _ _) rfl) ?_
  refine ao_nil ?_
  repeat (first | refine then_nrm ?_ | refine aw_seq ?_)
  refine aw_region ?_
  refine ao1 (by decide) (o_move (v := .pl _) rfl) ?_
  refine ao_ret (code_ReadList _ _) rfl (by decide) ?_
  refine ao1 (by decide) (o_move (v := .tup _) rfl) ?_
  refine ao1 (by decide) (o_extract (v := .pl _) rfl rfl) ?_
  refine ao1 (by decide) (o_extract (v := .int _ _) rfl rfl) ?_
  refine ao1 (by decide) (o_assign (v := .pl _) rfl) ?_
  refine ao1 (by decide) (o_assign (v := .int _ _) rfl) ?_
  refine ao_nil ?_
  repeat (first | refine then_nrm ?_ | refine aw_seq ?_)
  refine aw_region ?_
  refine ao1 (by decide) (o_assign (v := .int _ _) rfl) ?_
  refine ao_nil ?_
  generalize readSpec b = x at q1
  generalize readSet b = y at q2
  generalize readList b = z at q3
  generalize readSpec (b.take (b.length - 1)) = u at q1 d1
  generalize readSet (b.take (b.length - 1)) = v at q2 d2
  obtain ⟨s, e⟩ := x
  obtain ⟨l, f⟩ := y
  obtain ⟨p, g⟩ := z
  obtain ⟨u1, u2⟩ := u
  obtain ⟨v1, v2⟩ := v
  simp only at q1 q2 q3 d1 d2 ⊢
  obtain ⟨n1, hn1⟩ : ∃ n : Nat, n = if e = 0 then 1 else 0 := ⟨_, rfl⟩
  obtain ⟨n2, hn2⟩ : ∃ n : Nat, n = if f = 0 then n1 + 1 else n1 := ⟨_, rfl⟩
  obtain ⟨n3, hn3⟩ : ∃ n : Nat, n = if g = 0 then n2 + 1 else n2 := ⟨_, rfl⟩
  have hn : n3 ≤ 1 := by
    rcases q1 with ⟨e1, _, ⟨r1, a1⟩, _⟩ | ⟨e1, _⟩ <;> rcases q2 with ⟨e2, _, ⟨r2, a2⟩, _⟩ | ⟨e2, _⟩ <;> rcases q3 with ⟨e3, _, ⟨r3, a3⟩, _⟩ | ⟨e3, _⟩ <;>
      first | (exact (head_ne a1 a2 (by decide)).elim) | (exact (head_ne a1 a3 (by decide)).elim) | (exact (head_ne a2 a3 (by decide)).elim) | (simp only [e1, e2, e3, if_true, if_false] at hn1 hn2 hn3; omega)
  repeat (first | refine then_nrm ?_ | refine aw_seq ?_)
  refine aw_region ?_
  refine ao1 (by decide) (o_move (v := .int _ _) rfl) ?_
  refine ao1 (by decide) (o_eq rfl rfl) ?_
  refine ao_nil ?_
  repeat (refine then_nrm ?_)
  refine aw_joinQ ([(0, .pl (b.map brow)), (3, .pt (Lid H.length 0) 0 0 0), (4, .int .i64 e), (5, .pl (l.map eInt)), (6, .int .i64 f), (7, .pl (p.map eB)), (8, .int .i64 g), (9, .int .i64 (n1 : Int))]) (H ++ [⟨0, 7, [eSpec s]⟩]) ?_ ?_
  · repeat (fail)
    refine aw_cond rfl (fun hc => ?_) (fun hc => ?_)
    · have he : e = 0 := by simpa using hc
      rcases q1 with ⟨_, k1, ⟨r1, a1⟩, k2⟩ | ⟨k1, _⟩
      case inr => exact absurd he k1
      rw [if_pos he] at hn1
      subst hn1
      have c1 := fun H => code_Spec s H
      rw [k1] at c1
      rw [k2] at d1
      have hbl : 0 < b.length := by rw [a1]; simp
      repeat (refine aw_seq ?_)
      refine aw_region ?_
      refine ao1 (by decide) (o_move (v := .int _ _) rfl) ?_
      refine ao1 (by decide) (o_add rfl rfl (wrap64_ok (by omega) (by omega))) ?_
      refine ao1 (by decide) (o_assign (v := .int _ _) rfl) ?_
      refine ao_nil ?_
      repeat (first | refine then_nrm ?_ | refine aw_seq ?_)
      refine aw_region ?_
      refine ao1 (by decide) (w_loadR rfl (lk rfl rfl) rfl rfl rfl) ?_
      refine ao_ret (c1 _) rfl (by decide) ?_
      refine ao1 (by decide) (o_move (v := .tup _) rfl) ?_
      refine ao1 (by decide) (o_extract (v := .pl _) rfl rfl) ?_
      refine ao1 (by decide) (o_extract (v := .int _ _) rfl rfl) ?_
      refine ao1 (by decide) (o_assign (v := .pl _) rfl) ?_
      refine ao1 (by decide) (o_assign (v := .int _ _) rfl) ?_
      refine ao_nil ?_
      try dsimp only
      repeat (first | refine then_nrm ?_ | refine aw_seq ?_)
      refine aw_out 59 (.bool false) ?_ ?_
      · refine ao1 (by decide) (o_move (v := .int _ _) rfl) ?_
        refine ao1 (by decide) (o_ne rfl rfl) ?_
        refine ao1 (by decide) (o_move (v := .bool _) rfl) ?_
        refine ao_split rfl rfl (fun hg2 => ?_) (fun hg2 => ?_)
        · refine ao_nF rfl rfl (by decide) ?_
          refine ao_nF rfl rfl (by decide) ?_
          refine ao_nF rfl rfl (by decide) ?_
          refine ao_nF rfl rfl (by decide) ?_
          refine ao_nF rfl rfl (by decide) ?_
          refine ao1 (by decide) (o_pick_t (v := .bool _) rfl rfl) ?_
          exact ao_nil (Out.mk (by (refine congrArg AV.bool ?_; (clear c1 d1 d2 hB q2 q3; (simp_all; done)))) (by repeat (first | exact SubX.refl _ _ | refine SubX.at ?_ | refine SubX.put rfl ?_)))
        · refine ao_y1 rfl rfl (by decide) (o_move (v := .pl _) rfl) ?_
          refine ao_y1 rfl rfl (by decide) (o_bytesStr (bs := b) rfl) ?_
          refine ao_y1 rfl rfl (by decide) (o_move (v := .pl _) rfl) ?_
          refine ao_y1 rfl rfl (by decide) (o_bytesStr (bs := b) rfl) ?_
          refine ao_y1 rfl rfl (by decide) (o_sned rfl rfl) ?_
          refine ao1 (by decide) (o_pick_f (v := .bool _) rfl rfl) ?_
          exact ao_nil (Out.mk (by (refine congrArg AV.bool ?_; (clear c1 d1 d2 hB q2 q3; (simp_all; done)))) (by repeat (first | exact SubX.refl _ _ | refine SubX.at ?_ | refine SubX.put rfl ?_)))
      repeat (refine then_nrm ?_)
      refine aw_cond rfl (fun hc => ?_) (fun hc => ?_)
      · cases hc
      repeat (first | refine then_nrm ?_ | refine aw_seq ?_ | refine aw_skip ?_)
      refine aw_region ?_
      refine ao1 (by decide) (o_move (v := .pl _) rfl) ?_
      refine ao1 (by decide) (o_move (v := .pl _) rfl) ?_
      refine ao1 (by decide) (o_lenp rfl) ?_
      refine ao1 (by decide) (o_sub (r := ((b.length - 1 : Nat) : Int)) rfl rfl (by rw [List.length_map, show (b.length : Int) - 1 = ((b.length - 1 : Nat) : Int) by omega]; exact wrap64_ok (by omega) (by omega))) ?_
      refine ao1 (by decide) (o_slicepT (sz := 1) (h := b.length - 1) (ys := (b.take (b.length - 1)).map brow) rfl (.some rfl rfl) (by simp) (bytes_len1 _) (List.map_take).symm) ?_
      refine ao_ret (d1 _) rfl (by decide) ?_
      refine ao1 (by decide) (o_move (v := .tup _) rfl) ?_
      refine ao1 (by decide) (o_extract (v := .agg _) rfl rfl) ?_
      refine ao1 (by decide) (o_extract (v := .int _ _) rfl rfl) ?_
      refine ao2 (by rintro _ ⟨⟩; decide) (o_allocL (sz := 7) rfl (by decide) rfl) ?_
      refine ao2 (by rintro _ ⟨⟩) (w_storeW (sz := 7) rfl rfl rfl rfl rfl rfl rfl rfl (Nat.le_of_ble_eq_true rfl)) ?_
      refine ao1 (by decide) (o_assign (v := .int _ _) rfl) ?_
      refine ao_nil ?_
      try dsimp only [List.length_cons, List.length_nil, Nat.reduceAdd, put, List.cons_append, List.nil_append, List.set_cons_zero, List.set_cons_succ]
      repeat (first | refine then_nrm ?_ | refine aw_seq ?_)
      refine aw_region ?_
      refine ao1 (by decide) (o_move (v := .int _ _) rfl) ?_
      refine ao1 (by decide) (o_ne rfl rfl) ?_
      refine ao_nil ?_
      repeat (refine then_nrm ?_)
      refine aw_cond rfl (fun hc => ?_) (fun hc => ?_)
      · simp at hc
      repeat (refine aw_skip ?_)
      exact join_nrm (by repeat (first | exact Sub.nil | refine Sub.cons (by rfl) ?_)) (Fit.loc hB rfl (by repeat (first | exact EBel.nil | refine EBel.cons (by first | rfl | (simp [AV.bel, AV.bels, Lid]; done)) ?_)) (by intro o ho r hr; simp only [List.mem_singleton] at ho; subst ho; simp only [List.mem_singleton] at hr; subst hr; rfl))
    · have he : ¬ e = 0 := by simpa using hc
      rw [if_neg he] at hn1
      subst hn1
      repeat (refine aw_skip ?_)
      exact join_nrm (by repeat (first | exact Sub.nil | refine Sub.cons (by rfl) ?_)) (.inl rfl)
  repeat (first | refine then_nrm ?_ | refine aw_seq ?_)
  refine aw_region ?_
  refine ao1 (by decide) (o_move (v := .int _ _) rfl) ?_
  refine ao1 (by decide) (o_eq rfl rfl) ?_
  refine ao_nil ?_
  repeat (refine then_nrm ?_)
  refine aw_joinQ ([(0, .pl (b.map brow)), (3, .pt (Lid H.length 0) 0 0 0), (4, .int .i64 e), (5, .pl (l.map eInt)), (6, .int .i64 f), (7, .pl (p.map eB)), (8, .int .i64 g), (9, .int .i64 (n2 : Int))]) (H ++ [⟨0, 7, [eSpec s]⟩]) ?_ ?_
  · repeat (fail)
    refine aw_cond rfl (fun hc => ?_) (fun hc => ?_)
    · have he : f = 0 := by simpa using hc
      rcases q2 with ⟨_, k1, ⟨r1, a1⟩, k2, k3⟩ | ⟨k1, _⟩
      case inr => exact absurd he k1
      rw [if_pos he] at hn2
      subst hn2
      have c1 := fun H => code_Set l (by omega) H
      rw [k1] at c1
      rw [k2] at d2
      have hbl : 0 < b.length := by rw [a1]; simp
      have hn1b : n1 ≤ 1 := by rw [hn1]; split <;> omega
      repeat (refine aw_seq ?_)
      refine aw_region ?_
      refine ao1 (by decide) (o_move (v := .int _ _) rfl) ?_
      refine ao1 (by decide) (o_add (r := ((n1 + 1 : Nat) : Int)) rfl rfl (wrap64_ok (by omega) (by omega))) ?_
      refine ao1 (by decide) (o_assign (v := .int _ _) rfl) ?_
      refine ao_nil ?_
      repeat (first | refine then_nrm ?_ | refine aw_seq ?_)
      refine aw_region ?_
      refine ao1 (by decide) (o_move (v := .pl _) rfl) ?_
      refine ao_ret (c1 _) rfl (by decide) ?_
      refine ao1 (by decide) (o_move (v := .tup _) rfl) ?_
      refine ao1 (by decide) (o_extract (v := .pl _) rfl rfl) ?_
      refine ao1 (by decide) (o_extract (v := .int _ _) rfl rfl) ?_
      refine ao1 (by decide) (o_assign (v := .pl _) rfl) ?_
      refine ao1 (by decide) (o_assign (v := .int _ _) rfl) ?_
      refine ao_nil ?_
      try dsimp only
      repeat (first | refine then_nrm ?_ | refine aw_seq ?_)
      refine aw_out 88 (.bool false) ?_ ?_
      · refine ao1 (by decide) (o_move (v := .int _ _) rfl) ?_
        refine ao1 (by decide) (o_ne rfl rfl) ?_
        refine ao1 (by decide) (o_move (v := .bool _) rfl) ?_
        refine ao_split rfl rfl (fun hg2 => ?_) (fun hg2 => ?_)
        · refine ao_nF rfl rfl (by decide) ?_
          refine ao_nF rfl rfl (by decide) ?_
          refine ao_nF rfl rfl (by decide) ?_
          refine ao_nF rfl rfl (by decide) ?_
          refine ao_nF rfl rfl (by decide) ?_
          refine ao1 (by decide) (o_pick_t (v := .bool _) rfl rfl) ?_
          exact ao_nil (Out.mk (by (refine congrArg AV.bool ?_; (clear c1 d1 d2 hB q1 q3; (simp_all; done)))) (by repeat (first | exact SubX.refl _ _ | refine SubX.at ?_ | refine SubX.put rfl ?_)))
        · refine ao_y1 rfl rfl (by decide) (o_move (v := .pl _) rfl) ?_
          refine ao_y1 rfl rfl (by decide) (o_bytesStr (bs := b) rfl) ?_
          refine ao_y1 rfl rfl (by decide) (o_move (v := .pl _) rfl) ?_
          refine ao_y1 rfl rfl (by decide) (o_bytesStr (bs := b) rfl) ?_
          refine ao_y1 rfl rfl (by decide) (o_sned rfl rfl) ?_
          refine ao1 (by decide) (o_pick_f (v := .bool _) rfl rfl) ?_
          exact ao_nil (Out.mk (by (refine congrArg AV.bool ?_; (clear c1 d1 d2 hB q1 q3; (simp_all; done)))) (by repeat (first | exact SubX.refl _ _ | refine SubX.at ?_ | refine SubX.put rfl ?_)))
      repeat (refine then_nrm ?_)
      refine aw_cond rfl (fun hc => ?_) (fun hc => ?_)
      · cases hc
      repeat (first | refine then_nrm ?_ | refine aw_seq ?_ | refine aw_skip ?_)
      refine aw_region ?_
      refine ao1 (by decide) (o_move (v := .pl _) rfl) ?_
      refine ao1 (by decide) (o_move (v := .pl _) rfl) ?_
      refine ao1 (by decide) (o_lenp rfl) ?_
      refine ao1 (by decide) (o_sub (r := ((b.length - 1 : Nat) : Int)) rfl rfl (by rw [List.length_map, show (b.length : Int) - 1 = ((b.length - 1 : Nat) : Int) by omega]; exact wrap64_ok (by omega) (by omega))) ?_
      refine ao1 (by decide) (o_slicepT (sz := 1) (h := b.length - 1) (ys := (b.take (b.length - 1)).map brow) rfl (.some rfl rfl) (by simp) (bytes_len1 _) (List.map_take).symm) ?_
      refine ao_ret (d2 _) rfl (by decide) ?_
      refine ao1 (by decide) (o_move (v := .tup _) rfl) ?_
      refine ao1 (by decide) (o_extract (v := .pl _) rfl rfl) ?_
      refine ao1 (by decide) (o_extract (v := .int _ _) rfl rfl) ?_
      refine ao1 (by decide) (o_assign (v := .pl _) rfl) ?_
      refine ao1 (by decide) (o_assign (v := .int _ _) rfl) ?_
      refine ao_nil ?_
      repeat (first | refine then_nrm ?_ | refine aw_seq ?_)
      refine aw_region ?_
      refine ao1 (by decide) (o_move (v := .int _ _) rfl) ?_
      refine ao1 (by decide) (o_ne rfl rfl) ?_
      refine ao_nil ?_
      repeat (refine then_nrm ?_)
      refine aw_cond rfl (fun hc => ?_) (fun hc => ?_)
      · simp at hc
      repeat (refine aw_skip ?_)
      exact join_nrm (by repeat (first | exact Sub.nil | refine Sub.cons (by rfl) ?_)) (.inl rfl)
    · have he : ¬ f = 0 := by simpa using hc
      rw [if_neg he] at hn2
      subst hn2
      repeat (refine aw_skip ?_)
      exact join_nrm (by repeat (first | exact Sub.nil | refine Sub.cons (by rfl) ?_)) (.inl rfl)
  repeat (first | refine then_nrm ?_ | refine aw_seq ?_)
  refine aw_region ?_
  refine ao1 (by decide) (o_move (v := .int _ _) rfl) ?_
  refine ao1 (by decide) (o_eq rfl rfl) ?_
  refine ao_nil ?_
  repeat (refine then_nrm ?_)
  refine aw_joinQ ([(3, .pt (Lid H.length 0) 0 0 0), (4, .int .i64 e), (5, .pl (l.map eInt)), (6, .int .i64 f), (7, .pl (p.map eB)), (8, .int .i64 g), (9, .int .i64 (n3 : Int))]) (H ++ [⟨0, 7, [eSpec s]⟩]) ?_ ?_
  · repeat (fail)
    refine aw_cond rfl (fun hc => ?_) (fun hc => ?_)
    · have he : g = 0 := by simpa using hc
      rcases q3 with ⟨_, k1, ⟨r1, a1⟩, k3⟩ | ⟨k1, _⟩
      case inr => exact absurd he k1
      rw [if_pos he] at hn3
      subst hn3
      have c1 := fun H => code_List p (by omega) H
      rw [k1] at c1
      repeat (refine aw_seq ?_)
      refine aw_region ?_
      refine ao1 (by decide) (o_move (v := .int _ _) rfl) ?_
      refine ao1 (by decide) (o_add (r := ((n2 + 1 : Nat) : Int)) rfl rfl (wrap64_ok (by omega) (by omega))) ?_
      refine ao1 (by decide) (o_assign (v := .int _ _) rfl) ?_
      refine ao_nil ?_
      repeat (first | refine then_nrm ?_ | refine aw_seq ?_)
      refine aw_region ?_
      refine ao1 (by decide) (o_move (v := .pl _) rfl) ?_
      refine ao_ret (c1 _) rfl (by decide) ?_
      refine ao1 (by decide) (o_move (v := .tup _) rfl) ?_
      refine ao1 (by decide) (o_extract (v := .pl _) rfl rfl) ?_
      refine ao1 (by decide) (o_extract (v := .int _ _) rfl rfl) ?_
      refine ao1 (by decide) (o_assign (v := .pl _) rfl) ?_
      refine ao1 (by decide) (o_assign (v := .int _ _) rfl) ?_
      refine ao_nil ?_
      try dsimp only
      repeat (first | refine then_nrm ?_ | refine aw_seq ?_)
      refine aw_out 117 (.bool false) ?_ ?_
      · refine ao1 (by decide) (o_move (v := .int _ _) rfl) ?_
        refine ao1 (by decide) (o_ne rfl rfl) ?_
        refine ao1 (by decide) (o_move (v := .bool _) rfl) ?_
        refine ao_split rfl rfl (fun hg2 => ?_) (fun hg2 => ?_)
        · refine ao_nF rfl rfl (by decide) ?_
          refine ao_nF rfl rfl (by decide) ?_
          refine ao_nF rfl rfl (by decide) ?_
          refine ao_nF rfl rfl (by decide) ?_
          refine ao_nF rfl rfl (by decide) ?_
          refine ao1 (by decide) (o_pick_t (v := .bool _) rfl rfl) ?_
          exact ao_nil (Out.mk (by (refine congrArg AV.bool ?_; (clear c1 d1 d2 hB q1 q2; (simp_all; done)))) (by repeat (first | exact SubX.refl _ _ | refine SubX.at ?_ | refine SubX.put rfl ?_)))
        · refine ao_y1 rfl rfl (by decide) (o_move (v := .pl _) rfl) ?_
          refine ao_y1 rfl rfl (by decide) (o_bytesStr (bs := b) rfl) ?_
          refine ao_y1 rfl rfl (by decide) (o_move (v := .pl _) rfl) ?_
          refine ao_y1 rfl rfl (by decide) (o_bytesStr (bs := b) rfl) ?_
          refine ao_y1 rfl rfl (by decide) (o_sned rfl rfl) ?_
          refine ao1 (by decide) (o_pick_f (v := .bool _) rfl rfl) ?_
          exact ao_nil (Out.mk (by (refine congrArg AV.bool ?_; (clear c1 d1 d2 hB q1 q2; (simp_all; done)))) (by repeat (first | exact SubX.refl _ _ | refine SubX.at ?_ | refine SubX.put rfl ?_)))
      repeat (refine then_nrm ?_)
      refine aw_cond rfl (fun hc => ?_) (fun hc => ?_)
      · cases hc
      repeat (refine aw_skip ?_)
      exact join_nrm (by repeat (first | exact Sub.nil | refine Sub.cons (by rfl) ?_)) (.inl rfl)
    · have he : ¬ g = 0 := by simpa using hc
      rw [if_neg he] at hn3
      subst hn3
      repeat (refine aw_skip ?_)
      exact join_nrm (by repeat (first | exact Sub.nil | refine Sub.cons (by rfl) ?_)) (.inl rfl)
  have r1 : e = 0 ∨ s = spec0 := q1.elim (fun h => .inl h.1) fun h => .inr h.2
  have r2 : f = 0 ∨ l = [] := q2.elim (fun h => .inl h.1) fun h => .inr h.2
  have r3 : g = 0 ∨ p = [] := q3.elim (fun h => .inl h.1) fun h => .inr h.2
  clear q1 q2 q3 d1 d2 hn1 hn2 hn3
  repeat (first | refine then_nrm ?_ | refine aw_seq ?_)
  refine aw_out 2 (.bool true) ?_ ?_
  · refine ao1 (by decide) (o_move (v := .int _ _) rfl) ?_
    refine ao1 (by decide) (o_le rfl rfl) ?_
    refine ao1 (by decide) (o_move (v := .bool _) rfl) ?_
    refine ao_split rfl rfl (fun hg2 => ?_) (fun hg2 => ?_)
    · refine ao_y1 rfl rfl (by decide) (o_move (v := .int _ _) rfl) ?_
      refine ao_y1 rfl rfl (by decide) (o_eq rfl rfl) ?_
      refine ao_y1 rfl rfl (by decide) (o_move (v := .bool _) rfl) ?_
      refine ao_split rfl rfl (fun hg5 => ?_) (fun hg5 => ?_)
      · refine ao_nF rfl rfl (by decide) ?_
        refine ao_nF rfl rfl (by decide) ?_
        refine ao_nF rfl rfl (by decide) ?_
        refine ao_y1 rfl rfl (by decide) (o_pick_t (v := .bool _) rfl rfl) ?_
        refine ao1 (by decide) (o_pick_t (v := .bool _) rfl rfl) ?_
        refine ao1 (by decide) (o_move (v := .bool _) rfl) ?_
        refine ao_y1 rfl rfl (by decide) (o_move (v := .int _ _) rfl) ?_
        refine ao_y1 rfl rfl (by decide) (o_eq rfl rfl) ?_
        refine ao_y1 rfl rfl (by decide) (o_move (v := .bool _) rfl) ?_
        refine ao_split rfl rfl (fun hg14 => ?_) (fun hg14 => ?_)
        · refine ao_nF rfl rfl (by decide) ?_
          refine ao_nF rfl rfl (by decide) ?_
          refine ao_nF rfl rfl (by decide) ?_
          refine ao_y1 rfl rfl (by decide) (o_pick_t (v := .bool _) rfl rfl) ?_
          refine ao1 (by decide) (o_pick_t (v := .bool _) rfl rfl) ?_
          refine ao1 (by decide) (o_move (v := .bool _) rfl) ?_
          refine ao_y1 rfl rfl (by decide) (o_move (v := .int _ _) rfl) ?_
          refine ao_y1 rfl rfl (by decide) (o_eq rfl rfl) ?_
          refine ao_y1 rfl rfl (by decide) (o_move (v := .bool _) rfl) ?_
          refine ao_split rfl rfl (fun hg23 => ?_) (fun hg23 => ?_)
          · refine ao_nF rfl rfl (by decide) ?_
            refine ao_nF rfl rfl (by decide) ?_
            refine ao_nF rfl rfl (by decide) ?_
            refine ao_y1 rfl rfl (by decide) (o_pick_t (v := .bool _) rfl rfl) ?_
            refine ao1 (by decide) (o_pick_t (v := .bool _) rfl rfl) ?_
            refine ao1 (by decide) (o_assign (v := .bool _) rfl) ?_
            exact ao_nil (Out.mk (by rfl) (by repeat (first | exact SubX.refl _ _ | refine SubX.at ?_ | refine SubX.put rfl ?_)))
          · refine ao_y1 rfl rfl (by decide) (o_move (v := .pl _) rfl) ?_
            refine ao_y1 rfl rfl (by decide) (o_lenp rfl) ?_
            refine ao_y1 rfl rfl (by decide) (o_eq rfl rfl) ?_
            refine ao_y1 rfl rfl (by decide) (o_pick_f (v := .bool _) rfl rfl) ?_
            refine ao1 (by decide) (o_pick_t (v := .bool _) rfl rfl) ?_
            refine ao1 (by decide) (o_assign (v := .bool _) rfl) ?_
            exact ao_nil (Out.mk (by (refine congrArg AV.bool ?_; (simp_all; done))) (by repeat (first | exact SubX.refl _ _ | refine SubX.at ?_ | refine SubX.put rfl ?_)))
        · refine ao_y1 rfl rfl (by decide) (o_move (v := .pl _) rfl) ?_
          refine ao_y1 rfl rfl (by decide) (o_lenp rfl) ?_
          refine ao_y1 rfl rfl (by decide) (o_eq rfl rfl) ?_
          refine ao_y1 rfl rfl (by decide) (o_pick_f (v := .bool _) rfl rfl) ?_
          refine ao1 (by decide) (o_pick_t (v := .bool _) rfl rfl) ?_
          refine ao1 (by decide) (o_move (v := .bool _) rfl) ?_
          refine ao_split rfl rfl (fun hg20 => ?_) (fun hg20 => ?_)
          · refine ao_y1 rfl rfl (by decide) (o_move (v := .int _ _) rfl) ?_
            refine ao_y1 rfl rfl (by decide) (o_eq rfl rfl) ?_
            refine ao_y1 rfl rfl (by decide) (o_move (v := .bool _) rfl) ?_
            refine ao_split rfl rfl (fun hg23 => ?_) (fun hg23 => ?_)
            · refine ao_nF rfl rfl (by decide) ?_
              refine ao_nF rfl rfl (by decide) ?_
              refine ao_nF rfl rfl (by decide) ?_
              refine ao_y1 rfl rfl (by decide) (o_pick_t (v := .bool _) rfl rfl) ?_
              refine ao1 (by decide) (o_pick_t (v := .bool _) rfl rfl) ?_
              refine ao1 (by decide) (o_assign (v := .bool _) rfl) ?_
              exact ao_nil (Out.mk (by rfl) (by repeat (first | exact SubX.refl _ _ | refine SubX.at ?_ | refine SubX.put rfl ?_)))
            · refine ao_y1 rfl rfl (by decide) (o_move (v := .pl _) rfl) ?_
              refine ao_y1 rfl rfl (by decide) (o_lenp rfl) ?_
              refine ao_y1 rfl rfl (by decide) (o_eq rfl rfl) ?_
              refine ao_y1 rfl rfl (by decide) (o_pick_f (v := .bool _) rfl rfl) ?_
              refine ao1 (by decide) (o_pick_t (v := .bool _) rfl rfl) ?_
              refine ao1 (by decide) (o_assign (v := .bool _) rfl) ?_
              exact ao_nil (Out.mk (by (refine congrArg AV.bool ?_; (simp_all; done))) (by repeat (first | exact SubX.refl _ _ | refine SubX.at ?_ | refine SubX.put rfl ?_)))
          · refine ao_nT rfl rfl (by decide) ?_
            refine ao_nT rfl rfl (by decide) ?_
            refine ao_nT rfl rfl (by decide) ?_
            refine ao_nU rfl rfl (by decide) ?_
            refine ao_nU rfl rfl (by decide) ?_
            refine ao_nU rfl rfl (by decide) ?_
            refine ao_nT rfl rfl (by decide) ?_
            refine ao1 (by decide) (o_pick_f (v := .bool _) rfl rfl) ?_
            refine ao1 (by decide) (o_assign (v := .bool _) rfl) ?_
            exact ao_nil (Out.mk (by (refine congrArg AV.bool ?_; (simp_all; done))) (by repeat (first | exact SubX.refl _ _ | refine SubX.at ?_ | refine SubX.put rfl ?_)))
      · refine ao_y1 rfl rfl (by decide) (w_loadR rfl (lk rfl rfl) rfl rfl rfl) ?_
        refine ao_y1 rfl rfl (by decide) (V1.up (o_build (cs := [.int _ _, .int _ _, .int _ _, .str _, .bool _, .int _ _, .int _ _]) rfl)) ?_
        refine ao_y1 rfl rfl (by decide) (o_eqAgg (us := uSpec s) (vs := uSpec spec0) rfl rfl rfl rfl (by kernel_rfl) (eqSpec_run s spec0)) ?_
        refine ao_y1 rfl rfl (by decide) (o_pick_f (v := .bool _) rfl rfl) ?_
        refine ao1 (by decide) (o_pick_t (v := .bool _) rfl rfl) ?_
        refine ao1 (by decide) (o_move (v := .bool _) rfl) ?_
        refine ao_split rfl rfl (fun hg11 => ?_) (fun hg11 => ?_)
        · refine ao_y1 rfl rfl (by decide) (o_move (v := .int _ _) rfl) ?_
          refine ao_y1 rfl rfl (by decide) (o_eq rfl rfl) ?_
          refine ao_y1 rfl rfl (by decide) (o_move (v := .bool _) rfl) ?_
          refine ao_split rfl rfl (fun hg14 => ?_) (fun hg14 => ?_)
          · refine ao_nF rfl rfl (by decide) ?_
            refine ao_nF rfl rfl (by decide) ?_
            refine ao_nF rfl rfl (by decide) ?_
            refine ao_y1 rfl rfl (by decide) (o_pick_t (v := .bool _) rfl rfl) ?_
            refine ao1 (by decide) (o_pick_t (v := .bool _) rfl rfl) ?_
            refine ao1 (by decide) (o_move (v := .bool _) rfl) ?_
            refine ao_y1 rfl rfl (by decide) (o_move (v := .int _ _) rfl) ?_
            refine ao_y1 rfl rfl (by decide) (o_eq rfl rfl) ?_
            refine ao_y1 rfl rfl (by decide) (o_move (v := .bool _) rfl) ?_
            refine ao_split rfl rfl (fun hg23 => ?_) (fun hg23 => ?_)
            · refine ao_nF rfl rfl (by decide) ?_
              refine ao_nF rfl rfl (by decide) ?_
              refine ao_nF rfl rfl (by decide) ?_
              refine ao_y1 rfl rfl (by decide) (o_pick_t (v := .bool _) rfl rfl) ?_
              refine ao1 (by decide) (o_pick_t (v := .bool _) rfl rfl) ?_
              refine ao1 (by decide) (o_assign (v := .bool _) rfl) ?_
              exact ao_nil (Out.mk (by rfl) (by repeat (first | exact SubX.refl _ _ | refine SubX.at ?_ | refine SubX.put rfl ?_)))
            · refine ao_y1 rfl rfl (by decide) (o_move (v := .pl _) rfl) ?_
              refine ao_y1 rfl rfl (by decide) (o_lenp rfl) ?_
              refine ao_y1 rfl rfl (by decide) (o_eq rfl rfl) ?_
              refine ao_y1 rfl rfl (by decide) (o_pick_f (v := .bool _) rfl rfl) ?_
              refine ao1 (by decide) (o_pick_t (v := .bool _) rfl rfl) ?_
              refine ao1 (by decide) (o_assign (v := .bool _) rfl) ?_
              exact ao_nil (Out.mk (by (refine congrArg AV.bool ?_; (simp_all; done))) (by repeat (first | exact SubX.refl _ _ | refine SubX.at ?_ | refine SubX.put rfl ?_)))
          · refine ao_y1 rfl rfl (by decide) (o_move (v := .pl _) rfl) ?_
            refine ao_y1 rfl rfl (by decide) (o_lenp rfl) ?_
            refine ao_y1 rfl rfl (by decide) (o_eq rfl rfl) ?_
            refine ao_y1 rfl rfl (by decide) (o_pick_f (v := .bool _) rfl rfl) ?_
            refine ao1 (by decide) (o_pick_t (v := .bool _) rfl rfl) ?_
            refine ao1 (by decide) (o_move (v := .bool _) rfl) ?_
            refine ao_split rfl rfl (fun hg20 => ?_) (fun hg20 => ?_)
            · refine ao_y1 rfl rfl (by decide) (o_move (v := .int _ _) rfl) ?_
              refine ao_y1 rfl rfl (by decide) (o_eq rfl rfl) ?_
              refine ao_y1 rfl rfl (by decide) (o_move (v := .bool _) rfl) ?_
              refine ao_split rfl rfl (fun hg23 => ?_) (fun hg23 => ?_)
              · refine ao_nF rfl rfl (by decide) ?_
                refine ao_nF rfl rfl (by decide) ?_
                refine ao_nF rfl rfl (by decide) ?_
                refine ao_y1 rfl rfl (by decide) (o_pick_t (v := .bool _) rfl rfl) ?_
                refine ao1 (by decide) (o_pick_t (v := .bool _) rfl rfl) ?_
                refine ao1 (by decide) (o_assign (v := .bool _) rfl) ?_
                exact ao_nil (Out.mk (by rfl) (by repeat (first | exact SubX.refl _ _ | refine SubX.at ?_ | refine SubX.put rfl ?_)))
              · refine ao_y1 rfl rfl (by decide) (o_move (v := .pl _) rfl) ?_
                refine ao_y1 rfl rfl (by decide) (o_lenp rfl) ?_
                refine ao_y1 rfl rfl (by decide) (o_eq rfl rfl) ?_
                refine ao_y1 rfl rfl (by decide) (o_pick_f (v := .bool _) rfl rfl) ?_
                refine ao1 (by decide) (o_pick_t (v := .bool _) rfl rfl) ?_
                refine ao1 (by decide) (o_assign (v := .bool _) rfl) ?_
                exact ao_nil (Out.mk (by (refine congrArg AV.bool ?_; (simp_all; done))) (by repeat (first | exact SubX.refl _ _ | refine SubX.at ?_ | refine SubX.put rfl ?_)))
            · refine ao_nT rfl rfl (by decide) ?_
              refine ao_nT rfl rfl (by decide) ?_
              refine ao_nT rfl rfl (by decide) ?_
              refine ao_nU rfl rfl (by decide) ?_
              refine ao_nU rfl rfl (by decide) ?_
              refine ao_nU rfl rfl (by decide) ?_
              refine ao_nT rfl rfl (by decide) ?_
              refine ao1 (by decide) (o_pick_f (v := .bool _) rfl rfl) ?_
              refine ao1 (by decide) (o_assign (v := .bool _) rfl) ?_
              exact ao_nil (Out.mk (by (refine congrArg AV.bool ?_; (simp_all; done))) (by repeat (first | exact SubX.refl _ _ | refine SubX.at ?_ | refine SubX.put rfl ?_)))
        · refine ao_nT rfl rfl (by decide) ?_
          refine ao_nT rfl rfl (by decide) ?_
          refine ao_nT rfl rfl (by decide) ?_
          refine ao_nU rfl rfl (by decide) ?_
          refine ao_nU rfl rfl (by decide) ?_
          refine ao_nU rfl rfl (by decide) ?_
          refine ao_nT rfl rfl (by decide) ?_
          refine ao1 (by decide) (o_pick_f (v := .bool _) rfl rfl) ?_
          refine ao1 (by decide) (o_move (v := .bool _) rfl) ?_
          refine ao_nT rfl rfl (by decide) ?_
          refine ao_nT rfl rfl (by decide) ?_
          refine ao_nT rfl rfl (by decide) ?_
          refine ao_nU rfl rfl (by decide) ?_
          refine ao_nU rfl rfl (by decide) ?_
          refine ao_nU rfl rfl (by decide) ?_
          refine ao_nT rfl rfl (by decide) ?_
          refine ao1 (by decide) (o_pick_f (v := .bool _) rfl rfl) ?_
          refine ao1 (by decide) (o_assign (v := .bool _) rfl) ?_
          exact ao_nil (Out.mk (by (refine congrArg AV.bool ?_; (simp_all; done))) (by repeat (first | exact SubX.refl _ _ | refine SubX.at ?_ | refine SubX.put rfl ?_)))
    · refine ao_nT rfl rfl (by decide) ?_
      refine ao_nT rfl rfl (by decide) ?_
      refine ao_nT rfl rfl (by decide) ?_
      refine ao_nU rfl rfl (by decide) ?_
      refine ao_nU rfl rfl (by decide) ?_
      refine ao_nU rfl rfl (by decide) ?_
      refine ao_nT rfl rfl (by decide) ?_
      refine ao1 (by decide) (o_pick_f (v := .bool _) rfl rfl) ?_
      refine ao1 (by decide) (o_move (v := .bool _) rfl) ?_
      refine ao_nT rfl rfl (by decide) ?_
      refine ao_nT rfl rfl (by decide) ?_
      refine ao_nT rfl rfl (by decide) ?_
      refine ao_nU rfl rfl (by decide) ?_
      refine ao_nU rfl rfl (by decide) ?_
      refine ao_nU rfl rfl (by decide) ?_
      refine ao_nT rfl rfl (by decide) ?_
      refine ao1 (by decide) (o_pick_f (v := .bool _) rfl rfl) ?_
      refine ao1 (by decide) (o_move (v := .bool _) rfl) ?_
      refine ao_nT rfl rfl (by decide) ?_
      refine ao_nT rfl rfl (by decide) ?_
      refine ao_nT rfl rfl (by decide) ?_
      refine ao_nU rfl rfl (by decide) ?_
      refine ao_nU rfl rfl (by decide) ?_
      refine ao_nU rfl rfl (by decide) ?_
      refine ao_nT rfl rfl (by decide) ?_
      refine ao1 (by decide) (o_pick_f (v := .bool _) rfl rfl) ?_
      refine ao1 (by decide) (o_assign (v := .bool _) rfl) ?_
      exact ao_nil (Out.mk (by (refine congrArg AV.bool ?_; (simp_all; omega))) (by repeat (first | exact SubX.refl _ _ | refine SubX.at ?_ | refine SubX.put rfl ?_)))
  repeat (first | refine then_nrm ?_ | refine aw_ret ?_)
  exact e_done hB (r_tmp rfl .nil) rfl rfl
end Go.Av

/-
  AN ELEMENT OF AN ARRAY OF ARRAYS.
-/
namespace Go.Av
theorem o_indexN {P : Program} {N : Nat} {env : Env} {H : Heap} {ty : TypeId} {t e : TypeId} {x y : Operand} {m sz : Nat} {k : IntKind} {n : Int} {cs ds : List AV} [hs : ArI P t m e] [TyI P e true sz] (hx : aev env x = .agg cs) (hy : aev env y = .int k n) (h0 : 0 ≤ n) (h1 : n < m) (hd : (cs.drop (n.toNat * sz)).take sz = ds) (hle : ds.length = sz) : V1 P N (.index t x y) ty env H (.agg ds) := by
  intro S a w hc
  obtain ⟨vs, he, hn, hl, h⟩ := ev_agg hc hx
  exact ⟨.agg (vs.extract (n.toNat * sz) (n.toNat * sz + sz)), fun _ _ _ _ => by
    simp [execOp, he, ev_int hc hy, Instr.index, asIntOf, run_und hs.ud, h0, h1, run_sz (P := P) (t := e) (agg := true) (sz := sz), run_partN (P := P) (t := e)], part_agg hn hl h hd hle⟩
end Go.Av

namespace Go.Av
open Go.Proofs
set_option maxRecDepth 10000
set_option linter.unusedSimpArgs false
set_option linter.unusedVariables false

def NP (x y : List UInt8) : Prop := ¬ PreB x y ∧ ¬ PreB y x
def ap1 (s : Spec) : List (List UInt8) := if sright s then [specB s] else []
def ap2 (s t : Spec) : List (List UInt8) := ap1 s ++ if sright t = true ∧ s ≠ t then [specB t] else []
def ap3 (s t : Spec) (a : List Int) : List (List UInt8) := ap2 s t ++ if sok a then [setB a] else []
def ap4 (s t : Spec) (a b : List Int) : List (List UInt8) := ap3 s t a ++ if sok b = true ∧ a ≠ b then [setB b] else []
theorem np_ss {s t : Spec} (h1 : sright s = true) (h2 : sright t = true) (h : s ≠ t) : NP (specB s) (specB t) := ⟨fun k => h (pre_spec h1 h2 k), fun k => h (pre_spec h2 h1 k).symm⟩
theorem np_aa {a b : List Int} (h1 : sok a = true) (h2 : sok b = true) (h : a ≠ b) : NP (setB a) (setB b) := ⟨fun k => h (pre_set h1 h2 k), fun k => h (pre_set h2 h1 k).symm⟩
theorem np_sa {s : Spec} {a : List Int} : NP (specB s) (setB a) := ⟨fun k => pre_st k, fun k => pre_ts k⟩
theorem mem1 {s : Spec} {x : List UInt8} (h : x ∈ ap1 s) : x = specB s ∧ sright s = true := by
  unfold ap1 at h
  split at h
  · rename_i hs; exact ⟨by simpa using h, hs⟩
  · cases h
theorem mem2 {s t : Spec} {x : List UInt8} (h : x ∈ ap2 s t) : ∃ u, x = specB u := by
  unfold ap2 at h
  rcases List.mem_append.1 h with h | h
  · exact ⟨s, (mem1 h).1⟩
  · split at h
    · exact ⟨t, by simpa using h⟩
    · cases h
theorem mem3 {s t : Spec} {a : List Int} {x : List UInt8} (h : x ∈ ap3 s t a) : (∃ u, x = specB u) ∨ (x = setB a ∧ sok a = true) := by
  unfold ap3 at h
  rcases List.mem_append.1 h with h | h
  · exact .inl (mem2 h)
  · split at h
    · rename_i ha; exact .inr ⟨by simpa using h, ha⟩
    · cases h
theorem pw_one {c : Prop} [Decidable c] (x : List UInt8) : (if c then [x] else []).Pairwise NP := by split <;> simp
theorem ap_pair (s t : Spec) (a b : List Int) : (ap4 s t a b).Pairwise NP := by
  refine List.pairwise_append.2 ⟨List.pairwise_append.2 ⟨List.pairwise_append.2 ⟨pw_one _, pw_one _, ?_⟩, pw_one _, ?_⟩, pw_one _, ?_⟩
  · intro x hx y hy
    obtain ⟨rfl, hs⟩ := mem1 hx
    split at hy
    · rename_i h
      have : y = specB t := by simpa using hy
      subst this
      exact np_ss hs h.1 h.2
    · cases hy
  · intro x hx y hy
    obtain ⟨u, rfl⟩ := mem2 hx
    split at hy
    · have : y = setB a := by simpa using hy
      subst this
      exact np_sa
    · cases hy
  · intro x hx y hy
    split at hy
    · rename_i h
      have : y = setB b := by simpa using hy
      subst this
      rcases mem3 hx with ⟨u, rfl⟩ | ⟨rfl, ha⟩
      · exact np_sa
      · exact np_aa ha h.1 h.2
    · cases hy
theorem ap_len (s t : Spec) (a b : List Int) : (ap4 s t a b).length ≤ 4 := by
  unfold ap4 ap3 ap2 ap1
  simp only [List.length_append]
  repeat' split
  all_goals simp
theorem ap_apart (s t : Spec) (a b : List Int) : ApartB (ap4 s t a b) := by
  intro i k x y hne hx hy
  have h := List.pairwise_iff_getElem.1 (ap_pair s t a b)
  obtain ⟨hi, rfl⟩ := List.getElem?_eq_some_iff.1 hx
  obtain ⟨hk, rfl⟩ := List.getElem?_eq_some_iff.1 hy
  rcases Nat.lt_or_ge i k with h1 | h1
  · exact (h i k hi hk h1).1
  · exact (h k i hk hi (by omega)).2
theorem rows3_bel (n : Nat) (s t : Spec) (ps : List (List UInt8)) (g : Nat) : ∀ o ∈ [AObj.mk 0 7 [eSpec s], AObj.mk 0 7 [eSpec t], AObj.mk g 1 (ps.map eB)], ∀ r ∈ o.rows, AV.bels n r = true := by
  intro o ho r hr
  simp only [List.mem_cons, List.not_mem_nil, or_false] at ho
  rcases ho with rfl | rfl | rfl
  · simp only [List.mem_singleton] at hr; subst hr; rfl
  · simp only [List.mem_singleton] at hr; subst hr; rfl
  · exact eB_bel _ _ r hr
set_option maxHeartbeats 0 in
theorem law08_CodeApart (s t : Spec) (a b : List Int) (H : Heap) : AC Try.prog 3 [.agg (eSpec s), .agg (eSpec t), .pl (a.map eInt), .pl (b.map eInt)] H (Ret (.bool true) H) := by
  refine AC.body (N := 134) [.tmp 8] Try.func3 rfl rfl rfl (Nat.le_of_ble_eq_true rfl) fun B hB => ?_
  repeat (refine aw_seq ?_)
  refine aw_region ?_
  refine ao2 (by rintro _ ⟨⟩; decide) (o_boxL (sz := 7) (v := .agg _) rfl rfl rfl rfl (by decide) rfl) ?_
  refine ao2 (by rintro _ ⟨⟩; decide) (o_boxL (sz := 7) (v := .agg _) rfl rfl rfl rfl (by decide) rfl) ?_
  refine ao1 (by decide) (o_assign (v := .bool _) rfl) ?_
  refine ao_nil ?_
  try dsimp only [List.length_nil, put, AV.cells, List.nil_append, List.length_cons, Nat.reduceAdd, List.cons_append]
  repeat (first | refine then_nrm ?_ | refine aw_seq ?_)
  refine aw_region ?_
  refine ao_ret (law08_awake _) rfl (by decide) ?_
  refine ao1 (by decide) (o_not rfl) ?_
  refine ao_nil ?_
  repeat (refine then_nrm ?_)
  refine aw_cond rfl (fun hc => ?_) (fun hc => ?_)
  · simp at hc
  clear hc
  repeat (first | refine then_nrm ?_ | refine aw_seq ?_ | refine aw_skip ?_)
  refine aw_out 29 (.bool (decide (300 < a.length) || decide (300 < b.length))) ?_ ?_
  · refine ao1 (by decide) (o_move (v := .pl _) rfl) ?_
    refine ao1 (by decide) (o_lenp rfl) ?_
    refine ao1 (by decide) (o_gt rfl rfl) ?_
    refine ao1 (by decide) (o_move (v := .bool _) rfl) ?_
    refine ao_split rfl rfl (fun hg3 => ?_) (fun hg3 => ?_)
    · refine ao_nF rfl rfl (by decide) ?_
      refine ao_nF rfl rfl (by decide) ?_
      refine ao_nF rfl rfl (by decide) ?_
      refine ao1 (by decide) (o_pick_t (v := .bool _) rfl rfl) ?_
      exact ao_nil (Out.mk (by (refine congrArg AV.bool ?_; (clear hB; (simp_all; omega)))) (by repeat (first | exact SubX.refl _ _ | refine SubX.at ?_ | refine SubX.put rfl ?_)))
    · refine ao_y1 rfl rfl (by decide) (o_move (v := .pl _) rfl) ?_
      refine ao_y1 rfl rfl (by decide) (o_lenp rfl) ?_
      refine ao_y1 rfl rfl (by decide) (o_gt rfl rfl) ?_
      refine ao1 (by decide) (o_pick_f (v := .bool _) rfl rfl) ?_
      exact ao_nil (Out.mk (by (refine congrArg AV.bool ?_; (clear hB; grind))) (by repeat (first | exact SubX.refl _ _ | refine SubX.at ?_ | refine SubX.put rfl ?_)))
  repeat (refine then_nrm ?_)
  refine aw_cond rfl (fun hc => ?_) (fun hc => ?_)
  · repeat (refine aw_seq ?_)
    refine aw_region ?_
    refine ao1 (by decide) (o_assign (v := .bool _) rfl) ?_
    refine ao_nil ?_
    repeat (first | refine then_nrm ?_ | refine then_ret ?_ | refine aw_ret ?_)
    exact e_done hB (r_tmp rfl .nil) rfl rfl
  have ha : a.length ≤ 1000000 := by simp at hc; omega
  have hb : b.length ≤ 1000000 := by simp at hc; omega
  clear hc
  repeat (first | refine then_nrm ?_ | refine aw_seq ?_ | refine aw_skip ?_)
  refine aw_region ?_
  refine ao1 (by decide) (o_assign (v := .nsl) rfl) ?_
  refine ao_nil ?_
  repeat (first | refine then_nrm ?_ | refine aw_seq ?_)
  refine aw_ghostL (k := 2) 9 1 rfl (by decide) rfl ?_
  refine aw_region ?_
  refine ao1 (by decide) (w_loadR rfl (lk rfl rfl) rfl rfl rfl) ?_
  refine ao1 (by decide) (w_loadR rfl (lk rfl rfl) rfl rfl rfl) ?_
  refine ao1 (by decide) (V1.up (o_buildArr (cs := [.int _ _, .int _ _, .int _ _, .str _, .bool _, .int _ _, .int _ _, .int _ _, .int _ _, .int _ _, .str _, .bool _, .int _ _, .int _ _]) rfl)) ?_
  refine ao1 (by decide) (o_move (v := .int _ _) rfl) ?_
  refine ao_nil ?_
  try dsimp only [AV.up, List.cons_append, List.nil_append]
  repeat (first | refine then_nrm ?_ | refine aw_block ?_)
  refine aw_loop (G := Nat × List (List UInt8) × Nat) (fun x => x.1 ≤ 2 ∧ (x.2.1, x.2.2) = (if x.1 = 0 then ([], 0) else if x.1 = 1 then (ap1 s, x.2.2) else (ap2 s t, x.2.2)) ∧ x.2.2 ≤ x.1) (fun x => [(2, .pl (a.map eInt)), (3, .pl (b.map eInt)), (4, .pt (Lid H.length 0) 0 0 0), (5, .pt (Lid H.length 1) 0 0 0), (9, .sl (Lid H.length 2) x.2.2 0 x.2.1.length x.2.1.length), (32, .agg (eSpec s ++ eSpec t)), (33, .int .i64 (x.1 : Int))]) (fun x => H ++ [⟨0, 7, [eSpec s]⟩, ⟨0, 7, [eSpec t]⟩, ⟨x.2.2, 1, x.2.1.map eB⟩]) (fun x => 2 - x.1) (0, [], 0) ⟨by omega, rfl, Nat.le_refl _⟩ (by repeat (first | exact Sub.nil | refine Sub.cons (by rfl) ?_)) (.inl rfl) ?_
  rintro ⟨k, ps, g⟩ ⟨hk, hps, hg⟩
  simp only at hk hps hg ⊢
  repeat (refine aw_seq ?_)
  refine aw_region ?_
  refine ao1 (by decide) (o_lt rfl rfl) ?_
  refine ao_nil ?_
  try dsimp only [List.cons_append, List.nil_append]
  repeat (first | refine then_nrm ?_ | refine aw_seq ?_)
  refine aw_cond rfl (fun hc => ?_) (fun hc => ?_)
  · have hk2 : k < 2 := by simp at hc; omega
    have hk01 : k = 0 ∨ k = 1 := by omega
    clear hc
    rcases hk01 with rfl | rfl
    · simp only [if_true, Prod.mk.injEq] at hps
      obtain ⟨rfl, rfl⟩ := hps
      have hpl : ([] : List (List UInt8)).length ≤ 1 := by simp
      have cs := fun H => code_Spec s H
      repeat (first | refine then_nrm ?_ | refine aw_seq ?_ | refine aw_block ?_ | refine aw_skip ?_)
      refine aw_region ?_
      refine ao1 (by decide) (o_move (v := .int _ _) rfl) ?_
      refine ao1 (by decide) (o_indexN (ds := eSpec s) rfl rfl (by omega) (by omega) rfl rfl) ?_
      refine ao2 (by rintro _ ⟨⟩; decide) (o_allocL (sz := 7) rfl (by decide) rfl) ?_
      refine ao1 (by decide) (o_assign (v := .int _ _) rfl) ?_
      refine ao2 (by rintro _ ⟨⟩) (w_storeW (sz := 7) rfl rfl rfl rfl rfl rfl rfl rfl (Nat.le_of_ble_eq_true rfl)) ?_
      refine ao_nil ?_
      try dsimp only [put, List.length_nil, List.length_cons, Nat.reduceAdd, List.cons_append, List.nil_append, List.set_cons_zero, List.set_cons_succ]
      repeat (first | refine then_nrm ?_ | refine aw_seq ?_)
      refine aw_region ?_
      refine ao1 (by decide) (w_loadR rfl (lk rfl rfl) rfl rfl rfl) ?_
      refine ao_ret (cs _) rfl (by decide) ?_
      refine ao1 (by decide) (o_move (v := .tup _) rfl) ?_
      refine ao1 (by decide) (o_extract (v := .pl _) rfl rfl) ?_
      refine ao1 (by decide) (o_extract (v := .int _ _) rfl rfl) ?_
      refine ao1 (by decide) (o_assign (v := .pl _) rfl) ?_
      refine ao1 (by decide) (o_assign (v := .int _ _) rfl) ?_
      refine ao_nil ?_
      have hcond : ∀ e : Int, (putSpec s).2 = e → decide (e = 0) = sright s := by
        intro e he
        subst he
        unfold putSpec
        split
        · rename_i h; rw [h]; rfl
        · rename_i h; rw [show sright s = true by simpa using h]; rfl
      generalize hpe : (putSpec s).2 = pe at hcond
      have hcond := hcond pe rfl
      repeat (first | refine then_nrm ?_ | refine aw_seq ?_)
      refine aw_out 52 (.bool (sright s)) ?_ ?_
      · refine ao1 (by decide) (o_move (v := .int _ _) rfl) ?_
        refine ao1 (by decide) (o_eq rfl rfl) ?_
        refine ao1 (by decide) (o_move (v := .bool _) rfl) ?_
        refine ao_split rfl rfl (fun hg2 => ?_) (fun hg2 => ?_)
        · refine ao_y1 rfl rfl (by decide) (o_move (v := .int _ _) rfl) ?_
          refine ao_y1 rfl rfl (by decide) (o_eq rfl rfl) ?_
          refine ao_y1 rfl rfl (by decide) (o_move (v := .bool _) rfl) ?_
          refine ao_split rfl rfl (fun hg5 => ?_) (fun hg5 => ?_)
          · refine ao_nF rfl rfl (by decide) ?_
            refine ao_nF rfl rfl (by decide) ?_
            refine ao_nF rfl rfl (by decide) ?_
            refine ao_y1 rfl rfl (by decide) (o_pick_t (v := .bool _) rfl rfl) ?_
            refine ao1 (by decide) (o_pick_t (v := .bool _) rfl rfl) ?_
            exact ao_nil (Out.mk (by (refine congrArg AV.bool ?_; (clear hB cs; (simp_all; done)))) (by repeat (first | exact SubX.refl _ _ | refine SubX.at ?_ | refine SubX.put rfl ?_)))
          · refine ao_y1 rfl rfl (by decide) (w_loadR rfl (lk rfl rfl) rfl rfl rfl) ?_
            refine ao_y1 rfl rfl (by decide) (w_loadR rfl (lk rfl rfl) rfl rfl rfl) ?_
            refine ao_y1 rfl rfl (by decide) (o_neAgg (us := uSpec s) (vs := uSpec t) rfl rfl rfl rfl (by kernel_rfl) (eqSpec_run s t)) ?_
            refine ao_y1 rfl rfl (by decide) (o_pick_f (v := .bool _) rfl rfl) ?_
            refine ao1 (by decide) (o_pick_t (v := .bool _) rfl rfl) ?_
            exact ao_nil (Out.mk (by (refine congrArg AV.bool ?_; (clear hB cs; (simp_all; done)))) (by repeat (first | exact SubX.refl _ _ | refine SubX.at ?_ | refine SubX.put rfl ?_)))
        · refine ao_nT rfl rfl (by decide) ?_
          refine ao_nT rfl rfl (by decide) ?_
          refine ao_nT rfl rfl (by decide) ?_
          refine ao_nU rfl rfl (by decide) ?_
          refine ao_nU rfl rfl (by decide) ?_
          refine ao_nU rfl rfl (by decide) ?_
          refine ao_nT rfl rfl (by decide) ?_
          refine ao1 (by decide) (o_pick_f (v := .bool _) rfl rfl) ?_
          exact ao_nil (Out.mk (by (refine congrArg AV.bool ?_; (clear hB cs; (simp_all; done)))) (by repeat (first | exact SubX.refl _ _ | refine SubX.at ?_ | refine SubX.put rfl ?_)))
      repeat (refine then_nrm ?_)
      refine aw_cond rfl (fun hc => ?_) (fun hc => ?_)
      · have hs : sright s = true := hc
        rw [show (putSpec s).1 = specB s by rw [putSpec_ok hs]]
        refine aw_region ?_
        refine ao1 (by decide) (o_move (v := .sl _ _ _ _ _) rfl) ?_
        refine ao1 (by decide) (o_move (v := .pl _) rfl) ?_
        refine ao2 (by rintro _ ⟨⟩; decide) (g_lit1 (sz := 1) (v := .pl _) rfl (by decide) (by decide) rfl rfl rfl rfl rfl) ?_
        refine ao2 (by rintro _ ⟨⟩; decide) (g_appB (bs := []) (cs := [specB s]) (en := eB) rfl rfl rfl (Src.pl rfl (eB_len [_])) rfl (by (simp; done)) (by (simp; done))) ?_
        refine ao1 (by decide) (o_assign (v := .sl _ _ _ _ _) rfl) ?_
        refine ao_nil ?_
        try dsimp only [Nat.reduceAdd, List.nil_append, List.length_cons, List.length_nil, AV.cells, put, List.set_cons_succ, List.set_cons_zero]
        repeat (first | refine then_nrm ?_ | refine blk_nrm ?_)
        refine aw_region ?_
        refine ao1 (by decide) (o_add rfl rfl (wrap64_ok (by omega) (by omega))) ?_
        refine ao1 (by decide) (o_move (v := .int _ _) rfl) ?_
        refine ao_nil ?_
        repeat (refine then_nrm ?_)
        have hn : [] ++ [specB s] = ap1 s := by rw [ap1, if_pos hs]; rfl
        exact ⟨(1, ap1 s, 1), by simp, ⟨by simp, rfl, by simp only; omega⟩, by rw [← hn]; exact (by repeat (first | exact Sub.nil | refine Sub.cons (by rfl) ?_)), by rw [← hn]; exact Fit.loc hB rfl (by repeat (first | exact EBel.nil | refine EBel.cons (by first | rfl | (simp [AV.bel, AV.bels, Lid]; done)) ?_)) (rows3_bel _ _ _ _ _)⟩
      · have hs : sright s = false := hc
        repeat (first | refine then_nrm ?_ | refine blk_nrm ?_ | refine aw_skip ?_)
        refine aw_region ?_
        refine ao1 (by decide) (o_add rfl rfl (wrap64_ok (by omega) (by omega))) ?_
        refine ao1 (by decide) (o_move (v := .int _ _) rfl) ?_
        refine ao_nil ?_
        repeat (refine then_nrm ?_)
        have hn : [] = ap1 s := by rw [ap1, if_neg (by rw [hs]; simp)]
        exact ⟨(1, ap1 s, 0), by simp, ⟨by simp, rfl, by simp only; omega⟩, by rw [← hn]; exact (by repeat (first | exact Sub.nil | refine Sub.cons (by rfl) ?_)), by rw [← hn]; exact Fit.loc hB rfl (by repeat (first | exact EBel.nil | refine EBel.cons (by first | rfl | (simp [AV.bel, AV.bels, Lid]; done)) ?_)) (rows3_bel _ _ _ _ _)⟩
    · simp only [Nat.one_ne_zero, if_false, if_true, Prod.mk.injEq, and_true] at hps
      subst hps
      have hpl : (ap1 s : List (List UInt8)).length ≤ 1 := by unfold ap1; split <;> simp
      have cs := fun H => code_Spec t H
      repeat (first | refine then_nrm ?_ | refine aw_seq ?_ | refine aw_block ?_ | refine aw_skip ?_)
      refine aw_region ?_
      refine ao1 (by decide) (o_move (v := .int _ _) rfl) ?_
      refine ao1 (by decide) (o_indexN (ds := eSpec t) rfl rfl (by omega) (by omega) rfl rfl) ?_
      refine ao2 (by rintro _ ⟨⟩; decide) (o_allocL (sz := 7) rfl (by decide) rfl) ?_
      refine ao1 (by decide) (o_assign (v := .int _ _) rfl) ?_
      refine ao2 (by rintro _ ⟨⟩) (w_storeW (sz := 7) rfl rfl rfl rfl rfl rfl rfl rfl (Nat.le_of_ble_eq_true rfl)) ?_
      refine ao_nil ?_
      try dsimp only [put, List.length_cons, List.length_nil, Nat.reduceAdd, List.cons_append, List.nil_append, List.set_cons_zero, List.set_cons_succ]
      repeat (first | refine then_nrm ?_ | refine aw_seq ?_)
      refine aw_region ?_
      refine ao1 (by decide) (w_loadR rfl (lk rfl rfl) rfl rfl rfl) ?_
      refine ao_ret (cs _) rfl (by decide) ?_
      refine ao1 (by decide) (o_move (v := .tup _) rfl) ?_
      refine ao1 (by decide) (o_extract (v := .pl _) rfl rfl) ?_
      refine ao1 (by decide) (o_extract (v := .int _ _) rfl rfl) ?_
      refine ao1 (by decide) (o_assign (v := .pl _) rfl) ?_
      refine ao1 (by decide) (o_assign (v := .int _ _) rfl) ?_
      refine ao_nil ?_
      have hcond : ∀ e : Int, (putSpec t).2 = e → decide (e = 0) = sright t := by
        intro e he
        subst he
        unfold putSpec
        split
        · rename_i h; rw [h]; rfl
        · rename_i h; rw [show sright t = true by simpa using h]; rfl
      generalize hpe : (putSpec t).2 = pe at hcond
      have hcond := hcond pe rfl
      repeat (first | refine then_nrm ?_ | refine aw_seq ?_)
      refine aw_out 52 (.bool ((sright t && decide (s ≠ t)))) ?_ ?_
      · refine ao1 (by decide) (o_move (v := .int _ _) rfl) ?_
        refine ao1 (by decide) (o_eq rfl rfl) ?_
        refine ao1 (by decide) (o_move (v := .bool _) rfl) ?_
        refine ao_split rfl rfl (fun hg2 => ?_) (fun hg2 => ?_)
        · refine ao_y1 rfl rfl (by decide) (o_move (v := .int _ _) rfl) ?_
          refine ao_y1 rfl rfl (by decide) (o_eq rfl rfl) ?_
          refine ao_y1 rfl rfl (by decide) (o_move (v := .bool _) rfl) ?_
          refine ao_split rfl rfl (fun hg5 => ?_) (fun hg5 => ?_)
          · refine ao_nF rfl rfl (by decide) ?_
            refine ao_nF rfl rfl (by decide) ?_
            refine ao_nF rfl rfl (by decide) ?_
            refine ao_y1 rfl rfl (by decide) (o_pick_t (v := .bool _) rfl rfl) ?_
            refine ao1 (by decide) (o_pick_t (v := .bool _) rfl rfl) ?_
            exact ao_nil (Out.mk (by (refine congrArg AV.bool ?_; (clear hB cs; (simp_all; done)))) (by repeat (first | exact SubX.refl _ _ | refine SubX.at ?_ | refine SubX.put rfl ?_)))
          · refine ao_y1 rfl rfl (by decide) (w_loadR rfl (lk rfl rfl) rfl rfl rfl) ?_
            refine ao_y1 rfl rfl (by decide) (w_loadR rfl (lk rfl rfl) rfl rfl rfl) ?_
            refine ao_y1 rfl rfl (by decide) (o_neAgg (us := uSpec s) (vs := uSpec t) rfl rfl rfl rfl (by kernel_rfl) (eqSpec_run s t)) ?_
            refine ao_y1 rfl rfl (by decide) (o_pick_f (v := .bool _) rfl rfl) ?_
            refine ao1 (by decide) (o_pick_t (v := .bool _) rfl rfl) ?_
            exact ao_nil (Out.mk (by (refine congrArg AV.bool ?_; (clear hB cs; (simp_all; done)))) (by repeat (first | exact SubX.refl _ _ | refine SubX.at ?_ | refine SubX.put rfl ?_)))
        · refine ao_nT rfl rfl (by decide) ?_
          refine ao_nT rfl rfl (by decide) ?_
          refine ao_nT rfl rfl (by decide) ?_
          refine ao_nU rfl rfl (by decide) ?_
          refine ao_nU rfl rfl (by decide) ?_
          refine ao_nU rfl rfl (by decide) ?_
          refine ao_nT rfl rfl (by decide) ?_
          refine ao1 (by decide) (o_pick_f (v := .bool _) rfl rfl) ?_
          exact ao_nil (Out.mk (by (refine congrArg AV.bool ?_; (clear hB cs; (simp_all; done)))) (by repeat (first | exact SubX.refl _ _ | refine SubX.at ?_ | refine SubX.put rfl ?_)))
      repeat (refine then_nrm ?_)
      refine aw_cond rfl (fun hc => ?_) (fun hc => ?_)
      · rw [Bool.and_eq_true, decide_eq_true_eq] at hc; obtain ⟨hs, hst⟩ := hc
        rw [show (putSpec t).1 = specB t by rw [putSpec_ok hs]]
        refine aw_region ?_
        refine ao1 (by decide) (o_move (v := .sl _ _ _ _ _) rfl) ?_
        refine ao1 (by decide) (o_move (v := .pl _) rfl) ?_
        refine ao2 (by rintro _ ⟨⟩; decide) (g_lit1 (sz := 1) (v := .pl _) rfl (by decide) (by decide) rfl rfl rfl rfl rfl) ?_
        refine ao2 (by rintro _ ⟨⟩; decide) (g_appB (bs := ap1 s) (cs := [specB t]) (en := eB) rfl rfl rfl (Src.pl rfl (eB_len [_])) rfl (by (simp; omega)) (by (simp; omega))) ?_
        refine ao1 (by decide) (o_assign (v := .sl _ _ _ _ _) rfl) ?_
        refine ao_nil ?_
        try dsimp only [AV.cells, put, List.set_cons_succ, List.set_cons_zero]
        repeat (first | refine then_nrm ?_ | refine blk_nrm ?_)
        refine aw_region ?_
        refine ao1 (by decide) (o_add rfl rfl (wrap64_ok (by omega) (by omega))) ?_
        refine ao1 (by decide) (o_move (v := .int _ _) rfl) ?_
        refine ao_nil ?_
        repeat (refine then_nrm ?_)
        have hn : ap1 s ++ [specB t] = ap2 s t := by rw [ap2, if_pos ⟨hs, hst⟩]
        exact ⟨(2, ap2 s t, g + 1), by simp, ⟨by simp, rfl, by simp only; omega⟩, by rw [← hn]; exact (by repeat (first | exact Sub.nil | refine Sub.cons (by rfl) ?_)), by rw [← hn]; exact Fit.loc hB rfl (by repeat (first | exact EBel.nil | refine EBel.cons (by first | rfl | (simp [AV.bel, AV.bels, Lid]; done)) ?_)) (rows3_bel _ _ _ _ _)⟩
      · have hs : ¬ (sright t = true ∧ s ≠ t) := by rintro ⟨h1, h2⟩; rw [h1, decide_eq_true h2] at hc; cases hc
        repeat (first | refine then_nrm ?_ | refine blk_nrm ?_ | refine aw_skip ?_)
        refine aw_region ?_
        refine ao1 (by decide) (o_add rfl rfl (wrap64_ok (by omega) (by omega))) ?_
        refine ao1 (by decide) (o_move (v := .int _ _) rfl) ?_
        refine ao_nil ?_
        repeat (refine then_nrm ?_)
        have hn : ap1 s = ap2 s t := by rw [ap2, if_neg hs, List.append_nil]
        exact ⟨(2, ap2 s t, g), by simp, ⟨by simp, rfl, by simp only; omega⟩, by rw [← hn]; exact (by repeat (first | exact Sub.nil | refine Sub.cons (by rfl) ?_)), by rw [← hn]; exact Fit.loc hB rfl (by repeat (first | exact EBel.nil | refine EBel.cons (by first | rfl | (simp [AV.bel, AV.bels, Lid]; done)) ?_)) (rows3_bel _ _ _ _ _)⟩
  have hk2 : k = 2 := by simp at hc; omega
  subst hk2
  rw [if_neg (by omega), if_neg (by omega), Prod.mk.injEq] at hps
  obtain ⟨rfl, _⟩ := hps
  clear hc hk
  have hl4 := ap_len s t a b
  have hl3 : (ap3 s t a).length ≤ 4 := by rw [ap4, List.length_append] at hl4; omega
  have hl2 : (ap2 s t).length ≤ 4 := by have h := hl3; rw [ap3, List.length_append] at h; omega
  repeat (first | refine then_nrm ?_ | refine then_brk ?_ | refine blk_hit ?_ | refine aw_seq ?_ | refine aw_exit ?_)
  refine aw_region ?_
  refine ao1 (by decide) (o_move (v := .pl _) rfl) ?_
  refine ao1 (by decide) (o_move (v := .pl _) rfl) ?_
  refine ao1 (by decide) (V1.up (o_buildArr (cs := [_, _]) rfl)) ?_
  refine ao1 (by decide) (o_move (v := .int _ _) rfl) ?_
  refine ao_nil ?_
  try dsimp only [AV.up]
  repeat (first | refine then_nrm ?_ | refine aw_block ?_)
  refine aw_loop (G := Nat × List (List UInt8) × Nat) (fun x => x.1 ≤ 2 ∧ x.2.1 = (if x.1 = 0 then ap2 s t else if x.1 = 1 then ap3 s t a else ap4 s t a b) ∧ x.2.2 ≤ x.1 + 2) (fun x => [(2, .pl (a.map eInt)), (3, .pl (b.map eInt)), (9, .sl (Lid H.length 2) x.2.2 0 x.2.1.length x.2.1.length), (60, .agg [.pl (a.map eInt), .pl (b.map eInt)]), (61, .int .i64 (x.1 : Int))]) (fun x => H ++ [⟨0, 7, [eSpec s]⟩, ⟨0, 7, [eSpec t]⟩, ⟨x.2.2, 1, x.2.1.map eB⟩]) (fun x => 2 - x.1) (0, ap2 s t, g) ⟨by omega, rfl, by simp only; omega⟩ (by repeat (first | exact Sub.nil | refine Sub.cons (by rfl) ?_)) (.inl rfl) ?_
  clear hg
  rintro ⟨k, ps, g⟩ ⟨hk, hps, hg⟩
  simp only at hk hps hg ⊢
  repeat (refine aw_seq ?_)
  refine aw_region ?_
  refine ao1 (by decide) (o_lt rfl rfl) ?_
  refine ao_nil ?_
  repeat (first | refine then_nrm ?_ | refine aw_seq ?_)
  refine aw_cond rfl (fun hc => ?_) (fun hc => ?_)
  · have hk2 : k < 2 := by simp at hc; omega
    have hk01 : k = 0 ∨ k = 1 := by omega
    clear hc
    rcases hk01 with rfl | rfl
    · simp only [if_true] at hps
      subst hps
      have cs := fun H => code_Set a ha H
      repeat (first | refine then_nrm ?_ | refine aw_seq ?_ | refine aw_block ?_ | refine aw_skip ?_)
      refine aw_region ?_
      refine ao1 (by decide) (o_move (v := .int _ _) rfl) ?_
      refine ao1 (by decide) (o_index1 (v := .pl (a.map eInt)) rfl rfl (by omega) (by omega) rfl) ?_
      refine ao1 (by decide) (o_assign (v := .int _ _) rfl) ?_
      refine ao1 (by decide) (o_assign (v := .pl _) rfl) ?_
      refine ao_nil ?_
      repeat (first | refine then_nrm ?_ | refine aw_seq ?_)
      refine aw_region ?_
      refine ao1 (by decide) (o_move (v := .pl _) rfl) ?_
      refine ao_ret (cs _) rfl (by decide) ?_
      refine ao1 (by decide) (o_move (v := .tup _) rfl) ?_
      refine ao1 (by decide) (o_extract (v := .pl _) rfl rfl) ?_
      refine ao1 (by decide) (o_extract (v := .int _ _) rfl rfl) ?_
      refine ao1 (by decide) (o_assign (v := .pl _) rfl) ?_
      refine ao1 (by decide) (o_assign (v := .int _ _) rfl) ?_
      refine ao_nil ?_
      have hcond : ∀ e : Int, (putSet a).2 = e → decide (e = 0) = sok a := by
        intro e he
        subst he
        unfold putSet
        split
        · rename_i h; rw [h]; rfl
        · rename_i h; rw [show sok a = true by simpa using h]; rfl
      generalize hpe : (putSet a).2 = pe at hcond
      have hcond := hcond pe rfl
      repeat (first | refine then_nrm ?_ | refine aw_seq ?_)
      refine aw_out 81 (.bool (sok a)) ?_ ?_
      · refine ao1 (by decide) (o_move (v := .int _ _) rfl) ?_
        refine ao1 (by decide) (o_eq rfl rfl) ?_
        refine ao1 (by decide) (o_move (v := .bool _) rfl) ?_
        refine ao_split rfl rfl (fun hg2 => ?_) (fun hg2 => ?_)
        · refine ao_y1 rfl rfl (by decide) (o_move (v := .int _ _) rfl) ?_
          refine ao_y1 rfl rfl (by decide) (o_eq rfl rfl) ?_
          refine ao_y1 rfl rfl (by decide) (o_move (v := .bool _) rfl) ?_
          refine ao_split rfl rfl (fun hg5 => ?_) (fun hg5 => ?_)
          · refine ao_nF rfl rfl (by decide) ?_
            refine ao_nF rfl rfl (by decide) ?_
            refine ao_nF rfl rfl (by decide) ?_
            refine ao_nF rfl rfl (by decide) ?_
            refine ao_y1 rfl rfl (by decide) (o_pick_t (v := .bool _) rfl rfl) ?_
            refine ao1 (by decide) (o_pick_t (v := .bool _) rfl rfl) ?_
            exact ao_nil (Out.mk (by (refine congrArg AV.bool ?_; (clear hB cs; (simp_all; done)))) (by repeat (first | exact SubX.refl _ _ | refine SubX.at ?_ | refine SubX.put rfl ?_)))
          · refine ao_y1 rfl rfl (by decide) (o_move (v := .pl _) rfl) ?_
            refine ao_y1 rfl rfl (by decide) (o_move (v := .pl _) rfl) ?_
            refine ao_y rfl rfl (by decide) (V2.call (ref01_Same a b ha _) rfl) ?_
            refine ao_y1 rfl rfl (by decide) (o_not rfl) ?_
            refine ao_y1 rfl rfl (by decide) (o_pick_f (v := .bool _) rfl rfl) ?_
            refine ao1 (by decide) (o_pick_t (v := .bool _) rfl rfl) ?_
            exact ao_nil (Out.mk (by (refine congrArg AV.bool ?_; (clear hB cs; (simp_all; done)))) (by repeat (first | exact SubX.refl _ _ | refine SubX.at ?_ | refine SubX.put rfl ?_)))
        · refine ao_nT rfl rfl (by decide) ?_
          refine ao_nT rfl rfl (by decide) ?_
          refine ao_nT rfl rfl (by decide) ?_
          refine ao_nU rfl rfl (by decide) ?_
          refine ao_nU rfl rfl (by decide) ?_
          refine ao_nU rfl rfl (by decide) ?_
          refine ao_nU rfl rfl (by decide) ?_
          refine ao_nT rfl rfl (by decide) ?_
          refine ao1 (by decide) (o_pick_f (v := .bool _) rfl rfl) ?_
          exact ao_nil (Out.mk (by (refine congrArg AV.bool ?_; (clear hB cs; (simp_all; done)))) (by repeat (first | exact SubX.refl _ _ | refine SubX.at ?_ | refine SubX.put rfl ?_)))
      repeat (refine then_nrm ?_)
      refine aw_cond rfl (fun hc => ?_) (fun hc => ?_)
      · have hs : sok a = true := hc
        rw [show (putSet a).1 = setB a by rw [putSet_ok hs]]
        refine aw_region ?_
        refine ao1 (by decide) (o_move (v := .sl _ _ _ _ _) rfl) ?_
        refine ao1 (by decide) (o_move (v := .pl _) rfl) ?_
        refine ao2 (by rintro _ ⟨⟩; decide) (g_lit1 (sz := 1) (v := .pl _) rfl (by decide) (by decide) rfl rfl rfl rfl rfl) ?_
        refine ao2 (by rintro _ ⟨⟩; decide) (g_appB (bs := ap2 s t) (cs := [setB a]) (en := eB) rfl rfl rfl (Src.pl rfl (eB_len [_])) rfl (by (simp; omega)) (by (simp; omega))) ?_
        refine ao1 (by decide) (o_assign (v := .sl _ _ _ _ _) rfl) ?_
        refine ao_nil ?_
        try dsimp only [AV.cells, put, List.set_cons_succ, List.set_cons_zero]
        repeat (first | refine then_nrm ?_ | refine blk_nrm ?_)
        refine aw_region ?_
        refine ao1 (by decide) (o_add rfl rfl (wrap64_ok (by omega) (by omega))) ?_
        refine ao1 (by decide) (o_move (v := .int _ _) rfl) ?_
        refine ao_nil ?_
        repeat (refine then_nrm ?_)
        have hn : ap2 s t ++ [setB a] = ap3 s t a := by rw [ap3, if_pos hs]
        exact ⟨(1, ap3 s t a, g + 1), by simp, ⟨by simp, rfl, by simp only; omega⟩, by rw [← hn]; exact (by repeat (first | exact Sub.nil | refine Sub.cons (by rfl) ?_)), by rw [← hn]; exact .inl rfl⟩
      · have hs : sok a = false := hc
        repeat (first | refine then_nrm ?_ | refine blk_nrm ?_ | refine aw_skip ?_)
        refine aw_region ?_
        refine ao1 (by decide) (o_add rfl rfl (wrap64_ok (by omega) (by omega))) ?_
        refine ao1 (by decide) (o_move (v := .int _ _) rfl) ?_
        refine ao_nil ?_
        repeat (refine then_nrm ?_)
        have hn : ap2 s t = ap3 s t a := by rw [ap3, if_neg (by rw [hs]; simp), List.append_nil]
        exact ⟨(1, ap3 s t a, g), by simp, ⟨by simp, rfl, by simp only; omega⟩, by rw [← hn]; exact (by repeat (first | exact Sub.nil | refine Sub.cons (by rfl) ?_)), by rw [← hn]; exact .inl rfl⟩
    · simp only [Nat.one_ne_zero, if_false, if_true] at hps
      subst hps
      have cs := fun H => code_Set b hb H
      repeat (first | refine then_nrm ?_ | refine aw_seq ?_ | refine aw_block ?_ | refine aw_skip ?_)
      refine aw_region ?_
      refine ao1 (by decide) (o_move (v := .int _ _) rfl) ?_
      refine ao1 (by decide) (o_index1 (v := .pl (b.map eInt)) rfl rfl (by omega) (by omega) rfl) ?_
      refine ao1 (by decide) (o_assign (v := .int _ _) rfl) ?_
      refine ao1 (by decide) (o_assign (v := .pl _) rfl) ?_
      refine ao_nil ?_
      repeat (first | refine then_nrm ?_ | refine aw_seq ?_)
      refine aw_region ?_
      refine ao1 (by decide) (o_move (v := .pl _) rfl) ?_
      refine ao_ret (cs _) rfl (by decide) ?_
      refine ao1 (by decide) (o_move (v := .tup _) rfl) ?_
      refine ao1 (by decide) (o_extract (v := .pl _) rfl rfl) ?_
      refine ao1 (by decide) (o_extract (v := .int _ _) rfl rfl) ?_
      refine ao1 (by decide) (o_assign (v := .pl _) rfl) ?_
      refine ao1 (by decide) (o_assign (v := .int _ _) rfl) ?_
      refine ao_nil ?_
      have hcond : ∀ e : Int, (putSet b).2 = e → decide (e = 0) = sok b := by
        intro e he
        subst he
        unfold putSet
        split
        · rename_i h; rw [h]; rfl
        · rename_i h; rw [show sok b = true by simpa using h]; rfl
      generalize hpe : (putSet b).2 = pe at hcond
      have hcond := hcond pe rfl
      repeat (first | refine then_nrm ?_ | refine aw_seq ?_)
      refine aw_out 81 (.bool ((sok b && decide (a ≠ b)))) ?_ ?_
      · refine ao1 (by decide) (o_move (v := .int _ _) rfl) ?_
        refine ao1 (by decide) (o_eq rfl rfl) ?_
        refine ao1 (by decide) (o_move (v := .bool _) rfl) ?_
        refine ao_split rfl rfl (fun hg2 => ?_) (fun hg2 => ?_)
        · refine ao_y1 rfl rfl (by decide) (o_move (v := .int _ _) rfl) ?_
          refine ao_y1 rfl rfl (by decide) (o_eq rfl rfl) ?_
          refine ao_y1 rfl rfl (by decide) (o_move (v := .bool _) rfl) ?_
          refine ao_split rfl rfl (fun hg5 => ?_) (fun hg5 => ?_)
          · refine ao_nF rfl rfl (by decide) ?_
            refine ao_nF rfl rfl (by decide) ?_
            refine ao_nF rfl rfl (by decide) ?_
            refine ao_nF rfl rfl (by decide) ?_
            refine ao_y1 rfl rfl (by decide) (o_pick_t (v := .bool _) rfl rfl) ?_
            refine ao1 (by decide) (o_pick_t (v := .bool _) rfl rfl) ?_
            exact ao_nil (Out.mk (by (refine congrArg AV.bool ?_; (clear hB cs; (simp_all; done)))) (by repeat (first | exact SubX.refl _ _ | refine SubX.at ?_ | refine SubX.put rfl ?_)))
          · refine ao_y1 rfl rfl (by decide) (o_move (v := .pl _) rfl) ?_
            refine ao_y1 rfl rfl (by decide) (o_move (v := .pl _) rfl) ?_
            refine ao_y rfl rfl (by decide) (V2.call (ref01_Same a b ha _) rfl) ?_
            refine ao_y1 rfl rfl (by decide) (o_not rfl) ?_
            refine ao_y1 rfl rfl (by decide) (o_pick_f (v := .bool _) rfl rfl) ?_
            refine ao1 (by decide) (o_pick_t (v := .bool _) rfl rfl) ?_
            exact ao_nil (Out.mk (by (refine congrArg AV.bool ?_; (clear hB cs; (simp_all; done)))) (by repeat (first | exact SubX.refl _ _ | refine SubX.at ?_ | refine SubX.put rfl ?_)))
        · refine ao_nT rfl rfl (by decide) ?_
          refine ao_nT rfl rfl (by decide) ?_
          refine ao_nT rfl rfl (by decide) ?_
          refine ao_nU rfl rfl (by decide) ?_
          refine ao_nU rfl rfl (by decide) ?_
          refine ao_nU rfl rfl (by decide) ?_
          refine ao_nU rfl rfl (by decide) ?_
          refine ao_nT rfl rfl (by decide) ?_
          refine ao1 (by decide) (o_pick_f (v := .bool _) rfl rfl) ?_
          exact ao_nil (Out.mk (by (refine congrArg AV.bool ?_; (clear hB cs; (simp_all; done)))) (by repeat (first | exact SubX.refl _ _ | refine SubX.at ?_ | refine SubX.put rfl ?_)))
      repeat (refine then_nrm ?_)
      refine aw_cond rfl (fun hc => ?_) (fun hc => ?_)
      · rw [Bool.and_eq_true, decide_eq_true_eq] at hc; obtain ⟨hs, hst⟩ := hc
        rw [show (putSet b).1 = setB b by rw [putSet_ok hs]]
        refine aw_region ?_
        refine ao1 (by decide) (o_move (v := .sl _ _ _ _ _) rfl) ?_
        refine ao1 (by decide) (o_move (v := .pl _) rfl) ?_
        refine ao2 (by rintro _ ⟨⟩; decide) (g_lit1 (sz := 1) (v := .pl _) rfl (by decide) (by decide) rfl rfl rfl rfl rfl) ?_
        refine ao2 (by rintro _ ⟨⟩; decide) (g_appB (bs := ap3 s t a) (cs := [setB b]) (en := eB) rfl rfl rfl (Src.pl rfl (eB_len [_])) rfl (by (simp; omega)) (by (simp; omega))) ?_
        refine ao1 (by decide) (o_assign (v := .sl _ _ _ _ _) rfl) ?_
        refine ao_nil ?_
        try dsimp only [AV.cells, put, List.set_cons_succ, List.set_cons_zero]
        repeat (first | refine then_nrm ?_ | refine blk_nrm ?_)
        refine aw_region ?_
        refine ao1 (by decide) (o_add rfl rfl (wrap64_ok (by omega) (by omega))) ?_
        refine ao1 (by decide) (o_move (v := .int _ _) rfl) ?_
        refine ao_nil ?_
        repeat (refine then_nrm ?_)
        have hn : ap3 s t a ++ [setB b] = ap4 s t a b := by rw [ap4, if_pos ⟨hs, hst⟩]
        exact ⟨(2, ap4 s t a b, g + 1), by simp, ⟨by simp, rfl, by simp only; omega⟩, by rw [← hn]; exact (by repeat (first | exact Sub.nil | refine Sub.cons (by rfl) ?_)), by rw [← hn]; exact .inl rfl⟩
      · have hs : ¬ (sok b = true ∧ a ≠ b) := by rintro ⟨h1, h2⟩; rw [h1, decide_eq_true h2] at hc; cases hc
        repeat (first | refine then_nrm ?_ | refine blk_nrm ?_ | refine aw_skip ?_)
        refine aw_region ?_
        refine ao1 (by decide) (o_add rfl rfl (wrap64_ok (by omega) (by omega))) ?_
        refine ao1 (by decide) (o_move (v := .int _ _) rfl) ?_
        refine ao_nil ?_
        repeat (refine then_nrm ?_)
        have hn : ap3 s t a = ap4 s t a b := by rw [ap4, if_neg hs, List.append_nil]
        exact ⟨(2, ap4 s t a b, g), by simp, ⟨by simp, rfl, by simp only; omega⟩, by rw [← hn]; exact (by repeat (first | exact Sub.nil | refine Sub.cons (by rfl) ?_)), by rw [← hn]; exact .inl rfl⟩
  have hk2 : k = 2 := by simp at hc; omega
  subst hk2
  rw [if_neg (by omega), if_neg (by omega)] at hps
  subst hps
  clear hc hk
  have hap := ap_apart s t a b
  generalize ap4 s t a b = l at hap hl4
  repeat (first | refine then_nrm ?_ | refine then_brk ?_ | refine blk_hit ?_ | refine aw_seq ?_ | refine aw_exit ?_)
  refine aw_freezeL (ys := l.map eB) 9 rfl rfl rfl rfl (by rw [List.drop_zero, List.take_of_length_le (by simp)]) (by simp) (eB_bel 0 _) ?_
  refine aw_region ?_
  refine ao1 (by decide) (o_assign (v := .int _ _) rfl) ?_
  refine ao_nil ?_
  try dsimp only [List.set_cons_succ, List.set_cons_zero]
  repeat (first | refine then_nrm ?_ | refine aw_block ?_)
  refine aw_loop (G := Nat) (fun i => i ≤ l.length) (fun i => [(9, .pl (l.map eB)), (18, .int .i64 (i : Int))]) (fun _ => H ++ []) (fun i => l.length - i) 0 (Nat.zero_le _) (by repeat (first | exact Sub.nil | refine Sub.cons (by rfl) ?_)) (Fit.loc hB rfl (by repeat (first | exact EBel.nil | refine EBel.cons (by rfl) ?_)) (by intro o ho; cases ho)) ?_
  intro i hi
  repeat (refine aw_seq ?_)
  refine aw_region ?_
  refine ao1 (by decide) (o_move (v := .int _ _) rfl) ?_
  refine ao1 (by decide) (o_move (v := .pl _) rfl) ?_
  refine ao1 (by decide) (o_lenp rfl) ?_
  refine ao1 (by decide) (o_lt rfl rfl) ?_
  refine ao_nil ?_
  repeat (refine then_nrm ?_)
  refine aw_cond rfl (fun hc => ?_) (fun hc => ?_)
  · have hil : i < l.length := by simp at hc; omega
    clear hc
    repeat (first | refine then_nrm ?_ | refine aw_seq ?_ | refine aw_block ?_ | refine aw_skip ?_)
    refine aw_region ?_
    refine ao1 (by decide) (o_assign (v := .int _ _) rfl) ?_
    refine ao_nil ?_
    repeat (first | refine then_nrm ?_ | refine aw_block ?_)
    refine aw_loop (G := Nat) (fun k => k ≤ l.length) (fun k => [(9, .pl (l.map eB)), (18, .int .i64 (i : Int)), (19, .int .i64 (k : Int))]) (fun _ => H ++ []) (fun k => l.length - k) 0 (Nat.zero_le _) (by repeat (first | exact Sub.nil | refine Sub.cons (by rfl) ?_)) (.inl rfl) ?_
    intro k hk
    repeat (refine aw_seq ?_)
    refine aw_region ?_
    refine ao1 (by decide) (o_move (v := .int _ _) rfl) ?_
    refine ao1 (by decide) (o_move (v := .pl _) rfl) ?_
    refine ao1 (by decide) (o_lenp rfl) ?_
    refine ao1 (by decide) (o_lt rfl rfl) ?_
    refine ao_nil ?_
    repeat (refine then_nrm ?_)
    refine aw_cond rfl (fun hc => ?_) (fun hc => ?_)
    · have hkl : k < l.length := by simp at hc; omega
      clear hc
      obtain ⟨x, hx, _⟩ := get_in hil
      obtain ⟨y, hy, _⟩ := get_in hkl
      have hr := map_get eB hx
      have hr1 := map_get eB hy
      have hno : ((i : Int) = (k : Int)) ∨ ¬ (x.length ≤ y.length) ∨ ¬ ((⟨x.toArray⟩ : ByteArray) = ⟨(y.take x.length).toArray⟩) := by
        by_cases h1 : i = k
        · exact .inl (by omega)
        by_cases h2 : x.length ≤ y.length
        · right; right
          intro e
          refine hap i k x y h1 hx hy ⟨h2, ?_⟩
          have := congrArg (fun q : ByteArray => q.data.toList) e
          simpa using this
        · exact .inr (.inl h2)
      repeat (first | refine then_nrm ?_ | refine aw_seq ?_ | refine aw_block ?_ | refine aw_skip ?_)
      refine aw_of_out 133 (.bool false) ?_ ?_
      · refine aw_drawP mixed none 999 ?_
        refine aq0 0 rfl (by decide +kernel) (by decide) (fun _ => o_move (v := .int _ _) rfl) ?_
        refine aq0 1 rfl (by decide +kernel) (by decide) (fun _ => o_move (v := .int _ _) rfl) ?_
        refine aq0 2 rfl (by decide +kernel) (by decide) (fun _ => o_ne rfl rfl) ?_
        refine aq0 3 rfl (by decide +kernel) (by decide) (fun _ => o_move (v := .bool _) rfl) ?_
        refine aq_split (g := 102) rfl (fun hg3 => ?_) (fun hg3 => ?_)
        · refine aqy0 (g := 102) 4 rfl (by decide +kernel) (by decide) rfl rfl (fun _ => o_move (v := .pl _) rfl) ?_
          refine aqy0 (g := 102) 5 rfl (by decide +kernel) (by decide) rfl rfl (fun _ => o_move (v := .int _ _) rfl) ?_
          refine aqyp (g := 102) 6 rfl (by decide +kernel) (by decide) rfl rfl (fun G => w_indexAddrpN rfl rfl hr rfl) ?_
          refine aqyp (g := 102) 7 rfl (by decide +kernel) (by decide) rfl rfl (fun G => o_load1p (v := .pl _) rfl hr rfl) ?_
          refine aqyp (g := 102) 8 rfl (by decide +kernel) (by decide) rfl rfl (fun G => o_lenp rfl) ?_
          refine aqy0 (g := 102) 9 rfl (by decide +kernel) (by decide) rfl rfl (fun _ => o_move (v := .pl _) rfl) ?_
          refine aqy0 (g := 102) 10 rfl (by decide +kernel) (by decide) rfl rfl (fun _ => o_move (v := .int _ _) rfl) ?_
          refine aqyp (g := 102) 11 rfl (by decide +kernel) (by decide) rfl rfl (fun G => w_indexAddrpN rfl rfl hr1 rfl) ?_
          refine aqyp (g := 102) 12 rfl (by decide +kernel) (by decide) rfl rfl (fun G => o_load1p (v := .pl _) rfl hr1 rfl) ?_
          refine aqyp (g := 102) 13 rfl (by decide +kernel) (by decide) rfl rfl (fun G => o_lenp rfl) ?_
          refine aqy0 (g := 102) 14 rfl (by decide +kernel) (by decide) rfl rfl (fun _ => o_le rfl rfl) ?_
          refine aq0 15 rfl (by decide +kernel) (by decide) (fun _ => o_pick_t (v := .bool _) rfl rfl) ?_
          refine aq0 16 rfl (by decide +kernel) (by decide) (fun _ => o_move (v := .bool _) rfl) ?_
          refine aq_split (g := 115) rfl (fun hg16 => ?_) (fun hg16 => ?_)
          · refine aqy0 (g := 115) 17 rfl (by decide +kernel) (by decide) rfl rfl (fun _ => o_move (v := .pl _) rfl) ?_
            refine aqy0 (g := 115) 18 rfl (by decide +kernel) (by decide) rfl rfl (fun _ => o_move (v := .int _ _) rfl) ?_
            refine aqyp (g := 115) 19 rfl (by decide +kernel) (by decide) rfl rfl (fun G => w_indexAddrpN rfl rfl hr rfl) ?_
            refine aqyp (g := 115) 20 rfl (by decide +kernel) (by decide) rfl rfl (fun G => o_load1p (v := .pl _) rfl hr rfl) ?_
            refine aqy0 (g := 115) 21 rfl (by decide +kernel) (by decide) rfl rfl (fun _ => o_bytesStr (bs := x) rfl) ?_
            refine aqy0 (g := 115) 22 rfl (by decide +kernel) (by decide) rfl rfl (fun _ => o_move (v := .pl _) rfl) ?_
            refine aqy0 (g := 115) 23 rfl (by decide +kernel) (by decide) rfl rfl (fun _ => o_move (v := .int _ _) rfl) ?_
            refine aqyp (g := 115) 24 rfl (by decide +kernel) (by decide) rfl rfl (fun G => w_indexAddrpN rfl rfl hr1 rfl) ?_
            refine aqyp (g := 115) 25 rfl (by decide +kernel) (by decide) rfl rfl (fun G => o_load1p (v := .pl _) rfl hr1 rfl) ?_
            refine aqy0 (g := 115) 26 rfl (by decide +kernel) (by decide) rfl rfl (fun _ => o_move (v := .pl _) rfl) ?_
            refine aqy0 (g := 115) 27 rfl (by decide +kernel) (by decide) rfl rfl (fun _ => o_move (v := .int _ _) rfl) ?_
            refine aqyp (g := 115) 28 rfl (by decide +kernel) (by decide) rfl rfl (fun G => w_indexAddrpN rfl rfl hr rfl) ?_
            refine aqyp (g := 115) 29 rfl (by decide +kernel) (by decide) rfl rfl (fun G => o_load1p (v := .pl _) rfl hr rfl) ?_
            refine aqyp (g := 115) 30 rfl (by decide +kernel) (by decide) rfl rfl (fun G => o_lenp rfl) ?_
            refine aqyp (g := 115) 31 rfl (by decide +kernel) (by decide) rfl rfl (fun G => o_slicepT (sz := 1) (h := x.length) (ys := (y.take x.length).map brow) rfl (.some rfl (by simp)) (by simp at hg16; simp; omega) (bytes_len1 _) (List.map_take).symm) ?_
            refine aqy0 (g := 115) 32 rfl (by decide +kernel) (by decide) rfl rfl (fun _ => o_bytesStr (bs := y.take x.length) rfl) ?_
            refine aqy0 (g := 115) 33 rfl (by decide +kernel) (by decide) rfl rfl (fun _ => o_seqd rfl rfl) ?_
            refine aq0 34 rfl (by decide +kernel) (by decide) (fun _ => o_pick_t (v := .bool _) rfl rfl) ?_
            exact aa_done (by decide +kernel) (by exact fun _ => ⟨_, rfl⟩) (Out.mk (by (refine congrArg AV.bool ?_; (clear hB hap; grind))) (by repeat (first | exact SubX.refl _ _ | refine SubX.at ?_ | refine SubX.put rfl ?_)))
          · refine aqn0 (g := 115) 17 rfl (by decide +kernel) (by decide) rfl rfl rfl ?_
            refine aqn0 (g := 115) 18 rfl (by decide +kernel) (by decide) rfl rfl rfl ?_
            refine aqn0 (g := 115) 19 rfl (by decide +kernel) (by decide) rfl rfl rfl ?_
            refine aqn0 (g := 115) 20 rfl (by decide +kernel) (by decide) rfl rfl rfl ?_
            refine aqn0 (g := 115) 21 rfl (by decide +kernel) (by decide) rfl rfl rfl ?_
            refine aqn0 (g := 115) 22 rfl (by decide +kernel) (by decide) rfl rfl rfl ?_
            refine aqn0 (g := 115) 23 rfl (by decide +kernel) (by decide) rfl rfl rfl ?_
            refine aqn0 (g := 115) 24 rfl (by decide +kernel) (by decide) rfl rfl rfl ?_
            refine aqn0 (g := 115) 25 rfl (by decide +kernel) (by decide) rfl rfl rfl ?_
            refine aqn0 (g := 115) 26 rfl (by decide +kernel) (by decide) rfl rfl rfl ?_
            refine aqn0 (g := 115) 27 rfl (by decide +kernel) (by decide) rfl rfl rfl ?_
            refine aqn0 (g := 115) 28 rfl (by decide +kernel) (by decide) rfl rfl rfl ?_
            refine aqn0 (g := 115) 29 rfl (by decide +kernel) (by decide) rfl rfl rfl ?_
            refine aqn0 (g := 115) 30 rfl (by decide +kernel) (by decide) rfl rfl rfl ?_
            refine aqn0 (g := 115) 31 rfl (by decide +kernel) (by decide) rfl rfl rfl ?_
            refine aqn0 (g := 115) 32 rfl (by decide +kernel) (by decide) rfl rfl rfl ?_
            refine aqn0 (g := 115) 33 rfl (by decide +kernel) (by decide) rfl rfl rfl ?_
            refine aq0 34 rfl (by decide +kernel) (by decide) (fun _ => o_pick_f (v := .bool _) rfl rfl) ?_
            exact aa_done (by decide +kernel) (by exact fun _ => ⟨_, rfl⟩) (Out.mk (by rfl) (by repeat (first | exact SubX.refl _ _ | refine SubX.at ?_ | refine SubX.put rfl ?_)))
        · refine aqn0 (g := 102) 4 rfl (by decide +kernel) (by decide) rfl rfl rfl ?_
          refine aqn0 (g := 102) 5 rfl (by decide +kernel) (by decide) rfl rfl rfl ?_
          refine aqn0 (g := 102) 6 rfl (by decide +kernel) (by decide) rfl rfl rfl ?_
          refine aqn0 (g := 102) 7 rfl (by decide +kernel) (by decide) rfl rfl rfl ?_
          refine aqn0 (g := 102) 8 rfl (by decide +kernel) (by decide) rfl rfl rfl ?_
          refine aqn0 (g := 102) 9 rfl (by decide +kernel) (by decide) rfl rfl rfl ?_
          refine aqn0 (g := 102) 10 rfl (by decide +kernel) (by decide) rfl rfl rfl ?_
          refine aqn0 (g := 102) 11 rfl (by decide +kernel) (by decide) rfl rfl rfl ?_
          refine aqn0 (g := 102) 12 rfl (by decide +kernel) (by decide) rfl rfl rfl ?_
          refine aqn0 (g := 102) 13 rfl (by decide +kernel) (by decide) rfl rfl rfl ?_
          refine aqn0 (g := 102) 14 rfl (by decide +kernel) (by decide) rfl rfl rfl ?_
          refine aq0 15 rfl (by decide +kernel) (by decide) (fun _ => o_pick_f (v := .bool _) rfl rfl) ?_
          refine aq0 16 rfl (by decide +kernel) (by decide) (fun _ => o_move (v := .bool _) rfl) ?_
          refine aqn0 (g := 115) 17 rfl (by decide +kernel) (by decide) rfl rfl rfl ?_
          refine aqn0 (g := 115) 18 rfl (by decide +kernel) (by decide) rfl rfl rfl ?_
          refine aqn0 (g := 115) 19 rfl (by decide +kernel) (by decide) rfl rfl rfl ?_
          refine aqn0 (g := 115) 20 rfl (by decide +kernel) (by decide) rfl rfl rfl ?_
          refine aqn0 (g := 115) 21 rfl (by decide +kernel) (by decide) rfl rfl rfl ?_
          refine aqn0 (g := 115) 22 rfl (by decide +kernel) (by decide) rfl rfl rfl ?_
          refine aqn0 (g := 115) 23 rfl (by decide +kernel) (by decide) rfl rfl rfl ?_
          refine aqn0 (g := 115) 24 rfl (by decide +kernel) (by decide) rfl rfl rfl ?_
          refine aqn0 (g := 115) 25 rfl (by decide +kernel) (by decide) rfl rfl rfl ?_
          refine aqn0 (g := 115) 26 rfl (by decide +kernel) (by decide) rfl rfl rfl ?_
          refine aqn0 (g := 115) 27 rfl (by decide +kernel) (by decide) rfl rfl rfl ?_
          refine aqn0 (g := 115) 28 rfl (by decide +kernel) (by decide) rfl rfl rfl ?_
          refine aqn0 (g := 115) 29 rfl (by decide +kernel) (by decide) rfl rfl rfl ?_
          refine aqn0 (g := 115) 30 rfl (by decide +kernel) (by decide) rfl rfl rfl ?_
          refine aqn0 (g := 115) 31 rfl (by decide +kernel) (by decide) rfl rfl rfl ?_
          refine aqn0 (g := 115) 32 rfl (by decide +kernel) (by decide) rfl rfl rfl ?_
          refine aqn0 (g := 115) 33 rfl (by decide +kernel) (by decide) rfl rfl rfl ?_
          refine aq0 34 rfl (by decide +kernel) (by decide) (fun _ => o_pick_f (v := .bool _) rfl rfl) ?_
          exact aa_done (by decide +kernel) (by exact fun _ => ⟨_, rfl⟩) (Out.mk (by rfl) (by repeat (first | exact SubX.refl _ _ | refine SubX.at ?_ | refine SubX.put rfl ?_)))
      repeat (refine then_nrm ?_)
      refine aw_cond rfl (fun hc => ?_) (fun hc => ?_)
      · cases hc
      repeat (first | refine then_nrm ?_ | refine blk_nrm ?_ | refine aw_skip ?_)
      refine aw_region ?_
      refine ao1 (by decide) (o_move (v := .int _ _) rfl) ?_
      refine ao1 (by decide) (o_add (r := ((k + 1 : Nat) : Int)) rfl rfl (wrap64_ok (by omega) (by omega))) ?_
      refine ao1 (by decide) (o_assign (v := .int _ _) rfl) ?_
      refine ao_nil ?_
      repeat (refine then_nrm ?_)
      exact ⟨k + 1, by omega, by omega, (by repeat (first | exact Sub.nil | refine Sub.cons (by rfl) ?_)), .inl rfl⟩
    · repeat (first | refine then_nrm ?_ | refine blk_nrm ?_ | refine then_brk ?_ | refine blk_hit ?_ | refine aw_exit ?_)
      refine aw_region ?_
      refine ao1 (by decide) (o_move (v := .int _ _) rfl) ?_
      refine ao1 (by decide) (o_add (r := ((i + 1 : Nat) : Int)) rfl rfl (wrap64_ok (by omega) (by omega))) ?_
      refine ao1 (by decide) (o_assign (v := .int _ _) rfl) ?_
      refine ao_nil ?_
      repeat (refine then_nrm ?_)
      exact ⟨i + 1, by omega, by omega, (by repeat (first | exact Sub.nil | refine Sub.cons (by rfl) ?_)), .inl rfl⟩
  · repeat (first | refine then_nrm ?_ | refine then_brk ?_ | refine blk_hit ?_ | refine aw_seq ?_ | refine aw_exit ?_)
    refine aw_region ?_
    refine ao1 (by decide) (o_assign (v := .bool _) rfl) ?_
    refine ao_nil ?_
    repeat (first | refine then_nrm ?_ | refine aw_ret ?_)
    exact e_done hB (r_tmp rfl .nil) rfl rfl
end Go.Av

/-
  Specs, lists and bytes, once they are read.
-/
namespace Go.Av
open Go.Proofs
set_option linter.unusedVariables false
theorem spec_dec {r : List AV} (h : RowIs Try.prog 4 [3, 3, 3, 9, 4, 2, 3] r) : ∃ s : Spec, r = eSpec s ∧ s.tag.size ≤ 9223372036854775807 := by
  obtain ⟨a1, r, rfl, h1, h⟩ := row_cons h
  obtain ⟨a2, r, rfl, h2, h⟩ := row_cons h
  obtain ⟨a3, r, rfl, h3, h⟩ := row_cons h
  obtain ⟨a4, r, rfl, h4, h⟩ := row_cons h
  obtain ⟨a5, r, rfl, h5, h⟩ := row_cons h
  obtain ⟨a6, r, rfl, h6, h⟩ := row_cons h
  obtain ⟨a7, r, rfl, h7, h⟩ := row_cons h
  obtain rfl := row_nil h
  obtain ⟨i1, rfl, _⟩ := cell_int (UdI.ud (P := Try.prog) (t := 3)) h1
  obtain ⟨i2, rfl, _⟩ := cell_int (UdI.ud (P := Try.prog) (t := 3)) h2
  obtain ⟨i3, rfl, _⟩ := cell_int (UdI.ud (P := Try.prog) (t := 3)) h3
  obtain ⟨i4, rfl, w4⟩ := cell_str (UdI.ud (P := Try.prog) (t := 9)) h4
  obtain ⟨i5, rfl⟩ := cell_bool (UdI.ud (P := Try.prog) (t := 4)) h5
  obtain ⟨i6, rfl, _⟩ := cell_int (UdI.ud (P := Try.prog) (t := 2)) h6
  obtain ⟨i7, rfl, _⟩ := cell_int (UdI.ud (P := Try.prog) (t := 3)) h7
  exact ⟨⟨i1, i2, i3, i4, i5, i6, i7⟩, rfl, w4⟩
theorem ints_dec {a : AV} (h : CellOk Try.prog 4 24 a) : ∃ l : List Int, a = .pl (l.map eInt) := by
  obtain ⟨rows, rfl, _, h3⟩ := cell_sl (SlI.ud (P := Try.prog) (t := 24)) (by kernel_rfl : cellTys Try.prog 4 3 = some [3]) h
  obtain ⟨l, rfl⟩ := rows_map (e := eInt) fun r hr => by
    have h := h3 r hr
    obtain ⟨a1, r, rfl, h1, h⟩ := row_cons h
    obtain rfl := row_nil h
    obtain ⟨i1, rfl, _⟩ := cell_int (UdI.ud (P := Try.prog) (t := 3)) h1
    exact ⟨i1, rfl⟩
  exact ⟨l, rfl⟩
theorem bytes_dec {a : AV} (h : CellOk Try.prog 4 28 a) : ∃ b : List UInt8, a = .pl (b.map brow) := cell_bytes (SlI.ud (P := Try.prog) (t := 28)) (UdI.ud (P := Try.prog) (t := 5)) h
theorem parts_dec {a : AV} (h : CellOk Try.prog 4 26 a) : ∃ l : List (List UInt8), a = .pl (l.map eB) := by
  obtain ⟨rows, rfl, _, h3⟩ := cell_sl (SlI.ud (P := Try.prog) (t := 26)) (by kernel_rfl : cellTys Try.prog 4 28 = some [28]) h
  obtain ⟨l, rfl⟩ := rows_map (e := eB) fun r hr => by
    have h := h3 r hr
    obtain ⟨a1, r, rfl, h1, h⟩ := row_cons h
    obtain rfl := row_nil h
    obtain ⟨b, rfl⟩ := cell_bytes (SlI.ud (P := Try.prog) (t := 28)) (UdI.ud (P := Try.prog) (t := 5)) h1
    exact ⟨b, rfl⟩
  exact ⟨l, rfl⟩
end Go.Av

