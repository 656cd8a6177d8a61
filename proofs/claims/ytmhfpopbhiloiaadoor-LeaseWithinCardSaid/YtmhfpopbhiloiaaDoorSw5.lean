/-
  A LENDER AND A BORROWER, and their notes on the way, in order: what the borrower has is among what the lender counts as lent. Plainly.
-/
import Derived.Test.YtmhfpopbhiloiaaDoorSw4
namespace Go.Av
structure WS where
  a : Loan
  b : Loan
  down : List Note
  up : List Note
  now : Int
/-- What is on the way of one thing. -/
def dg (x : Nat) (l : List Note) : List Int := (l.filter fun n => inl n.things x).map (·.kind)
def ug (x : Nat) (l : List Note) : Nat := (l.filter fun n => inl n.things x).length
def Cfg (A S B : Bool) (d : List Int) (u : Nat) : Prop :=
  (A = false ∧ S = false ∧ B = false ∧ d = [] ∧ u = 0) ∨
  (A = true ∧ S = false ∧ u = 0 ∧ ((d = [1] ∧ B = false) ∨ d = [])) ∨
  (A = true ∧ S = true ∧ u = 0 ∧ ((d = [1, 2] ∧ B = false) ∨ d = [2])) ∨
  (A = true ∧ S = true ∧ B = false ∧ d = [] ∧ u = 1)
theorem dg_snoc (x : Nat) (l : List Note) (n : Note) : dg x (l ++ [n]) = dg x l ++ if inl n.things x then [n.kind] else [] := by
  unfold dg
  rw [List.filter_append, List.map_append]
  congr 1
  by_cases h : inl n.things x = true
  · simp [List.filter_cons, h]
  · simp [List.filter_cons, h]
theorem dg_cons (x : Nat) (l : List Note) (n : Note) : dg x (n :: l) = (if inl n.things x then [n.kind] else []) ++ dg x l := by
  unfold dg
  by_cases h : inl n.things x = true
  · simp [List.filter_cons, h]
  · simp [List.filter_cons, h]
theorem ug_snoc (x : Nat) (l : List Note) (n : Note) : ug x (l ++ [n]) = ug x l + if inl n.things x then 1 else 0 := by
  unfold ug
  rw [List.filter_append, List.length_append]
  congr 1
  by_cases h : inl n.things x = true
  · simp [List.filter_cons, h]
  · simp [List.filter_cons, h]
theorem ug_cons (x : Nat) (l : List Note) (n : Note) : ug x (n :: l) = (if inl n.things x then 1 else 0) + ug x l := by
  unfold ug
  by_cases h : inl n.things x = true
  · simp [List.filter_cons, h]; omega
  · simp [List.filter_cons, h]
structure WInv (k : Int) (s : WS) : Prop where
  ra : lright s.a = true
  rb : lright s.b = true
  ba : s.b.asked = []
  dn : ∀ n ∈ s.down, lmay n = true ∧ (n.kind = 1 ∨ n.kind = 2 ∨ (n.kind = 4 ∧ n.til ≤ s.a.til))
  un : ∀ n ∈ s.up, lmay n = true ∧ n.kind = 3
  tt : s.b.til ≤ s.a.til
  bo : s.b.til ≤ s.now → s.b.things = []
  n0 : 0 ≤ s.now
  nk : s.now ≤ 255 * k
  cfg : s.now < s.a.til → ∀ x, Cfg (inl s.a.things x) (inl s.a.asked x) (inl s.b.things x) (dg x s.down) (ug x s.up)
theorem WInv.mono {k k' : Int} {s : WS} (h : WInv k s) (hk : k ≤ k') : WInv k' s := { h with nk := Int.le_trans h.nk (by omega) }
theorem tm_iff {t : Int} : tm t = true ↔ 0 ≤ t ∧ t ≤ 4611686018427387904 := by simp [tm]
theorem WInv.start (u : Int) (h0 : 0 ≤ u) (h1 : u ≤ 255) : WInv 0 ⟨⟨[], [], u⟩, ⟨[], [], u⟩, [], [], 0⟩ := by
  have r : lright ⟨[], [], u⟩ = true := lright_iff.2 ⟨sok_nil, sok_nil, (fun n hn => by cases hn), tm_iff.2 ⟨h0, by show u ≤ _; omega⟩⟩
  exact ⟨r, r, rfl, (fun n hn => by cases hn), (fun n hn => by cases hn), Int.le_refl _, fun _ => rfl, Int.le_refl _, by show (0 : Int) ≤ _; omega, fun _ x => .inl ⟨rfl, rfl, rfl, rfl, rfl⟩⟩
/-- What holds of every state. -/
theorem WInv.part {k : Int} {s : WS} (h : WInv k s) : spart s.b.things s.a.things = true := by
  refine spart_iff.2 ⟨(lright_iff.1 h.rb).1, (lright_iff.1 h.ra).1, fun x hx => ?_⟩
  by_cases ho : s.now < s.a.til
  · rcases h.cfg ho x with ⟨_, _, e, _⟩ | ⟨e, _⟩ | ⟨e, _⟩ | ⟨e, _⟩
    · rw [e] at hx; cases hx
    all_goals exact e
  · rw [h.bo (Int.le_trans h.tt (by omega))] at hx; cases hx
theorem lend_zero {l : Loan} {n : Note} {now : Int} (he : (lend l n now).2.2 = 0) : lopen l now (lmay n) = 0 := by
  cases hh : decide (lopen l now (lmay n) = 0) with
  | true => exact of_decide_eq_true hh
  | false => rw [lend_open (of_decide_eq_false hh)] at he; exact he
theorem lmay_set {n : Note} (h : lmay n = true) (hk : n.kind = 1 ∨ n.kind = 2 ∨ n.kind = 3) : sok n.things = true ∧ n.til = 0 ∧ 0 < n.things.length := by
  unfold lmay at h
  rw [if_pos hk] at h
  simp at h
  exact ⟨h.2, h.1.1, h.1.2⟩
theorem lmay_til {n : Note} (h : lmay n = true) (hk : n.kind = 4) : tm n.til = true ∧ n.things = [] := by
  unfold lmay at h
  rw [if_neg (by omega), if_pos hk] at h
  simp [List.length_eq_zero_iff] at h
  exact h
/-- The lender gives, asks or tells. -/
theorem WInv.lend {k : Int} {s : WS} (h : WInv k s) {n : Note} (hk : n.kind = 1 ∨ n.kind = 2 ∨ n.kind = 4) (he : (lend s.a n s.now).2.2 = 0) :
    (lend s.a n s.now).2.1 = n ∧ WInv k ⟨(lend s.a n s.now).1, s.b, s.down ++ [n], s.up, s.now⟩ := by
  have hop := lend_zero he
  obtain ⟨_, _, hm, hu⟩ := lopen_ok hop
  have ho : s.now < s.a.til := by omega
  obtain ⟨sA, sS, sub, tA⟩ := lright_iff.1 h.ra
  rw [lend_ok hop] at he ⊢
  have dn' : ∀ (t : Int), s.a.til ≤ t → (n.kind = 4 → n.til ≤ t) → ∀ m ∈ s.down ++ [n], lmay m = true ∧ (m.kind = 1 ∨ m.kind = 2 ∨ (m.kind = 4 ∧ m.til ≤ t)) := by
    intro t ht h4 m hm'
    rcases List.mem_append.1 hm' with h1 | h1
    · obtain ⟨k1, k2⟩ := h.dn m h1
      refine ⟨k1, ?_⟩
      rcases k2 with k2 | k2 | ⟨k2, k3⟩
      · exact .inl k2
      · exact .inr (.inl k2)
      · exact .inr (.inr ⟨k2, by omega⟩)
    · obtain rfl : m = n := by simpa using h1
      refine ⟨hm, ?_⟩
      rcases hk with k2 | k2 | k2
      · exact .inl k2
      · exact .inr (.inl k2)
      · exact .inr (.inr ⟨k2, h4 k2⟩)
  rcases hk with hk | hk | hk
  · rw [if_pos hk] at he ⊢
    obtain ⟨sX, _, _⟩ := lmay_set hm (.inl hk)
    split at he
    · cases he
    rename_i hd
    rw [if_neg hd]
    refine ⟨rfl, ?_⟩
    have hdis := (setop_nil (op := fun x y => x && y) sA sX rfl).1 (pos_nil hd)
    have iT := inl_setop (op := fun x y => x || y) sA sX rfl
    refine ⟨lright_iff.2 ⟨sok_setop _ _ _, sS, fun x hx => ?_, tA⟩, h.rb, h.ba, dn' _ (Int.le_refl _) (by omega), h.un, h.tt, h.bo, h.n0, h.nk, fun _ x => ?_⟩
    · show inl (setop (fun x y => x || y) s.a.things n.things) x = true
      rw [iT, sub x hx]; rfl
    · show Cfg (inl (setop (fun x y => x || y) s.a.things n.things) x) (inl s.a.asked x) (inl s.b.things x) (dg x (s.down ++ [n])) (ug x s.up)
      rw [iT, dg_snoc, hk]
      have hc := h.cfg ho x
      have hdx := hdis x
      cases hX : inl n.things x with
      | false => rw [Bool.or_false, if_neg (by simp), List.append_nil]; exact hc
      | true =>
        rw [hX, Bool.and_true] at hdx
        rw [hdx] at hc
        rw [Bool.or_true, if_pos rfl]
        rcases hc with ⟨_, e1, e2, e3, e4⟩ | ⟨e, _⟩ | ⟨e, _⟩ | ⟨e, _⟩
        · exact .inr (.inl ⟨rfl, e1, e4, .inl ⟨by rw [e3]; rfl, e2⟩⟩)
        all_goals cases e
  · rw [if_neg (by omega), if_pos hk] at he ⊢
    obtain ⟨sX, _, _⟩ := lmay_set hm (.inr (.inl hk))
    split at he
    · cases he
    rename_i hd1
    split at he
    · cases he
    rename_i hd2
    rw [if_neg hd1, if_neg hd2]
    refine ⟨rfl, ?_⟩
    have hin := (setop_nil (op := fun x y => x && !y) sX sA rfl).1 (pos_nil hd1)
    have hdis := (setop_nil (op := fun x y => x && y) sX sS rfl).1 (pos_nil hd2)
    have iT := inl_setop (op := fun x y => x || y) sS sX rfl
    refine ⟨lright_iff.2 ⟨sA, sok_setop _ _ _, fun x hx => ?_, tA⟩, h.rb, h.ba, dn' _ (Int.le_refl _) (by omega), h.un, h.tt, h.bo, h.n0, h.nk, fun _ x => ?_⟩
    · have hx' : inl (setop (fun x y => x || y) s.a.asked n.things) x = true := hx
      show inl s.a.things x = true
      rw [iT] at hx'
      have := hin x
      cases hS : inl s.a.asked x with
      | true => exact sub x hS
      | false =>
        rw [hS, Bool.false_or] at hx'
        rw [hx'] at this
        simpa using this
    · show Cfg (inl s.a.things x) (inl (setop (fun x y => x || y) s.a.asked n.things) x) (inl s.b.things x) (dg x (s.down ++ [n])) (ug x s.up)
      rw [iT, dg_snoc, hk]
      have hc := h.cfg ho x
      have hdx := hdis x
      have hix := hin x
      cases hX : inl n.things x with
      | false => rw [Bool.or_false, if_neg (by simp), List.append_nil]; exact hc
      | true =>
        rw [hX, Bool.true_and] at hdx hix
        have hA : inl s.a.things x = true := by simpa using hix
        rw [hdx, hA] at hc
        rw [hA, Bool.or_true, if_pos rfl]
        rcases hc with ⟨e, _⟩ | ⟨_, _, e1, e2⟩ | ⟨_, e, _⟩ | ⟨_, e, _⟩
        · cases e
        · refine .inr (.inr (.inl ⟨rfl, rfl, e1, ?_⟩))
          rcases e2 with ⟨e2, e3⟩ | e2
          · exact .inl ⟨by rw [e2]; rfl, e3⟩
          · exact .inr (by rw [e2]; rfl)
        all_goals cases e
  · rw [if_neg (by omega), if_neg (by omega)] at he ⊢
    split at he
    · cases he
    rename_i hd
    rw [if_neg hd]
    refine ⟨rfl, ?_⟩
    obtain ⟨tn, hX⟩ := lmay_til hm hk
    refine ⟨lright_iff.2 ⟨sA, sS, sub, tn⟩, h.rb, h.ba, dn' n.til (by omega) (fun _ => Int.le_refl _), h.un, ?_, h.bo, h.n0, h.nk, fun _ x => ?_⟩
    · have := h.tt; show s.b.til ≤ n.til; omega
    · show Cfg (inl s.a.things x) (inl s.a.asked x) (inl s.b.things x) (dg x (s.down ++ [n])) (ug x s.up)
      rw [dg_snoc, hX, inl_nil, if_neg (by simp), List.append_nil]
      exact h.cfg ho x
/-- The borrower hears the next note. -/
theorem WInv.hear {k : Int} {s : WS} (h : WInv k s) (hk : k ≤ 120) {n : Note} {rest : List Note} (hd : s.down = n :: rest) :
    WInv k ⟨s.a, (hear s.b n s.now).1, rest, if (hear s.b n s.now).2.2 then s.up ++ [(hear s.b n s.now).2.1] else s.up, s.now⟩ := by
  obtain ⟨hm, hkind⟩ := h.dn n (by rw [hd]; exact List.mem_cons_self)
  have tn : tm s.now = true := tm_iff.2 ⟨h.n0, by have := h.nk; omega⟩
  have hok : hok s.b n s.now = true := by simp [hok, h.rb, h.ba, hm, tn]
  have dn' : ∀ m ∈ rest, lmay m = true ∧ (m.kind = 1 ∨ m.kind = 2 ∨ (m.kind = 4 ∧ m.til ≤ s.a.til)) := fun m hm => h.dn m (by rw [hd]; exact List.mem_cons_of_mem _ hm)
  obtain ⟨sB, sBa, subB, tB⟩ := lright_iff.1 h.rb
  have cfg0 : s.now < s.a.til → ∀ x, Cfg (inl s.a.things x) (inl s.a.asked x) (inl s.b.things x) ((if inl n.things x then [n.kind] else []) ++ dg x rest) (ug x s.up) := fun ho x => by
    have := h.cfg ho x
    rwa [hd, dg_cons] at this
  rw [Av.hear, if_neg (by rw [hok]; simp)]
  rcases hkind with hkd | hkd | ⟨hkd, htil⟩
  · obtain ⟨sX, _, _⟩ := lmay_set hm (.inl hkd)
    rw [if_pos hkd]
    rw [hkd] at cfg0
    by_cases hn : s.now < s.b.til
    · rw [if_pos hn]
      simp only [Bool.false_eq_true, if_false]
      have iT := inl_setop (op := fun x y => x || y) sB sX rfl
      refine ⟨h.ra, lright_iff.2 ⟨sok_setop _ _ _, sBa, (fun x hx => by rw [h.ba] at hx; cases hx), tB⟩, h.ba, dn', h.un, h.tt, ?_, h.n0, h.nk, fun ho x => ?_⟩
      · intro hle; have hle' : s.b.til ≤ s.now := hle; omega
      · show Cfg (inl s.a.things x) (inl s.a.asked x) (inl (setop (fun x y => x || y) s.b.things n.things) x) (dg x rest) (ug x s.up)
        have hc := cfg0 ho x
        rw [iT]
        cases hX : inl n.things x with
        | false => rw [hX, if_neg (by simp), List.nil_append] at hc; rw [Bool.or_false]; exact hc
        | true =>
          rw [hX, if_pos rfl] at hc
          rcases hc with ⟨_, _, _, e, _⟩ | ⟨e1, e2, e3, e4⟩ | ⟨e1, e2, e3, e4⟩ | ⟨_, _, _, e, _⟩
          · cases e
          · rcases e4 with ⟨e4, _⟩ | e4
            · exact .inr (.inl ⟨e1, e2, e3, .inr (by simpa using e4)⟩)
            · cases e4
          · rcases e4 with ⟨e4, _⟩ | e4
            · exact .inr (.inr (.inl ⟨e1, e2, e3, .inr (by simpa using e4)⟩))
            · simp at e4
          · cases e
    · rw [if_neg hn]
      simp only [Bool.false_eq_true, if_false]
      refine ⟨h.ra, h.rb, h.ba, dn', h.un, h.tt, h.bo, h.n0, h.nk, fun ho x => ?_⟩
      have hc := cfg0 ho x
      cases hX : inl n.things x with
      | false => rw [hX, if_neg (by simp), List.nil_append] at hc; exact hc
      | true =>
        rw [hX, if_pos rfl] at hc
        rcases hc with ⟨_, _, _, e, _⟩ | ⟨e1, e2, e3, e4⟩ | ⟨e1, e2, e3, e4⟩ | ⟨_, _, _, e, _⟩
        · cases e
        · rcases e4 with ⟨e4, _⟩ | e4
          · exact .inr (.inl ⟨e1, e2, e3, .inr (by simpa using e4)⟩)
          · cases e4
        · rcases e4 with ⟨e4, _⟩ | e4
          · exact .inr (.inr (.inl ⟨e1, e2, e3, .inr (by simpa using e4)⟩))
          · simp at e4
        · cases e
  · obtain ⟨sX, _, hX0⟩ := lmay_set hm (.inr (.inl hkd))
    rw [if_neg (by omega), if_pos hkd]
    rw [hkd] at cfg0
    simp only [if_true]
    have iT := inl_setop (op := fun x y => x && !y) sB sX rfl
    have hX0' : ¬ n.things.length = 0 := by omega
    have sB' : sok (setop (fun x y => x && !y) s.b.things n.things) = true := sok_setop _ _ _
    refine ⟨h.ra, lright_iff.2 ⟨sB', sBa, (fun x hx => by rw [h.ba] at hx; cases hx), tB⟩, h.ba, dn', ?_, h.tt, ?_, h.n0, h.nk, fun ho x => ?_⟩
    · intro m hm'
      rcases List.mem_append.1 hm' with h1 | h1
      · exact h.un m h1
      · obtain rfl : m = ⟨3, n.things, 0⟩ := by simpa using h1
        exact ⟨by simp [lmay, sX, hX0], rfl⟩
    · intro hle
      show setop (fun x y => x && !y) s.b.things n.things = []
      refine (setop_nil (op := fun x y => x && !y) sB sX rfl).2 fun x => ?_
      rw [h.bo hle, inl_nil, Bool.false_and]
    · show Cfg (inl s.a.things x) (inl s.a.asked x) (inl (setop (fun x y => x && !y) s.b.things n.things) x) (dg x rest) (ug x (s.up ++ [⟨3, n.things, 0⟩]))
      have hc := cfg0 ho x
      rw [iT, ug_snoc]
      show Cfg (inl s.a.things x) (inl s.a.asked x) (inl s.b.things x && !inl n.things x) (dg x rest) (ug x s.up + if inl n.things x = true then 1 else 0)
      cases hX : inl n.things x with
      | false => rw [hX, if_neg (by simp), List.nil_append] at hc; rw [if_neg (by simp), Nat.add_zero, Bool.not_false, Bool.and_true]; exact hc
      | true =>
        rw [hX, if_pos rfl] at hc
        rw [if_pos rfl, Bool.not_true, Bool.and_false]
        rcases hc with ⟨_, _, _, e, _⟩ | ⟨e1, e2, e3, e4⟩ | ⟨e1, e2, e3, e4⟩ | ⟨_, _, _, e, _⟩
        · cases e
        · rcases e4 with ⟨e4, _⟩ | e4
          · simp at e4
          · cases e4
        · rcases e4 with ⟨e4, _⟩ | e4
          · simp at e4
          · exact .inr (.inr (.inr ⟨e1, e2, rfl, by simpa using e4, by omega⟩))
        · cases e
  · obtain ⟨tn', hX⟩ := lmay_til hm hkd
    rw [if_neg (by omega), if_neg (by omega), if_pos hkd]
    simp only [Bool.false_eq_true, if_false]
    have htm : tm (max s.b.til n.til) = true := by
      rw [tm_iff] at tB tn' ⊢; omega
    refine ⟨h.ra, lright_iff.2 ⟨sB, sBa, subB, htm⟩, h.ba, dn', h.un, ?_, ?_, h.n0, h.nk, fun ho x => ?_⟩
    · have := h.tt; show max s.b.til n.til ≤ s.a.til; omega
    · intro hle
      have hle' : max s.b.til n.til ≤ s.now := hle
      exact h.bo (by omega)
    · have hc := cfg0 ho x
      rw [hX, inl_nil, if_neg (by simp), List.nil_append] at hc
      exact hc
/-- What comes back. -/
theorem WInv.back {k : Int} {s : WS} (h : WInv k s) {n : Note} {rest : List Note} (hd : s.up = n :: rest) :
    (lback s.a n).2 = 0 ∧ WInv k ⟨(lback s.a n).1, s.b, s.down, rest, s.now⟩ := by
  obtain ⟨hm, hkd⟩ := h.un n (by rw [hd]; exact List.mem_cons_self)
  obtain ⟨sX, _, _⟩ := lmay_set hm (.inr (.inr hkd))
  obtain ⟨sA, sS, sub, tA⟩ := lright_iff.1 h.ra
  rw [lback, if_neg (by simp [h.ra, hm, hkd])]
  refine ⟨rfl, ?_⟩
  have iA := inl_setop (op := fun x y => x && !y) sA sX rfl
  have iS := inl_setop (op := fun x y => x && !y) sS sX rfl
  have sS' : sok (setop (fun x y => x && !y) s.a.asked n.things) = true := sok_setop _ _ _
  have sA' : sok (setop (fun x y => x && !y) s.a.things n.things) = true := sok_setop _ _ _
  refine ⟨lright_iff.2 ⟨sA', sS', fun x hx => ?_, tA⟩, h.rb, h.ba, h.dn, fun m hm' => h.un m (by rw [hd]; exact List.mem_cons_of_mem _ hm'), h.tt, h.bo, h.n0, h.nk, fun ho x => ?_⟩
  · have hx' : inl (setop (fun x y => x && !y) s.a.asked n.things) x = true := hx
    show inl (setop (fun x y => x && !y) s.a.things n.things) x = true
    rw [iS, Bool.and_eq_true] at hx'
    rw [iA, sub x hx'.1, hx'.2]; rfl
  · show Cfg (inl (setop (fun x y => x && !y) s.a.things n.things) x) (inl (setop (fun x y => x && !y) s.a.asked n.things) x) (inl s.b.things x) (dg x s.down) (ug x rest)
    have hc := h.cfg ho x
    rw [hd, ug_cons] at hc
    rw [iA, iS]
    cases hX : inl n.things x with
    | false => rw [hX, if_neg (by simp), Nat.zero_add] at hc; rw [Bool.not_false, Bool.and_true, Bool.and_true]; exact hc
    | true =>
      rw [hX, if_pos rfl] at hc
      rw [Bool.not_true, Bool.and_false, Bool.and_false]
      rcases hc with ⟨_, _, _, _, e⟩ | ⟨_, _, e, _⟩ | ⟨_, _, e, _⟩ | ⟨e1, e2, e3, e4, e5⟩
      · omega
      · omega
      · omega
      · exact .inl ⟨rfl, rfl, e3, e4, by omega⟩
theorem plus_zero {u : Int} (h : tm u = true) : plus u 0 = u := by rw [tm_iff] at h; simp only [plus, near]; omega
theorem plus_ge {u g : Int} (h : tm u = true) (hg : 0 ≤ g) : u ≤ plus u g := by rw [tm_iff] at h; simp only [plus, near]; omega
theorem Cfg.lost {A S B : Bool} {d : List Int} {u : Nat} (h : Cfg A S B d u) : Cfg A S false d u := by
  rcases h with ⟨e1, e2, e3, e4, e5⟩ | ⟨e1, e2, e3, e4⟩ | ⟨e1, e2, e3, e4⟩ | ⟨e1, e2, e3, e4, e5⟩
  · exact .inl ⟨e1, e2, rfl, e4, e5⟩
  · exact .inr (.inl ⟨e1, e2, e3, e4.imp (fun e => ⟨e.1, rfl⟩) id⟩)
  · exact .inr (.inr (.inl ⟨e1, e2, e3, e4.imp (fun e => ⟨e.1, rfl⟩) id⟩))
  · exact .inr (.inr (.inr ⟨e1, e2, rfl, e4, e5⟩))
/-- The time goes on. -/
theorem WInv.tick {k : Int} {s : WS} (h : WInv k s) {d : Int} (h0 : 0 ≤ d) (h1 : d ≤ 255) : WInv (k + 1) ⟨s.a, lover s.b (s.now + d) 0, s.down, s.up, s.now + d⟩ := by
  obtain ⟨sB, sBa, subB, tB⟩ := lright_iff.1 h.rb
  have hn := h.nk
  have h00 := h.n0
  unfold lover
  rw [plus_zero tB]
  by_cases hle : s.b.til ≤ s.now + d
  · rw [if_pos ⟨h.rb, hle⟩]
    refine ⟨h.ra, lright_iff.2 ⟨sok_nil, sok_nil, (fun n hn => by cases hn), tB⟩, rfl, h.dn, h.un, h.tt, fun _ => rfl, by show 0 ≤ s.now + d; omega, by show s.now + d ≤ _; omega, fun ho x => ?_⟩
    have ho' : s.now + d < s.a.til := ho
    exact (h.cfg (by omega) x).lost
  · rw [if_neg (fun e => hle e.2)]
    refine ⟨h.ra, h.rb, h.ba, h.dn, h.un, h.tt, fun e => absurd e hle, by show 0 ≤ s.now + d; omega, by show s.now + d ≤ _; omega, fun ho x => ?_⟩
    have ho' : s.now + d < s.a.til := ho
    exact h.cfg (by omega) x
/-- The lender looks whether it is over. -/
theorem WInv.over {k : Int} {s : WS} (h : WInv k s) {g : Int} (hg : 0 ≤ g) : WInv k ⟨lover s.a s.now g, s.b, s.down, s.up, s.now⟩ := by
  obtain ⟨sA, sS, subA, tA⟩ := lright_iff.1 h.ra
  unfold lover
  by_cases hle : plus s.a.til g ≤ s.now
  · rw [if_pos ⟨h.ra, hle⟩]
    have := plus_ge tA hg
    refine ⟨lright_iff.2 ⟨sok_nil, sok_nil, (fun n hn => by cases hn), tA⟩, h.rb, h.ba, h.dn, h.un, h.tt, h.bo, h.n0, h.nk, fun ho x => ?_⟩
    have ho' : s.now < s.a.til := ho
    omega
  · rw [if_neg (fun e => hle e.2)]
    exact h
end Go.Av
