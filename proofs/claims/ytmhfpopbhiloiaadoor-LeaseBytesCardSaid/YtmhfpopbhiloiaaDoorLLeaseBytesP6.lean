/- Parts of the proof: rules for an abstract memory, plain laws, and walks through the program. -/
import Derived.Test.YtmhfpopbhiloiaaDoorLLeaseBytesP4
import Derived.Test.YtmhfpopbhiloiaaDoorLLeaseBytesP5
import Derived.Test.YtmhfpopbhiloiaaDoorLLeaseBytesP2
import Derived.DataReads
import Derived.ChangeOld
import Derived.WalkKit
import Derived.ProofKit
import Derived.OpenShut
import Derived.ShutString
import Derived.Below
import Derived.SizedLaws
import Derived.Carry
import Derived.Lib.LaidTab
import Derived.LaidMore
import Derived.Handed
import Derived.Test.YtmhfpopbhiloiaaDoorRows
/-
  LEASES, plainly: what is given, asked back and comes back.
-/
namespace Go.Av
theorem inl_setop {op : Bool → Bool → Bool} {a b : List Int} (ha : sok a = true) (hb : sok b = true) (hop : op false false = false) (n : Nat) : inl (setop op a b) n = op (inl a n) (inl b n) := by
  rw [setop, ha, hb, Bool.and_self, if_pos rfl, inl_setl]
  by_cases hn : n < 256
  · simp [hn]
  · have h1 : inl a n = false := by
      cases h : inl a n with
      | false => rfl
      | true => exact absurd (inl_256 ha h) hn
    have h2 : inl b n = false := by
      cases h : inl b n with
      | false => rfl
      | true => exact absurd (inl_256 hb h) hn
    rw [h1, h2, hop]; simp
theorem sok_setop (op : Bool → Bool → Bool) (a b : List Int) : sok (setop op a b) = true := by
  unfold setop
  split
  · exact sok_setl _
  · exact sok_nil
theorem setop_nil {op : Bool → Bool → Bool} {a b : List Int} (ha : sok a = true) (hb : sok b = true) (hop : op false false = false) : setop op a b = [] ↔ ∀ n, op (inl a n) (inl b n) = false := by
  constructor
  · intro h n
    rw [← inl_setop ha hb hop, h]; rfl
  · intro h
    rw [setop, ha, hb, Bool.and_self, if_pos rfl, setl_nil]
    exact fun n _ => h n
theorem spart_iff {a b : List Int} : spart a b = true ↔ sok a = true ∧ sok b = true ∧ ∀ n, inl a n = true → inl b n = true := by
  unfold spart
  rw [Bool.and_eq_true, Bool.and_eq_true, decide_eq_true_eq, setl_nil]
  constructor
  · rintro ⟨⟨h1, h2⟩, h3⟩
    refine ⟨h1, h2, fun n hn => ?_⟩
    have := h3 n (inl_256 h1 hn)
    simpa [hn] using this
  · rintro ⟨h1, h2, h3⟩
    refine ⟨⟨h1, h2⟩, fun n _ => ?_⟩
    cases ha : inl a n with
    | false => rfl
    | true => simp [h3 n ha]
theorem lright_iff {l : Loan} : lright l = true ↔ sok l.things = true ∧ sok l.asked = true ∧ (∀ n, inl l.asked n = true → inl l.things n = true) ∧ tm l.til = true := by
  unfold lright
  rw [Bool.and_eq_true, Bool.and_eq_true, spart_iff]
  constructor
  · rintro ⟨⟨h1, h2, _, h4⟩, h5⟩; exact ⟨h1, h2, h4, h5⟩
  · rintro ⟨h1, h2, h3, h4⟩; exact ⟨⟨h1, h2, h1, h3⟩, h4⟩
theorem pos_nil {l : List Int} (h : ¬ 0 < l.length) : l = [] := List.eq_nil_of_length_eq_zero (by omega)
/-- What is given, and all that becomes of it. -/
theorem turns {l : Loan} {X : List Int} {now : Int} (hA : l.asked = []) (he : (lend l ⟨1, X, 0⟩ now).2.2 = 0) :
    ∃ T : List Int, lend l ⟨1, X, 0⟩ now = (⟨T, [], l.til⟩, ⟨1, X, 0⟩, 0) ∧ hear l ⟨1, X, 0⟩ now = (⟨T, [], l.til⟩, noNote, false) ∧ lend ⟨T, [], l.til⟩ ⟨2, X, 0⟩ now = (⟨T, X, l.til⟩, ⟨2, X, 0⟩, 0) ∧
      hear ⟨T, [], l.til⟩ ⟨2, X, 0⟩ now = (l, ⟨3, X, 0⟩, true) ∧ lback ⟨T, X, l.til⟩ ⟨3, X, 0⟩ = (l, 0) ∧ T.length ≤ 256 ∧
      ∀ late, l.til ≤ late → late ≤ 4611686018427387904 → hear l ⟨1, X, 0⟩ late = (l, noNote, false) ∧ lover l late 0 = ⟨[], [], l.til⟩ := by
  obtain ⟨A, S, u⟩ := l
  simp only at hA
  subst hA
  have hop : lopen ⟨A, [], u⟩ now (lmay ⟨1, X, 0⟩) = 0 := by
    cases hh : decide (lopen ⟨A, [], u⟩ now (lmay ⟨1, X, 0⟩) = 0) with
    | true => exact of_decide_eq_true hh
    | false => rw [lend_open (of_decide_eq_false hh)] at he; exact he
  obtain ⟨hr, ht, hm, hu⟩ := lopen_ok hop
  rw [lend_ok hop] at he
  simp only [if_pos] at he
  have hd : ¬ 0 < (setop (fun x y => x && y) A X).length := by
    intro h
    rw [if_pos h] at he
    cases he
  have hX : 0 < X.length ∧ sok X = true := by rw [lmay1] at hm; simpa using hm
  obtain ⟨hX0, hX⟩ := hX
  obtain ⟨sA, -, -, tu⟩ := lright_iff.1 hr
  simp only at sA tu
  have hdis : ∀ n, (inl A n && inl X n) = false := (setop_nil (op := fun x y => x && y) sA hX rfl).1 (pos_nil hd)
  have sT := sok_setop (fun x y => x || y) A X
  have iT := inl_setop (op := fun x y => x || y) sA hX rfl
  have hlT := setop_len (fun x y => x || y) A X
  have m2 : lmay ⟨2, X, 0⟩ = true := by rw [lmay2]; simp [hX, hX0]
  have m3 : lmay ⟨3, X, 0⟩ = true := by simp [lmay, hX, hX0]
  have hX1 : ¬ X.length = 0 := by omega
  have e1 : lend ⟨A, [], u⟩ ⟨1, X, 0⟩ now = (⟨setop (fun x y => x || y) A X, [], u⟩, ⟨1, X, 0⟩, 0) := by rw [lend_ok hop, if_pos rfl, if_neg hd]
  generalize hT : setop (fun x y => x || y) A X = T at sT iT hlT e1
  have rT : lright ⟨T, [], u⟩ = true := lright_iff.2 ⟨sT, sok_nil, (fun n hn => by cases hn), tu⟩
  have rTX : lright ⟨T, X, u⟩ = true := lright_iff.2 ⟨sT, hX, (fun n hn => by
    show inl T n = true
    rw [iT, show inl X n = true from hn, Bool.or_true]), tu⟩
  have back : setop (fun x y => x && !y) T X = A := by
    refine sok_ext (sok_setop _ _ _) sA fun n => ?_
    rw [inl_setop sT hX rfl, iT]
    have := hdis n
    revert this
    cases inl A n <;> cases inl X n <;> simp
  have none : setop (fun x y => x && !y) X X = [] := (setop_nil (op := fun x y => x && !y) hX hX rfl).2 fun n => by cases inl X n <;> rfl
  have o2 : setop (fun x y => x && !y) X T = [] := (setop_nil (op := fun x y => x && !y) hX sT rfl).2 fun n => by
    rw [iT]; cases inl X n <;> simp
  have o3 : setop (fun x y => x && y) X [] = [] := (setop_nil (op := fun x y => x && y) hX sok_nil rfl).2 fun n => by rw [inl_nil, Bool.and_false]
  have o4 : setop (fun x y => x || y) [] X = X := sok_ext (sok_setop _ _ _) hX fun n => by rw [inl_setop (op := fun x y => x || y) sok_nil hX rfl, inl_nil, Bool.false_or]
  refine ⟨T, e1, ?_, ?_, ?_, ?_, hlT, ?_⟩
  · rw [hear, if_neg (by simp [hok, hr, hm, ht]), if_pos rfl, if_pos (by show now < u; have h : ¬ u ≤ now := hu; omega)]
    exact congrArg (fun t => ((⟨t, [], u⟩ : Loan), noNote, false)) hT
  · rw [lend, if_neg (by simp [rT, m2, ht]), if_neg hu, if_neg (by show ¬ (2 : Int) = 1; decide), if_pos rfl]
    simp only [o2, o3, o4, List.length_nil, Nat.lt_irrefl, if_false]
  · rw [hear, if_neg (by simp [hok, rT, m2, ht]), if_neg (by show ¬ (2 : Int) = 1; decide), if_pos rfl]
    simp only [back]
  · rw [lback, if_neg (by simp [rTX, m3])]
    simp only [back, none]
  · intro late h1 h2
    have tl : tm late = true := by simp [tm] at tu ⊢; simp only at h1; omega
    constructor
    · rw [hear, if_neg (by simp [hok, hr, hm, tl]), if_pos rfl, if_neg (by show ¬ late < u; simp only at h1; omega)]
    · have : plus u 0 = u := by simp [tm] at tu; simp only [plus, near]; omega
      rw [lover, if_pos ⟨hr, by rw [show plus (Loan.mk A [] u).til 0 = u from this]; exact h1⟩]
end Go.Av

/-
  A LENDER AND A BORROWER, and their notes on the way, in order: what the borrower has is among what the lender counts as1 lent. Plainly.
-/
namespace Go.Av
structure WS where
  a : Loan
  b : Loan
  down : List Note
  up : List Note
  now : Int
/-- What is on the way of one thing. -/
def dg (x : Nat) (l : List Note) : List Int := (l.filter fun n => inl n.things x).map (·.kind)
def ug (x : Nat) (l : List Note) : Nat := (l.filter fun n => inl n.things x).length
def Cfg (A S B : Bool) (d : List Int) (u : Nat) : Prop :=
  (A = false ∧ S = false ∧ B = false ∧ d = [] ∧ u = 0) ∨
  (A = true ∧ S = false ∧ u = 0 ∧ ((d = [1] ∧ B = false) ∨ d = [])) ∨
  (A = true ∧ S = true ∧ u = 0 ∧ ((d = [1, 2] ∧ B = false) ∨ d = [2])) ∨
  (A = true ∧ S = true ∧ B = false ∧ d = [] ∧ u = 1)
theorem dg_snoc (x : Nat) (l : List Note) (n : Note) : dg x (l ++ [n]) = dg x l ++ if inl n.things x then [n.kind] else [] := by
  unfold dg
  rw [List.filter_append, List.map_append]
  congr 1
  by_cases h : inl n.things x = true
  · simp [List.filter_cons, h]
  · simp [List.filter_cons, h]
theorem dg_cons (x : Nat) (l : List Note) (n : Note) : dg x (n :: l) = (if inl n.things x then [n.kind] else []) ++ dg x l := by
  unfold dg
  by_cases h : inl n.things x = true
  · simp [List.filter_cons, h]
  · simp [List.filter_cons, h]
theorem ug_snoc (x : Nat) (l : List Note) (n : Note) : ug x (l ++ [n]) = ug x l + if inl n.things x then 1 else 0 := by
  unfold ug
  rw [List.filter_append, List.length_append]
  congr 1
  by_cases h : inl n.things x = true
  · simp [List.filter_cons, h]
  · simp [List.filter_cons, h]
theorem ug_cons (x : Nat) (l : List Note) (n : Note) : ug x (n :: l) = (if inl n.things x then 1 else 0) + ug x l := by
  unfold ug
  by_cases h : inl n.things x = true
  · simp [List.filter_cons, h]; omega
  · simp [List.filter_cons, h]
structure WInv (k : Int) (s : WS) : Prop where
  ra : lright s.a = true
  rb : lright s.b = true
  ba : s.b.asked = []
  dn : ∀ n ∈ s.down, lmay n = true ∧ (n.kind = 1 ∨ n.kind = 2 ∨ (n.kind = 4 ∧ n.til ≤ s.a.til))
  un : ∀ n ∈ s.up, lmay n = true ∧ n.kind = 3
  tt : s.b.til ≤ s.a.til
  bo : s.b.til ≤ s.now → s.b.things = []
  n0 : 0 ≤ s.now
  nk : s.now ≤ 255 * k
  cfg : s.now < s.a.til → ∀ x, Cfg (inl s.a.things x) (inl s.a.asked x) (inl s.b.things x) (dg x s.down) (ug x s.up)
theorem WInv.mono {k k' : Int} {s : WS} (h : WInv k s) (hk : k ≤ k') : WInv k' s := { h with nk := Int.le_trans h.nk (by omega) }
theorem tm_iff {t : Int} : tm t = true ↔ 0 ≤ t ∧ t ≤ 4611686018427387904 := by simp [tm]
theorem WInv.start (u : Int) (h0 : 0 ≤ u) (h1 : u ≤ 255) : WInv 0 ⟨⟨[], [], u⟩, ⟨[], [], u⟩, [], [], 0⟩ := by
  have r : lright ⟨[], [], u⟩ = true := lright_iff.2 ⟨sok_nil, sok_nil, (fun n hn => by cases hn), tm_iff.2 ⟨h0, by show u ≤ _; omega⟩⟩
  exact ⟨r, r, rfl, (fun n hn => by cases hn), (fun n hn => by cases hn), Int.le_refl _, fun _ => rfl, Int.le_refl _, by show (0 : Int) ≤ _; omega, fun _ x => .inl ⟨rfl, rfl, rfl, rfl, rfl⟩⟩
/-- What holds of every state. -/
theorem WInv.part {k : Int} {s : WS} (h : WInv k s) : spart s.b.things s.a.things = true := by
  refine spart_iff.2 ⟨(lright_iff.1 h.rb).1, (lright_iff.1 h.ra).1, fun x hx => ?_⟩
  by_cases ho : s.now < s.a.til
  · rcases h.cfg ho x with ⟨_, _, e, _⟩ | ⟨e, _⟩ | ⟨e, _⟩ | ⟨e, _⟩
    · rw [e] at hx; cases hx
    all_goals exact e
  · rw [h.bo (Int.le_trans h.tt (by omega))] at hx; cases hx
theorem lend_zero {l : Loan} {n : Note} {now : Int} (he : (lend l n now).2.2 = 0) : lopen l now (lmay n) = 0 := by
  cases hh : decide (lopen l now (lmay n) = 0) with
  | true => exact of_decide_eq_true hh
  | false => rw [lend_open (of_decide_eq_false hh)] at he; exact he
theorem lmay_set {n : Note} (h : lmay n = true) (hk : n.kind = 1 ∨ n.kind = 2 ∨ n.kind = 3) : sok n.things = true ∧ n.til = 0 ∧ 0 < n.things.length := by
  unfold lmay at h
  rw [if_pos hk] at h
  simp at h
  exact ⟨h.2, h.1.1, h.1.2⟩
theorem lmay_til {n : Note} (h : lmay n = true) (hk : n.kind = 4) : tm n.til = true ∧ n.things = [] := by
  unfold lmay at h
  rw [if_neg (by omega), if_pos hk] at h
  simp [List.length_eq_zero_iff] at h
  exact h
/-- The lender gives, asks or tells. -/
theorem WInv.lend {k : Int} {s : WS} (h : WInv k s) {n : Note} (hk : n.kind = 1 ∨ n.kind = 2 ∨ n.kind = 4) (he : (lend s.a n s.now).2.2 = 0) :
    (lend s.a n s.now).2.1 = n ∧ WInv k ⟨(lend s.a n s.now).1, s.b, s.down ++ [n], s.up, s.now⟩ := by
  have hop := lend_zero he
  obtain ⟨_, _, hm, hu⟩ := lopen_ok hop
  have ho : s.now < s.a.til := by omega
  obtain ⟨sA, sS, sub, tA⟩ := lright_iff.1 h.ra
  rw [lend_ok hop] at he ⊢
  have dn' : ∀ (t : Int), s.a.til ≤ t → (n.kind = 4 → n.til ≤ t) → ∀ m ∈ s.down ++ [n], lmay m = true ∧ (m.kind = 1 ∨ m.kind = 2 ∨ (m.kind = 4 ∧ m.til ≤ t)) := by
    intro t ht h4 m hm'
    rcases List.mem_append.1 hm' with h1 | h1
    · obtain ⟨k1, k2⟩ := h.dn m h1
      refine ⟨k1, ?_⟩
      rcases k2 with k2 | k2 | ⟨k2, k3⟩
      · exact .inl k2
      · exact .inr (.inl k2)
      · exact .inr (.inr ⟨k2, by omega⟩)
    · obtain rfl : m = n := by simpa using h1
      refine ⟨hm, ?_⟩
      rcases hk with k2 | k2 | k2
      · exact .inl k2
      · exact .inr (.inl k2)
      · exact .inr (.inr ⟨k2, h4 k2⟩)
  rcases hk with hk | hk | hk
  · rw [if_pos hk] at he ⊢
    obtain ⟨sX, _, _⟩ := lmay_set hm (.inl hk)
    split at he
    · cases he
    rename_i hd
    rw [if_neg hd]
    refine ⟨rfl, ?_⟩
    have hdis := (setop_nil (op := fun x y => x && y) sA sX rfl).1 (pos_nil hd)
    have iT := inl_setop (op := fun x y => x || y) sA sX rfl
    refine ⟨lright_iff.2 ⟨sok_setop _ _ _, sS, fun x hx => ?_, tA⟩, h.rb, h.ba, dn' _ (Int.le_refl _) (by omega), h.un, h.tt, h.bo, h.n0, h.nk, fun _ x => ?_⟩
    · show inl (setop (fun x y => x || y) s.a.things n.things) x = true
      rw [iT, sub x hx]; rfl
    · show Cfg (inl (setop (fun x y => x || y) s.a.things n.things) x) (inl s.a.asked x) (inl s.b.things x) (dg x (s.down ++ [n])) (ug x s.up)
      rw [iT, dg_snoc, hk]
      have hc := h.cfg ho x
      have hdx := hdis x
      cases hX : inl n.things x with
      | false => rw [Bool.or_false, if_neg (by simp), List.append_nil]; exact hc
      | true =>
        rw [hX, Bool.and_true] at hdx
        rw [hdx] at hc
        rw [Bool.or_true, if_pos rfl]
        rcases hc with ⟨_, e1, e2, e3, e4⟩ | ⟨e, _⟩ | ⟨e, _⟩ | ⟨e, _⟩
        · exact .inr (.inl ⟨rfl, e1, e4, .inl ⟨by rw [e3]; rfl, e2⟩⟩)
        all_goals cases e
  · rw [if_neg (by omega), if_pos hk] at he ⊢
    obtain ⟨sX, _, _⟩ := lmay_set hm (.inr (.inl hk))
    split at he
    · cases he
    rename_i hd1
    split at he
    · cases he
    rename_i hd2
    rw [if_neg hd1, if_neg hd2]
    refine ⟨rfl, ?_⟩
    have hin := (setop_nil (op := fun x y => x && !y) sX sA rfl).1 (pos_nil hd1)
    have hdis := (setop_nil (op := fun x y => x && y) sX sS rfl).1 (pos_nil hd2)
    have iT := inl_setop (op := fun x y => x || y) sS sX rfl
    refine ⟨lright_iff.2 ⟨sA, sok_setop _ _ _, fun x hx => ?_, tA⟩, h.rb, h.ba, dn' _ (Int.le_refl _) (by omega), h.un, h.tt, h.bo, h.n0, h.nk, fun _ x => ?_⟩
    · have hx' : inl (setop (fun x y => x || y) s.a.asked n.things) x = true := hx
      show inl s.a.things x = true
      rw [iT] at hx'
      have := hin x
      cases hS : inl s.a.asked x with
      | true => exact sub x hS
      | false =>
        rw [hS, Bool.false_or] at hx'
        rw [hx'] at this
        simpa using this
    · show Cfg (inl s.a.things x) (inl (setop (fun x y => x || y) s.a.asked n.things) x) (inl s.b.things x) (dg x (s.down ++ [n])) (ug x s.up)
      rw [iT, dg_snoc, hk]
      have hc := h.cfg ho x
      have hdx := hdis x
      have hix := hin x
      cases hX : inl n.things x with
      | false => rw [Bool.or_false, if_neg (by simp), List.append_nil]; exact hc
      | true =>
        rw [hX, Bool.true_and] at hdx hix
        have hA : inl s.a.things x = true := by simpa using hix
        rw [hdx, hA] at hc
        rw [hA, Bool.or_true, if_pos rfl]
        rcases hc with ⟨e, _⟩ | ⟨_, _, e1, e2⟩ | ⟨_, e, _⟩ | ⟨_, e, _⟩
        · cases e
        · refine .inr (.inr (.inl ⟨rfl, rfl, e1, ?_⟩))
          rcases e2 with ⟨e2, e3⟩ | e2
          · exact .inl ⟨by rw [e2]; rfl, e3⟩
          · exact .inr (by rw [e2]; rfl)
        all_goals cases e
  · rw [if_neg (by omega), if_neg (by omega)] at he ⊢
    split at he
    · cases he
    rename_i hd
    rw [if_neg hd]
    refine ⟨rfl, ?_⟩
    obtain ⟨tn, hX⟩ := lmay_til hm hk
    refine ⟨lright_iff.2 ⟨sA, sS, sub, tn⟩, h.rb, h.ba, dn' n.til (by omega) (fun _ => Int.le_refl _), h.un, ?_, h.bo, h.n0, h.nk, fun _ x => ?_⟩
    · have := h.tt; show s.b.til ≤ n.til; omega
    · show Cfg (inl s.a.things x) (inl s.a.asked x) (inl s.b.things x) (dg x (s.down ++ [n])) (ug x s.up)
      rw [dg_snoc, hX, inl_nil, if_neg (by simp), List.append_nil]
      exact h.cfg ho x
/-- The borrower hears the next note. -/
theorem WInv.hear {k : Int} {s : WS} (h : WInv k s) (hk : k ≤ 120) {n : Note} {rest : List Note} (hd : s.down = n :: rest) :
    WInv k ⟨s.a, (hear s.b n s.now).1, rest, if (hear s.b n s.now).2.2 then s.up ++ [(hear s.b n s.now).2.1] else s.up, s.now⟩ := by
  obtain ⟨hm, hkind⟩ := h.dn n (by rw [hd]; exact List.mem_cons_self)
  have tn : tm s.now = true := tm_iff.2 ⟨h.n0, by have := h.nk; omega⟩
  have hok : hok s.b n s.now = true := by simp [hok, h.rb, h.ba, hm, tn]
  have dn' : ∀ m ∈ rest, lmay m = true ∧ (m.kind = 1 ∨ m.kind = 2 ∨ (m.kind = 4 ∧ m.til ≤ s.a.til)) := fun m hm => h.dn m (by rw [hd]; exact List.mem_cons_of_mem _ hm)
  obtain ⟨sB, sBa, subB, tB⟩ := lright_iff.1 h.rb
  have cfg0 : s.now < s.a.til → ∀ x, Cfg (inl s.a.things x) (inl s.a.asked x) (inl s.b.things x) ((if inl n.things x then [n.kind] else []) ++ dg x rest) (ug x s.up) := fun ho x => by
    have := h.cfg ho x
    rwa [hd, dg_cons] at this
  rw [Av.hear, if_neg (by rw [hok]; simp)]
  rcases hkind with hkd | hkd | ⟨hkd, htil⟩
  · obtain ⟨sX, _, _⟩ := lmay_set hm (.inl hkd)
    rw [if_pos hkd]
    rw [hkd] at cfg0
    by_cases hn : s.now < s.b.til
    · rw [if_pos hn]
      simp only [Bool.false_eq_true, if_false]
      have iT := inl_setop (op := fun x y => x || y) sB sX rfl
      refine ⟨h.ra, lright_iff.2 ⟨sok_setop _ _ _, sBa, (fun x hx => by rw [h.ba] at hx; cases hx), tB⟩, h.ba, dn', h.un, h.tt, ?_, h.n0, h.nk, fun ho x => ?_⟩
      · intro hle; have hle' : s.b.til ≤ s.now := hle; omega
      · show Cfg (inl s.a.things x) (inl s.a.asked x) (inl (setop (fun x y => x || y) s.b.things n.things) x) (dg x rest) (ug x s.up)
        have hc := cfg0 ho x
        rw [iT]
        cases hX : inl n.things x with
        | false => rw [hX, if_neg (by simp), List.nil_append] at hc; rw [Bool.or_false]; exact hc
        | true =>
          rw [hX, if_pos rfl] at hc
          rcases hc with ⟨_, _, _, e, _⟩ | ⟨e1, e2, e3, e4⟩ | ⟨e1, e2, e3, e4⟩ | ⟨_, _, _, e, _⟩
          · cases e
          · rcases e4 with ⟨e4, _⟩ | e4
            · exact .inr (.inl ⟨e1, e2, e3, .inr (by simpa using e4)⟩)
            · cases e4
          · rcases e4 with ⟨e4, _⟩ | e4
            · exact .inr (.inr (.inl ⟨e1, e2, e3, .inr (by simpa using e4)⟩))
            · simp at e4
          · cases e
    · rw [if_neg hn]
      simp only [Bool.false_eq_true, if_false]
      refine ⟨h.ra, h.rb, h.ba, dn', h.un, h.tt, h.bo, h.n0, h.nk, fun ho x => ?_⟩
      have hc := cfg0 ho x
      cases hX : inl n.things x with
      | false => rw [hX, if_neg (by simp), List.nil_append] at hc; exact hc
      | true =>
        rw [hX, if_pos rfl] at hc
        rcases hc with ⟨_, _, _, e, _⟩ | ⟨e1, e2, e3, e4⟩ | ⟨e1, e2, e3, e4⟩ | ⟨_, _, _, e, _⟩
        · cases e
        · rcases e4 with ⟨e4, _⟩ | e4
          · exact .inr (.inl ⟨e1, e2, e3, .inr (by simpa using e4)⟩)
          · cases e4
        · rcases e4 with ⟨e4, _⟩ | e4
          · exact .inr (.inr (.inl ⟨e1, e2, e3, .inr (by simpa using e4)⟩))
          · simp at e4
        · cases e
  · obtain ⟨sX, _, hX0⟩ := lmay_set hm (.inr (.inl hkd))
    rw [if_neg (by omega), if_pos hkd]
    rw [hkd] at cfg0
    simp only [if_true]
    have iT := inl_setop (op := fun x y => x && !y) sB sX rfl
    have hX0' : ¬ n.things.length = 0 := by omega
    have sB' : sok (setop (fun x y => x && !y) s.b.things n.things) = true := sok_setop _ _ _
    refine ⟨h.ra, lright_iff.2 ⟨sB', sBa, (fun x hx => by rw [h.ba] at hx; cases hx), tB⟩, h.ba, dn', ?_, h.tt, ?_, h.n0, h.nk, fun ho x => ?_⟩
    · intro m hm'
      rcases List.mem_append.1 hm' with h1 | h1
      · exact h.un m h1
      · obtain rfl : m = ⟨3, n.things, 0⟩ := by simpa using h1
        exact ⟨by simp [lmay, sX, hX0], rfl⟩
    · intro hle
      show setop (fun x y => x && !y) s.b.things n.things = []
      refine (setop_nil (op := fun x y => x && !y) sB sX rfl).2 fun x => ?_
      rw [h.bo hle, inl_nil, Bool.false_and]
    · show Cfg (inl s.a.things x) (inl s.a.asked x) (inl (setop (fun x y => x && !y) s.b.things n.things) x) (dg x rest) (ug x (s.up ++ [⟨3, n.things, 0⟩]))
      have hc := cfg0 ho x
      rw [iT, ug_snoc]
      show Cfg (inl s.a.things x) (inl s.a.asked x) (inl s.b.things x && !inl n.things x) (dg x rest) (ug x s.up + if inl n.things x = true then 1 else 0)
      cases hX : inl n.things x with
      | false => rw [hX, if_neg (by simp), List.nil_append] at hc; rw [if_neg (by simp), Nat.add_zero, Bool.not_false, Bool.and_true]; exact hc
      | true =>
        rw [hX, if_pos rfl] at hc
        rw [if_pos rfl, Bool.not_true, Bool.and_false]
        rcases hc with ⟨_, _, _, e, _⟩ | ⟨e1, e2, e3, e4⟩ | ⟨e1, e2, e3, e4⟩ | ⟨_, _, _, e, _⟩
        · cases e
        · rcases e4 with ⟨e4, _⟩ | e4
          · simp at e4
          · cases e4
        · rcases e4 with ⟨e4, _⟩ | e4
          · simp at e4
          · exact .inr (.inr (.inr ⟨e1, e2, rfl, by simpa using e4, by omega⟩))
        · cases e
  · obtain ⟨tn', hX⟩ := lmay_til hm hkd
    rw [if_neg (by omega), if_neg (by omega), if_pos hkd]
    simp only [Bool.false_eq_true, if_false]
    have htm : tm (max s.b.til n.til) = true := by
      rw [tm_iff] at tB tn' ⊢; omega
    refine ⟨h.ra, lright_iff.2 ⟨sB, sBa, subB, htm⟩, h.ba, dn', h.un, ?_, ?_, h.n0, h.nk, fun ho x => ?_⟩
    · have := h.tt; show max s.b.til n.til ≤ s.a.til; omega
    · intro hle
      have hle' : max s.b.til n.til ≤ s.now := hle
      exact h.bo (by omega)
    · have hc := cfg0 ho x
      rw [hX, inl_nil, if_neg (by simp), List.nil_append] at hc
      exact hc
/-- What comes back. -/
theorem WInv.back {k : Int} {s : WS} (h : WInv k s) {n : Note} {rest : List Note} (hd : s.up = n :: rest) :
    (lback s.a n).2 = 0 ∧ WInv k ⟨(lback s.a n).1, s.b, s.down, rest, s.now⟩ := by
  obtain ⟨hm, hkd⟩ := h.un n (by rw [hd]; exact List.mem_cons_self)
  obtain ⟨sX, _, _⟩ := lmay_set hm (.inr (.inr hkd))
  obtain ⟨sA, sS, sub, tA⟩ := lright_iff.1 h.ra
  rw [lback, if_neg (by simp [h.ra, hm, hkd])]
  refine ⟨rfl, ?_⟩
  have iA := inl_setop (op := fun x y => x && !y) sA sX rfl
  have iS := inl_setop (op := fun x y => x && !y) sS sX rfl
  have sS' : sok (setop (fun x y => x && !y) s.a.asked n.things) = true := sok_setop _ _ _
  have sA' : sok (setop (fun x y => x && !y) s.a.things n.things) = true := sok_setop _ _ _
  refine ⟨lright_iff.2 ⟨sA', sS', fun x hx => ?_, tA⟩, h.rb, h.ba, h.dn, fun m hm' => h.un m (by rw [hd]; exact List.mem_cons_of_mem _ hm'), h.tt, h.bo, h.n0, h.nk, fun ho x => ?_⟩
  · have hx' : inl (setop (fun x y => x && !y) s.a.asked n.things) x = true := hx
    show inl (setop (fun x y => x && !y) s.a.things n.things) x = true
    rw [iS, Bool.and_eq_true] at hx'
    rw [iA, sub x hx'.1, hx'.2]; rfl
  · show Cfg (inl (setop (fun x y => x && !y) s.a.things n.things) x) (inl (setop (fun x y => x && !y) s.a.asked n.things) x) (inl s.b.things x) (dg x s.down) (ug x rest)
    have hc := h.cfg ho x
    rw [hd, ug_cons] at hc
    rw [iA, iS]
    cases hX : inl n.things x with
    | false => rw [hX, if_neg (by simp), Nat.zero_add] at hc; rw [Bool.not_false, Bool.and_true, Bool.and_true]; exact hc
    | true =>
      rw [hX, if_pos rfl] at hc
      rw [Bool.not_true, Bool.and_false, Bool.and_false]
      rcases hc with ⟨_, _, _, _, e⟩ | ⟨_, _, e, _⟩ | ⟨_, _, e, _⟩ | ⟨e1, e2, e3, e4, e5⟩
      · omega
      · omega
      · omega
      · exact .inl ⟨rfl, rfl, e3, e4, by omega⟩
theorem plus_zero {u : Int} (h : tm u = true) : plus u 0 = u := by rw [tm_iff] at h; simp only [plus, near]; omega
theorem plus_ge {u g : Int} (h : tm u = true) (hg : 0 ≤ g) : u ≤ plus u g := by rw [tm_iff] at h; simp only [plus, near]; omega
theorem Cfg.lost {A S B : Bool} {d : List Int} {u : Nat} (h : Cfg A S B d u) : Cfg A S false d u := by
  rcases h with ⟨e1, e2, e3, e4, e5⟩ | ⟨e1, e2, e3, e4⟩ | ⟨e1, e2, e3, e4⟩ | ⟨e1, e2, e3, e4, e5⟩
  · exact .inl ⟨e1, e2, rfl, e4, e5⟩
  · exact .inr (.inl ⟨e1, e2, e3, e4.imp (fun e => ⟨e.1, rfl⟩) id⟩)
  · exact .inr (.inr (.inl ⟨e1, e2, e3, e4.imp (fun e => ⟨e.1, rfl⟩) id⟩))
  · exact .inr (.inr (.inr ⟨e1, e2, rfl, e4, e5⟩))
/-- The time goes on. -/
theorem WInv.tick {k : Int} {s : WS} (h : WInv k s) {d : Int} (h0 : 0 ≤ d) (h1 : d ≤ 255) : WInv (k + 1) ⟨s.a, lover s.b (s.now + d) 0, s.down, s.up, s.now + d⟩ := by
  obtain ⟨sB, sBa, subB, tB⟩ := lright_iff.1 h.rb
  have hn := h.nk
  have h00 := h.n0
  unfold lover
  rw [plus_zero tB]
  by_cases hle : s.b.til ≤ s.now + d
  · rw [if_pos ⟨h.rb, hle⟩]
    refine ⟨h.ra, lright_iff.2 ⟨sok_nil, sok_nil, (fun n hn => by cases hn), tB⟩, rfl, h.dn, h.un, h.tt, fun _ => rfl, by show 0 ≤ s.now + d; omega, by show s.now + d ≤ _; omega, fun ho x => ?_⟩
    have ho' : s.now + d < s.a.til := ho
    exact (h.cfg (by omega) x).lost
  · rw [if_neg (fun e => hle e.2)]
    refine ⟨h.ra, h.rb, h.ba, h.dn, h.un, h.tt, fun e => absurd e hle, by show 0 ≤ s.now + d; omega, by show s.now + d ≤ _; omega, fun ho x => ?_⟩
    have ho' : s.now + d < s.a.til := ho
    exact h.cfg (by omega) x
/-- The lender looks whether it is over. -/
theorem WInv.over {k : Int} {s : WS} (h : WInv k s) {g : Int} (hg : 0 ≤ g) : WInv k ⟨lover s.a s.now g, s.b, s.down, s.up, s.now⟩ := by
  obtain ⟨sA, sS, subA, tA⟩ := lright_iff.1 h.ra
  unfold lover
  by_cases hle : plus s.a.til g ≤ s.now
  · rw [if_pos ⟨h.ra, hle⟩]
    have := plus_ge tA hg
    refine ⟨lright_iff.2 ⟨sok_nil, sok_nil, (fun n hn => by cases hn), tA⟩, h.rb, h.ba, h.dn, h.un, h.tt, h.bo, h.n0, h.nk, fun ho x => ?_⟩
    have ho' : s.now < s.a.til := ho
    omega
  · rw [if_neg (fun e => hle e.2)]
    exact h
end Go.Av

/-
  NOTES AS BYTES, plainly.
-/
namespace Go.Av
def beN : Nat → Nat → List UInt8
  | 0, _ => []
  | k + 1, t => beN k (t / 256) ++ [UInt8.ofNat (t % 256)]
theorem beN_len : ∀ k t, (beN k t).length = k
  | 0, _ => rfl
  | k + 1, t => by rw [beN, List.length_append, beN_len k]; rfl
def unbe (l : List UInt8) : Nat := l.foldl (fun a c => a * 256 + c.toNat) 0
theorem unbe_snoc (l : List UInt8) (c : UInt8) : unbe (l ++ [c]) = unbe l * 256 + c.toNat := by unfold unbe; rw [List.foldl_append]; rfl
theorem u8_of {x : Nat} (h : x < 256) : (UInt8.ofNat x).toNat = x := by simp [UInt8.toNat_ofNat', Nat.mod_eq_of_lt h]
theorem unbe_beN : ∀ k t, t < 256 ^ k → unbe (beN k t) = t
  | 0, t, h => by have : t = 0 := by simpa using h
                  subst this; rfl
  | k + 1, t, h => by
    rw [beN, unbe_snoc, unbe_beN k (t / 256) (by rw [Nat.div_lt_iff_lt_mul (by decide), ← Nat.pow_succ]; exact h), u8_of (by omega)]
    omega
theorem beN_unbe (l : List UInt8) : beN l.length (unbe l) = l := by
  obtain ⟨n, hn⟩ : ∃ n, l.length = n := ⟨_, rfl⟩
  induction n generalizing l with
  | zero => rw [List.eq_nil_of_length_eq_zero hn]; rfl
  | succ n ih =>
    rcases List.eq_nil_or_concat l with rfl | ⟨l', c, rfl⟩
    · cases hn
    · rw [List.concat_eq_append] at hn ⊢
      have hl' : l'.length = n := by simpa using hn
      have hc : c.toNat < 256 := c.toNat_lt
      rw [hn, beN, unbe_snoc, show (unbe l' * 256 + c.toNat) / 256 = unbe l' by omega, show (unbe l' * 256 + c.toNat) % 256 = c.toNat by omega, UInt8.ofNat_toNat]
      have := ih l' hl'
      rw [hl'] at this
      rw [this]
theorem unbe_lt (l : List UInt8) : unbe l < 256 ^ l.length := by
  obtain ⟨n, hn⟩ : ∃ n, l.length = n := ⟨_, rfl⟩
  induction n generalizing l with
  | zero => rw [List.eq_nil_of_length_eq_zero hn]; decide
  | succ n ih =>
    rcases List.eq_nil_or_concat l with rfl | ⟨l', c, rfl⟩
    · cases hn
    · rw [List.concat_eq_append] at hn ⊢
      have hl' : l'.length = n := by simpa using hn
      have hc : c.toNat < 256 := c.toNat_lt
      have := ih l' hl'
      rw [hl'] at this
      rw [hn, unbe_snoc, Nat.pow_succ]
      omega
theorem beN_get : ∀ (k t i : Nat), i < k → (beN k t)[i]? = some (UInt8.ofNat (t / 256 ^ (k - 1 - i) % 256))
  | 0, _, _, h => absurd h (Nat.not_lt_zero _)
  | k + 1, t, i, h => by
    rw [beN]
    by_cases hi : i < k
    · rw [List.getElem?_append_left (by rw [beN_len]; exact hi), beN_get k (t / 256) i hi]
      congr 3
      rw [Nat.div_div_eq_div_mul, ← Nat.pow_succ', show (k - 1 - i).succ = k + 1 - 1 - i by omega]
    · have : i = k := by omega
      subst this
      rw [List.getElem?_append_right (by rw [beN_len]; exact Nat.le_refl _), beN_len, Nat.sub_self]
      simp
def putN (n : Note) : List UInt8 × Int :=
  if lmay n = false then ([], 1) else if n.kind = 4 then (4 :: 4 :: beN 8 n.til.toNat, 0) else (4 :: UInt8.ofNat n.kind.toNat :: setB n.things, 0)
def readN (b : List UInt8) : Note × Int :=
  if b.length < 2 ∨ b.getD 0 0 ≠ 4 then (noNote, 3)
  else if b.getD 1 0 = 4 then (if b.length ≠ 10 then (noNote, 3) else if unbe (b.drop 2) ≤ 4611686018427387904 then (⟨4, [], unbe (b.drop 2)⟩, 0) else (noNote, 3))
  else if (readSet (b.drop 2)).2 = 0 ∧ lmay ⟨(b.getD 1 0).toNat, (readSet (b.drop 2)).1, 0⟩ = true then (⟨(b.getD 1 0).toNat, (readSet (b.drop 2)).1, 0⟩, 0) else (noNote, 3)
theorem readSet_put {l : List Int} (hl : sok l = true) (hlen : (setB l).length ≤ 65536) : readSet (setB l) = (l, 0) := by
  have := rset_put hl []
  rw [List.append_nil] at this
  rw [readSet, if_neg (by omega), this]
  rfl
theorem readSet_inv {b : List UInt8} (h : (readSet b).2 = 0) : sok (readSet b).1 = true ∧ b = setB (readSet b).1 := by
  unfold readSet at h ⊢
  by_cases hb : 65536 < b.length
  · rw [if_pos hb] at h; cases h
  · rw [if_neg hb] at h ⊢
    cases hr : rset b with
    | error e =>
      rw [hr] at h
      -- an error is none
      exfalso
      have : e = 0 := h
      subst this
      have key : ∀ (b : List UInt8) (i n : Nat), got i n b ≠ .error 0 := by
        intro b
        induction b with
        | nil => intro i n h; cases h
        | cons c b ih =>
          intro i n h
          unfold got at h
          split at h
          · cases h
          split at h
          · split at h <;> cases h
          · exact ih _ _ h
      have key2 : ∀ (m : Nat) (first : Bool) (last : Nat) (acc : List Int) (b : List UInt8), gots m first last acc b ≠ .error 0 := by
        intro m
        induction m with
        | zero => intro _ _ _ _ h; cases h
        | succ m ih =>
          intro first last acc b h
          unfold gots at h
          cases h1 : got 0 0 b with
          | error e => rw [h1] at h; simp only at h; cases h; exact key _ _ _ h1
          | ok x =>
            obtain ⟨far, b1⟩ := x
            rw [h1] at h
            simp only at h
            cases h2 : got 0 0 b1 with
            | error e => rw [h2] at h; simp only at h; cases h; exact key _ _ _ h2
            | ok x =>
              obtain ⟨more, b2⟩ := x
              rw [h2] at h
              simp only at h
              split at h
              · exact ih _ _ _ _ h
              · cases h
      unfold rset at hr
      split at hr
      · cases hr
      split at hr
      · cases hr
      rename_i c r _
      cases h1 : got 0 0 r with
      | error e => rw [h1] at hr; simp only at hr; cases hr; exact key _ _ _ h1
      | ok x =>
        obtain ⟨many, b1⟩ := x
        rw [h1] at hr
        simp only at hr
        split at hr
        · cases hr
        · exact key2 _ _ _ _ _ hr
    | ok x =>
      obtain ⟨l, r⟩ := x
      rw [hr] at h
      simp only at h ⊢
      by_cases hr0 : r = []
      · subst hr0
        obtain ⟨k1, k2⟩ := rset_inv hr
        rw [List.append_nil] at k2
        rw [if_pos rfl]
        exact ⟨k1, k2⟩
      · rw [if_neg hr0] at h; cases h
theorem read_put {n : Note} (h : lmay n = true) (hlen : (setB n.things).length ≤ 65536) : readN (putN n).1 = (n, 0) := by
  unfold putN
  rw [if_neg (by rw [h]; simp)]
  obtain ⟨k, t, u⟩ := n
  by_cases hk : k = 4
  · subst hk
    rw [if_pos rfl]
    obtain ⟨h1, h2⟩ := lmay_til h rfl
    simp only at h1 h2
    subst h2
    rw [tm_iff] at h1
    have hu : u.toNat < 256 ^ 8 := by
      have : (256 : Nat) ^ 8 = 18446744073709551616 := by decide
      omega
    unfold readN
    rw [if_neg (by simp [beN_len]), if_pos (by rfl), if_neg (by simp [beN_len])]
    show (if unbe (beN 8 u.toNat) ≤ _ then _ else _) = _
    have e : unbe (List.drop 2 (4 :: 4 :: beN 8 u.toNat)) = u.toNat := unbe_beN 8 _ hu
    rw [unbe_beN 8 _ hu, if_pos (by omega), e]
    congr 2
    omega
  · rw [if_neg hk]
    have hk3 : k = 1 ∨ k = 2 ∨ k = 3 := by
      rcases lmay_kind h with ⟨h1, _⟩ | ⟨h1, h2, _⟩
      · exact absurd h1 hk
      · simp only at h1 h2; omega
    obtain ⟨h1, h2, _⟩ := lmay_set h hk3
    simp only at h1 h2
    subst h2
    have hb : (UInt8.ofNat k.toNat).toNat = k.toNat := u8_of (by omega)
    have hk4 : UInt8.ofNat k.toNat ≠ 4 := by
      intro e
      have := congrArg UInt8.toNat e
      rw [hb] at this
      have : k.toNat = 4 := this
      omega
    have hlen' : (setB t).length ≤ 65536 := hlen
    have hkk : ((UInt8.ofNat k.toNat).toNat : Int) = k := by rw [hb]; omega
    have hd : (readSet (List.drop 2 (4 :: UInt8.ofNat k.toNat :: setB t))) = (t, 0) := readSet_put h1 hlen'
    unfold readN
    rw [if_neg (by simp), if_neg (by exact hk4), hd]
    show (if (0 : Int) = 0 ∧ lmay ⟨((UInt8.ofNat k.toNat).toNat : Int), t, 0⟩ = true then _ else _) = _
    rw [hkk, if_pos ⟨rfl, h⟩]
    show ((⟨((UInt8.ofNat k.toNat).toNat : Int), t, 0⟩ : Note), (0 : Int)) = _
    rw [hkk]
theorem put_read {b : List UInt8} {m : Note} (h : readN b = (m, 0)) : putN m = (b, 0) := by
  unfold readN at h
  split at h
  · cases h
  rename_i hb
  match b, hb with
  | [], hb => exact absurd (.inl (by simp)) hb
  | [x], hb => exact absurd (.inl (by simp)) hb
  | x :: y :: r, hb =>
    have hx : x = 4 := by
      rcases Decidable.em (x = 4) with e | e
      · exact e
      · exact absurd (.inr e) hb
    subst hx
    split at h
    · rename_i hy
      have hy4 : y = 4 := hy
      subst hy4
      split at h
      · cases h
      rename_i hlen
      have hrl : r.length = 8 := by
        have : ¬ (r.length + 1 + 1 ≠ 10) := hlen
        omega
      split at h
      · rename_i ht
        cases h
        have ht' : unbe r ≤ 4611686018427387904 := ht
        have hm : lmay ⟨4, [], (unbe r : Int)⟩ = true := by rw [lmay4, tm_iff]; omega
        show putN ⟨4, [], (unbe r : Int)⟩ = _
        unfold putN
        rw [if_neg (by rw [hm]; simp), if_pos rfl]
        have := beN_unbe r
        rw [hrl] at this
        show (4 :: 4 :: beN 8 (unbe r : Int).toNat, (0 : Int)) = _
        rw [Int.toNat_natCast, this]
      · cases h
    · rename_i hy
      have hy4 : y ≠ 4 := hy
      split at h
      · rename_i hok
        cases h
        obtain ⟨h1, h2⟩ := hok
        have h1' : (readSet r).2 = 0 := h1
        obtain ⟨h3, h4⟩ := readSet_inv h1'
        show putN ⟨(y.toNat : Int), (readSet r).1, 0⟩ = _
        unfold putN
        have h2' : lmay ⟨(y.toNat : Int), (readSet r).1, 0⟩ = true := h2
        rw [if_neg (by rw [h2']; simp), if_neg (by
          intro e
          have e' : (y.toNat : Int) = 4 := e
          exact hy4 (UInt8.toNat_inj.1 (by show y.toNat = 4; omega)))]
        show (4 :: UInt8.ofNat (y.toNat : Int).toNat :: setB (readSet r).1, (0 : Int)) = _
        rw [Int.toNat_natCast, UInt8.ofNat_toNat, ← h4]
      · cases h
end Go.Av

namespace Go.Av
open Go.Proofs
set_option maxRecDepth 10000
set_option linter.unusedSimpArgs false
set_option linter.unusedVariables false

theorem take_get {l : List UInt8} {i : Nat} {c : UInt8} (h : l[i]? = some c) : l.take (i + 1) = l.take i ++ [c] := by
  have := (List.getElem?_eq_some_iff.1 h).1
  rw [List.take_add_one, h]; rfl
set_option maxHeartbeats 0 in
theorem lease_Put (n : Note) (hn : n.things.length ≤ 1000000) (H : Heap) : AC Tryd.prog 25 [.agg (eNote n)] H (Ret (.tup [.pl ((putN n).1.map brow), .int .i64 (putN n).2]) H) := by
  refine AC.body (N := 40) [.tmp 2, .tmp 3] Tryd.func25 rfl rfl rfl (Nat.le_of_ble_eq_true rfl) fun B hB => ?_
  repeat (refine aw_seq ?_)
  refine aw_region ?_
  refine ao2 (by rintro _ ⟨⟩; decide) (o_boxL (sz := 3) (v := .agg _) rfl rfl rfl rfl (by decide) rfl) ?_
  refine ao1 (by decide) (o_assign (v := .nsl) rfl) ?_
  refine ao1 (by decide) (o_assign (v := .int _ _) rfl) ?_
  refine ao_nil ?_
  try dsimp only [List.length_nil, put, AV.cells, List.nil_append]
  repeat (first | refine then_nrm ?_ | refine aw_seq ?_)
  refine aw_region ?_
  refine ao1 (by decide) (w_loadR rfl (lk rfl rfl) rfl rfl rfl) ?_
  refine ao_ret (lease_may n hn _) rfl (by decide) ?_
  refine ao1 (by decide) (o_not rfl) ?_
  refine ao_nil ?_
  repeat (refine then_nrm ?_)
  refine aw_cond rfl (fun hc => ?_) (fun hc => ?_)
  · have hm : lmay n = false := by simpa using hc
    rw [show putN n = ([], 1) by rw [putN, if_pos hm]]
    repeat (refine aw_seq ?_)
    refine aw_region ?_
    refine ao1 (by decide) (o_assign (v := .nsl) rfl) ?_
    refine ao1 (by decide) (o_assign (v := .int _ _) rfl) ?_
    refine ao_nil ?_
    try dsimp only
    repeat (refine then_nrm ?_)
    refine aw_nslpl 2 rfl ?_
    refine aw_ret ?_
    exact e_done hB (r_tmp rfl (r_tmp rfl .nil)) rfl rfl
  have hm : lmay n = true := by simpa using hc
  have hkind : 0 ≤ n.kind ∧ n.kind ≤ 4 := by rcases lmay_kind hm with ⟨h, _⟩ | ⟨h1, h2, _⟩ <;> omega
  obtain ⟨kn, hkn⟩ : ∃ kn : Nat, n.kind = (kn : Int) := ⟨n.kind.toNat, by omega⟩
  clear hc
  repeat (first | refine then_nrm ?_ | refine aw_seq ?_ | refine aw_skip ?_)
  refine aw_region ?_
  refine ao1 (by decide) (w_fieldAddr rfl (lk rfl rfl) rfl (by decide)) ?_
  refine ao1 (by decide) (w_load1 (v := .int _ _) rfl (lk rfl rfl) rfl rfl rfl) ?_
  refine ao1 (by decide) (o_conv_int (r := (kn : Int)) rfl (by rw [hkn]; exact u8_wrap _ (by omega))) ?_
  refine ao2 (by rintro _ ⟨⟩; decide) (o_buildSliceL (rows := [[.int .u8 4], [.int .u8 (kn : Int)]]) rfl (by decide) (by decide) (by decide) rfl rfl (by simp) rfl) ?_
  refine ao1 (by decide) (o_assign (v := .sl _ _ _ _ _) rfl) ?_
  refine ao_nil ?_
  try dsimp only [List.length_cons, List.length_nil, Nat.reduceAdd, put, List.cons_append, List.nil_append]
  repeat (first | refine then_nrm ?_ | refine aw_seq ?_)
  refine aw_region ?_
  refine ao1 (by decide) (w_fieldAddr rfl (lk rfl rfl) rfl (by decide)) ?_
  refine ao1 (by decide) (w_load1 (v := .int _ _) rfl (lk rfl rfl) rfl rfl rfl) ?_
  refine ao1 (by decide) (o_eq rfl rfl) ?_
  refine ao_nil ?_
  try dsimp only [Nat.reduceAdd]
  repeat (refine then_nrm ?_)
  refine aw_cond rfl (fun hc => ?_) (fun hc => ?_)
  · have hk4 : n.kind = 4 := by simpa using hc
    obtain ⟨ht, _⟩ := lmay_til hm hk4
    rw [tm_iff] at ht
    obtain ⟨t, htn⟩ : ∃ t : Nat, n.til = (t : Int) := ⟨n.til.toNat, by omega⟩
    rw [show putN n = (4 :: 4 :: beN 8 t, 0) by rw [putN, if_neg (by rw [hm]; simp), if_pos hk4, htn, Int.toNat_natCast]]
    have hkn4 : kn = 4 := by omega
    subst hkn4
    obtain ⟨pb, h0, hs, h8, hpl⟩ : ∃ pb : Nat → List UInt8, pb 0 = [4, 4] ∧ (∀ i, i < 8 → pb (i + 1) = pb i ++ [UInt8.ofNat (t / 256 ^ (8 - 1 - i) % 256)]) ∧ pb 8 = 4 :: 4 :: beN 8 t ∧ ∀ i, (pb i).length ≤ 10 := by
      refine ⟨fun i => [4, 4] ++ (beN 8 t).take i, rfl, fun i hi => ?_, ?_, fun i => ?_⟩
      · show [4, 4] ++ (beN 8 t).take (i + 1) = _
        rw [take_get (beN_get 8 t i hi), List.append_assoc]
      · show [4, 4] ++ (beN 8 t).take 8 = _
        rw [List.take_of_length_le (by rw [beN_len]; exact Nat.le_refl _)]; rfl
      · show ([4, 4] ++ (beN 8 t).take i).length ≤ 10
        rw [List.length_append, List.length_take, beN_len]; simp; omega
    repeat (refine aw_seq ?_)
    refine aw_region ?_
    refine ao1 (by decide) (o_assign (v := .int _ _) rfl) ?_
    refine ao_nil ?_
    try dsimp only
    repeat (first | refine then_nrm ?_ | refine aw_block ?_)
    refine aw_loop (G := Nat) (fun i => i ≤ 8) (fun i => [(1, .pt (Lid H.length 0) 0 0 0), (4, .sl (Lid H.length 1) i 0 (pb i).length (pb i).length), (5, .int .i64 (56 - 8 * (i : Int)))]) (fun i => H ++ [⟨0, 3, [eNote n]⟩, ⟨i, 1, (pb i).map brow⟩]) (fun i => 8 - i) 0 (Nat.zero_le _) (by rw [h0]; exact (by repeat (first | exact Sub.nil | refine Sub.cons (by rfl) ?_))) (.inl (by rw [h0]; rfl)) ?_
    intro i hi
    have hpli := hpl i
    repeat (refine aw_seq ?_)
    refine aw_region ?_
    refine ao1 (by decide) (o_move (v := .int _ _) rfl) ?_
    refine ao1 (by decide) (o_ge rfl rfl) ?_
    refine ao_nil ?_
    repeat (refine then_nrm ?_)
    refine aw_cond rfl (fun hc => ?_) (fun hc => ?_)
    · have hi8 : i < 8 := by simp at hc; omega
      have hp : (2 : Int) ^ min (56 - 8 * (i : Int)).toNat IntKind.i64.bits = ((256 ^ (8 - 1 - i) : Nat) : Int) := by
        have : min (56 - 8 * (i : Int)).toNat IntKind.i64.bits = 8 * (8 - 1 - i) := by show min _ 64 = _; omega
        rw [this, show (256 : Nat) ^ (8 - 1 - i) = 2 ^ (8 * (8 - 1 - i)) by rw [show (256 : Nat) = 2 ^ 8 from rfl, ← Nat.pow_mul]]
        push_cast
        rfl
      have hst := hs i hi8
      repeat (first | refine then_nrm ?_ | refine aw_seq ?_ | refine aw_block ?_ | refine aw_skip ?_)
      refine aw_region ?_
      refine ao1 (by decide) (o_move (v := .sl _ _ _ _ _) rfl) ?_
      refine ao1 (by decide) (w_fieldAddr rfl (lk rfl rfl) rfl (by decide)) ?_
      refine ao1 (by decide) (w_load1 (v := .int .i64 (t : Int)) rfl (lk rfl rfl) rfl rfl (by rw [← htn]; rfl)) ?_
      refine ao1 (by decide) (o_move (v := .int _ _) rfl) ?_
      refine ao1 (by decide) (o_shr (r := ((t / 256 ^ (8 - 1 - i) : Nat) : Int)) rfl rfl (by omega) (by rw [hp, Int.fdiv_eq_ediv_of_nonneg _ (Int.natCast_nonneg _)]; exact (Int.natCast_ediv _ _).symm)) ?_
      refine ao1 (by decide) (o_conv_int (r := ((t / 256 ^ (8 - 1 - i) % 256 : Nat) : Int)) rfl (by rw [IntKind.wrap_u8]; omega)) ?_
      refine ao2 (by rintro _ ⟨⟩; decide) (g_lit1 (sz := 1) (v := .int .u8 ((t / 256 ^ (8 - 1 - i) % 256 : Nat) : Int)) rfl (by decide) (by decide) rfl rfl rfl rfl rfl) ?_
      refine ao2 (by rintro _ ⟨⟩; decide) (g_appB (en := brow) (bs := pb i) (cs := [UInt8.ofNat (t / 256 ^ (8 - 1 - i) % 256)]) rfl rfl rfl (Src.pl (by rw [List.map_cons, brow_ofNat (by omega)]; rfl) (bytes_len1 _)) rfl (by simp; omega) (by simp; omega)) ?_
      refine ao1 (by decide) (o_assign (v := .sl _ _ _ _ _) rfl) ?_
      refine ao_nil ?_
      try dsimp only [Nat.reduceAdd, AV.cells, put, List.set_cons_succ, List.set_cons_zero]
      rw [← hst]
      repeat (first | refine then_nrm ?_ | refine blk_nrm ?_)
      refine aw_region ?_
      refine ao1 (by decide) (o_move (v := .int _ _) rfl) ?_
      refine ao1 (by decide) (o_sub (r := 56 - 8 * ((i + 1 : Nat) : Int)) rfl rfl (by rw [show (56 : Int) - 8 * (i : Int) - 8 = 56 - 8 * ((i + 1 : Nat) : Int) by omega]; exact wrap64_ok (by omega) (by omega))) ?_
      refine ao1 (by decide) (o_assign (v := .int _ _) rfl) ?_
      refine ao_nil ?_
      repeat (refine then_nrm ?_)
      exact ⟨i + 1, by omega, by omega, (by repeat (first | exact Sub.nil | refine Sub.cons (by rfl) ?_)), .inl rfl⟩
    · have hi8 : i = 8 := by simp at hc; omega
      subst hi8
      rw [h8]
      repeat (first | refine then_nrm ?_ | refine then_brk ?_ | refine blk_hit ?_ | refine aw_seq ?_ | refine aw_exit ?_)
      refine aw_region ?_
      refine ao1 (by decide) (o_move (v := .sl _ _ _ _ _) rfl) ?_
      refine ao1 (by decide) (o_assign (v := .sl _ _ _ _ _) rfl) ?_
      refine ao1 (by decide) (o_assign (v := .int _ _) rfl) ?_
      refine ao_nil ?_
      try dsimp only [List.length_cons]
      repeat (refine then_nrm ?_)
      refine aw_freezeL (ys := (4 :: 4 :: beN 8 t).map brow) 2 rfl rfl rfl rfl (by rw [List.drop_zero, List.take_of_length_le (by simp)]) (by simp) (bytes_bel0 0 _) ?_
      refine aw_ret ?_
      exact e_done hB (r_tmp rfl (r_tmp rfl .nil)) rfl rfl
  · have hk4 : ¬ n.kind = 4 := by simpa using hc
    have hk3 : n.kind = 1 ∨ n.kind = 2 ∨ n.kind = 3 := by
      rcases lmay_kind hm with ⟨h1, _⟩ | ⟨h1, h2, _⟩
      · exact absurd h1 hk4
      · omega
    obtain ⟨hso, _, _⟩ := lmay_set hm hk3
    have hlen := setB_len n.things
    rw [show putN n = (4 :: UInt8.ofNat kn :: setB n.things, 0) by rw [putN, if_neg (by rw [hm]; simp), if_neg hk4, hkn, Int.toNat_natCast]]
    have cs := fun H => code_Set n.things hn H
    rw [show putSet n.things = (setB n.things, 0) by rw [putSet, if_neg (by rw [hso]; simp)]] at cs
    repeat (first | refine then_nrm ?_ | refine aw_seq ?_ | refine aw_skip ?_)
    refine aw_region ?_
    refine ao1 (by decide) (w_fieldAddr rfl (lk rfl rfl) rfl (by decide)) ?_
    refine ao1 (by decide) (w_load1 (v := .pl _) rfl (lk rfl rfl) rfl rfl rfl) ?_
    refine ao_ret (cs _) rfl (by decide) ?_
    refine ao1 (by decide) (o_move (v := .tup _) rfl) ?_
    refine ao1 (by decide) (o_extract (v := .pl _) rfl rfl) ?_
    refine ao1 (by decide) (o_extract (v := .int _ _) rfl rfl) ?_
    refine ao1 (by decide) (o_assign (v := .pl _) rfl) ?_
    refine ao1 (by decide) (o_assign (v := .int _ _) rfl) ?_
    refine ao_nil ?_
    try dsimp only [Nat.reduceAdd]
    have hrows : [[AV.int .u8 4], [AV.int .u8 (kn : Int)]] = ([4, UInt8.ofNat kn] : List UInt8).map brow := by rw [List.map_cons, List.map_cons, brow_ofNat (by omega)]; rfl
    rw [hrows]
    repeat (first | refine then_nrm ?_ | refine aw_seq ?_)
    refine aw_region ?_
    refine ao1 (by decide) (o_move (v := .sl _ _ _ _ _) rfl) ?_
    refine ao1 (by decide) (o_move (v := .pl _) rfl) ?_
    refine ao2 (by rintro _ ⟨⟩; decide) (g_appB (en := brow) (bs := [4, UInt8.ofNat kn]) (cs := setB n.things) rfl rfl rfl (Src.pl rfl (bytes_len1 _)) rfl (by simp; omega) (by simp; omega)) ?_
    refine ao1 (by decide) (o_assign (v := .sl _ _ _ _ _) rfl) ?_
    refine ao1 (by decide) (o_assign (v := .int _ _) rfl) ?_
    refine ao_nil ?_
    try dsimp only [Nat.reduceAdd, List.cons_append, List.nil_append, List.length_cons, put, List.set_cons_succ, List.set_cons_zero]
    repeat (refine then_nrm ?_)
    refine aw_freezeL (ys := (4 :: UInt8.ofNat kn :: setB n.things).map brow) 2 rfl rfl rfl rfl (by rw [List.drop_zero]; exact List.take_of_length_le (by simp)) (by simp) (bytes_bel0 0 _) ?_
    refine aw_ret ?_
    exact e_done hB (r_tmp rfl (r_tmp rfl .nil)) rfl rfl
end Go.Av

namespace Go.Av
open Go.Proofs
set_option maxRecDepth 10000
set_option linter.unusedSimpArgs false
set_option linter.unusedVariables false

theorem tmod256 (n : Nat) : ((n : Int)).tmod 256 = ((n % 256 : Nat) : Int) := by rw [Int.tmod_eq_emod_of_nonneg (by omega)]; omega
theorem tdiv256 (n : Nat) : ((n : Int)).tdiv 256 = ((n / 256 : Nat) : Int) := by rw [Int.tdiv_eq_ediv_of_nonneg (by omega)]; omega
theorem drop_get {l : List UInt8} {i : Nat} {c : UInt8} (h : l[i]? = some c) : l.drop i = c :: l.drop (i + 1) := by
  obtain ⟨h1, h2⟩ := List.getElem?_eq_some_iff.1 h
  rw [List.drop_eq_getElem_cons h1, h2]
theorem put_bel (n : Nat) (m : Note) (bs : List UInt8) (g : Nat) : ∀ o ∈ [AObj.mk 0 3 [eNote m], AObj.mk g 1 (bs.map brow)], ∀ r ∈ o.rows, AV.bels n r = true := by
  intro o ho r hr
  simp only [List.mem_cons, List.not_mem_nil, or_false] at ho
  rcases ho with rfl | rfl
  · simp only [List.mem_singleton] at hr; subst hr; rfl
  · exact bytes_bel0 _ _ r hr
set_option maxHeartbeats 0 in
theorem ref19_Put (n : Note) (hn : n.things.length ≤ 1000000) (H : Heap) : AC Tryd.prog 26 [.agg (eNote n)] H (Ret (.tup [.pl ((putN n).1.map brow), .int .i64 (putN n).2]) H) := by
  refine AC.body (N := 46) [.tmp 2, .tmp 3] Tryd.func26 rfl rfl rfl (Nat.le_of_ble_eq_true rfl) fun B hB => ?_
  repeat (refine aw_seq ?_)
  refine aw_region ?_
  refine ao2 (by rintro _ ⟨⟩; decide) (o_boxL (sz := 3) (v := .agg _) rfl rfl rfl rfl (by decide) rfl) ?_
  refine ao1 (by decide) (o_assign (v := .nsl) rfl) ?_
  refine ao1 (by decide) (o_assign (v := .int _ _) rfl) ?_
  refine ao_nil ?_
  try dsimp only [List.length_nil, put, AV.cells, List.nil_append]
  repeat (first | refine then_nrm ?_ | refine aw_seq ?_)
  refine aw_region ?_
  refine ao1 (by decide) (w_loadR rfl (lk rfl rfl) rfl rfl rfl) ?_
  refine ao_ret (ref19_May n hn _) rfl (by decide) ?_
  refine ao1 (by decide) (o_not rfl) ?_
  refine ao_nil ?_
  repeat (refine then_nrm ?_)
  refine aw_cond rfl (fun hc => ?_) (fun hc => ?_)
  · have hm : lmay n = false := by simpa using hc
    rw [show putN n = ([], 1) by rw [putN, if_pos hm]]
    repeat (refine aw_seq ?_)
    refine aw_region ?_
    refine ao1 (by decide) (o_assign (v := .nsl) rfl) ?_
    refine ao1 (by decide) (o_assign (v := .int _ _) rfl) ?_
    refine ao_nil ?_
    try dsimp only
    repeat (refine then_nrm ?_)
    refine aw_nslpl 2 rfl ?_
    refine aw_ret ?_
    exact e_done hB (r_tmp rfl (r_tmp rfl .nil)) rfl rfl
  have hm : lmay n = true := by simpa using hc
  have hkind : 0 ≤ n.kind ∧ n.kind ≤ 4 := by rcases lmay_kind hm with ⟨h, _⟩ | ⟨h1, h2, _⟩ <;> omega
  obtain ⟨kn, hkn⟩ : ∃ kn : Nat, n.kind = (kn : Int) := ⟨n.kind.toNat, by omega⟩
  clear hc
  repeat (first | refine then_nrm ?_ | refine aw_seq ?_ | refine aw_skip ?_)
  refine aw_region ?_
  refine ao1 (by decide) (w_fieldAddr rfl (lk rfl rfl) rfl (by decide)) ?_
  refine ao1 (by decide) (w_load1 (v := .int _ _) rfl (lk rfl rfl) rfl rfl rfl) ?_
  refine ao1 (by decide) (o_conv_int (r := (kn : Int)) rfl (by rw [hkn]; exact u8_wrap _ (by omega))) ?_
  refine ao2 (by rintro _ ⟨⟩; decide) (o_buildSliceL (rows := [[.int .u8 4], [.int .u8 (kn : Int)]]) rfl (by decide) (by decide) (by decide) rfl rfl (by simp) rfl) ?_
  refine ao1 (by decide) (o_assign (v := .sl _ _ _ _ _) rfl) ?_
  refine ao_nil ?_
  try dsimp only [List.length_cons, List.length_nil, Nat.reduceAdd, put, List.cons_append, List.nil_append]
  have hrows : [[AV.int .u8 4], [AV.int .u8 (kn : Int)]] = ([4, UInt8.ofNat kn] : List UInt8).map brow := by rw [List.map_cons, List.map_cons, brow_ofNat (by omega)]; rfl
  rw [hrows]
  repeat (first | refine then_nrm ?_ | refine aw_seq ?_)
  refine aw_region ?_
  refine ao1 (by decide) (w_fieldAddr rfl (lk rfl rfl) rfl (by decide)) ?_
  refine ao1 (by decide) (w_load1 (v := .int _ _) rfl (lk rfl rfl) rfl rfl rfl) ?_
  refine ao1 (by decide) (o_ne rfl rfl) ?_
  refine ao_nil ?_
  try dsimp only [Nat.reduceAdd]
  repeat (refine then_nrm ?_)
  refine aw_cond rfl (fun hc => ?_) (fun hc => ?_)
  · have hk4 : ¬ n.kind = 4 := by simpa using hc
    have hk3 : n.kind = 1 ∨ n.kind = 2 ∨ n.kind = 3 := by
      rcases lmay_kind hm with ⟨h1, _⟩ | ⟨h1, h2, _⟩
      · exact absurd h1 hk4
      · omega
    obtain ⟨hso, _, _⟩ := lmay_set hm hk3
    have hlen := setB_len n.things
    rw [show putN n = (4 :: UInt8.ofNat kn :: setB n.things, 0) by rw [putN, if_neg (by rw [hm]; simp), if_neg hk4, hkn, Int.toNat_natCast]]
    have cs := fun H => ref08_Set n.things hn H
    rw [show putSet n.things = (setB n.things, 0) by rw [putSet, if_neg (by rw [hso]; simp)]] at cs
    repeat (refine aw_seq ?_)
    refine aw_region ?_
    refine ao1 (by decide) (w_fieldAddr rfl (lk rfl rfl) rfl (by decide)) ?_
    refine ao1 (by decide) (w_load1 (v := .pl _) rfl (lk rfl rfl) rfl rfl rfl) ?_
    refine ao_ret (cs _) rfl (by decide) ?_
    refine ao1 (by decide) (o_move (v := .tup _) rfl) ?_
    refine ao1 (by decide) (o_extract (v := .pl _) rfl rfl) ?_
    refine ao1 (by decide) (o_extract (v := .int _ _) rfl rfl) ?_
    refine ao1 (by decide) (o_assign (v := .pl _) rfl) ?_
    refine ao1 (by decide) (o_assign (v := .int _ _) rfl) ?_
    refine ao_nil ?_
    try dsimp only [Nat.reduceAdd]
    repeat (first | refine then_nrm ?_ | refine aw_seq ?_)
    refine aw_region ?_
    refine ao1 (by decide) (o_move (v := .sl _ _ _ _ _) rfl) ?_
    refine ao1 (by decide) (o_move (v := .pl _) rfl) ?_
    refine ao2 (by rintro _ ⟨⟩; decide) (g_appB (en := brow) (bs := [4, UInt8.ofNat kn]) (cs := setB n.things) rfl rfl rfl (Src.pl rfl (bytes_len1 _)) rfl (by simp; omega) (by simp; omega)) ?_
    refine ao1 (by decide) (o_assign (v := .sl _ _ _ _ _) rfl) ?_
    refine ao1 (by decide) (o_assign (v := .int _ _) rfl) ?_
    refine ao_nil ?_
    try dsimp only [Nat.reduceAdd, List.cons_append, List.nil_append, List.length_cons, put, List.set_cons_succ, List.set_cons_zero]
    repeat (refine then_nrm ?_)
    refine aw_freezeL (ys := (4 :: UInt8.ofNat kn :: setB n.things).map brow) 2 rfl rfl rfl rfl (by rw [List.drop_zero]; exact List.take_of_length_le (by simp)) (by simp) (bytes_bel0 0 _) ?_
    refine aw_ret ?_
    exact e_done hB (r_tmp rfl (r_tmp rfl .nil)) rfl rfl
  · have hk4 : n.kind = 4 := by simpa using hc
    obtain ⟨ht, _⟩ := lmay_til hm hk4
    rw [tm_iff] at ht
    obtain ⟨t, htn⟩ : ∃ t : Nat, n.til = (t : Int) := ⟨n.til.toNat, by omega⟩
    rw [show putN n = (4 :: 4 :: beN 8 t, 0) by rw [putN, if_neg (by rw [hm]; simp), if_pos hk4, htn, Int.toNat_natCast]]
    have hkn4 : kn = 4 := by omega
    subst hkn4
    obtain ⟨tl, h0, hs, h8, htl⟩ : ∃ tl : Nat → List UInt8, tl 0 = [] ∧ (∀ i, i < 8 → tl (i + 1) = UInt8.ofNat (t / 256 ^ i % 256) :: tl i) ∧ tl 8 = beN 8 t ∧ ∀ i, (tl i).length ≤ 8 := by
      refine ⟨fun i => (beN 8 t).drop (8 - i), List.drop_eq_nil_of_le (by rw [beN_len]; exact Nat.le_refl _), fun i hi => ?_, rfl, fun i => ?_⟩
      · show (beN 8 t).drop (8 - (i + 1)) = _
        rw [drop_get (beN_get 8 t (8 - (i + 1)) (by omega)), show 8 - 1 - (8 - (i + 1)) = i by omega, show 8 - (i + 1) + 1 = 8 - i by omega]
      · show ((beN 8 t).drop (8 - i)).length ≤ 8
        rw [List.length_drop, beN_len]; omega
    have htd : ∀ i, t / 256 ^ i ≤ t := fun i => Nat.div_le_self _ _
    repeat (first | refine then_nrm ?_ | refine aw_seq ?_ | refine aw_skip ?_)
    refine aw_region ?_
    refine ao1 (by decide) (o_assign (v := .nsl) rfl) ?_
    refine ao_nil ?_
    try dsimp only
    repeat (first | refine then_nrm ?_ | refine aw_seq ?_)
    refine aw_nslpl 7 rfl ?_
    refine aw_region ?_
    refine ao1 (by decide) (w_fieldAddr rfl (lk rfl rfl) rfl (by decide)) ?_
    refine ao1 (by decide) (w_load1 (v := .int .i64 (t : Int)) rfl (lk rfl rfl) rfl rfl (by rw [← htn]; rfl)) ?_
    refine ao1 (by decide) (o_assign (v := .int _ _) rfl) ?_
    refine ao_nil ?_
    try dsimp only [Nat.reduceAdd]
    repeat (first | refine then_nrm ?_ | refine aw_seq ?_)
    refine aw_region ?_
    refine ao1 (by decide) (o_assign (v := .int _ _) rfl) ?_
    refine ao_nil ?_
    repeat (first | refine then_nrm ?_ | refine aw_block ?_)
    refine aw_loop (G := Nat) (fun i => i ≤ 8) (fun i => [(1, .pt (Lid H.length 0) 0 0 0), (4, .sl (Lid H.length 1) 0 0 2 2), (7, .pl ((tl i).map brow)), (8, .int .i64 ((t / 256 ^ i : Nat) : Int)), (9, .int .i64 (i : Int))]) (fun i => H ++ [⟨0, 3, [eNote n]⟩, ⟨0, 1, ([4, UInt8.ofNat 4] : List UInt8).map brow⟩]) (fun i => 8 - i) 0 (Nat.zero_le _) (by rw [h0, show t / 256 ^ 0 = t by simp]; exact (by repeat (first | exact Sub.nil | refine Sub.cons (by rfl) ?_))) (.inl rfl) ?_
    intro i hi
    have htli := htl i
    have htdi := htd i
    repeat (refine aw_seq ?_)
    refine aw_region ?_
    refine ao1 (by decide) (o_move (v := .int _ _) rfl) ?_
    refine ao1 (by decide) (o_lt rfl rfl) ?_
    refine ao_nil ?_
    repeat (refine then_nrm ?_)
    refine aw_cond rfl (fun hc => ?_) (fun hc => ?_)
    · have hi8 : i < 8 := by simp at hc; omega
      have hst := hs i hi8
      repeat (first | refine then_nrm ?_ | refine aw_seq ?_ | refine aw_block ?_ | refine aw_skip ?_)
      refine aw_region ?_
      refine ao1 (by decide) (o_move (v := .int _ _) rfl) ?_
      refine ao1 (by decide) (o_rem (r := ((t / 256 ^ i % 256 : Nat) : Int)) rfl rfl (by decide) (tmod256 _)) ?_
      refine ao1 (by decide) (o_conv_int (r := ((t / 256 ^ i % 256 : Nat) : Int)) rfl (u8_wrap _ (by omega))) ?_
      refine ao2 (by rintro _ ⟨⟩; decide) (o_buildSlice1L (sz := 1) (v := .int .u8 ((t / 256 ^ i % 256 : Nat) : Int)) (cs := brow (UInt8.ofNat (t / 256 ^ i % 256))) rfl (by decide) (by decide) rfl rfl (brow_ofNat (by omega)).symm rfl rfl) ?_
      refine ao1 (by decide) (o_move (v := .pl _) rfl) ?_
      refine ao2 (by rintro _ ⟨⟩; decide) (g_appB (en := brow) (bs := [UInt8.ofNat (t / 256 ^ i % 256)]) (cs := tl i) rfl rfl rfl (Src.pl rfl (bytes_len1 _)) rfl (by simp; omega) (by simp; omega)) ?_
      refine ao1 (by decide) (o_assign (v := .sl _ _ _ _ _) rfl) ?_
      refine ao_nil ?_
      try dsimp only [List.length_cons, List.length_nil, Nat.reduceAdd, List.cons_append, List.nil_append, put, List.set_cons_succ, List.set_cons_zero]
      repeat (refine then_nrm ?_)
      refine aw_freezeL (ys := (tl (i + 1)).map brow) 7 rfl rfl rfl rfl (by rw [hst, List.drop_zero]; exact List.take_of_length_le (by simp)) (by rw [hst]; simp) (bytes_bel0 0 _) ?_
      refine aw_region ?_
      refine ao1 (by decide) (o_move (v := .int _ _) rfl) ?_
      refine ao1 (by decide) (o_quo (r := ((t / 256 ^ (i + 1) : Nat) : Int)) rfl rfl (by decide) (by rw [tdiv256, Nat.div_div_eq_div_mul, ← Nat.pow_succ]; have h := htd i.succ; generalize t / 256 ^ i.succ = q at h ⊢; exact wrap64_ok (by omega) (by omega))) ?_
      refine ao1 (by decide) (o_assign (v := .int _ _) rfl) ?_
      refine ao_nil ?_
      try dsimp only [Nat.reduceAdd, List.set_cons_succ, List.set_cons_zero]
      repeat (first | refine then_nrm ?_ | refine blk_nrm ?_)
      refine aw_region ?_
      refine ao1 (by decide) (o_move (v := .int _ _) rfl) ?_
      refine ao1 (by decide) (o_add (r := ((i + 1 : Nat) : Int)) rfl rfl (wrap64_ok (by omega) (by omega))) ?_
      refine ao1 (by decide) (o_assign (v := .int _ _) rfl) ?_
      refine ao_nil ?_
      repeat (refine then_nrm ?_)
      exact ⟨i + 1, by omega, by omega, (by repeat (first | exact Sub.nil | refine Sub.cons (by rfl) ?_)), Fit.loc hB rfl (by repeat (first | exact EBel.nil | refine EBel.cons (by first | rfl | (simp [AV.bel, AV.bels, Lid]; done)) ?_)) (put_bel _ _ _ _)⟩
    · have hi8 : i = 8 := by simp at hc; omega
      subst hi8
      rw [h8]
      repeat (first | refine then_nrm ?_ | refine then_brk ?_ | refine blk_hit ?_ | refine aw_seq ?_ | refine aw_exit ?_)
      refine aw_region ?_
      refine ao1 (by decide) (o_move (v := .sl _ _ _ _ _) rfl) ?_
      refine ao1 (by decide) (o_move (v := .pl _) rfl) ?_
      refine ao2 (by rintro _ ⟨⟩; decide) (g_appB (en := brow) (bs := [4, UInt8.ofNat 4]) (cs := beN 8 t) rfl rfl rfl (Src.pl rfl (bytes_len1 _)) rfl (by simp [beN_len]) (by simp [beN_len])) ?_
      refine ao1 (by decide) (o_assign (v := .sl _ _ _ _ _) rfl) ?_
      refine ao1 (by decide) (o_assign (v := .int _ _) rfl) ?_
      refine ao_nil ?_
      try dsimp only [Nat.reduceAdd, List.cons_append, List.nil_append, List.length_cons, put, List.set_cons_succ, List.set_cons_zero]
      repeat (refine then_nrm ?_)
      refine aw_freezeL (ys := (4 :: 4 :: beN 8 t).map brow) 2 rfl rfl rfl rfl (by rw [List.drop_zero]; exact List.take_of_length_le (by simp)) (by simp) (bytes_bel0 0 _) ?_
      refine aw_ret ?_
      exact e_done hB (r_tmp rfl (r_tmp rfl .nil)) rfl rfl
end Go.Av

namespace Go.Av
open Go.Proofs
set_option maxRecDepth 10000
set_option linter.unusedSimpArgs false
set_option linter.unusedVariables false

theorem readSet_len (b : List UInt8) : (readSet b).1.length ≤ 256 := by
  unfold readSet
  split
  · simp
  · cases hr : rset b with
    | error e => simp
    | ok x =>
      obtain ⟨l, r⟩ := x
      simp only
      split
      · exact sok_256 (rset_inv hr).1
      · simp
theorem read_bel (n : Nat) (a b : Note) : ∀ o ∈ [AObj.mk 0 3 [eNote a], AObj.mk 0 3 [eNote b]], ∀ r ∈ o.rows, AV.bels n r = true := by
  intro o ho r hr
  simp only [List.mem_cons, List.not_mem_nil, or_false] at ho
  rcases ho with rfl | rfl
  · simp only [List.mem_singleton] at hr; subst hr; rfl
  · simp only [List.mem_singleton] at hr; subst hr; rfl
theorem or256 {n c : Nat} (h : c < 256) : n * 256 ||| c = n * 256 + c := by
  have := Nat.shiftLeft_add_eq_or_of_lt (i := 8) (b := c) (by simpa using h) n
  rw [Nat.shiftLeft_eq] at this
  exact this.symm
set_option maxHeartbeats 0 in
theorem lease_Read (b : List UInt8) (H : Heap) (hb : b.length ≤ 100000) : AC Tryd.prog 27 [.pl (b.map brow)] H (Ret (.tup [.agg (eNote (readN b).1), .int .i64 (readN b).2]) H) := by
  refine AC.body (N := 64) [.cell 2 26, .tmp 3] Tryd.func27 rfl rfl rfl (Nat.le_of_ble_eq_true rfl) fun B hB => ?_
  repeat (refine aw_seq ?_)
  refine aw_region ?_
  refine ao2 (by rintro _ ⟨⟩; decide) (o_allocL (sz := 3) rfl (by decide) rfl) ?_
  refine ao1 (by decide) (o_assign (v := .int _ _) rfl) ?_
  refine ao_nil ?_
  try dsimp only [List.length_nil, put, List.nil_append]
  match b, hb with
  | [], _ =>
    rw [show readN [] = (noNote, 3) by rw [readN, if_pos (.inl (by simp))]]
    repeat (first | refine then_nrm ?_ | refine aw_seq ?_)
    refine aw_out 18 (.bool true) ?_ ?_
    · refine ao1 (by decide) (o_move (v := .pl _) rfl) ?_
      refine ao1 (by decide) (o_lenp rfl) ?_
      refine ao1 (by decide) (o_lt rfl rfl) ?_
      refine ao1 (by decide) (o_move (v := .bool _) rfl) ?_
      refine ao_split rfl rfl (fun hg3 => ?_) (fun hg3 => ?_)
      · refine ao_nF rfl rfl (by decide) ?_
        refine ao_nF rfl rfl (by decide) ?_
        refine ao_nF rfl rfl (by decide) ?_
        refine ao_nF rfl rfl (by decide) ?_
        refine ao1 (by decide) (o_pick_t (v := .bool _) rfl rfl) ?_
        exact ao_nil (Out.mk (by rfl) (by repeat (first | exact SubX.refl _ _ | refine SubX.at ?_ | refine SubX.put rfl ?_)))
      · refine ao_y1 rfl rfl (by decide) (o_move (v := .pl _) rfl) ?_
        exact absurd hg3 (by simp)
    repeat (refine then_nrm ?_)
    refine aw_cond rfl (fun hc => ?_) (fun hc => ?_)
    · repeat (refine aw_seq ?_)
      refine aw_region ?_
      refine ao1 (by decide) (V1.up (o_build (cs := [.int .i64 0, .nsl, .int .i64 0]) rfl)) ?_
      refine ao2 (by rintro _ ⟨⟩) (w_storeW (sz := 3) rfl rfl rfl rfl rfl rfl rfl rfl (Nat.le_of_ble_eq_true rfl)) ?_
      refine ao1 (by decide) (o_assign (v := .int _ _) rfl) ?_
      refine ao_nil ?_
      try dsimp only [AV.up, put, List.set_cons_zero]
      repeat (first | refine then_nrm ?_ | refine then_ret ?_ | refine aw_ret ?_)
      exact e_done hB (r_cellR rfl (lk rfl rfl) rfl rfl rfl (r_tmp rfl .nil)) rfl rfl
    · cases hc
  | [x], _ =>
    rw [show readN [x] = (noNote, 3) by rw [readN, if_pos (.inl (by simp))]]
    repeat (first | refine then_nrm ?_ | refine aw_seq ?_)
    refine aw_out 18 (.bool true) ?_ ?_
    · refine ao1 (by decide) (o_move (v := .pl _) rfl) ?_
      refine ao1 (by decide) (o_lenp rfl) ?_
      refine ao1 (by decide) (o_lt rfl rfl) ?_
      refine ao1 (by decide) (o_move (v := .bool _) rfl) ?_
      refine ao_split rfl rfl (fun hg3 => ?_) (fun hg3 => ?_)
      · refine ao_nF rfl rfl (by decide) ?_
        refine ao_nF rfl rfl (by decide) ?_
        refine ao_nF rfl rfl (by decide) ?_
        refine ao_nF rfl rfl (by decide) ?_
        refine ao1 (by decide) (o_pick_t (v := .bool _) rfl rfl) ?_
        exact ao_nil (Out.mk (by rfl) (by repeat (first | exact SubX.refl _ _ | refine SubX.at ?_ | refine SubX.put rfl ?_)))
      · refine ao_y1 rfl rfl (by decide) (o_move (v := .pl _) rfl) ?_
        exact absurd hg3 (by simp)
    repeat (refine then_nrm ?_)
    refine aw_cond rfl (fun hc => ?_) (fun hc => ?_)
    · repeat (refine aw_seq ?_)
      refine aw_region ?_
      refine ao1 (by decide) (V1.up (o_build (cs := [.int .i64 0, .nsl, .int .i64 0]) rfl)) ?_
      refine ao2 (by rintro _ ⟨⟩) (w_storeW (sz := 3) rfl rfl rfl rfl rfl rfl rfl rfl (Nat.le_of_ble_eq_true rfl)) ?_
      refine ao1 (by decide) (o_assign (v := .int _ _) rfl) ?_
      refine ao_nil ?_
      try dsimp only [AV.up, put, List.set_cons_zero]
      repeat (first | refine then_nrm ?_ | refine then_ret ?_ | refine aw_ret ?_)
      exact e_done hB (r_cellR rfl (lk rfl rfl) rfl rfl rfl (r_tmp rfl .nil)) rfl rfl
    · cases hc
  | x :: y :: r, hb =>
    have hr : ((x :: y :: r).map brow)[(0 : Int).toNat]? = some (brow x) := rfl
    have hx256 : x.toNat < 256 := x.toNat_lt
    have hy256 : y.toNat < 256 := y.toNat_lt
    repeat (first | refine then_nrm ?_ | refine aw_seq ?_)
    refine aw_out 18 (.bool (!(decide (x.toNat = 4)))) ?_ ?_
    · refine ao1 (by decide) (o_move (v := .pl _) rfl) ?_
      refine ao1 (by decide) (o_lenp rfl) ?_
      refine ao1 (by decide) (o_lt rfl rfl) ?_
      refine ao1 (by decide) (o_move (v := .bool _) rfl) ?_
      refine ao_split rfl rfl (fun hg3 => ?_) (fun hg3 => ?_)
      · refine ao_nF rfl rfl (by decide) ?_
        refine ao_nF rfl rfl (by decide) ?_
        refine ao_nF rfl rfl (by decide) ?_
        refine ao_nF rfl rfl (by decide) ?_
        refine ao1 (by decide) (o_pick_t (v := .bool _) rfl rfl) ?_
        exact ao_nil (Out.mk (by (refine congrArg AV.bool ?_; ((simp_all; omega)))) (by repeat (first | exact SubX.refl _ _ | refine SubX.at ?_ | refine SubX.put rfl ?_)))
      · refine ao_y1 rfl rfl (by decide) (o_move (v := .pl _) rfl) ?_
        refine ao_y1 rfl rfl (by decide) (w_indexAddrpN rfl rfl hr rfl) ?_
        refine ao_y1 rfl rfl (by decide) (o_load1p (v := .int _ _) rfl hr rfl) ?_
        refine ao_y1 rfl rfl (by decide) (o_ne rfl rfl) ?_
        refine ao1 (by decide) (o_pick_f (v := .bool _) rfl rfl) ?_
        exact ao_nil (Out.mk (by (refine congrArg AV.bool ?_; (grind))) (by repeat (first | exact SubX.refl _ _ | refine SubX.at ?_ | refine SubX.put rfl ?_)))
    repeat (refine then_nrm ?_)
    refine aw_cond rfl (fun hc => ?_) (fun hc => ?_)
    · have hx : x ≠ 4 := by rintro rfl; simp at hc
      rw [show readN (x :: y :: r) = (noNote, 3) by rw [readN, if_pos (.inr (by exact hx))]]
      repeat (refine aw_seq ?_)
      refine aw_region ?_
      refine ao1 (by decide) (V1.up (o_build (cs := [.int .i64 0, .nsl, .int .i64 0]) rfl)) ?_
      refine ao2 (by rintro _ ⟨⟩) (w_storeW (sz := 3) rfl rfl rfl rfl rfl rfl rfl rfl (Nat.le_of_ble_eq_true rfl)) ?_
      refine ao1 (by decide) (o_assign (v := .int _ _) rfl) ?_
      refine ao_nil ?_
      try dsimp only [AV.up, put, List.set_cons_zero]
      repeat (first | refine then_nrm ?_ | refine then_ret ?_ | refine aw_ret ?_)
      exact e_done hB (r_cellR rfl (lk rfl rfl) rfl rfl rfl (r_tmp rfl .nil)) rfl rfl
    have hx : x = 4 := by
      have : x.toNat = 4 := by simpa using hc
      exact UInt8.toNat_inj.1 this
    subst hx
    clear hr hc
    have hr : ((4 :: y :: r).map brow)[(1 : Int).toNat]? = some (brow y) := rfl
    repeat (first | refine then_nrm ?_ | refine aw_seq ?_ | refine aw_skip ?_)
    refine aw_region ?_
    refine ao1 (by decide) (o_move (v := .pl _) rfl) ?_
    refine ao1 (by decide) (w_indexAddrpN rfl rfl hr rfl) ?_
    refine ao1 (by decide) (o_load1p (v := .int _ _) rfl hr rfl) ?_
    refine ao1 (by decide) (o_conv_int (r := (y.toNat : Int)) rfl (wrap64_ok (by omega) (by omega))) ?_
    refine ao1 (by decide) (V1.up (o_build (cs := [.int .i64 (y.toNat : Int), .nsl, .int .i64 0]) rfl)) ?_
    refine ao2 (by rintro _ ⟨⟩; decide) (o_allocL (sz := 3) rfl (by decide) rfl) ?_
    refine ao2 (by rintro _ ⟨⟩) (w_storeW (sz := 3) rfl rfl rfl rfl rfl rfl rfl rfl (Nat.le_of_ble_eq_true rfl)) ?_
    refine ao_nil ?_
    try dsimp only [put, List.length_cons, List.length_nil, Nat.reduceAdd, AV.up, List.cons_append, List.nil_append, List.set_cons_zero, List.set_cons_succ]
    clear hr
    repeat (first | refine then_nrm ?_ | refine aw_seq ?_)
    refine aw_region ?_
    refine ao1 (by decide) (w_fieldAddr rfl (lk rfl rfl) rfl (by decide)) ?_
    refine ao1 (by decide) (w_load1 (v := .int _ _) rfl (lk rfl rfl) rfl rfl rfl) ?_
    refine ao1 (by decide) (o_eq rfl rfl) ?_
    refine ao_nil ?_
    try dsimp only [Nat.reduceAdd]
    repeat (refine then_nrm ?_)
    refine aw_cond rfl (fun hc => ?_) (fun hc => ?_)
    · have hy : y = 4 := by
        have : (y.toNat : Int) = 4 := by simpa using hc
        exact UInt8.toNat_inj.1 (by show y.toNat = 4; omega)
      subst hy
      clear hc
      repeat (refine aw_seq ?_)
      refine aw_region ?_
      refine ao1 (by decide) (o_move (v := .pl _) rfl) ?_
      refine ao1 (by decide) (o_lenp rfl) ?_
      refine ao1 (by decide) (o_ne rfl rfl) ?_
      refine ao_nil ?_
      repeat (refine then_nrm ?_)
      refine aw_cond rfl (fun hc => ?_) (fun hc => ?_)
      · have hl : r.length + 1 + 1 ≠ 10 := by simp at hc; omega
        rw [show readN (4 :: 4 :: r) = (noNote, 3) by rw [readN, if_neg (by simp), if_pos (by rfl), if_pos (by exact hl)]]
        repeat (refine aw_seq ?_)
        refine aw_region ?_
        refine ao1 (by decide) (V1.up (o_build (cs := [.int .i64 0, .nsl, .int .i64 0]) rfl)) ?_
        refine ao2 (by rintro _ ⟨⟩) (w_storeW (sz := 3) rfl rfl rfl rfl rfl rfl rfl rfl (Nat.le_of_ble_eq_true rfl)) ?_
        refine ao1 (by decide) (o_assign (v := .int _ _) rfl) ?_
        refine ao_nil ?_
        try dsimp only [AV.up, put, List.set_cons_zero]
        repeat (first | refine then_nrm ?_ | refine then_ret ?_ | refine aw_ret ?_)
        exact e_done hB (r_cellR rfl (lk rfl rfl) rfl rfl rfl (r_tmp rfl .nil)) rfl rfl
      have hl : r.length = 8 := by simp at hc; omega
      clear hc
      have hun := unbe_lt r
      rw [hl, show (256 : Nat) ^ 8 = 18446744073709551616 by decide] at hun
      repeat (first | refine then_nrm ?_ | refine aw_seq ?_ | refine aw_skip ?_)
      refine aw_region ?_
      refine ao1 (by decide) (o_assign (v := .int _ _) rfl) ?_
      refine ao_nil ?_
      repeat (first | refine then_nrm ?_ | refine aw_seq ?_)
      refine aw_region ?_
      refine ao1 (by decide) (o_move (v := .pl _) rfl) ?_
      refine ao1 (by decide) (o_slicepF (sz := 1) (l := 2) (ys := r.map brow) rfl (.some rfl rfl) (by simp) (bytes_len1 _) rfl) ?_
      refine ao1 (by decide) (o_lenp rfl) ?_
      refine ao1 (by decide) (o_move (v := .int _ _) rfl) ?_
      refine ao_nil ?_
      repeat (first | refine then_nrm ?_ | refine aw_block ?_)
      refine aw_loop (G := Nat) (fun i => i ≤ 8) (fun i => [(2, .pt (Lid H.length 0) 0 0 0), (3, .int .i64 0), (4, .pt (Lid H.length 1) 0 0 0), (5, .int .u64 ((unbe (r.take i) : Nat) : Int)), (33, .pl (r.map brow)), (34, .int .i64 ((r.length : Nat) : Int)), (35, .int .i64 (i : Int))]) (fun i => H ++ [⟨0, 3, [[.int .i64 0, .nsl, .int .i64 0]]⟩, ⟨0, 3, [eNote ⟨4, [], 0⟩]⟩]) (fun i => 8 - i) 0 (Nat.zero_le _) (by rw [show r.length = (r.map brow).length by simp]; exact (by repeat (first | exact Sub.nil | refine Sub.cons (by rfl) ?_))) (.inl rfl) ?_
      intro i hi
      have hui := unbe_lt (r.take i)
      rw [List.length_take, hl, show min i 8 = i by omega] at hui
      repeat (refine aw_seq ?_)
      refine aw_region ?_
      refine ao1 (by decide) (o_lt rfl rfl) ?_
      refine ao_nil ?_
      repeat (first | refine then_nrm ?_ | refine aw_seq ?_)
      refine aw_cond rfl (fun hc => ?_) (fun hc => ?_)
      · have hi8 : i < 8 := by simp at hc; omega
        obtain ⟨c, hrc, _⟩ := get_in (l := r) (k := i) (by omega)
        have hr := map_get brow hrc
        have hc256 : c.toNat < 256 := c.toNat_lt
        have hst := take_get hrc
        have h7 : (256 : Nat) ^ i ≤ 256 ^ 7 := Nat.pow_le_pow_right (by decide) (by omega)
        have h72 : (256 : Nat) ^ 7 = 72057594037927936 := by decide
        have hun1 : unbe (r.take (i + 1)) = unbe (r.take i) * 256 + c.toNat := by rw [hst, unbe_snoc]
        repeat (first | refine then_nrm ?_ | refine aw_seq ?_ | refine aw_block ?_ | refine aw_skip ?_)
        refine aw_region ?_
        refine ao1 (by decide) (w_indexAddrpN rfl rfl hr rfl) ?_
        refine ao1 (by decide) (o_load1p (v := .int _ _) rfl hr rfl) ?_
        refine ao1 (by decide) (o_assign (v := .int _ _) rfl) ?_
        refine ao_nil ?_
        repeat (refine then_nrm ?_)
        refine aw_region ?_
        refine ao1 (by decide) (o_move (v := .int _ _) rfl) ?_
        refine ao1 (by decide) (o_shl (r := ((unbe (r.take i) * 256 : Nat) : Int)) rfl rfl (by decide) (by rw [show ((unbe (r.take i) : Nat) : Int) * 2 ^ min (8 : Int).toNat IntKind.u64.bits = ((unbe (r.take i) * 256 : Nat) : Int) by push_cast; rfl]; exact u64_wrap _ (by omega))) ?_
        refine ao1 (by decide) (o_move (v := .int _ _) rfl) ?_
        refine ao1 (by decide) (o_conv_int (r := (c.toNat : Int)) rfl (u64_wrap _ (by omega))) ?_
        refine ao1 (by decide) (o_or (r := ((unbe (r.take (i + 1)) : Nat) : Int)) rfl rfl (by rw [u64_or _ _ (by omega) (by omega), or256 hc256, hun1])) ?_
        refine ao1 (by decide) (o_assign (v := .int _ _) rfl) ?_
        refine ao_nil ?_
        repeat (first | refine then_nrm ?_ | refine blk_nrm ?_)
        refine aw_region ?_
        refine ao1 (by decide) (o_add (r := ((i + 1 : Nat) : Int)) rfl rfl (wrap64_ok (by omega) (by omega))) ?_
        refine ao1 (by decide) (o_move (v := .int _ _) rfl) ?_
        refine ao_nil ?_
        repeat (refine then_nrm ?_)
        exact ⟨i + 1, by omega, by omega, (by repeat (first | exact Sub.nil | refine Sub.cons (by rfl) ?_)), .inl rfl⟩
      · have hi8 : i = 8 := by simp at hc; omega
        subst hi8
        rw [List.take_of_length_le (by omega)]
        by_cases ht : unbe r ≤ 4611686018427387904
        · have hm : lmay ⟨4, [], (unbe r : Int)⟩ = true := by rw [lmay4, tm_iff]; omega
          rw [show readN (4 :: 4 :: r) = (⟨4, [], (unbe r : Int)⟩, 0) by rw [readN, if_neg (by simp), if_pos (by rfl), if_neg (by simp [hl])]; exact if_pos ht]
          have cm := fun H => lease_may ⟨4, [], (unbe r : Int)⟩ (by simp) H
          rw [hm] at cm
          repeat (first | refine then_nrm ?_ | refine then_brk ?_ | refine blk_hit ?_ | refine aw_exit ?_)
          refine aw_region ?_
          refine ao1 (by decide) (o_move (v := .int _ _) rfl) ?_
          refine ao1 (by decide) (o_conv_int (r := (unbe r : Int)) rfl (wrap64_ok (by omega) (by omega))) ?_
          refine ao1 (by decide) (w_fieldAddr rfl (lk rfl rfl) rfl (by decide)) ?_
          refine ao2 (by rintro _ ⟨⟩) (w_storeP (sz := 1) (v := .int _ _) (r' := [_, _, _]) rfl rfl rfl rfl rfl rfl rfl rfl (Nat.le_of_ble_eq_true rfl) rfl) ?_
          refine ao_nil ?_
          try dsimp only [put, Nat.reduceAdd, List.set_cons_zero, List.set_cons_succ]
          repeat (first | refine then_nrm ?_ | refine aw_seq ?_)
          refine aw_region ?_
          refine ao1 (by decide) (w_loadR rfl (lk rfl rfl) rfl rfl rfl) ?_
          refine ao_ret (cm _) rfl (by decide) ?_
          refine ao1 (by decide) (o_not rfl) ?_
          refine ao_nil ?_
          repeat (refine then_nrm ?_)
          refine aw_cond rfl (fun hc => ?_) (fun hc => ?_)
          · cases hc
          repeat (first | refine then_nrm ?_ | refine aw_seq ?_ | refine aw_skip ?_)
          refine aw_region ?_
          refine ao1 (by decide) (w_loadR rfl (lk rfl rfl) rfl rfl rfl) ?_
          refine ao2 (by rintro _ ⟨⟩) (w_storeW (sz := 3) rfl rfl rfl rfl rfl rfl rfl rfl (Nat.le_of_ble_eq_true rfl)) ?_
          refine ao1 (by decide) (o_assign (v := .int _ _) rfl) ?_
          refine ao_nil ?_
          try dsimp only [put, List.set_cons_zero]
          repeat (first | refine then_nrm ?_ | refine aw_ret ?_)
          exact e_done hB (r_cellR rfl (lk rfl rfl) rfl rfl rfl (r_tmp rfl .nil)) rfl rfl
        · rw [show readN (4 :: 4 :: r) = (noNote, 3) by rw [readN, if_neg (by simp), if_pos (by rfl), if_neg (by simp [hl])]; exact if_neg ht]
          obtain ⟨z, hz⟩ : ∃ z : Int, IntKind.i64.wrap ((unbe r : Nat) : Int) = z := ⟨_, rfl⟩
          have hz2 : lmay ⟨4, [], z⟩ = false := by
            rw [lmay4]
            cases h : tm z with
            | false => rfl
            | true =>
              exfalso
              rw [tm_iff] at h
              rw [IntKind.wrap_i64] at hz
              omega
          have cm := fun H => lease_may ⟨4, [], z⟩ (by simp) H
          rw [hz2] at cm
          repeat (first | refine then_nrm ?_ | refine then_brk ?_ | refine blk_hit ?_ | refine aw_exit ?_)
          refine aw_region ?_
          refine ao1 (by decide) (o_move (v := .int _ _) rfl) ?_
          refine ao1 (by decide) (o_conv_int (r := z) rfl hz) ?_
          refine ao1 (by decide) (w_fieldAddr rfl (lk rfl rfl) rfl (by decide)) ?_
          refine ao2 (by rintro _ ⟨⟩) (w_storeP (sz := 1) (v := .int _ _) (r' := [_, _, _]) rfl rfl rfl rfl rfl rfl rfl rfl (Nat.le_of_ble_eq_true rfl) rfl) ?_
          refine ao_nil ?_
          try dsimp only [put, Nat.reduceAdd, List.set_cons_zero, List.set_cons_succ]
          repeat (first | refine then_nrm ?_ | refine aw_seq ?_)
          refine aw_region ?_
          refine ao1 (by decide) (w_loadR rfl (lk rfl rfl) rfl rfl rfl) ?_
          refine ao_ret (cm _) rfl (by decide) ?_
          refine ao1 (by decide) (o_not rfl) ?_
          refine ao_nil ?_
          repeat (refine then_nrm ?_)
          refine aw_cond rfl (fun hc => ?_) (fun hc => ?_)
          · repeat (refine aw_seq ?_)
            refine aw_region ?_
            refine ao1 (by decide) (V1.up (o_build (cs := [.int .i64 0, .nsl, .int .i64 0]) rfl)) ?_
            refine ao2 (by rintro _ ⟨⟩) (w_storeW (sz := 3) rfl rfl rfl rfl rfl rfl rfl rfl (Nat.le_of_ble_eq_true rfl)) ?_
            refine ao1 (by decide) (o_assign (v := .int _ _) rfl) ?_
            refine ao_nil ?_
            try dsimp only [AV.up, put, List.set_cons_zero]
            repeat (first | refine then_nrm ?_ | refine then_ret ?_ | refine aw_ret ?_)
            exact e_done hB (r_cellR rfl (lk rfl rfl) rfl rfl rfl (r_tmp rfl .nil)) rfl rfl
          · cases hc
    · have hy : y ≠ 4 := by rintro rfl; simp at hc
      clear hc
      have hrl := readSet_len r
      have hrd : readN (4 :: y :: r) = if (readSet r).2 = 0 ∧ lmay ⟨y.toNat, (readSet r).1, 0⟩ = true then (⟨y.toNat, (readSet r).1, 0⟩, 0) else (noNote, 3) := by rw [readN, if_neg (by simp), if_neg (by exact hy)]; rfl
      have cs := fun H => code_ReadSet r H
      generalize readSet r = z at cs hrl hrd
      obtain ⟨l, e⟩ := z
      simp only at cs hrl hrd
      repeat (refine aw_seq ?_)
      refine aw_region ?_
      refine ao1 (by decide) (o_move (v := .pl _) rfl) ?_
      refine ao1 (by decide) (o_slicepF (sz := 1) (l := 2) (ys := r.map brow) rfl (.some rfl rfl) (by simp) (bytes_len1 _) rfl) ?_
      refine ao_ret (cs _) rfl (by decide) ?_
      refine ao1 (by decide) (o_move (v := .tup _) rfl) ?_
      refine ao1 (by decide) (o_extract (v := .pl _) rfl rfl) ?_
      refine ao1 (by decide) (o_extract (v := .int _ _) rfl rfl) ?_
      refine ao1 (by decide) (o_assign (v := .pl _) rfl) ?_
      refine ao1 (by decide) (o_assign (v := .int _ _) rfl) ?_
      refine ao_nil ?_
      repeat (first | refine then_nrm ?_ | refine aw_seq ?_)
      refine aw_region ?_
      refine ao1 (by decide) (o_move (v := .int _ _) rfl) ?_
      refine ao1 (by decide) (o_ne rfl rfl) ?_
      refine ao_nil ?_
      repeat (refine then_nrm ?_)
      refine aw_cond rfl (fun hc => ?_) (fun hc => ?_)
      · have he : ¬ e = 0 := by simpa using hc
        rw [hrd, if_neg (fun h => he h.1)]
        repeat (refine aw_seq ?_)
        refine aw_region ?_
        refine ao1 (by decide) (V1.up (o_build (cs := [.int .i64 0, .nsl, .int .i64 0]) rfl)) ?_
        refine ao2 (by rintro _ ⟨⟩) (w_storeW (sz := 3) rfl rfl rfl rfl rfl rfl rfl rfl (Nat.le_of_ble_eq_true rfl)) ?_
        refine ao1 (by decide) (o_assign (v := .int _ _) rfl) ?_
        refine ao_nil ?_
        try dsimp only [AV.up, put, List.set_cons_zero]
        repeat (first | refine then_nrm ?_ | refine then_ret ?_ | refine aw_ret ?_)
        exact e_done hB (r_cellR rfl (lk rfl rfl) rfl rfl rfl (r_tmp rfl .nil)) rfl rfl
      have he : e = 0 := by simpa using hc
      subst he
      clear hc
      have cm := fun H => lease_may ⟨(y.toNat : Int), l, 0⟩ (by show l.length ≤ 1000000; omega) H
      repeat (first | refine then_nrm ?_ | refine aw_skip ?_)
      refine aw_region ?_
      refine ao1 (by decide) (o_move (v := .pl _) rfl) ?_
      refine ao1 (by decide) (w_fieldAddr rfl (lk rfl rfl) rfl (by decide)) ?_
      refine ao2 (by rintro _ ⟨⟩) (w_storeP (sz := 1) (v := .pl _) (r' := [_, _, _]) rfl rfl rfl rfl rfl rfl rfl rfl (Nat.le_of_ble_eq_true rfl) rfl) ?_
      refine ao_nil ?_
      try dsimp only [put, Nat.reduceAdd, AV.up1, List.set_cons_zero, List.set_cons_succ]
      repeat (first | refine then_nrm ?_ | refine aw_seq ?_)
      refine aw_region ?_
      refine ao1 (by decide) (w_loadR rfl (lk rfl rfl) rfl rfl rfl) ?_
      refine ao_ret (cm _) rfl (by decide) ?_
      refine ao1 (by decide) (o_not rfl) ?_
      refine ao_nil ?_
      repeat (refine then_nrm ?_)
      refine aw_cond rfl (fun hc => ?_) (fun hc => ?_)
      · have hm : lmay ⟨(y.toNat : Int), l, 0⟩ = false := by simpa using hc
        rw [hrd, if_neg (fun h => by rw [hm] at h; cases h.2)]
        repeat (refine aw_seq ?_)
        refine aw_region ?_
        refine ao1 (by decide) (V1.up (o_build (cs := [.int .i64 0, .nsl, .int .i64 0]) rfl)) ?_
        refine ao2 (by rintro _ ⟨⟩) (w_storeW (sz := 3) rfl rfl rfl rfl rfl rfl rfl rfl (Nat.le_of_ble_eq_true rfl)) ?_
        refine ao1 (by decide) (o_assign (v := .int _ _) rfl) ?_
        refine ao_nil ?_
        try dsimp only [AV.up, put, List.set_cons_zero]
        repeat (first | refine then_nrm ?_ | refine then_ret ?_ | refine aw_ret ?_)
        exact e_done hB (r_cellR rfl (lk rfl rfl) rfl rfl rfl (r_tmp rfl .nil)) rfl rfl
      · have hm : lmay ⟨(y.toNat : Int), l, 0⟩ = true := by simpa using hc
        rw [hrd, if_pos ⟨rfl, hm⟩]
        repeat (first | refine then_nrm ?_ | refine aw_seq ?_ | refine aw_skip ?_)
        refine aw_region ?_
        refine ao1 (by decide) (w_loadR rfl (lk rfl rfl) rfl rfl rfl) ?_
        refine ao2 (by rintro _ ⟨⟩) (w_storeW (sz := 3) rfl rfl rfl rfl rfl rfl rfl rfl (Nat.le_of_ble_eq_true rfl)) ?_
        refine ao1 (by decide) (o_assign (v := .int _ _) rfl) ?_
        refine ao_nil ?_
        try dsimp only [put, List.set_cons_zero]
        repeat (first | refine then_nrm ?_ | refine aw_ret ?_)
        exact e_done hB (r_cellR rfl (lk rfl rfl) rfl rfl rfl (r_tmp rfl .nil)) rfl rfl
end Go.Av

namespace Go.Av
open Go.Proofs
set_option maxRecDepth 10000
set_option linter.unusedSimpArgs false
set_option linter.unusedVariables false

theorem unbe_cons (c : UInt8) (l : List UInt8) : unbe (c :: l) = c.toNat * 256 ^ l.length + unbe l := by
  obtain ⟨n, hn⟩ : ∃ n, l.length = n := ⟨_, rfl⟩
  induction n generalizing l with
  | zero => rw [List.eq_nil_of_length_eq_zero hn]; simp [unbe]
  | succ n ih =>
    rcases List.eq_nil_or_concat l with rfl | ⟨l', d, rfl⟩
    · cases hn
    · rw [List.concat_eq_append] at hn ⊢
      have hl' : l'.length = n := by simpa using hn
      rw [show c :: (l' ++ [d]) = (c :: l') ++ [d] from rfl, unbe_snoc, unbe_snoc, ih l' hl', hn, hl', Nat.pow_succ, Nat.add_mul, Nat.mul_assoc, Nat.add_assoc]
theorem unbe_top {c : UInt8} {l : List UInt8} (i : Nat) (hi : i ≤ l.length) (hc : c.toNat ≤ 64) : unbe ((c :: l).take (i + 1)) < 65 * 256 ^ i := by
  show unbe (c :: l.take i) < _
  rw [unbe_cons]
  have h1 := unbe_lt (l.take i)
  have h2 : (l.take i).length = i := by rw [List.length_take]; omega
  rw [h2] at h1 ⊢
  have h3 : (c.toNat + 1) * 256 ^ i ≤ 65 * 256 ^ i := Nat.mul_le_mul_right _ (by omega)
  rw [Nat.add_mul, Nat.one_mul] at h3
  omega
set_option maxHeartbeats 0 in
theorem ref19_Read (b : List UInt8) (H : Heap) (hb : b.length ≤ 100000) : AC Tryd.prog 28 [.pl (b.map brow)] H (Ret (.tup [.agg (eNote (readN b).1), .int .i64 (readN b).2]) H) := by
  refine AC.body (N := 79) [.cell 2 26, .tmp 3] Tryd.func28 rfl rfl rfl (Nat.le_of_ble_eq_true rfl) fun B hB => ?_
  repeat (refine aw_seq ?_)
  refine aw_region ?_
  refine ao2 (by rintro _ ⟨⟩; decide) (o_allocL (sz := 3) rfl (by decide) rfl) ?_
  refine ao1 (by decide) (o_assign (v := .int _ _) rfl) ?_
  refine ao_nil ?_
  try dsimp only [List.length_nil, put, List.nil_append]
  match b, hb with
  | [], _ =>
    rw [show readN [] = (noNote, 3) by rw [readN, if_pos (.inl (by simp))]]
    repeat (first | refine then_nrm ?_ | refine aw_seq ?_)
    refine aw_out 28 (.bool true) ?_ ?_
    · refine ao1 (by decide) (o_move (v := .pl _) rfl) ?_
      refine ao1 (by decide) (o_lenp rfl) ?_
      refine ao1 (by decide) (o_lt rfl rfl) ?_
      refine ao1 (by decide) (o_move (v := .bool _) rfl) ?_
      refine ao_split rfl rfl (fun hg3 => ?_) (fun hg3 => ?_)
      · refine ao_nF rfl rfl (by decide) ?_
        refine ao_nF rfl rfl (by decide) ?_
        refine ao_nF rfl rfl (by decide) ?_
        refine ao_nF rfl rfl (by decide) ?_
        refine ao1 (by decide) (o_pick_t (v := .bool _) rfl rfl) ?_
        refine ao1 (by decide) (o_move (v := .bool _) rfl) ?_
        refine ao_nF rfl rfl (by decide) ?_
        refine ao_nF rfl rfl (by decide) ?_
        refine ao_nF rfl rfl (by decide) ?_
        refine ao_nF rfl rfl (by decide) ?_
        refine ao1 (by decide) (o_pick_t (v := .bool _) rfl rfl) ?_
        refine ao1 (by decide) (o_move (v := .bool _) rfl) ?_
        refine ao_nF rfl rfl (by decide) ?_
        refine ao_nF rfl rfl (by decide) ?_
        refine ao_nF rfl rfl (by decide) ?_
        refine ao_nF rfl rfl (by decide) ?_
        refine ao1 (by decide) (o_pick_t (v := .bool _) rfl rfl) ?_
        exact ao_nil (Out.mk (by rfl) (by repeat (first | exact SubX.refl _ _ | refine SubX.at ?_ | refine SubX.put rfl ?_)))
      · refine ao_y1 rfl rfl (by decide) (o_move (v := .pl _) rfl) ?_
        exact absurd hg3 (by simp)
    repeat (refine then_nrm ?_)
    refine aw_cond rfl (fun hc => ?_) (fun hc => ?_)
    · repeat (refine aw_seq ?_)
      refine aw_region ?_
      refine ao1 (by decide) (V1.up (o_build (cs := [.int .i64 0, .nsl, .int .i64 0]) rfl)) ?_
      refine ao2 (by rintro _ ⟨⟩) (w_storeW (sz := 3) rfl rfl rfl rfl rfl rfl rfl rfl (Nat.le_of_ble_eq_true rfl)) ?_
      refine ao1 (by decide) (o_assign (v := .int _ _) rfl) ?_
      refine ao_nil ?_
      try dsimp only [AV.up, put, List.set_cons_zero]
      repeat (first | refine then_nrm ?_ | refine then_ret ?_ | refine aw_ret ?_)
      exact e_done hB (r_cellR rfl (lk rfl rfl) rfl rfl rfl (r_tmp rfl .nil)) rfl rfl
    · cases hc
  | [x], _ =>
    rw [show readN [x] = (noNote, 3) by rw [readN, if_pos (.inl (by simp))]]
    repeat (first | refine then_nrm ?_ | refine aw_seq ?_)
    refine aw_out 28 (.bool true) ?_ ?_
    · refine ao1 (by decide) (o_move (v := .pl _) rfl) ?_
      refine ao1 (by decide) (o_lenp rfl) ?_
      refine ao1 (by decide) (o_lt rfl rfl) ?_
      refine ao1 (by decide) (o_move (v := .bool _) rfl) ?_
      refine ao_split rfl rfl (fun hg3 => ?_) (fun hg3 => ?_)
      · refine ao_nF rfl rfl (by decide) ?_
        refine ao_nF rfl rfl (by decide) ?_
        refine ao_nF rfl rfl (by decide) ?_
        refine ao_nF rfl rfl (by decide) ?_
        refine ao1 (by decide) (o_pick_t (v := .bool _) rfl rfl) ?_
        refine ao1 (by decide) (o_move (v := .bool _) rfl) ?_
        refine ao_nF rfl rfl (by decide) ?_
        refine ao_nF rfl rfl (by decide) ?_
        refine ao_nF rfl rfl (by decide) ?_
        refine ao_nF rfl rfl (by decide) ?_
        refine ao1 (by decide) (o_pick_t (v := .bool _) rfl rfl) ?_
        refine ao1 (by decide) (o_move (v := .bool _) rfl) ?_
        refine ao_nF rfl rfl (by decide) ?_
        refine ao_nF rfl rfl (by decide) ?_
        refine ao_nF rfl rfl (by decide) ?_
        refine ao_nF rfl rfl (by decide) ?_
        refine ao1 (by decide) (o_pick_t (v := .bool _) rfl rfl) ?_
        exact ao_nil (Out.mk (by rfl) (by repeat (first | exact SubX.refl _ _ | refine SubX.at ?_ | refine SubX.put rfl ?_)))
      · refine ao_y1 rfl rfl (by decide) (o_move (v := .pl _) rfl) ?_
        exact absurd hg3 (by simp)
    repeat (refine then_nrm ?_)
    refine aw_cond rfl (fun hc => ?_) (fun hc => ?_)
    · repeat (refine aw_seq ?_)
      refine aw_region ?_
      refine ao1 (by decide) (V1.up (o_build (cs := [.int .i64 0, .nsl, .int .i64 0]) rfl)) ?_
      refine ao2 (by rintro _ ⟨⟩) (w_storeW (sz := 3) rfl rfl rfl rfl rfl rfl rfl rfl (Nat.le_of_ble_eq_true rfl)) ?_
      refine ao1 (by decide) (o_assign (v := .int _ _) rfl) ?_
      refine ao_nil ?_
      try dsimp only [AV.up, put, List.set_cons_zero]
      repeat (first | refine then_nrm ?_ | refine then_ret ?_ | refine aw_ret ?_)
      exact e_done hB (r_cellR rfl (lk rfl rfl) rfl rfl rfl (r_tmp rfl .nil)) rfl rfl
    · cases hc
  | x :: y :: r, hb =>
    have hr : ((x :: y :: r).map brow)[(0 : Int).toNat]? = some (brow x) := rfl
    have hr1 : ((x :: y :: r).map brow)[(1 : Int).toNat]? = some (brow y) := rfl
    have hx256 : x.toNat < 256 := x.toNat_lt
    have hy256 : y.toNat < 256 := y.toNat_lt
    repeat (first | refine then_nrm ?_ | refine aw_seq ?_)
    refine aw_out 28 (.bool (!(decide (x.toNat = 4)) || decide (y.toNat < 1) || decide (4 < y.toNat))) ?_ ?_
    · refine ao1 (by decide) (o_move (v := .pl _) rfl) ?_
      refine ao1 (by decide) (o_lenp rfl) ?_
      refine ao1 (by decide) (o_lt rfl rfl) ?_
      refine ao1 (by decide) (o_move (v := .bool _) rfl) ?_
      refine ao_split rfl rfl (fun hg3 => ?_) (fun hg3 => ?_)
      · refine ao_nF rfl rfl (by decide) ?_
        refine ao_nF rfl rfl (by decide) ?_
        refine ao_nF rfl rfl (by decide) ?_
        refine ao_nF rfl rfl (by decide) ?_
        refine ao1 (by decide) (o_pick_t (v := .bool _) rfl rfl) ?_
        refine ao1 (by decide) (o_move (v := .bool _) rfl) ?_
        refine ao_nF rfl rfl (by decide) ?_
        refine ao_nF rfl rfl (by decide) ?_
        refine ao_nF rfl rfl (by decide) ?_
        refine ao_nF rfl rfl (by decide) ?_
        refine ao1 (by decide) (o_pick_t (v := .bool _) rfl rfl) ?_
        refine ao1 (by decide) (o_move (v := .bool _) rfl) ?_
        refine ao_nF rfl rfl (by decide) ?_
        refine ao_nF rfl rfl (by decide) ?_
        refine ao_nF rfl rfl (by decide) ?_
        refine ao_nF rfl rfl (by decide) ?_
        refine ao1 (by decide) (o_pick_t (v := .bool _) rfl rfl) ?_
        exact ao_nil (Out.mk (by (refine congrArg AV.bool ?_; (clear hr hr1 hB; (simp_all; omega)))) (by repeat (first | exact SubX.refl _ _ | refine SubX.at ?_ | refine SubX.put rfl ?_)))
      · refine ao_y1 rfl rfl (by decide) (o_move (v := .pl _) rfl) ?_
        refine ao_y1 rfl rfl (by decide) (w_indexAddrpN rfl rfl hr rfl) ?_
        refine ao_y1 rfl rfl (by decide) (o_load1p (v := .int _ _) rfl hr rfl) ?_
        refine ao_y1 rfl rfl (by decide) (o_ne rfl rfl) ?_
        refine ao1 (by decide) (o_pick_f (v := .bool _) rfl rfl) ?_
        refine ao1 (by decide) (o_move (v := .bool _) rfl) ?_
        refine ao_split rfl rfl (fun hg9 => ?_) (fun hg9 => ?_)
        · refine ao_nF rfl rfl (by decide) ?_
          refine ao_nF rfl rfl (by decide) ?_
          refine ao_nF rfl rfl (by decide) ?_
          refine ao_nF rfl rfl (by decide) ?_
          refine ao1 (by decide) (o_pick_t (v := .bool _) rfl rfl) ?_
          refine ao1 (by decide) (o_move (v := .bool _) rfl) ?_
          refine ao_nF rfl rfl (by decide) ?_
          refine ao_nF rfl rfl (by decide) ?_
          refine ao_nF rfl rfl (by decide) ?_
          refine ao_nF rfl rfl (by decide) ?_
          refine ao1 (by decide) (o_pick_t (v := .bool _) rfl rfl) ?_
          exact ao_nil (Out.mk (by (refine congrArg AV.bool ?_; (clear hr hr1 hB; (simp_all; omega)))) (by repeat (first | exact SubX.refl _ _ | refine SubX.at ?_ | refine SubX.put rfl ?_)))
        · refine ao_y1 rfl rfl (by decide) (o_move (v := .pl _) rfl) ?_
          refine ao_y1 rfl rfl (by decide) (w_indexAddrp rfl rfl (by omega) hr1 rfl) ?_
          refine ao_y1 rfl rfl (by decide) (o_load1p (v := .int _ _) rfl hr1 rfl) ?_
          refine ao_y1 rfl rfl (by decide) (o_lt rfl rfl) ?_
          refine ao1 (by decide) (o_pick_f (v := .bool _) rfl rfl) ?_
          refine ao1 (by decide) (o_move (v := .bool _) rfl) ?_
          refine ao_split rfl rfl (fun hg15 => ?_) (fun hg15 => ?_)
          · refine ao_nF rfl rfl (by decide) ?_
            refine ao_nF rfl rfl (by decide) ?_
            refine ao_nF rfl rfl (by decide) ?_
            refine ao_nF rfl rfl (by decide) ?_
            refine ao1 (by decide) (o_pick_t (v := .bool _) rfl rfl) ?_
            exact ao_nil (Out.mk (by (refine congrArg AV.bool ?_; (clear hr hr1 hB; (simp_all; omega)))) (by repeat (first | exact SubX.refl _ _ | refine SubX.at ?_ | refine SubX.put rfl ?_)))
          · refine ao_y1 rfl rfl (by decide) (o_move (v := .pl _) rfl) ?_
            refine ao_y1 rfl rfl (by decide) (w_indexAddrp rfl rfl (by omega) hr1 rfl) ?_
            refine ao_y1 rfl rfl (by decide) (o_load1p (v := .int _ _) rfl hr1 rfl) ?_
            refine ao_y1 rfl rfl (by decide) (o_gt rfl rfl) ?_
            refine ao1 (by decide) (o_pick_f (v := .bool _) rfl rfl) ?_
            exact ao_nil (Out.mk (by (refine congrArg AV.bool ?_; (clear hr hr1 hB; grind))) (by repeat (first | exact SubX.refl _ _ | refine SubX.at ?_ | refine SubX.put rfl ?_)))
    repeat (refine then_nrm ?_)
    refine aw_cond rfl (fun hc => ?_) (fun hc => ?_)
    · rw [show readN (x :: y :: r) = (noNote, 3) by
        by_cases hx : x = 4
        · subst hx
          have hy : y.toNat < 1 ∨ 4 < y.toNat := by simpa using hc
          have hy4 : y ≠ 4 := by rintro rfl; have : (4 : UInt8).toNat = 4 := rfl; omega
          rw [readN, if_neg (by simp), if_neg (by exact hy4), if_neg]
          rintro ⟨_, h⟩
          have h' : lmay ⟨(y.toNat : Int), (readSet r).1, 0⟩ = true := h
          rcases lmay_kind h' with ⟨h1, _⟩ | ⟨h1, h2, _⟩
          · have h1' : (y.toNat : Int) = 4 := h1
            omega
          · simp only at h1 h2; omega
        · rw [readN, if_pos (.inr (by exact hx))]]
      repeat (refine aw_seq ?_)
      refine aw_region ?_
      refine ao1 (by decide) (V1.up (o_build (cs := [.int .i64 0, .nsl, .int .i64 0]) rfl)) ?_
      refine ao2 (by rintro _ ⟨⟩) (w_storeW (sz := 3) rfl rfl rfl rfl rfl rfl rfl rfl (Nat.le_of_ble_eq_true rfl)) ?_
      refine ao1 (by decide) (o_assign (v := .int _ _) rfl) ?_
      refine ao_nil ?_
      try dsimp only [AV.up, put, List.set_cons_zero]
      repeat (first | refine then_nrm ?_ | refine then_ret ?_ | refine aw_ret ?_)
      exact e_done hB (r_cellR rfl (lk rfl rfl) rfl rfl rfl (r_tmp rfl .nil)) rfl rfl
    have hxy : (x.toNat = 4 ∧ 1 ≤ y.toNat) ∧ y.toNat ≤ 4 := by
      simp at hc
      omega
    obtain ⟨⟨hx, hy1⟩, hy4⟩ := hxy
    have hx : x = 4 := UInt8.toNat_inj.1 hx
    subst hx
    clear hr hr1 hc
    have hr : ((4 :: y :: r).map brow)[(1 : Int).toNat]? = some (brow y) := rfl
    repeat (first | refine then_nrm ?_ | refine aw_seq ?_ | refine aw_skip ?_)
    refine aw_region ?_
    refine ao1 (by decide) (o_move (v := .pl _) rfl) ?_
    refine ao1 (by decide) (w_indexAddrpN rfl rfl hr rfl) ?_
    refine ao1 (by decide) (o_load1p (v := .int _ _) rfl hr rfl) ?_
    refine ao1 (by decide) (o_conv_int (r := (y.toNat : Int)) rfl (wrap64_ok (by omega) (by omega))) ?_
    refine ao1 (by decide) (V1.up (o_build (cs := [.int .i64 (y.toNat : Int), .nsl, .int .i64 0]) rfl)) ?_
    refine ao2 (by rintro _ ⟨⟩; decide) (o_allocL (sz := 3) rfl (by decide) rfl) ?_
    refine ao2 (by rintro _ ⟨⟩) (w_storeW (sz := 3) rfl rfl rfl rfl rfl rfl rfl rfl (Nat.le_of_ble_eq_true rfl)) ?_
    refine ao_nil ?_
    try dsimp only [put, List.length_cons, List.length_nil, Nat.reduceAdd, AV.up, List.cons_append, List.nil_append, List.set_cons_zero, List.set_cons_succ]
    repeat (first | refine then_nrm ?_ | refine aw_seq ?_)
    refine aw_region ?_
    refine ao1 (by decide) (o_move (v := .pl _) rfl) ?_
    refine ao1 (by decide) (w_indexAddrpN rfl rfl hr rfl) ?_
    refine ao1 (by decide) (o_load1p (v := .int _ _) rfl hr rfl) ?_
    refine ao1 (by decide) (o_eq rfl rfl) ?_
    refine ao_nil ?_
    try dsimp only
    clear hr
    repeat (refine then_nrm ?_)
    refine aw_cond rfl (fun hc => ?_) (fun hc => ?_)
    · have hy : y = 4 := by
        have : (y.toNat : Int) = 4 := by simpa using hc
        exact UInt8.toNat_inj.1 (by show y.toNat = 4; omega)
      subst hy
      clear hc
      by_cases hl : r.length = 8
      case neg =>
        have hl' : r.length + 1 + 1 ≠ 10 := by omega
        rw [show readN (4 :: 4 :: r) = (noNote, 3) by rw [readN, if_neg (by simp), if_pos (by rfl), if_pos (by exact hl')]]
        repeat (refine aw_seq ?_)
        refine aw_out 47 (.bool true) ?_ ?_
        · refine ao1 (by decide) (o_move (v := .pl _) rfl) ?_
          refine ao1 (by decide) (o_lenp rfl) ?_
          refine ao1 (by decide) (o_ne rfl rfl) ?_
          refine ao1 (by decide) (o_move (v := .bool _) rfl) ?_
          refine ao_split rfl rfl (fun hg3 => ?_) (fun hg3 => ?_)
          · refine ao_nF rfl rfl (by decide) ?_
            refine ao_nF rfl rfl (by decide) ?_
            refine ao_nF rfl rfl (by decide) ?_
            refine ao_nF rfl rfl (by decide) ?_
            refine ao1 (by decide) (o_pick_t (v := .bool _) rfl rfl) ?_
            exact ao_nil (Out.mk (by rfl) (by repeat (first | exact SubX.refl _ _ | refine SubX.at ?_ | refine SubX.put rfl ?_)))
          · refine ao_y1 rfl rfl (by decide) (o_move (v := .pl _) rfl) ?_
            exact absurd hg3 (by simp; omega)
        repeat (refine then_nrm ?_)
        refine aw_cond rfl (fun hc => ?_) (fun hc => ?_)
        · repeat (refine aw_seq ?_)
          refine aw_region ?_
          refine ao1 (by decide) (V1.up (o_build (cs := [.int .i64 0, .nsl, .int .i64 0]) rfl)) ?_
          refine ao2 (by rintro _ ⟨⟩) (w_storeW (sz := 3) rfl rfl rfl rfl rfl rfl rfl rfl (Nat.le_of_ble_eq_true rfl)) ?_
          refine ao1 (by decide) (o_assign (v := .int _ _) rfl) ?_
          refine ao_nil ?_
          try dsimp only [AV.up, put, List.set_cons_zero]
          repeat (first | refine then_nrm ?_ | refine then_ret ?_ | refine aw_ret ?_)
          exact e_done hB (r_cellR rfl (lk rfl rfl) rfl rfl rfl (r_tmp rfl .nil)) rfl rfl
        · cases hc
      match r, hl with
      | [], hl => cases hl
      | c0 :: r', hl =>
      have hc0256 : c0.toNat < 256 := c0.toNat_lt
      have hl7 : r'.length = 7 := by simpa using hl
      have hrd : readN (4 :: 4 :: c0 :: r') = if unbe (c0 :: r') ≤ 4611686018427387904 then (⟨4, [], (unbe (c0 :: r') : Int)⟩, 0) else (noNote, 3) := by
        rw [readN, if_neg (by simp), if_pos (by rfl), if_neg (by simp [hl7])]
        rfl
      have hr : ((4 :: 4 :: c0 :: r').map brow)[(2 : Int).toNat]? = some (brow c0) := rfl
      repeat (refine aw_seq ?_)
      refine aw_out 47 (.bool (decide (64 < c0.toNat))) ?_ ?_
      · refine ao1 (by decide) (o_move (v := .pl _) rfl) ?_
        refine ao1 (by decide) (o_lenp rfl) ?_
        refine ao1 (by decide) (o_ne rfl rfl) ?_
        refine ao1 (by decide) (o_move (v := .bool _) rfl) ?_
        refine ao_split rfl rfl (fun hg3 => ?_) (fun hg3 => ?_)
        · refine ao_nF rfl rfl (by decide) ?_
          refine ao_nF rfl rfl (by decide) ?_
          refine ao_nF rfl rfl (by decide) ?_
          refine ao_nF rfl rfl (by decide) ?_
          refine ao1 (by decide) (o_pick_t (v := .bool _) rfl rfl) ?_
          exact ao_nil (Out.mk (by (refine congrArg AV.bool ?_; (clear hB hrd; (simp_all; done)))) (by repeat (first | exact SubX.refl _ _ | refine SubX.at ?_ | refine SubX.put rfl ?_)))
        · refine ao_y1 rfl rfl (by decide) (o_move (v := .pl _) rfl) ?_
          refine ao_y1 rfl rfl (by decide) (w_indexAddrpN rfl rfl hr rfl) ?_
          refine ao_y1 rfl rfl (by decide) (o_load1p (v := .int _ _) rfl hr rfl) ?_
          refine ao_y1 rfl rfl (by decide) (o_gt rfl rfl) ?_
          refine ao1 (by decide) (o_pick_f (v := .bool _) rfl rfl) ?_
          exact ao_nil (Out.mk (by (refine congrArg AV.bool ?_; (clear hB hrd; (simp_all; omega)))) (by repeat (first | exact SubX.refl _ _ | refine SubX.at ?_ | refine SubX.put rfl ?_)))
      clear hr
      repeat (refine then_nrm ?_)
      refine aw_cond rfl (fun hc => ?_) (fun hc => ?_)
      · have hbig : 64 < c0.toNat := of_decide_eq_true hc
        rw [hrd, if_neg (by
          rw [unbe_cons, hl7, show (256 : Nat) ^ 7 = 72057594037927936 by decide]
          omega)]
        repeat (refine aw_seq ?_)
        refine aw_region ?_
        refine ao1 (by decide) (V1.up (o_build (cs := [.int .i64 0, .nsl, .int .i64 0]) rfl)) ?_
        refine ao2 (by rintro _ ⟨⟩) (w_storeW (sz := 3) rfl rfl rfl rfl rfl rfl rfl rfl (Nat.le_of_ble_eq_true rfl)) ?_
        refine ao1 (by decide) (o_assign (v := .int _ _) rfl) ?_
        refine ao_nil ?_
        try dsimp only [AV.up, put, List.set_cons_zero]
        repeat (first | refine then_nrm ?_ | refine then_ret ?_ | refine aw_ret ?_)
        exact e_done hB (r_cellR rfl (lk rfl rfl) rfl rfl rfl (r_tmp rfl .nil)) rfl rfl
      have hsm : c0.toNat ≤ 64 := by have := of_decide_eq_false hc; omega
      clear hc
      have htop := fun i hi => unbe_top (c := c0) (l := r') i hi hsm
      generalize hrr : c0 :: r' = r at hrd htop hl hb hB
      repeat (first | refine then_nrm ?_ | refine aw_seq ?_ | refine aw_skip ?_)
      refine aw_region ?_
      refine ao1 (by decide) (o_assign (v := .int _ _) rfl) ?_
      refine ao_nil ?_
      repeat (first | refine then_nrm ?_ | refine aw_block ?_)
      refine aw_loop (G := Nat) (fun i => i ≤ 8) (fun i => [(0, .pl ((4 :: 4 :: r).map brow)), (2, .pt (Lid H.length 0) 0 0 0), (3, .int .i64 0), (4, .pt (Lid H.length 1) 0 0 0), (5, .int .i64 ((i + 2 : Nat) : Int))]) (fun i => H ++ [⟨0, 3, [[.int .i64 0, .nsl, .int .i64 0]]⟩, ⟨0, 3, [eNote ⟨4, [], (unbe (r.take i) : Int)⟩]⟩]) (fun i => 8 - i) 0 (Nat.zero_le _) (by rw [← hrr]; exact (by repeat (first | exact Sub.nil | refine Sub.cons (by rfl) ?_))) (.inl rfl) ?_
      intro i hi
      have hbd : unbe (r.take i) ≤ 65 * 72057594037927936 := by
        cases i with
        | zero => simp [unbe]
        | succ i =>
          have h1 := htop i (by omega)
          have h2 : (256 : Nat) ^ i ≤ 256 ^ 7 := Nat.pow_le_pow_right (by decide) (by omega)
          have h3 : (256 : Nat) ^ 7 = 72057594037927936 := by decide
          omega
      repeat (refine aw_seq ?_)
      refine aw_region ?_
      refine ao1 (by decide) (o_move (v := .int _ _) rfl) ?_
      refine ao1 (by decide) (o_lt rfl rfl) ?_
      refine ao_nil ?_
      repeat (refine then_nrm ?_)
      refine aw_cond rfl (fun hc => ?_) (fun hc => ?_)
      · have hi8 : i < 8 := by simp at hc; omega
        obtain ⟨c, hrc, _⟩ := get_in (l := r) (k := i) (by omega)
        have hr : ((4 :: 4 :: r).map brow)[i + 2]? = some (brow c) := map_get brow hrc
        have hc256 : c.toNat < 256 := c.toNat_lt
        have hun1 : unbe (r.take (i + 1)) = unbe (r.take i) * 256 + c.toNat := by rw [take_get hrc, unbe_snoc]
        have hbd1 : unbe (r.take (i + 1)) < 65 * 72057594037927936 := by
          have h1 := htop i (by omega)
          have h2 : (256 : Nat) ^ i ≤ 256 ^ 7 := Nat.pow_le_pow_right (by decide) (by omega)
          have h3 : (256 : Nat) ^ 7 = 72057594037927936 := by decide
          omega
        repeat (first | refine then_nrm ?_ | refine aw_seq ?_ | refine aw_block ?_ | refine aw_skip ?_)
        refine aw_drawP mixed (some 10) 2 ?_
        try dsimp only [List.take_succ_cons, List.take_zero]
        refine aqp 0 rfl (by decide +kernel) (by decide) (fun G => w_fieldAddr rfl (lk rfl rfl) rfl (by decide)) ?_
        refine aqp 1 rfl (by decide +kernel) (by decide) (fun G => w_load1 (v := .int _ _) rfl (lk rfl rfl) rfl rfl rfl) ?_
        refine aq0 2 rfl (by decide +kernel) (by decide) (fun _ => o_mul (r := ((unbe (r.take i) * 256 : Nat) : Int)) rfl rfl (by rw [show ((unbe (r.take i) : Nat) : Int) * 256 = ((unbe (r.take i) * 256 : Nat) : Int) by omega]; exact wrap64_ok (by omega) (by omega))) ?_
        refine aq0 3 rfl (by decide +kernel) (by decide) (fun _ => o_move (v := .pl _) rfl) ?_
        refine aq0 4 rfl (by decide +kernel) (by decide) (fun _ => o_move (v := .int _ _) rfl) ?_
        refine aqp 5 rfl (by decide +kernel) (by decide) (fun G => w_indexAddrpN rfl rfl hr rfl) ?_
        refine aqp 6 rfl (by decide +kernel) (by decide) (fun G => o_load1p (v := .int _ _) rfl hr rfl) ?_
        refine aq0 7 rfl (by decide +kernel) (by decide) (fun _ => o_conv_int (r := (c.toNat : Int)) rfl (wrap64_ok (by omega) (by omega))) ?_
        refine aq0 8 rfl (by decide +kernel) (by decide) (fun _ => o_add (r := ((unbe (r.take (i + 1)) : Nat) : Int)) rfl rfl (by rw [show ((unbe (r.take i) * 256 : Nat) : Int) + (c.toNat : Int) = ((unbe (r.take (i + 1)) : Nat) : Int) by omega]; exact wrap64_ok (by omega) (by omega))) ?_
        refine aqp 9 rfl (by decide +kernel) (by decide) (fun G => w_fieldAddr rfl (lk rfl rfl) rfl (by decide)) ?_
        refine aqs 10 rfl (by decide +kernel) (by exact fun _ => ⟨_, rfl⟩) (by rintro _ ⟨⟩) (w_storeP (sz := 1) (v := .int _ _) (r' := [_, _, _]) rfl rfl rfl rfl rfl rfl rfl rfl (Nat.le_of_ble_eq_true rfl) rfl) ?_
        refine aa_done (by decide +kernel) (by exact yet_done (by decide +kernel)) ?_
        try dsimp only [put, Nat.reduceAdd, List.set_cons_zero, List.set_cons_succ]
        repeat (first | refine then_nrm ?_ | refine blk_nrm ?_)
        refine aw_region ?_
        refine ao1 (by decide) (o_move (v := .int _ _) rfl) ?_
        refine ao1 (by decide) (o_add (r := ((i + 1 + 2 : Nat) : Int)) rfl rfl (by rw [show ((i + 2 : Nat) : Int) + 1 = ((i + 1 + 2 : Nat) : Int) by omega]; exact wrap64_ok (by omega) (by omega))) ?_
        refine ao1 (by decide) (o_assign (v := .int _ _) rfl) ?_
        refine ao_nil ?_
        repeat (refine then_nrm ?_)
        exact ⟨i + 1, by omega, by omega, (by repeat (first | exact Sub.nil | refine Sub.cons (by rfl) ?_)), .inl rfl⟩
      · have hi8 : i = 8 := by simp at hc; omega
        subst hi8
        rw [List.take_of_length_le (by omega)] at *
        have cm := fun H => ref19_May ⟨4, [], (unbe r : Int)⟩ (by simp) H
        repeat (first | refine then_nrm ?_ | refine then_brk ?_ | refine blk_hit ?_ | refine aw_seq ?_ | refine aw_exit ?_)
        refine aw_region ?_
        refine ao1 (by decide) (w_loadR rfl (lk rfl rfl) rfl rfl rfl) ?_
        refine ao_ret (cm _) rfl (by decide) ?_
        refine ao1 (by decide) (o_not rfl) ?_
        refine ao_nil ?_
        try dsimp only [Nat.reduceAdd]
        repeat (refine then_nrm ?_)
        refine aw_cond rfl (fun hc => ?_) (fun hc => ?_)
        · have hm : lmay ⟨4, [], (unbe r : Int)⟩ = false := by simpa using hc
          rw [hrd, if_neg (fun h => by rw [lmay4, show tm (unbe r : Int) = true from tm_iff.2 (by omega)] at hm; cases hm)]
          repeat (refine aw_seq ?_)
          refine aw_region ?_
          refine ao1 (by decide) (V1.up (o_build (cs := [.int .i64 0, .nsl, .int .i64 0]) rfl)) ?_
          refine ao2 (by rintro _ ⟨⟩) (w_storeW (sz := 3) rfl rfl rfl rfl rfl rfl rfl rfl (Nat.le_of_ble_eq_true rfl)) ?_
          refine ao1 (by decide) (o_assign (v := .int _ _) rfl) ?_
          refine ao_nil ?_
          try dsimp only [AV.up, put, List.set_cons_zero]
          repeat (first | refine then_nrm ?_ | refine then_ret ?_ | refine aw_ret ?_)
          exact e_done hB (r_cellR rfl (lk rfl rfl) rfl rfl rfl (r_tmp rfl .nil)) rfl rfl
        · have hm : lmay ⟨4, [], (unbe r : Int)⟩ = true := by simpa using hc
          rw [lmay4, tm_iff] at hm
          rw [hrd, if_pos (by omega)]
          repeat (first | refine then_nrm ?_ | refine aw_seq ?_ | refine aw_skip ?_)
          refine aw_region ?_
          refine ao1 (by decide) (w_loadR rfl (lk rfl rfl) rfl rfl rfl) ?_
          refine ao2 (by rintro _ ⟨⟩) (w_storeW (sz := 3) rfl rfl rfl rfl rfl rfl rfl rfl (Nat.le_of_ble_eq_true rfl)) ?_
          refine ao1 (by decide) (o_assign (v := .int _ _) rfl) ?_
          refine ao_nil ?_
          try dsimp only [put, List.set_cons_zero]
          repeat (first | refine then_nrm ?_ | refine aw_ret ?_)
          exact e_done hB (r_cellR rfl (lk rfl rfl) rfl rfl rfl (r_tmp rfl .nil)) rfl rfl
    · have hy : y ≠ 4 := by rintro rfl; simp at hc
      clear hc
      have hrl := readSet_len r
      have hrd : readN (4 :: y :: r) = if (readSet r).2 = 0 ∧ lmay ⟨y.toNat, (readSet r).1, 0⟩ = true then (⟨y.toNat, (readSet r).1, 0⟩, 0) else (noNote, 3) := by rw [readN, if_neg (by simp), if_neg (by exact hy)]; rfl
      have cs := fun H => ref08_ReadSet r H
      generalize readSet r = z at cs hrl hrd
      obtain ⟨l, e⟩ := z
      simp only at cs hrl hrd
      repeat (refine aw_seq ?_)
      refine aw_region ?_
      refine ao1 (by decide) (o_move (v := .pl _) rfl) ?_
      refine ao1 (by decide) (o_slicepF (sz := 1) (l := 2) (ys := r.map brow) rfl (.some rfl rfl) (by simp) (bytes_len1 _) rfl) ?_
      refine ao_ret (cs _) rfl (by decide) ?_
      refine ao1 (by decide) (o_move (v := .tup _) rfl) ?_
      refine ao1 (by decide) (o_extract (v := .pl _) rfl rfl) ?_
      refine ao1 (by decide) (o_extract (v := .int _ _) rfl rfl) ?_
      refine ao1 (by decide) (o_assign (v := .pl _) rfl) ?_
      refine ao1 (by decide) (o_assign (v := .int _ _) rfl) ?_
      refine ao_nil ?_
      repeat (first | refine then_nrm ?_ | refine aw_seq ?_)
      refine aw_region ?_
      refine ao1 (by decide) (o_move (v := .int _ _) rfl) ?_
      refine ao1 (by decide) (o_ne rfl rfl) ?_
      refine ao_nil ?_
      repeat (refine then_nrm ?_)
      refine aw_cond rfl (fun hc => ?_) (fun hc => ?_)
      · have he : ¬ e = 0 := by simpa using hc
        rw [hrd, if_neg (fun h => he h.1)]
        repeat (refine aw_seq ?_)
        refine aw_region ?_
        refine ao1 (by decide) (V1.up (o_build (cs := [.int .i64 0, .nsl, .int .i64 0]) rfl)) ?_
        refine ao2 (by rintro _ ⟨⟩) (w_storeW (sz := 3) rfl rfl rfl rfl rfl rfl rfl rfl (Nat.le_of_ble_eq_true rfl)) ?_
        refine ao1 (by decide) (o_assign (v := .int _ _) rfl) ?_
        refine ao_nil ?_
        try dsimp only [AV.up, put, List.set_cons_zero]
        repeat (first | refine then_nrm ?_ | refine then_ret ?_ | refine aw_ret ?_)
        exact e_done hB (r_cellR rfl (lk rfl rfl) rfl rfl rfl (r_tmp rfl .nil)) rfl rfl
      have he : e = 0 := by simpa using hc
      subst he
      clear hc
      have cm := fun H => ref19_May ⟨(y.toNat : Int), l, 0⟩ (by show l.length ≤ 1000000; omega) H
      repeat (first | refine then_nrm ?_ | refine aw_skip ?_)
      refine aw_region ?_
      refine ao1 (by decide) (o_move (v := .pl _) rfl) ?_
      refine ao1 (by decide) (w_fieldAddr rfl (lk rfl rfl) rfl (by decide)) ?_
      refine ao2 (by rintro _ ⟨⟩) (w_storeP (sz := 1) (v := .pl _) (r' := [_, _, _]) rfl rfl rfl rfl rfl rfl rfl rfl (Nat.le_of_ble_eq_true rfl) rfl) ?_
      refine ao_nil ?_
      try dsimp only [put, Nat.reduceAdd, AV.up1, List.set_cons_zero, List.set_cons_succ]
      repeat (first | refine then_nrm ?_ | refine aw_seq ?_)
      refine aw_region ?_
      refine ao1 (by decide) (w_loadR rfl (lk rfl rfl) rfl rfl rfl) ?_
      refine ao_ret (cm _) rfl (by decide) ?_
      refine ao1 (by decide) (o_not rfl) ?_
      refine ao_nil ?_
      repeat (refine then_nrm ?_)
      refine aw_cond rfl (fun hc => ?_) (fun hc => ?_)
      · have hm : lmay ⟨(y.toNat : Int), l, 0⟩ = false := by simpa using hc
        rw [hrd, if_neg (fun h => by rw [hm] at h; cases h.2)]
        repeat (refine aw_seq ?_)
        refine aw_region ?_
        refine ao1 (by decide) (V1.up (o_build (cs := [.int .i64 0, .nsl, .int .i64 0]) rfl)) ?_
        refine ao2 (by rintro _ ⟨⟩) (w_storeW (sz := 3) rfl rfl rfl rfl rfl rfl rfl rfl (Nat.le_of_ble_eq_true rfl)) ?_
        refine ao1 (by decide) (o_assign (v := .int _ _) rfl) ?_
        refine ao_nil ?_
        try dsimp only [AV.up, put, List.set_cons_zero]
        repeat (first | refine then_nrm ?_ | refine then_ret ?_ | refine aw_ret ?_)
        exact e_done hB (r_cellR rfl (lk rfl rfl) rfl rfl rfl (r_tmp rfl .nil)) rfl rfl
      · have hm : lmay ⟨(y.toNat : Int), l, 0⟩ = true := by simpa using hc
        rw [hrd, if_pos ⟨rfl, hm⟩]
        repeat (first | refine then_nrm ?_ | refine aw_seq ?_ | refine aw_skip ?_)
        refine aw_region ?_
        refine ao1 (by decide) (w_loadR rfl (lk rfl rfl) rfl rfl rfl) ?_
        refine ao2 (by rintro _ ⟨⟩) (w_storeW (sz := 3) rfl rfl rfl rfl rfl rfl rfl rfl (Nat.le_of_ble_eq_true rfl)) ?_
        refine ao1 (by decide) (o_assign (v := .int _ _) rfl) ?_
        refine ao_nil ?_
        try dsimp only [put, List.set_cons_zero]
        repeat (first | refine then_nrm ?_ | refine aw_ret ?_)
        exact e_done hB (r_cellR rfl (lk rfl rfl) rfl rfl rfl (r_tmp rfl .nil)) rfl rfl
end Go.Av

namespace Go.Av
open Go.Proofs
set_option maxRecDepth 10000
set_option linter.unusedSimpArgs false
set_option linter.unusedVariables false

theorem law19_short (l : Loan) (H : Heap) : AC Tryd.prog 9 [.agg (eLoan l)] H (Ret (.bool (decide (l.things.length ≤ 60) && decide (l.asked.length ≤ 60))) H) := by
  refine AC.body (N := 13) [.tmp 2] Tryd.func9 rfl rfl rfl (Nat.le_of_ble_eq_true rfl) fun B hB => ?_
  repeat (refine aw_seq ?_)
  refine aw_region ?_
  refine ao2 (by rintro _ ⟨⟩; decide) (o_boxL (sz := 3) (v := .agg _) rfl rfl rfl rfl (by decide) rfl) ?_
  refine ao1 (by decide) (o_assign (v := .bool _) rfl) ?_
  refine ao_nil ?_
  try dsimp only [List.length_nil, put, AV.cells, List.nil_append]
  repeat (first | refine then_nrm ?_ | refine aw_seq ?_)
  refine aw_out 2 (.bool (decide (l.things.length ≤ 60) && decide (l.asked.length ≤ 60))) ?_ ?_
  · refine ao1 (by decide) (w_fieldAddr rfl (lk rfl rfl) rfl (by decide)) ?_
    refine ao1 (by decide) (w_load1 (v := .pl _) rfl (lk rfl rfl) rfl rfl rfl) ?_
    refine ao1 (by decide) (o_lenp rfl) ?_
    refine ao1 (by decide) (o_le rfl rfl) ?_
    refine ao1 (by decide) (o_move (v := .bool _) rfl) ?_
    refine ao_split rfl rfl (fun hg4 => ?_) (fun hg4 => ?_)
    · refine ao_y1 rfl rfl (by decide) (w_fieldAddr rfl (lk rfl rfl) rfl (by decide)) ?_
      refine ao_y1 rfl rfl (by decide) (w_load1 (v := .pl _) rfl (lk rfl rfl) rfl rfl rfl) ?_
      refine ao_y1 rfl rfl (by decide) (o_lenp rfl) ?_
      refine ao_y1 rfl rfl (by decide) (o_le rfl rfl) ?_
      refine ao1 (by decide) (o_pick_t (v := .bool _) rfl rfl) ?_
      refine ao1 (by decide) (o_assign (v := .bool _) rfl) ?_
      exact ao_nil (Out.mk (by (refine congrArg AV.bool ?_; grind)) (by repeat (first | exact SubX.refl _ _ | refine SubX.at ?_ | refine SubX.put rfl ?_)))
    · refine ao_nT rfl rfl (by decide) ?_
      refine ao_nT rfl rfl (by decide) ?_
      refine ao_nT rfl rfl (by decide) ?_
      refine ao_nT rfl rfl (by decide) ?_
      refine ao1 (by decide) (o_pick_f (v := .bool _) rfl rfl) ?_
      refine ao1 (by decide) (o_assign (v := .bool _) rfl) ?_
      exact ao_nil (Out.mk (by (refine congrArg AV.bool ?_; grind)) (by repeat (first | exact SubX.refl _ _ | refine SubX.at ?_ | refine SubX.put rfl ?_)))
  repeat (first | refine then_nrm ?_ | refine aw_ret ?_)
  exact e_done hB (r_tmp rfl .nil) rfl rfl
theorem lend_small {l : Loan} {n : Note} {now : Int} (hl : Small l) (hn : n.things.length ≤ 1000000) : Small (lend l n now).1 ∧ (lend l n now).2.1.things.length ≤ 1000000 := by
  unfold lend Small noNote at *
  have h1 := setop_len (fun x y => x || y) l.things n.things
  have h2 := setop_len (fun x y => x || y) l.asked n.things
  repeat (first | split | (refine ⟨⟨?_, ?_⟩, ?_⟩ <;> first | (simp; done) | (simp; omega)))
theorem hear_small {l : Loan} {n : Note} {now : Int} (hl : Small l) (hn : n.things.length ≤ 1000000) : Small (hear l n now).1 ∧ (hear l n now).2.1.things.length ≤ 1000000 := by
  unfold hear Small noNote at *
  have h1 := setop_len (fun x y => x || y) l.things n.things
  have h2 := setop_len (fun x y => x && !y) l.things n.things
  repeat (first | split | (refine ⟨⟨?_, ?_⟩, ?_⟩ <;> first | (simp; done) | (simp; omega)))
theorem lback_small {l : Loan} {n : Note} (hl : Small l) : Small (lback l n).1 := by
  unfold lback Small at *
  have h1 := setop_len (fun x y => x && !y) l.things n.things
  have h2 := setop_len (fun x y => x && !y) l.asked n.things
  split
  · exact hl
  · exact ⟨Nat.le_trans h1 (by decide), Nat.le_trans h2 (by decide)⟩
theorem lover_small {l : Loan} {now guard : Int} (hl : Small l) : Small (lover l now guard) := by
  unfold lover
  split
  · simp [Small]
  · exact hl
set_option maxHeartbeats 0 in
theorem law19_awake (H : Heap) : ACT Tryd.prog KD 8 [] H (Ret (.bool true) H) := by
  have c1 := fun H => lease_Give ⟨[], [], 9⟩ ⟨by simp, by simp⟩ [2, 3] (by simp) 1 H
  rw [show lend ⟨[], [], 9⟩ ⟨1, [2, 3], 0⟩ 1 = (⟨[2, 3], [], 9⟩, ⟨1, [2, 3], 0⟩, 0) by decide +kernel] at c1
  have c2 := fun H => lease_Hear ⟨[], [], 9⟩ ⟨by simp, by simp⟩ ⟨1, [2, 3], 0⟩ (by simp) 2 H
  rw [show hear ⟨[], [], 9⟩ ⟨1, [2, 3], 0⟩ 2 = (⟨[2, 3], [], 9⟩, noNote, false) by decide +kernel] at c2
  have c3 := fun H => lease_Ask ⟨[2, 3], [], 9⟩ ⟨by simp, by simp⟩ [3] (by simp) 3 H
  rw [show lend ⟨[2, 3], [], 9⟩ ⟨2, [3], 0⟩ 3 = (⟨[2, 3], [3], 9⟩, ⟨2, [3], 0⟩, 0) by decide +kernel] at c3
  have c4 := fun H => lease_Hear ⟨[2, 3], [], 9⟩ ⟨by simp, by simp⟩ ⟨2, [3], 0⟩ (by simp) 4 H
  rw [show hear ⟨[2, 3], [], 9⟩ ⟨2, [3], 0⟩ 4 = (⟨[2], [], 9⟩, ⟨3, [3], 0⟩, true) by decide +kernel] at c4
  have c5 := fun H => lease_Back ⟨[2, 3], [3], 9⟩ ⟨by simp, by simp⟩ ⟨3, [3], 0⟩ (by simp) H
  rw [show lback ⟨[2, 3], [3], 9⟩ ⟨3, [3], 0⟩ = (⟨[2], [], 9⟩, 0) by decide +kernel] at c5
  refine ACT.body (N := 81) [.tmp 0] Tryd.func8 rfl rfl rfl (Nat.le_of_ble_eq_true rfl) fun B hB => ?_
  repeat (refine aw_seq ?_)
  refine aw_region ?_
  refine ao1 (by decide) (o_assign (v := .bool _) rfl) ?_
  refine ao_nil ?_
  repeat (first | refine then_nrm ?_ | refine aw_seq ?_)
  refine aw_region ?_
  refine ao1 (by decide) (V1.up (o_build (cs := [.nsl, .nsl, .int .i64 9]) rfl)) ?_
  refine ao2 (by rintro _ ⟨⟩; decide) (g_litL [[.int .i64 2], [.int .i64 3]] rfl (by decide) (by decide) (by decide) rfl rfl (by simp) rfl (by simp [AV.bels, AV.bel])) ?_
  refine ao2 (by rintro _ ⟨⟩; decide) (V2.callT (c1 _) rfl rfl) ?_
  refine ao1 (by decide) (o_move (v := .tup _) rfl) ?_
  refine ao1 (by decide) (o_extract (v := .agg _) rfl rfl) ?_
  refine ao1 (by decide) (o_extract (v := .agg _) rfl rfl) ?_
  refine ao1 (by decide) (o_extract (v := .int _ _) rfl rfl) ?_
  refine ao2 (by rintro _ ⟨⟩; decide) (o_allocL (sz := 3) rfl (by decide) rfl) ?_
  refine ao2 (by rintro _ ⟨⟩; decide) (o_allocL (sz := 3) rfl (by decide) rfl) ?_
  refine ao2 (by rintro _ ⟨⟩) (w_storeW (sz := 3) rfl rfl rfl rfl rfl rfl rfl rfl (Nat.le_of_ble_eq_true rfl)) ?_
  refine ao2 (by rintro _ ⟨⟩) (w_storeW (sz := 3) rfl rfl rfl rfl rfl rfl rfl rfl (Nat.le_of_ble_eq_true rfl)) ?_
  refine ao1 (by decide) (o_assign (v := .int _ _) rfl) ?_
  refine ao_nil ?_
  try dsimp only [AV.up, put, List.length_nil, List.nil_append, List.length_cons, Nat.reduceAdd, List.cons_append, List.set_cons_zero, List.set_cons_succ]
  repeat (first | refine then_nrm ?_ | refine aw_seq ?_)
  refine aw_region ?_
  refine ao1 (by decide) (V1.up (o_build (cs := [.nsl, .nsl, .int .i64 9]) rfl)) ?_
  refine ao1 (by decide) (w_loadR rfl (lk rfl rfl) rfl rfl rfl) ?_
  refine ao2 (by rintro _ ⟨⟩; decide) (V2.callT (c2 _) rfl rfl) ?_
  refine ao1 (by decide) (o_move (v := .tup _) rfl) ?_
  refine ao1 (by decide) (o_extract (v := .agg _) rfl rfl) ?_
  refine ao1 (by decide) (o_extract (v := .agg _) rfl rfl) ?_
  refine ao1 (by decide) (o_extract (v := .bool _) rfl rfl) ?_
  refine ao2 (by rintro _ ⟨⟩; decide) (o_allocL (sz := 3) rfl (by decide) rfl) ?_
  refine ao2 (by rintro _ ⟨⟩; decide) (o_allocL (sz := 3) rfl (by decide) rfl) ?_
  refine ao2 (by rintro _ ⟨⟩) (w_storeW (sz := 3) rfl rfl rfl rfl rfl rfl rfl rfl (Nat.le_of_ble_eq_true rfl)) ?_
  refine ao2 (by rintro _ ⟨⟩) (w_storeW (sz := 3) rfl rfl rfl rfl rfl rfl rfl rfl (Nat.le_of_ble_eq_true rfl)) ?_
  refine ao1 (by decide) (o_assign (v := .bool _) rfl) ?_
  refine ao_nil ?_
  try dsimp only [AV.up, put, List.length_cons, List.length_nil, Nat.reduceAdd, List.cons_append, List.nil_append, List.set_cons_zero, List.set_cons_succ]
  repeat (first | refine then_nrm ?_ | refine aw_seq ?_)
  refine aw_region ?_
  refine ao1 (by decide) (w_loadR rfl (lk rfl rfl) rfl rfl rfl) ?_
  refine ao2 (by rintro _ ⟨⟩; decide) (g_lit1 (sz := 1) (v := .int .i64 3) rfl (by decide) (by decide) rfl rfl rfl rfl rfl) ?_
  refine ao2 (by rintro _ ⟨⟩; decide) (V2.callT (c3 _) rfl rfl) ?_
  refine ao1 (by decide) (o_move (v := .tup _) rfl) ?_
  refine ao1 (by decide) (o_extract (v := .agg _) rfl rfl) ?_
  refine ao1 (by decide) (o_extract (v := .agg _) rfl rfl) ?_
  refine ao1 (by decide) (o_extract (v := .int _ _) rfl rfl) ?_
  refine ao2 (by rintro _ ⟨⟩; decide) (o_allocL (sz := 3) rfl (by decide) rfl) ?_
  refine ao2 (by rintro _ ⟨⟩) (w_storeW (sz := 3) rfl rfl rfl rfl rfl rfl rfl rfl (Nat.le_of_ble_eq_true rfl)) ?_
  refine ao2 (by rintro _ ⟨⟩) (w_storeW (sz := 3) rfl rfl rfl rfl rfl rfl rfl rfl (Nat.le_of_ble_eq_true rfl)) ?_
  refine ao1 (by decide) (o_assign (v := .int _ _) rfl) ?_
  refine ao_nil ?_
  try dsimp only [AV.cells, put, List.length_cons, List.length_nil, Nat.reduceAdd, List.cons_append, List.nil_append, List.set_cons_zero, List.set_cons_succ]
  repeat (first | refine then_nrm ?_ | refine aw_seq ?_)
  refine aw_region ?_
  refine ao1 (by decide) (w_loadR rfl (lk rfl rfl) rfl rfl rfl) ?_
  refine ao1 (by decide) (w_loadR rfl (lk rfl rfl) rfl rfl rfl) ?_
  refine ao2 (by rintro _ ⟨⟩; decide) (V2.callT (c4 _) rfl rfl) ?_
  refine ao1 (by decide) (o_move (v := .tup _) rfl) ?_
  refine ao1 (by decide) (o_extract (v := .agg _) rfl rfl) ?_
  refine ao1 (by decide) (o_extract (v := .agg _) rfl rfl) ?_
  refine ao1 (by decide) (o_extract (v := .bool _) rfl rfl) ?_
  refine ao2 (by rintro _ ⟨⟩; decide) (o_allocL (sz := 3) rfl (by decide) rfl) ?_
  refine ao2 (by rintro _ ⟨⟩) (w_storeW (sz := 3) rfl rfl rfl rfl rfl rfl rfl rfl (Nat.le_of_ble_eq_true rfl)) ?_
  refine ao2 (by rintro _ ⟨⟩) (w_storeW (sz := 3) rfl rfl rfl rfl rfl rfl rfl rfl (Nat.le_of_ble_eq_true rfl)) ?_
  refine ao1 (by decide) (o_assign (v := .bool _) rfl) ?_
  refine ao_nil ?_
  try dsimp only [put, List.length_cons, List.length_nil, Nat.reduceAdd, List.cons_append, List.nil_append, List.set_cons_zero, List.set_cons_succ]
  repeat (first | refine then_nrm ?_ | refine aw_seq ?_)
  refine aw_region ?_
  refine ao1 (by decide) (w_loadR rfl (lk rfl rfl) rfl rfl rfl) ?_
  refine ao1 (by decide) (w_loadR rfl (lk rfl rfl) rfl rfl rfl) ?_
  refine ao2 (by rintro _ ⟨⟩; decide) (V2.callT (c5 _) rfl rfl) ?_
  refine ao1 (by decide) (o_move (v := .tup _) rfl) ?_
  refine ao1 (by decide) (o_extract (v := .agg _) rfl rfl) ?_
  refine ao1 (by decide) (o_extract (v := .int _ _) rfl rfl) ?_
  refine ao2 (by rintro _ ⟨⟩) (w_storeW (sz := 3) rfl rfl rfl rfl rfl rfl rfl rfl (Nat.le_of_ble_eq_true rfl)) ?_
  refine ao1 (by decide) (o_assign (v := .int _ _) rfl) ?_
  refine ao_nil ?_
  try dsimp only [put, List.set_cons_zero]
  repeat (first | refine then_nrm ?_ | refine aw_seq ?_)
  refine aw_out 0 (.bool true) ?_ ?_
  · refine ao1 (by decide) (o_move (v := .int _ _) rfl) ?_
    refine ao1 (by decide) (o_eq rfl rfl) ?_
    refine ao1 (by decide) (o_move (v := .bool _) rfl) ?_
    refine ao_split rfl rfl (fun hg2 => ?_) (fun hg2 => ?_)
    · refine ao_y1 rfl rfl (by decide) (o_move (v := .bool _) rfl) ?_
      refine ao_y1 rfl rfl (by decide) (o_not rfl) ?_
      refine ao1 (by decide) (o_pick_t (v := .bool _) rfl rfl) ?_
      refine ao1 (by decide) (o_move (v := .bool _) rfl) ?_
      refine ao_split rfl rfl (fun hg6 => ?_) (fun hg6 => ?_)
      · refine ao_y1 rfl rfl (by decide) (o_move (v := .int _ _) rfl) ?_
        refine ao_y1 rfl rfl (by decide) (o_eq rfl rfl) ?_
        refine ao1 (by decide) (o_pick_t (v := .bool _) rfl rfl) ?_
        refine ao1 (by decide) (o_move (v := .bool _) rfl) ?_
        refine ao_split rfl rfl (fun hg10 => ?_) (fun hg10 => ?_)
        · refine ao_y1 rfl rfl (by decide) (o_move (v := .bool _) rfl) ?_
          refine ao1 (by decide) (o_pick_t (v := .bool _) rfl rfl) ?_
          refine ao1 (by decide) (o_move (v := .bool _) rfl) ?_
          refine ao_split rfl rfl (fun hg13 => ?_) (fun hg13 => ?_)
          · refine ao_y1 rfl rfl (by decide) (o_move (v := .int _ _) rfl) ?_
            refine ao_y1 rfl rfl (by decide) (o_eq rfl rfl) ?_
            refine ao1 (by decide) (o_pick_t (v := .bool _) rfl rfl) ?_
            refine ao1 (by decide) (o_move (v := .bool _) rfl) ?_
            refine ao_split rfl rfl (fun hg17 => ?_) (fun hg17 => ?_)
            · refine ao_y1 rfl rfl (by decide) (w_fieldAddr rfl (lk rfl rfl) rfl (by decide)) ?_
              refine ao_y1 rfl rfl (by decide) (w_load1 (v := .pl _) rfl (lk rfl rfl) rfl rfl rfl) ?_
              refine ao_y rfl rfl (by decide) (g_lit1 (sz := 1) (v := .int .i64 2) rfl (by decide) (by decide) rfl rfl rfl rfl rfl) ?_
              refine ao_y rfl rfl (by decide) (V2.call (ref01_Same [2] [2] (by simp) _) rfl) ?_
              refine ao1 (by decide) (o_pick_t (v := .bool _) rfl rfl) ?_
              refine ao1 (by decide) (o_move (v := .bool _) rfl) ?_
              refine ao_split rfl rfl (fun hg23 => ?_) (fun hg23 => ?_)
              · refine ao_y1 rfl rfl (by decide) (w_fieldAddr rfl (lk rfl rfl) rfl (by decide)) ?_
                refine ao_y1 rfl rfl (by decide) (w_load1 (v := .pl _) rfl (lk rfl rfl) rfl rfl rfl) ?_
                refine ao_y rfl rfl (by decide) (g_lit1 (sz := 1) (v := .int .i64 2) rfl (by decide) (by decide) rfl rfl rfl rfl rfl) ?_
                refine ao_y rfl rfl (by decide) (V2.call (ref01_Same [2] [2] (by simp) _) rfl) ?_
                refine ao1 (by decide) (o_pick_t (v := .bool _) rfl rfl) ?_
                refine ao1 (by decide) (o_move (v := .bool _) rfl) ?_
                refine ao_split rfl rfl (fun hg29 => ?_) (fun hg29 => ?_)
                · refine ao_y1 rfl rfl (by decide) (w_fieldAddr rfl (lk rfl rfl) rfl (by decide)) ?_
                  refine ao_y1 rfl rfl (by decide) (w_load1 (v := .pl _) rfl (lk rfl rfl) rfl rfl rfl) ?_
                  refine ao_y1 rfl rfl (by decide) (o_lenp rfl) ?_
                  refine ao_y1 rfl rfl (by decide) (o_eq rfl rfl) ?_
                  refine ao1 (by decide) (o_pick_t (v := .bool _) rfl rfl) ?_
                  refine ao1 (by decide) (o_assign (v := .bool _) rfl) ?_
                  exact ao_nil (Out.mk (by rfl) (by repeat (first | exact SubX.refl _ _ | refine SubX.at ?_ | refine SubX.put rfl ?_)))
                · refine ao_nT rfl rfl (by decide) ?_
                  refine ao_nT rfl rfl (by decide) ?_
                  refine ao_nT rfl rfl (by decide) ?_
                  refine ao_nT rfl rfl (by decide) ?_
                  refine ao1 (by decide) (o_pick_f (v := .bool _) rfl rfl) ?_
                  refine ao1 (by decide) (o_assign (v := .bool _) rfl) ?_
                  exact ao_nil (Out.mk (by (refine congrArg AV.bool ?_; (simp_all; done))) (by repeat (first | exact SubX.refl _ _ | refine SubX.at ?_ | refine SubX.put rfl ?_)))
              · refine ao_nT rfl rfl (by decide) ?_
                refine ao_nT rfl rfl (by decide) ?_
                refine ao_nT rfl rfl (by decide) ?_
                refine ao_nT rfl rfl (by decide) ?_
                refine ao1 (by decide) (o_pick_f (v := .bool _) rfl rfl) ?_
                refine ao1 (by decide) (o_move (v := .bool _) rfl) ?_
                refine ao_nT rfl rfl (by decide) ?_
                refine ao_nT rfl rfl (by decide) ?_
                refine ao_nT rfl rfl (by decide) ?_
                refine ao_nT rfl rfl (by decide) ?_
                refine ao1 (by decide) (o_pick_f (v := .bool _) rfl rfl) ?_
                refine ao1 (by decide) (o_assign (v := .bool _) rfl) ?_
                exact ao_nil (Out.mk (by (refine congrArg AV.bool ?_; (simp_all; done))) (by repeat (first | exact SubX.refl _ _ | refine SubX.at ?_ | refine SubX.put rfl ?_)))
            · refine ao_nT rfl rfl (by decide) ?_
              refine ao_nT rfl rfl (by decide) ?_
              refine ao_nT rfl rfl (by decide) ?_
              refine ao_nT rfl rfl (by decide) ?_
              refine ao1 (by decide) (o_pick_f (v := .bool _) rfl rfl) ?_
              refine ao1 (by decide) (o_move (v := .bool _) rfl) ?_
              refine ao_nT rfl rfl (by decide) ?_
              refine ao_nT rfl rfl (by decide) ?_
              refine ao_nT rfl rfl (by decide) ?_
              refine ao_nT rfl rfl (by decide) ?_
              refine ao1 (by decide) (o_pick_f (v := .bool _) rfl rfl) ?_
              refine ao1 (by decide) (o_move (v := .bool _) rfl) ?_
              refine ao_nT rfl rfl (by decide) ?_
              refine ao_nT rfl rfl (by decide) ?_
              refine ao_nT rfl rfl (by decide) ?_
              refine ao_nT rfl rfl (by decide) ?_
              refine ao1 (by decide) (o_pick_f (v := .bool _) rfl rfl) ?_
              refine ao1 (by decide) (o_assign (v := .bool _) rfl) ?_
              exact ao_nil (Out.mk (by (refine congrArg AV.bool ?_; (simp_all; done))) (by repeat (first | exact SubX.refl _ _ | refine SubX.at ?_ | refine SubX.put rfl ?_)))
          · refine ao_nT rfl rfl (by decide) ?_
            refine ao_nT rfl rfl (by decide) ?_
            refine ao1 (by decide) (o_pick_f (v := .bool _) rfl rfl) ?_
            refine ao1 (by decide) (o_move (v := .bool _) rfl) ?_
            refine ao_nT rfl rfl (by decide) ?_
            refine ao_nT rfl rfl (by decide) ?_
            refine ao_nT rfl rfl (by decide) ?_
            refine ao_nT rfl rfl (by decide) ?_
            refine ao1 (by decide) (o_pick_f (v := .bool _) rfl rfl) ?_
            refine ao1 (by decide) (o_move (v := .bool _) rfl) ?_
            refine ao_nT rfl rfl (by decide) ?_
            refine ao_nT rfl rfl (by decide) ?_
            refine ao_nT rfl rfl (by decide) ?_
            refine ao_nT rfl rfl (by decide) ?_
            refine ao1 (by decide) (o_pick_f (v := .bool _) rfl rfl) ?_
            refine ao1 (by decide) (o_move (v := .bool _) rfl) ?_
            refine ao_nT rfl rfl (by decide) ?_
            refine ao_nT rfl rfl (by decide) ?_
            refine ao_nT rfl rfl (by decide) ?_
            refine ao_nT rfl rfl (by decide) ?_
            refine ao1 (by decide) (o_pick_f (v := .bool _) rfl rfl) ?_
            refine ao1 (by decide) (o_assign (v := .bool _) rfl) ?_
            exact ao_nil (Out.mk (by (refine congrArg AV.bool ?_; (simp_all; done))) (by repeat (first | exact SubX.refl _ _ | refine SubX.at ?_ | refine SubX.put rfl ?_)))
        · refine ao_nT rfl rfl (by decide) ?_
          refine ao1 (by decide) (o_pick_f (v := .bool _) rfl rfl) ?_
          refine ao1 (by decide) (o_move (v := .bool _) rfl) ?_
          refine ao_nT rfl rfl (by decide) ?_
          refine ao_nT rfl rfl (by decide) ?_
          refine ao1 (by decide) (o_pick_f (v := .bool _) rfl rfl) ?_
          refine ao1 (by decide) (o_move (v := .bool _) rfl) ?_
          refine ao_nT rfl rfl (by decide) ?_
          refine ao_nT rfl rfl (by decide) ?_
          refine ao_nT rfl rfl (by decide) ?_
          refine ao_nT rfl rfl (by decide) ?_
          refine ao1 (by decide) (o_pick_f (v := .bool _) rfl rfl) ?_
          refine ao1 (by decide) (o_move (v := .bool _) rfl) ?_
          refine ao_nT rfl rfl (by decide) ?_
          refine ao_nT rfl rfl (by decide) ?_
          refine ao_nT rfl rfl (by decide) ?_
          refine ao_nT rfl rfl (by decide) ?_
          refine ao1 (by decide) (o_pick_f (v := .bool _) rfl rfl) ?_
          refine ao1 (by decide) (o_move (v := .bool _) rfl) ?_
          refine ao_nT rfl rfl (by decide) ?_
          refine ao_nT rfl rfl (by decide) ?_
          refine ao_nT rfl rfl (by decide) ?_
          refine ao_nT rfl rfl (by decide) ?_
          refine ao1 (by decide) (o_pick_f (v := .bool _) rfl rfl) ?_
          refine ao1 (by decide) (o_assign (v := .bool _) rfl) ?_
          exact ao_nil (Out.mk (by (refine congrArg AV.bool ?_; (simp_all; done))) (by repeat (first | exact SubX.refl _ _ | refine SubX.at ?_ | refine SubX.put rfl ?_)))
      · refine ao_nT rfl rfl (by decide) ?_
        refine ao_nT rfl rfl (by decide) ?_
        refine ao1 (by decide) (o_pick_f (v := .bool _) rfl rfl) ?_
        refine ao1 (by decide) (o_move (v := .bool _) rfl) ?_
        refine ao_nT rfl rfl (by decide) ?_
        refine ao1 (by decide) (o_pick_f (v := .bool _) rfl rfl) ?_
        refine ao1 (by decide) (o_move (v := .bool _) rfl) ?_
        refine ao_nT rfl rfl (by decide) ?_
        refine ao_nT rfl rfl (by decide) ?_
        refine ao1 (by decide) (o_pick_f (v := .bool _) rfl rfl) ?_
        refine ao1 (by decide) (o_move (v := .bool _) rfl) ?_
        refine ao_nT rfl rfl (by decide) ?_
        refine ao_nT rfl rfl (by decide) ?_
        refine ao_nT rfl rfl (by decide) ?_
        refine ao_nT rfl rfl (by decide) ?_
        refine ao1 (by decide) (o_pick_f (v := .bool _) rfl rfl) ?_
        refine ao1 (by decide) (o_move (v := .bool _) rfl) ?_
        refine ao_nT rfl rfl (by decide) ?_
        refine ao_nT rfl rfl (by decide) ?_
        refine ao_nT rfl rfl (by decide) ?_
        refine ao_nT rfl rfl (by decide) ?_
        refine ao1 (by decide) (o_pick_f (v := .bool _) rfl rfl) ?_
        refine ao1 (by decide) (o_move (v := .bool _) rfl) ?_
        refine ao_nT rfl rfl (by decide) ?_
        refine ao_nT rfl rfl (by decide) ?_
        refine ao_nT rfl rfl (by decide) ?_
        refine ao_nT rfl rfl (by decide) ?_
        refine ao1 (by decide) (o_pick_f (v := .bool _) rfl rfl) ?_
        refine ao1 (by decide) (o_assign (v := .bool _) rfl) ?_
        exact ao_nil (Out.mk (by (refine congrArg AV.bool ?_; (simp_all; done))) (by repeat (first | exact SubX.refl _ _ | refine SubX.at ?_ | refine SubX.put rfl ?_)))
    · refine ao_nT rfl rfl (by decide) ?_
      refine ao_nT rfl rfl (by decide) ?_
      refine ao1 (by decide) (o_pick_f (v := .bool _) rfl rfl) ?_
      refine ao1 (by decide) (o_move (v := .bool _) rfl) ?_
      refine ao_nT rfl rfl (by decide) ?_
      refine ao_nT rfl rfl (by decide) ?_
      refine ao1 (by decide) (o_pick_f (v := .bool _) rfl rfl) ?_
      refine ao1 (by decide) (o_move (v := .bool _) rfl) ?_
      refine ao_nT rfl rfl (by decide) ?_
      refine ao1 (by decide) (o_pick_f (v := .bool _) rfl rfl) ?_
      refine ao1 (by decide) (o_move (v := .bool _) rfl) ?_
      refine ao_nT rfl rfl (by decide) ?_
      refine ao_nT rfl rfl (by decide) ?_
      refine ao1 (by decide) (o_pick_f (v := .bool _) rfl rfl) ?_
      refine ao1 (by decide) (o_move (v := .bool _) rfl) ?_
      refine ao_nT rfl rfl (by decide) ?_
      refine ao_nT rfl rfl (by decide) ?_
      refine ao_nT rfl rfl (by decide) ?_
      refine ao_nT rfl rfl (by decide) ?_
      refine ao1 (by decide) (o_pick_f (v := .bool _) rfl rfl) ?_
      refine ao1 (by decide) (o_move (v := .bool _) rfl) ?_
      refine ao_nT rfl rfl (by decide) ?_
      refine ao_nT rfl rfl (by decide) ?_
      refine ao_nT rfl rfl (by decide) ?_
      refine ao_nT rfl rfl (by decide) ?_
      refine ao1 (by decide) (o_pick_f (v := .bool _) rfl rfl) ?_
      refine ao1 (by decide) (o_move (v := .bool _) rfl) ?_
      refine ao_nT rfl rfl (by decide) ?_
      refine ao_nT rfl rfl (by decide) ?_
      refine ao_nT rfl rfl (by decide) ?_
      refine ao_nT rfl rfl (by decide) ?_
      refine ao1 (by decide) (o_pick_f (v := .bool _) rfl rfl) ?_
      refine ao1 (by decide) (o_assign (v := .bool _) rfl) ?_
      exact ao_nil (Out.mk (by (refine congrArg AV.bool ?_; (simp_all; done))) (by repeat (first | exact SubX.refl _ _ | refine SubX.at ?_ | refine SubX.put rfl ?_)))
  repeat (first | refine then_nrm ?_ | refine aw_ret ?_)
  exact e_done hB (r_tmp rfl .nil) rfl rfl
set_option maxHeartbeats 0 in
theorem law19_LeaseHears (l : Loan) (n : Note) (now guard : Int) (H : Heap) : ACT Tryd.prog KD 3 [.agg (eLoan l), .agg (eNote n), .int .i64 now, .int .i64 guard] H (Ret (.bool true) H) := by
  refine ACT.body (N := 66) [.tmp 8] Tryd.func3 rfl rfl rfl (Nat.le_of_ble_eq_true rfl) fun B hB => ?_
  repeat (refine aw_seq ?_)
  refine aw_region ?_
  refine ao2 (by rintro _ ⟨⟩; decide) (o_boxL (sz := 3) (v := .agg _) rfl rfl rfl rfl (by decide) rfl) ?_
  refine ao2 (by rintro _ ⟨⟩; decide) (o_boxL (sz := 3) (v := .agg _) rfl rfl rfl rfl (by decide) rfl) ?_
  refine ao1 (by decide) (o_assign (v := .bool _) rfl) ?_
  refine ao_nil ?_
  try dsimp only [List.length_nil, put, AV.cells, List.nil_append, List.length_cons, Nat.reduceAdd, List.cons_append]
  repeat (first | refine then_nrm ?_ | refine aw_seq ?_)
  refine aw_region ?_
  refine ao2 (by rintro _ ⟨⟩; decide) (V2.callT (law19_awake _) rfl rfl) ?_
  refine ao1 (by decide) (o_not rfl) ?_
  refine ao_nil ?_
  try dsimp only [put]
  repeat (refine then_nrm ?_)
  refine aw_cond rfl (fun hc => ?_) (fun hc => ?_)
  · cases hc
  repeat (first | refine then_nrm ?_ | refine aw_seq ?_ | refine aw_skip ?_)
  refine aw_out 25 (.bool (!(decide (l.things.length ≤ 60) && decide (l.asked.length ≤ 60)) || decide (60 < n.things.length))) ?_ ?_
  · refine ao1 (by decide) (w_loadR rfl (lk rfl rfl) rfl rfl rfl) ?_
    refine ao_ret (law19_short l _) rfl (by decide) ?_
    refine ao1 (by decide) (o_not rfl) ?_
    refine ao1 (by decide) (o_move (v := .bool _) rfl) ?_
    refine ao_split rfl rfl (fun hg3 => ?_) (fun hg3 => ?_)
    · refine ao_nF rfl rfl (by decide) ?_
      refine ao_nF rfl rfl (by decide) ?_
      refine ao_nF rfl rfl (by decide) ?_
      refine ao_nF rfl rfl (by decide) ?_
      refine ao1 (by decide) (o_pick_t (v := .bool _) rfl rfl) ?_
      exact ao_nil (Out.mk (by (refine congrArg AV.bool ?_; ((simp_all; done)))) (by repeat (first | exact SubX.refl _ _ | refine SubX.at ?_ | refine SubX.put rfl ?_)))
    · refine ao_y1 rfl rfl (by decide) (w_fieldAddr rfl (lk rfl rfl) rfl (by decide)) ?_
      refine ao_y1 rfl rfl (by decide) (w_load1 (v := .pl _) rfl (lk rfl rfl) rfl rfl rfl) ?_
      refine ao_y1 rfl rfl (by decide) (o_lenp rfl) ?_
      refine ao_y1 rfl rfl (by decide) (o_gt rfl rfl) ?_
      refine ao1 (by decide) (o_pick_f (v := .bool _) rfl rfl) ?_
      exact ao_nil (Out.mk (by (refine congrArg AV.bool ?_; (grind))) (by repeat (first | exact SubX.refl _ _ | refine SubX.at ?_ | refine SubX.put rfl ?_)))
  repeat (refine then_nrm ?_)
  refine aw_cond rfl (fun hc => ?_) (fun hc => ?_)
  · repeat (refine aw_seq ?_)
    refine aw_region ?_
    refine ao1 (by decide) (o_assign (v := .bool _) rfl) ?_
    refine ao_nil ?_
    repeat (first | refine then_nrm ?_ | refine then_ret ?_ | refine aw_ret ?_)
    exact e_done hB (r_tmp rfl .nil) rfl rfl
  have hs : (l.things.length ≤ 60 ∧ l.asked.length ≤ 60) ∧ n.things.length ≤ 60 := by simpa using hc
  have hl : Small l := ⟨by omega, by omega⟩
  have hn : n.things.length ≤ 1000000 := by omega
  have c1 := fun H => lease_Hear l hl n hn now H
  have c2 := fun H => ref19_Hear l hl n hn now H
  have hz := @hear_small l n now hl hn
  generalize hear l n now = z at c1 c2 hz
  obtain ⟨hz1, hz2⟩ := hz
  repeat (first | refine then_nrm ?_ | refine aw_seq ?_ | refine aw_skip ?_)
  refine aw_region ?_
  refine ao1 (by decide) (w_loadR rfl (lk rfl rfl) rfl rfl rfl) ?_
  refine ao1 (by decide) (w_loadR rfl (lk rfl rfl) rfl rfl rfl) ?_
  refine ao1 (by decide) (o_move (v := .int _ _) rfl) ?_
  refine ao2 (by rintro _ ⟨⟩; decide) (V2.callT (c1 _) rfl rfl) ?_
  refine ao1 (by decide) (o_move (v := .tup _) rfl) ?_
  refine ao1 (by decide) (o_extract (v := .agg _) rfl rfl) ?_
  refine ao1 (by decide) (o_extract (v := .agg _) rfl rfl) ?_
  refine ao1 (by decide) (o_extract (v := .bool _) rfl rfl) ?_
  refine ao2 (by rintro _ ⟨⟩; decide) (o_allocL (sz := 3) rfl (by decide) rfl) ?_
  refine ao2 (by rintro _ ⟨⟩; decide) (o_allocL (sz := 3) rfl (by decide) rfl) ?_
  refine ao2 (by rintro _ ⟨⟩) (w_storeW (sz := 3) rfl rfl rfl rfl rfl rfl rfl rfl (Nat.le_of_ble_eq_true rfl)) ?_
  refine ao2 (by rintro _ ⟨⟩) (w_storeW (sz := 3) rfl rfl rfl rfl rfl rfl rfl rfl (Nat.le_of_ble_eq_true rfl)) ?_
  refine ao1 (by decide) (o_assign (v := .bool _) rfl) ?_
  refine ao_nil ?_
  try dsimp only [put, List.length_cons, List.length_nil, Nat.reduceAdd, List.cons_append, List.nil_append, List.set_cons_zero, List.set_cons_succ]
  repeat (first | refine then_nrm ?_ | refine aw_seq ?_)
  refine aw_region ?_
  refine ao1 (by decide) (w_loadR rfl (lk rfl rfl) rfl rfl rfl) ?_
  refine ao1 (by decide) (w_loadR rfl (lk rfl rfl) rfl rfl rfl) ?_
  refine ao1 (by decide) (o_move (v := .int _ _) rfl) ?_
  refine ao_ret (c2 _) rfl (by decide) ?_
  refine ao1 (by decide) (o_move (v := .tup _) rfl) ?_
  refine ao1 (by decide) (o_extract (v := .agg _) rfl rfl) ?_
  refine ao1 (by decide) (o_extract (v := .agg _) rfl rfl) ?_
  refine ao1 (by decide) (o_extract (v := .bool _) rfl rfl) ?_
  refine ao2 (by rintro _ ⟨⟩; decide) (o_allocL (sz := 3) rfl (by decide) rfl) ?_
  refine ao2 (by rintro _ ⟨⟩; decide) (o_allocL (sz := 3) rfl (by decide) rfl) ?_
  refine ao2 (by rintro _ ⟨⟩) (w_storeW (sz := 3) rfl rfl rfl rfl rfl rfl rfl rfl (Nat.le_of_ble_eq_true rfl)) ?_
  refine ao2 (by rintro _ ⟨⟩) (w_storeW (sz := 3) rfl rfl rfl rfl rfl rfl rfl rfl (Nat.le_of_ble_eq_true rfl)) ?_
  refine ao1 (by decide) (o_assign (v := .bool _) rfl) ?_
  refine ao_nil ?_
  try dsimp only [List.length_cons, List.length_nil, Nat.reduceAdd, put, List.cons_append, List.nil_append, List.set_cons_zero, List.set_cons_succ]
  repeat (first | refine then_nrm ?_ | refine aw_seq ?_)
  refine aw_of_out 8 (.bool true) ?_ ?_
  · refine aw_drawP mixed none 6 ?_
    try dsimp only [List.take_succ_cons, List.take_zero]
    refine aqp 0 rfl (by decide +kernel) (by decide) (fun G => w_loadR rfl (lk rfl rfl) rfl rfl rfl) ?_
    refine aqp 1 rfl (by decide +kernel) (by decide) (fun G => w_loadR rfl (lk rfl rfl) rfl rfl rfl) ?_
    refine aq02 2 rfl (by decide +kernel) (by decide) (fun _ => V2.call (ref19_Same z.1 z.1 hz1 _) rfl) ?_
    refine aq0 3 rfl (by decide +kernel) (by decide) (fun _ => o_move (v := .bool _) rfl) ?_
    refine aq_split (g := 45) rfl (fun hg3 => ?_) (fun hg3 => ?_)
    · refine aqyp (g := 45) 4 rfl (by decide +kernel) (by decide) rfl rfl (fun G => w_loadR rfl (lk rfl rfl) rfl rfl rfl) ?_
      refine aqyp (g := 45) 5 rfl (by decide +kernel) (by decide) rfl rfl (fun G => w_loadR rfl (lk rfl rfl) rfl rfl rfl) ?_
      refine aqy02 (g := 45) 6 rfl (by decide +kernel) (by decide) rfl rfl (fun _ => V2.call (ref19_SameNote z.2.1 z.2.1 hz2 _) rfl) ?_
      refine aq0 7 rfl (by decide +kernel) (by decide) (fun _ => o_pick_t (v := .bool _) rfl rfl) ?_
      refine aq0 8 rfl (by decide +kernel) (by decide) (fun _ => o_move (v := .bool _) rfl) ?_
      refine aq_split (g := 50) rfl (fun hg8 => ?_) (fun hg8 => ?_)
      · refine aqy0 (g := 50) 9 rfl (by decide +kernel) (by decide) rfl rfl (fun _ => o_move (v := .bool _) rfl) ?_
        refine aqy0 (g := 50) 10 rfl (by decide +kernel) (by decide) rfl rfl (fun _ => o_move (v := .bool _) rfl) ?_
        refine aqy0 (g := 50) 11 rfl (by decide +kernel) (by decide) rfl rfl (fun _ => o_beq rfl rfl) ?_
        refine aq0 12 rfl (by decide +kernel) (by decide) (fun _ => o_pick_t (v := .bool _) rfl rfl) ?_
        refine aq0 13 rfl (by decide +kernel) (by decide) (fun _ => o_move (v := .bool _) rfl) ?_
        refine aq_split (g := 55) rfl (fun hg13 => ?_) (fun hg13 => ?_)
        · refine aqyp (g := 55) 14 rfl (by decide +kernel) (by decide) rfl rfl (fun G => w_loadR rfl (lk rfl rfl) rfl rfl rfl) ?_
          refine aqy0 (g := 55) 15 rfl (by decide +kernel) (by decide) rfl rfl (fun _ => o_move (v := .int _ _) rfl) ?_
          refine aqy0 (g := 55) 16 rfl (by decide +kernel) (by decide) rfl rfl (fun _ => o_move (v := .int _ _) rfl) ?_
          refine aqy02 (g := 55) 17 rfl (by decide +kernel) (by decide) rfl rfl (fun _ => V2.call (lease_Over l hl now guard _) rfl) ?_
          refine aqyp (g := 55) 18 rfl (by decide +kernel) (by decide) rfl rfl (fun G => w_loadR rfl (lk rfl rfl) rfl rfl rfl) ?_
          refine aqy0 (g := 55) 19 rfl (by decide +kernel) (by decide) rfl rfl (fun _ => o_move (v := .int _ _) rfl) ?_
          refine aqy0 (g := 55) 20 rfl (by decide +kernel) (by decide) rfl rfl (fun _ => o_move (v := .int _ _) rfl) ?_
          refine aqy02 (g := 55) 21 rfl (by decide +kernel) (by decide) rfl rfl (fun _ => V2.call (ref19_Over l hl now guard _) rfl) ?_
          refine aqy02 (g := 55) 22 rfl (by decide +kernel) (by decide) rfl rfl (fun _ => V2.call (ref19_Same _ _ (lover_small hl) _) rfl) ?_
          refine aq0 23 rfl (by decide +kernel) (by decide) (fun _ => o_pick_t (v := .bool _) rfl rfl) ?_
          refine aq0 24 rfl (by decide +kernel) (by decide) (fun _ => o_assign (v := .bool _) rfl) ?_
          exact aa_done (by decide +kernel) (by exact fun _ => ⟨_, rfl⟩) (Out.mk (by (refine congrArg AV.bool ?_; (clear c1 c2; (simp_all; done)))) (by repeat (first | exact SubX.refl _ _ | refine SubX.at ?_ | refine SubX.put rfl ?_)))
        · refine aqn0 (g := 55) 14 rfl (by decide +kernel) (by decide) rfl rfl rfl ?_
          refine aqn0 (g := 55) 15 rfl (by decide +kernel) (by decide) rfl rfl rfl ?_
          refine aqn0 (g := 55) 16 rfl (by decide +kernel) (by decide) rfl rfl rfl ?_
          refine aqn0 (g := 55) 17 rfl (by decide +kernel) (by decide) rfl rfl rfl ?_
          refine aqn0 (g := 55) 18 rfl (by decide +kernel) (by decide) rfl rfl rfl ?_
          refine aqn0 (g := 55) 19 rfl (by decide +kernel) (by decide) rfl rfl rfl ?_
          refine aqn0 (g := 55) 20 rfl (by decide +kernel) (by decide) rfl rfl rfl ?_
          refine aqn0 (g := 55) 21 rfl (by decide +kernel) (by decide) rfl rfl rfl ?_
          refine aqn0 (g := 55) 22 rfl (by decide +kernel) (by decide) rfl rfl rfl ?_
          refine aq0 23 rfl (by decide +kernel) (by decide) (fun _ => o_pick_f (v := .bool _) rfl rfl) ?_
          refine aq0 24 rfl (by decide +kernel) (by decide) (fun _ => o_assign (v := .bool _) rfl) ?_
          exact aa_done (by decide +kernel) (by exact fun _ => ⟨_, rfl⟩) (Out.mk (by (refine congrArg AV.bool ?_; (clear c1 c2; (simp_all; done)))) (by repeat (first | exact SubX.refl _ _ | refine SubX.at ?_ | refine SubX.put rfl ?_)))
      · refine aqn0 (g := 50) 9 rfl (by decide +kernel) (by decide) rfl rfl rfl ?_
        refine aqn0 (g := 50) 10 rfl (by decide +kernel) (by decide) rfl rfl rfl ?_
        refine aqn0 (g := 50) 11 rfl (by decide +kernel) (by decide) rfl rfl rfl ?_
        refine aq0 12 rfl (by decide +kernel) (by decide) (fun _ => o_pick_f (v := .bool _) rfl rfl) ?_
        refine aq0 13 rfl (by decide +kernel) (by decide) (fun _ => o_move (v := .bool _) rfl) ?_
        refine aqn0 (g := 55) 14 rfl (by decide +kernel) (by decide) rfl rfl rfl ?_
        refine aqn0 (g := 55) 15 rfl (by decide +kernel) (by decide) rfl rfl rfl ?_
        refine aqn0 (g := 55) 16 rfl (by decide +kernel) (by decide) rfl rfl rfl ?_
        refine aqn0 (g := 55) 17 rfl (by decide +kernel) (by decide) rfl rfl rfl ?_
        refine aqn0 (g := 55) 18 rfl (by decide +kernel) (by decide) rfl rfl rfl ?_
        refine aqn0 (g := 55) 19 rfl (by decide +kernel) (by decide) rfl rfl rfl ?_
        refine aqn0 (g := 55) 20 rfl (by decide +kernel) (by decide) rfl rfl rfl ?_
        refine aqn0 (g := 55) 21 rfl (by decide +kernel) (by decide) rfl rfl rfl ?_
        refine aqn0 (g := 55) 22 rfl (by decide +kernel) (by decide) rfl rfl rfl ?_
        refine aq0 23 rfl (by decide +kernel) (by decide) (fun _ => o_pick_f (v := .bool _) rfl rfl) ?_
        refine aq0 24 rfl (by decide +kernel) (by decide) (fun _ => o_assign (v := .bool _) rfl) ?_
        exact aa_done (by decide +kernel) (by exact fun _ => ⟨_, rfl⟩) (Out.mk (by (refine congrArg AV.bool ?_; (clear c1 c2; (simp_all; done)))) (by repeat (first | exact SubX.refl _ _ | refine SubX.at ?_ | refine SubX.put rfl ?_)))
    · refine aqn0 (g := 45) 4 rfl (by decide +kernel) (by decide) rfl rfl rfl ?_
      refine aqn0 (g := 45) 5 rfl (by decide +kernel) (by decide) rfl rfl rfl ?_
      refine aqn0 (g := 45) 6 rfl (by decide +kernel) (by decide) rfl rfl rfl ?_
      refine aq0 7 rfl (by decide +kernel) (by decide) (fun _ => o_pick_f (v := .bool _) rfl rfl) ?_
      refine aq0 8 rfl (by decide +kernel) (by decide) (fun _ => o_move (v := .bool _) rfl) ?_
      refine aqn0 (g := 50) 9 rfl (by decide +kernel) (by decide) rfl rfl rfl ?_
      refine aqn0 (g := 50) 10 rfl (by decide +kernel) (by decide) rfl rfl rfl ?_
      refine aqn0 (g := 50) 11 rfl (by decide +kernel) (by decide) rfl rfl rfl ?_
      refine aq0 12 rfl (by decide +kernel) (by decide) (fun _ => o_pick_f (v := .bool _) rfl rfl) ?_
      refine aq0 13 rfl (by decide +kernel) (by decide) (fun _ => o_move (v := .bool _) rfl) ?_
      refine aqn0 (g := 55) 14 rfl (by decide +kernel) (by decide) rfl rfl rfl ?_
      refine aqn0 (g := 55) 15 rfl (by decide +kernel) (by decide) rfl rfl rfl ?_
      refine aqn0 (g := 55) 16 rfl (by decide +kernel) (by decide) rfl rfl rfl ?_
      refine aqn0 (g := 55) 17 rfl (by decide +kernel) (by decide) rfl rfl rfl ?_
      refine aqn0 (g := 55) 18 rfl (by decide +kernel) (by decide) rfl rfl rfl ?_
      refine aqn0 (g := 55) 19 rfl (by decide +kernel) (by decide) rfl rfl rfl ?_
      refine aqn0 (g := 55) 20 rfl (by decide +kernel) (by decide) rfl rfl rfl ?_
      refine aqn0 (g := 55) 21 rfl (by decide +kernel) (by decide) rfl rfl rfl ?_
      refine aqn0 (g := 55) 22 rfl (by decide +kernel) (by decide) rfl rfl rfl ?_
      refine aq0 23 rfl (by decide +kernel) (by decide) (fun _ => o_pick_f (v := .bool _) rfl rfl) ?_
      refine aq0 24 rfl (by decide +kernel) (by decide) (fun _ => o_assign (v := .bool _) rfl) ?_
      exact aa_done (by decide +kernel) (by exact fun _ => ⟨_, rfl⟩) (Out.mk (by (refine congrArg AV.bool ?_; (clear c1 c2; (simp_all; done)))) (by repeat (first | exact SubX.refl _ _ | refine SubX.at ?_ | refine SubX.put rfl ?_)))
  repeat (first | refine then_nrm ?_ | refine aw_ret ?_)
  exact e_done hB (r_tmp rfl .nil) rfl rfl
end Go.Av

namespace Go.Av
open Go.Proofs
set_option maxRecDepth 10000
set_option linter.unusedSimpArgs false
set_option linter.unusedVariables false

theorem o_slicepT {P : Program} {N : Nat} {env : Env} {H : Heap} {ty t e : TypeId} {x : Operand} {hi : Option Operand} {xs ys : List (List AV)} {h sz : Nat} {agg : Bool} [hu : SlI P t e] [TyI P e agg sz] (hx : aev env x = .pl xs) (hh : Bd env hi xs.length h) (h1 : h ≤ xs.length) (hsz : ∀ r ∈ xs, r.length = sz) (hy : xs.take h = ys) : V1 P N (.slice t x none hi none) ty env H (.pl ys) := by
  have := o_slicep (P := P) (N := N) (env := env) (H := H) (ty := ty) (t := t) (e := e) (agg := agg) (l := 0) hx .none hh (Nat.zero_le _) h1 hsz
  rw [List.drop_zero, Nat.sub_zero, hy] at this
  exact this
theorem readN_len (b : List UInt8) : (readN b).1.things.length ≤ 1000000 := by
  have := readSet_len (b.drop 2)
  unfold readN
  split
  · exact Nat.zero_le _
  split
  · split
    · exact Nat.zero_le _
    · split <;> exact Nat.zero_le _
  · split
    · show (readSet (b.drop 2)).1.length ≤ 1000000
      omega
    · exact Nat.zero_le _
theorem three_bel (n : Nat) (a b c : Note) : ∀ o ∈ [AObj.mk 0 3 [eNote a], AObj.mk 0 3 [eNote b], AObj.mk 0 3 [eNote c]], ∀ r ∈ o.rows, AV.bels n r = true := by
  intro o ho r hr
  simp only [List.mem_cons, List.not_mem_nil, or_false] at ho
  rcases ho with rfl | rfl | rfl
  · simp only [List.mem_singleton] at hr; subst hr; rfl
  · simp only [List.mem_singleton] at hr; subst hr; rfl
  · simp only [List.mem_singleton] at hr; subst hr; rfl
set_option maxHeartbeats 0 in
theorem law19_LeaseBytes (n : Note) (b : List UInt8) (H : Heap) : ACT Tryd.prog KD 7 [.agg (eNote n), .pl (b.map brow)] H (Ret (.bool true) H) := by
  refine ACT.body (N := 100) [.tmp 4] Tryd.func7 rfl rfl rfl (Nat.le_of_ble_eq_true rfl) fun B hB => ?_
  repeat (refine aw_seq ?_)
  refine aw_region ?_
  refine ao2 (by rintro _ ⟨⟩; decide) (o_boxL (sz := 3) (v := .agg _) rfl rfl rfl rfl (by decide) rfl) ?_
  refine ao1 (by decide) (o_assign (v := .bool _) rfl) ?_
  refine ao_nil ?_
  try dsimp only [List.length_nil, put, AV.cells, List.nil_append]
  repeat (first | refine then_nrm ?_ | refine aw_seq ?_)
  refine aw_region ?_
  refine ao2 (by rintro _ ⟨⟩; decide) (V2.callT (law19_awake _) rfl rfl) ?_
  refine ao1 (by decide) (o_not rfl) ?_
  refine ao_nil ?_
  try dsimp only [put]
  repeat (refine then_nrm ?_)
  refine aw_cond rfl (fun hc => ?_) (fun hc => ?_)
  · cases hc
  repeat (first | refine then_nrm ?_ | refine aw_seq ?_ | refine aw_skip ?_)
  refine aw_region ?_
  refine ao1 (by decide) (w_fieldAddr rfl (lk rfl rfl) rfl (by decide)) ?_
  refine ao1 (by decide) (w_load1 (v := .pl _) rfl (lk rfl rfl) rfl rfl rfl) ?_
  refine ao1 (by decide) (o_lenp rfl) ?_
  refine ao1 (by decide) (o_gt rfl rfl) ?_
  refine ao_nil ?_
  try dsimp only [Nat.reduceAdd]
  repeat (refine then_nrm ?_)
  refine aw_cond rfl (fun hc => ?_) (fun hc => ?_)
  · repeat (refine aw_seq ?_)
    refine aw_region ?_
    refine ao1 (by decide) (o_assign (v := .bool _) rfl) ?_
    refine ao_nil ?_
    repeat (first | refine then_nrm ?_ | refine then_ret ?_ | refine aw_ret ?_)
    exact e_done hB (r_tmp rfl .nil) rfl rfl
  have hn60 : n.things.length ≤ 60 := by simp at hc; omega
  have hn : n.things.length ≤ 1000000 := by omega
  clear hc
  have hbl : (b.take 1000).length ≤ 1000 := by rw [List.length_take]; omega
  repeat (first | refine then_nrm ?_ | refine aw_seq ?_ | refine aw_skip ?_)
  refine aw_region ?_
  refine ao1 (by decide) (o_move (v := .pl _) rfl) ?_
  refine ao1 (by decide) (o_move (v := .pl _) rfl) ?_
  refine ao1 (by decide) (o_lenp rfl) ?_
  refine ao1 (by decide) (o_min (r := ((min b.length 1000 : Nat) : Int)) rfl rfl (by simp; omega)) ?_
  refine ao1 (by decide) (o_slicepT (sz := 1) (h := min b.length 1000) (ys := (b.take 1000).map brow) rfl (.some rfl rfl) (by simp; omega) (bytes_len1 _) (by rw [← List.map_take]; congr 1; rw [List.take_eq_take_iff]; omega)) ?_
  refine ao1 (by decide) (o_assign (v := .pl _) rfl) ?_
  refine ao_nil ?_
  generalize b.take 1000 = b at hbl
  have hpl : (setB n.things).length ≤ 65536 := by have := setB_len n.things; omega
  have p1 := fun H => lease_Put n hn H
  have p2 := fun H => ref19_Put n hn H
  have q1 := fun H => lease_Read b H (by omega)
  have q2 := fun H => ref19_Read b H (by omega)
  have hrn := readN_len b
  have hback := fun h => @put_read b (readN b).1 h
  have hpb : (putN n).2 = 0 → readN (putN n).1 = (n, 0) ∧ (putN n).1.length ≤ 100000 := fun h => by
    have hm : lmay n = true := by
      cases hm : lmay n with
      | true => rfl
      | false => rw [putN, if_pos hm] at h; cases h
    refine ⟨read_put hm hpl, ?_⟩
    unfold putN
    rw [if_neg (by rw [hm]; simp)]
    split
    · simp [beN_len]
    · have := setB_len n.things
      simp
      omega
  have hz2 : readN b = ((readN b).1, (readN b).2) := rfl
  generalize putN n = c at p1 p2 hpb
  obtain ⟨c, e⟩ := c
  generalize readN b = m at q1 q2 hrn hback hz2
  obtain ⟨m, f⟩ := m
  simp only at p1 p2 q1 q2 hrn hback hpb
  repeat (first | refine then_nrm ?_ | refine aw_seq ?_)
  refine aw_region ?_
  refine ao1 (by decide) (w_loadR rfl (lk rfl rfl) rfl rfl rfl) ?_
  refine ao_ret (p1 _) rfl (by decide) ?_
  refine ao1 (by decide) (o_move (v := .tup _) rfl) ?_
  refine ao1 (by decide) (o_extract (v := .pl _) rfl rfl) ?_
  refine ao1 (by decide) (o_extract (v := .int _ _) rfl rfl) ?_
  refine ao1 (by decide) (o_assign (v := .pl _) rfl) ?_
  refine ao1 (by decide) (o_assign (v := .int _ _) rfl) ?_
  refine ao_nil ?_
  repeat (first | refine then_nrm ?_ | refine aw_seq ?_)
  refine aw_region ?_
  refine ao1 (by decide) (w_loadR rfl (lk rfl rfl) rfl rfl rfl) ?_
  refine ao_ret (p2 _) rfl (by decide) ?_
  refine ao1 (by decide) (o_move (v := .tup _) rfl) ?_
  refine ao1 (by decide) (o_extract (v := .pl _) rfl rfl) ?_
  refine ao1 (by decide) (o_extract (v := .int _ _) rfl rfl) ?_
  refine ao1 (by decide) (o_assign (v := .pl _) rfl) ?_
  refine ao1 (by decide) (o_assign (v := .int _ _) rfl) ?_
  refine ao_nil ?_
  repeat (first | refine then_nrm ?_ | refine aw_seq ?_)
  refine aw_region ?_
  refine ao1 (by decide) (o_move (v := .pl _) rfl) ?_
  refine ao_ret (q1 _) rfl (by decide) ?_
  refine ao1 (by decide) (o_move (v := .tup _) rfl) ?_
  refine ao1 (by decide) (o_extract (v := .agg _) rfl rfl) ?_
  refine ao1 (by decide) (o_extract (v := .int _ _) rfl rfl) ?_
  refine ao2 (by rintro _ ⟨⟩; decide) (o_allocL (sz := 3) rfl (by decide) rfl) ?_
  refine ao2 (by rintro _ ⟨⟩) (w_storeW (sz := 3) rfl rfl rfl rfl rfl rfl rfl rfl (Nat.le_of_ble_eq_true rfl)) ?_
  refine ao1 (by decide) (o_assign (v := .int _ _) rfl) ?_
  refine ao_nil ?_
  try dsimp only [List.length_cons, List.length_nil, Nat.reduceAdd, put, List.cons_append, List.nil_append, List.set_cons_zero, List.set_cons_succ]
  repeat (first | refine then_nrm ?_ | refine aw_seq ?_)
  refine aw_region ?_
  refine ao1 (by decide) (o_move (v := .pl _) rfl) ?_
  refine ao_ret (q2 _) rfl (by decide) ?_
  refine ao1 (by decide) (o_move (v := .tup _) rfl) ?_
  refine ao1 (by decide) (o_extract (v := .agg _) rfl rfl) ?_
  refine ao1 (by decide) (o_extract (v := .int _ _) rfl rfl) ?_
  refine ao2 (by rintro _ ⟨⟩; decide) (o_allocL (sz := 3) rfl (by decide) rfl) ?_
  refine ao2 (by rintro _ ⟨⟩) (w_storeW (sz := 3) rfl rfl rfl rfl rfl rfl rfl rfl (Nat.le_of_ble_eq_true rfl)) ?_
  refine ao1 (by decide) (o_assign (v := .int _ _) rfl) ?_
  refine ao_nil ?_
  try dsimp only [List.length_cons, List.length_nil, Nat.reduceAdd, put, List.cons_append, List.nil_append, List.set_cons_zero, List.set_cons_succ]
  repeat (first | refine then_nrm ?_ | refine aw_seq ?_)
  refine aw_out 68 (.bool false) ?_ ?_
  · refine ao1 (by decide) (o_move (v := .pl _) rfl) ?_
    refine ao1 (by decide) (o_bytesStr rfl) ?_
    refine ao1 (by decide) (o_move (v := .pl _) rfl) ?_
    refine ao1 (by decide) (o_bytesStr rfl) ?_
    refine ao1 (by decide) (o_sned rfl rfl) ?_
    refine ao1 (by decide) (o_move (v := .bool _) rfl) ?_
    refine ao_split rfl rfl (fun hg5 => ?_) (fun hg5 => ?_)
    · refine ao_nF rfl rfl (by decide) ?_
      refine ao_nF rfl rfl (by decide) ?_
      refine ao_nF rfl rfl (by decide) ?_
      refine ao1 (by decide) (o_pick_t (v := .bool _) rfl rfl) ?_
      refine ao1 (by decide) (o_move (v := .bool _) rfl) ?_
      refine ao_nF rfl rfl (by decide) ?_
      refine ao_nF rfl rfl (by decide) ?_
      refine ao_nF rfl rfl (by decide) ?_
      refine ao_nF rfl rfl (by decide) ?_
      refine ao1 (by decide) (o_pick_t (v := .bool _) rfl rfl) ?_
      refine ao1 (by decide) (o_move (v := .bool _) rfl) ?_
      refine ao_nF rfl rfl (by decide) ?_
      refine ao_nF rfl rfl (by decide) ?_
      refine ao_nF rfl rfl (by decide) ?_
      refine ao1 (by decide) (o_pick_t (v := .bool _) rfl rfl) ?_
      exact ao_nil (Out.mk (by (refine congrArg AV.bool ?_; (clear p1 p2 q1 q2; (simp_all; done)))) (by repeat (first | exact SubX.refl _ _ | refine SubX.at ?_ | refine SubX.put rfl ?_)))
    · refine ao_y1 rfl rfl (by decide) (o_move (v := .int _ _) rfl) ?_
      refine ao_y1 rfl rfl (by decide) (o_move (v := .int _ _) rfl) ?_
      refine ao_y1 rfl rfl (by decide) (o_ne rfl rfl) ?_
      refine ao1 (by decide) (o_pick_f (v := .bool _) rfl rfl) ?_
      refine ao1 (by decide) (o_move (v := .bool _) rfl) ?_
      refine ao_split rfl rfl (fun hg10 => ?_) (fun hg10 => ?_)
      · refine ao_nF rfl rfl (by decide) ?_
        refine ao_nF rfl rfl (by decide) ?_
        refine ao_nF rfl rfl (by decide) ?_
        refine ao_nF rfl rfl (by decide) ?_
        refine ao1 (by decide) (o_pick_t (v := .bool _) rfl rfl) ?_
        refine ao1 (by decide) (o_move (v := .bool _) rfl) ?_
        refine ao_nF rfl rfl (by decide) ?_
        refine ao_nF rfl rfl (by decide) ?_
        refine ao_nF rfl rfl (by decide) ?_
        refine ao1 (by decide) (o_pick_t (v := .bool _) rfl rfl) ?_
        exact ao_nil (Out.mk (by (refine congrArg AV.bool ?_; (clear p1 p2 q1 q2; (simp_all; done)))) (by repeat (first | exact SubX.refl _ _ | refine SubX.at ?_ | refine SubX.put rfl ?_)))
      · refine ao_y1 rfl rfl (by decide) (w_loadR rfl (lk rfl rfl) rfl rfl rfl) ?_
        refine ao_y1 rfl rfl (by decide) (w_loadR rfl (lk rfl rfl) rfl rfl rfl) ?_
        refine ao_y rfl rfl (by decide) (V2.call (ref19_SameNote m m hrn _) rfl) ?_
        refine ao_y1 rfl rfl (by decide) (o_not rfl) ?_
        refine ao1 (by decide) (o_pick_f (v := .bool _) rfl rfl) ?_
        refine ao1 (by decide) (o_move (v := .bool _) rfl) ?_
        refine ao_split rfl rfl (fun hg16 => ?_) (fun hg16 => ?_)
        · refine ao_nF rfl rfl (by decide) ?_
          refine ao_nF rfl rfl (by decide) ?_
          refine ao_nF rfl rfl (by decide) ?_
          refine ao1 (by decide) (o_pick_t (v := .bool _) rfl rfl) ?_
          exact ao_nil (Out.mk (by (refine congrArg AV.bool ?_; (clear p1 p2 q1 q2; (simp_all; done)))) (by repeat (first | exact SubX.refl _ _ | refine SubX.at ?_ | refine SubX.put rfl ?_)))
        · refine ao_y1 rfl rfl (by decide) (o_move (v := .int _ _) rfl) ?_
          refine ao_y1 rfl rfl (by decide) (o_move (v := .int _ _) rfl) ?_
          refine ao_y1 rfl rfl (by decide) (o_ne rfl rfl) ?_
          refine ao1 (by decide) (o_pick_f (v := .bool _) rfl rfl) ?_
          exact ao_nil (Out.mk (by (refine congrArg AV.bool ?_; (clear p1 p2 q1 q2; (simp_all; done)))) (by repeat (first | exact SubX.refl _ _ | refine SubX.at ?_ | refine SubX.put rfl ?_)))
  repeat (refine then_nrm ?_)
  refine aw_cond rfl (fun hc => ?_) (fun hc => ?_)
  · cases hc
  repeat (first | refine then_nrm ?_ | refine aw_seq ?_ | refine aw_skip ?_)
  refine aw_region ?_
  refine ao1 (by decide) (o_move (v := .int _ _) rfl) ?_
  refine ao1 (by decide) (o_eq rfl rfl) ?_
  refine ao_nil ?_
  repeat (refine then_nrm ?_)
  refine aw_joinQ ([(1, .pl (b.map brow)), (9, .pt (Lid H.length 1) 0 0 0), (10, .int .i64 f)]) (H ++ [⟨0, 3, [eNote n]⟩, ⟨0, 3, [eNote m]⟩, ⟨0, 3, [eNote m]⟩]) ?_ ?_
  · repeat (fail)
    refine aw_cond rfl (fun hc => ?_) (fun hc => ?_)
    · have he : e = 0 := by simpa using hc
      obtain ⟨k1, k2⟩ := hpb he
      have q3 := fun H => lease_Read c H k2
      rw [k1] at q3
      repeat (refine aw_seq ?_)
      refine aw_region ?_
      refine ao1 (by decide) (o_move (v := .pl _) rfl) ?_
      refine ao_ret (q3 _) rfl (by decide) ?_
      refine ao1 (by decide) (o_move (v := .tup _) rfl) ?_
      refine ao1 (by decide) (o_extract (v := .agg _) rfl rfl) ?_
      refine ao1 (by decide) (o_extract (v := .int _ _) rfl rfl) ?_
      refine ao2 (by rintro _ ⟨⟩; decide) (o_allocL (sz := 3) rfl (by decide) rfl) ?_
      refine ao2 (by rintro _ ⟨⟩) (w_storeW (sz := 3) rfl rfl rfl rfl rfl rfl rfl rfl (Nat.le_of_ble_eq_true rfl)) ?_
      refine ao1 (by decide) (o_assign (v := .int _ _) rfl) ?_
      refine ao_nil ?_
      try dsimp only [List.length_cons, List.length_nil, Nat.reduceAdd, put, List.cons_append, List.nil_append, List.set_cons_zero, List.set_cons_succ]
      repeat (first | refine then_nrm ?_ | refine aw_seq ?_)
      refine aw_out 83 (.bool false) ?_ ?_
      · refine ao1 (by decide) (o_move (v := .int _ _) rfl) ?_
        refine ao1 (by decide) (o_ne rfl rfl) ?_
        refine ao1 (by decide) (o_move (v := .bool _) rfl) ?_
        refine ao_split rfl rfl (fun hg2 => ?_) (fun hg2 => ?_)
        · refine ao_nF rfl rfl (by decide) ?_
          refine ao_nF rfl rfl (by decide) ?_
          refine ao_nF rfl rfl (by decide) ?_
          refine ao_nF rfl rfl (by decide) ?_
          refine ao1 (by decide) (o_pick_t (v := .bool _) rfl rfl) ?_
          exact ao_nil (Out.mk (by (refine congrArg AV.bool ?_; (clear p1 p2 q1 q2 q3; (simp_all; done)))) (by repeat (first | exact SubX.refl _ _ | refine SubX.at ?_ | refine SubX.put rfl ?_)))
        · refine ao_y1 rfl rfl (by decide) (w_loadR rfl (lk rfl rfl) rfl rfl rfl) ?_
          refine ao_y1 rfl rfl (by decide) (w_loadR rfl (lk rfl rfl) rfl rfl rfl) ?_
          refine ao_y rfl rfl (by decide) (V2.call (ref19_SameNote n n hn _) rfl) ?_
          refine ao_y1 rfl rfl (by decide) (o_not rfl) ?_
          refine ao1 (by decide) (o_pick_f (v := .bool _) rfl rfl) ?_
          exact ao_nil (Out.mk (by (refine congrArg AV.bool ?_; (clear p1 p2 q1 q2 q3; (simp_all; done)))) (by repeat (first | exact SubX.refl _ _ | refine SubX.at ?_ | refine SubX.put rfl ?_)))
      repeat (refine then_nrm ?_)
      refine aw_cond rfl (fun hc => ?_) (fun hc => ?_)
      · cases hc
      · repeat (refine aw_skip ?_)
        exact join_nrm (by repeat (first | exact Sub.nil | refine Sub.cons (by rfl) ?_)) (Fit.loc hB rfl (by repeat (first | exact EBel.nil | refine EBel.cons (by first | rfl | (simp [AV.bel, AV.bels, Lid]; done)) ?_)) (three_bel _ _ _ _))
    · repeat (refine aw_skip ?_)
      exact join_nrm (by repeat (first | exact Sub.nil | refine Sub.cons (by rfl) ?_)) (.inl rfl)
  repeat (first | refine then_nrm ?_ | refine aw_seq ?_)
  refine aw_region ?_
  refine ao1 (by decide) (o_move (v := .int _ _) rfl) ?_
  refine ao1 (by decide) (o_eq rfl rfl) ?_
  refine ao_nil ?_
  repeat (refine then_nrm ?_)
  refine aw_cond rfl (fun hc => ?_) (fun hc => ?_)
  · have hf : f = 0 := by simpa using hc
    have hm := hback (by rw [hz2, hf])
    have p3 := fun H => lease_Put m hrn H
    rw [hm] at p3
    repeat (refine aw_seq ?_)
    refine aw_region ?_
    refine ao1 (by decide) (w_loadR rfl (lk rfl rfl) rfl rfl rfl) ?_
    refine ao_ret (p3 _) rfl (by decide) ?_
    refine ao1 (by decide) (o_move (v := .tup _) rfl) ?_
    refine ao1 (by decide) (o_extract (v := .pl _) rfl rfl) ?_
    refine ao1 (by decide) (o_extract (v := .int _ _) rfl rfl) ?_
    refine ao1 (by decide) (o_assign (v := .pl _) rfl) ?_
    refine ao1 (by decide) (o_assign (v := .int _ _) rfl) ?_
    refine ao_nil ?_
    try dsimp only
    repeat (first | refine then_nrm ?_ | refine aw_seq ?_)
    refine aw_out 4 (.bool true) ?_ ?_
    · refine ao1 (by decide) (o_move (v := .int _ _) rfl) ?_
      refine ao1 (by decide) (o_eq rfl rfl) ?_
      refine ao1 (by decide) (o_move (v := .bool _) rfl) ?_
      refine ao_split rfl rfl (fun hg2 => ?_) (fun hg2 => ?_)
      · refine ao_y1 rfl rfl (by decide) (o_move (v := .pl _) rfl) ?_
        refine ao_y1 rfl rfl (by decide) (o_bytesStr rfl) ?_
        refine ao_y1 rfl rfl (by decide) (o_move (v := .pl _) rfl) ?_
        refine ao_y1 rfl rfl (by decide) (o_bytesStr rfl) ?_
        refine ao_y1 rfl rfl (by decide) (o_seqd rfl rfl) ?_
        refine ao1 (by decide) (o_pick_t (v := .bool _) rfl rfl) ?_
        refine ao1 (by decide) (o_assign (v := .bool _) rfl) ?_
        exact ao_nil (Out.mk (by (refine congrArg AV.bool ?_; (clear p1 p2 p3 q1 q2; (simp_all; done)))) (by repeat (first | exact SubX.refl _ _ | refine SubX.at ?_ | refine SubX.put rfl ?_)))
      · refine ao_nT rfl rfl (by decide) ?_
        refine ao_nT rfl rfl (by decide) ?_
        refine ao_nT rfl rfl (by decide) ?_
        refine ao_nT rfl rfl (by decide) ?_
        refine ao_nT rfl rfl (by decide) ?_
        refine ao1 (by decide) (o_pick_f (v := .bool _) rfl rfl) ?_
        refine ao1 (by decide) (o_assign (v := .bool _) rfl) ?_
        exact ao_nil (Out.mk (by (refine congrArg AV.bool ?_; (clear p1 p2 p3 q1 q2; (simp_all; done)))) (by repeat (first | exact SubX.refl _ _ | refine SubX.at ?_ | refine SubX.put rfl ?_)))
    repeat (first | refine then_nrm ?_ | refine then_ret ?_ | refine aw_ret ?_)
    exact e_done hB (r_tmp rfl .nil) rfl rfl
  · repeat (first | refine then_nrm ?_ | refine aw_seq ?_ | refine aw_skip ?_)
    refine aw_region ?_
    refine ao1 (by decide) (o_assign (v := .bool _) rfl) ?_
    refine ao_nil ?_
    repeat (first | refine then_nrm ?_ | refine aw_ret ?_)
    exact e_done hB (r_tmp rfl .nil) rfl rfl
end Go.Av

/-
  WHAT A CALL IS GIVEN: a value that reads as1 data is an abstract value, cell by cell.
-/
namespace Go.Av

theorem flat_getT {α : Type} {sz : Nat} : ∀ {rows : List (List α)}, (∀ r ∈ rows, r.length = sz) → ∀ {i : Nat} {r : List α} {j : Nat}, rows[i]? = some r → j < sz → rows.flatten[i * sz + j]? = r[j]?
  | [], _, i, r, j, hr, _ => by simp at hr
  | x :: rows, hw, i, r, j, hr, hj => by
    have hx : x.length = sz := hw x (by simp)
    cases i with
    | zero =>
      simp at hr
      subst hr
      rw [List.flatten_cons, List.getElem?_append_left (by omega)]
      simp
    | succ i =>
      have := flat_getT (rows := rows) (fun r h => hw r (by simp [h])) (i := i) (r := r) (j := j) (by simpa using hr) hj
      rw [List.flatten_cons, List.getElem?_append_right (by rw [hx, Nat.succ_mul]; omega), hx, show (i + 1) * sz + j - sz = i * sz + j by rw [Nat.succ_mul]; omega]
      exact this

/-- The types of a type's cells; none where it holds what is not followed here. -/
def tile (P : Program) (rec : TypeId → Option (List TypeId)) (total : Nat) : Nat → List Field → Option (List TypeId)
  | off, [] => if off = total then some [] else none
  | off, f :: fs => if f.offset = off then
      match rec f.type with
      | some a => if a.length = P.cellsOf f.type then
          match tile P rec total (off + P.cellsOf f.type) fs with
          | some r => some (a ++ r)
          | none => none
        else none
      | none => none
    else none
def cellTys (P : Program) : Nat → TypeId → Option (List TypeId)
  | 0, _ => none
  | n + 1, t => match P.underlying t with
    | some .bool | some (.int _) | some .string => some [t]
    | some (.slice e) => if P.cellsOf e = 0 then none else some [t]
    | some (.struct fs) => tile P (cellTys P n) (P.cellsOf t) 0 fs.toList
    | some (.array m e) => match cellTys P n e with
      | some a => if a.length = P.cellsOf e ∧ P.cellsOf t = m * P.cellsOf e then some (List.replicate m a).flatten else none
      | none => none
    | _ => none

/-- What one cell of a type may hold. -/
def CellOk (P : Program) : Nat → TypeId → AV → Prop
  | 0, _, _ => False
  | n + 1, t, v => match P.underlying t with
    | some .bool => ∃ b, v = .bool b
    | some (.int k) => ∃ i, v = .int k i ∧ (Lit.int k i).wf = true
    | some .string => ∃ s : ByteArray, v = .str s ∧ s.size ≤ maxLen
    | some (.slice e) => ∃ rows, v = .pl rows ∧ rows.length ≤ maxLen ∧ ∀ r ∈ rows, ∃ ts, cellTys P (n + 1) e = some ts ∧ r.length = ts.length ∧ ∀ (j : Nat) (t' : TypeId) (v' : AV), ts[j]? = some t' → r[j]? = some v' → CellOk P n t' v'
    | _ => False
def RowIs (P : Program) (n : Nat) (ts : List TypeId) (r : List AV) : Prop := r.length = ts.length ∧ ∀ (j : Nat) (t' : TypeId) (v' : AV), ts[j]? = some t' → r[j]? = some v' → CellOk P n t' v'

section
variable {P : Program} {Hd : Type} {enc : TypeId × Value → Hd} {w : World} {base : Nat} {spare : Nat → Bool} {held : Bool}

theorem tile_spec {rec : TypeId → Option (List TypeId)} {total : Nat} : ∀ (fs : List Field) (off : Nat) (ts : List TypeId), tile P rec total off fs = some ts → off + ts.length = total ∧ off ≤ total ∧
    ∀ (f : Field), f ∈ fs → ∃ a, rec f.type = some a ∧ a.length = P.cellsOf f.type ∧ off ≤ f.offset ∧ f.offset + a.length ≤ total ∧ (∀ j, j < a.length → ts[f.offset - off + j]? = a[j]?)
  | [], off, ts, h => by
    unfold tile at h
    split at h
    · cases h; simp_all
    · cases h
  | f :: fs, off, ts, h => by
    unfold tile at h
    split at h
    · rename_i ho
      split at h
      · rename_i a ha
        split at h
        · rename_i hl
          split at h
          · rename_i r hr
            cases h
            obtain ⟨h1, h2, h3⟩ := tile_spec fs _ _ hr
            refine ⟨by simp; omega, by omega, fun g hg => ?_⟩
            rcases List.mem_cons.1 hg with rfl | hg
            · refine ⟨a, ha, hl, by omega, by omega, fun j hj => ?_⟩
              rw [ho, Nat.sub_self, Nat.zero_add, List.getElem?_append_left hj]
            · obtain ⟨b, k1, k2, k3, k4, k5⟩ := h3 g hg
              refine ⟨b, k1, k2, by omega, k4, fun j hj => ?_⟩
              rw [List.getElem?_append_right (by omega), ← k5 j hj]
              congr 1
              omega
          · cases h
        · cases h
      · cases h
    · cases h

/-- Which field a cell belongs to. -/
theorem tile_cover {rec : TypeId → Option (List TypeId)} {total : Nat} : ∀ (fs : List Field) (off : Nat) (ts : List TypeId), tile P rec total off fs = some ts → ∀ j, off ≤ j → j < total → ∃ f ∈ fs, f.offset ≤ j ∧ j < f.offset + P.cellsOf f.type
  | [], off, ts, h, j, h1, h2 => by
    unfold tile at h
    split at h
    · omega
    · cases h
  | f :: fs, off, ts, h, j, h1, h2 => by
    unfold tile at h
    split at h
    · rename_i ho
      split at h
      · split at h
        · split at h
          · rename_i r hr
            by_cases hj : j < off + P.cellsOf f.type
            · exact ⟨f, List.mem_cons_self, by omega, by omega⟩
            · obtain ⟨g, hg, k⟩ := tile_cover fs _ _ hr j (by omega) h2
              exact ⟨g, List.mem_cons_of_mem _ hg, k⟩
          · cases h
        · cases h
      · cases h
    · cases h

theorem trod_one {t : TypeId} {fuel : Nat} {cs : List Value} {x : DataW Hd × List MemPlace} (hu : P.underlying t = some .bool ∨ (∃ k, P.underlying t = some (.int k)) ∨ P.underlying t = some .string ∨ ∃ e, P.underlying t = some (.slice e)) (h : DataW.trod enc P w base spare held (fuel + 1) t cs = some x) : ∃ u, cs = [u] := by
  unfold DataW.trod at h
  rcases hu with hu | ⟨k, hu⟩ | hu | ⟨e, hu⟩ <;> rw [hu] at h <;> split at h <;> first | exact ⟨_, rfl⟩ | (simp_all; done)

/-- A value that reads: each of its cells reads, by its own type. -/
theorem trod_cells : ∀ (n : Nat) (t : TypeId) (ts : List TypeId) (fuel : Nat) (cs : List Value) (x : DataW Hd × List MemPlace), cellTys P n t = some ts → DataW.trod enc P w base spare held fuel t cs = some x →
    cs.length = ts.length ∧ ∀ (j : Nat) (t' : TypeId) (u : Value), ts[j]? = some t' → cs[j]? = some u → ∃ fuel' x', DataW.trod enc P w base spare held fuel' t' [u] = some x' ∧ (P.underlying t' = some .bool ∨ (∃ k, P.underlying t' = some (.int k)) ∨ P.underlying t' = some .string ∨ ∃ e, P.underlying t' = some (.slice e) ∧ P.cellsOf e ≠ 0)
  | 0, _, _, _, _, _, h, _ => by cases h
  | _ + 1, _, _, 0, _, _, _, h => by cases h
  | n + 1, t, ts, fuel + 1, cs, x, h, hx => by
    have one : ∀ u, cs = [u] → ts = [t] → (P.underlying t = some .bool ∨ (∃ k, P.underlying t = some (.int k)) ∨ P.underlying t = some .string ∨ ∃ e, P.underlying t = some (.slice e) ∧ P.cellsOf e ≠ 0) → cs.length = ts.length ∧ ∀ (j : Nat) (t' : TypeId) (u : Value), ts[j]? = some t' → cs[j]? = some u → ∃ fuel' x', DataW.trod enc P w base spare held fuel' t' [u] = some x' ∧ (P.underlying t' = some .bool ∨ (∃ k, P.underlying t' = some (.int k)) ∨ P.underlying t' = some .string ∨ ∃ e, P.underlying t' = some (.slice e) ∧ P.cellsOf e ≠ 0) := by
      rintro u rfl rfl hk
      refine ⟨rfl, fun j t' u' h1 h2 => ?_⟩
      cases j with
      | zero => simp at h1 h2; subst h1; subst h2; exact ⟨fuel + 1, x, hx, hk⟩
      | succ j => simp at h1
    unfold cellTys at h
    split at h
    · rename_i hu
      cases h
      obtain ⟨u, hcs⟩ := trod_one (.inl hu) hx
      exact one u hcs rfl (.inl hu)
    · rename_i k hu
      cases h
      obtain ⟨u, hcs⟩ := trod_one (.inr (.inl ⟨k, hu⟩)) hx
      exact one u hcs rfl (.inr (.inl ⟨k, hu⟩))
    · rename_i hu
      cases h
      obtain ⟨u, hcs⟩ := trod_one (.inr (.inr (.inl hu))) hx
      exact one u hcs rfl (.inr (.inr (.inl hu)))
    · rename_i e hu
      split at h
      · cases h
      · rename_i he
        cases h
        obtain ⟨u, hcs⟩ := trod_one (.inr (.inr (.inr ⟨e, hu⟩))) hx
        exact one u hcs rfl (.inr (.inr (.inr ⟨e, hu, he⟩)))
    · rename_i fs hu
      obtain ⟨h1, _, h3⟩ := tile_spec _ _ _ h
      rw [Nat.zero_add] at h1
      unfold DataW.trod at hx
      rw [hu] at hx
      simp only at hx
      split at hx
      · rename_i hl
        cases hm : fs.toList.mapM (fun f => DataW.trod enc P w base spare held fuel f.type ((cs.drop f.offset).take (P.cellsOf f.type))) with
        | none => rw [hm] at hx; simp at hx
        | some xs =>
          have hg := mapM_some_get hm
          refine ⟨hl.trans h1.symm, fun j t' u hj hu' => ?_⟩
          have hjt : j < P.cellsOf t := by rw [← h1]; exact (List.getElem?_eq_some_iff.1 hj).1
          obtain ⟨f, hf, k1, k2⟩ := tile_cover _ _ _ h j (Nat.zero_le _) hjt
          obtain ⟨a, ha, hal, _, _, hat⟩ := h3 f hf
          obtain ⟨i, hi⟩ := List.mem_iff_getElem?.1 hf
          have hx1 := hg i f hi
          have hil : i < xs.length := by rw [mapM_some_length hm]; exact (List.getElem?_eq_some_iff.1 hi).1
          rw [List.getElem?_eq_getElem hil] at hx1
          obtain ⟨_, hrec⟩ := trod_cells n f.type a fuel _ _ ha hx1
          have hj2 : j - f.offset < a.length := by omega
          have e1 := hat (j - f.offset) hj2
          rw [show f.offset - 0 + (j - f.offset) = j by omega, hj] at e1
          refine hrec (j - f.offset) t' u e1.symm ?_
          rw [List.getElem?_take, if_pos (by omega), List.getElem?_drop, show f.offset + (j - f.offset) = j by omega]
          exact hu'
      · cases hx
    · rename_i m e hu
      split at h
      · rename_i a ha
        split at h
        · rename_i hal
          cases h
          unfold DataW.trod at hx
          rw [hu] at hx
          simp only at hx
          split at hx
          · rename_i hl
            cases hm : (List.range m).mapM (fun i => DataW.trod enc P w base spare held fuel e ((cs.drop (i * P.cellsOf e)).take (P.cellsOf e))) with
            | none => rw [hm] at hx; simp at hx
            | some xs =>
              have hg := mapM_some_get hm
              have hfl : (List.replicate m a).flatten.length = m * P.cellsOf e := by simp [hal.1]
              refine ⟨by rw [hl, hal.2, hfl], fun j t' u hj hu' => ?_⟩
              have hjt : j < m * P.cellsOf e := by rw [← hfl]; exact (List.getElem?_eq_some_iff.1 hj).1
              have hpos : 0 < P.cellsOf e := by
                rcases Nat.eq_zero_or_pos (P.cellsOf e) with h0 | h0
                · rw [h0] at hjt; simp at hjt
                · exact h0
              have hi : j / P.cellsOf e < m := (Nat.div_lt_iff_lt_mul hpos).2 hjt
              have hx1 := hg (j / P.cellsOf e) (j / P.cellsOf e) (by simp [hi])
              have hil : j / P.cellsOf e < xs.length := by rw [mapM_some_length hm]; simpa using hi
              rw [List.getElem?_eq_getElem hil] at hx1
              obtain ⟨_, hrec⟩ := trod_cells n e a fuel _ _ ha hx1
              have hdm : j / P.cellsOf e * P.cellsOf e + j % P.cellsOf e = j := Nat.div_add_mod' _ _
              have hmod : j % P.cellsOf e < P.cellsOf e := Nat.mod_lt _ hpos
              refine hrec (j % P.cellsOf e) t' u ?_ ?_
              · have hw : ∀ r ∈ List.replicate m a, r.length = P.cellsOf e := fun r hr => by rw [List.eq_of_mem_replicate hr]; exact hal.1
                have h3 := flat_getT (sz := P.cellsOf e) hw (i := j / P.cellsOf e) (r := a) (by rw [List.getElem?_replicate, if_pos hi]) hmod
                rw [hdm] at h3
                rw [← h3]; exact hj
              · rw [List.getElem?_take, if_pos hmod, List.getElem?_drop, hdm]
                exact hu'
          · cases hx
        · cases h
      · cases h
    · cases h

theorem choose_list {α : Type} {p : Nat → α → Prop} : ∀ (n : Nat), (∀ j, j < n → ∃ v, p j v) → ∃ l : List α, l.length = n ∧ ∀ (j : Nat) (v : α), l[j]? = some v → p j v
  | 0, _ => ⟨[], rfl, fun _ _ h => by simp at h⟩
  | n + 1, h => by
    obtain ⟨l, h1, h2⟩ := choose_list n (fun j hj => h j (by omega))
    obtain ⟨v, hv⟩ := h n (by omega)
    refine ⟨l ++ [v], by simp [h1], fun j x hx => ?_⟩
    rcases Nat.lt_or_ge j l.length with hj | hj
    · rw [List.getElem?_append_left hj] at hx; exact h2 j x hx
    · rw [List.getElem?_append_right hj] at hx
      have : j - l.length = 0 := by
        rcases Nat.eq_zero_or_pos (j - l.length) with e | e
        · exact e
        · rw [List.getElem?_eq_none (by simp; omega)] at hx; cases hx
      rw [this] at hx
      simp at hx
      subst hx
      rw [show j = n by omega]
      exact hv

/-- Types all of whose cells are followed. -/
def cellDeep (P : Program) : Nat → TypeId → Bool
  | 0, _ => false
  | n + 1, t => match P.underlying t with
    | some .bool | some (.int _) | some .string => true
    | some (.slice e) => match cellTys P (n + 1) e with
      | some ts => decide (P.cellsOf e ≠ 0) && decide (ts.length = P.cellsOf e) && ts.all (cellDeep P n)
      | none => false
    | _ => false

theorem cell_vr : ∀ (n : Nat) (t : TypeId) (u : Value) (fuel : Nat) (x : DataW Hd × List MemPlace), cellDeep P n t = true → DataW.trod enc P w base spare held fuel t [u] = some x → ∃ v, CellOk P n t v ∧ v.leaf = true ∧ VR (own []) w [] v u
  | 0, _, _, _, _, h, _ => by cases h
  | _ + 1, _, _, 0, _, _, h => by cases h
  | n + 1, t, u, fuel + 1, x, h, hx => by
    unfold cellDeep at h
    unfold CellOk
    unfold DataW.trod at hx
    split at h
    · rename_i hu
      rw [hu] at hx
      split at hx <;> first | (simp_all; done) | skip
      rename_i b _ hc
      obtain rfl := (List.cons.inj hc).1
      exact ⟨_, ⟨_, rfl⟩, rfl, .bool⟩
    · rename_i k hu
      rw [hu] at hx
      split at hx <;> first | (simp_all; done) | skip
      split at hx
      · rename_i k' k'' i hk hc hw
        obtain rfl := (List.cons.inj hc).1
        injection hk with hk
        injection hk with hk
        subst hk
        obtain ⟨rfl, hw⟩ := hw
        exact ⟨_, ⟨_, rfl, hw⟩, rfl, .int⟩
      · cases hx
    · rename_i hu
      rw [hu] at hx
      split at hx <;> first | (simp_all; done) | skip
      split at hx
      · rename_i s _ hc hw
        obtain rfl := (List.cons.inj hc).1
        exact ⟨_, ⟨_, rfl, hw⟩, rfl, .str⟩
      · cases hx
    · rename_i e hu
      rw [hu] at hx
      split at h
      · rename_i ts hts
        simp only [Bool.and_eq_true, decide_eq_true_eq] at h
        obtain ⟨⟨he, htl⟩, hall⟩ := h
        split at hx <;> first | (simp_all; done) | skip
        · rename_i e' hk hc
          obtain rfl := (List.cons.inj hc).1
          refine ⟨.pl [], ⟨[], rfl, Nat.zero_le _, by simp⟩, rfl, .pl (xs := []) default 0 (fun _ _ => undef) (Nat.zero_le _) (fun h => absurd rfl h) (fun _ _ h => by simp at h) (fun _ h => by simp at h) (fun _ _ _ _ h => by simp at h) (fun _ _ _ _ h => by simp at h)⟩
        · rename_i e' a len cap hk hc
          obtain rfl := (List.cons.inj hc).1
          injection hk with hk
          injection hk with hk
          subst hk
          simp only at hx
          split at hx
          · rename_i hcnd
            cases hm : (List.range len).mapM (fun i => (w.cells? base (a.add (i * P.cellsOf e)) (P.cellsOf e)).bind (DataW.trod enc P w base spare held fuel e)) with
            | none => rw [hm] at hx; simp at hx
            | some xs =>
              have hg := mapM_some_get hm
              have row : ∀ i, i < len → ∃ r : List AV, r.length = P.cellsOf e ∧ (∀ (j : Nat) (t' : TypeId) (v' : AV), ts[j]? = some t' → r[j]? = some v' → CellOk P n t' v') ∧ a.block < w.heap.size ∧
                  ∀ (j : Nat) (v : AV), r[j]? = some v → v.leaf = true ∧ ∃ u, w.cell? (a.add (i * P.cellsOf e + j)) = some u ∧ VR (own []) w [] v u := by
                intro i hi
                have hx1 := hg i i (by simp [hi])
                have hil : i < xs.length := by rw [mapM_some_length hm]; simpa using hi
                rw [List.getElem?_eq_getElem hil] at hx1
                cases hcs : w.cells? base (a.add (i * P.cellsOf e)) (P.cellsOf e) with
                | none => rw [hcs] at hx1; simp at hx1
                | some cs =>
                  rw [hcs] at hx1
                  simp only [Option.bind_some] at hx1
                  obtain ⟨_, hcl, hcell⟩ := World.cells?_some hcs
                  obtain ⟨hl, hrec⟩ := trod_cells (n + 1) e ts fuel cs _ hts hx1
                  have hblk := World.cells?_block hcs (by omega)
                  rw [add_block] at hblk
                  obtain ⟨r, hr1, hr2⟩ := choose_list (p := fun j v => v.leaf = true ∧ (∀ t', ts[j]? = some t' → CellOk P n t' v) ∧ ∃ u, w.cell? (a.add (i * P.cellsOf e + j)) = some u ∧ VR (own []) w [] v u) (P.cellsOf e) (fun j hj => by
                    have hjc : j < cs.length := by omega
                    have hjt : j < ts.length := by omega
                    obtain ⟨fuel', x', hx', _⟩ := hrec j _ _ (List.getElem?_eq_getElem hjt) (List.getElem?_eq_getElem hjc)
                    obtain ⟨v, k1, k2, k3⟩ := cell_vr n _ _ fuel' x' (List.all_eq_true.1 hall _ (List.getElem_mem hjt)) hx'
                    refine ⟨v, k2, fun t' ht' => ?_, _, ?_, k3⟩
                    · rw [List.getElem?_eq_getElem hjt] at ht'
                      obtain rfl := Option.some.inj ht'
                      exact k1
                    · have := hcell j hj
                      rw [add_add] at this
                      rw [this, List.getElem?_eq_getElem hjc])
                  exact ⟨r, hr1, fun j t' v' ht' hv' => (hr2 j v' hv').2.1 t' ht', hblk, fun j v hv => ⟨(hr2 j v hv).1, (hr2 j v hv).2.2⟩⟩
              obtain ⟨rows, hr1, hr2⟩ := choose_list len row
              have hrows : ∀ i r, rows[i]? = some r → i < len := fun i r hr => by rw [← hr1]; exact (List.getElem?_eq_some_iff.1 hr).1
              refine ⟨.pl rows, ⟨rows, rfl, by omega, fun r hr => ?_⟩, rfl, ?_⟩
              · obtain ⟨i, hi⟩ := List.mem_iff_getElem?.1 hr
                obtain ⟨k1, k2, _, _⟩ := hr2 i r hi
                exact ⟨ts, hts, by omega, k2⟩
              · rw [← hr1]
                refine .pl a (P.cellsOf e) (fun i j => (w.cell? (a.add (i * P.cellsOf e + j))).getD undef) (by omega) (fun hne => ?_) (fun i r hr => (hr2 i r hr).1) (fun i hi j hj => ?_) (fun i j r v hr hv => ((hr2 i r hr).2.2.2 j v hv).1) (fun i j r v hr hv => ?_)
                · have hpos : 0 < rows.length := List.length_pos_iff.2 hne
                  exact ⟨rfl, by rintro ⟨i, s, hs, _⟩; simp at hs, (hr2 0 _ (List.getElem?_eq_getElem hpos)).2.2.1⟩
                · have hk := hr2 i _ (List.getElem?_eq_getElem hi)
                  obtain ⟨_, u, hu', _⟩ := hk.2.2.2 j _ (List.getElem?_eq_getElem (by rw [hk.1]; exact hj))
                  rw [hu']; rfl
                · obtain ⟨_, u, hu', hv'⟩ := (hr2 i r hr).2.2.2 j v hv
                  rw [hu']; exact hv'
          · cases hx
      · cases h
    · cases h

/-- A value that reads, as1 one abstract value. -/
def rowVal (t : Bool) (r : List AV) : AV := if t then .agg r else r.headD .junk
theorem trod_vr {n : Nat} {t : TypeId} {ts : List TypeId} {v : Value} {d : DataW Hd} {ps : List MemPlace} (hts : cellTys P (n + 1) t = some ts) (hd : ts.all (cellDeep P n) = true) (h : DataW.Trod enc P w base spare held t v d ps) :
    ∃ r : List AV, RowIs P n ts r ∧ r.length = v.cells.size ∧ ∀ (j : Nat) (a : AV) (u : Value), r[j]? = some a → v.cells[j]? = some u → a.leaf = true ∧ VR (own []) w [] a u := by
  obtain ⟨fuel, h⟩ := h
  obtain ⟨hl, hrec⟩ := trod_cells (n + 1) t ts fuel _ _ hts h
  obtain ⟨r, hr1, hr2⟩ := choose_list (p := fun j a => a.leaf = true ∧ (∀ t', ts[j]? = some t' → CellOk P n t' a) ∧ ∀ u, v.cells.toList[j]? = some u → VR (own []) w [] a u) ts.length (fun j hj => by
    have hjc : j < v.cells.toList.length := by omega
    obtain ⟨fuel', x', hx', _⟩ := hrec j _ _ (List.getElem?_eq_getElem hj) (List.getElem?_eq_getElem hjc)
    obtain ⟨a, k1, k2, k3⟩ := cell_vr n _ _ fuel' x' (List.all_eq_true.1 hd _ (List.getElem_mem hj)) hx'
    refine ⟨a, k2, fun t' ht' => ?_, fun u hu => ?_⟩
    · rw [List.getElem?_eq_getElem hj] at ht'
      obtain rfl := Option.some.inj ht'
      exact k1
    · rw [List.getElem?_eq_getElem hjc] at hu
      obtain rfl := Option.some.inj hu
      exact k3)
  refine ⟨r, ⟨hr1, fun j t' v' ht' hv' => (hr2 j v' hv').2.1 t' ht'⟩, by rw [hr1, ← hl]; simp, fun j a u ha hu => ⟨(hr2 j a ha).1, (hr2 j a ha).2.2 u (by simpa using hu)⟩⟩
end
end Go.Av

/-
  FROM A CALL's CONTRACT TO A ROW: the arguments as1 abstract values, and what the row asks of the world behind.
-/
namespace Go.Av
open Go.RowKit

section
variable {P : Program} {Hd : Type} {enc : TypeId × Value → Hd} {w : World} {base b : Nat} {spare : Nat → Bool} {held : Bool}
theorem arg_leaf {n : Nat} {t : TypeId} {v : Value} {d : DataW Hd} {ps : List MemPlace} (hd : cellDeep P n t = true) (hval : Value.okWide P w .any b t v) (h : DataW.Trod enc P w base spare held t v d ps) : ∃ a, CellOk P n t a ∧ VR (own []) w [] a v := by
  have hc : v.cells = #[v] := by
    cases n with
    | zero => cases hd
    | succ n =>
      unfold cellDeep at hd
      unfold Value.okWide at hval
      cases v with
      | agg cs =>
        exfalso
        split at hd <;> rename_i hu <;> simp [hu, Cell.okWide, Cell.ok] at hval hd
      | _ => rfl
  obtain ⟨fuel, h⟩ := h
  rw [hc] at h
  obtain ⟨a, h1, _, h2⟩ := cell_vr n t v fuel _ hd h
  exact ⟨a, h1, h2⟩
theorem arg_agg {n : Nat} {t : TypeId} {ts : List TypeId} {v : Value} {d : DataW Hd} {ps : List MemPlace} (hts : cellTys P (n + 1) t = some ts) (hall : ts.all (cellDeep P n) = true) (hagg : (∃ fs, P.underlying t = some (.struct fs)) ∨ ∃ m e, P.underlying t = some (.array m e)) (hval : Value.okWide P w .any b t v) (h : DataW.Trod enc P w base spare held t v d ps) : ∃ r, RowIs P n ts r ∧ VR (own []) w [] (.agg r) v := by
  obtain ⟨r, h1, h2, h3⟩ := trod_vr hts hall h
  have hv : ∃ cs, v = .agg cs := by
    unfold Value.okWide at hval
    rcases hagg with ⟨fs, hu⟩ | ⟨m, e, hu⟩ <;> rw [hu] at hval <;> exact ⟨_, hval.choose_spec.1⟩
  obtain ⟨cs, rfl⟩ := hv
  have hc : (Value.agg cs).cells = cs := rfl
  rw [hc] at h2 h3
  exact ⟨r, h1, .agg h2 (fun j a ha => by
    have hj : j < cs.size := by rw [← h2]; exact (List.getElem?_eq_some_iff.1 ha).1
    exact (h3 j a _ ha (Array.getElem?_eq_getElem hj)).1) (fun j a u ha hu => (h3 j a u ha hu).2)⟩

theorem cell_bool {n : Nat} {t : TypeId} {a : AV} (hu : P.underlying t = some .bool) (h : CellOk P (n + 1) t a) : ∃ b, a = .bool b := by
  unfold CellOk at h; rw [hu] at h; exact h
theorem cell_int {n : Nat} {t : TypeId} {k : IntKind} {a : AV} (hu : P.underlying t = some (.int k)) (h : CellOk P (n + 1) t a) : ∃ i, a = .int k i ∧ (Lit.int k i).wf = true := by
  unfold CellOk at h; rw [hu] at h; exact h
theorem cell_str {n : Nat} {t : TypeId} {a : AV} (hu : P.underlying t = some .string) (h : CellOk P (n + 1) t a) : ∃ s : ByteArray, a = .str s ∧ s.size ≤ maxLen := by
  unfold CellOk at h; rw [hu] at h; exact h
theorem cell_sl {n : Nat} {t e : TypeId} {ts : List TypeId} {a : AV} (hu : P.underlying t = some (.slice e)) (hts : cellTys P (n + 1) e = some ts) (h : CellOk P (n + 1) t a) : ∃ rows, a = .pl rows ∧ rows.length ≤ maxLen ∧ ∀ r ∈ rows, RowIs P n ts r := by
  unfold CellOk at h
  rw [hu] at h
  obtain ⟨rows, h1, h2, h3⟩ := h
  refine ⟨rows, h1, h2, fun r hr => ?_⟩
  obtain ⟨ts', k1, k2, k3⟩ := h3 r hr
  rw [hts] at k1
  obtain rfl := Option.some.inj k1
  exact ⟨k2, k3⟩
theorem row_nil {n : Nat} {r : List AV} (h : RowIs P n [] r) : r = [] := List.eq_nil_of_length_eq_zero h.1
theorem row_cons {n : Nat} {t : TypeId} {ts : List TypeId} {r : List AV} (h : RowIs P n (t :: ts) r) : ∃ v r', r = v :: r' ∧ CellOk P n t v ∧ RowIs P n ts r' := by
  cases r with
  | nil => have := h.1; simp at this
  | cons v r => exact ⟨v, r, rfl, h.2 0 t v rfl rfl, by simpa using h.1, fun j t' v' h1 h2 => h.2 (j + 1) t' v' h1 h2⟩
theorem rows_map {α : Type} {e : α → List AV} : ∀ {rows : List (List AV)}, (∀ r ∈ rows, ∃ x, r = e x) → ∃ l : List α, rows = l.map e
  | [], _ => ⟨[], rfl⟩
  | r :: rows, h => by
    obtain ⟨x, rfl⟩ := h r List.mem_cons_self
    obtain ⟨l, rfl⟩ := rows_map (rows := rows) fun r hr => h r (List.mem_cons_of_mem _ hr)
    exact ⟨x :: l, rfl⟩
theorem cell_byte {n : Nat} {t : TypeId} {a : AV} (hu : P.underlying t = some (.int .u8)) (h : CellOk P (n + 1) t a) : ∃ c : UInt8, a = .int .u8 (c.toNat : Int) := by
  obtain ⟨i, rfl, hw⟩ := cell_int hu h
  have h2 : 0 ≤ i ∧ i < 256 := by
    have e1 : IntKind.u8.min = 0 := rfl
    have e2 : IntKind.u8.max = 255 := rfl
    simp [Lit.wf, e1, e2] at hw
    omega
  refine ⟨UInt8.ofNat i.toNat, ?_⟩
  congr 1
  have : i.toNat < 256 := by omega
  simp [UInt8.toNat_ofNat', Nat.mod_eq_of_lt this]
  omega
theorem cell_bytes {n : Nat} {t e : TypeId} {a : AV} (hu : P.underlying t = some (.slice e)) (he : P.underlying e = some (.int .u8)) (h : CellOk P (n + 2) t a) : ∃ bs : List UInt8, a = .pl (bs.map brow) := by
  have hts : cellTys P (n + 1 + 1) e = some [e] := by unfold cellTys; rw [he]
  obtain ⟨rows, rfl, _, h3⟩ := cell_sl hu hts h
  obtain ⟨l, rfl⟩ := rows_map (e := brow) (rows := rows) fun r hr => by
    obtain ⟨v, r', rfl, h1, h2⟩ := row_cons (h3 r hr)
    obtain rfl := row_nil h2
    obtain ⟨c, rfl⟩ := cell_byte he h1
    exact ⟨c, rfl⟩
  exact ⟨l, rfl⟩

inductive All2 {α β : Type} (R : α → β → Prop) : List α → List β → Prop where
  | nil : All2 R [] []
  | cons {a b as1 bs} (h : R a b) (k : All2 R as1 bs) : All2 R (a :: as1) (b :: bs)
theorem All2.vrs {O : Nat → Prop} {S : List Slot} {vs : List AV} {us : List Value} (h : All2 (VR O w S) vs us) : VRs O w S vs us.toArray := by
  induction h with
  | nil => exact ⟨rfl, fun i v u hv => by simp at hv⟩
  | cons h k ih =>
    refine ⟨by simpa using ih.1, fun i v u hv hu => ?_⟩
    cases i with
    | zero => simp at hv hu; subst hv; subst hu; exact h
    | succ i => exact ih.2 i v u (by simpa using hv) (by simpa using hu)
theorem ac_row {f : FuncId} {avs : List AV} {us : List Value} {bb : Bool} (h : AC P f avs [] (Ret (.bool bb) [])) (hv : All2 (VR (own []) w []) avs us) : Calls P f us.toArray w fun e w' => e = .returned (.bool bb) ∧ Below w.heap.size w w' := by
  refine (h [] w us.toArray ⟨rfl, fun _ _ _ h => by simp at h, fun _ _ _ _ _ h => by simp at h⟩ hv.vrs).mono fun e w' => ?_
  rintro ⟨o, H', S', ⟨rfl, rfl⟩, ho, hh, hx⟩
  cases ho with
  | ret hb =>
    cases hb
    exact ⟨rfl, hx.os, hx.tape, hx.output, hx.stp.size, fun k hk => (hx.stp.old k hk (by rintro ⟨i, s, hs, _⟩; simp at hs)).2⟩
end
end Go.Av

/-
  The range of a whole number that comes in.
-/
namespace Go.Av
theorem u8_w {i : Int} (h : (Lit.int .u8 i).wf = true) : 0 ≤ i ∧ i ≤ 255 := by
  simp only [Lit.wf, Bool.and_eq_true, decide_eq_true_eq] at h
  exact ⟨h.1, h.2⟩
theorem u16_w {i : Int} (h : (Lit.int .u16 i).wf = true) : 0 ≤ i ∧ i ≤ 65535 := by
  simp only [Lit.wf, Bool.and_eq_true, decide_eq_true_eq] at h
  exact ⟨h.1, h.2⟩
theorem u32_w {i : Int} (h : (Lit.int .u32 i).wf = true) : 0 ≤ i ∧ i ≤ 4294967295 := by
  simp only [Lit.wf, Bool.and_eq_true, decide_eq_true_eq] at h
  exact ⟨h.1, h.2⟩
theorem i64_w {i : Int} (h : (Lit.int .i64 i).wf = true) : -9223372036854775808 ≤ i ∧ i ≤ 9223372036854775807 := by
  simp only [Lit.wf, Bool.and_eq_true, decide_eq_true_eq] at h
  exact ⟨h.1, h.2⟩
end Go.Av

/-
  FROM A CALL's CONTRACT TO A ROW, in a world whose table is known.
-/
namespace Go.Av
open Go.RowKit
theorem act_row {P : Program} {w : World} {K : Know} {f : FuncId} {avs : List AV} {us : List Value} {bb : Bool} (h : ACT P K f avs [] (Ret (.bool bb) [])) (hk : Kn K [] w) (hv : All2 (VR (own []) w []) avs us) : Calls P f us.toArray w fun e w' => e = .returned (.bool bb) ∧ Below w.heap.size w w' := by
  refine (h [] w us.toArray hk ⟨rfl, fun _ _ _ h => by simp at h, fun _ _ _ _ _ h => by simp at h⟩ hv.vrs).mono fun e w' => ?_
  rintro ⟨o, H', S', ⟨rfl, rfl⟩, ho, hh, hx⟩
  cases ho with
  | ret hb =>
    cases hb
    exact ⟨rfl, hx.os, hx.tape, hx.output, hx.stp.size, fun k hk => (hx.stp.old k hk (by rintro ⟨i, s, hs, _⟩; simp at hs)).2⟩
/-- A table of numbers that is laid is known. -/
theorem kn_of_tab {P : Program} {W : World} {name : String} {k : IntKind} {zs : List Int} {g : Nat} {K : Know} (hg : P.globalNamed name = some g) (hz : zs ≠ []) (hK : K = ⟨g, zs.map fun z => Value.int k z⟩) (h : Lib.TabIs P W name k zs) : Kn K [] W := by
  subst hK
  have hc : ∀ j v, (zs.map fun z => Value.int k z)[j]? = some v → W.cell? ⟨g, j, none⟩ = some v := by
    intro j v hj
    have := World.var?_cell hg h j
    rw [this]
    simpa using hj
  refine ⟨by rintro ⟨i, s, hs, _⟩; simp at hs, ?_, hc⟩
  cases zs with
  | nil => exact absurd rfl hz
  | cons z zs =>
    have h0 := hc 0 _ rfl
    show g < W.heap.size
    rcases Nat.lt_or_ge g W.heap.size with h1 | h1
    · exact h1
    · exfalso
      simp [World.cell?, Array.getElem?_eq_none h1] at h0
end Go.Av

/-
  Loans and notes, once they are read; the laid table is known.
-/
namespace Go.Av
open Go.Proofs Go.Proofs.YtmhfpopbhiloiaaDoor
open Go.RowKit
set_option linter.unusedVariables false
set_option maxRecDepth 10000
theorem ints_dec {n : Nat} {a : AV} (h : CellOk Tryd.prog (n + 2) 22 a) : ∃ l : List Int, a = .pl (l.map eInt) := by
  have hts : cellTys Tryd.prog (n + 1 + 1) 3 = some [3] := by unfold cellTys; rw [UdI.ud (P := Tryd.prog) (t := 3)]
  obtain ⟨rows, rfl, _, h3⟩ := cell_sl Tryd.underlying22 hts h
  obtain ⟨l, rfl⟩ := rows_map (e := eInt) (rows := rows) fun r hr => by
    obtain ⟨v, r', rfl, h1, h2⟩ := row_cons (h3 r hr)
    obtain rfl := row_nil h2
    obtain ⟨c, rfl, _⟩ := cell_int (UdI.ud (P := Tryd.prog) (t := 3)) h1
    exact ⟨c, rfl⟩
  exact ⟨l, rfl⟩
theorem loan_dec {r : List AV} (h : RowIs Tryd.prog 4 [22, 22, 2] r) : ∃ l : Loan, r = eLoan l := by
  obtain ⟨a1, r, rfl, h1, h⟩ := row_cons h
  obtain ⟨a2, r, rfl, h2, h⟩ := row_cons h
  obtain ⟨a3, r, rfl, h3, h⟩ := row_cons h
  obtain rfl := row_nil h
  obtain ⟨l1, rfl⟩ := ints_dec h1
  obtain ⟨l2, rfl⟩ := ints_dec h2
  obtain ⟨i3, rfl, _⟩ := cell_int (UdI.ud (P := Tryd.prog) (t := 2)) h3
  exact ⟨⟨l1, l2, i3⟩, rfl⟩
theorem note_dec {r : List AV} (h : RowIs Tryd.prog 4 [3, 22, 2] r) : ∃ n : Note, r = eNote n := by
  obtain ⟨a1, r, rfl, h1, h⟩ := row_cons h
  obtain ⟨a2, r, rfl, h2, h⟩ := row_cons h
  obtain ⟨a3, r, rfl, h3, h⟩ := row_cons h
  obtain rfl := row_nil h
  obtain ⟨i1, rfl, _⟩ := cell_int (UdI.ud (P := Tryd.prog) (t := 3)) h1
  obtain ⟨l2, rfl⟩ := ints_dec h2
  obtain ⟨i3, rfl, _⟩ := cell_int (UdI.ud (P := Tryd.prog) (t := 2)) h3
  exact ⟨⟨i1, l2, i3⟩, rfl⟩
abbrev laidD : List (String × DataW Unit) := [("math/bits.deBruijn64tab", Rows.laid_math_bits_deBruijn64tab)]
theorem laid_kn {W : World} (h : laidMetH Tryd.prog laidD W) : Kn KD [] W := by
  rw [MakeChecks.laidMetH_plain _ _ _ (by kernel_rfl)] at h
  have hg : Tryd.prog.globalNamed "math/bits.deBruijn64tab" = some 0 := by kernel_rfl
  have h2 : Lib.TabIs Tryd.prog W "math/bits.deBruijn64tab" .u8 (Lib.deBruijn64tab.map fun n : Nat => (n : Int)) :=
    Lib.tabIs_of_head (rest := []) (t := 111) (e := 5) (n := 64) hg (by kernel_rfl) (by kernel_rfl) (by kernel_rfl) (by kernel_rfl) (by kernel_rfl) h
  exact kn_of_tab hg (by decide) (by unfold KD; rw [List.map_map]; rfl) h2
theorem door_met (os : Os) (args : Array Value) : laidMetH Tryd.prog laidD ((World.doorLaid Tryd.prog 400 os).forCall (fun _ _ => 0) ⟨#[], args, []⟩).memory :=
  laidMetH_of_parts3 (fuel := 8) (laidMet_of_run' 8 (by kernel_rfl) (by kernel_rfl)) (by kernel_rfl) (by kernel_rfl)
end Go.Av

/-
  Bytes, once they are read.
-/
namespace Go.Av
open Go.Proofs
set_option maxRecDepth 10000
theorem bytes_dec {a : AV} (h : CellOk Tryd.prog 4 53 a) : ∃ bs : List UInt8, a = .pl (bs.map brow) := cell_bytes Tryd.underlying53 (UdI.ud (P := Tryd.prog) (t := 5)) h
end Go.Av

