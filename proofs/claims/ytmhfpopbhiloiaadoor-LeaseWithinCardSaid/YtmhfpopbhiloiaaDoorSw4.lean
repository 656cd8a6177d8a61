/-
  LEASES, plainly: what is given, asked back and comes back.
-/
import Derived.Test.YtmhfpopbhiloiaaDoorV9
import Derived.Test.YtmhfpopbhiloiaaDoorSw3
namespace Go.Av
theorem inl_setop {op : Bool → Bool → Bool} {a b : List Int} (ha : sok a = true) (hb : sok b = true) (hop : op false false = false) (n : Nat) : inl (setop op a b) n = op (inl a n) (inl b n) := by
  rw [setop, ha, hb, Bool.and_self, if_pos rfl, inl_setl]
  by_cases hn : n < 256
  · simp [hn]
  · have h1 : inl a n = false := by
      cases h : inl a n with
      | false => rfl
      | true => exact absurd (inl_256 ha h) hn
    have h2 : inl b n = false := by
      cases h : inl b n with
      | false => rfl
      | true => exact absurd (inl_256 hb h) hn
    rw [h1, h2, hop]; simp
theorem sok_setop (op : Bool → Bool → Bool) (a b : List Int) : sok (setop op a b) = true := by
  unfold setop
  split
  · exact sok_setl _
  · exact sok_nil
theorem setop_nil {op : Bool → Bool → Bool} {a b : List Int} (ha : sok a = true) (hb : sok b = true) (hop : op false false = false) : setop op a b = [] ↔ ∀ n, op (inl a n) (inl b n) = false := by
  constructor
  · intro h n
    rw [← inl_setop ha hb hop, h]; rfl
  · intro h
    rw [setop, ha, hb, Bool.and_self, if_pos rfl, setl_nil]
    exact fun n _ => h n
theorem spart_iff {a b : List Int} : spart a b = true ↔ sok a = true ∧ sok b = true ∧ ∀ n, inl a n = true → inl b n = true := by
  unfold spart
  rw [Bool.and_eq_true, Bool.and_eq_true, decide_eq_true_eq, setl_nil]
  constructor
  · rintro ⟨⟨h1, h2⟩, h3⟩
    refine ⟨h1, h2, fun n hn => ?_⟩
    have := h3 n (inl_256 h1 hn)
    simpa [hn] using this
  · rintro ⟨h1, h2, h3⟩
    refine ⟨⟨h1, h2⟩, fun n _ => ?_⟩
    cases ha : inl a n with
    | false => rfl
    | true => simp [h3 n ha]
theorem lright_iff {l : Loan} : lright l = true ↔ sok l.things = true ∧ sok l.asked = true ∧ (∀ n, inl l.asked n = true → inl l.things n = true) ∧ tm l.til = true := by
  unfold lright
  rw [Bool.and_eq_true, Bool.and_eq_true, spart_iff]
  constructor
  · rintro ⟨⟨h1, h2, _, h4⟩, h5⟩; exact ⟨h1, h2, h4, h5⟩
  · rintro ⟨h1, h2, h3, h4⟩; exact ⟨⟨h1, h2, h1, h3⟩, h4⟩
theorem pos_nil {l : List Int} (h : ¬ 0 < l.length) : l = [] := List.eq_nil_of_length_eq_zero (by omega)
/-- What is given, and all that becomes of it. -/
theorem turns {l : Loan} {X : List Int} {now : Int} (hA : l.asked = []) (he : (lend l ⟨1, X, 0⟩ now).2.2 = 0) :
    ∃ T : List Int, lend l ⟨1, X, 0⟩ now = (⟨T, [], l.til⟩, ⟨1, X, 0⟩, 0) ∧ hear l ⟨1, X, 0⟩ now = (⟨T, [], l.til⟩, noNote, false) ∧ lend ⟨T, [], l.til⟩ ⟨2, X, 0⟩ now = (⟨T, X, l.til⟩, ⟨2, X, 0⟩, 0) ∧
      hear ⟨T, [], l.til⟩ ⟨2, X, 0⟩ now = (l, ⟨3, X, 0⟩, true) ∧ lback ⟨T, X, l.til⟩ ⟨3, X, 0⟩ = (l, 0) ∧ T.length ≤ 256 ∧
      ∀ late, l.til ≤ late → late ≤ 4611686018427387904 → hear l ⟨1, X, 0⟩ late = (l, noNote, false) ∧ lover l late 0 = ⟨[], [], l.til⟩ := by
  obtain ⟨A, S, u⟩ := l
  simp only at hA
  subst hA
  have hop : lopen ⟨A, [], u⟩ now (lmay ⟨1, X, 0⟩) = 0 := by
    cases hh : decide (lopen ⟨A, [], u⟩ now (lmay ⟨1, X, 0⟩) = 0) with
    | true => exact of_decide_eq_true hh
    | false => rw [lend_open (of_decide_eq_false hh)] at he; exact he
  obtain ⟨hr, ht, hm, hu⟩ := lopen_ok hop
  rw [lend_ok hop] at he
  simp only [if_pos] at he
  have hd : ¬ 0 < (setop (fun x y => x && y) A X).length := by
    intro h
    rw [if_pos h] at he
    cases he
  have hX : 0 < X.length ∧ sok X = true := by rw [lmay1] at hm; simpa using hm
  obtain ⟨hX0, hX⟩ := hX
  obtain ⟨sA, -, -, tu⟩ := lright_iff.1 hr
  simp only at sA tu
  have hdis : ∀ n, (inl A n && inl X n) = false := (setop_nil (op := fun x y => x && y) sA hX rfl).1 (pos_nil hd)
  have sT := sok_setop (fun x y => x || y) A X
  have iT := inl_setop (op := fun x y => x || y) sA hX rfl
  have hlT := setop_len (fun x y => x || y) A X
  have m2 : lmay ⟨2, X, 0⟩ = true := by rw [lmay2]; simp [hX, hX0]
  have m3 : lmay ⟨3, X, 0⟩ = true := by simp [lmay, hX, hX0]
  have hX1 : ¬ X.length = 0 := by omega
  have e1 : lend ⟨A, [], u⟩ ⟨1, X, 0⟩ now = (⟨setop (fun x y => x || y) A X, [], u⟩, ⟨1, X, 0⟩, 0) := by rw [lend_ok hop, if_pos rfl, if_neg hd]
  generalize hT : setop (fun x y => x || y) A X = T at sT iT hlT e1
  have rT : lright ⟨T, [], u⟩ = true := lright_iff.2 ⟨sT, sok_nil, (fun n hn => by cases hn), tu⟩
  have rTX : lright ⟨T, X, u⟩ = true := lright_iff.2 ⟨sT, hX, (fun n hn => by
    show inl T n = true
    rw [iT, show inl X n = true from hn, Bool.or_true]), tu⟩
  have back : setop (fun x y => x && !y) T X = A := by
    refine sok_ext (sok_setop _ _ _) sA fun n => ?_
    rw [inl_setop sT hX rfl, iT]
    have := hdis n
    revert this
    cases inl A n <;> cases inl X n <;> simp
  have none : setop (fun x y => x && !y) X X = [] := (setop_nil (op := fun x y => x && !y) hX hX rfl).2 fun n => by cases inl X n <;> rfl
  have o2 : setop (fun x y => x && !y) X T = [] := (setop_nil (op := fun x y => x && !y) hX sT rfl).2 fun n => by
    rw [iT]; cases inl X n <;> simp
  have o3 : setop (fun x y => x && y) X [] = [] := (setop_nil (op := fun x y => x && y) hX sok_nil rfl).2 fun n => by rw [inl_nil, Bool.and_false]
  have o4 : setop (fun x y => x || y) [] X = X := sok_ext (sok_setop _ _ _) hX fun n => by rw [inl_setop (op := fun x y => x || y) sok_nil hX rfl, inl_nil, Bool.false_or]
  refine ⟨T, e1, ?_, ?_, ?_, ?_, hlT, ?_⟩
  · rw [hear, if_neg (by simp [hok, hr, hm, ht]), if_pos rfl, if_pos (by show now < u; have h : ¬ u ≤ now := hu; omega)]
    exact congrArg (fun t => ((⟨t, [], u⟩ : Loan), noNote, false)) hT
  · rw [lend, if_neg (by simp [rT, m2, ht]), if_neg hu, if_neg (by show ¬ (2 : Int) = 1; decide), if_pos rfl]
    simp only [o2, o3, o4, List.length_nil, Nat.lt_irrefl, if_false]
  · rw [hear, if_neg (by simp [hok, rT, m2, ht]), if_neg (by show ¬ (2 : Int) = 1; decide), if_pos rfl]
    simp only [back]
  · rw [lback, if_neg (by simp [rTX, m3])]
    simp only [back, none]
  · intro late h1 h2
    have tl : tm late = true := by simp [tm] at tu ⊢; simp only at h1; omega
    constructor
    · rw [hear, if_neg (by simp [hok, hr, hm, tl]), if_pos rfl, if_neg (by show ¬ late < u; simp only at h1; omega)]
    · have : plus u 0 = u := by simp [tm] at tu; simp only [plus, near]; omega
      rw [lover, if_pos ⟨hr, by rw [show plus (Loan.mk A [] u).til 0 = u from this]; exact h1⟩]
end Go.Av
