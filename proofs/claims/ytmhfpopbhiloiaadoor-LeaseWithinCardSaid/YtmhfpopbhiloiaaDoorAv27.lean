/-
  A REGION THAT DRAWS: an operation that is bound to the turning one by another one is taken first.
-/
import Derived.Test.YtmhfpopbhiloiaaDoorAv26
namespace Go.Av
section
variable {P : Program} {N : Nat} {B : Base} {ops : Array Oper} {a : Option Nat} {C : Heap → Prop} {F : Env → Heap → Prop} {Q : Post}
variable {op : Op} {ty : TypeId} {pos : String} {after : Array Edge}
/-- i stands ahead of m, by way of operations that have not come up. -/
inductive Anc (ops : Array Oper) (listed : Array Bool) (i : Nat) : Nat → Prop
  | here : Anc ops listed i i
  | step {m : Nat} {om : Oper} {e : Edge} : listed.getD m true = false → ops[m]? = some om → e ∈ om.after → Region.binds .any e = true → Anc ops listed i e.on → Anc ops listed i m
def Wait2 (ops : Array Oper) (a : Option Nat) (i : Nat) (listed : Array Bool) : Prop := ∀ a', a = some a' → ∀ oa, ops[a']? = some oa → ∃ e ∈ oa.after, Region.binds .any e = true ∧ Anc ops listed i e.on
theorem listed_no {listed : Array Bool} {m : Nat} (h1 : listed.getD m false = true) (h2 : listed.getD m true = false) : False := by
  rcases Nat.lt_or_ge m listed.size with h' | h'
  · simp [h'] at h1 h2; rw [h1] at h2; cases h2
  · simp [Array.getElem?_eq_none h'] at h1
theorem Anc.put {listed : Array Bool} {i j m : Nat} {oj : Oper} (hoj : ops[j]? = some oj) (hall : ∀ e ∈ oj.after, Region.binds .any e = true → listed.getD e.on false = true) (hnot : ∀ e ∈ oj.after, Region.binds .any e = true → e.on ≠ i) (h : Anc ops listed i m) : Anc ops (listed.setIfInBounds j true) i m := by
  induction h with
  | here => exact .here
  | @step m om e hm hom he hb h ih =>
    refine .step ?_ hom he hb ih
    have : j ≠ m := by
      rintro rfl
      rw [hoj] at hom
      obtain rfl := Option.some.inj hom
      have h1 := hall e he hb
      have h2 := hnot e he hb
      cases h with
      | here => exact h2 rfl
      | step h3 => exact listed_no h1 h3
    rw [getD_set_ne true this]; exact hm
/-- Taken first: what binds it to the one that turns stands between. -/
theorem aa_first_aux2 {i : Nat} {oi : Oper} {v : AV} (hi : ops[i]? = some oi) (hdi : ∀ t, oi.dst = some t → DN t N) (hai : a ≠ some i) :
    ∀ (fuel : Nat) (listed : Array Bool) (env : Env) (H : Heap), Wait2 ops a i listed → listed.size = ops.size →
      (∀ j oj, ops[j]? = some oj → j ≠ i → listed.getD j true = false → (∀ e ∈ oj.after, Region.binds .any e = true → e.on ≠ i) → oi.apart ops oj = true) →
      i ∈ Region.ready .any ops listed → Yet a listed → Quiet P N ops C oi env v →
      AAny P N B ops a C F fuel (listed.setIfInBounds i true) (Av.put env oi.dst v) H → AAny P N B ops a C F (fuel + 1) listed env H := by
  have hset : ∀ (listed : Array Bool) (j : Nat), a ≠ some j → Yet a (listed.setIfInBounds j true) = Yet a listed := fun listed j hj => by
    unfold Yet
    cases a with
    | none => rfl
    | some a => simp only; rw [getD_set_ne true (fun e => hj (by rw [e]))]
  intro fuel
  induction fuel with
  | zero =>
    intro listed env H _ hsz _ hr ha hq h
    have hC : C H := h.1 (by rw [hset _ _ hai]; exact ha)
    refine ⟨fun _ => hC, fun h0 => (by rw [h0] at hr; cases hr), fun j hj => ?_⟩
    by_cases hji : j = i
    · subst hji; exact hq.at_ hi hdi hC h
    · have := ready_mono hj hji
      rw [h.2.1] at this
      cases this
  | succ fuel ih =>
    intro listed env H hwait hsz hfree hr ha hq h
    have hC : C H := h.1 (by rw [hset _ _ hai]; exact ha)
    refine ⟨fun _ => hC, fun h0 => (by rw [h0] at hr; cases hr), fun j hj => ?_⟩
    by_cases hji : j = i
    · subst hji; exact hq.at_ hi hdi hC h
    · have h1 := h.2.2 j (ready_mono hj hji)
      obtain ⟨hjun, oj, hoj, hall⟩ := mem_ready.1 hj
      have hnot : ∀ e ∈ oj.after, Region.binds .any e = true → e.on ≠ i := fun e he hb heq => by
        have h1 := hall e he hb
        have h0 := (mem_ready.1 hr).1
        rw [heq] at h1
        rcases Nat.lt_or_ge i listed.size with h' | h'
        · simp [h'] at h0 h1; rw [h0] at h1; cases h1
        · simp [Array.getElem?_eq_none h'] at h1
      have hja : a ≠ some j := by
        rintro rfl
        obtain ⟨e, he, hb, hm⟩ := hwait j rfl oj hoj
        generalize hx : e.on = x at hm
        cases hm with
        | here => exact hnot e he hb hx
        | step h3 => exact listed_no (hall e he hb) (by rw [hx]; exact h3)
      have hwait' : Wait2 ops a i (listed.setIfInBounds j true) := by
        intro a' ha' oa hoa
        obtain ⟨e, he, hb, hm⟩ := hwait a' ha' oa hoa
        exact ⟨e, he, hb, hm.put hoj hall hnot⟩
      have hap := hfree j oj hoj hji hjun hnot
      obtain ⟨p1, p2, p3⟩ := Oper.apart_spec hap
      have hfree' : ∀ k ok, ops[k]? = some ok → k ≠ i → (listed.setIfInBounds j true).getD k true = false →
          (∀ e ∈ ok.after, Region.binds .any e = true → e.on ≠ i) → oi.apart ops ok = true := fun k ok hk hki hun hno => by
        refine hfree k ok hk hki ?_ hno
        by_cases hjk : j = k
        · subst hjk; exact hjun
        · rw [getD_set_ne true hjk] at hun; exact hun
      obtain ⟨o, ho, hd, h2⟩ := h1
      rw [hoj] at ho
      obtain rfl := Option.some.inj ho
      have step : ∀ x H', AAny P N B ops a C F fuel ((listed.setIfInBounds i true).setIfInBounds j true) (Av.put (Av.put env oi.dst v) oj.dst x) H' → AAny P N B ops a C F (fuel + 1) (listed.setIfInBounds j true) (Av.put env oj.dst x) H' := by
        intro x H' hx
        refine ih (listed.setIfInBounds j true) (Av.put env oj.dst x) H' hwait' (by simpa using hsz) hfree' (ready_mono hr (Ne.symm hji)) (by rw [hset _ _ hja]; exact ha) (hq.put p3 fun t ht => (hd t ht).2) ?_
        rw [Array.setIfInBounds_comm _ _ hji]
        exact AAny.eqv _ _ _ _ _ (Eqv.comm env v x p2) hx
      refine ⟨oj, hoj, hd, ?_⟩
      rcases h2 with ⟨k1, V, k2, k3⟩ | ⟨k1, k2⟩
      · exact .inl ⟨k1.put p1, V, by rw [renv_put ops oj env oi.dst v p1 fun t ht => (hdi t ht).2] at k2; exact k2, fun x H' hx => step x H' (k3 x H' hx)⟩
      · exact .inr ⟨k1.put p1, step _ _ k2⟩

def ancB (ops : Array Oper) (listed : Array Bool) (i : Nat) : Nat → List Nat → Bool
  | m, [] => m == i
  | m, x :: l => !(listed.getD m true) && (match ops[m]? with
      | some om => om.after.toList.any fun e => Region.binds .any e && e.on == x
      | none => false) && ancB ops listed i x l
theorem ancB_spec {listed : Array Bool} {i : Nat} : ∀ (l : List Nat) (m : Nat), ancB ops listed i m l = true → Anc ops listed i m
  | [], m, h => by simp only [ancB, beq_iff_eq] at h; subst h; exact .here
  | x :: l, m, h => by
    simp only [ancB, Bool.and_eq_true, Bool.not_eq_true'] at h
    obtain ⟨⟨h1, h2⟩, h3⟩ := h
    cases hm : ops[m]? with
    | none => rw [hm] at h2; cases h2
    | some om =>
      rw [hm] at h2
      simp only [List.any_eq_true, Bool.and_eq_true, beq_iff_eq] at h2
      obtain ⟨e, he, hb, ho⟩ := h2
      subst ho
      exact .step h1 hm (by simpa using he) hb (ancB_spec l _ h3)
def firstB2 (ops : Array Oper) (listed : Array Bool) (a : Nat) (l : List Nat) (i : Nat) : Bool :=
  (Region.ready .any ops listed).contains i && Region.free .any ops listed i && decide (listed.size = ops.size) &&
    (i != a && !(listed.getD a true) && ancB ops listed i a l)
theorem aqpz {fuel : Nat} {listed : Array Bool} {env : Env} {H H0 : Heap} {v : AV} {d a : Nat} {L0 : Heap} (l : List Nat) (i : Nat) (hi : ops[i]? = some ⟨some d, op, ty, pos, after, none⟩) (hB : firstB2 ops listed a l i = true) (hd : DN d N) (h1 : ∀ G, V1 P N op ty (renv ⟨some d, op, ty, pos, after, none⟩ env) (H0 ++ (L0 ++ G)) v)
    (h : AAny P N B ops (some a) (Pre H0 L0) F fuel (listed.setIfInBounds i true) ((d, v) :: env) H) : AAny P N B ops (some a) (Pre H0 L0) F (fuel + 1) listed env H := by
  simp only [firstB2, Bool.and_eq_true, decide_eq_true_eq, bne_iff_ne, Bool.not_eq_true'] at hB
  obtain ⟨⟨⟨h2, h3⟩, h5⟩, ⟨h6, h7⟩, h8⟩ := hB
  refine aa_first_aux2 hi (by rintro _ ⟨⟩; exact hd) (fun e => h6 (Option.some.inj e).symm) fuel listed env H ?_ h5 (Region.free_spec hi h3) (by simpa using h2) h7 (.inl ⟨rfl, by rintro H ⟨G, rfl⟩; exact (h1 G).toV2 _ _ _ _⟩) h
  intro a' ha oa hoa
  obtain rfl := Option.some.inj ha
  cases ancB_spec _ _ h8 with
  | here => exact absurd rfl h6
  | step h9 h10 h11 h12 h13 =>
    rw [hoa] at h10
    obtain rfl := Option.some.inj h10
    exact ⟨_, h11, h12, h13⟩
end
end Go.Av
