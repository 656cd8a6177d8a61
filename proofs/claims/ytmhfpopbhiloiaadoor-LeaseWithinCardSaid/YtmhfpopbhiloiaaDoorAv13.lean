/-
  REGIONS THAT DRAW THEIR ORDER, over the abstract memory: an operation that may come up now may be taken first if it turns nothing in memory, whatever the others have done meanwhile.
-/
import Derived.Test.YtmhfpopbhiloiaaDoorAv12
import Derived.Orders
namespace Go.Av

/-- A slot of its own, behind all that a function has: a known table may stand there. -/
abbrev KT : Nat := 1000000
abbrev DN (d N : Nat) : Prop := d < N ∧ d ≠ KT
/-- What an operation's own operands hold (and what is known). -/
def renv (o : Oper) (env : Env) : Env := (KT, get env KT) :: o.op.operands.toList.filterMap fun | .tmp t => some (t, get env t) | _ => none

theorem get_filterMap (l : List Operand) (env : Env) (t : Nat) : get (l.filterMap fun | .tmp t => some (t, get env t) | _ => none) t = .junk ∨ get (l.filterMap fun | .tmp t => some (t, get env t) | _ => none) t = get env t := by
  induction l with
  | nil => exact .inl rfl
  | cons x l ih =>
    cases x with
    | tmp s =>
      simp only [List.filterMap_cons]
      by_cases e : s = t
      · subst e; rw [get_put_same]; exact .inr rfl
      · rw [get_put_other _ _ e]; exact ih
    | const v => simpa [List.filterMap_cons] using ih
    | global g => simpa [List.filterMap_cons] using ih
    | func f => simpa [List.filterMap_cons] using ih
theorem renv_sub (o : Oper) (env : Env) : Sub (renv o env) env := fun t => by
  by_cases hK : KT = t
  · subst hK; exact .inr (get_put_same _ _ _).symm
  show get ((KT, _) :: _) t = .junk ∨ _
  rw [renv, get_put_other _ _ hK]
  rcases get_filterMap o.op.operands.toList env t with h | h
  · exact .inl h
  · exact .inr h.symm

/-- Two environments that hold the same. -/
def Eqv (e e' : Env) : Prop := ∀ t, get e t = get e' t
theorem Eqv.put {e e' : Env} (h : Eqv e e') (d : Option Nat) (v : AV) : Eqv (Av.put e d v) (Av.put e' d v) := fun t => by
  cases d with
  | none => exact h t
  | some d =>
    show get ((d, v) :: e) t = get ((d, v) :: e') t
    by_cases hd : d = t
    · subst hd; rw [get_put_same, get_put_same]
    · rw [get_put_other _ _ hd, get_put_other _ _ hd]; exact h t
theorem Eqv.comm (e : Env) {a b : Option Nat} (x y : AV) (h : ∀ d, a = some d → b ≠ some d) : Eqv (Av.put (Av.put e a x) b y) (Av.put (Av.put e b y) a x) := fun t => by
  cases a with
  | none => rfl
  | some a =>
    cases b with
    | none => rfl
    | some b =>
      have hne : a ≠ b := fun he => h a rfl (he ▸ rfl)
      show get ((b, y) :: (a, x) :: e) t = get ((a, x) :: (b, y) :: e) t
      by_cases h1 : b = t
      · subst h1; rw [get_put_same, get_put_other _ _ hne, get_put_same]
      · rw [get_put_other _ _ h1]
        by_cases h2 : a = t
        · subst h2; rw [get_put_same, get_put_same]
        · rw [get_put_other _ _ h2, get_put_other _ _ h2, get_put_other _ _ h1]
theorem Eqv.renv {e e' : Env} (h : Eqv e e') (o : Oper) : renv o e = renv o e' := by
  unfold Av.renv
  rw [h KT]
  congr 2
  funext x
  cases x <;> simp [h _]
theorem renv_put (ops : Array Oper) (o : Oper) (env : Env) (d : Option Nat) (v : AV) (h : ∀ t, d = some t → t ∉ o.looksAt ops) (hK : ∀ t, d = some t → t ≠ KT) : renv o (Av.put env d v) = renv o env := by
  cases d with
  | none => rfl
  | some d =>
    have hk := hK d rfl
    have h' := h d rfl
    unfold Oper.looksAt at h'
    rw [List.mem_append, not_or] at h'
    have key : ∀ l : List Operand, d ∉ (l.filterMap fun | .tmp t => some t | _ => none) → (l.filterMap fun | .tmp t => some (t, get (Av.put env (some d) v) t) | _ => none) = (l.filterMap fun | .tmp t => some (t, get env t) | _ => none) := by
      intro l h1
      induction l with
      | nil => rfl
      | cons x l ih =>
        cases x with
        | tmp s =>
          simp only [List.filterMap_cons, List.mem_cons, not_or] at h1 ⊢
          rw [ih h1.2]
          show (s, get ((d, v) :: env) s) :: _ = _
          rw [get_put_other _ _ h1.1]
        | const v => simpa [List.filterMap_cons] using ih (by simpa [List.filterMap_cons] using h1)
        | global v => simpa [List.filterMap_cons] using ih (by simpa [List.filterMap_cons] using h1)
        | func v => simpa [List.filterMap_cons] using ih (by simpa [List.filterMap_cons] using h1)
    show (KT, get ((d, v) :: env) KT) :: _ = (KT, get env KT) :: _
    rw [get_put_other _ _ hk]
    exact congrArg _ (key _ h'.1)

section
variable (P : Program) (N : Nat) (B : Base) (ops : Array Oper)

/-- Whether an operation is carried out: by its guard's slot. -/
def Asked (o : Oper) (env : Env) (b : Bool) : Prop := match o.guard with
  | none => b = true
  | some (j, want) => ∃ d, (ops[j]?).bind (·.dst) = some d ∧ ((∃ c, get env d = .bool c ∧ b = (c == want)) ∨ (get env d = .tup [] ∧ b = false))

/-- Operation number i comes up. -/
def AAt (i : Nat) (env : Env) (H : Heap) (K : Env → Heap → Prop) : Prop :=
  ∃ o, ops[i]? = some o ∧ (∀ t, o.dst = some t → DN t N) ∧
    ((Asked ops o env true ∧ ∃ V : AV → Heap → Prop, AOp P N o (renv o env) H V (fun _ _ => False) ∧ ∀ v H', V v H' → K (put env o.dst v) H') ∨ (Asked ops o env false ∧ K (put env o.dst (.tup [])) H))

/-- Operation a (if one is named) has not come up yet. -/
def Yet (a : Option Nat) (listed : Array Bool) : Prop := match a with
  | none => True
  | some a => listed.getD a true = false

/-- What stands behind: some of what is known may be let go. -/
def AFin (B : Base) (F : Env → Heap → Prop) (env : Env) (H : Heap) : Prop := ∃ E M, F E M ∧ Sub E env ∧ Fit B E H M
theorem AFin.eqv {B : Base} {F : Env → Heap → Prop} {e e' : Env} {H : Heap} (he : Eqv e e') (h : AFin B F e H) : AFin B F e' H := by
  obtain ⟨E, M, h1, h2, h3⟩ := h
  exact ⟨E, M, h1, fun t => by rw [← he t]; exact h2 t, h3⟩

/-- Whatever order is picked from here on; C holds of the memory as long as operation a has not come up. -/
def AAny (a : Option Nat) (C : Heap → Prop) (F : Env → Heap → Prop) : Nat → Array Bool → Env → Heap → Prop
  | 0, listed, env, H => (Yet a listed → C H) ∧ Region.ready .any ops listed = [] ∧ AFin B F env H
  | n + 1, listed, env, H => (Yet a listed → C H) ∧ (Region.ready .any ops listed = [] → AFin B F env H) ∧
    ∀ i ∈ Region.ready .any ops listed, AAt P N ops i env H (AAny a C F n (listed.setIfInBounds i true))
end

section
variable {P : Program} {N : Nat} {B : Base} {ops : Array Oper} {a : Option Nat} {C : Heap → Prop} {F : Env → Heap → Prop}

theorem Asked.congr {o : Oper} {e e' : Env} {b : Bool} (h : Asked ops o e b) (k : ∀ j want d, o.guard = some (j, want) → (ops[j]?).bind (·.dst) = some d → get e' d = get e d) : Asked ops o e' b := by
  unfold Asked at h ⊢
  split at h
  · exact h
  · rename_i j want hg
    obtain ⟨d, hd, h⟩ := h
    refine ⟨d, hd, ?_⟩
    rw [k j want d hg hd]
    exact h
theorem Asked.put {o : Oper} {e : Env} {b : Bool} {d : Option Nat} {v : AV} (h : Asked ops o (Av.put e d v) b) (k : ∀ t, d = some t → t ∉ o.looksAt ops) : Asked ops o e b := h.congr fun j want g hg hd => by
  cases d with
  | none => rfl
  | some d =>
    have hne : d ≠ g := fun e => k d rfl (by subst e; simp [Oper.looksAt, hg, hd])
    exact (get_put_other _ _ hne).symm
theorem Asked.put' {o : Oper} {e : Env} {b : Bool} {d : Option Nat} {v : AV} (h : Asked ops o e b) (k : ∀ t, d = some t → t ∉ o.looksAt ops) : Asked ops o (Av.put e d v) b := h.congr fun j want g hg hd => by
  cases d with
  | none => rfl
  | some d =>
    have hne : d ≠ g := fun e => k d rfl (by subst e; simp [Oper.looksAt, hg, hd])
    exact get_put_other _ _ hne

theorem AAt.mono {i : Nat} {env : Env} {H : Heap} {K K' : Env → Heap → Prop} (h : AAt P N ops i env H K) (hk : ∀ e H, K e H → K' e H) : AAt P N ops i env H K' := by
  obtain ⟨o, ho, hd, h⟩ := h
  refine ⟨o, ho, hd, ?_⟩
  rcases h with ⟨h1, V, h2, h3⟩ | ⟨h1, h2⟩
  · exact .inl ⟨h1, V, h2, fun v H' hv => hk _ _ (h3 v H' hv)⟩
  · exact .inr ⟨h1, hk _ _ h2⟩

theorem AAny.eqv : ∀ (n : Nat) (listed : Array Bool) (env env' : Env) (H : Heap), Eqv env env' → AAny P N B ops a C F n listed env H → AAny P N B ops a C F n listed env' H
  | 0, _, _, _, _, he, h => ⟨h.1, h.2.1, h.2.2.eqv he⟩
  | n + 1, listed, env, env', H, he, h => by
    refine ⟨h.1, fun h0 => (h.2.1 h0).eqv he, fun i hi => ?_⟩
    obtain ⟨o, ho, hd, h⟩ := h.2.2 i hi
    refine ⟨o, ho, hd, ?_⟩
    rcases h with ⟨h1, V, h2, h3⟩ | ⟨h1, h2⟩
    · exact .inl ⟨h1.congr fun _ _ d _ _ => (he d).symm, V, (he.renv o) ▸ h2, fun v H' hv => AAny.eqv n _ _ _ _ (he.put _ _) (h3 v H' hv)⟩
    · exact .inr ⟨h1.congr fun _ _ d _ _ => (he d).symm, AAny.eqv n _ _ _ _ (he.put _ _) h2⟩

/-- It yields v, and turns nothing, in whatever memory of which C holds. -/
def Quiet (P : Program) (N : Nat) (ops : Array Oper) (C : Heap → Prop) (o : Oper) (env : Env) (v : AV) : Prop :=
  (Asked ops o env true ∧ ∀ H, C H → AOp P N o (renv o env) H (fun v' H' => v' = v ∧ H' = H) (fun _ _ => False)) ∨ (Asked ops o env false ∧ v = .tup [])

theorem Quiet.at_ {i : Nat} {o : Oper} {env : Env} {H : Heap} {v : AV} {K : Env → Heap → Prop} (hi : ops[i]? = some o) (hd : ∀ t, o.dst = some t → DN t N) (hq : Quiet P N ops C o env v) (hC : C H) (h : K (Av.put env o.dst v) H) : AAt P N ops i env H K := by
  refine ⟨o, hi, hd, ?_⟩
  rcases hq with ⟨h1, h2⟩ | ⟨h1, rfl⟩
  · exact .inl ⟨h1, _, h2 H hC, by rintro _ _ ⟨rfl, rfl⟩; exact h⟩
  · exact .inr ⟨h1, h⟩
theorem Quiet.put {o : Oper} {env : Env} {v : AV} {d : Option Nat} {x : AV} (hq : Quiet P N ops C o env v) (k : ∀ t, d = some t → t ∉ o.looksAt ops) (hK : ∀ t, d = some t → t ≠ KT) : Quiet P N ops C o (Av.put env d x) v := by
  rcases hq with ⟨h1, h2⟩ | ⟨h1, h2⟩
  · exact .inl ⟨h1.put' k, by rw [renv_put ops o env d x k hK]; exact h2⟩
  · exact .inr ⟨h1.put' k, h2⟩

theorem AAny.here {n : Nat} {listed : Array Bool} {env : Env} {H : Heap} (h : AAny P N B ops a C F n listed env H) : Yet a listed → C H := by
  cases n <;> exact h.1

/-- **Taken first.** -/
theorem aa_first_aux {i : Nat} {oi : Oper} {v : AV} (hi : ops[i]? = some oi) (hdi : ∀ t, oi.dst = some t → DN t N) (hai : a ≠ some i) (hwait : ∀ a', a = some a' → ∀ oa, ops[a']? = some oa → ∃ e ∈ oa.after, Region.binds .any e = true ∧ e.on = i) :
    ∀ (fuel : Nat) (listed : Array Bool) (env : Env) (H : Heap), listed.size = ops.size →
      (∀ j oj, ops[j]? = some oj → j ≠ i → listed.getD j true = false → (∀ e ∈ oj.after, Region.binds .any e = true → e.on ≠ i) → oi.apart ops oj = true) →
      i ∈ Region.ready .any ops listed → Yet a listed → Quiet P N ops C oi env v →
      AAny P N B ops a C F fuel (listed.setIfInBounds i true) (Av.put env oi.dst v) H → AAny P N B ops a C F (fuel + 1) listed env H := by
  have hset : ∀ (listed : Array Bool) (j : Nat), a ≠ some j → Yet a (listed.setIfInBounds j true) = Yet a listed := fun listed j hj => by
    unfold Yet
    cases a with
    | none => rfl
    | some a => simp only; rw [getD_set_ne true (fun e => hj (by rw [e]))]
  intro fuel
  induction fuel with
  | zero =>
    intro listed env H hsz _ hr ha hq h
    have hC : C H := h.1 (by rw [hset _ _ hai]; exact ha)
    refine ⟨fun _ => hC, fun h0 => (by rw [h0] at hr; cases hr), fun j hj => ?_⟩
    by_cases hji : j = i
    · subst hji; exact hq.at_ hi hdi hC h
    · have := ready_mono hj hji
      rw [h.2.1] at this
      cases this
  | succ fuel ih =>
    intro listed env H hsz hfree hr ha hq h
    have hC : C H := h.1 (by rw [hset _ _ hai]; exact ha)
    refine ⟨fun _ => hC, fun h0 => (by rw [h0] at hr; cases hr), fun j hj => ?_⟩
    by_cases hji : j = i
    · subst hji; exact hq.at_ hi hdi hC h
    · have h1 := h.2.2 j (ready_mono hj hji)
      obtain ⟨hjun, oj, hoj, hall⟩ := mem_ready.1 hj
      have hnot : ∀ e ∈ oj.after, Region.binds .any e = true → e.on ≠ i := fun e he hb heq => by
        have h1 := hall e he hb
        have h0 := (mem_ready.1 hr).1
        rw [heq] at h1
        rcases Nat.lt_or_ge i listed.size with h' | h'
        · simp [h'] at h0 h1; rw [h0] at h1; cases h1
        · simp [Array.getElem?_eq_none h'] at h1
      have hja : a ≠ some j := by
        rintro rfl
        obtain ⟨e, he, hb, heq⟩ := hwait j rfl oj hoj
        exact hnot e he hb heq
      have hap := hfree j oj hoj hji hjun hnot
      obtain ⟨p1, p2, p3⟩ := Oper.apart_spec hap
      have hfree' : ∀ k ok, ops[k]? = some ok → k ≠ i → (listed.setIfInBounds j true).getD k true = false →
          (∀ e ∈ ok.after, Region.binds .any e = true → e.on ≠ i) → oi.apart ops ok = true := fun k ok hk hki hun hno => by
        refine hfree k ok hk hki ?_ hno
        by_cases hjk : j = k
        · subst hjk; exact hjun
        · rw [getD_set_ne true hjk] at hun; exact hun
      obtain ⟨o, ho, hd, h2⟩ := h1
      rw [hoj] at ho
      obtain rfl := Option.some.inj ho
      have step : ∀ x H', AAny P N B ops a C F fuel ((listed.setIfInBounds i true).setIfInBounds j true) (Av.put (Av.put env oi.dst v) oj.dst x) H' → AAny P N B ops a C F (fuel + 1) (listed.setIfInBounds j true) (Av.put env oj.dst x) H' := by
        intro x H' hx
        refine ih (listed.setIfInBounds j true) (Av.put env oj.dst x) H' (by simpa using hsz) hfree' (ready_mono hr (Ne.symm hji)) (by rw [hset _ _ hja]; exact ha) (hq.put p3 fun t ht => (hd t ht).2) ?_
        rw [Array.setIfInBounds_comm _ _ hji]
        exact AAny.eqv _ _ _ _ _ (Eqv.comm env v x p2) hx
      refine ⟨oj, hoj, hd, ?_⟩
      rcases h2 with ⟨k1, V, k2, k3⟩ | ⟨k1, k2⟩
      · exact .inl ⟨k1.put p1, V, by rw [renv_put ops oj env oi.dst v p1 fun t ht => (hdi t ht).2] at k2; exact k2, fun x H' hx => step x H' (k3 x H' hx)⟩
      · exact .inr ⟨k1.put p1, step _ _ k2⟩

/-- Taken first, if nothing in memory is asked. -/
theorem aa_first0_aux {i : Nat} {oi : Oper} {v : AV} (hi : ops[i]? = some oi) (hdi : ∀ t, oi.dst = some t → DN t N) (hai : a ≠ some i) :
    ∀ (fuel : Nat) (listed : Array Bool) (env : Env) (H : Heap), listed.size = ops.size →
      (∀ j oj, ops[j]? = some oj → j ≠ i → listed.getD j true = false → (∀ e ∈ oj.after, Region.binds .any e = true → e.on ≠ i) → oi.apart ops oj = true) →
      i ∈ Region.ready .any ops listed → Quiet P N ops (fun _ => True) oi env v →
      AAny P N B ops a C F fuel (listed.setIfInBounds i true) (Av.put env oi.dst v) H → AAny P N B ops a C F (fuel + 1) listed env H := by
  have hset : ∀ (listed : Array Bool) (j : Nat), a ≠ some j → Yet a (listed.setIfInBounds j true) = Yet a listed := fun listed j hj => by
    unfold Yet
    cases a with
    | none => rfl
    | some a => simp only; rw [getD_set_ne true (fun e => hj (by rw [e]))]
  intro fuel
  induction fuel with
  | zero =>
    intro listed env H hsz _ hr hq h
    refine ⟨fun ha => h.1 (by rw [hset _ _ hai]; exact ha), fun h0 => (by rw [h0] at hr; cases hr), fun j hj => ?_⟩
    by_cases hji : j = i
    · subst hji; exact hq.at_ hi hdi trivial h
    · have := ready_mono hj hji
      rw [h.2.1] at this
      cases this
  | succ fuel ih =>
    intro listed env H hsz hfree hr hq h
    refine ⟨fun ha => h.1 (by rw [hset _ _ hai]; exact ha), fun h0 => (by rw [h0] at hr; cases hr), fun j hj => ?_⟩
    by_cases hji : j = i
    · subst hji; exact hq.at_ hi hdi trivial h
    · have h1 := h.2.2 j (ready_mono hj hji)
      obtain ⟨hjun, oj, hoj, hall⟩ := mem_ready.1 hj
      have hnot : ∀ e ∈ oj.after, Region.binds .any e = true → e.on ≠ i := fun e he hb heq => by
        have h1 := hall e he hb
        have h0 := (mem_ready.1 hr).1
        rw [heq] at h1
        rcases Nat.lt_or_ge i listed.size with h' | h'
        · simp [h'] at h0 h1; rw [h0] at h1; cases h1
        · simp [Array.getElem?_eq_none h'] at h1
      have hap := hfree j oj hoj hji hjun hnot
      obtain ⟨p1, p2, p3⟩ := Oper.apart_spec hap
      have hfree' : ∀ k ok, ops[k]? = some ok → k ≠ i → (listed.setIfInBounds j true).getD k true = false →
          (∀ e ∈ ok.after, Region.binds .any e = true → e.on ≠ i) → oi.apart ops ok = true := fun k ok hk hki hun hno => by
        refine hfree k ok hk hki ?_ hno
        by_cases hjk : j = k
        · subst hjk; exact hjun
        · rw [getD_set_ne true hjk] at hun; exact hun
      obtain ⟨o, ho, hd, h2⟩ := h1
      rw [hoj] at ho
      obtain rfl := Option.some.inj ho
      have step : ∀ x H', AAny P N B ops a C F fuel ((listed.setIfInBounds i true).setIfInBounds j true) (Av.put (Av.put env oi.dst v) oj.dst x) H' → AAny P N B ops a C F (fuel + 1) (listed.setIfInBounds j true) (Av.put env oj.dst x) H' := by
        intro x H' hx
        refine ih (listed.setIfInBounds j true) (Av.put env oj.dst x) H' (by simpa using hsz) hfree' (ready_mono hr (Ne.symm hji)) (hq.put p3 fun t ht => (hd t ht).2) ?_
        rw [Array.setIfInBounds_comm _ _ hji]
        exact AAny.eqv _ _ _ _ _ (Eqv.comm env v x p2) hx
      refine ⟨oj, hoj, hd, ?_⟩
      rcases h2 with ⟨k1, V, k2, k3⟩ | ⟨k1, k2⟩
      · exact .inl ⟨k1.put p1, V, by rw [renv_put ops oj env oi.dst v p1 fun t ht => (hdi t ht).2] at k2; exact k2, fun x H' hx => step x H' (k3 x H' hx)⟩
      · exact .inr ⟨k1.put p1, step _ _ k2⟩

def firstB0 (ops : Array Oper) (listed : Array Bool) (a : Option Nat) (i : Nat) : Bool :=
  (Region.ready .any ops listed).contains i && Region.free .any ops listed i && a != some i && decide (listed.size = ops.size)
theorem aa_first0 {fuel : Nat} {listed : Array Bool} {env : Env} {H : Heap} (i : Nat) {oi : Oper} {v : AV} (hi : ops[i]? = some oi) (hB : firstB0 ops listed a i = true) (hd : ∀ t, oi.dst = some t → DN t N) (hq : Quiet P N ops (fun _ => True) oi env v)
    (h : AAny P N B ops a C F fuel (listed.setIfInBounds i true) (Av.put env oi.dst v) H) : AAny P N B ops a C F (fuel + 1) listed env H := by
  simp only [firstB0, Bool.and_eq_true, bne_iff_ne, decide_eq_true_eq] at hB
  obtain ⟨⟨⟨h1, h2⟩, h3⟩, h5⟩ := hB
  exact aa_first0_aux hi hd h3 fuel listed env H h5 (Region.free_spec hi h2) (by simpa using h1) hq h

/-- Everything asked of it, by computation. -/
def firstB (ops : Array Oper) (listed : Array Bool) (a : Option Nat) (i : Nat) : Bool :=
  (Region.ready .any ops listed).contains i && Region.free .any ops listed i && decide (listed.size = ops.size) &&
    match a with
    | none => true
    | some a => i != a && !(listed.getD a true) && match ops[a]? with
      | some oa => oa.after.toList.any fun e => Region.binds .any e && e.on == i
      | none => false

theorem aa_first {fuel : Nat} {listed : Array Bool} {env : Env} {H : Heap} (i : Nat) {oi : Oper} {v : AV} (hi : ops[i]? = some oi) (hB : firstB ops listed a i = true) (hd : ∀ t, oi.dst = some t → DN t N) (hq : Quiet P N ops C oi env v)
    (h : AAny P N B ops a C F fuel (listed.setIfInBounds i true) (Av.put env oi.dst v) H) : AAny P N B ops a C F (fuel + 1) listed env H := by
  simp only [firstB, Bool.and_eq_true, decide_eq_true_eq] at hB
  obtain ⟨⟨⟨h1, h2⟩, h5⟩, h6⟩ := hB
  cases a with
  | none => exact aa_first_aux hi hd (by simp) (fun a' h => by cases h) fuel listed env H h5 (Region.free_spec hi h2) (by simpa using h1) trivial hq h
  | some a =>
    simp only [Bool.and_eq_true, bne_iff_ne, Bool.not_eq_true'] at h6
    obtain ⟨⟨h3, h6⟩, h7⟩ := h6
    refine aa_first_aux hi hd (fun e => h3 (Option.some.inj e).symm) (fun a' ha oa hoa => ?_) fuel listed env H h5 (Region.free_spec hi h2) (by simpa using h1) h6 hq h
    obtain rfl := Option.some.inj ha
    rw [hoa] at h7
    simp only [List.any_eq_true, Bool.and_eq_true, beq_iff_eq] at h7
    obtain ⟨e, he, hb, ho⟩ := h7
    exact ⟨e, by simpa using he, hb, ho⟩

/-- The only one that may come up now. -/
theorem aa_sole {fuel : Nat} {listed : Array Bool} {env : Env} {H : Heap} (i : Nat) {oi : Oper} {v : AV} {H' : Heap} (hi : ops[i]? = some oi) (hr : (Region.ready .any ops listed == [i]) = true) (hC : Yet a listed → C H) (hd : ∀ t, oi.dst = some t → DN t N)
    (hg : oi.guard = none) (h1 : AOp P N oi (renv oi env) H (fun v' h' => v' = v ∧ h' = H') (fun _ _ => False))
    (h : AAny P N B ops a C F fuel (listed.setIfInBounds i true) (Av.put env oi.dst v) H') : AAny P N B ops a C F (fuel + 1) listed env H := by
  have hr' : Region.ready .any ops listed = [i] := by simpa using hr
  refine ⟨hC, fun h0 => (by rw [hr'] at h0; cases h0), fun j hj => ?_⟩
  rw [hr'] at hj
  obtain rfl : j = i := by simpa using hj
  exact ⟨oi, hi, hd, .inl ⟨by unfold Asked; rw [hg], _, h1, by rintro _ _ ⟨rfl, rfl⟩; exact h⟩⟩
/-- Any one of those that may come up now. -/
theorem aa_all {fuel : Nat} {listed : Array Bool} {env : Env} {H : Heap} (l : List Nat) (hr : (Region.ready .any ops listed == l) = true) (hne : l ≠ []) (hC : Yet a listed → C H)
    (h : ∀ i ∈ l, AAt P N ops i env H (AAny P N B ops a C F fuel (listed.setIfInBounds i true))) : AAny P N B ops a C F (fuel + 1) listed env H := by
  have hr' : Region.ready .any ops listed = l := by simpa using hr
  refine ⟨hC, fun h0 => absurd (hr'.symm.trans h0) hne, fun j hj => ?_⟩
  rw [hr'] at hj
  exact h j hj
theorem aa_done {fuel : Nat} {listed : Array Bool} {env : Env} {H : Heap} (hr : (Region.ready .any ops listed == []) = true) (hC : Yet a listed → C H) (h : F env H) : AAny P N B ops a C F fuel listed env H := by
  have hr' : Region.ready .any ops listed = [] := by simpa using hr
  have hf : AFin B F env H := ⟨env, H, h, Sub.refl env, Fit.refl _ _⟩
  cases fuel with
  | zero => exact ⟨hC, hr', hf⟩
  | succ n => exact ⟨hC, fun _ => hf, fun j hj => by rw [hr'] at hj; cases hj⟩

theorem Asked.run {S : List Slot} {act : Act} {w : World} {o : Oper} {env : Env} {b : Bool} {H : Heap} (hc : CR N env H S act w) (h : Asked ops o env b) : Region.wanted o (yielded ops act.tmps) = b := by
  unfold Asked at h
  unfold Region.wanted
  split at h
  · rename_i hg; rw [hg]; exact h.symm
  · rename_i j want hg
    rw [hg]
    obtain ⟨d, hd, h⟩ := h
    rcases h with ⟨c, hc', rfl⟩ | ⟨h1, rfl⟩
    · simp only
      rw [yielded_of hc hd hc']
      cases c <;> cases want <;> rfl
    · simp only
      rw [not_yielded hc hd h1]
      rfl

theorem AAny.sound {Q : Post} : ∀ (fuel : Nat) (listed : Array Bool) (env : Env) (H : Heap), AAny P N B ops a C (Q .nrm) fuel listed env H → ∀ S act w, CR N env H S act w → Ext B.S B.w S w → wpAny P .any ops (Lift N Q B) fuel listed act w := by
  have fin : ∀ env H, AFin B (Q .nrm) env H → ∀ S act w, CR N env H S act w → Ext B.S B.w S w → Lift N Q B .normal act w := by
    rintro env H ⟨E, M, hQ, hs, hf⟩ S act w hc hb
    obtain ⟨S', c', k'⟩ := (hc.sub hs).fit hb hf
    exact ⟨.nrm, E, M, S', hQ, .nrm, c', k'⟩
  intro fuel
  induction fuel with
  | zero => intro listed env H h S act w hc hb; exact ⟨h.2.1, fin env H h.2.2 S act w hc hb⟩
  | succ fuel ih =>
    intro listed env H h S act w hc hb
    refine ⟨fun h0 => fin env H (h.2.1 h0) S act w hc hb, fun i hi => ?_⟩
    obtain ⟨o, ho, hd, h2⟩ := h.2.2 i hi
    unfold wpOp
    rw [ho]
    simp only
    rcases h2 with ⟨k1, V, k2, k3⟩ | ⟨k1, k2⟩
    · rw [if_pos (k1.run hc)]
      left
      refine k2 S act w (hc.sub (renv_sub o env)) _ _ ?_ (fun _ _ _ _ _ hf => hf.elim)
      intro v u H' S' w' hv hh hx hvr
      exact ih _ _ _ (k3 v H' hv) S' _ w' (hc.put hx hh (fun t ht => (hd t ht).1) hvr) (hb.trans hx)
    · rw [if_neg (by rw [k1.run hc]; exact Bool.false_ne_true)]
      exact ih _ _ _ k2 S _ w (hc.put (Ext.refl S w) hc.heap (fun t ht => (hd t ht).1) undef_ok) hb

/-- A region that draws its order. -/
theorem aw_draw {id : Nat} {l : List Oper} {Q : Post} {env : Env} {H : Heap} (hm : P.follows .mixedOrders = true) (a : Option Nat) (C : Heap → Prop)
    (h : AAny P N B l.toArray a C (Q .nrm) l.length (Array.replicate l.length false) env H) : AWp P N B (.region id l.toArray true) Q env H := fun S act w hc hb =>
  wp_region_any hm (by
    have hx : Ext S w S { w with drawn := w.drawn + 1 } := ⟨rfl, rfl, rfl, ⟨Nat.le_refl _, fun b _ h => ⟨h, rfl⟩, fun _ arr _ h => ⟨arr, h, rfl⟩⟩, SExt.refl S⟩
    have hh : HRel H S { w with drawn := w.drawn + 1 } := same_heap hc.heap hx (fun _ _ => rfl)
    have := AAny.sound l.length _ env H h S act { w with drawn := w.drawn + 1 } (hc.step hx hh) (hb.trans hx)
    simpa using this)

/-! #### As a walk uses them -/
variable {fuel : Nat} {listed : Array Bool} {env : Env} {H : Heap} {op : Op} {ty : TypeId} {pos : String} {after : Array Edge} {v : AV}
theorem aq1 {d : Nat} (i : Nat) (hi : ops[i]? = some ⟨some d, op, ty, pos, after, none⟩) (hB : firstB ops listed a i = true) (hd : DN d N) (h1 : ∀ H', C H' → V1 P N op ty (renv ⟨some d, op, ty, pos, after, none⟩ env) H' v)
    (h : AAny P N B ops a C F fuel (listed.setIfInBounds i true) ((d, v) :: env) H) : AAny P N B ops a C F (fuel + 1) listed env H :=
  aa_first i hi hB (by rintro _ ⟨⟩; exact hd) (.inl ⟨rfl, fun H hC => (h1 H hC).toV2 _ _ _ _⟩) h
theorem aq2 {d : Nat} (i : Nat) (hi : ops[i]? = some ⟨some d, op, ty, pos, after, none⟩) (hB : firstB ops listed a i = true) (hd : DN d N) (h1 : ∀ H', C H' → V2 P N op ty (renv ⟨some d, op, ty, pos, after, none⟩ env) H' v H')
    (h : AAny P N B ops a C F fuel (listed.setIfInBounds i true) ((d, v) :: env) H) : AAny P N B ops a C F (fuel + 1) listed env H :=
  aa_first i hi hB (by rintro _ ⟨⟩; exact hd) (.inl ⟨rfl, fun H hC => h1 H hC _ _ _ _⟩) h
/-- Nothing in memory is asked. -/
theorem aq0 {d : Nat} (i : Nat) (hi : ops[i]? = some ⟨some d, op, ty, pos, after, none⟩) (hB : firstB0 ops listed a i = true) (hd : DN d N) (h1 : ∀ H', V1 P N op ty (renv ⟨some d, op, ty, pos, after, none⟩ env) H' v)
    (h : AAny P N B ops a C F fuel (listed.setIfInBounds i true) ((d, v) :: env) H) : AAny P N B ops a C F (fuel + 1) listed env H :=
  aa_first0 i hi hB (by rintro _ ⟨⟩; exact hd) (.inl ⟨rfl, fun H _ => (h1 H).toV2 _ _ _ _⟩) h
theorem aqy1 {d j g : Nat} {want : Bool} (i : Nat) (hi : ops[i]? = some ⟨some d, op, ty, pos, after, some (j, want)⟩) (hB : firstB ops listed a i = true) (hd : DN d N) (hj : (ops[j]?).bind (·.dst) = some g) (hb : get env g = .bool want)
    (h1 : ∀ H', C H' → V1 P N op ty (renv ⟨some d, op, ty, pos, after, some (j, want)⟩ env) H' v)
    (h : AAny P N B ops a C F fuel (listed.setIfInBounds i true) ((d, v) :: env) H) : AAny P N B ops a C F (fuel + 1) listed env H :=
  aa_first i hi hB (by rintro _ ⟨⟩; exact hd) (.inl ⟨⟨g, hj, .inl ⟨want, hb, by simp⟩⟩, fun H hC => (h1 H hC).toV2 _ _ _ _⟩) h
theorem aqy2 {d j g : Nat} {want : Bool} (i : Nat) (hi : ops[i]? = some ⟨some d, op, ty, pos, after, some (j, want)⟩) (hB : firstB ops listed a i = true) (hd : DN d N) (hj : (ops[j]?).bind (·.dst) = some g) (hb : get env g = .bool want)
    (h1 : ∀ H', C H' → V2 P N op ty (renv ⟨some d, op, ty, pos, after, some (j, want)⟩ env) H' v H')
    (h : AAny P N B ops a C F fuel (listed.setIfInBounds i true) ((d, v) :: env) H) : AAny P N B ops a C F (fuel + 1) listed env H :=
  aa_first i hi hB (by rintro _ ⟨⟩; exact hd) (.inl ⟨⟨g, hj, .inl ⟨want, hb, by simp⟩⟩, fun H hC => h1 H hC _ _ _ _⟩) h
theorem aqn {d j g : Nat} {want c : Bool} (i : Nat) (hi : ops[i]? = some ⟨some d, op, ty, pos, after, some (j, want)⟩) (hB : firstB ops listed a i = true) (hd : DN d N) (hj : (ops[j]?).bind (·.dst) = some g) (hb : get env g = .bool c) (hc : (c == want) = false)
    (h : AAny P N B ops a C F fuel (listed.setIfInBounds i true) ((d, .tup []) :: env) H) : AAny P N B ops a C F (fuel + 1) listed env H :=
  aa_first i hi hB (by rintro _ ⟨⟩; exact hd) (.inr ⟨⟨g, hj, .inl ⟨c, hb, hc.symm⟩⟩, rfl⟩) h
theorem aqu {d j g : Nat} {want : Bool} (i : Nat) (hi : ops[i]? = some ⟨some d, op, ty, pos, after, some (j, want)⟩) (hB : firstB ops listed a i = true) (hd : DN d N) (hj : (ops[j]?).bind (·.dst) = some g) (hb : get env g = .tup [])
    (h : AAny P N B ops a C F fuel (listed.setIfInBounds i true) ((d, .tup []) :: env) H) : AAny P N B ops a C F (fuel + 1) listed env H :=
  aa_first i hi hB (by rintro _ ⟨⟩; exact hd) (.inr ⟨⟨g, hj, .inr ⟨hb, rfl⟩⟩, rfl⟩) h
theorem aq_split {g : Nat} {b : Bool} (hb : get env g = .bool b) (h1 : b = true → AAny P N B ops a C F fuel listed ((g, .bool true) :: env) H) (h2 : b = false → AAny P N B ops a C F fuel listed ((g, .bool false) :: env) H) : AAny P N B ops a C F fuel listed env H := by
  have key : Eqv ((g, AV.bool b) :: env) env := fun t => by
    by_cases e : g = t
    · subst e; rw [get_put_same, hb]
    · rw [get_put_other _ _ e]
  cases b
  · exact AAny.eqv _ _ _ _ _ key (h2 rfl)
  · exact AAny.eqv _ _ _ _ _ key (h1 rfl)
theorem aqs {dst : Option Nat} {H' : Heap} (i : Nat) (hi : ops[i]? = some ⟨dst, op, ty, pos, after, none⟩) (hr : (Region.ready .any ops listed == [i]) = true) (hC : Yet a listed → C H) (hd : ∀ t, dst = some t → DN t N)
    (h1 : V2 P N op ty (renv ⟨dst, op, ty, pos, after, none⟩ env) H v H') (h : AAny P N B ops a C F fuel (listed.setIfInBounds i true) (Av.put env dst v) H') : AAny P N B ops a C F (fuel + 1) listed env H :=
  aa_sole i hi hr hC hd rfl (h1 _ _ _ _) h
theorem aat {dst : Option Nat} {H' : Heap} {i : Nat} {K : Env → Heap → Prop} (hi : ops[i]? = some ⟨dst, op, ty, pos, after, none⟩) (hd : ∀ t, dst = some t → DN t N)
    (h1 : V2 P N op ty (renv ⟨dst, op, ty, pos, after, none⟩ env) H v H') (h : K (Av.put env dst v) H') : AAt P N ops i env H K :=
  ⟨_, hi, hd, .inl ⟨rfl, _, h1 _ _ _ _, by rintro _ _ ⟨rfl, rfl⟩; exact h⟩⟩
/-- What a bool slot holds is told. -/
theorem aa_outP {env : Env} {H : Heap} {listed : Array Bool} {fuel t : Nat} {v : AV} (hr : (Region.ready .any ops listed == []) = true) (hC : Yet a listed → C H) {E : Env} (hv : get env t = v) (hs : SubX t E env) (h : F ((t, v) :: E) H) : AAny P N B ops a C F fuel listed env H := by
  have hr' : Region.ready .any ops listed = [] := by simpa using hr
  have hf : AFin B F env H := ⟨(t, v) :: E, H, h, hs.sub hv, Fit.refl _ _⟩
  cases fuel with
  | zero => exact ⟨hC, hr', hf⟩
  | succ n => exact ⟨hC, fun _ => hf, fun j hj => by rw [hr'] at hj; cases hj⟩
end
end Go.Av
