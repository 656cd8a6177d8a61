/- Parts of the proof: rules for an abstract memory, plain laws, and walks through the program. -/
import Derived.Test.YtcncbmpblkgfjaaGreatDoorStatRP0
import Derived.Test.YtcncbmpblkgfjaaGreatDoorStatRP1
import Derived.Orders
import Derived.Laws.Strings
import Derived.Lib.SlBytesConst
import Derived.Lib.OthersKept
import Derived.Laws.RangeString
import Derived.Scope
import Derived.Lib.Bytealg
import Derived.Laws.Externs
import Derived.Laws.Bits64
import Derived.DataReads
import Derived.ChangeOld
import Derived.WalkKit
import Derived.ProofKit
import Derived.OpenShut
import Derived.ShutString
import Derived.Below
import Derived.SizedLaws
import Derived.Carry
set_option linter.unusedVariables false
set_option linter.unusedSimpArgs false
/-
  REGIONS THAT DRAW THEIR ORDER, over the abstract memory: an operation that may come up now may be taken first if it turns nothing in memory, whatever the others have done meanwhile.
-/
namespace Go.Av

/-- A slot of its own, behind all that a function has: a known table may stand there. -/
abbrev KT : Nat := 1000000
abbrev DN (d N : Nat) : Prop := d < N ∧ d ≠ KT
/-- What an operation's own operands hold (and what is known). -/
def renv (o : Oper) (env : Env) : Env := (KT, get env KT) :: o.op.operands.toList.filterMap fun | .tmp t => some (t, get env t) | _ => none

theorem get_filterMap (l : List Operand) (env : Env) (t : Nat) : get (l.filterMap fun | .tmp t => some (t, get env t) | _ => none) t = .junk ∨ get (l.filterMap fun | .tmp t => some (t, get env t) | _ => none) t = get env t := by
  induction l with
  | nil => exact .inl rfl
  | cons x l ih =>
    cases x with
    | tmp s =>
      simp only [List.filterMap_cons]
      by_cases e : s = t
      · subst e; rw [get_put_same]; exact .inr rfl
      · rw [get_put_other _ _ e]; exact ih
    | const v => simpa [List.filterMap_cons] using ih
    | global g => simpa [List.filterMap_cons] using ih
    | func f => simpa [List.filterMap_cons] using ih
theorem renv_sub (o : Oper) (env : Env) : Sub (renv o env) env := fun t => by
  by_cases hK : KT = t
  · subst hK; exact .inr (get_put_same _ _ _).symm
  show get ((KT, _) :: _) t = .junk ∨ _
  rw [renv, get_put_other _ _ hK]
  rcases get_filterMap o.op.operands.toList env t with h | h
  · exact .inl h
  · exact .inr h.symm

/-- Two environments that hold the same. -/
def Eqv (e e' : Env) : Prop := ∀ t, get e t = get e' t
theorem Eqv.put {e e' : Env} (h : Eqv e e') (d : Option Nat) (v : AV) : Eqv (Av.put e d v) (Av.put e' d v) := fun t => by
  cases d with
  | none => exact h t
  | some d =>
    show get ((d, v) :: e) t = get ((d, v) :: e') t
    by_cases hd : d = t
    · subst hd; rw [get_put_same, get_put_same]
    · rw [get_put_other _ _ hd, get_put_other _ _ hd]; exact h t
theorem Eqv.comm (e : Env) {a b : Option Nat} (x y : AV) (h : ∀ d, a = some d → b ≠ some d) : Eqv (Av.put (Av.put e a x) b y) (Av.put (Av.put e b y) a x) := fun t => by
  cases a with
  | none => rfl
  | some a =>
    cases b with
    | none => rfl
    | some b =>
      have hne : a ≠ b := fun he => h a rfl (he ▸ rfl)
      show get ((b, y) :: (a, x) :: e) t = get ((a, x) :: (b, y) :: e) t
      by_cases h1 : b = t
      · subst h1; rw [get_put_same, get_put_other _ _ hne, get_put_same]
      · rw [get_put_other _ _ h1]
        by_cases h2 : a = t
        · subst h2; rw [get_put_same, get_put_same]
        · rw [get_put_other _ _ h2, get_put_other _ _ h2, get_put_other _ _ h1]
theorem Eqv.renv {e e' : Env} (h : Eqv e e') (o : Oper) : renv o e = renv o e' := by
  unfold Av.renv
  rw [h KT]
  congr 2
  funext x
  cases x <;> simp [h _]
theorem renv_put (ops : Array Oper) (o : Oper) (env : Env) (d : Option Nat) (v : AV) (h : ∀ t, d = some t → t ∉ o.looksAt ops) (hK : ∀ t, d = some t → t ≠ KT) : renv o (Av.put env d v) = renv o env := by
  cases d with
  | none => rfl
  | some d =>
    have hk := hK d rfl
    have h' := h d rfl
    unfold Oper.looksAt at h'
    rw [List.mem_append, not_or] at h'
    have key : ∀ l : List Operand, d ∉ (l.filterMap fun | .tmp t => some t | _ => none) → (l.filterMap fun | .tmp t => some (t, get (Av.put env (some d) v) t) | _ => none) = (l.filterMap fun | .tmp t => some (t, get env t) | _ => none) := by
      intro l h1
      induction l with
      | nil => rfl
      | cons x l ih =>
        cases x with
        | tmp s =>
          simp only [List.filterMap_cons, List.mem_cons, not_or] at h1 ⊢
          rw [ih h1.2]
          show (s, get ((d, v) :: env) s) :: _ = _
          rw [get_put_other _ _ h1.1]
        | const v => simpa [List.filterMap_cons] using ih (by simpa [List.filterMap_cons] using h1)
        | global v => simpa [List.filterMap_cons] using ih (by simpa [List.filterMap_cons] using h1)
        | func v => simpa [List.filterMap_cons] using ih (by simpa [List.filterMap_cons] using h1)
    show (KT, get ((d, v) :: env) KT) :: _ = (KT, get env KT) :: _
    rw [get_put_other _ _ hk]
    exact congrArg _ (key _ h'.1)

section
variable (P : Program) (N : Nat) (B : Base) (ops : Array Oper)

/-- Whether an operation is carried out: by its guard's slot. -/
def Asked (o : Oper) (env : Env) (b : Bool) : Prop := match o.guard with
  | none => b = true
  | some (j, want) => ∃ d, (ops[j]?).bind (·.dst) = some d ∧ ((∃ c, get env d = .bool c ∧ b = (c == want)) ∨ (get env d = .tup [] ∧ b = false))

/-- Operation number i comes up. -/
def AAt (i : Nat) (env : Env) (H : Heap) (K : Env → Heap → Prop) : Prop :=
  ∃ o, ops[i]? = some o ∧ (∀ t, o.dst = some t → DN t N) ∧
    ((Asked ops o env true ∧ ∃ V : AV → Heap → Prop, AOp P N o (renv o env) H V (fun _ _ => False) ∧ ∀ v H', V v H' → K (put env o.dst v) H') ∨ (Asked ops o env false ∧ K (put env o.dst (.tup [])) H))

/-- Operation a (if one is named) has not come up yet. -/
def Yet (a : Option Nat) (listed : Array Bool) : Prop := match a with
  | none => True
  | some a => listed.getD a true = false

/-- What stands behind: some of what is known may be let go. -/
def AFin (B : Base) (F : Env → Heap → Prop) (env : Env) (H : Heap) : Prop := ∃ E M, F E M ∧ Sub E env ∧ Fit B E H M
theorem AFin.eqv {B : Base} {F : Env → Heap → Prop} {e e' : Env} {H : Heap} (he : Eqv e e') (h : AFin B F e H) : AFin B F e' H := by
  obtain ⟨E, M, h1, h2, h3⟩ := h
  exact ⟨E, M, h1, fun t => by rw [← he t]; exact h2 t, h3⟩

/-- Whatever order is picked from here on; C holds of the memory as1 long as1 operation a has not come up. -/
def AAny (a : Option Nat) (C : Heap → Prop) (F : Env → Heap → Prop) : Nat → Array Bool → Env → Heap → Prop
  | 0, listed, env, H => (Yet a listed → C H) ∧ Region.ready .any ops listed = [] ∧ AFin B F env H
  | n + 1, listed, env, H => (Yet a listed → C H) ∧ (Region.ready .any ops listed = [] → AFin B F env H) ∧
    ∀ i ∈ Region.ready .any ops listed, AAt P N ops i env H (AAny a C F n (listed.setIfInBounds i true))
end

section
variable {P : Program} {N : Nat} {B : Base} {ops : Array Oper} {a : Option Nat} {C : Heap → Prop} {F : Env → Heap → Prop}

theorem Asked.congr {o : Oper} {e e' : Env} {b : Bool} (h : Asked ops o e b) (k : ∀ j want d, o.guard = some (j, want) → (ops[j]?).bind (·.dst) = some d → get e' d = get e d) : Asked ops o e' b := by
  unfold Asked at h ⊢
  split at h
  · exact h
  · rename_i j want hg
    obtain ⟨d, hd, h⟩ := h
    refine ⟨d, hd, ?_⟩
    rw [k j want d hg hd]
    exact h
theorem Asked.put {o : Oper} {e : Env} {b : Bool} {d : Option Nat} {v : AV} (h : Asked ops o (Av.put e d v) b) (k : ∀ t, d = some t → t ∉ o.looksAt ops) : Asked ops o e b := h.congr fun j want g hg hd => by
  cases d with
  | none => rfl
  | some d =>
    have hne : d ≠ g := fun e => k d rfl (by subst e; simp [Oper.looksAt, hg, hd])
    exact (get_put_other _ _ hne).symm
theorem Asked.put' {o : Oper} {e : Env} {b : Bool} {d : Option Nat} {v : AV} (h : Asked ops o e b) (k : ∀ t, d = some t → t ∉ o.looksAt ops) : Asked ops o (Av.put e d v) b := h.congr fun j want g hg hd => by
  cases d with
  | none => rfl
  | some d =>
    have hne : d ≠ g := fun e => k d rfl (by subst e; simp [Oper.looksAt, hg, hd])
    exact get_put_other _ _ hne

theorem AAt.mono {i : Nat} {env : Env} {H : Heap} {K K' : Env → Heap → Prop} (h : AAt P N ops i env H K) (hk : ∀ e H, K e H → K' e H) : AAt P N ops i env H K' := by
  obtain ⟨o, ho, hd, h⟩ := h
  refine ⟨o, ho, hd, ?_⟩
  rcases h with ⟨h1, V, h2, h3⟩ | ⟨h1, h2⟩
  · exact .inl ⟨h1, V, h2, fun v H' hv => hk _ _ (h3 v H' hv)⟩
  · exact .inr ⟨h1, hk _ _ h2⟩

theorem AAny.eqv : ∀ (n : Nat) (listed : Array Bool) (env env' : Env) (H : Heap), Eqv env env' → AAny P N B ops a C F n listed env H → AAny P N B ops a C F n listed env' H
  | 0, _, _, _, _, he, h => ⟨h.1, h.2.1, h.2.2.eqv he⟩
  | n + 1, listed, env, env', H, he, h => by
    refine ⟨h.1, fun h0 => (h.2.1 h0).eqv he, fun i hi => ?_⟩
    obtain ⟨o, ho, hd, h⟩ := h.2.2 i hi
    refine ⟨o, ho, hd, ?_⟩
    rcases h with ⟨h1, V, h2, h3⟩ | ⟨h1, h2⟩
    · exact .inl ⟨h1.congr fun _ _ d _ _ => (he d).symm, V, (he.renv o) ▸ h2, fun v H' hv => AAny.eqv n _ _ _ _ (he.put _ _) (h3 v H' hv)⟩
    · exact .inr ⟨h1.congr fun _ _ d _ _ => (he d).symm, AAny.eqv n _ _ _ _ (he.put _ _) h2⟩

/-- It yields v, and turns nothing, in whatever memory of which C holds. -/
def Quiet (P : Program) (N : Nat) (ops : Array Oper) (C : Heap → Prop) (o : Oper) (env : Env) (v : AV) : Prop :=
  (Asked ops o env true ∧ ∀ H, C H → AOp P N o (renv o env) H (fun v' H' => v' = v ∧ H' = H) (fun _ _ => False)) ∨ (Asked ops o env false ∧ v = .tup [])

theorem Quiet.at_ {i : Nat} {o : Oper} {env : Env} {H : Heap} {v : AV} {K : Env → Heap → Prop} (hi : ops[i]? = some o) (hd : ∀ t, o.dst = some t → DN t N) (hq : Quiet P N ops C o env v) (hC : C H) (h : K (Av.put env o.dst v) H) : AAt P N ops i env H K := by
  refine ⟨o, hi, hd, ?_⟩
  rcases hq with ⟨h1, h2⟩ | ⟨h1, rfl⟩
  · exact .inl ⟨h1, _, h2 H hC, by rintro _ _ ⟨rfl, rfl⟩; exact h⟩
  · exact .inr ⟨h1, h⟩
theorem Quiet.put {o : Oper} {env : Env} {v : AV} {d : Option Nat} {x : AV} (hq : Quiet P N ops C o env v) (k : ∀ t, d = some t → t ∉ o.looksAt ops) (hK : ∀ t, d = some t → t ≠ KT) : Quiet P N ops C o (Av.put env d x) v := by
  rcases hq with ⟨h1, h2⟩ | ⟨h1, h2⟩
  · exact .inl ⟨h1.put' k, by rw [renv_put ops o env d x k hK]; exact h2⟩
  · exact .inr ⟨h1.put' k, h2⟩

theorem AAny.here {n : Nat} {listed : Array Bool} {env : Env} {H : Heap} (h : AAny P N B ops a C F n listed env H) : Yet a listed → C H := by
  cases n <;> exact h.1

/-- **Taken first.** -/
theorem aa_first_aux {i : Nat} {oi : Oper} {v : AV} (hi : ops[i]? = some oi) (hdi : ∀ t, oi.dst = some t → DN t N) (hai : a ≠ some i) (hwait : ∀ a', a = some a' → ∀ oa, ops[a']? = some oa → ∃ e ∈ oa.after, Region.binds .any e = true ∧ e.on = i) :
    ∀ (fuel : Nat) (listed : Array Bool) (env : Env) (H : Heap), listed.size = ops.size →
      (∀ j oj, ops[j]? = some oj → j ≠ i → listed.getD j true = false → (∀ e ∈ oj.after, Region.binds .any e = true → e.on ≠ i) → oi.apart ops oj = true) →
      i ∈ Region.ready .any ops listed → Yet a listed → Quiet P N ops C oi env v →
      AAny P N B ops a C F fuel (listed.setIfInBounds i true) (Av.put env oi.dst v) H → AAny P N B ops a C F (fuel + 1) listed env H := by
  have hset : ∀ (listed : Array Bool) (j : Nat), a ≠ some j → Yet a (listed.setIfInBounds j true) = Yet a listed := fun listed j hj => by
    unfold Yet
    cases a with
    | none => rfl
    | some a => simp only; rw [getD_set_ne true (fun e => hj (by rw [e]))]
  intro fuel
  induction fuel with
  | zero =>
    intro listed env H hsz _ hr ha hq h
    have hC : C H := h.1 (by rw [hset _ _ hai]; exact ha)
    refine ⟨fun _ => hC, fun h0 => (by rw [h0] at hr; cases hr), fun j hj => ?_⟩
    by_cases hji : j = i
    · subst hji; exact hq.at_ hi hdi hC h
    · have := ready_mono hj hji
      rw [h.2.1] at this
      cases this
  | succ fuel ih =>
    intro listed env H hsz hfree hr ha hq h
    have hC : C H := h.1 (by rw [hset _ _ hai]; exact ha)
    refine ⟨fun _ => hC, fun h0 => (by rw [h0] at hr; cases hr), fun j hj => ?_⟩
    by_cases hji : j = i
    · subst hji; exact hq.at_ hi hdi hC h
    · have h1 := h.2.2 j (ready_mono hj hji)
      obtain ⟨hjun, oj, hoj, hall⟩ := mem_ready.1 hj
      have hnot : ∀ e ∈ oj.after, Region.binds .any e = true → e.on ≠ i := fun e he hb heq => by
        have h1 := hall e he hb
        have h0 := (mem_ready.1 hr).1
        rw [heq] at h1
        rcases Nat.lt_or_ge i listed.size with h' | h'
        · simp [h'] at h0 h1; rw [h0] at h1; cases h1
        · simp [Array.getElem?_eq_none h'] at h1
      have hja : a ≠ some j := by
        rintro rfl
        obtain ⟨e, he, hb, heq⟩ := hwait j rfl oj hoj
        exact hnot e he hb heq
      have hap := hfree j oj hoj hji hjun hnot
      obtain ⟨p1, p2, p3⟩ := Oper.apart_spec hap
      have hfree' : ∀ k ok, ops[k]? = some ok → k ≠ i → (listed.setIfInBounds j true).getD k true = false →
          (∀ e ∈ ok.after, Region.binds .any e = true → e.on ≠ i) → oi.apart ops ok = true := fun k ok hk hki hun hno => by
        refine hfree k ok hk hki ?_ hno
        by_cases hjk : j = k
        · subst hjk; exact hjun
        · rw [getD_set_ne true hjk] at hun; exact hun
      obtain ⟨o, ho, hd, h2⟩ := h1
      rw [hoj] at ho
      obtain rfl := Option.some.inj ho
      have step : ∀ x H', AAny P N B ops a C F fuel ((listed.setIfInBounds i true).setIfInBounds j true) (Av.put (Av.put env oi.dst v) oj.dst x) H' → AAny P N B ops a C F (fuel + 1) (listed.setIfInBounds j true) (Av.put env oj.dst x) H' := by
        intro x H' hx
        refine ih (listed.setIfInBounds j true) (Av.put env oj.dst x) H' (by simpa using hsz) hfree' (ready_mono hr (Ne.symm hji)) (by rw [hset _ _ hja]; exact ha) (hq.put p3 fun t ht => (hd t ht).2) ?_
        rw [Array.setIfInBounds_comm _ _ hji]
        exact AAny.eqv _ _ _ _ _ (Eqv.comm env v x p2) hx
      refine ⟨oj, hoj, hd, ?_⟩
      rcases h2 with ⟨k1, V, k2, k3⟩ | ⟨k1, k2⟩
      · exact .inl ⟨k1.put p1, V, by rw [renv_put ops oj env oi.dst v p1 fun t ht => (hdi t ht).2] at k2; exact k2, fun x H' hx => step x H' (k3 x H' hx)⟩
      · exact .inr ⟨k1.put p1, step _ _ k2⟩

/-- Taken first, if nothing in memory is asked. -/
theorem aa_first0_aux {i : Nat} {oi : Oper} {v : AV} (hi : ops[i]? = some oi) (hdi : ∀ t, oi.dst = some t → DN t N) (hai : a ≠ some i) :
    ∀ (fuel : Nat) (listed : Array Bool) (env : Env) (H : Heap), listed.size = ops.size →
      (∀ j oj, ops[j]? = some oj → j ≠ i → listed.getD j true = false → (∀ e ∈ oj.after, Region.binds .any e = true → e.on ≠ i) → oi.apart ops oj = true) →
      i ∈ Region.ready .any ops listed → Quiet P N ops (fun _ => True) oi env v →
      AAny P N B ops a C F fuel (listed.setIfInBounds i true) (Av.put env oi.dst v) H → AAny P N B ops a C F (fuel + 1) listed env H := by
  have hset : ∀ (listed : Array Bool) (j : Nat), a ≠ some j → Yet a (listed.setIfInBounds j true) = Yet a listed := fun listed j hj => by
    unfold Yet
    cases a with
    | none => rfl
    | some a => simp only; rw [getD_set_ne true (fun e => hj (by rw [e]))]
  intro fuel
  induction fuel with
  | zero =>
    intro listed env H hsz _ hr hq h
    refine ⟨fun ha => h.1 (by rw [hset _ _ hai]; exact ha), fun h0 => (by rw [h0] at hr; cases hr), fun j hj => ?_⟩
    by_cases hji : j = i
    · subst hji; exact hq.at_ hi hdi trivial h
    · have := ready_mono hj hji
      rw [h.2.1] at this
      cases this
  | succ fuel ih =>
    intro listed env H hsz hfree hr hq h
    refine ⟨fun ha => h.1 (by rw [hset _ _ hai]; exact ha), fun h0 => (by rw [h0] at hr; cases hr), fun j hj => ?_⟩
    by_cases hji : j = i
    · subst hji; exact hq.at_ hi hdi trivial h
    · have h1 := h.2.2 j (ready_mono hj hji)
      obtain ⟨hjun, oj, hoj, hall⟩ := mem_ready.1 hj
      have hnot : ∀ e ∈ oj.after, Region.binds .any e = true → e.on ≠ i := fun e he hb heq => by
        have h1 := hall e he hb
        have h0 := (mem_ready.1 hr).1
        rw [heq] at h1
        rcases Nat.lt_or_ge i listed.size with h' | h'
        · simp [h'] at h0 h1; rw [h0] at h1; cases h1
        · simp [Array.getElem?_eq_none h'] at h1
      have hap := hfree j oj hoj hji hjun hnot
      obtain ⟨p1, p2, p3⟩ := Oper.apart_spec hap
      have hfree' : ∀ k ok, ops[k]? = some ok → k ≠ i → (listed.setIfInBounds j true).getD k true = false →
          (∀ e ∈ ok.after, Region.binds .any e = true → e.on ≠ i) → oi.apart ops ok = true := fun k ok hk hki hun hno => by
        refine hfree k ok hk hki ?_ hno
        by_cases hjk : j = k
        · subst hjk; exact hjun
        · rw [getD_set_ne true hjk] at hun; exact hun
      obtain ⟨o, ho, hd, h2⟩ := h1
      rw [hoj] at ho
      obtain rfl := Option.some.inj ho
      have step : ∀ x H', AAny P N B ops a C F fuel ((listed.setIfInBounds i true).setIfInBounds j true) (Av.put (Av.put env oi.dst v) oj.dst x) H' → AAny P N B ops a C F (fuel + 1) (listed.setIfInBounds j true) (Av.put env oj.dst x) H' := by
        intro x H' hx
        refine ih (listed.setIfInBounds j true) (Av.put env oj.dst x) H' (by simpa using hsz) hfree' (ready_mono hr (Ne.symm hji)) (hq.put p3 fun t ht => (hd t ht).2) ?_
        rw [Array.setIfInBounds_comm _ _ hji]
        exact AAny.eqv _ _ _ _ _ (Eqv.comm env v x p2) hx
      refine ⟨oj, hoj, hd, ?_⟩
      rcases h2 with ⟨k1, V, k2, k3⟩ | ⟨k1, k2⟩
      · exact .inl ⟨k1.put p1, V, by rw [renv_put ops oj env oi.dst v p1 fun t ht => (hdi t ht).2] at k2; exact k2, fun x H' hx => step x H' (k3 x H' hx)⟩
      · exact .inr ⟨k1.put p1, step _ _ k2⟩

def firstB0 (ops : Array Oper) (listed : Array Bool) (a : Option Nat) (i : Nat) : Bool :=
  (Region.ready .any ops listed).contains i && Region.free .any ops listed i && a != some i && decide (listed.size = ops.size)
theorem aa_first0 {fuel : Nat} {listed : Array Bool} {env : Env} {H : Heap} (i : Nat) {oi : Oper} {v : AV} (hi : ops[i]? = some oi) (hB : firstB0 ops listed a i = true) (hd : ∀ t, oi.dst = some t → DN t N) (hq : Quiet P N ops (fun _ => True) oi env v)
    (h : AAny P N B ops a C F fuel (listed.setIfInBounds i true) (Av.put env oi.dst v) H) : AAny P N B ops a C F (fuel + 1) listed env H := by
  simp only [firstB0, Bool.and_eq_true, bne_iff_ne, decide_eq_true_eq] at hB
  obtain ⟨⟨⟨h1, h2⟩, h3⟩, h5⟩ := hB
  exact aa_first0_aux hi hd h3 fuel listed env H h5 (Region.free_spec hi h2) (by simpa using h1) hq h

/-- Everything asked of it, by computation. -/
def firstB (ops : Array Oper) (listed : Array Bool) (a : Option Nat) (i : Nat) : Bool :=
  (Region.ready .any ops listed).contains i && Region.free .any ops listed i && decide (listed.size = ops.size) &&
    match a with
    | none => true
    | some a => i != a && !(listed.getD a true) && match ops[a]? with
      | some oa => oa.after.toList.any fun e => Region.binds .any e && e.on == i
      | none => false

theorem aa_first {fuel : Nat} {listed : Array Bool} {env : Env} {H : Heap} (i : Nat) {oi : Oper} {v : AV} (hi : ops[i]? = some oi) (hB : firstB ops listed a i = true) (hd : ∀ t, oi.dst = some t → DN t N) (hq : Quiet P N ops C oi env v)
    (h : AAny P N B ops a C F fuel (listed.setIfInBounds i true) (Av.put env oi.dst v) H) : AAny P N B ops a C F (fuel + 1) listed env H := by
  simp only [firstB, Bool.and_eq_true, decide_eq_true_eq] at hB
  obtain ⟨⟨⟨h1, h2⟩, h5⟩, h6⟩ := hB
  cases a with
  | none => exact aa_first_aux hi hd (by simp) (fun a' h => by cases h) fuel listed env H h5 (Region.free_spec hi h2) (by simpa using h1) trivial hq h
  | some a =>
    simp only [Bool.and_eq_true, bne_iff_ne, Bool.not_eq_true'] at h6
    obtain ⟨⟨h3, h6⟩, h7⟩ := h6
    refine aa_first_aux hi hd (fun e => h3 (Option.some.inj e).symm) (fun a' ha oa hoa => ?_) fuel listed env H h5 (Region.free_spec hi h2) (by simpa using h1) h6 hq h
    obtain rfl := Option.some.inj ha
    rw [hoa] at h7
    simp only [List.any_eq_true, Bool.and_eq_true, beq_iff_eq] at h7
    obtain ⟨e, he, hb, ho⟩ := h7
    exact ⟨e, by simpa using he, hb, ho⟩

/-- The only one that may come up now. -/
theorem aa_sole {fuel : Nat} {listed : Array Bool} {env : Env} {H : Heap} (i : Nat) {oi : Oper} {v : AV} {H' : Heap} (hi : ops[i]? = some oi) (hr : (Region.ready .any ops listed == [i]) = true) (hC : Yet a listed → C H) (hd : ∀ t, oi.dst = some t → DN t N)
    (hg : oi.guard = none) (h1 : AOp P N oi (renv oi env) H (fun v' h' => v' = v ∧ h' = H') (fun _ _ => False))
    (h : AAny P N B ops a C F fuel (listed.setIfInBounds i true) (Av.put env oi.dst v) H') : AAny P N B ops a C F (fuel + 1) listed env H := by
  have hr' : Region.ready .any ops listed = [i] := by simpa using hr
  refine ⟨hC, fun h0 => (by rw [hr'] at h0; cases h0), fun j hj => ?_⟩
  rw [hr'] at hj
  obtain rfl : j = i := by simpa using hj
  exact ⟨oi, hi, hd, .inl ⟨by unfold Asked; rw [hg], _, h1, by rintro _ _ ⟨rfl, rfl⟩; exact h⟩⟩
/-- Any one of those that may come up now. -/
theorem aa_all {fuel : Nat} {listed : Array Bool} {env : Env} {H : Heap} (l : List Nat) (hr : (Region.ready .any ops listed == l) = true) (hne : l ≠ []) (hC : Yet a listed → C H)
    (h : ∀ i ∈ l, AAt P N ops i env H (AAny P N B ops a C F fuel (listed.setIfInBounds i true))) : AAny P N B ops a C F (fuel + 1) listed env H := by
  have hr' : Region.ready .any ops listed = l := by simpa using hr
  refine ⟨hC, fun h0 => absurd (hr'.symm.trans h0) hne, fun j hj => ?_⟩
  rw [hr'] at hj
  exact h j hj
theorem aa_done {fuel : Nat} {listed : Array Bool} {env : Env} {H : Heap} (hr : (Region.ready .any ops listed == []) = true) (hC : Yet a listed → C H) (h : F env H) : AAny P N B ops a C F fuel listed env H := by
  have hr' : Region.ready .any ops listed = [] := by simpa using hr
  have hf : AFin B F env H := ⟨env, H, h, Sub.refl env, Fit.refl _ _⟩
  cases fuel with
  | zero => exact ⟨hC, hr', hf⟩
  | succ n => exact ⟨hC, fun _ => hf, fun j hj => by rw [hr'] at hj; cases hj⟩

theorem Asked.run {S : List Slot} {act : Act} {w : World} {o : Oper} {env : Env} {b : Bool} {H : Heap} (hc : CR N env H S act w) (h : Asked ops o env b) : Region.wanted o (yielded ops act.tmps) = b := by
  unfold Asked at h
  unfold Region.wanted
  split at h
  · rename_i hg; rw [hg]; exact h.symm
  · rename_i j want hg
    rw [hg]
    obtain ⟨d, hd, h⟩ := h
    rcases h with ⟨c, hc', rfl⟩ | ⟨h1, rfl⟩
    · simp only
      rw [yielded_of hc hd hc']
      cases c <;> cases want <;> rfl
    · simp only
      rw [not_yielded hc hd h1]
      rfl

theorem AAny.sound {Q : Post} : ∀ (fuel : Nat) (listed : Array Bool) (env : Env) (H : Heap), AAny P N B ops a C (Q .nrm) fuel listed env H → ∀ S act w, CR N env H S act w → Ext B.S B.w S w → wpAny P .any ops (Lift N Q B) fuel listed act w := by
  have fin : ∀ env H, AFin B (Q .nrm) env H → ∀ S act w, CR N env H S act w → Ext B.S B.w S w → Lift N Q B .normal act w := by
    rintro env H ⟨E, M, hQ, hs, hf⟩ S act w hc hb
    obtain ⟨S', c', k'⟩ := (hc.sub hs).fit hb hf
    exact ⟨.nrm, E, M, S', hQ, .nrm, c', k'⟩
  intro fuel
  induction fuel with
  | zero => intro listed env H h S act w hc hb; exact ⟨h.2.1, fin env H h.2.2 S act w hc hb⟩
  | succ fuel ih =>
    intro listed env H h S act w hc hb
    refine ⟨fun h0 => fin env H (h.2.1 h0) S act w hc hb, fun i hi => ?_⟩
    obtain ⟨o, ho, hd, h2⟩ := h.2.2 i hi
    unfold wpOp
    rw [ho]
    simp only
    rcases h2 with ⟨k1, V, k2, k3⟩ | ⟨k1, k2⟩
    · rw [if_pos (k1.run hc)]
      left
      refine k2 S act w (hc.sub (renv_sub o env)) _ _ ?_ (fun _ _ _ _ _ hf => hf.elim)
      intro v u H' S' w' hv hh hx hvr
      exact ih _ _ _ (k3 v H' hv) S' _ w' (hc.put hx hh (fun t ht => (hd t ht).1) hvr) (hb.trans hx)
    · rw [if_neg (by rw [k1.run hc]; exact Bool.false_ne_true)]
      exact ih _ _ _ k2 S _ w (hc.put (Ext.refl S w) hc.heap (fun t ht => (hd t ht).1) undef_ok) hb

/-- A region that draws its order. -/
theorem aw_draw {id : Nat} {l : List Oper} {Q : Post} {env : Env} {H : Heap} (hm : P.follows .mixedOrders = true) (a : Option Nat) (C : Heap → Prop)
    (h : AAny P N B l.toArray a C (Q .nrm) l.length (Array.replicate l.length false) env H) : AWp P N B (.region id l.toArray true) Q env H := fun S act w hc hb =>
  wp_region_any hm (by
    have hx : Ext S w S { w with drawn := w.drawn + 1 } := ⟨rfl, rfl, rfl, ⟨Nat.le_refl _, fun b _ h => ⟨h, rfl⟩, fun _ arr _ h => ⟨arr, h, rfl⟩⟩, SExt.refl S⟩
    have hh : HRel H S { w with drawn := w.drawn + 1 } := same_heap hc.heap hx (fun _ _ => rfl)
    have := AAny.sound l.length _ env H h S act { w with drawn := w.drawn + 1 } (hc.step hx hh) (hb.trans hx)
    simpa using this)

/-! #### As a walk uses them -/
variable {fuel : Nat} {listed : Array Bool} {env : Env} {H : Heap} {op : Op} {ty : TypeId} {pos : String} {after : Array Edge} {v : AV}
theorem aq1 {d : Nat} (i : Nat) (hi : ops[i]? = some ⟨some d, op, ty, pos, after, none⟩) (hB : firstB ops listed a i = true) (hd : DN d N) (h1 : ∀ H', C H' → V1 P N op ty (renv ⟨some d, op, ty, pos, after, none⟩ env) H' v)
    (h : AAny P N B ops a C F fuel (listed.setIfInBounds i true) ((d, v) :: env) H) : AAny P N B ops a C F (fuel + 1) listed env H :=
  aa_first i hi hB (by rintro _ ⟨⟩; exact hd) (.inl ⟨rfl, fun H hC => (h1 H hC).toV2 _ _ _ _⟩) h
theorem aq2 {d : Nat} (i : Nat) (hi : ops[i]? = some ⟨some d, op, ty, pos, after, none⟩) (hB : firstB ops listed a i = true) (hd : DN d N) (h1 : ∀ H', C H' → V2 P N op ty (renv ⟨some d, op, ty, pos, after, none⟩ env) H' v H')
    (h : AAny P N B ops a C F fuel (listed.setIfInBounds i true) ((d, v) :: env) H) : AAny P N B ops a C F (fuel + 1) listed env H :=
  aa_first i hi hB (by rintro _ ⟨⟩; exact hd) (.inl ⟨rfl, fun H hC => h1 H hC _ _ _ _⟩) h
/-- Nothing in memory is asked. -/
theorem aq0 {d : Nat} (i : Nat) (hi : ops[i]? = some ⟨some d, op, ty, pos, after, none⟩) (hB : firstB0 ops listed a i = true) (hd : DN d N) (h1 : ∀ H', V1 P N op ty (renv ⟨some d, op, ty, pos, after, none⟩ env) H' v)
    (h : AAny P N B ops a C F fuel (listed.setIfInBounds i true) ((d, v) :: env) H) : AAny P N B ops a C F (fuel + 1) listed env H :=
  aa_first0 i hi hB (by rintro _ ⟨⟩; exact hd) (.inl ⟨rfl, fun H _ => (h1 H).toV2 _ _ _ _⟩) h
theorem aqy1 {d j g : Nat} {want : Bool} (i : Nat) (hi : ops[i]? = some ⟨some d, op, ty, pos, after, some (j, want)⟩) (hB : firstB ops listed a i = true) (hd : DN d N) (hj : (ops[j]?).bind (·.dst) = some g) (hb : get env g = .bool want)
    (h1 : ∀ H', C H' → V1 P N op ty (renv ⟨some d, op, ty, pos, after, some (j, want)⟩ env) H' v)
    (h : AAny P N B ops a C F fuel (listed.setIfInBounds i true) ((d, v) :: env) H) : AAny P N B ops a C F (fuel + 1) listed env H :=
  aa_first i hi hB (by rintro _ ⟨⟩; exact hd) (.inl ⟨⟨g, hj, .inl ⟨want, hb, by simp⟩⟩, fun H hC => (h1 H hC).toV2 _ _ _ _⟩) h
theorem aqy2 {d j g : Nat} {want : Bool} (i : Nat) (hi : ops[i]? = some ⟨some d, op, ty, pos, after, some (j, want)⟩) (hB : firstB ops listed a i = true) (hd : DN d N) (hj : (ops[j]?).bind (·.dst) = some g) (hb : get env g = .bool want)
    (h1 : ∀ H', C H' → V2 P N op ty (renv ⟨some d, op, ty, pos, after, some (j, want)⟩ env) H' v H')
    (h : AAny P N B ops a C F fuel (listed.setIfInBounds i true) ((d, v) :: env) H) : AAny P N B ops a C F (fuel + 1) listed env H :=
  aa_first i hi hB (by rintro _ ⟨⟩; exact hd) (.inl ⟨⟨g, hj, .inl ⟨want, hb, by simp⟩⟩, fun H hC => h1 H hC _ _ _ _⟩) h
theorem aqn {d j g : Nat} {want c : Bool} (i : Nat) (hi : ops[i]? = some ⟨some d, op, ty, pos, after, some (j, want)⟩) (hB : firstB ops listed a i = true) (hd : DN d N) (hj : (ops[j]?).bind (·.dst) = some g) (hb : get env g = .bool c) (hc : (c == want) = false)
    (h : AAny P N B ops a C F fuel (listed.setIfInBounds i true) ((d, .tup []) :: env) H) : AAny P N B ops a C F (fuel + 1) listed env H :=
  aa_first i hi hB (by rintro _ ⟨⟩; exact hd) (.inr ⟨⟨g, hj, .inl ⟨c, hb, hc.symm⟩⟩, rfl⟩) h
theorem aqu {d j g : Nat} {want : Bool} (i : Nat) (hi : ops[i]? = some ⟨some d, op, ty, pos, after, some (j, want)⟩) (hB : firstB ops listed a i = true) (hd : DN d N) (hj : (ops[j]?).bind (·.dst) = some g) (hb : get env g = .tup [])
    (h : AAny P N B ops a C F fuel (listed.setIfInBounds i true) ((d, .tup []) :: env) H) : AAny P N B ops a C F (fuel + 1) listed env H :=
  aa_first i hi hB (by rintro _ ⟨⟩; exact hd) (.inr ⟨⟨g, hj, .inr ⟨hb, rfl⟩⟩, rfl⟩) h
theorem aq_split {g : Nat} {b : Bool} (hb : get env g = .bool b) (h1 : b = true → AAny P N B ops a C F fuel listed ((g, .bool true) :: env) H) (h2 : b = false → AAny P N B ops a C F fuel listed ((g, .bool false) :: env) H) : AAny P N B ops a C F fuel listed env H := by
  have key : Eqv ((g, AV.bool b) :: env) env := fun t => by
    by_cases e : g = t
    · subst e; rw [get_put_same, hb]
    · rw [get_put_other _ _ e]
  cases b
  · exact AAny.eqv _ _ _ _ _ key (h2 rfl)
  · exact AAny.eqv _ _ _ _ _ key (h1 rfl)
theorem aqs {dst : Option Nat} {H' : Heap} (i : Nat) (hi : ops[i]? = some ⟨dst, op, ty, pos, after, none⟩) (hr : (Region.ready .any ops listed == [i]) = true) (hC : Yet a listed → C H) (hd : ∀ t, dst = some t → DN t N)
    (h1 : V2 P N op ty (renv ⟨dst, op, ty, pos, after, none⟩ env) H v H') (h : AAny P N B ops a C F fuel (listed.setIfInBounds i true) (Av.put env dst v) H') : AAny P N B ops a C F (fuel + 1) listed env H :=
  aa_sole i hi hr hC hd rfl (h1 _ _ _ _) h
theorem aat {dst : Option Nat} {H' : Heap} {i : Nat} {K : Env → Heap → Prop} (hi : ops[i]? = some ⟨dst, op, ty, pos, after, none⟩) (hd : ∀ t, dst = some t → DN t N)
    (h1 : V2 P N op ty (renv ⟨dst, op, ty, pos, after, none⟩ env) H v H') (h : K (Av.put env dst v) H') : AAt P N ops i env H K :=
  ⟨_, hi, hd, .inl ⟨rfl, _, h1 _ _ _ _, by rintro _ _ ⟨rfl, rfl⟩; exact h⟩⟩
/-- What a bool slot holds is told. -/
theorem aa_outP {env : Env} {H : Heap} {listed : Array Bool} {fuel t : Nat} {v : AV} (hr : (Region.ready .any ops listed == []) = true) (hC : Yet a listed → C H) {E : Env} (hv : get env t = v) (hs : SubX t E env) (h : F ((t, v) :: E) H) : AAny P N B ops a C F fuel listed env H := by
  have hr' : Region.ready .any ops listed = [] := by simpa using hr
  have hf : AFin B F env H := ⟨(t, v) :: E, H, h, hs.sub hv, Fit.refl _ _⟩
  cases fuel with
  | zero => exact ⟨hC, hr', hf⟩
  | succ n => exact ⟨hC, fun _ => hf, fun j hj => by rw [hr'] at hj; cases hj⟩
end
end Go.Av

/-
  WHAT IS MADE, AND NEVER WRITTEN AGAIN, IS A LIST AT ONCE.
-/
namespace Go.Av

theorem str_eq (p q : ByteArray) : (p.toList == q.toList) = decide (p = q) := by
  rw [ByteArray.toList_eq, ByteArray.toList_eq, Bool.eq_iff_iff]
  simp
  constructor
  · intro h; cases p; cases q; simp_all
  · rintro rfl; rfl
theorem bytes_eq (p q : List UInt8) : decide ((⟨p.toArray⟩ : ByteArray) = ⟨q.toArray⟩) = decide (p = q) := by simp
theorem o_seqd {P : Program} {N : Nat} {env : Env} {H : Heap} {ty : TypeId} {x y : Operand} {t t' : TypeId} {p q : ByteArray} (hx : aev env x = .str p) (hy : aev env y = .str q) : V1 P N (.binOp .eql t x y t') ty env H (.bool (decide (p = q))) := str_eq p q ▸ o_seq hx hy
theorem o_sned {P : Program} {N : Nat} {env : Env} {H : Heap} {ty : TypeId} {x y : Operand} {t t' : TypeId} {p q : ByteArray} (hx : aev env x = .str p) (hy : aev env y = .str q) : V1 P N (.binOp .neq t x y t') ty env H (.bool (!decide (p = q))) := str_eq p q ▸ o_sne hx hy
theorem zadd {α : Type} {xs : List α} {k : Nat} {r : α} (h : xs[k]? = some r) : xs[0 + k]? = some r := by rw [Nat.zero_add]; exact h
/-- A slice with nothing in it, and no room, is an empty list. -/
def AV.up1 : AV → AV
  | .nsl => .pl []
  | v => v
def AV.up : AV → AV
  | .nsl => .pl []
  | .agg cs => .agg (cs.map AV.up1)
  | v => v
theorem VR.up1 {O : Nat → Prop} {w : World} {S : List Slot} {v : AV} {u : Value} (h : VR O w S v u) : VR O w S v.up1 u := by
  cases h with
  | nsl => exact .pl (xs := []) default 0 (fun _ _ => undef) (Nat.zero_le _) (fun h => absurd rfl h) (fun _ _ h => by simp at h) (fun _ h => by simp at h) (fun _ _ _ _ h => by simp at h) (fun _ _ _ _ h => by simp at h)
  | sl s hs hg h1 h => exact .sl s hs hg h1 h
  | pt s hs hg h1 h => exact .pt s hs hg h1 h
  | pl base sz u hc hb hs hm hl hv => exact .pl base sz u hc hb hs hm hl hv
  | pp base sz u hb hs hm hl hv => exact .pp base sz u hb hs hm hl hv
  | agg hn hl h => exact .agg hn hl h
  | tup hn h => exact .tup hn h
  | fn hp hq h1 h2 => exact .fn hp hq h1 h2
  | ifc h => exact .ifc h
  | know h1 h2 h3 h4 => exact .know h1 h2 h3 h4
  | _ => constructor
theorem AV.up1_leaf (v : AV) : v.up1.leaf = v.leaf := by cases v <;> rfl
theorem VR.up {O : Nat → Prop} {w : World} {S : List Slot} {v : AV} {u : Value} (h : VR O w S v u) : VR O w S v.up u := by
  cases h with
  | @agg _ cs vs hn hl h =>
    refine .agg (by simpa using hn) (fun j v hv => ?_) (fun j v u hv hu => ?_)
    · rw [List.getElem?_map] at hv
      cases hc : cs[j]? with
      | none => simp [hc] at hv
      | some c => simp [hc] at hv; subst hv; rw [AV.up1_leaf]; exact hl j c hc
    · rw [List.getElem?_map] at hv
      cases hc : cs[j]? with
      | none => simp [hc] at hv
      | some c => simp [hc] at hv; subst hv; exact (h j c u hc hu).up1
  | nsl => exact VR.nsl.up1
  | sl s hs hg h1 h => exact .sl s hs hg h1 h
  | pt s hs hg h1 h => exact .pt s hs hg h1 h
  | pl base sz u hc hb hs hm hl hv => exact .pl base sz u hc hb hs hm hl hv
  | pp base sz u hb hs hm hl hv => exact .pp base sz u hb hs hm hl hv
  | tup hn h => exact .tup hn h
  | fn hp hq h1 h2 => exact .fn hp hq h1 h2
  | ifc h => exact .ifc h
  | know h1 h2 h3 h4 => exact .know h1 h2 h3 h4
  | _ => constructor
def AObj.up (o : AObj) : AObj := { o with rows := o.rows.map (·.map AV.up1) }
theorem HRel.up {H : Heap} {S : List Slot} {w : World} (h : HRel H S w) {id : Nat} {o : AObj} (hid : H[id]? = some o) : HRel (H.set id o.up) S w := by
  refine ⟨by simpa using h.len, fun id' o' s' ho' hs' => ?_, h.inj⟩
  by_cases e : id = id'
  · subst e
    rw [List.getElem?_set_self (List.getElem?_eq_some_iff.1 hid).1] at ho'
    obtain rfl := Option.some.inj ho'
    have ok := h.obj id o s' hid hs'
    refine ⟨ok.gen, ok.sz, ok.pos, fun hn => by simp [AObj.up, ok.nope hn], fun b hb => ?_⟩
    obtain ⟨arr, ty, h1, h2, h3⟩ := ok.lies b hb
    refine ⟨arr, ty, h1, by simpa [AObj.up] using h2, fun i r hr => ?_⟩
    simp only [AObj.up, List.getElem?_map] at hr
    cases hc : o.rows[i]? with
    | none => simp [hc] at hr
    | some r0 =>
      simp [hc] at hr
      subst hr
      obtain ⟨k1, k2⟩ := h3 i r0 hc
      refine ⟨by simpa [AObj.up] using k1, fun j v hv => ?_⟩
      rw [List.getElem?_map] at hv
      cases hc2 : r0[j]? with
      | none => simp [hc2] at hv
      | some c =>
        simp [hc2] at hv
        subst hv
        obtain ⟨k3, u, k4, k5⟩ := k2 j c hc2
        exact ⟨by rw [AV.up1_leaf]; exact k3, u, k4, k5.up1⟩
  · rw [List.getElem?_set_ne e] at ho'
    exact h.obj id' o' s' ho' hs'
theorem aw_upL {P : Program} {N : Nat} {B : Base} {Q : Post} {env : Env} {H0 L : Heap} {c : Code} (k : Nat) {o : AObj} (hk : L[k]? = some o) (h : AWp P N B c Q env (H0 ++ L.set k o.up)) : AWp P N B c Q env (H0 ++ L) := fun S a w hc hb =>
  h S a w ⟨by have := hc.heap.up (lk (H0 := H0) rfl hk); rwa [st rfl] at this, hc.env, hc.size, hc.defers⟩ hb
theorem aw_up {P : Program} {N : Nat} {B : Base} {Q : Post} {env : Env} {H : Heap} {c : Code} (t : Nat) {v : AV} (ht : get env t = v) (h : AWp P N B c Q ((t, v.up) :: env) H) : AWp P N B c Q env H := fun S a w hc hb =>
  h S a w ⟨hc.heap, fun t' => by
    by_cases e : t = t'
    · subst e; rw [get_put_same, ← ht]; exact (hc.env t).up
    · rw [get_put_other _ _ e]; exact hc.env t', hc.size, hc.defers⟩ hb
theorem V1.up {P : Program} {N : Nat} {op : Op} {ty : TypeId} {env : Env} {H : Heap} {v : AV} (h : V1 P N op ty env H v) : V1 P N op ty env H v.up := fun S a w hc =>
  let ⟨u, h1, h2⟩ := h S a w hc
  ⟨u, h1, h2.up⟩

theorem fill_arr {S : List Slot} {w : World} (n sz : Nat) : ∀ (parts : List (Nat × AV)) (us : List (Nat × Value)) (cs cs' : List AV) (vs : Array Value),
    parts.length = us.length → (∀ (j : Nat) (x : Nat × AV) (y : Nat × Value), parts[j]? = some x → us[j]? = some y → x.1 = y.1 ∧ VR (own S) w S x.2 y.2) → CellsR S w cs vs → afill ((List.range n).map fun i => (i * sz, sz)) cs parts = some cs' →
    ∃ vs', Instr.fill (fun i => some (i * sz, sz)) vs us = some vs' ∧ CellsR S w cs' vs' := by
  intro parts
  induction parts with
  | nil =>
    intro us cs cs' vs hl _ h he
    cases us with
    | nil => simp [afill] at he; subst he; exact ⟨vs, rfl, h⟩
    | cons y us => simp at hl
  | cons x parts ih =>
    intro us cs cs' vs hl hr h he
    cases us with
    | nil => simp at hl
    | cons y us =>
      obtain ⟨i, v⟩ := x
      obtain ⟨i', u⟩ := y
      obtain ⟨hi, hv⟩ := hr 0 _ _ rfl rfl
      simp only at hi hv
      subst hi
      unfold afill at he
      cases hpl : ((List.range n).map fun i => (i * sz, sz))[i]? with
      | none => rw [hpl] at he; cases he
      | some x =>
        have hx : x = (i * sz, sz) := by
          rw [List.getElem?_map] at hpl
          cases hi : (List.range n)[i]? with
          | none => simp [hi] at hpl
          | some k =>
            have hk : k = i := by
              have := List.getElem?_eq_some_iff.1 hi
              obtain ⟨hlt, e⟩ := this
              simpa using e.symm
            rw [hi] at hpl
            subst hk
            exact (Option.some.inj hpl).symm
        subst hx
        rw [hpl] at he
        simp only at he
        split at he
        · rename_i hcnd
          obtain ⟨c1, c2, c3⟩ := hcnd
          obtain ⟨k1, _, k3⟩ := hv.cells c3
          have hput := h.put ⟨k1, k3⟩ (off := i * sz) (by omega)
          rw [c1] at hput
          obtain ⟨vs', e1, e2⟩ := ih us _ cs' _ (by simpa using hl) (fun j x y hx hy => hr (j + 1) x y hx hy) hput he
          refine ⟨vs', ?_, e2⟩
          have hif : (decide (u.cells.size ≠ sz) || decide (i * sz + u.cells.size > vs.size)) = false := by
            have := h.1
            simp
            omega
          unfold Instr.fill
          simp only [hif, Bool.false_eq_true, if_false]
          exact e1
        · cases he
theorem o_buildArr {P : Program} {N : Nat} {env : Env} {H : Heap} {ty t e : TypeId} {n sz : Nat} {agg : Bool} {parts : Array (Nat × Operand)} {zs cs : List AV} [hz : ZcI P t zs] [ha : ArI P t n e] [TyI P e agg sz] (hf : afill ((List.range n).map fun i => (i * sz, sz)) zs (parts.toList.map fun (i, x) => (i, aev env x)) = some cs) :
    V1 P N (.build t parts) ty env H (.agg cs) := by
  intro S a w hc
  obtain ⟨z, hz1, hz2⟩ := run_zc (P := P) (t := t) S w
  obtain ⟨h1, h2⟩ := parts_ok hc parts
  obtain ⟨vs', e1, e2⟩ := fill_arr (S := S) (w := w) n sz _ _ zs cs z.cells h1 h2 hz2 hf
  refine ⟨.agg vs', fun _ _ _ _ => ?_, e2.agg⟩
  simp only [execOp, Instr.build, Sem.run_bind, hz1, Result.andThen_ok, run_und ha.ud, run_sz (P := P) (t := e) (agg := agg) (sz := sz), e1, Sem.run_pure]


/-- A constant text's bytes: they are read, and never written. -/
theorem ao_litb {P : Program} {N : Nat} {B : Base} {Q : Post} {env : Env} {H : Heap} {ops : Array Oper} {rest : List Oper} {t e : TypeId} {n d1 d2 : Nat} {parts : Array (Nat × Operand)} {ty1 ty2 : TypeId} {pos1 pos2 : String} {after1 after2 : Array Edge} {zs cs : List AV} (bs : List UInt8)
    [hu : SlI P t e] [hue : UdI P e (.int .u8)] [TyI P e false 1] [hz : ZcI P e zs] (hn : zs.length = 1) (h0 : 0 < n) (hbig : n ≤ 16777216)
    (hf : afill ((List.range n).map fun i => (i * 1, 1)) (List.replicate n zs).flatten (parts.toList.map fun (i, x) => (i, aev env x)) = some cs) (hcs : cs = bs.map fun b => .int .u8 (b.toNat : Int)) (hd1 : d1 < N) (hd2 : d2 < N)
    (h : AOps P N B ops rest Q ((d2, .pl (bs.map brow)) :: (d1, .junk) :: env) H) :
    AOps P N B ops (⟨some d1, .buildSlice t n parts, ty1, pos1, after1, none⟩ :: ⟨some d2, .convert t t (.tmp d1), ty2, pos2, after2, none⟩ :: rest) Q env H := by
  intro S a w hc hb
  obtain ⟨z, hz1, hz2⟩ := run_zc (P := P) (t := e) S w
  obtain ⟨h1, h2⟩ := parts_ok hc parts
  have hrep := hz2.rep (by omega) n
  rw [hn] at hrep
  obtain ⟨vs', e1, e2⟩ := fill_arr (S := S) (w := w) n 1 _ _ (List.replicate n zs).flatten cs _ h1 h2 hrep hf
  have hlen : cs.length = vs'.size := e2.1
  have hcl : cs.length = n := by
    have hfl : ∀ (parts : List (Nat × AV)) (cs cs' : List AV), afill ((List.range n).map fun i => (i * 1, 1)) cs parts = some cs' → cs'.length = cs.length := by
      intro parts
      induction parts with
      | nil => intro cs cs' he; simp [afill] at he; rw [he]
      | cons x parts ih =>
        intro cs cs' he
        obtain ⟨i, v⟩ := x
        unfold afill at he
        split at he
        · cases he
        · split at he
          · rename_i hcnd
            have := ih _ _ he
            rw [this]
            simp
            omega
          · cases he
    have := hfl _ _ _ hf
    have h3 : ((List.replicate n zs).flatten).length = n := by simp [hn]
    rw [this, h3]
  have hbl : bs.length = n := by rw [← hcl, hcs]; simp
  have hr1 : ∀ pos after, (execOp a.eval ⟨some d1, .buildSlice t n parts, ty1, pos, after, none⟩).run P w = .ok (.value (.slice (some ⟨w.heap.size, 0, none⟩) n n)) (w.alloc (.cells vs' e)) := by
    intro pos after
    have hne : ¬ (n * 1 = 0) := by omega
    have hnb : ¬ (n * 1 > 2 ^ 24) := by omega
    simp only [execOp, Instr.buildSlice, Sem.run_bind, run_und hu.ud, Result.andThen_ok, run_sz (P := P) (t := e) (agg := false) (sz := 1), hnb, hne, if_false, hz1, Sem.run_pure, e1]
    simp [newRow]
  refine wpList_plain rfl fun next hnext => ?_
  unfold Oper.wp
  rw [hr1]
  refine hnext _ _ ?_
  refine wpList_plain rfl fun next2 hnext2 => ?_
  have hev : (a.put (some d1) (.slice (some ⟨w.heap.size, 0, none⟩) n n)).eval (.tmp d1) = .slice (some ⟨w.heap.size, 0, none⟩) n n := by
    simp [Act.eval, Act.put, hc.size, hd1]
  have hr2 : (execOp (a.put (some d1) (.slice (some ⟨w.heap.size, 0, none⟩) n n)).eval ⟨some d2, .convert t t (.tmp d1), ty2, pos2, after2, none⟩).run P (w.alloc (.cells vs' e)) = .ok (.value (.slice (some ⟨w.heap.size, 0, none⟩) n n)) (w.alloc (.cells vs' e (vs'.size, vs'.size + 1))) := by
    have := Lib.run_convert_bytes_const (P := P) w t e vs' n n hu.ud hue.ud
    simp only [execOp, hev, Sem.run_bind, this, Result.andThen_ok, Sem.run_pure]
  unfold Oper.wp
  rw [hr2]
  refine hnext2 _ _ ?_
  have hold : ∀ b, b < w.heap.size → (w.alloc (.cells vs' e (vs'.size, vs'.size + 1))).heap[b]? = w.heap[b]? := fun b hb => (by first | exact heap_alloc_old w _ b hb | exact heap_alloc_old w _ hb)
  have hx : Ext S w S (w.alloc (.cells vs' e (vs'.size, vs'.size + 1))) := ⟨rfl, rfl, rfl, ⟨by simp, fun b hb ho => ⟨ho, hold b hb⟩, fun b arr ty hb' => ⟨arr, by rw [hold b (Array.getElem?_eq_some_iff.1 hb').1]; exact hb', rfl⟩⟩, SExt.refl S⟩
  have hh := same_heap hc.heap hx hold
  have c1 := hc.put (d := some d1) (v := .junk) (u := .slice (some ⟨w.heap.size, 0, none⟩) n n) hx hh (by rintro _ ⟨⟩; exact hd1) .junk
  have hv : VR (own S) (w.alloc (.cells vs' e (vs'.size, vs'.size + 1))) S (.pl (bs.map brow)) (.slice (some ⟨w.heap.size, 0, none⟩) n n) := by
    have key : ∀ i (hi : i < bs.length), vs'[i]? = some (.int .u8 (bs[i].toNat : Int)) := by
      intro i hi
      have h3 : cs[i]? = some (.int .u8 (bs[i].toNat : Int)) := by rw [hcs, List.getElem?_map, List.getElem?_eq_getElem hi]; rfl
      obtain ⟨_, u, h4, h5⟩ := e2.2 i _ h3
      cases h5
      exact h4
    have hl2 : (bs.map brow).length = n := by simp [hbl]
    rw [← hl2]
    refine .pl ⟨w.heap.size, 0, none⟩ 1 (fun i _ => vs'.getD i undef) (Nat.le_refl _) (fun _ => ⟨rfl, fun ho => absurd (own_lt hc.heap ho) (Nat.lt_irrefl _), by simp⟩) (fun i r hr => ?_) (fun i hi j hj => ?_) (fun i j r v hr hv => ?_) (fun i j r v hr hv => ?_)
    · rw [List.getElem?_map] at hr
      cases hq : bs[i]? with
      | none => simp [hq] at hr
      | some b => simp [hq] at hr; subst hr; rfl
    · obtain rfl : j = 0 := by omega
      have hi' : i < bs.length := by simpa using hi
      have hk := key i hi'
      rw [Nat.mul_one, Nat.add_zero, add_none, Nat.zero_add]
      simp only [World.cell?, World.alloc, Array.getElem?_push, if_true, hk]
      simp [hk]
    · rw [List.getElem?_map] at hr
      cases hq : bs[i]? with
      | none => simp [hq] at hr
      | some b =>
        simp [hq] at hr; subst hr
        cases j with
        | zero => simp [brow] at hv; subst hv; rfl
        | succ j => simp [brow] at hv
    · rw [List.getElem?_map] at hr
      cases hq : bs[i]? with
      | none => simp [hq] at hr
      | some b =>
        simp [hq] at hr; subst hr
        cases j with
        | zero =>
          simp [brow] at hv; subst hv
          obtain ⟨hi, rfl⟩ := List.getElem?_eq_some_iff.1 hq
          simp only [Array.getD_eq_getD_getElem?, key i hi, Option.getD_some]
          exact .int
        | succ j => simp [brow] at hv
  have c2 := c1.put (Ext.refl S _) hh (d := some d2) (by rintro _ ⟨⟩; exact hd2) hv
  exact h S _ _ c2 (hb.trans hx)

theorem vfreeze {H : Heap} {S S' : List Slot} {w w' : World} {o : AObj} {off len cap : Nat} {ys : List (List AV)} {u : Value} (h0 : HRel H S w) (hx : Ext S w S' w') (hh : HRel (H ++ [o]) S' w')
    (hv : VR (own S') w' S' (.sl H.length o.gen off len cap) u) (hys : (o.rows.drop off).take len = ys) (hlen : ys.length = len) (hp : ∀ r ∈ ys, AV.bels 0 r = true) :
    ∃ S'', HRel H S'' w' ∧ Ext S w S'' w' ∧ VR (own S'') w' S'' (.pl ys) u := by
  let a : Act := { tmps := #[u], defers := [] }
  have hc : CR 1 [(0, .sl H.length o.gen off len cap)] (H ++ [o]) S' a w' := ⟨hh, fun t => by
    cases t with
    | zero => exact hv
    | succ t => exact .junk, rfl, rfl⟩
  obtain ⟨S2, h2, x2⟩ := hc.freeze (B := ⟨S, w⟩) (t := 0) (id := H.length) (cap := cap) (o := o) hx rfl (by simp) hys hlen hp
  have h3 := h2.sub (E := [(0, .pl ys)]) (Sub.cons rfl Sub.nil)
  rw [List.set_append_right _ _ (Nat.le_refl _)] at h3
  simp only [Nat.sub_self, List.set_cons_zero] at h3
  have hb : (AV.pl ys).bel H.length = true := by
    exact rfl
  obtain ⟨S4, h4, x4⟩ := h3.fit (B := ⟨S, w⟩) (M := H) x2 (.inr ⟨[⟨o.gen + 1, o.sz, []⟩], rfl, by rw [h0.len]; exact Nat.le_refl _, EBel.cons hb EBel.nil, h0.bel⟩)
  exact ⟨S4, h4.heap, x4, h4.env 0⟩

theorem vbump {H : Heap} {S S' : List Slot} {w w' : World} {id len cap m : Nat} (hm : m ≤ max cap len) {o : AObj} {u : Value} (hx : Ext S w S' w') (hh : HRel H S' w') (hid : H[id]? = some o)
    (hv : VR (own S') w' S' (.sl id o.gen 0 len cap) u) :
    ∃ S'', HRel (H.set id ⟨o.gen + 1, o.sz, o.rows.take len⟩) S'' w' ∧ Ext S w S'' w' ∧ VR (own S'') w' S'' (.sl id (o.gen + 1) 0 len m) u := by
  obtain ⟨s, hs, ok⟩ := hh.slot hid
  have hlt : id < S'.length := (List.getElem?_eq_some_iff.1 hs).1
  have hltH : id < H.length := (List.getElem?_eq_some_iff.1 hid).1
  have hown : ∀ b, own (S'.set id ⟨s.gen + 1, s.sz, s.place⟩) b ↔ own S' b := by
    intro b
    constructor
    · rintro ⟨i, si, hi, hpi⟩
      by_cases e : id = i
      · subst e
        rw [List.getElem?_set_self hlt] at hi
        obtain rfl := Option.some.inj hi
        exact ⟨id, s, hs, hpi⟩
      · rw [List.getElem?_set_ne e] at hi
        exact ⟨i, si, hi, hpi⟩
    · rintro ⟨i, si, hi, hpi⟩
      by_cases e : id = i
      · subst e
        rw [hs] at hi
        obtain rfl := Option.some.inj hi
        exact ⟨id, _, List.getElem?_set_self hlt, hpi⟩
      · exact ⟨i, si, by rw [List.getElem?_set_ne e]; exact hi, hpi⟩
  have hx2 : Ext S' w' (S'.set id ⟨s.gen + 1, s.sz, s.place⟩) w' := ⟨rfl, rfl, rfl, ⟨Nat.le_refl _, fun b _ ho => ⟨fun k => ho ((hown b).1 k), rfl⟩, fun _ arr _ h => ⟨arr, h, rfl⟩⟩, SExt.bump hs (by simp)⟩
  have hh2 : HRel (H.set id ⟨o.gen + 1, o.sz, o.rows.take len⟩) (S'.set id ⟨s.gen + 1, s.sz, s.place⟩) w' := by
    refine ⟨by simpa using hh.len, fun id' o' s' ho' hs' => ?_, fun i j si sj b hi hj hbi hbj => ?_⟩
    · by_cases e : id = id'
      · subst e
        rw [List.getElem?_set_self hlt] at hs'
        rw [List.getElem?_set_self hltH] at ho'
        obtain rfl := Option.some.inj hs'
        obtain rfl := Option.some.inj ho'
        refine ⟨by simp [ok.gen], ok.sz, ok.pos, fun hn => by simp [ok.nope hn], fun b hb => ?_⟩
        obtain ⟨arr, ty', h1, h2⟩ := ok.row hb
        have h2' := h2.mono hx2.stp hx2.slots
        refine ⟨arr, ty', h1, Nat.le_trans (Nat.mul_le_mul_right _ (by simp; omega)) h2'.1, fun i r hr => h2'.2 i r ?_⟩
        rw [List.getElem?_take] at hr
        split at hr
        · exact hr
        · cases hr
      · rw [List.getElem?_set_ne e] at ho' hs'
        have ok' := hh.obj id' o' s' ho' hs'
        refine ⟨ok'.gen, ok'.sz, ok'.pos, ok'.nope, fun b hb => ?_⟩
        obtain ⟨arr, ty', h1, h2⟩ := ok'.row hb
        exact ⟨arr, ty', h1, (h2.mono hx2.stp hx2.slots).1, (h2.mono hx2.stp hx2.slots).2⟩
    · have key : ∀ {i : Nat} {si : Slot}, (S'.set id ⟨s.gen + 1, s.sz, s.place⟩)[i]? = some si → ∃ ti : Slot, S'[i]? = some ti ∧ ti.place = si.place := by
        intro i si h
        by_cases e : id = i
        · subst e
          rw [List.getElem?_set_self hlt] at h
          obtain rfl := Option.some.inj h
          exact ⟨s, hs, rfl⟩
        · rw [List.getElem?_set_ne e] at h
          exact ⟨si, h, rfl⟩
      obtain ⟨ti, hti, hpi⟩ := key hi
      obtain ⟨tj, htj, hpj⟩ := key hj
      exact hh.inj i j ti tj b hti htj (hpi.trans hbi) (hpj.trans hbj)
  refine ⟨_, hh2, hx.trans hx2, ?_⟩
  cases hv with
  | sl s' hs' hg h1 hsl =>
    rw [hs] at hs'
    obtain rfl := Option.some.inj hs'
    refine .sl ⟨s.gen + 1, s.sz, s.place⟩ (List.getElem?_set_self hlt) (by simp [ok.gen]) h1 fun _ => ?_
    obtain ⟨c, hc1, hc2, hsl⟩ := hsl ok.gen.symm
    exact ⟨c, by omega, hc2, hsl⟩

theorem VRs.up {O : Nat → Prop} {w : World} {S : List Slot} {vs : List AV} {us : Array Value} (h : VRs O w S vs us) : VRs O w S (vs.map AV.up) us := by
  refine ⟨by simpa using h.1, fun i v u hv hu => ?_⟩
  rw [List.getElem?_map] at hv
  cases hc : vs[i]? with
  | none => simp [hc] at hv
  | some c => simp [hc] at hv; subst hv; exact (h.2 i c u hc hu).up
theorem AC.up {P : Program} {f : FuncId} {vs us : List AV} {H : Heap} {R : AOut → Heap → Prop} (h : AC P f us H R) (hvs : vs.map AV.up = us) : AC P f vs H R := fun S w cargs hH hv => h S w cargs hH (hvs ▸ hv.up)

section
variable {P : Program} {N : Nat} {B : Base} {env : Env} {H H0 L : Heap} {op : Op} {ty : TypeId}
theorem V2.freeze {o : AObj} {g off len cap : Nat} {ys : List (List AV)} (h : V2 P N op ty env H (.sl H.length g off len cap) (H ++ [o])) (hg : o.gen = g) (hys : (o.rows.drop off).take len = ys) (hlen : ys.length = len) (hp : ∀ r ∈ ys, AV.bels 0 r = true) :
    V2 P N op ty env H (.pl ys) H := by
  subst hg
  intro dst pos after guard S a w hc next Q hn hq
  refine h dst pos after guard S a w hc next Q ?_ (fun _ _ _ _ _ hf => hf.elim)
  rintro v u H' S' w' ⟨rfl, rfl⟩ hh hx hv
  obtain ⟨S2, h2, x2, v2⟩ := vfreeze hc.heap hx hh hv hys hlen hp
  exact hn _ _ _ S2 w' ⟨rfl, rfl⟩ h2 x2 v2
theorem V2.freeze1 {o : AObj} {g len cap : Nat} (h : V2 P N op ty env H (.sl H.length g 0 len cap) (H ++ [o])) (hg : o.gen = g) (hlen : o.rows.length = len) (hp : ∀ r ∈ o.rows, AV.bels 0 r = true) :
    V2 P N op ty env H (.pl o.rows) H := h.freeze hg (by rw [List.drop_zero, ← hlen, List.take_length]) hlen hp
theorem V2.freezeL {o : AObj} {g k len cap : Nat} (h : V2 P N op ty env (H0 ++ L) (.sl (Lid H0.length k) g 0 len cap) (H0 ++ (L ++ [o]))) (hk : L.length = k) (hg : o.gen = g) (hlen : o.rows.length = len) (hp : ∀ r ∈ o.rows, AV.bels 0 r = true) :
    V2 P N op ty env (H0 ++ L) (.pl o.rows) (H0 ++ L) := by
  rw [← Lid_app hk, ← List.append_assoc] at h
  exact V2.freeze1 (g := g) (len := len) (cap := cap) (by simpa [Lid] using h) hg hlen hp
/-- A nil slice, or one with no room, is an empty list. -/
theorem V2.nslpl (h : V2 P N op ty env H .nsl H) : V2 P N op ty env H (.pl []) H := by
  intro dst pos after guard S a w hc next Q hn hq
  refine h dst pos after guard S a w hc next Q ?_ (fun _ _ _ _ _ hf => hf.elim)
  rintro v u H' S' w' ⟨rfl, rfl⟩ hh hx hv
  refine hn _ _ _ S' w' ⟨rfl, rfl⟩ hh hx ?_
  cases hv with
  | @nsl _ ad => exact .pl (xs := []) default 0 (fun _ _ => undef) (Nat.zero_le _) (fun h => absurd rfl h) (fun _ _ h => by simp at h) (fun _ h => by simp at h) (fun _ _ _ _ h => by simp at h) (fun _ _ _ _ h => by simp at h)

theorem V2.ghost (h : V2 P N op ty env H .nsl H) (sz : Nat) (hp : 0 < sz) : V2 P N op ty env H (.sl H.length 0 0 0 0) (H ++ [⟨0, sz, []⟩]) := by
  intro dst pos after guard S a w hc next Q hn hq
  refine h dst pos after guard S a w hc next Q ?_ (fun _ _ _ _ _ hf => hf.elim)
  rintro v u H' S' w' ⟨rfl, rfl⟩ hh hx hv
  have hc1 : CR 1 [(0, .nsl)] H' S' { tmps := #[u], defers := [] } w' := ⟨hh, fun t => by
    cases t with
    | zero => exact hv
    | succ t => exact .junk, rfl, rfl⟩
  obtain ⟨S2, h2, x2⟩ := hc1.ghost (B := ⟨S, w⟩) (t := 0) hx rfl hp
  exact hn _ _ _ S2 w' ⟨rfl, rfl⟩ h2.heap x2 (h2.env 0)
theorem V2.bump {id len cap m : Nat} {o : AObj} (hm : m ≤ max cap len) (h : V2 P N op ty env H (.sl id o.gen 0 len cap) H) (hid : H[id]? = some o) : V2 P N op ty env H (.sl id (o.gen + 1) 0 len m) (H.set id ⟨o.gen + 1, o.sz, o.rows.take len⟩) := by
  intro dst pos after guard S a w hc next Q hn hq
  refine h dst pos after guard S a w hc next Q ?_ (fun _ _ _ _ _ hf => hf.elim)
  rintro v u H' S' w' ⟨rfl, rfl⟩ hh hx hv
  obtain ⟨S2, h2, x2, v2⟩ := vbump hm hx hh hid hv
  exact hn _ _ _ S2 w' ⟨rfl, rfl⟩ h2 x2 v2

/-- Append to a slice with nothing in it, and no room: a row of the call's own, whatever comes. -/
theorem g_append_nsl {t t' e : TypeId} {x y : Operand} {sz bytes k : Nat} {agg : Bool} {zs : List AV} {ys : List (List AV)} [hu : SlI P t e] [NiI P t'] [TyI P e agg sz] [hz : ZcI P e zs] [ByI P e bytes]
    (hx : aev env x = .nsl) (hy : Src P N env (H0 ++ L) y sz ys) (hn : zs.length = sz) (hp : 0 < sz) (h63 : ys.length ≤ 9223372036854775807) (hb : ys.length * bytes ≤ 140737488355328) (hk : L.length = k) :
    V2 P N (.call { callee := .builtin .append, args := #[x, y], argTypes := #[t, t'] }) ty env (H0 ++ L) (.sl (Lid H0.length k) 0 0 ys.length ys.length) (H0 ++ (L ++ [⟨0, sz, ys⟩])) := by
  rcases Nat.eq_zero_or_pos ys.length with h0 | h0
  · have : ys = [] := List.eq_nil_of_length_eq_zero h0
    subst this
    have := (o_append_nsl0 (P := P) (N := N) (env := env) (H := H0 ++ L) (ty := ty) (t := t) (t' := t') (e := e) (agg := agg) (sz := sz) hx hy).ghost sz hp
    rw [List.length_append, hk, List.append_assoc] at this
    exact this
  · exact o_append_nslL (agg := agg) (e := e) (zs := zs) hn hp hx hy h0 h63 hb hk
/-- Append to a row of the call's own, whatever comes. -/
theorem g_append {t t' e : TypeId} {x y : Operand} {n k g len cap sz bytes : Nat} {agg : Bool} {zs : List AV} {o : AObj} {ys : List (List AV)} [hu : SlI P t e] [NiI P t'] [TyI P e agg sz] [hz : ZcI P e zs] [ByI P e bytes]
    (hx : aev env x = .sl (Lid n k) g 0 len cap) (hn : H0.length = n) (hk : L[k]? = some o) (hg : o.gen = g) (hsz : o.sz = sz) (hy : Src P N env (H0 ++ L) y sz ys) (hz' : zs.length = sz) (hlen : len ≤ o.rows.length) (h63 : len + ys.length ≤ 9223372036854775807) (hb : (len + ys.length) * bytes ≤ 140737488355328) :
    V2 P N (.call { callee := .builtin .append, args := #[x, y], argTypes := #[t, t'] }) ty env (H0 ++ L) (.sl (Lid n k) (g + 1) 0 (len + ys.length) (len + ys.length)) (H0 ++ L.set k ⟨g + 1, o.sz, o.rows.take len ++ ys⟩) := by
  rcases Nat.eq_zero_or_pos ys.length with h0 | h0
  · have : ys = [] := List.eq_nil_of_length_eq_zero h0
    subst this
    subst hg
    have := (o_append0 (P := P) (N := N) (env := env) (H := H0 ++ L) (ty := ty) (t := t) (t' := t') (e := e) (agg := agg) (sz := sz) hx (lk hn hk) hy).bump (m := len) (by omega) (lk hn hk)
    rw [st hn] at this
    simpa using this
  · exact w_append (agg := agg) (e := e) (zs := zs) hx hn hk hg hsz hy hz' hlen h0 h63 hb
/-- Cleared: what was known of the row from there on is let go. -/
theorem o_clear {t e : TypeId} {x : Operand} {id off len cap sz : Nat} {agg : Bool} {zs : List AV} {o : AObj} [hu : SlI P t e] [TyI P e agg sz] [hz : ZcI P e zs] (hx : aev env x = .sl id o.gen off len cap) (hid : H[id]? = some o) (hsz : o.sz = sz) (hn : zs.length = sz) :
    V2 P N (.call { callee := .builtin .clear, args := #[x], argTypes := #[t] }) ty env H (.tup []) (H.set id { o with rows := o.rows.take off }) := by
  intro dst pos after guard S a w hc next Q hnext _
  obtain ⟨s, c, hsl, ok, hcc, hlc, h⟩ := hc.slc hx hid
  have hlt : id < S.length := (List.getElem?_eq_some_iff.1 hsl).1
  obtain ⟨z, hz1, hz2⟩ := run_zc (P := P) (t := e) S w
  have key : ∀ w1, (Builtin.clear_ #[t] ty #[a.eval x]).run P w = .ok (.tuple #[]) w1 → (∃ H', (H' = H.set id { o with rows := o.rows.take off }) ∧ HRel H' S w1 ∧ Ext S w S w1) → Oper.wp P ⟨dst, .call { callee := .builtin .clear, args := #[x], argTypes := #[t] }, ty, pos, after, guard⟩ a w next Q := by
    rintro w1 hr ⟨H', rfl, hh, hx'⟩
    have hrun : (execOp a.eval ⟨dst, .call { callee := .builtin .clear, args := #[x], argTypes := #[t] }, ty, pos, after, guard⟩).run P w = .ok (.value (.tuple #[])) w1 := by
      simp [execOp, resolve, invoke, builtin, hr]
    unfold Oper.wp
    rw [hrun]
    exact hnext _ _ _ _ _ ⟨rfl, rfl⟩ hh hx' undef_ok
  have take_hrel : ∀ (hnil : o.rows.take off = o.rows ∨ s.place = none ∨ True), HRel (H.set id { o with rows := o.rows.take off }) S w := by
    intro _
    refine ⟨by simpa using hc.heap.len, fun id' o' s' ho' hs' => ?_, hc.heap.inj⟩
    by_cases e : id = id'
    · subst e
      rw [List.getElem?_set_self (List.getElem?_eq_some_iff.1 hid).1] at ho'
      obtain rfl := Option.some.inj ho'
      rw [hsl] at hs'
      obtain rfl := Option.some.inj hs'
      refine ⟨ok.gen, ok.sz, ok.pos, fun hn => by simp [ok.nope hn], fun b hb => ?_⟩
      obtain ⟨arr, ty', h1, h2⟩ := ok.row hb
      refine ⟨arr, ty', h1, Nat.le_trans (Nat.mul_le_mul_right _ (by simp; omega)) h2.1, fun i r hr => h2.2 i r ?_⟩
      rw [List.getElem?_take] at hr
      split at hr
      · exact hr
      · cases hr
    · rw [List.getElem?_set_ne e] at ho'
      exact hc.heap.obj id' o' s' ho' hs'
  rcases h with ⟨h0, ad, he⟩ | ⟨b, arr, et, hp, he, hbl, hfit, hrow⟩
  · refine key w ?_ ⟨_, rfl, take_hrel (.inr (.inr trivial)), Ext.refl S w⟩
    rw [he]
    cases ad <;> simp [Builtin.clear_, run_und hu.ud]
  · rcases Nat.eq_zero_or_pos len with h0 | h0
    · subst h0
      refine key w ?_ ⟨_, rfl, take_hrel (.inr (.inr trivial)), Ext.refl S w⟩
      rw [he]
      simp [Builtin.clear_, run_und hu.ud]
    · have hzn : z.cells.size = sz := by
        have := hz2.1
        omega
      have hvs : (Builtin.zeroCells z.cells len).toList.length = len * sz := by rw [Array.length_toList, size_zeroCells, hzn]
      have hfit2 : off * o.sz + (Builtin.zeroCells z.cells len).toList.length ≤ arr.size := by
        rw [hvs, hsz, ← Nat.add_mul]
        rw [hsz] at hfit
        exact Nat.le_trans (Nat.mul_le_mul_right _ (by omega)) hfit
      have hone : ∀ v ∈ (Builtin.zeroCells z.cells len).toList, v.oneCell' = true := by
        intro v hv
        obtain ⟨i, hi⟩ := List.mem_iff_getElem?.1 hv
        rw [Array.getElem?_toList] at hi
        have hi2 := (Array.getElem?_eq_some_iff.1 hi).1
        have hpos : 0 < z.cells.size := by
          rcases Nat.eq_zero_or_pos z.cells.size with e | e
          · rw [size_zeroCells, e] at hi2; simp at hi2
          · exact e
        have hm : i % z.cells.size < z.cells.size := Nat.mod_lt _ hpos
        have hv2 : v = z.cells[i % z.cells.size] := by
          have := (Array.getElem?_eq_some_iff.1 hi).2
          rw [← this]
          simp [Builtin.zeroCells, hm]
        have hj : i % z.cells.size < zs.length := by rw [hn, ← hzn]; exact hm
        obtain ⟨h1, u, h2, h3⟩ := hz2.2 _ _ (List.getElem?_eq_getElem hj)
        rw [Array.getElem?_eq_getElem hm] at h2
        rw [hv2, Option.some.inj h2]
        exact h3.one h1
      have hst := run_storeCells_at P b (off * o.sz) et (Builtin.zeroCells z.cells len).toList 0 arr w hbl (by simpa using hfit2) hone
      simp only [Nat.add_zero] at hst
      have hw := hc.heap.write (rows' := o.rows.take off) (arr' := (arr.toList.take (off * o.sz) ++ (Builtin.zeroCells z.cells len).toList ++ arr.toList.drop (off * o.sz + (Builtin.zeroCells z.cells len).toList.length)).toArray) hid hsl hp hbl (by simp only [List.size_toArray, List.length_append, List.length_take, List.length_drop, Array.length_toList] at *; omega) ?_
      · refine key _ ?_ ⟨_, rfl, hw.1, hw.2⟩
        rw [he]
        have hl : ∃ m, len = m + 1 := ⟨len - 1, by omega⟩
        obtain ⟨m, rfl⟩ := hl
        simp [Builtin.clear_, run_und hu.ud, hz1, hst]
      · refine ⟨?_, fun i r hr => ?_⟩
        · have := hrow.1
          have h2 : (o.rows.take off).length * o.sz ≤ o.rows.length * o.sz := Nat.mul_le_mul_right _ (by simp; omega)
          simp only [List.size_toArray, List.length_append, List.length_take, List.length_drop, Array.length_toList] at *
          omega
        · have hi : i < off := by
            have := (List.getElem?_eq_some_iff.1 hr).1
            simp at this; omega
          have hr' : o.rows[i]? = some r := by
            rw [List.getElem?_take, if_pos hi] at hr; exact hr
          obtain ⟨k1, k2⟩ := hrow.2 i r hr'
          refine ⟨k1, fun j v hv => ?_⟩
          obtain ⟨k3, u, k4, k5⟩ := k2 j v hv
          have hj : j < o.sz := by rw [← k1]; exact (List.getElem?_eq_some_iff.1 hv).1
          have hlt2 : i * o.sz + j < off * o.sz := by
            have : (i + 1) * o.sz ≤ off * o.sz := Nat.mul_le_mul_right _ hi
            rw [Nat.succ_mul] at this
            omega
          refine ⟨k3, u, ?_, k5⟩
          have hlt3 : i * o.sz + j < arr.size := (Array.getElem?_eq_some_iff.1 k4).1
          rw [List.getElem?_toArray, List.append_assoc, List.getElem?_append_left (by simp; omega), List.getElem?_take, if_pos hlt2, Array.getElem?_toList]
          exact k4
/-- A literal that is never written again. -/
theorem g_lit1 {t e : TypeId} {sz : Nat} {x : Operand} {v : AV} {agg : Bool} {zs cs : List AV} [hu : SlI P t e] [TyI P e agg sz] [hz : ZcI P e zs] (hn : zs.length = sz) (hp : 0 < sz) (hbig : sz ≤ 16777216) (hx : aev env x = v) (hv : v.cellish = true) (hcs : v.cells = cs) (hl : cs.length = sz) (hb : AV.bels 0 cs = true) :
    V2 P N (.buildSlice t 1 #[(0, x)]) ty env H (.pl [cs]) H := by
  have h1 := o_buildSlice1L (P := P) (N := N) (env := env) (H0 := H) (L := []) (ty := ty) (t := t) (e := e) (agg := agg) (zs := zs) hn hp hbig hx hv hcs hl rfl
  have := V2.freezeL (L := []) h1 rfl rfl rfl (by intro r hr; simp only [List.mem_singleton] at hr; subst hr; exact hb)
  simpa using this
theorem w_clear {t e : TypeId} {x : Operand} {n k g off len cap sz : Nat} {agg : Bool} {zs : List AV} {o : AObj} [hu : SlI P t e] [TyI P e agg sz] [hz : ZcI P e zs] (hx : aev env x = .sl (Lid n k) g off len cap) (hn : H0.length = n) (hk : L[k]? = some o) (hg : o.gen = g) (hsz : o.sz = sz) (hz' : zs.length = sz) :
    V2 P N (.call { callee := .builtin .clear, args := #[x], argTypes := #[t] }) ty env (H0 ++ L) (.tup []) (H0 ++ L.set k { o with rows := o.rows.take off }) := by
  subst hg
  have := o_clear (P := P) (N := N) (env := env) (H := H0 ++ L) (ty := ty) (t := t) (e := e) (agg := agg) (zs := zs) hx (lk hn hk) hsz hz'
  rwa [st hn] at this
/-- A cut with its room. -/
theorem o_slices3 {t e : TypeId} {x hi mx : Operand} {lo : Option Operand} {k k' : IntKind} {id g off len cap l h m sz : Nat} {agg : Bool} {o : AObj} [hu : SlI P t e] [TyI P e agg sz] (hx : aev env x = .sl id g off len cap) (hid : H[id]? = some o) (hg : o.gen = g) (hsz : o.sz = sz) (hl : Bd env lo 0 l) (hh : aev env hi = .int k (h : Int)) (hm : aev env mx = .int k' (m : Int)) (h1 : l ≤ h) (h2 : h ≤ m) (h3 : m ≤ max len cap) :
    V1 P N (.slice t x lo (Option.some hi) (Option.some mx)) ty env H (.sl id g (off + l) (h - l) (m - l)) := by
  subst hg
  intro S a w hc
  obtain ⟨s, c, hs, ok, hcc, hlc, hh2⟩ := hc.slc hx hid
  rcases hh2 with ⟨h0, ad, he⟩ | ⟨b, arr, et, hp, he, hb, hfit, hrow⟩
  · obtain rfl : m = 0 := by omega
    obtain rfl : h = 0 := by omega
    obtain rfl : l = 0 := by omega
    have el : len = 0 := by omega
    subst el
    have hb' := run_sliceBounds3 (P := P) hc true (len := 0) (cap := 0) hl hh hm h1 (by omega) (by omega)
    refine ⟨.slice ad 0 0, fun _ _ _ _ => ?_, .sl s hs (by rw [ok.gen]; exact Nat.le_refl _) rfl fun _ => ⟨0, by omega, by omega, .inl ⟨rfl, ad, rfl⟩⟩⟩
    simp [execOp, he, Instr.sliceAt, Instr.slice, run_und hu.ud, hb', run_sz (P := P) (t := e) (agg := agg) (sz := sz)]
  · have hb' := run_sliceBounds3 (P := P) hc true (len := len) (cap := c) hl hh hm h1 h2 (by omega)
    refine ⟨.slice (if m = l then some ⟨b, off * o.sz, none⟩ else some ⟨b, (off + l) * o.sz, none⟩) (h - l) (m - l), fun _ _ _ _ => ?_, .sl s hs (by rw [ok.gen]; exact Nat.le_refl _) rfl fun _ => ⟨m - l, by omega, by omega, ?_⟩⟩
    · have e1 : (⟨b, off * o.sz, none⟩ : Addr).add (l * sz) = ⟨b, (off + l) * o.sz, none⟩ := by rw [add_none, hsz, Nat.add_mul]
      simp [execOp, he, Instr.sliceAt, Instr.slice, run_und hu.ud, hb', run_sz (P := P) (t := e) (agg := agg) (sz := sz), e1]
    · by_cases e1 : m = l
      · left
        refine ⟨by omega, some ⟨b, off * o.sz, none⟩, ?_⟩
        rw [if_pos e1, show h - l = 0 by omega, show m - l = 0 by omega]
      · right
        refine ⟨b, arr, et, hp, by rw [if_neg e1, ok.sz], hb, ?_⟩
        rw [← ok.sz]
        refine Nat.le_trans (Nat.mul_le_mul_right _ ?_) hfit
        omega
/-- Append, and the room is still known. -/
theorem o_appendT {t t' e : TypeId} {x y : Operand} {id g len cap sz bytes : Nat} {agg : Bool} {zs : List AV} {o : AObj} {ys : List (List AV)} (m : Nat) [hu : SlI P t e] [NiI P t'] [TyI P e agg sz] [hz : ZcI P e zs] [ByI P e bytes]
    (hx : aev env x = .sl id g 0 len cap) (hid : H[id]? = some o) (hg : o.gen = g) (hsz : o.sz = sz) (hy : Src P N env H y sz ys) (hz' : zs.length = sz) (hlen : len ≤ o.rows.length) (h63 : len + ys.length ≤ 9223372036854775807) (hb : (len + ys.length) * bytes ≤ 140737488355328) (hm : m ≤ max cap (len + ys.length)) :
    V2 P N (.call { callee := .builtin .append, args := #[x, y], argTypes := #[t, t'] }) ty env H (.sl id (g + 1) 0 (len + ys.length) m) (H.set id ⟨g + 1, o.sz, o.rows.take len ++ ys⟩) := by
  subst hg
  rcases Nat.eq_zero_or_pos ys.length with h0 | h0
  · have : ys = [] := List.eq_nil_of_length_eq_zero h0
    subst this
    have := (o_append0 (P := P) (N := N) (env := env) (H := H) (ty := ty) (t := t) (t' := t') (e := e) (agg := agg) (sz := sz) hx hid hy).bump (m := m) (by simpa using hm) hid
    simpa using this
  · exact o_appendM (agg := agg) (e := e) (zs := zs) hz' hx hid hsz hlen hy h0 h63 hb hm
theorem w_appendF {t t' e : TypeId} {x y : Operand} {id g len cap sz bytes : Nat} {agg : Bool} {zs : List AV} {o : AObj} {ys : List (List AV)} (m : Nat) [hu : SlI P t e] [NiI P t'] [TyI P e agg sz] [hz : ZcI P e zs] [ByI P e bytes]
    (hx : aev env x = .sl id g 0 len cap) (hid : H0[id]? = some o) (hg : o.gen = g) (hsz : o.sz = sz) (hy : Src P N env (H0 ++ L) y sz ys) (hz' : zs.length = sz) (hlen : len ≤ o.rows.length) (h63 : len + ys.length ≤ 9223372036854775807) (hb : (len + ys.length) * bytes ≤ 140737488355328) (hm : m ≤ max cap (len + ys.length)) :
    V2 P N (.call { callee := .builtin .append, args := #[x, y], argTypes := #[t, t'] }) ty env (H0 ++ L) (.sl id (g + 1) 0 (len + ys.length) m) (H0.set id ⟨g + 1, o.sz, o.rows.take len ++ ys⟩ ++ L) := by
  have := o_appendT (P := P) (N := N) (env := env) (H := H0 ++ L) (ty := ty) (t := t) (t' := t') (e := e) (agg := agg) (zs := zs) (bytes := bytes) m hx (lkF hid) hg hsz hy hz' hlen h63 hb hm
  rwa [stF hid] at this
theorem w_clearF {t e : TypeId} {x : Operand} {id g off len cap sz : Nat} {agg : Bool} {zs : List AV} {o : AObj} [hu : SlI P t e] [TyI P e agg sz] [hz : ZcI P e zs] (hx : aev env x = .sl id g off len cap) (hid : H0[id]? = some o) (hg : o.gen = g) (hsz : o.sz = sz) (hz' : zs.length = sz) :
    V2 P N (.call { callee := .builtin .clear, args := #[x], argTypes := #[t] }) ty env (H0 ++ L) (.tup []) (H0.set id { o with rows := o.rows.take off } ++ L) := by
  subst hg
  have := o_clear (P := P) (N := N) (env := env) (H := H0 ++ L) (ty := ty) (t := t) (e := e) (agg := agg) (zs := zs) hx (lkF hid) hsz hz'
  rwa [stF hid] at this
/-- The call ends; a row that was there before has been turned. -/
theorem e_doneF {B : Base} {rs : List ResultVar} {vs : List AV} {v : AV} {args : List AV} {M : Heap} (hB : Begun B H args) (h : ResVs P env (M ++ L) rs vs) (hv : tupv vs = v) (hb : v.bel H.length = true) (hl : M.length = H.length) (hM : HBel H.length M) : Ends P B rs (Ret v M) .ret env (M ++ L) := by
  refine ⟨vs, M, h, .inr ⟨L, rfl, by rw [hB.len, hl]; exact Nat.le_refl _, by rw [hv, hl]; exact hb, by rw [hl]; exact hM⟩, by rw [hv], rfl⟩
theorem HBel.set {n : Nat} {M : Heap} (h : HBel n M) (id : Nat) (o : AObj) (ho : ∀ r ∈ o.rows, AV.bels n r = true) : HBel n (M.set id o) := fun o' ho' => by
  rcases List.mem_or_eq_of_mem_set ho' with h1 | rfl
  · exact h o' h1
  · exact ho
/-- A call that is given slices with nothing in them. -/
theorem V2.callu {f : Nat} {xs : Array Operand} {ts : Array TypeId} {v : AV} {us : List AV} {M : Heap} [FnI P f] (hac : AC P f us H (Ret v M)) (hvs : (xs.toList.map (aev env)).map AV.up = us) :
    V2 P N (.call { callee := .value (.func f), args := xs, argTypes := ts }) ty env H v M := V2.call (hac.up hvs) rfl
/-- A call that turns a row of the call's own. -/
theorem V2.callo3 {f g n c id' : Nat} {xs : Array Operand} {ts : Array TypeId} {vs : List AV} {o : AObj} {k : Nat} [FnI P f] (hac : AC P f vs (H0 ++ L) (Ret (.sl id' g 0 n c) ((H0 ++ L).set id' o))) (hvs : xs.toList.map (aev env) = vs) (hk : id' = Lid H0.length k) :
    V2 P N (.call { callee := .value (.func f), args := xs, argTypes := ts }) ty env (H0 ++ L) (.sl (Lid H0.length k) g 0 n c) (H0 ++ L.set k o) := by
  subst hk
  have := V2.call (N := N) (ty := ty) (ts := ts) hac hvs
  rwa [st rfl] at this
end

/-! #### where two ways meet -/
def JoinP (B : Base) (E : Env) (M : Heap) (Q : Post) : Post
  | .nrm, e, H => Sub E e ∧ Fit B E H M
  | x, e, H => Q x e H
section
variable {P : Program} {N : Nat} {B : Base} {Q : Post} {env : Env} {H : Heap}
theorem aw_joinQ {x : Code} (E : Env) (M : Heap) (h : AWp P N B x (JoinP B E M Q) env H) (k : Q .nrm E M) : AWp P N B x Q env H := by
  intro S a w hc hb
  refine wp_mono (h S a w hc hb) ?_
  rintro e a' w' ⟨ax, env', H', S', hj, r, c', k'⟩
  cases ax with
  | nrm =>
    cases r
    obtain ⟨S2, c2, k2⟩ := (c'.sub hj.1).fit k' hj.2
    exact ⟨.nrm, E, M, S2, k, .nrm, c2, k2⟩
  | brk i => exact ⟨_, env', H', S', hj, r, c', k'⟩
  | ret => exact ⟨_, env', H', S', hj, r, c', k'⟩
  | pan v => exact ⟨_, env', H', S', hj, r, c', k'⟩
theorem join_nrm {E : Env} {M : Heap} (h1 : Sub E env) (h2 : Fit B E H M) : JoinP B E M Q .nrm env H := ⟨h1, h2⟩
theorem join_ret {E : Env} {M : Heap} (h : Q .ret env H) : JoinP B E M Q .ret env H := h
theorem join_brk {E : Env} {M : Heap} {i : Nat} (h : Q (.brk i) env H) : JoinP B E M Q (.brk i) env H := h
end

/-! #### regions that draw, as1 a walk uses them -/
/-- The memory has these rows, and some more. -/
def AtR (H0 L0 : Heap) (k : Nat) (H : Heap) : Prop := ∃ G : Heap, H = H0 ++ G ∧ G[k]? = L0[k]?
def Pre (H0 L0 H : Heap) : Prop := ∃ G, H = H0 ++ (L0 ++ G)
section
variable {P : Program} {N : Nat} {B : Base} {ops : Array Oper} {a : Option Nat} {C : Heap → Prop} {F : Env → Heap → Prop} {Q : Post}
variable {fuel : Nat} {listed : Array Bool} {env : Env} {H H0 L : Heap} {op : Op} {ty : TypeId} {pos : String} {after : Array Edge} {v : AV} {id : Nat} {l : List Oper}
theorem yet_done {X : Prop} {i : Nat} (h : listed.getD i true = true) : Yet (some i) listed → X := fun k => by
  have : listed.getD i true = false := k
  rw [h] at this
  cases this
theorem aw_drawP (hm : P.follows .mixedOrders = true) (a : Option Nat) (k : Nat) (h : AAny P N B l.toArray a (Pre H0 (L.take k)) (Q .nrm) l.length (Array.replicate l.length false) env (H0 ++ L)) : AWp P N B (.region id l.toArray true) Q env (H0 ++ L) := aw_draw hm a _ h
/-- Nothing in memory is asked. -/
theorem aw_draw0 (hm : P.follows .mixedOrders = true) (h : AAny P N B l.toArray none (fun _ => True) (Q .nrm) l.length (Array.replicate l.length false) env H) : AWp P N B (.region id l.toArray true) Q env H := aw_draw hm none _ h
/-- One row is as1 it was. -/
theorem aw_drawR (hm : P.follows .mixedOrders = true) (a : Option Nat) (k : Nat) (h : AAny P N B l.toArray a (AtR H0 L k) (Q .nrm) l.length (Array.replicate l.length false) env (H0 ++ L)) : AWp P N B (.region id l.toArray true) Q env (H0 ++ L) := aw_draw hm a _ h
theorem aqr {d k : Nat} {L0 : Heap} (i : Nat) (hi : ops[i]? = some ⟨some d, op, ty, pos, after, none⟩) (hB : firstB ops listed a i = true) (hd : DN d N) (h1 : ∀ G : Heap, G[k]? = L0[k]? → V1 P N op ty (renv ⟨some d, op, ty, pos, after, none⟩ env) (H0 ++ G) v)
    (h : AAny P N B ops a (AtR H0 L0 k) F fuel (listed.setIfInBounds i true) ((d, v) :: env) H) : AAny P N B ops a (AtR H0 L0 k) F (fuel + 1) listed env H :=
  aq1 i hi hB hd (by rintro _ ⟨G, rfl, hG⟩; exact h1 G hG) h
theorem aqyr {d j g k : Nat} {want : Bool} {L0 : Heap} (i : Nat) (hi : ops[i]? = some ⟨some d, op, ty, pos, after, some (j, want)⟩) (hB : firstB ops listed a i = true) (hd : DN d N) (hj : (ops[j]?).bind (·.dst) = some g) (hb : get env g = .bool want)
    (h1 : ∀ G : Heap, G[k]? = L0[k]? → V1 P N op ty (renv ⟨some d, op, ty, pos, after, some (j, want)⟩ env) (H0 ++ G) v)
    (h : AAny P N B ops a (AtR H0 L0 k) F fuel (listed.setIfInBounds i true) ((d, v) :: env) H) : AAny P N B ops a (AtR H0 L0 k) F (fuel + 1) listed env H :=
  aqy1 i hi hB hd hj hb (by rintro _ ⟨G, rfl, hG⟩; exact h1 G hG) h
theorem aw_of_out {c : Code} (t : Nat) (v : AV) (h : AWp P N B c (Out B env t v H) env H) (k : Q .nrm ((t, v) :: env) H) : AWp P N B c Q env H := by
  intro S a w hc hb
  refine Code.wp_mono ?_ (h S a w hc hb)
  rintro e a' w' ⟨x, e', H', S', ⟨rfl, hv, hs, rfl⟩, r, c', k'⟩
  cases r
  exact ⟨.nrm, _, _, S', k, .nrm, c'.sub (hs.sub hv), k'⟩
theorem aq02 {d : Nat} (i : Nat) (hi : ops[i]? = some ⟨some d, op, ty, pos, after, none⟩) (hB : firstB0 ops listed a i = true) (hd : DN d N) (h1 : ∀ H', V2 P N op ty (renv ⟨some d, op, ty, pos, after, none⟩ env) H' v H')
    (h : AAny P N B ops a C F fuel (listed.setIfInBounds i true) ((d, v) :: env) H) : AAny P N B ops a C F (fuel + 1) listed env H :=
  aa_first0 i hi hB (by rintro _ ⟨⟩; exact hd) (.inl ⟨rfl, fun H _ => h1 H _ _ _ _⟩) h
theorem aqy0 {d j g : Nat} {want : Bool} (i : Nat) (hi : ops[i]? = some ⟨some d, op, ty, pos, after, some (j, want)⟩) (hB : firstB0 ops listed a i = true) (hd : DN d N) (hj : (ops[j]?).bind (·.dst) = some g) (hb : get env g = .bool want)
    (h1 : ∀ H', V1 P N op ty (renv ⟨some d, op, ty, pos, after, some (j, want)⟩ env) H' v)
    (h : AAny P N B ops a C F fuel (listed.setIfInBounds i true) ((d, v) :: env) H) : AAny P N B ops a C F (fuel + 1) listed env H :=
  aa_first0 i hi hB (by rintro _ ⟨⟩; exact hd) (.inl ⟨⟨g, hj, .inl ⟨want, hb, by simp⟩⟩, fun H hC => (h1 H).toV2 _ _ _ _⟩) h
theorem aqy02 {d j g : Nat} {want : Bool} (i : Nat) (hi : ops[i]? = some ⟨some d, op, ty, pos, after, some (j, want)⟩) (hB : firstB0 ops listed a i = true) (hd : DN d N) (hj : (ops[j]?).bind (·.dst) = some g) (hb : get env g = .bool want)
    (h1 : ∀ H', V2 P N op ty (renv ⟨some d, op, ty, pos, after, some (j, want)⟩ env) H' v H')
    (h : AAny P N B ops a C F fuel (listed.setIfInBounds i true) ((d, v) :: env) H) : AAny P N B ops a C F (fuel + 1) listed env H :=
  aa_first0 i hi hB (by rintro _ ⟨⟩; exact hd) (.inl ⟨⟨g, hj, .inl ⟨want, hb, by simp⟩⟩, fun H hC => h1 H _ _ _ _⟩) h
theorem aqn0 {d j g : Nat} {want c : Bool} (i : Nat) (hi : ops[i]? = some ⟨some d, op, ty, pos, after, some (j, want)⟩) (hB : firstB0 ops listed a i = true) (hd : DN d N) (hj : (ops[j]?).bind (·.dst) = some g) (hb : get env g = .bool c) (hc : (c == want) = false)
    (h : AAny P N B ops a C F fuel (listed.setIfInBounds i true) ((d, .tup []) :: env) H) : AAny P N B ops a C F (fuel + 1) listed env H :=
  aa_first0 i hi hB (by rintro _ ⟨⟩; exact hd) (.inr ⟨⟨g, hj, .inl ⟨c, hb, hc.symm⟩⟩, rfl⟩) h
theorem aqu0 {d j g : Nat} {want : Bool} (i : Nat) (hi : ops[i]? = some ⟨some d, op, ty, pos, after, some (j, want)⟩) (hB : firstB0 ops listed a i = true) (hd : DN d N) (hj : (ops[j]?).bind (·.dst) = some g) (hb : get env g = .tup [])
    (h : AAny P N B ops a C F fuel (listed.setIfInBounds i true) ((d, .tup []) :: env) H) : AAny P N B ops a C F (fuel + 1) listed env H :=
  aa_first0 i hi hB (by rintro _ ⟨⟩; exact hd) (.inr ⟨⟨g, hj, .inr ⟨hb, rfl⟩⟩, rfl⟩) h
/-- By what the first rows hold. -/
theorem aqp {d : Nat} {L0 : Heap} (i : Nat) (hi : ops[i]? = some ⟨some d, op, ty, pos, after, none⟩) (hB : firstB ops listed a i = true) (hd : DN d N) (h1 : ∀ G, V1 P N op ty (renv ⟨some d, op, ty, pos, after, none⟩ env) (H0 ++ (L0 ++ G)) v)
    (h : AAny P N B ops a (Pre H0 L0) F fuel (listed.setIfInBounds i true) ((d, v) :: env) H) : AAny P N B ops a (Pre H0 L0) F (fuel + 1) listed env H :=
  aq1 i hi hB hd (by rintro _ ⟨G, rfl⟩; exact h1 G) h
theorem aqyp {d j g : Nat} {want : Bool} {L0 : Heap} (i : Nat) (hi : ops[i]? = some ⟨some d, op, ty, pos, after, some (j, want)⟩) (hB : firstB ops listed a i = true) (hd : DN d N) (hj : (ops[j]?).bind (·.dst) = some g) (hb : get env g = .bool want)
    (h1 : ∀ G, V1 P N op ty (renv ⟨some d, op, ty, pos, after, some (j, want)⟩ env) (H0 ++ (L0 ++ G)) v)
    (h : AAny P N B ops a (Pre H0 L0) F fuel (listed.setIfInBounds i true) ((d, v) :: env) H) : AAny P N B ops a (Pre H0 L0) F (fuel + 1) listed env H :=
  aqy1 i hi hB hd hj hb (by rintro _ ⟨G, rfl⟩; exact h1 G) h
end
end Go.Av

/-
  A ROW OF THE CALL's OWN IS LENT TO A CALL THAT ONLY READS IT: there it is a list; behind the call it is a row again.
-/
namespace Go.Av

/-- Values that name no memory. -/
def AV.flat : AV → Bool
  | .int .. | .bool _ | .str _ | .flt .. | .nptr | .nifc | .nfn | .nsl | .junk => true
  | _ => false
theorem VR.flat {O O' : Nat → Prop} {w w' : World} {S S' : List Slot} {v : AV} {u : Value} (h : VR O w S v u) (hf : v.flat = true) : VR O' w' S' v u := by
  cases h <;> first | (simp [AV.flat] at hf; done) | constructor
theorem VR.free {O : Nat → Prop} {w : World} {S : List Slot} {v : AV} {u : Value} (h : VR O w S v u) (hb : v.bel 0 = true) : VR (own []) w [] v u :=
  (h.pur hb).mono ⟨Nat.le_refl _, fun b _ _ => ⟨by rintro ⟨i, s, hs, _⟩; simp at hs, rfl⟩, fun _ arr _ h => ⟨arr, h, rfl⟩⟩ (SExt.refl _)

/-- What a callee that only reads sees of a cell. -/
inductive Lend1 (H : Heap) : AV → AV → Prop where
  | sl {id off len cap : Nat} {o : AObj} {ys : List (List AV)} (hid : H[id]? = some o) (hp : ∀ r ∈ ys, AV.bels 0 r = true) (hys : (o.rows.drop off).take len = ys) (hlen : ys.length = len) : Lend1 H (.sl id o.gen off len cap) (.pl ys)
  | same {v : AV} (hb : v.bel 0 = true) (hl : v.leaf = true) : Lend1 H v v
inductive Lends (H : Heap) : List AV → List AV → Prop where
  | nil : Lends H [] []
  | cons {a b : AV} {as1 bs : List AV} (h : Lend1 H a b) (k : Lends H as1 bs) : Lends H (a :: as1) (b :: bs)
inductive Lend (H : Heap) : AV → AV → Prop where
  | one {a b : AV} (h : Lend1 H a b) : Lend H a b
  | agg {cs ds : List AV} (h : Lends H cs ds) : Lend H (.agg cs) (.agg ds)
  | pure {v : AV} (hb : v.bel 0 = true) : Lend H v v
inductive LendAll (H : Heap) : List AV → List AV → Prop where
  | nil : LendAll H [] []
  | cons {a b : AV} {as1 bs : List AV} (h : Lend H a b) (k : LendAll H as1 bs) : LendAll H (a :: as1) (b :: bs)

theorem Lend1.leaf {H : Heap} {a b : AV} (h : Lend1 H a b) : b.leaf = true := by cases h <;> first | rfl | assumption
theorem Lends.get {H : Heap} : ∀ {as1 bs : List AV}, Lends H as1 bs → as1.length = bs.length ∧ ∀ (j : Nat) (b : AV), bs[j]? = some b → ∃ a, as1[j]? = some a ∧ Lend1 H a b
  | _, _, .nil => ⟨rfl, fun j b h => by simp at h⟩
  | _, _, .cons h k => by
    obtain ⟨h1, h2⟩ := k.get
    refine ⟨by simp [h1], fun j b hb => ?_⟩
    cases j with
    | zero => simp at hb; subst hb; exact ⟨_, rfl, h⟩
    | succ j => simpa using h2 j b (by simpa using hb)
theorem LendAll.get {H : Heap} : ∀ {as1 bs : List AV}, LendAll H as1 bs → as1.length = bs.length ∧ ∀ (j : Nat) (b : AV), bs[j]? = some b → ∃ a, as1[j]? = some a ∧ Lend H a b
  | _, _, .nil => ⟨rfl, fun j b h => by simp at h⟩
  | _, _, .cons h k => by
    obtain ⟨h1, h2⟩ := k.get
    refine ⟨by simp [h1], fun j b hb => ?_⟩
    cases j with
    | zero => simp at hb; subst hb; exact ⟨_, rfl, h⟩
    | succ j => simpa using h2 j b (by simpa using hb)

theorem Lend1.vr {H : Heap} {S : List Slot} {w : World} (hh : HRel H S w) {a b : AV} {u : Value} (h : Lend1 H a b) (hv : VR (own S) w S a u) : VR (own []) w [] b u := by
  cases h with
  | same hb _ => exact hv.free hb
  | @sl id off len cap o ys hid hp hys hlen =>
    obtain ⟨s, hs, ok⟩ := hh.slot hid
    have hc : CR 1 [(0, .sl id o.gen off len cap)] H S { tmps := #[u], defers := [] } w := ⟨hh, fun t => by
      cases t with
      | zero => exact hv
      | succ t => exact .junk, rfl, rfl⟩
    obtain ⟨S', hc', _⟩ := hc.freeze (B := ⟨S, w⟩) (t := 0) (id := id) (cap := cap) (o := o) (Ext.refl S w) rfl hid hys hlen hp
    have := hc'.env 0
    rw [get_put_same] at this
    exact this.free rfl
theorem Lend.vr {H : Heap} {S : List Slot} {w : World} (hh : HRel H S w) {a b : AV} {u : Value} (h : Lend H a b) (hv : VR (own S) w S a u) : VR (own []) w [] b u := by
  cases h with
  | one h => exact h.vr hh hv
  | pure hb => exact hv.free hb
  | agg h =>
    obtain ⟨h1, h2⟩ := h.get
    cases hv with
    | agg hn hl hvr =>
      refine .agg (h1.symm.trans hn) (fun j v hj => ?_) (fun j v u hj hu => ?_)
      · obtain ⟨a, _, ha⟩ := h2 j v hj
        exact ha.leaf
      · obtain ⟨a, haj, ha⟩ := h2 j v hj
        exact ha.vr hh (hvr j a u haj hu)

section
variable {P : Program} {N : Nat} {env : Env} {H : Heap} {ty : TypeId}
/-- A call that only reads, and hands back a plain value. -/
theorem V2.lend {f : Nat} {xs : Array Operand} {ts : Array TypeId} {v : AV} {us : List AV} [FnI P f] (hac : AC P f us [] (Ret v [])) (hl : LendAll H (xs.toList.map (aev env)) us) (hf : v.flat = true) :
    V2 P N (.call { callee := .value (.func f), args := xs, argTypes := ts }) ty env H v H := by
  refine V2.call (vs := xs.toList.map (aev env)) ?_ rfl
  intro S w cargs hH hv
  obtain ⟨h1, h2⟩ := hl.get
  have hv' : VRs (own []) w [] us cargs := ⟨h1.symm.trans hv.1, fun i b u hb hu => by
    obtain ⟨a, ha, hab⟩ := h2 i b hb
    exact hab.vr hH (hv.2 i a u ha hu)⟩
  refine (hac [] w cargs ⟨rfl, fun _ _ _ h => by simp at h, fun _ _ _ _ _ h => by simp at h⟩ hv').mono ?_
  rintro e w' ⟨o, H', S', ⟨rfl, rfl⟩, ho, hh, hx⟩
  have hno : ∀ b, ¬ own [] b := by rintro b ⟨i, s, hs, _⟩; simp at hs
  have hold : ∀ b, b < w.heap.size → w'.heap[b]? = w.heap[b]? := fun b hb => (hx.stp.old b hb (hno b)).2
  have hx' : Ext S w S w' := ⟨hx.os, hx.tape, hx.output, ⟨hx.stp.size, fun b hb ho => ⟨ho, hold b hb⟩, hx.stp.cells⟩, SExt.refl S⟩
  refine ⟨.ret v, H, S, ⟨rfl, rfl⟩, ?_, same_heap hH hx' hold, hx'⟩
  cases ho with
  | ret hvr => exact .ret (hvr.flat hf)

/-- A cell of a row is told otherwise: what lies there is also v2. -/
theorem HRel.retell {H : Heap} {S : List Slot} {w : World} (h : HRel H S w) {k i j b : Nat} {o : AObj} {s : Slot} {r : List AV} {v2 : AV} {arr : Array Value} {ty : TypeId} {u : Value} (hk : H[k]? = some o) (hs : S[k]? = some s) (hp : s.place = some b) (hb : w.heap[b]? = some (Obj.cells arr ty (0, 0)))
    (hr : o.rows[i]? = some r) (hj : j < r.length) (hu : arr[i * o.sz + j]? = some u) (hl : v2.leaf = true) (hv : VR (own S) w S v2 u) : HRel (H.set k { o with rows := o.rows.set i (r.set j v2) }) S w := by
  refine ⟨by simpa using h.len, fun id' o' s' ho' hs' => ?_, h.inj⟩
  by_cases e : k = id'
  · subst e
    rw [List.getElem?_set_self (List.getElem?_eq_some_iff.1 hk).1] at ho'
    obtain rfl := Option.some.inj ho'
    rw [hs] at hs'
    obtain rfl := Option.some.inj hs'
    have ok := h.obj k o s hk hs
    refine ⟨ok.gen, ok.sz, ok.pos, fun hn => (by rw [hp] at hn; cases hn), fun b' hb' => ?_⟩
    obtain ⟨arr', ty', h1, h2, h3⟩ := ok.lies b' hb'
    rw [hp] at hb'
    obtain rfl := Option.some.inj hb'
    rw [hb] at h1
    injection h1 with h1
    injection h1 with h1 h1'
    subst h1
    refine ⟨arr, ty, hb, by simpa using h2, fun i' r' hr' => ?_⟩
    by_cases ei : i = i'
    · subst ei
      have hil : i < o.rows.length := (List.getElem?_eq_some_iff.1 hr).1
      rw [List.getElem?_set_self hil] at hr'
      obtain rfl := Option.some.inj hr'
      obtain ⟨k1, k2⟩ := h3 i r hr
      refine ⟨by simpa using k1, fun j' v' hv' => ?_⟩
      by_cases ej : j = j'
      · subst ej
        rw [List.getElem?_set_self hj] at hv'
        obtain rfl := Option.some.inj hv'
        exact ⟨hl, u, hu, hv⟩
      · rw [List.getElem?_set_ne ej] at hv'
        exact k2 j' v' hv'
    · rw [List.getElem?_set_ne ei] at hr'
      exact h3 i' r' hr'
  · rw [List.getElem?_set_ne e] at ho'
    exact h.obj id' o' s' ho' hs'

/-- A row is let go, and the cell that leads to it holds a list from then on. -/
theorem CR.freezeC {B : Base} {S : List Slot} {a : Act} {w : World} {k i j id off len cap : Nat} {o q : AObj} {r : List AV} {ys : List (List AV)} (h : CR N env H S a w) (hx : Ext B.S B.w S w) (hk : H[k]? = some q) (hr : q.rows[i]? = some r) (hj : r[j]? = some (.sl id o.gen off len cap)) (hne : id ≠ k)
    (hid : H[id]? = some o) (hys : (o.rows.drop off).take len = ys) (hlen : ys.length = len) (hp : ∀ r ∈ ys, AV.bels 0 r = true) :
    ∃ S', CR N env ((H.set id ⟨o.gen + 1, o.sz, []⟩).set k { q with rows := q.rows.set i (r.set j (.pl ys)) }) S' a w ∧ Ext B.S B.w S' w := by
  obtain ⟨s, hs, ok⟩ := h.heap.slot hk
  have hil := (List.getElem?_eq_some_iff.1 hr).1
  cases hpl : s.place with
  | none => rw [ok.nope hpl] at hil; simp at hil
  | some b =>
    obtain ⟨arr, ty, h1, h2, h3⟩ := ok.lies b hpl
    obtain ⟨k1, k2⟩ := h3 i r hr
    obtain ⟨_, u, hu, hv⟩ := k2 j _ hj
    have hc : CR 1 [(0, .sl id o.gen off len cap)] H S { tmps := #[u], defers := [] } w := ⟨h.heap, fun t => by
      cases t with
      | zero => exact hv
      | succ t => exact .junk, rfl, rfl⟩
    obtain ⟨S', hc', hx'⟩ := hc.freeze (B := ⟨S, w⟩) (t := 0) (id := id) (cap := cap) (o := o) (Ext.refl S w) rfl hid hys hlen hp
    have hv2 := hc'.env 0
    rw [get_put_same] at hv2
    have hk' : (H.set id ⟨o.gen + 1, o.sz, []⟩)[k]? = some q := by rw [List.getElem?_set_ne hne]; exact hk
    obtain ⟨s', hs', ok'⟩ := hc'.heap.slot hk'
    obtain ⟨s2, hs2, hg, he⟩ := hx'.slots k s hs
    rw [hs'] at hs2
    obtain rfl := Option.some.inj hs2
    have hpl' : s'.place = some b := (he (by rw [← ok'.gen, ok.gen])).2.trans hpl
    have hh := hc'.heap.retell (v2 := .pl ys) hk' hs' hpl' h1 hr (List.getElem?_eq_some_iff.1 hj).1 hu rfl hv2
    exact ⟨S', ⟨hh, fun t => (h.env t).ext hx', h.size, h.defers⟩, hx.trans hx'⟩
theorem aw_freezeC {B : Base} {Q : Post} {c : Code} {L : Heap} {H0 : Heap} {n k i j kid g off len cap : Nat} {o q : AObj} {r : List AV} {ys : List (List AV)} (k' : Nat) (hk' : k' = k) (hk : L[k]? = some q) (hr : q.rows[i]? = some r) (hj : r[j]? = some (.sl (Lid n kid) g off len cap)) (hn : H0.length = n) (hne : kid ≠ k)
    (hid : L[kid]? = some o) (hg : o.gen = g) (hys : (o.rows.drop off).take len = ys) (hlen : ys.length = len) (hp : ∀ r ∈ ys, AV.bels 0 r = true)
    (h : AWp P N B c Q env (H0 ++ (L.set kid ⟨g + 1, o.sz, []⟩).set k { q with rows := q.rows.set i (r.set j (.pl ys)) })) : AWp P N B c Q env (H0 ++ L) := fun S a w hc hb => by
  subst hg
  obtain ⟨S', hc', hb'⟩ := hc.freezeC (id := Lid n kid) (k := Lid n k) hb (lk hn hk) hr hj (by unfold Lid; omega) (lk hn hid) hys hlen hp
  rw [st hn, st hn] at hc'
  exact h S' a w hc' hb'
end
end Go.Av

/-
  AN APPEND TO NOTHING THAT NOBODY WRITES BEHIND IT IS A LIST.
-/
namespace Go.Av
section
variable {P : Program} {N : Nat} {B : Base} {env : Env} {H H0 L : Heap} {op : Op} {ty : TypeId}
theorem g_append_new {t t' e : TypeId} {x y : Operand} {sz bytes : Nat} {agg : Bool} {zs : List AV} {ys : List (List AV)} [hu : SlI P t e] [NiI P t'] [TyI P e agg sz] [hz : ZcI P e zs] [ByI P e bytes]
    (hx : aev env x = .nsl) (hy : Src P N env H y sz ys) (hn : zs.length = sz) (hp : 0 < sz) (h63 : ys.length ≤ 9223372036854775807) (hb : ys.length * bytes ≤ 140737488355328) (hbel : ∀ r ∈ ys, AV.bels 0 r = true) :
    V2 P N (.call { callee := .builtin .append, args := #[x, y], argTypes := #[t, t'] }) ty env H (.pl ys) H := by
  have h1 := g_append_nsl (P := P) (N := N) (ty := ty) (t := t) (t' := t') (e := e) (agg := agg) (zs := zs) (bytes := bytes) (H0 := H) (L := []) (k := 0) hx (by rw [List.append_nil]; exact hy) hn hp h63 hb rfl
  have h2 := V2.freezeL (o := ⟨0, sz, ys⟩) (k := 0) h1 rfl rfl rfl hbel
  rw [List.append_nil] at h2
  exact h2
/-- A whole row is written anew. -/
theorem w_storeW {t : TypeId} {x y : Operand} {n k g i sz : Nat} {agg : Bool} {o : AObj} {r cs : List AV} [TyI P t agg sz] (hx : aev env x = .pt (Lid n k) g i 0) (hn : H0.length = n) (hk : L[k]? = some o) (hg : o.gen = g) (hr : o.rows[i]? = some r)
    (hy : aev env y = .agg cs) (hl : cs.length = sz) (hrl : r.length = sz) (hj : sz ≤ o.sz) :
    V2 P N (.store t x y) ty env (H0 ++ L) .junk (H0 ++ L.set k { o with rows := o.rows.set i cs }) :=
  w_storeP (v := .agg cs) (r' := cs) (agg := agg) hx hn hk hg hr hy rfl hl (by omega) (by
    show r.take 0 ++ cs ++ r.drop (0 + sz) = cs
    rw [List.take_zero, List.nil_append, Nat.zero_add, List.drop_of_length_le (by omega), List.append_nil])
end
end Go.Av

/-
  A TEXT IS GONE THROUGH, RUNE BY RUNE: the iterator lies in a block of its own that no abstract value leads to.
-/
namespace Go.Av

/-- Two worlds that differ in one block alone, which holds no cells. -/
structure But (r : Nat) (w w' : World) : Prop where
  os : w'.os = w.os
  tape : w'.tape = w.tape
  output : w'.output = w.output
  size : w'.heap.size = w.heap.size
  other : ∀ j, j ≠ r → w'.heap[j]? = w.heap[j]?
  none : ∀ arr ty fz, w.heap[r]? ≠ some (Obj.cells arr ty fz)
theorem But.cells {r : Nat} {w w' : World} (h : But r w w') {b : Nat} {arr : Array Value} {ty : TypeId} {fz : Nat × Nat} (hb : w.heap[b]? = some (Obj.cells arr ty fz)) : w'.heap[b]? = some (Obj.cells arr ty fz) := by
  by_cases e : b = r
  · subst e; exact absurd hb (h.none _ _ _)
  · rw [h.other b e]; exact hb
theorem But.cell {r : Nat} {w w' : World} (h : But r w w') {a : Addr} {v : Value} (hc : w.cell? a = some v) : w'.cell? a = some v := by
  by_cases e : a.block = r
  · unfold World.cell? at hc
    split at hc
    · rename_i c x y hq; rw [e] at hq; exact absurd hq (h.none _ _ _)
    · cases hc
  · exact (World.cell?_of_block (h.other a.block e)).trans hc
theorem VR.but {r : Nat} {w w' : World} (hw : But r w w') {O : Nat → Prop} {S : List Slot} {v : AV} {u : Value} (h : VR O w S v u) : VR O w' S v u := by
  induction h with
  | junk => exact .junk
  | int => exact .int
  | bool => exact .bool
  | str => exact .str
  | flt => exact .flt
  | nsl => exact .nsl
  | nptr => exact .nptr
  | nfn => exact .nfn
  | nifc => exact .nifc
  | raw => exact .raw
  | know ho hg h hx => exact .know ho (by rw [hw.size]; exact hg) (fun j v hv => hw.cell (h j v hv)) (by obtain ⟨ty, fz, e⟩ := hx; exact ⟨ty, fz, hw.cells e⟩)
  | ifc _ ih => exact .ifc ih
  | pl base sz u hc hb hs hm hl _ ih =>
    exact .pl base sz u hc (fun hx => ⟨(hb hx).1, (hb hx).2.1, by rw [hw.size]; exact (hb hx).2.2⟩) hs (fun i hi j hj => hw.cell (hm i hi j hj)) hl ih
  | pp base sz u hb hs hm hl _ ih =>
    exact .pp base sz u ⟨hb.1, by rw [hw.size]; exact hb.2⟩ hs (fun i hi j hj => hw.cell (hm i hi j hj)) hl ih
  | sl s hs hg h1 h =>
    refine .sl s hs hg h1 fun e => ?_
    obtain ⟨c, hc, hl, h⟩ := h e
    refine ⟨c, hc, hl, ?_⟩
    rcases h with h | ⟨b, arr, ty, hp, hu, hb, hsz⟩
    · exact .inl h
    · exact .inr ⟨b, arr, ty, hp, hu, hw.cells hb, hsz⟩
  | pt s hs hg h1 h => exact .pt s hs hg h1 h
  | agg hn hl _ ih => exact .agg hn hl ih
  | tup hn _ ih => exact .tup hn ih
  | fn hp hq _ _ ih1 ih2 => exact .fn hp hq ih1 ih2
theorem HRel.but {r : Nat} {H : Heap} {S : List Slot} {w w' : World} (hh : HRel H S w) (hw : But r w w') : HRel H S w' := by
  refine ⟨hh.len, fun id o s ho hs => ?_, hh.inj⟩
  have ok := hh.obj id o s ho hs
  refine ⟨ok.gen, ok.sz, ok.pos, ok.nope, fun b hb => ?_⟩
  obtain ⟨arr, ty, h1, h2, h3⟩ := ok.lies b hb
  refine ⟨arr, ty, hw.cells h1, h2, fun i r hr => ?_⟩
  obtain ⟨k1, k2⟩ := h3 i r hr
  refine ⟨k1, fun j v hv => ?_⟩
  obtain ⟨k3, u, k4, k5⟩ := k2 j v hv
  exact ⟨k3, u, k4, k5.but hw⟩
theorem HRel.notOwn {H : Heap} {S : List Slot} {w : World} (hh : HRel H S w) {r : Nat} (hn : ∀ arr ty fz, w.heap[r]? ≠ some (Obj.cells arr ty fz)) : ¬ own S r := by
  rintro ⟨i, s, hs, hp⟩
  have hlt : i < H.length := by rw [hh.len]; exact (List.getElem?_eq_some_iff.1 hs).1
  have ok := hh.obj i H[i] s (List.getElem?_eq_getElem hlt) hs
  obtain ⟨arr, ty, h1, _⟩ := ok.lies r hp
  exact hn _ _ _ h1

section
variable {P : Program} {N : Nat} {B : Base} {Q : Post} {env : Env} {H : Heap}
abbrev itv (r : Nat) : Value := .pointer (some ⟨r, 0, none⟩)

/-- The run stands in a loop over a text. -/
structure ItAt (N : Nat) (B : Base) (it r : Nat) (s : ByteArray) (pos : Nat) (E : Env) (H : Heap) (a : Act) (w : World) (S : List Slot) : Prop where
  cr : CR N ((it, .raw (itv r)) :: E) H S a w
  ext : Ext B.S B.w S w
  obj : w.heap[r]? = some (.stringIter s pos)
  new : B.w.heap.size ≤ r

theorem ItAt.next {it r pos pos' : Nat} {s : ByteArray} {E : Env} {S : List Slot} {a : Act} {w : World} (h : ItAt N B it r s pos E H a w S) : ItAt N B it r s pos' E H a (w.iterAt r s pos') S := by
  have hn : ∀ arr ty fz, w.heap[r]? ≠ some (Obj.cells arr ty fz) := by intro arr ty fz e; rw [h.obj] at e; cases e
  have hb : But r w (w.iterAt r s pos') := ⟨rfl, rfl, rfl, Lib.iterAt_size w r s pos', fun j hj => Lib.iterAt_other w r j s pos' hj, hn⟩
  have hno := h.cr.heap.notOwn hn
  refine ⟨⟨h.cr.heap.but hb, fun t => (h.cr.env t).but hb, h.cr.size, h.cr.defers⟩, ?_, Lib.iterAt_heap w r s pos pos' h.obj, h.new⟩
  have hx := h.ext
  refine ⟨hx.os, hx.tape, hx.output, ⟨by rw [hb.size]; exact hx.stp.size, fun b hbs ho => ?_, fun b arr ty hc => ?_⟩, hx.slots⟩
  · obtain ⟨k1, k2⟩ := hx.stp.old b hbs ho
    exact ⟨k1, by rw [hb.other b (by have := h.new; omega)]; exact k2⟩
  · obtain ⟨arr', k1, k2⟩ := hx.stp.cells b arr ty hc
    exact ⟨arr', hb.cells k1, k2⟩

theorem decode_pos (s : ByteArray) (i : Nat) : 1 ≤ (Utf8.decode s i).2 := by
  unfold Utf8.decode
  simp only
  repeat' split
  all_goals simp

theorem aw_rangeStr {k1 k2 b t it nx okt : Nat} {x : Operand} {tx ty1 ty2 ty3 ty4 : TypeId} {p1 p2 p3 p4 : String} {f1 f2 f3 f4 : Array Edge} {body : Code} {s : ByteArray} [hu : UdI P tx .string]
    (hx : aev env x = .str s) (ht : t < N) (hit : it < N) (hnx : nx < N) (hok : okt < N) (hne : it ≠ t) (hne2 : nx ≠ it) (hne3 : okt ≠ it)
    (I : Nat → Prop) (E : Nat → Env) (h0 : I 0) (hE : Sub (E 0) ((t, .str s) :: env))
    (round : ∀ (pos r : Nat) (B' : Base), pos < s.size → I pos → B'.S.length = H.length → AWp P N B' body (AX.andThen (fun e H' => I (pos + (Utf8.decode s pos).2) ∧ Sub ((it, .raw (itv r)) :: E (pos + (Utf8.decode s pos).2)) e ∧ H' = H) (AX.inBlock b Q))
      ((okt, .bool true) :: (nx, .tup [.bool true, .int .i64 (pos : Int), .int .i32 ((Utf8.decode s pos).1 : Int)]) :: (it, .raw (itv r)) :: E pos) H)
    (fin : ∀ (pos r : Nat), ¬ pos < s.size → I pos → Q .nrm ((okt, .bool false) :: (nx, .tup [.bool false]) :: (it, .raw (itv r)) :: E pos) H) :
    AWp P N B (.seq (.region k1 [⟨some t, .move x, ty1, p1, f1, none⟩, ⟨some it, .range tx (.tmp t), ty2, p2, f2, none⟩].toArray false)
      (.block b (.loop (.seq (.region k2 [⟨some nx, .next (.tmp it) true, ty3, p3, f3, none⟩, ⟨some okt, .extract (.tmp nx) 0, ty4, p4, f4, none⟩].toArray false) (.seq (.cond (.tmp okt) .skip (.exit b)) body))))) Q env H := by
  intro S a w hc hb
  refine wp_seq (wp_region_lit ?_)
  refine wpList_plain rfl fun next hnext => ?_
  have hv := hc.ev x
  rw [hx] at hv
  unfold Oper.wp
  rw [show ∀ pos after guard, (execOp a.eval ⟨some t, .move x, ty1, pos, after, guard⟩).run P w = .ok (.value (a.eval x)) w from fun _ _ _ => rfl]
  refine hnext _ _ ?_
  have c1 := hc.put (d := some t) (Ext.refl S w) hc.heap (by rintro _ ⟨⟩; exact ht) hv
  generalize a.eval x = u at hv c1 ⊢
  cases hv
  refine wpList_plain rfl fun next2 hnext2 => ?_
  have hev : (a.put (some t) (.string s)).eval (.tmp t) = .string s := by simp [Act.eval, Act.put, hc.size, ht]
  have hr2 : ∀ pos after guard, (execOp (a.put (some t) (.string s)).eval ⟨some it, .range tx (.tmp t), ty2, pos, after, guard⟩).run P w = .ok (.value (itv w.heap.size)) (w.iter s 0) := by
    intro pos after guard
    simp only [execOp, hev, Sem.run_bind, run_range_string w tx s hu.ud, Result.andThen_ok, Sem.run_pure]
  unfold Oper.wp
  rw [hr2]
  refine hnext2 _ _ ?_
  have hold : ∀ b, b < w.heap.size → (w.iter s 0).heap[b]? = w.heap[b]? := fun b hb => (by first | exact heap_alloc_old w _ b hb | exact heap_alloc_old w _ hb)
  have hx' : Ext S w S (w.iter s 0) := ⟨rfl, rfl, rfl, ⟨by simp [World.iter], fun b hb ho => ⟨ho, hold b hb⟩, fun b arr ty hb' => ⟨arr, by rw [hold b (Array.getElem?_eq_some_iff.1 hb').1]; exact hb', rfl⟩⟩, SExt.refl S⟩
  have hh := same_heap hc.heap hx' hold
  have c2 := c1.put (d := some it) (v := .raw (itv w.heap.size)) (u := itv w.heap.size) hx' hh (by rintro _ ⟨⟩; exact hit) .raw
  have hsub : Sub ((it, .raw (itv w.heap.size)) :: E 0) ((it, .raw (itv w.heap.size)) :: (t, .str s) :: env) := fun t' => by
    by_cases e : it = t'
    · subst e; rw [get_put_same, get_put_same]; exact .inr rfl
    · rw [get_put_other _ _ e, get_put_other _ _ e]; exact hE t'
  refine wpList_nil ?_
  refine wp_block (wp_loop_ghost (fun n a' w' => ∃ pos S', n = s.size - pos ∧ I pos ∧ ItAt N B it w.heap.size s pos (E pos) H a' w' S') (s.size - 0) ⟨0, S, rfl, h0, ⟨c2.sub hsub, hb.trans hx', World.iter_heap w s 0, hb.stp.size⟩⟩ ?_)
  rintro n a1 w1 ⟨pos, S1, rfl, hI, h1⟩
  refine wp_seq (wp_region_lit ?_)
  refine wpList_plain rfl fun next hnext => ?_
  have hevit : a1.eval (.tmp it) = itv w.heap.size := by
    have := h1.cr.ev (.tmp it)
    rw [show aev ((it, AV.raw (itv w.heap.size)) :: E pos) (.tmp it) = .raw (itv w.heap.size) from get_put_same _ _ _] at this
    generalize a1.eval (.tmp it) = u at this
    cases this
    rfl
  by_cases hp : pos < s.size
  · have hrn : ∀ pos' after guard, (execOp a1.eval ⟨some nx, .next (.tmp it) true, ty3, pos', after, guard⟩).run P w1 = .ok (.value (.tuple #[.bool true, .int .i64 pos, .int .i32 (Utf8.decode s pos).1])) (w1.iterAt w.heap.size s (pos + (Utf8.decode s pos).2)) := by
      intro pos' after guard
      simp only [execOp, hevit, Sem.run_bind, Lib.run_next_any_at w1 w.heap.size s pos ty3 h1.obj hp, Result.andThen_ok, Sem.run_pure]
    unfold Oper.wp
    rw [hrn]
    refine hnext _ _ ?_
    have h2 := h1.next (pos' := pos + (Utf8.decode s pos).2)
    have c3 := h2.cr.put (d := some nx) (v := .tup [.bool true, .int .i64 (pos : Int), .int .i32 ((Utf8.decode s pos).1 : Int)]) (Ext.refl S1 _) h2.cr.heap (by rintro _ ⟨⟩; exact hnx) (.tup (vs := #[.bool true, .int .i64 pos, .int .i32 (Utf8.decode s pos).1]) rfl fun j v u hv hu => by
      match j, hv, hu with
      | 0, hv, hu => simp at hv hu; subst hv; subst hu; exact .bool
      | 1, hv, hu => simp at hv hu; subst hv; subst hu; exact .int
      | 2, hv, hu => simp at hv hu; subst hv; subst hu; exact .int
      | j + 3, hv, hu => simp at hv)
    refine wpList_plain rfl fun next2 hnext2 => ?_
    obtain ⟨u, hru, hvu⟩ := (o_extract (P := P) (N := N) (env := (nx, .tup [.bool true, .int .i64 (pos : Int), .int .i32 ((Utf8.decode s pos).1 : Int)]) :: (it, .raw (itv w.heap.size)) :: E pos) (H := H) (ty := ty4) (x := .tmp nx) (i := 0) (v := .bool true) (get_put_same ((it, .raw (itv w.heap.size)) :: E pos) nx (.tup [.bool true, .int .i64 (pos : Int), .int .i32 ((Utf8.decode s pos).1 : Int)])) rfl) S1 _ _ c3
    unfold Oper.wp
    rw [hru]
    refine hnext2 _ _ ?_
    have c4 := c3.put (d := some okt) (Ext.refl S1 _) c3.heap (by rintro _ ⟨⟩; exact hok) hvu
    refine wpList_nil ?_
    have hevok := c4.ev (.tmp okt)
    rw [show ∀ e : Env, aev (Av.put e (some okt) (.bool true)) (.tmp okt) = .bool true from fun e => get_put_same _ _ _] at hevok
    generalize hu2 : Act.eval _ (.tmp okt) = u2 at hevok
    cases hevok
    refine wp_seq (wp_cond_true hu2 (wp_skip ?_))
    refine wp_mono (round pos w.heap.size ⟨S1, w1.iterAt w.heap.size s (pos + (Utf8.decode s pos).2)⟩ hp hI (by rw [← h2.cr.heap.len]) S1 _ _ c4 (Ext.refl _ _)) ?_
    intro e a' w' ⟨x', env', H', S', q, r, c, k⟩
    have kx : Ext B.S B.w S' w' := h2.ext.trans k
    cases r with
    | nrm =>
      obtain ⟨hI', hs, rfl⟩ := q
      have hr : w.heap.size < (w1.iterAt w.heap.size s (pos + (Utf8.decode s pos).2)).heap.size := (Array.getElem?_eq_some_iff.1 h2.obj).1
      have hno := h2.cr.heap.notOwn (r := w.heap.size) (by intro arr ty fz e; rw [h2.obj] at e; cases e)
      refine ⟨s.size - (pos + (Utf8.decode s pos).2), by have := decode_pos s pos; omega, pos + (Utf8.decode s pos).2, S', rfl, hI', c.sub hs, kx, ?_, h1.new⟩
      rw [(k.stp.old _ hr hno).2]
      exact h2.obj
    | @brk i =>
      simp only [AX.andThen, AX.inBlock] at q
      simp only [Exit.then, Exit.inBlock]
      split at q
      · rename_i e; rw [if_pos e]; exact ⟨_, env', H', S', q, .nrm, c, kx⟩
      · rename_i e; rw [if_neg e]; exact ⟨_, env', H', S', q, .brk, c, kx⟩
    | ret => exact ⟨_, env', H', S', q, .ret, c, kx⟩
    | pan hv => exact ⟨_, env', H', S', q, .pan hv, c, kx⟩
  · have hrn : ∀ pos' after guard, (execOp a1.eval ⟨some nx, .next (.tmp it) true, ty3, pos', after, guard⟩).run P w1 = .ok (.value (.tuple #[.bool false])) w1 := by
      intro pos' after guard
      simp only [execOp, hevit, Sem.run_bind, Lib.run_next_end_at w1 w.heap.size s pos ty3 h1.obj hp, Result.andThen_ok, Sem.run_pure]
    unfold Oper.wp
    rw [hrn]
    refine hnext _ _ ?_
    have c3 := h1.cr.put (d := some nx) (v := .tup [.bool false]) (Ext.refl S1 _) h1.cr.heap (by rintro _ ⟨⟩; exact hnx) (.tup (vs := #[.bool false]) rfl fun j v u hv hu => by
      match j, hv, hu with
      | 0, hv, hu => simp at hv hu; subst hv; subst hu; exact .bool
      | j + 1, hv, hu => simp at hv)
    refine wpList_plain rfl fun next2 hnext2 => ?_
    obtain ⟨u, hru, hvu⟩ := (o_extract (P := P) (N := N) (env := (nx, .tup [.bool false]) :: (it, .raw (itv w.heap.size)) :: E pos) (H := H) (ty := ty4) (x := .tmp nx) (i := 0) (v := .bool false) (get_put_same ((it, .raw (itv w.heap.size)) :: E pos) nx (.tup [.bool false])) rfl) S1 _ _ c3
    unfold Oper.wp
    rw [hru]
    refine hnext2 _ _ ?_
    have c4 := c3.put (d := some okt) (Ext.refl S1 _) c3.heap (by rintro _ ⟨⟩; exact hok) hvu
    refine wpList_nil ?_
    have hevok := c4.ev (.tmp okt)
    rw [show ∀ e : Env, aev (Av.put e (some okt) (.bool false)) (.tmp okt) = .bool false from fun e => get_put_same _ _ _] at hevok
    generalize hu2 : Act.eval _ (.tmp okt) = u2 at hevok
    cases hevok
    refine wp_seq (wp_cond_false hu2 (wp_exit ?_))
    simp only [Exit.then, Exit.inBlock, if_true]
    exact ⟨.nrm, _, H, S1, fin pos w.heap.size hp hI, .nrm, c4, h1.ext⟩

theorem aw_scope {c : Code} (h : AWp P N B c Q env H) : AWp P N B (.scope c) Q env H := by
  intro S a w hc hb
  refine wp_scope_straight (wp_mono (h S a w hc hb) ?_)
  intro e a' w' ⟨x, env', H', S', q, r, c, k⟩
  cases r with
  | nrm => exact ⟨_, env', H', S', q, .nrm, c, k⟩
  | brk => exact ⟨_, env', H', S', q, .brk, c, k⟩
  | ret => exact ⟨_, env', H', S', q, .ret, c, k⟩
  | pan hv => exact ⟨_, env', H', S', q, .pan hv, c, k⟩
end
end Go.Av

/-
  CALLS OF WHAT THE MODEL ITSELF ANSWERS (a body that is not Go); a rune as1 a text.
-/
namespace Go.Av
section
variable {P : Program} {N : Nat} {B : Base} {Q : Post} {env : Env} {H : Heap} {ty : TypeId}
theorem o_extern {f : FuncId} {fn : Func} {e : Array Value → Sem Value} {xs : Array Operand} {ts : Array TypeId} {v : AV} (hf : P.funcs[f]? = some fn) (hname : (fn.name == "runtime.NumGoroutine") = false) (hb : fn.body.isNone = true) (hn : Extern.findNext fn = none) (he : Extern.find fn = some e)
    (h : ∀ S a w, CR N env H S a w → ∃ u, (e (xs.map a.eval)).run P w = .ok u w ∧ VR (own S) w S v u) :
    V1 P N (.call { callee := .value (.func f), args := xs, argTypes := ts }) ty env H v := by
  intro S a w hc
  obtain ⟨u, h1, h2⟩ := h S a w hc
  refine ⟨u, fun dst pos after guard => ?_, h2⟩
  simp [execOp, resolve, Act.eval, Deferred.ofValue, invoke, run_callFunc_extern hf hname hb hn he, h1, Result.andThen]
theorem o_indexByteStr {f : FuncId} {fn : Func} {x y : Operand} {ts : Array TypeId} {s : ByteArray} {c : Int} (hf : P.funcs[f]? = some fn) (hname : (fn.name == "runtime.NumGoroutine") = false) (hb : fn.body.isNone = true) (hn : Extern.findNext fn = none) (he : Extern.find fn = some Extern.BytealgIndexByte.indexByte)
    (hx : aev env x = .str s) (hy : aev env y = .int .u8 c) : V1 P N (.call { callee := .value (.func f), args := #[x, y], argTypes := ts }) ty env H (.int .i64 (Lib.indexByte s.data.toList c.toNat.toUInt8)) := by
  refine o_extern hf hname hb hn he fun S a w hc => ?_
  have h1 := hc.ev x
  have h2 := hc.ev y
  rw [hx] at h1
  rw [hy] at h2
  refine ⟨.int .i64 (Lib.indexByte s.data.toList c.toNat.toUInt8), ?_, .int⟩
  have e : (#[x, y] : Array Operand).map a.eval = #[a.eval x, a.eval y] := by simp
  rw [e]
  generalize a.eval x = u at h1
  generalize a.eval y = u2 at h2
  cases h1
  cases h2
  exact Lib.run_indexByteString s c w
theorem o_runeStr {x : Operand} {s d : TypeId} {k : IntKind} {n : Int} [hs : UdI P s (.int k)] [hd : UdI P d .string] (hx : aev env x = .int k n) : V1 P N (.convert s d x) ty env H (.str (Utf8.encode n)) := by
  intro S a w hc
  have h1 := hc.ev x
  rw [hx] at h1
  refine ⟨.string (Utf8.encode n), fun dst pos after guard => ?_, .str⟩
  generalize hu : a.eval x = u at h1
  cases h1
  simp [execOp, hu, convert, run_und hs.ud, run_und hd.ud, Conv.intToString]
/-- A literal of many that is never written again. -/
theorem g_litL {t e : TypeId} {n sz : Nat} {parts : Array (Nat × Operand)} {agg : Bool} {zs cs : List AV} (rows : List (List AV)) [hu : SlI P t e] [TyI P e agg sz] [hz : ZcI P e zs] (hn : zs.length = sz) (hp : 0 < sz) (h0 : 0 < n) (hbig : n * sz ≤ 16777216)
    (hf : afill ((List.range n).map fun i => (i * sz, sz)) (List.replicate n zs).flatten (parts.toList.map fun (i, x) => (i, aev env x)) = some cs) (hrows : rows.flatten = cs) (hw : ∀ r ∈ rows, r.length = sz) (hlen : rows.length = n) (hb : ∀ r ∈ rows, AV.bels 0 r = true) :
    V2 P N (.buildSlice t n parts) ty env H (.pl rows) H := by
  have h1 := o_buildSliceL (P := P) (N := N) (env := env) (H0 := H) (L := []) (ty := ty) (t := t) (e := e) (agg := agg) (zs := zs) hn hp h0 hbig hf hrows hw rfl
  have := V2.freezeL (L := []) h1 rfl rfl hlen hb
  simpa using this
/-- A call of a function value. -/
theorem V2.callv {f : Nat} {x : Operand} {xs : Array Operand} {ts : Array TypeId} {v : AV} {ps qs vs : List AV} {M : Heap} [FnI P f] (hac : AC P f vs H (Ret v M)) (hx : aev env x = .fn (.func f) ps qs) (hvs : ps ++ xs.toList.map (aev env) ++ qs = vs) :
    V2 P N (.call { callee := .value x, args := xs, argTypes := ts }) ty env H v M := by
  subst hvs
  intro dst pos after guard S a w hc next Q hn hp
  refine AOp.call (P := P) (N := N) (o := ⟨dst, .call { callee := .value x, args := xs, argTypes := ts }, ty, pos, after, guard⟩) (f := f) (fun S a w hc => ?_) hac S a w hc next Q ?_ ?_
  · have hv := hc.ev x
    rw [hx] at hv
    generalize he : a.eval x = u at hv
    cases hv with
    | @fn _ _ _ _ p' q' hp hq h1 h2 =>
      refine ⟨p' ++ xs.map a.eval ++ q', ?_, (VRs.append (VRs.append ⟨hp, h1⟩ (evs_ok hc xs)) ⟨hq, h2⟩)⟩
      simp [execOp, resolve, he, Deferred.ofValue, invoke, run_callFunc (P := P) (f := f)]
  · rintro v' u H' S' w' ⟨e, rfl⟩
    injection e with e
    subst e
    exact hn _ u _ S' w' ⟨rfl, rfl⟩
  · rintro v' u H' S' w' ⟨e, _⟩
    cases e
end
theorem encode_high {n : Int} (h : 128 ≤ n) (hv : Utf8.valid n = true) : 2 ≤ (Utf8.encode n).data.toList.length ∧ (Utf8.encode n).data.toList.length ≤ 4 ∧ ∀ b ∈ (Utf8.encode n).data.toList, 128 ≤ b.toNat := by
  have hn : n.toNat < 1114112 ∧ 128 ≤ n.toNat := by
    simp [Utf8.valid] at hv
    omega
  unfold Utf8.encode
  rw [if_pos hv]
  generalize n.toNat = c at hn
  simp only
  rw [if_neg (by omega)]
  split
  · refine ⟨by simp, by simp, fun b hb => ?_⟩
    simp only [List.mem_cons, List.not_mem_nil, or_false] at hb
    rcases hb with rfl | rfl <;> simp <;> omega
  · split
    · refine ⟨by simp, by simp, fun b hb => ?_⟩
      simp only [List.mem_cons, List.not_mem_nil, or_false] at hb
      rcases hb with rfl | rfl | rfl <;> simp <;> omega
    · refine ⟨by simp, by simp, fun b hb => ?_⟩
      simp only [List.mem_cons, List.not_mem_nil, or_false] at hb
      rcases hb with rfl | rfl | rfl | rfl <;> simp <;> omega
theorem decode_high (s : ByteArray) (i : Nat) (h : 128 ≤ (s.get! i).toNat) : 128 ≤ (Utf8.decode s i).1 ∧ (Utf8.decode s i).1 ≤ 1114111 := by
  unfold Utf8.decode
  simp only [Nat.add_zero]
  rw [if_neg (by omega)]
  have hre : Utf8.runeError = 65533 := rfl
  repeat' split
  all_goals simp_all [Utf8.valid]
  all_goals omega
theorem decode_low (s : ByteArray) (i : Nat) (h : (s.get! i).toNat < 128) : Utf8.decode s i = ((s.get! i).toNat, 1) := by
  unfold Utf8.decode
  simp only [Nat.add_zero]
  rw [if_pos h]
end Go.Av

/-
  WHAT THE WORDS' OPERATIONS ARE, AND WHEN A LIST IS A SET (of no program).
-/
namespace Go.Av
theorem u64_nat (x : Nat) (h : x < 18446744073709551616) : (BitVec.ofInt IntKind.u64.bits (x : Int)).toNat = x := by
  show (BitVec.ofInt 64 (x : Int)).toNat = x
  rw [BitVec.ofInt_natCast, BitVec.toNat_ofNat]; exact Nat.mod_eq_of_lt (by omega)
theorem u64_wrap (x : Nat) (h : x < 18446744073709551616) : IntKind.u64.wrap (x : Int) = (x : Int) := by rw [IntKind.wrap_u64]; omega
theorem u64_or (x y : Nat) (hx : x < 18446744073709551616) (hy : y < 18446744073709551616) : IntKind.u64.wrap (BitVec.ofInt IntKind.u64.bits (x : Int) ||| BitVec.ofInt IntKind.u64.bits (y : Int)).toNat = ((x ||| y : Nat) : Int) := by
  rw [BitVec.toNat_or, u64_nat x hx, u64_nat y hy]
  exact u64_wrap _ (Nat.or_lt_two_pow (n := 64) hx hy)
theorem u64_and (x y : Nat) (hx : x < 18446744073709551616) (hy : y < 18446744073709551616) : IntKind.u64.wrap (BitVec.ofInt IntKind.u64.bits (x : Int) &&& BitVec.ofInt IntKind.u64.bits (y : Int)).toNat = ((x &&& y : Nat) : Int) := by
  rw [BitVec.toNat_and, u64_nat x hx, u64_nat y hy]
  exact u64_wrap _ (Nat.and_lt_two_pow (n := 64) _ hy)
theorem u64_andNot (f g : Nat → Bool) (i : Nat) : IntKind.u64.wrap (BitVec.ofInt IntKind.u64.bits (wd f i : Int) &&& ~~~ (BitVec.ofInt IntKind.u64.bits (wd g i : Int))).toNat = ((wd (fun n => f n && !g n) i : Nat) : Int) := by
  have e : (BitVec.ofInt IntKind.u64.bits (wd f i : Int) &&& ~~~ (BitVec.ofInt IntKind.u64.bits (wd g i : Int))).toNat = wd (fun n => f n && !g n) i := by
    rw [BitVec.toNat_and, BitVec.toNat_not, u64_nat _ (wd_lt f i), u64_nat _ (wd_lt g i)]
    apply Nat.eq_of_testBit_eq; intro j
    rw [Nat.testBit_and, show (2 : Nat) ^ IntKind.u64.bits - 1 - wd g i = 2 ^ 64 - (wd g i + 1) by show 2 ^ 64 - 1 - wd g i = _; omega, Nat.testBit_two_pow_sub_succ (wd_lt g i), wd_bit, wd_bit, wd_bit]
    cases decide (j < 64) <;> simp
  rw [e]
  exact u64_wrap _ (wd_lt _ _)
/-- A word with the lowest bit less. -/
theorem u64_pred (x : Nat) (h0 : x ≠ 0) (h : x < 18446744073709551616) : IntKind.u64.wrap ((x : Int) - 1) = ((x - 1 : Nat) : Int) := by rw [IntKind.wrap_u64]; omega

/-! ### lists that are sets -/
def okB (l : List Int) (i : Nat) : Bool := match l[i]? with
  | none => true
  | some n => decide (0 ≤ n) && decide (n < 256) && (i == 0 || match l[i - 1]? with
    | some m => decide (m < n)
    | none => true)
def sok (l : List Int) : Bool := (List.range l.length).all (okB l)
theorem sok_false {l : List Int} {k : Nat} (hk : k < l.length) (h : okB l k = false) : sok l = false := by
  cases hs : sok l with
  | false => rfl
  | true =>
    have := List.all_eq_true.1 hs k (by simpa using hk)
    rw [h] at this; cases this
theorem sok_true {l : List Int} (h : ∀ k, k < l.length → okB l k = true) : sok l = true := List.all_eq_true.2 fun k hk => h k (by simpa using hk)
theorem sok_get {l : List Int} (h : sok l = true) {k : Nat} (hk : k < l.length) : okB l k = true := List.all_eq_true.1 h k (by simpa using hk)
theorem okB_get {l : List Int} {k : Nat} {n : Int} (hn : l[k]? = some n) : okB l k = (decide (0 ≤ n) && decide (n < 256) && (k == 0 || match l[k - 1]? with
    | some m => decide (m < n)
    | none => true)) := by rw [okB, hn]
theorem okB_range {l : List Int} {k : Nat} {n : Int} (hn : l[k]? = some n) (h : okB l k = true) : 0 ≤ n ∧ n < 256 := by
  rw [okB_get hn] at h
  simp only [Bool.and_eq_true, decide_eq_true_eq] at h
  exact h.1
/-- Is a number in a list? -/
def inl (l : List Int) (j : Nat) : Bool := l.any fun n => n == (j : Int)
/-- How far a list is a set. -/
def okn (l : List Int) : Nat := ((List.range l.length).takeWhile (okB l)).length
theorem takeWhile_range {p : Nat → Bool} {n k : Nat} (hk : k ≤ n) (h : ∀ i, i < k → p i = true) (h2 : k < n → p k = false) : ((List.range n).takeWhile p).length = k := by
  obtain ⟨d, rfl⟩ : ∃ d, n = k + d := ⟨n - k, by omega⟩
  rw [List.range_add, List.takeWhile_append_of_pos (by intro i hi; exact h i (by simpa using hi))]
  cases d with
  | zero => simp
  | succ d =>
    have : (List.map (fun x => k + x) (List.range (d + 1))).takeWhile p = [] := by
      rw [List.range_succ_eq_map, List.map_cons, Nat.add_zero, List.takeWhile_cons_of_neg (by rw [h2 (by omega)]; simp)]
    rw [this]; simp
theorem okn_at {l : List Int} {k : Nat} (hk : k < l.length) (h : ∀ i, i < k → okB l i = true) (h2 : okB l k = false) : okn l = k := takeWhile_range (Nat.le_of_lt hk) h fun _ => h2
theorem okn_all {l : List Int} (h : ∀ i, i < l.length → okB l i = true) : okn l = l.length := takeWhile_range (Nat.le_refl _) h fun h => absurd h (Nat.lt_irrefl _)
/-- The last number ahead of a place. -/
def lastN (l : List Int) (k : Nat) : Int := if k = 0 then -1 else (l[k - 1]?).getD 0
theorem okB_last {l : List Int} {k : Nat} {n : Int} (hn : l[k]? = some n) (h : ∀ i, i < k → okB l i = true) : okB l k = !(decide (n ≤ lastN l k) || decide (256 ≤ n)) := by
  rw [okB_get hn, lastN]
  cases k with
  | zero => simp; rw [Bool.eq_iff_iff]; simp; omega
  | succ k =>
    have hk : k < l.length := by have := (List.getElem?_eq_some_iff.1 hn).1; omega
    have hm : l[k]? = some l[k] := List.getElem?_eq_getElem hk
    have := okB_range hm (h k (by omega))
    simp only [Nat.add_sub_cancel, hm, Option.getD_some]
    rw [Bool.eq_iff_iff]
    simp
    omega
/-- The words of a list's beginning. -/
def fpre (l : List Int) (k : Nat) : Nat → Bool := inl (l.take k)
theorem fpre_step {l : List Int} {k : Nat} {n : Nat} (hn : l[k]? = some (n : Int)) : fpre l (k + 1) = fun m => fpre l k m || m == n := by
  funext m
  rw [fpre, fpre, take_snoc_get hn, inl, inl, List.any_append]
  congr 1
  rw [List.any_cons, List.any_nil, Bool.or_false, Bool.eq_iff_iff]
  simp
  omega
theorem fpre_zero (l : List Int) : fpre l 0 = fun _ => false := rfl
theorem fpre_all (l : List Int) : fpre l l.length = inl l := by rw [fpre, List.take_length]
/-- Four words. -/
def eWn (w : Nat → Nat) : List AV := (List.range 4).map fun j => .int .u64 ((w j : Nat) : Int)
theorem eWn_get (w : Nat → Nat) {k : Nat} (h : k < 4) : (eWn w)[k]? = some (.int .u64 ((w k : Nat) : Int)) := by simp [eWn, List.getElem?_map, List.getElem?_range h]
theorem eWn_set (w : Nat → Nat) {k : Nat} (h : k < 4) (x : Nat) : (eWn w).take k ++ [AV.int .u64 (x : Int)] ++ (eWn w).drop (k + 1) = eWn fun j => if j = k then x else w j := by
  match k, h with
  | 0, _ => rfl
  | 1, _ => rfl
  | 2, _ => rfl
  | 3, _ => rfl
theorem eWn_congr {w v : Nat → Nat} (h : ∀ j, j < 4 → w j = v j) : eWn w = eWn v := List.map_congr_left fun j hj => by rw [h j (by simpa using hj)]
end Go.Av

/-
  SETS AS LISTS: two that have the same numbers are one; what is joined, met and taken away, number by number.
-/
namespace Go.Av
theorem sorted_ext : ∀ {a b : List Int}, a.Pairwise (· < ·) → b.Pairwise (· < ·) → (∀ x, x ∈ a ↔ x ∈ b) → a = b
  | [], [], _, _, _ => rfl
  | [], y :: b, _, _, h => absurd ((h y).2 List.mem_cons_self) (by simp)
  | x :: a, [], _, _, h => absurd ((h x).1 List.mem_cons_self) (by simp)
  | x :: a, y :: b, ha, hb, h => by
    rw [List.pairwise_cons] at ha hb
    have e : x = y := by
      rcases List.mem_cons.1 ((h x).1 List.mem_cons_self) with e | e
      · exact e
      · rcases List.mem_cons.1 ((h y).2 List.mem_cons_self) with e' | e'
        · exact e'.symm
        · have := hb.1 x e; have := ha.1 y e'; omega
    subst e
    congr 1
    refine sorted_ext ha.2 hb.2 fun z => ⟨fun hz => ?_, fun hz => ?_⟩
    · rcases List.mem_cons.1 ((h z).1 (List.mem_cons_of_mem _ hz)) with e | e
      · have := ha.1 z hz; omega
      · exact e
    · rcases List.mem_cons.1 ((h z).2 (List.mem_cons_of_mem _ hz)) with e | e
      · have := hb.1 z hz; omega
      · exact e
theorem sok_get_range {l : List Int} (h : sok l = true) {k : Nat} (hk : k < l.length) : 0 ≤ l[k] ∧ l[k] < 256 := okB_range (List.getElem?_eq_getElem hk) (sok_get h hk)
theorem sok_step {l : List Int} (h : sok l = true) {k : Nat} (hk : k + 1 < l.length) : l[k] < l[k + 1] := by
  have h1 := sok_get h hk
  rw [okB_get (List.getElem?_eq_getElem hk)] at h1
  simp only [Nat.add_sub_cancel, List.getElem?_eq_getElem (Nat.lt_of_succ_lt hk), Bool.and_eq_true, Bool.or_eq_true, decide_eq_true_eq, beq_iff_eq] at h1
  omega
theorem sok_sorted {l : List Int} (h : sok l = true) : l.Pairwise (· < ·) := by
  rw [List.pairwise_iff_getElem]
  intro i j hi hj hij
  obtain ⟨d, rfl⟩ : ∃ d, j = i + 1 + d := ⟨j - i - 1, by omega⟩
  induction d with
  | zero => exact sok_step h hj
  | succ d ih =>
    have h1 := ih (by omega) (by omega)
    have h2 := sok_step h (k := i + 1 + d) (by omega)
    exact Int.lt_trans h1 h2
theorem sok_of_sorted {l : List Int} (h : l.Pairwise (· < ·)) (hr : ∀ x ∈ l, 0 ≤ x ∧ x < 256) : sok l = true := by
  refine sok_true fun k hk => ?_
  rw [okB_get (List.getElem?_eq_getElem hk)]
  have h1 := hr l[k] (List.getElem_mem hk)
  simp only [Bool.and_eq_true, Bool.or_eq_true, decide_eq_true_eq, beq_iff_eq]
  refine ⟨h1, ?_⟩
  cases k with
  | zero => exact .inl rfl
  | succ k =>
    refine .inr ?_
    rw [Nat.add_sub_cancel, List.getElem?_eq_getElem (by omega)]
    exact decide_eq_true (List.pairwise_iff_getElem.1 h k (k + 1) (by omega) hk (by omega))
theorem mem_setl {f : Nat → Bool} {x : Int} : x ∈ setl f ↔ ∃ n : Nat, x = n ∧ n < 256 ∧ f n = true := by
  unfold setl
  simp only [List.mem_map, List.mem_filter, List.mem_range]
  constructor
  · rintro ⟨n, ⟨h1, h2⟩, rfl⟩; exact ⟨n, rfl, h1, h2⟩
  · rintro ⟨n, rfl, h1, h2⟩; exact ⟨n, ⟨h1, h2⟩, rfl⟩
theorem setl_sorted (f : Nat → Bool) : (setl f).Pairwise (· < ·) := by
  unfold setl
  rw [List.pairwise_map]
  exact (List.pairwise_lt_range.filter _).imp (by intro a b h; omega)
theorem sok_setl (f : Nat → Bool) : sok (setl f) = true := sok_of_sorted (setl_sorted f) fun x hx => by
  obtain ⟨n, rfl, h, _⟩ := mem_setl.1 hx
  omega
theorem inl_mem {l : List Int} {n : Nat} : inl l n = true ↔ (n : Int) ∈ l := by
  unfold inl
  rw [List.any_eq_true]
  constructor
  · rintro ⟨x, hx, h⟩; obtain rfl : x = n := by simpa using h
    exact hx
  · intro h; exact ⟨_, h, by simp⟩
theorem inl_setl (f : Nat → Bool) (n : Nat) : inl (setl f) n = (decide (n < 256) && f n) := by
  rw [Bool.eq_iff_iff, inl_mem, mem_setl]
  simp only [Bool.and_eq_true, decide_eq_true_eq]
  constructor
  · rintro ⟨m, h, h1, h2⟩; obtain rfl : n = m := by omega
    exact ⟨h1, h2⟩
  · rintro ⟨h1, h2⟩; exact ⟨n, rfl, h1, h2⟩
theorem inl_256 {l : List Int} (h : sok l = true) {n : Nat} (hn : inl l n = true) : n < 256 := by
  obtain ⟨k, hk, e⟩ := List.getElem_of_mem (inl_mem.1 hn)
  have := sok_get_range h hk
  omega
theorem sok_mem {l : List Int} (h : sok l = true) {x : Int} (hx : x ∈ l) : 0 ≤ x ∧ x < 256 := by
  obtain ⟨k, hk, rfl⟩ := List.getElem_of_mem hx
  exact sok_get_range h hk
/-- Sets with the same numbers are one. -/
theorem sok_ext {a b : List Int} (ha : sok a = true) (hb : sok b = true) (h : ∀ n, inl a n = inl b n) : a = b := by
  refine sorted_ext (sok_sorted ha) (sok_sorted hb) fun x => ?_
  constructor
  · intro hx
    have := sok_mem ha hx
    have h1 : inl a x.toNat = true := inl_mem.2 (by rw [Int.toNat_of_nonneg this.1]; exact hx)
    rw [h] at h1
    have := inl_mem.1 h1
    rwa [Int.toNat_of_nonneg (by omega)] at this
  · intro hx
    have := sok_mem hb hx
    have h1 : inl b x.toNat = true := inl_mem.2 (by rw [Int.toNat_of_nonneg this.1]; exact hx)
    rw [← h] at h1
    have := inl_mem.1 h1
    rwa [Int.toNat_of_nonneg (by omega)] at this
theorem setl_nil {f : Nat → Bool} : setl f = [] ↔ ∀ n, n < 256 → f n = false := by
  constructor
  · intro h n hn
    cases hf : f n with
    | false => rfl
    | true =>
      have : (n : Int) ∈ setl f := mem_setl.2 ⟨n, rfl, hn, hf⟩
      rw [h] at this; cases this
  · intro h
    refine List.eq_nil_iff_forall_not_mem.2 fun x hx => ?_
    obtain ⟨n, rfl, h1, h2⟩ := mem_setl.1 hx
    rw [h n h1] at h2; cases h2
theorem sok_nil : sok [] = true := by decide
theorem inl_nil (n : Nat) : inl [] n = false := rfl
end Go.Av

/-
  THE SCHEDULER's PARTS, plainly: things, how they are, holdings.
-/
namespace Go.Av
set_option linter.unusedVariables false

/-! ### all places of a list -/
def allI (p : Nat → Bool) (n : Nat) : Bool := (List.range n).all p
theorem allI_true {p : Nat → Bool} {n : Nat} (h : ∀ i, i < n → p i = true) : allI p n = true := List.all_eq_true.2 fun k hk => h k (by simpa using hk)
theorem allI_get {p : Nat → Bool} {n k : Nat} (h : allI p n = true) (hk : k < n) : p k = true := List.all_eq_true.1 h k (by simpa using hk)
theorem allI_false {p : Nat → Bool} {n k : Nat} (hk : k < n) (h : p k = false) : allI p n = false := by
  cases e : allI p n with
  | false => rfl
  | true => rw [allI_get e hk] at h; cases h
theorem allI_succ (p : Nat → Bool) (n : Nat) : allI p (n + 1) = (allI p n && p n) := by rw [allI, List.range_succ, List.all_append]; simp [allI]
/-- The places of a list at which something holds. -/
def idx (p : Nat → Bool) (n : Nat) : List Int := ((List.range n).filter p).map fun j : Nat => (j : Int)
theorem idx_succ (p : Nat → Bool) (n : Nat) : idx p (n + 1) = idx p n ++ if p n then [(n : Int)] else [] := by
  rw [idx, List.range_succ, List.filter_append, List.map_append, idx]
  congr 1
  cases h : p n <;> simp [h]
theorem idx_zero (p : Nat → Bool) : idx p 0 = [] := rfl
theorem idx_len (p : Nat → Bool) (n : Nat) : (idx p n).length ≤ n := by
  rw [idx, List.length_map]
  exact Nat.le_trans (List.length_filter_le _ _) (by simp)
theorem idx_mem {p : Nat → Bool} {n : Nat} {x : Int} : x ∈ idx p n ↔ ∃ k : Nat, x = k ∧ k < n ∧ p k = true := by
  simp only [idx, List.mem_map, List.mem_filter, List.mem_range]
  constructor
  · rintro ⟨k, ⟨h1, h2⟩, rfl⟩; exact ⟨k, rfl, h1, h2⟩
  · rintro ⟨k, rfl, h1, h2⟩; exact ⟨k, ⟨h1, h2⟩, rfl⟩
theorem idx_sorted (p : Nat → Bool) (n : Nat) : (idx p n).Pairwise (· < ·) := by
  unfold idx
  rw [List.pairwise_map]
  exact (List.pairwise_lt_range.filter _).imp fun h => by omega
theorem idx_sok (p : Nat → Bool) {n : Nat} (h : n ≤ 256) : sok (idx p n) = true := sok_of_sorted (idx_sorted p n) fun x hx => by
  obtain ⟨k, rfl, h1, _⟩ := idx_mem.1 hx
  omega

/-! ### things -/
structure Thing where
  kind : Int
  up : Int
  tag : ByteArray
  deriving DecidableEq
abbrev eThing (t : Thing) : List AV := [.int .i64 t.kind, .int .i64 t.up, .str t.tag]
def thing0 : Thing := ⟨0, -1, ⟨#[]⟩⟩
def gpart (kind up : Int) : Bool := (decide (kind = 1) && decide (up = 0)) || (decide (kind = 2) && (decide (up = 0) || decide (up = 1))) || ((decide (kind = 3) || decide (kind = 4)) && decide (up = 2))
def kindAt (g : List Thing) (n : Nat) : Int := match g[n]? with
  | some t => t.kind
  | none => 0
def upAt (g : List Thing) (n : Nat) : Int := match g[n]? with
  | some t => t.up
  | none => -1
end Go.Av

/-
  SPECS, JOBS, TIMES, TAGS, what is joined and met: plainly, on no program.
-/
namespace Go.Av
set_option linter.unusedVariables false
def inLet (c : Int) : Bool := (decide (97 ≤ c) && decide (c ≤ 122)) || (decide (48 ≤ c) && decide (c ≤ 57))
def tagb (b : UInt8) : Bool := inLet (b.toNat : Int)
/-- A tag of a node? -/
def tagok (s : ByteArray) : Bool := decide ((s.size : Int) ≤ 16) && s.data.toList.all tagb
def near (t : Int) : Int := max 0 (min t 4611686018427387904)
def plus (t l : Int) : Int := near t + min (near l) (4611686018427387904 - near t)
theorem near_in (t : Int) : 0 ≤ near t ∧ near t ≤ 4611686018427387904 := by unfold near; omega
theorem plus_in (t l : Int) : 0 ≤ plus t l ∧ plus t l ≤ 4611686018427387904 := by unfold plus; have := near_in t; have := near_in l; omega
structure Spec where
  nodes : Int
  cores : Int
  gpus : Int
  tag : ByteArray
  whole : Bool
  long : Int
  prio : Int
  deriving DecidableEq
abbrev eSpec (s : Spec) : List AV := [.int .i64 s.nodes, .int .i64 s.cores, .int .i64 s.gpus, .str s.tag, .bool s.whole, .int .i64 s.long, .int .i64 s.prio]
def spec0 : Spec := ⟨0, 0, 0, ⟨#[]⟩, false, 0, 0⟩
def smany (s : Spec) : Bool := (decide (1 ≤ s.nodes) && decide (s.nodes ≤ 64)) && (decide (0 ≤ s.cores) && decide (s.cores ≤ 64)) && (decide (0 ≤ s.gpus) && decide (s.gpus ≤ 64))
def ssome (s : Spec) : Bool := s.whole || decide (0 < s.cores) || decide (0 < s.gpus)
def sright (s : Spec) : Bool := smany s && ssome s && tagok s.tag && (decide (1 ≤ s.long) && decide (s.long ≤ 1099511627776)) && (decide (-1000 ≤ s.prio) && decide (s.prio ≤ 1000))
theorem sright_facts {s : Spec} (h : sright s = true) : 1 ≤ s.nodes ∧ s.nodes ≤ 64 ∧ 0 ≤ s.cores ∧ s.cores ≤ 64 ∧ 0 ≤ s.gpus ∧ s.gpus ≤ 64 ∧ 1 ≤ s.long ∧ s.long ≤ 1099511627776 ∧ -1000 ≤ s.prio ∧ s.prio ≤ 1000 := by
  simp only [sright, smany, Bool.and_eq_true, decide_eq_true_eq] at h
  omega
def sEnds (s : Spec) (t : Int) : Int := plus t (if sright s then s.long else 0)
structure Job where
  id : Int
  spec : Spec
  needs : List Int
  state : Int
  came : Int
  frm : Int
  to : Int
  deriving DecidableEq
def tm (t : Int) : Bool := decide (0 ≤ t) && decide (t ≤ 4611686018427387904)
def ndB (id : Int) (l : List Int) (i : Nat) : Bool := match l[i]? with
  | none => true
  | some n => decide (1 ≤ n) && decide (n < id) && (i == 0 || match l[i - 1]? with
    | some m => decide (m < n)
    | none => true)
def ndall (id : Int) (l : List Int) : Bool := (List.range l.length).all (ndB id l)
def jneeds (j : Job) : Bool := decide (j.needs.length ≤ 16) && ndall j.id j.needs
theorem nd_false {id : Int} {l : List Int} {k : Nat} (hk : k < l.length) (h : ndB id l k = false) : ndall id l = false := by
  cases hs : ndall id l with
  | false => rfl
  | true =>
    have := List.all_eq_true.1 hs k (by simpa using hk)
    rw [h] at this; cases this
theorem nd_true {id : Int} {l : List Int} (h : ∀ k, k < l.length → ndB id l k = true) : ndall id l = true := List.all_eq_true.2 fun k hk => h k (by simpa using hk)
theorem ndB_get {id : Int} {l : List Int} {k : Nat} {n : Int} (hn : l[k]? = some n) : ndB id l k = (decide (1 ≤ n) && decide (n < id) && (k == 0 || match l[k - 1]? with
    | some m => decide (m < n)
    | none => true)) := by rw [ndB, hn]
def jbegun (j : Job) : Bool := tm j.frm && decide (j.came ≤ j.frm)
def jended (j : Job) : Bool := tm j.to && decide (max j.came j.frm ≤ j.to)
def jtimes (j : Job) : Bool :=
  if j.state = 0 ∨ j.state = 1 then j.frm == 0 && j.to == 0
  else if j.state = 2 then jbegun j && j.to == 0
  else if j.state = 3 ∨ j.state = 4 then jbegun j && jended j
  else if j.state = 5 then (jbegun j || j.frm == 0) && jended j
  else j.state == 6 && j.frm == 0 && jended j
def jright (j : Job) : Bool := decide (1 ≤ j.id) && decide (j.id ≤ 1073741824) && sright j.spec && jneeds j && tm j.came && jtimes j
theorem jtimes_ref {j : Job} (h : tm j.came = true) : jtimes j = (decide (0 ≤ j.state) && decide (j.state ≤ 6) && tm j.frm && tm j.to && (if j.state = 0 ∨ j.state = 1 ∨ j.state = 6 then decide (j.frm = 0) else decide (j.came ≤ j.frm) || (decide (j.state = 5) && decide (j.frm = 0))) && (if j.state < 3 then decide (j.to = 0) else decide (j.came ≤ j.to) && decide (j.frm ≤ j.to))) := by
  rw [Bool.eq_iff_iff]
  unfold jtimes jbegun jended tm at *
  simp only [Bool.and_eq_true, decide_eq_true_eq] at h
  repeat' split
  all_goals simp only [Bool.and_eq_true, Bool.or_eq_true, decide_eq_true_eq, beq_iff_eq]
  all_goals omega
def jnext (s w : Int) : Option Int :=
  if s = 0 ∧ w = 1 then some 1 else if s = 1 ∧ w = 2 then some 0 else if s = 0 ∧ w = 3 then some 2 else if s = 2 ∧ w = 4 then some 3 else if s = 2 ∧ w = 5 then some 4 else if s ≤ 2 ∧ w = 6 then some 5 else if s < 2 ∧ w = 7 then some 6 else none
def nx (s w : Int) : Int × Bool := match jnext s w with
  | some t => (t, true)
  | none => (s, false)
def jover (s : Int) : Bool := decide (3 ≤ s) && decide (s ≤ 6)
def jstep (j : Job) (s now : Int) : Job := ⟨j.id, j.spec, j.needs, s, j.came, if s = 2 then now else j.frm, if jover s then now else j.to⟩
def jbad (j : Job) (w now : Int) : Bool := !jright j || decide (w < 1) || decide (7 < w) || !tm now || decide (now < max j.came j.frm)
def jdo (j : Job) (w now : Int) : Job × Int := if jbad j w now then (j, 1) else match jnext j.state w with
  | none => (j, 8)
  | some s => (jstep j s now, 0)
theorem jright_state {j : Job} (h : jright j = true) : 0 ≤ j.state ∧ j.state ≤ 6 := by
  have h5 : tm j.came = true := by simp only [jright, Bool.and_eq_true] at h; exact h.1.2
  have ht : jtimes j = true := by simp only [jright, Bool.and_eq_true] at h; exact h.2
  rw [jtimes_ref h5] at ht
  simp only [Bool.and_eq_true, decide_eq_true_eq] at ht
  omega
theorem setN_len (f : Nat → Bool) (n : Nat) : (setN f n).length ≤ 64 * n := by
  rw [setN, List.length_map]
  exact Nat.le_trans (List.length_filter_le _ _) (by simp)
theorem setl_len (f : Nat → Bool) : (setl f).length ≤ 256 := setN_len f 4
def setop (op : Bool → Bool → Bool) (a b : List Int) : List Int := if sok a && sok b then setl (fun n => op (inl a n) (inl b n)) else []
theorem setop_len (op : Bool → Bool → Bool) (a b : List Int) : (setop op a b).length ≤ 256 := by
  unfold setop
  split
  · exact setl_len _
  · exact Nat.zero_le _
def spart (a b : List Int) : Bool := sok a && sok b && decide (setl (fun n => inl a n && !inl b n) = [])
def sapart (a b : List Int) : Bool := sok a && sok b && decide (setl (fun n => inl a n && inl b n) = [])
end Go.Av

/-
  THE LAWS OF SETS, plainly, on no program.
-/
namespace Go.Av
set_option linter.unusedVariables false
theorem inl_setop {op : Bool → Bool → Bool} {a b : List Int} (ha : sok a = true) (hb : sok b = true) (hop : op false false = false) (n : Nat) : inl (setop op a b) n = op (inl a n) (inl b n) := by
  rw [setop, ha, hb, Bool.and_self, if_pos rfl, inl_setl]
  by_cases hn : n < 256
  · simp [hn]
  · have h1 : inl a n = false := by
      cases h : inl a n with
      | false => rfl
      | true => exact absurd (inl_256 ha h) hn
    have h2 : inl b n = false := by
      cases h : inl b n with
      | false => rfl
      | true => exact absurd (inl_256 hb h) hn
    rw [h1, h2, hop]; simp
theorem sok_setop (op : Bool → Bool → Bool) (a b : List Int) : sok (setop op a b) = true := by
  unfold setop
  split
  · exact sok_setl _
  · exact sok_nil
theorem setop_nil {op : Bool → Bool → Bool} {a b : List Int} (ha : sok a = true) (hb : sok b = true) (hop : op false false = false) : setop op a b = [] ↔ ∀ n, op (inl a n) (inl b n) = false := by
  constructor
  · intro h n
    rw [← inl_setop ha hb hop, h]; rfl
  · intro h
    rw [setop, ha, hb, Bool.and_self, if_pos rfl, setl_nil]
    exact fun n _ => h n
theorem spart_iff {a b : List Int} : spart a b = true ↔ sok a = true ∧ sok b = true ∧ ∀ n, inl a n = true → inl b n = true := by
  unfold spart
  rw [Bool.and_eq_true, Bool.and_eq_true, decide_eq_true_eq, setl_nil]
  constructor
  · rintro ⟨⟨h1, h2⟩, h3⟩
    refine ⟨h1, h2, fun n hn => ?_⟩
    have := h3 n (inl_256 h1 hn)
    simpa [hn] using this
  · rintro ⟨h1, h2, h3⟩
    refine ⟨⟨h1, h2⟩, fun n _ => ?_⟩
    cases ha : inl a n with
    | false => rfl
    | true => simp [h3 n ha]
abbrev sjoin (a b : List Int) : List Int := setop (· || ·) a b
abbrev smeet (a b : List Int) : List Int := setop (· && ·) a b
abbrev sless (a b : List Int) : List Int := setop (fun x y => x && !y) a b
theorem filter_len (p : Int → Bool) : ∀ l : List Int, (l.filter p).length + (l.filter fun x => !p x).length = l.length
  | [] => rfl
  | x :: l => by
    have := filter_len p l
    cases h : p x <;> simp [h] <;> omega
section
variable {a b c : List Int}
theorem in_join (ha : sok a = true) (hb : sok b = true) (n : Nat) : inl (sjoin a b) n = (inl a n || inl b n) := inl_setop ha hb rfl n
theorem in_meet (ha : sok a = true) (hb : sok b = true) (n : Nat) : inl (smeet a b) n = (inl a n && inl b n) := inl_setop ha hb rfl n
theorem in_less (ha : sok a = true) (hb : sok b = true) (n : Nat) : inl (sless a b) n = (inl a n && !inl b n) := inl_setop ha hb rfl n
theorem join_comm (ha : sok a = true) (hb : sok b = true) : sjoin a b = sjoin b a := sok_ext (sok_setop _ _ _) (sok_setop _ _ _) fun n => by rw [in_join ha hb, in_join hb ha, Bool.or_comm]
theorem meet_comm (ha : sok a = true) (hb : sok b = true) : smeet a b = smeet b a := sok_ext (sok_setop _ _ _) (sok_setop _ _ _) fun n => by rw [in_meet ha hb, in_meet hb ha, Bool.and_comm]
theorem join_assoc (ha : sok a = true) (hb : sok b = true) (hc : sok c = true) : sjoin a (sjoin b c) = sjoin (sjoin a b) c := sok_ext (sok_setop _ _ _) (sok_setop _ _ _) fun n => by
  rw [in_join ha (sok_setop _ _ _), in_join hb hc, in_join (sok_setop _ _ _) hc, in_join ha hb, Bool.or_assoc]
theorem join_parts (ha : sok a = true) (hb : sok b = true) : sjoin (smeet a b) (sless a b) = a := sok_ext (sok_setop _ _ _) ha fun n => by
  rw [in_join (sok_setop _ _ _) (sok_setop _ _ _), in_meet ha hb, in_less ha hb]
  cases inl a n <;> cases inl b n <;> rfl
theorem sapart_iff {a b : List Int} : sapart a b = true ↔ sok a = true ∧ sok b = true ∧ ∀ n, (inl a n && inl b n) = false := by
  unfold sapart
  rw [Bool.and_eq_true, Bool.and_eq_true, decide_eq_true_eq, setl_nil]
  constructor
  · rintro ⟨⟨h1, h2⟩, h3⟩
    refine ⟨h1, h2, fun n => ?_⟩
    by_cases hn : n < 256
    · exact h3 n hn
    · cases h : inl a n with
      | false => rfl
      | true => exact absurd (inl_256 h1 h) hn
  · rintro ⟨h1, h2, h3⟩
    exact ⟨⟨h1, h2⟩, fun n _ => h3 n⟩
theorem apart_parts (ha : sok a = true) (hb : sok b = true) : sapart (smeet a b) (sless a b) = true := sapart_iff.2 ⟨sok_setop _ _ _, sok_setop _ _ _, fun n => by
  rw [in_meet ha hb, in_less ha hb]; cases inl a n <;> cases inl b n <;> rfl⟩
theorem apart_less (ha : sok a = true) (hb : sok b = true) : sapart (sless a b) b = true := sapart_iff.2 ⟨sok_setop _ _ _, hb, fun n => by
  rw [in_less ha hb]; cases inl a n <;> cases inl b n <;> rfl⟩
theorem part_meet (ha : sok a = true) (hb : sok b = true) : spart (smeet a b) b = true := spart_iff.2 ⟨sok_setop _ _ _, hb, fun n h => by
  rw [in_meet ha hb, Bool.and_eq_true] at h; exact h.2⟩
theorem part_join (ha : sok a = true) (hc : sok c = true) : spart a (sjoin a c) = true := spart_iff.2 ⟨ha, sok_setop _ _ _, fun n h => by rw [in_join ha hc, h]; rfl⟩
/-- What is in a set, and asked further. -/
theorem setop_filter {op : Bool → Bool → Bool} (ha : sok a = true) (hb : sok b = true) (hop : ∀ y, op false y = false) : setop op a b = a.filter fun x => op true (inl b x.toNat) := by
  have h1 : (a.filter fun x => op true (inl b x.toNat)).Pairwise (· < ·) := (sok_sorted ha).filter _
  refine sok_ext (sok_setop _ _ _) (sok_of_sorted h1 fun x hx => sok_mem ha (List.mem_filter.1 hx).1) fun n => ?_
  rw [inl_setop ha hb (hop false), Bool.eq_iff_iff]
  rw [inl_mem (l := a.filter _), List.mem_filter]
  cases h : inl a n with
  | false =>
    have : ¬ (n : Int) ∈ a := fun k => by rw [inl_mem.2 k] at h; cases h
    simp [hop, this]
  | true => simp [inl_mem.1 h]
theorem parts_len (ha : sok a = true) (hb : sok b = true) : (smeet a b).length + (sless a b).length = a.length := by
  rw [smeet, sless, setop_filter ha hb (fun _ => rfl), setop_filter ha hb (fun _ => rfl)]
  simp only [Bool.true_and]
  exact filter_len _ a
theorem turn_less (ha : sok a = true) (hb : sok b = true) (hc : sok c = true) : sless a (sjoin b c) = sless (sless a b) c := sok_ext (sok_setop _ _ _) (sok_setop _ _ _) fun n => by
  rw [in_less ha (sok_setop _ _ _), in_join hb hc, in_less (sok_setop _ _ _) hc, in_less ha hb]
  cases inl a n <;> cases inl b n <;> cases inl c n <;> rfl
theorem turn_both (ha : sok a = true) (hb : sok b = true) : sjoin (sless a b) (sless b a) = sless (sjoin a b) (smeet a b) := sok_ext (sok_setop _ _ _) (sok_setop _ _ _) fun n => by
  rw [in_join (sok_setop _ _ _) (sok_setop _ _ _), in_less ha hb, in_less hb ha, in_less (sok_setop _ _ _) (sok_setop _ _ _), in_join ha hb, in_meet ha hb]
  cases inl a n <;> cases inl b n <;> rfl
theorem part_less (ha : sok a = true) (hb : sok b = true) : spart a b = decide ((sless a b).length = 0) := by
  rw [Bool.eq_iff_iff, spart_iff, decide_eq_true_eq, List.length_eq_zero_iff, sless, setop_nil ha hb rfl]
  constructor
  · rintro ⟨_, _, h⟩ n
    cases h1 : inl a n with
    | false => rfl
    | true => rw [h n h1]; rfl
  · intro h
    refine ⟨ha, hb, fun n h1 => ?_⟩
    have := h n
    rw [h1] at this
    simpa using this
theorem apart_meet (ha : sok a = true) (hb : sok b = true) : sapart a b = decide ((smeet a b).length = 0) := by
  rw [Bool.eq_iff_iff, sapart_iff, decide_eq_true_eq, List.length_eq_zero_iff, smeet, setop_nil ha hb rfl]
  exact ⟨fun h => h.2.2, fun h => ⟨ha, hb, h⟩⟩
theorem spart_all (a b : List Int) : spart a b = (sok a && sok b && decide ((smeet a b).length = a.length)) := by
  cases ha : sok a with
  | false => simp [spart, ha]
  | true =>
    cases hb : sok b with
    | false => simp [spart, hb]
    | true =>
      rw [part_less ha hb]
      have := parts_len ha hb
      simp only [Bool.true_and]
      exact decide_eq_decide.2 (by omega)
theorem sapart_all (a b : List Int) : sapart a b = (sok a && sok b && decide ((smeet a b).length = 0)) := by
  cases ha : sok a with
  | false => simp [sapart, ha]
  | true =>
    cases hb : sok b with
    | false => simp [sapart, hb]
    | true => rw [apart_meet ha hb]; simp
theorem join_not (h : (sok a && sok b) = false) : sjoin a b = [] := by rw [sjoin, setop, h]; rfl
end
end Go.Av

/-
  THE SCHEDULER, plainly: graphs, health, holdings, jobs, what fits and when, who begins, and the scheduler itself.
-/
namespace Go.Av
set_option linter.unusedVariables false

/-! ### graphs -/
def gokB (g : List Thing) (i : Nat) : Bool := match g[i + 1]? with
  | some t => decide (0 ≤ t.up) && decide (t.up ≤ (i : Int)) && gpart t.kind (kindAt g t.up.toNat) && tagok t.tag && (decide (t.tag = ⟨#[]⟩) || decide (t.kind = 2))
  | none => true
def gright (g : List Thing) : Bool := decide (1 ≤ g.length) && decide (g.length ≤ 256) && decide (g[0]? = some thing0) && allI (gokB g) (g.length - 1)
/-- Is a thing under another one? of the first k. -/
def uinL (g : List Thing) (n : Int) : Nat → List Bool
  | 0 => []
  | k + 1 => uinL g n k ++ [decide ((k : Int) = n) || (decide (0 ≤ upAt g k) && (uinL g n k).getD (upAt g k).toNat false)]
def gthere (g : List Thing) (n : Int) : Bool := decide (0 ≤ n) && decide (n < (g.length : Int)) && gright g
def gunder (g : List Thing) (n : Int) : List Int := if gthere g n then idx (fun k => (uinL g n g.length).getD k false) g.length else []
def kcnt (g : List Thing) (l : List Int) (c : Int) : Int := ((l.filter fun n => decide (n < (g.length : Int)) && decide (kindAt g n.toNat = c)).length : Int)
def gkinds (g : List Thing) (l : List Int) : List Int := if gright g && sok l then [kcnt g l 0, kcnt g l 1, kcnt g l 2, kcnt g l 3, kcnt g l 4] else [0, 0, 0, 0, 0]

/-! ### how things are -/
def hright (g : List Thing) (h : List Int) : Bool := gright g && decide (h.length = g.length) && !(h.any fun n => decide (n < 0) || decide (2 < n))
def worstL (g : List Thing) (h : List Int) : Nat → List Int
  | 0 => []
  | k + 1 => worstL g h k ++ [if 0 ≤ upAt g k then max (h.getD k 0) ((worstL g h k).getD (upAt g k).toNat 0) else h.getD k 0]
def hbelow (g : List Thing) (h : List Int) (most : Int) : List Int := if hright g h then idx (fun k => decide ((worstL g h g.length).getD k 0 ≤ most)) g.length else []

/-! ### holdings -/
structure Held where
  id : Int
  things : List Int
  frm : Int
  to : Int
  deriving DecidableEq
def held0 : Held := ⟨0, [], 0, 0⟩
def meets (a b c d : Int) : Bool := decide (max a c < min b d)
def hmay (h : Held) : Bool := decide (0 < h.things.length) && sok h.things && tm h.frm && tm h.to && decide (h.frm < h.to)
def clash (a b : Held) : Bool := meets a.frm a.to b.frm b.to && !sapart a.things b.things
def heldId (l : List Held) (i : Nat) : Int := match l[i]? with
  | some h => h.id
  | none => 0
def heldB (l : List Held) (i : Nat) : Bool := match l[i]? with
  | some h => hmay h && !(decide (0 < i) && decide (h.id ≤ heldId l (i - 1))) && !((l.take i).any fun x => clash x h)
  | none => true
def heldR (l : List Held) : Bool := decide (l.length ≤ 256) && allI (heldB l) l.length
def heldPos (l : List Held) (id : Int) : Nat := (l.takeWhile fun h => decide (h.id < id)).length
def heldHit (l : List Held) (id : Int) : Bool := decide (heldPos l id < l.length) && decide (heldId l (heldPos l id) = id)
def heldAt (l : List Held) (k : Nat) : Held := l.getD k held0
def heldAdd (l : List Held) (h : Held) : List Held × Int :=
  if !(heldR l && hmay h) then (l, 1) else if heldHit l h.id then (l, 7) else if decide (l.length = 256) || l.any (fun x => clash x h) then (l, 5)
  else (l.take (heldPos l h.id) ++ h :: l.drop (heldPos l h.id), 0)
def heldDrop (l : List Held) (id : Int) : List Held × Held × Int :=
  if !heldR l then (l, held0, 1) else if !heldHit l id then (l, held0, 6) else (l.eraseIdx (heldPos l id), heldAt l (heldPos l id), 0)
def heldGet (l : List Held) (id : Int) : Held × Bool := if heldR l && heldHit l id then (heldAt l (heldPos l id), true) else (held0, false)
def busyL (l : List Held) (frm to : Int) : List Int := l.foldl (fun out h => if meets h.frm h.to frm to then sjoin out h.things else out) []
def heldBusy (l : List Held) (frm to : Int) : List Int := if heldR l then busyL l frm to else []
def heldOver (l : List Held) (now : Int) : List Held × List Held := if heldR l then (l.filter (fun h => !decide (h.to ≤ now)), l.filter (fun h => decide (h.to ≤ now))) else (l, [])

/-! ### jobs -/
def job0 : Job := ⟨0, spec0, [], 0, 0, 0, 0⟩
def jobAt (l : List Job) (k : Nat) : Job := l.getD k job0
def jobId (l : List Job) (i : Nat) : Int := (jobAt l i).id
def jobPos (l : List Job) (id : Int) : Nat := (l.takeWhile fun j => decide (j.id < id)).length
def jobHit (l : List Job) (id : Int) : Bool := decide (jobPos l id < l.length) && decide (jobId l (jobPos l id) = id)
def jobB (l : List Job) (i : Nat) : Bool := match l[i]? with
  | some j => jright j && !(decide (0 < i) && (decide (j.id ≤ jobId l (i - 1)) || decide (j.came < (jobAt l (i - 1)).came))) && j.needs.all fun n => jobHit (l.take i) n
  | none => true
def jobsR (l : List Job) : Bool := decide (l.length ≤ 64) && allI (jobB l) l.length
def rising (l : List Int) : Bool := allI (fun i => decide ((if i = 0 then 0 else l.getD (i - 1) 0) < l.getD i 0)) l.length && decide (l.length ≤ 16)
def jobLast (l : List Job) : Job := if l.length = 0 then job0 else jobAt l (l.length - 1)
def jobsAdd (l : List Job) (s : Spec) (needs : List Int) (now : Int) : List Job × Int × Int :=
  if !(jobsR l && sright s && rising needs && tm now) || decide (now < (jobLast l).came) then (l, 0, 1)
  else if !(needs.all fun n => jobHit l n) then (l, 0, 6)
  else if l.length = 64 then (l, 0, 5) else if (jobLast l).id = 1073741824 then (l, 0, 9)
  else (l ++ [⟨(jobLast l).id + 1, s, needs, 0, now, 0, 0⟩], (jobLast l).id + 1, 0)
def jobsDo (l : List Job) (id what now : Int) : List Job × Int :=
  if !jobsR l then (l, 1) else if !jobHit l id then (l, 6) else (l.set (jobPos l id) (jdo (jobAt l (jobPos l id)) what now).1, (jdo (jobAt l (jobPos l id)) what now).2)
def jobsGet (l : List Job) (id : Int) : Job × Bool := if jobsR l && jobHit l id then (jobAt l (jobPos l id), true) else (job0, false)
def jobsReady (l : List Job) : List Job := l.filter fun j => decide (j.state = 0) && j.needs.all fun n => decide ((jobAt l (jobPos l n)).state = 3)
/-- As they were, the more urgent ones first. -/
def byPrio : List Job → List Job
  | [] => []
  | j :: l => insP j (byPrio l)
where insP (j : Job) : List Job → List Job
  | [] => [j]
  | x :: l => if x.spec.prio ≤ j.spec.prio then j :: x :: l else x :: insP j l
def jobsReadyIds (l : List Job) : List Int := if jobsR l then (byPrio (jobsReady l)).map (·.id) else []
def lostL (l : List Job) : Nat → List Bool
  | 0 => []
  | k + 1 => lostL l k ++ [decide ((jobAt l k).state ≤ 1) && (jobAt l k).needs.any fun n => (lostL l k).getD (jobPos l n) false || (jover (jobAt l (jobPos l n)).state && decide ((jobAt l (jobPos l n)).state ≠ 3))]
def jobsLost (l : List Job) : List Int := if jobsR l then (l.zipIdx.filter fun p => (lostL l l.length).getD p.2 false).map (·.1.id) else []
def stcnt (l : List Job) (c : Int) : Int := ((l.filter fun j => decide (j.state = c)).length : Int)
def jobsCounts (l : List Job) : List Int := if jobsR l then [stcnt l 0, stcnt l 1, stcnt l 2, stcnt l 3, stcnt l 4, stcnt l 5, stcnt l 6] else [0, 0, 0, 0, 0, 0, 0]

/-! ### what fits -/
def mkids (g : List Thing) (node : Nat) : List Int := idx (fun i => decide (2 < kindAt g i) && decide (upAt g i = (node : Int))) g.length
def mkind (g : List Thing) (free : List Int) (node : Nat) (kind most : Int) : List Int := ((mkids g node).filter fun n => inl free n.toNat && decide (kindAt g n.toNat = kind)).take most.toNat
def tagAt (g : List Thing) (n : Nat) : ByteArray := match g[n]? with
  | some t => t.tag
  | none => ⟨#[]⟩
def mhere (g : List Thing) (free : List Int) (s : Spec) (node : Nat) : List Int × Bool :=
  if !(decide (kindAt g node = 2) && inl free node && (decide (s.tag = ⟨#[]⟩) || decide (tagAt g node = s.tag))) then ([], false)
  else if decide (((mkind g free node 3 s.cores).length : Int) < s.cores) || decide (((mkind g free node 4 s.gpus).length : Int) < s.gpus) then ([], false)
  else if !s.whole then (sjoin (mkind g free node 3 s.cores) (mkind g free node 4 s.gpus), true)
  else if (mkids g node).all (fun n => inl free n.toNat) then ((node : Int) :: mkids g node, true) else ([], false)
def mmay (g : List Thing) (free : List Int) (s : Spec) : Bool := gright g && sok free && sright s
/-- Node by node: what came, how many are left. -/
def mfindL (g : List Thing) (free : List Int) (s : Spec) : Nat → List Int × Int
  | 0 => ([], s.nodes)
  | k + 1 => if 0 < (mfindL g free s k).2 ∧ (mhere g free s k).2 = true then (sjoin (mfindL g free s k).1 (mhere g free s k).1, (mfindL g free s k).2 - 1) else mfindL g free s k
def mfind (g : List Thing) (free : List Int) (s : Spec) : List Int × Bool :=
  if !mmay g free s then ([], false) else if 0 < (mfindL g free s g.length).2 then ([], false) else ((mfindL g free s g.length).1, true)
def mcould (g : List Thing) (s : Spec) : Bool := (mfind g (gunder g 0) s).2

/-! ### when it fits -/
def insU (t : Int) : List Int → List Int
  | [] => [t]
  | x :: l => if t < x then t :: x :: l else if t = x then x :: l else x :: insU t l
def sortU (l : List Int) : List Int := l.foldr insU []
def heldEnds (l : List Held) (frm : Int) : List Int := if heldR l then sortU ((l.filter fun h => decide (frm < h.to)).map (·.to)) else []
def fitsAt (g : List Thing) (use : List Int) (l : List Held) (s : Spec) (t til : Int) : List Int × Bool :=
  if !tm t || decide (t = 4611686018427387904) || decide (til < sEnds s t) then ([], false) else mfind g (sless use (busyL l t (sEnds s t))) s
def firstOfL (g : List Thing) (use : List Int) (l : List Held) (s : Spec) (til : Int) : List Int → Int × List Int × Bool
  | [] => (0, [], false)
  | t :: ts => if (fitsAt g use l s t til).2 then (t, (fitsAt g use l s t til).1, true) else firstOfL g use l s til ts
def slotFirst (g : List Thing) (use : List Int) (l : List Held) (s : Spec) (frm til : Int) : Int × List Int × Bool :=
  if !heldR l then (0, [], false) else firstOfL g use l s til (frm :: heldEnds l frm)

/-! ### who begins -/
structure Want where
  id : Int
  spec : Spec
  deriving DecidableEq
def deep (policy depth : Int) : Int := if policy = 2 then 1 else if policy = 3 then depth else 0
structure PickS where
  l : List Held
  begun : List Held
  kept : List Held
def pickL (g : List Thing) (use : List Int) (now til policy depth : Int) : PickS → List Want → List Held × List Held × Int
  | s, [] => (s.begun, s.kept, 0)
  | s, w :: ws =>
    if !(slotFirst g use s.l w.spec now til).2.2 then pickL g use now til policy depth s ws
    else if (slotFirst g use s.l w.spec now til).1 ≠ now ∧ policy = 1 then (s.begun, s.kept, 0)
    else if (slotFirst g use s.l w.spec now til).1 ≠ now ∧ deep policy depth ≤ (s.kept.length : Int) then pickL g use now til policy depth s ws
    else if (heldAdd s.l ⟨w.id, (slotFirst g use s.l w.spec now til).2.1, (slotFirst g use s.l w.spec now til).1, sEnds w.spec (slotFirst g use s.l w.spec now til).1⟩).2 ≠ 0 then
      ([], [], (heldAdd s.l ⟨w.id, (slotFirst g use s.l w.spec now til).2.1, (slotFirst g use s.l w.spec now til).1, sEnds w.spec (slotFirst g use s.l w.spec now til).1⟩).2)
    else if (slotFirst g use s.l w.spec now til).1 = now then pickL g use now til policy depth ⟨(heldAdd s.l ⟨w.id, (slotFirst g use s.l w.spec now til).2.1, (slotFirst g use s.l w.spec now til).1, sEnds w.spec (slotFirst g use s.l w.spec now til).1⟩).1, s.begun ++ [⟨w.id, (slotFirst g use s.l w.spec now til).2.1, (slotFirst g use s.l w.spec now til).1, sEnds w.spec (slotFirst g use s.l w.spec now til).1⟩], s.kept⟩ ws
    else pickL g use now til policy depth ⟨(heldAdd s.l ⟨w.id, (slotFirst g use s.l w.spec now til).2.1, (slotFirst g use s.l w.spec now til).1, sEnds w.spec (slotFirst g use s.l w.spec now til).1⟩).1, s.begun, s.kept ++ [⟨w.id, (slotFirst g use s.l w.spec now til).2.1, (slotFirst g use s.l w.spec now til).1, sEnds w.spec (slotFirst g use s.l w.spec now til).1⟩]⟩ ws
def pickAll (g : List Thing) (use : List Int) (l : List Held) (ws : List Want) (now til policy depth : Int) : List Held × List Held × Int :=
  if decide (policy < 1) || decide (3 < policy) || decide (depth < 0) || decide (64 < depth) || !heldR l then ([], [], 1) else pickL g use now til policy depth ⟨l, [], []⟩ ws

/-! ### the scheduler -/
structure Inst where
  graph : List Thing
  health : List Int
  lease : List Int
  til : Int
  jobs : List Job
  table : List Held
  now : Int
  policy : Int
  depth : Int
  deriving DecidableEq
def inst0 : Inst := ⟨[], [], [], 0, [], [], 0, 0, 0⟩
def ipolicy (p d : Int) : Bool := decide (1 ≤ p) && decide (p ≤ 3) && decide (0 ≤ d) && decide (d ≤ 64)
def ithings (g : List Thing) (l : List Int) : Bool := sok l && (decide (l.length = 0) || decide (l.getD (l.length - 1) 0 < (g.length : Int)))
def itoldB (i : Inst) (k : Nat) : Bool := decide ((jobAt i.jobs k).came ≤ i.now) && decide ((jobAt i.jobs k).frm ≤ i.now) && (decide ((jobAt i.jobs k).state ≠ 2) ||
  ((heldGet i.table (jobAt i.jobs k).id).2 && decide ((heldGet i.table (jobAt i.jobs k).id).1.frm = (jobAt i.jobs k).frm) && decide ((heldGet i.table (jobAt i.jobs k).id).1.to = sEnds (jobAt i.jobs k).spec (jobAt i.jobs k).frm) &&
    decide (i.now < (heldGet i.table (jobAt i.jobs k).id).1.to) && ithings i.graph (heldGet i.table (jobAt i.jobs k).id).1.things))
def itold (i : Inst) : Bool := allI (itoldB i) i.jobs.length && decide ((i.jobs.filter fun j => decide (j.state = 2)).length = i.table.length)
def iright (i : Inst) : Bool := hright i.graph i.health && ithings i.graph i.lease && tm i.til && tm i.now && ipolicy i.policy i.depth && jobsR i.jobs && heldR i.table && itold i
def inew (g : List Thing) (p d : Int) : Inst × Int := if !gright g || !ipolicy p d then (inst0, 1) else (⟨g, List.replicate g.length 0, gunder g 0, 4611686018427387904, [], [], 0, p, d⟩, 0)
def wdo (w : Inst) (id what at_ : Int) : Inst × Int :=
  if (jobsDo w.jobs id what at_).2 ≠ 0 then (w, (jobsDo w.jobs id what at_).2)
  else if jover (jobsGet (jobsDo w.jobs id what at_).1 id).1.state then ({ w with jobs := (jobsDo w.jobs id what at_).1, table := (heldDrop w.table id).1 }, 0)
  else ({ w with jobs := (jobsDo w.jobs id what at_).1 }, 0)
def wbroken (w : Inst) : Inst := w.table.foldl (fun a h => if spart h.things (smeet w.lease (hbelow w.graph w.health 1)) then a else (wdo a h.id 5 a.now).1) w
def wrefuse (w : Inst) : Inst := w.jobs.foldl (fun a j => if decide (j.state ≤ 1) && ((jobsLost w.jobs).contains j.id || !mcould a.graph j.spec) then (wdo a j.id 7 a.now).1 else a) w
def iusable (w : Inst) : List Int := smeet w.lease (hbelow w.graph w.health 0)
def wwants (w : Inst) : List Want := (jobsReadyIds w.jobs).map fun id => ⟨id, (jobsGet w.jobs id).1.spec⟩
def wstart (w : Inst) : List Held := (pickAll w.graph (iusable w) w.table (wwants w) w.now w.til w.policy w.depth).1
def wbegin (w : Inst) : Inst := (wstart w).foldl (fun a h => { (wdo a h.id 3 a.now).1 with table := (heldAdd (wdo a h.id 3 a.now).1.table h).1 }) w
def wlook (w : Inst) : Inst := wbegin (wrefuse (wbroken w))
def isubmit (i : Inst) (s : Spec) (needs : List Int) : Inst × Int × Int :=
  if !iright i then (i, 0, 1) else if (jobsAdd i.jobs s needs i.now).2.2 ≠ 0 then (i, 0, (jobsAdd i.jobs s needs i.now).2.2)
  else (wlook { i with jobs := (jobsAdd i.jobs s needs i.now).1 }, (jobsAdd i.jobs s needs i.now).2.1, 0)
def ido (i : Inst) (id what : Int) : Inst × Int :=
  if !iright i || !([1, 2, 4, 6] : List Int).contains what then (i, 1) else if (wdo i id what i.now).2 ≠ 0 then (i, (wdo i id what i.now).2) else (wlook (wdo i id what i.now).1, 0)
def itick (i : Inst) (now : Int) : Inst × Int :=
  if !iright i || !tm now || decide (now < i.now) then (i, 1)
  else (wlook ((heldOver i.table now).2.foldl (fun a h => (wdo a h.id 5 h.to).1) { i with now := now }), 0)
def ilend (i : Inst) (lease : List Int) (til : Int) : Inst × Int := if !iright i || !ithings i.graph lease || !tm til then (i, 1) else (wlook { i with lease := lease, til := til }, 0)
def hset (g : List Thing) (h : List Int) (n how : Int) : List Int × Int := if !hright g h || decide (how < 0) || decide (2 < how) then (h, 1) else if n < 0 ∨ (h.length : Int) ≤ n then (h, 6) else (h.set n.toNat how, 0)
def imark (i : Inst) (n how : Int) : Inst × Int := if !iright i then (i, 1) else if (hset i.graph i.health n how).2 ≠ 0 then (i, (hset i.graph i.health n how).2) else (wlook { i with health := (hset i.graph i.health n how).1 }, 0)
def ifree (i : Inst) : List Int := if !iright i then [] else sless (iusable i) (heldBusy i.table i.now (plus i.now 1))
end Go.Av

/-
  LISTS IN ORDER OF THEIR NUMBERS; holdings and jobs that are right, plainly.
-/
namespace Go.Av
set_option linter.unusedVariables false
section
variable {α : Type} {f : α → Int}
def kpos (f : α → Int) (l : List α) (id : Int) : Nat := (l.takeWhile fun x => decide (f x < id)).length
theorem kpos_le (l : List α) (id : Int) : kpos f l id ≤ l.length := (List.takeWhile_sublist _).length_le
theorem kpos_at : ∀ {l : List α} {k : Nat} {x : α}, l.Pairwise (fun a b => f a < f b) → l[k]? = some x → kpos f l (f x) = k
  | [], k, x, _, h => by simp at h
  | y :: l, 0, x, hp, h => by
    simp only [List.getElem?_cons_zero, Option.some.injEq] at h
    subst h
    simp [kpos]
  | y :: l, k + 1, x, hp, h => by
    rw [List.pairwise_cons] at hp
    simp only [List.getElem?_cons_succ] at h
    have h1 := hp.1 x (List.mem_of_getElem? h)
    have ih := kpos_at hp.2 h
    simp only [kpos] at ih ⊢
    simp [h1, ih]
theorem kpos_lt : ∀ {l : List α} {id : Int} {k : Nat} {x : α}, k < kpos f l id → l[k]? = some x → f x < id
  | [], id, k, x, _, h => by simp at h
  | y :: l, id, k, x, hk, h => by
    simp only [kpos, List.takeWhile_cons] at hk
    split at hk
    · rename_i hy
      cases k with
      | zero =>
        simp only [List.getElem?_cons_zero, Option.some.injEq] at h
        subst h; simpa using hy
      | succ k =>
        simp only [List.getElem?_cons_succ] at h
        exact kpos_lt (l := l) (by simp only [kpos]; simp only [List.length_cons] at hk; omega) h
    · simp at hk
theorem kpos_ge : ∀ {l : List α} {id : Int} {k : Nat} {x : α}, l.Pairwise (fun a b => f a < f b) → kpos f l id ≤ k → l[k]? = some x → id ≤ f x
  | [], id, k, x, _, _, h => by simp at h
  | y :: l, id, k, x, hp, hk, h => by
    rw [List.pairwise_cons] at hp
    simp only [kpos, List.takeWhile_cons] at hk
    split at hk
    · cases k with
      | zero => simp at hk
      | succ k =>
        simp only [List.getElem?_cons_succ] at h
        exact kpos_ge (l := l) hp.2 (by simp only [kpos]; simp only [List.length_cons] at hk; omega) h
    · rename_i hy
      have hy : id ≤ f y := by simp at hy; omega
      cases k with
      | zero =>
        simp only [List.getElem?_cons_zero, Option.some.injEq] at h
        subst h; exact hy
      | succ k =>
        simp only [List.getElem?_cons_succ] at h
        have := hp.1 x (List.mem_of_getElem? h)
        omega
theorem key_inj : ∀ {l : List α} {x y : α}, l.Pairwise (fun a b => f a < f b) → x ∈ l → y ∈ l → f x = f y → x = y := by
  intro l x y hp hx hy e
  obtain ⟨i, hi⟩ := List.mem_iff_getElem?.1 hx
  obtain ⟨j, hj⟩ := List.mem_iff_getElem?.1 hy
  have h1 := kpos_at hp hi
  have h2 := kpos_at hp hj
  rw [e, h2] at h1
  subst h1
  rw [hi] at hj
  exact Option.some.inj hj
theorem keys_sorted {l : List α} (h : l.Pairwise (fun a b => f a < f b)) : (l.map f).Pairwise (· < ·) := by
  rw [List.pairwise_map]; exact h
/-- Put where it belongs. -/
def kput (f : α → Int) (l : List α) (x : α) : List α := l.take (kpos f l (f x)) ++ x :: l.drop (kpos f l (f x))
theorem kput_mem {l : List α} {x y : α} : y ∈ kput f l x ↔ y = x ∨ y ∈ l := by
  unfold kput
  rw [List.mem_append, List.mem_cons]
  constructor
  · rintro (h | h | h)
    · exact .inr (List.mem_of_mem_take h)
    · exact .inl h
    · exact .inr (List.mem_of_mem_drop h)
  · rintro (h | h)
    · exact .inr (.inl h)
    · rw [← List.take_append_drop (kpos f l (f x)) l] at h
      rcases List.mem_append.1 h with h | h
      · exact .inl h
      · exact .inr (.inr h)
theorem kput_sorted {l : List α} {x : α} (hp : l.Pairwise (fun a b => f a < f b)) (hn : ∀ y ∈ l, f y ≠ f x) : (kput f l x).Pairwise (fun a b => f a < f b) := by
  unfold kput
  rw [List.pairwise_append]
  refine ⟨hp.sublist (List.take_sublist _ _), ?_, ?_⟩
  · rw [List.pairwise_cons]
    refine ⟨fun y hy => ?_, hp.sublist (List.drop_sublist _ _)⟩
    obtain ⟨j, hj⟩ := List.mem_iff_getElem?.1 hy
    rw [List.getElem?_drop] at hj
    have h1 := kpos_ge hp (Nat.le_add_right _ _) hj
    have h2 := hn y (List.mem_of_mem_drop hy)
    omega
  · intro a ha b hb
    have h1 : f a < f x := by
      obtain ⟨j, hj⟩ := List.mem_iff_getElem?.1 ha
      rw [List.getElem?_take] at hj
      split at hj
      · exact kpos_lt (by assumption) hj
      · cases hj
    rcases List.mem_cons.1 hb with rfl | hb
    · exact h1
    · obtain ⟨j, hj⟩ := List.mem_iff_getElem?.1 hb
      rw [List.getElem?_drop] at hj
      have := kpos_ge hp (Nat.le_add_right _ _) hj
      omega
theorem erase_mem {l : List α} {k : Nat} {x y : α} (hp : l.Pairwise (fun a b => f a < f b)) (hx : l[k]? = some x) : y ∈ l.eraseIdx k ↔ y ∈ l ∧ f y ≠ f x := by
  rw [List.mem_eraseIdx_iff_getElem?]
  constructor
  · rintro ⟨i, hi, hy⟩
    refine ⟨List.mem_of_getElem? hy, fun e => ?_⟩
    have h1 := kpos_at hp hx
    have h2 := kpos_at hp hy
    rw [e, h1] at h2
    exact hi h2.symm
  · rintro ⟨hy, hne⟩
    obtain ⟨i, hi⟩ := List.mem_iff_getElem?.1 hy
    refine ⟨i, fun e => ?_, hi⟩
    subst e
    rw [hi] at hx
    exact hne (congrArg f (Option.some.inj hx))
end

/-! ### holdings -/
theorem held_iff {l : List Held} : heldR l = true ↔ l.length ≤ 256 ∧ (∀ h ∈ l, hmay h = true) ∧ l.Pairwise (fun a b => a.id < b.id) ∧ l.Pairwise (fun a b => clash a b = false) := by
  unfold heldR
  rw [Bool.and_eq_true, decide_eq_true_eq]
  constructor
  · rintro ⟨h1, h2⟩
    have hB : ∀ k h, l[k]? = some h → hmay h = true ∧ (0 < k → heldId l (k - 1) < h.id) ∧ ∀ x ∈ l.take k, clash x h = false := by
      intro k h hk
      have := allI_get h2 (List.getElem?_eq_some_iff.1 hk).1
      unfold heldB at this
      rw [hk] at this
      simp only [Bool.and_eq_true, Bool.not_eq_true', Bool.and_eq_false_iff, decide_eq_false_iff_not, List.any_eq_false] at this
      obtain ⟨⟨k1, k2⟩, k3⟩ := this
      refine ⟨k1, fun h0 => ?_, fun x hx => ?_⟩
      · rcases k2 with k2 | k2
        · exact absurd h0 k2
        · omega
      · have := k3 x hx; simpa using this
    refine ⟨h1, fun h hh => ?_, ?_, ?_⟩
    · obtain ⟨k, hk⟩ := List.mem_iff_getElem?.1 hh
      exact (hB k h hk).1
    · have step : ∀ k a b, l[k]? = some a → l[k + 1]? = some b → a.id < b.id := by
        intro k a b ha hb
        have := (hB (k + 1) b hb).2.1 (Nat.succ_pos _)
        rw [Nat.add_sub_cancel, heldId, ha] at this
        exact this
      have mono : ∀ d i a b, l[i]? = some a → l[i + d + 1]? = some b → a.id < b.id := by
        intro d
        induction d with
        | zero => intro i a b ha hb; exact step i a b ha hb
        | succ d ih =>
          intro i a b ha hb
          have hlt := (List.getElem?_eq_some_iff.1 hb).1
          have h3 := ih i a l[i + d + 1] ha (List.getElem?_eq_getElem (by omega))
          have h4 := step (i + d + 1) _ b (List.getElem?_eq_getElem (by omega)) hb
          omega
      rw [List.pairwise_iff_getElem]
      intro i j hi hj hij
      exact mono (j - i - 1) i _ _ (List.getElem?_eq_getElem hi) (by rw [show i + (j - i - 1) + 1 = j by omega]; exact List.getElem?_eq_getElem hj)
    · rw [List.pairwise_iff_getElem]
      intro i j hi hj hij
      exact (hB j _ (List.getElem?_eq_getElem hj)).2.2 _ (List.mem_iff_getElem?.2 ⟨i, by rw [List.getElem?_take, if_pos hij]; exact List.getElem?_eq_getElem hi⟩)
  · rintro ⟨h1, h2, h3, h4⟩
    refine ⟨h1, allI_true fun k hk => ?_⟩
    unfold heldB
    rw [List.getElem?_eq_getElem hk]
    simp only [Bool.and_eq_true, Bool.not_eq_true', Bool.and_eq_false_iff, decide_eq_false_iff_not, List.any_eq_false]
    refine ⟨⟨h2 _ (List.getElem_mem hk), ?_⟩, fun x hx => ?_⟩
    · cases k with
      | zero => exact .inl (Nat.lt_irrefl 0)
      | succ k =>
        right
        rw [Nat.add_sub_cancel, heldId, List.getElem?_eq_getElem (by omega)]
        have := List.pairwise_iff_getElem.1 h3 k (k + 1) (by omega) hk (Nat.lt_succ_self k)
        simp only; omega
    · obtain ⟨i, hi⟩ := List.mem_iff_getElem?.1 hx
      rw [List.getElem?_take] at hi
      split at hi
      · rename_i hik
        obtain ⟨h5, rfl⟩ := List.getElem?_eq_some_iff.1 hi
        have := List.pairwise_iff_getElem.1 h4 i k h5 hk hik
        simp [this]
      · cases hi
theorem heldPos_eq (l : List Held) (id : Int) : heldPos l id = kpos Held.id l id := rfl
theorem heldHit_iff {l : List Held} (hp : l.Pairwise (fun a b => a.id < b.id)) {id : Int} : heldHit l id = true ↔ ∃ h ∈ l, h.id = id := by
  unfold heldHit heldId
  rw [Bool.and_eq_true, decide_eq_true_eq, decide_eq_true_eq]
  constructor
  · rintro ⟨h1, h2⟩
    rw [List.getElem?_eq_getElem h1] at h2
    exact ⟨_, List.getElem_mem h1, h2⟩
  · rintro ⟨h, hh, rfl⟩
    obtain ⟨k, hk⟩ := List.mem_iff_getElem?.1 hh
    have e : heldPos l h.id = k := kpos_at (f := Held.id) hp hk
    rw [e, hk]
    exact ⟨(List.getElem?_eq_some_iff.1 hk).1, rfl⟩
theorem heldAt_eq {l : List Held} (hp : l.Pairwise (fun a b => a.id < b.id)) {h : Held} (hh : h ∈ l) : l[heldPos l h.id]? = some h ∧ heldAt l (heldPos l h.id) = h := by
  obtain ⟨k, hk⟩ := List.mem_iff_getElem?.1 hh
  have e : heldPos l h.id = k := kpos_at (f := Held.id) hp hk
  rw [e]
  exact ⟨hk, by rw [heldAt, List.getD_eq_getElem?_getD, hk]; rfl⟩
theorem heldGet_iff {l : List Held} (hr : heldR l = true) {id : Int} : (heldGet l id).2 = true ↔ ∃ h ∈ l, h.id = id := by
  unfold heldGet
  rw [hr, Bool.true_and]
  have := heldHit_iff (held_iff.1 hr).2.2.1 (id := id)
  cases h : heldHit l id with
  | false => rw [h] at this; simp at this ⊢; exact this
  | true => rw [h] at this; simp at this ⊢; exact this
theorem heldGet_eq {l : List Held} (hr : heldR l = true) {h : Held} (hh : h ∈ l) : heldGet l h.id = (h, true) := by
  have hp := (held_iff.1 hr).2.2.1
  unfold heldGet
  rw [hr, Bool.true_and, (heldHit_iff hp).2 ⟨h, hh, rfl⟩, if_pos rfl, (heldAt_eq hp hh).2]
theorem heldDrop_hit {l : List Held} (hr : heldR l = true) {h : Held} (hh : h ∈ l) : heldR (heldDrop l h.id).1 = true ∧ (∀ y, y ∈ (heldDrop l h.id).1 ↔ y ∈ l ∧ y.id ≠ h.id) ∧ (heldDrop l h.id).2.2 = 0 := by
  obtain ⟨h1, h2, h3, h4⟩ := held_iff.1 hr
  have hk := (heldAt_eq h3 hh).1
  unfold heldDrop
  rw [hr, (heldHit_iff h3).2 ⟨h, hh, rfl⟩]
  simp only [Bool.not_true, Bool.false_eq_true, if_false]
  have hm : ∀ y, y ∈ l.eraseIdx (heldPos l h.id) ↔ y ∈ l ∧ y.id ≠ h.id := fun y => erase_mem (f := Held.id) h3 hk
  refine ⟨held_iff.2 ⟨?_, fun y hy => h2 y ((hm y).1 hy).1, h3.sublist (List.eraseIdx_sublist _ _), h4.sublist (List.eraseIdx_sublist _ _)⟩, hm, trivial⟩
  exact Nat.le_trans (List.eraseIdx_sublist _ _).length_le h1
theorem heldDrop_no {l : List Held} (hr : heldR l = true) {id : Int} (hn : ∀ h ∈ l, h.id ≠ id) : (heldDrop l id).1 = l := by
  have h3 := (held_iff.1 hr).2.2.1
  unfold heldDrop
  rw [hr]
  cases h : heldHit l id with
  | false => simp
  | true =>
    obtain ⟨x, hx, e⟩ := (heldHit_iff h3).1 h
    exact absurd e (hn x hx)
theorem clash_symm (a b : Held) : clash a b = clash b a := by
  unfold clash meets sapart
  rw [show decide (max a.frm b.frm < min a.to b.to) = decide (max b.frm a.frm < min b.to a.to) by rw [decide_eq_decide]; omega]
  rw [show (fun n => inl a.things n && inl b.things n) = (fun n => inl b.things n && inl a.things n) by funext n; rw [Bool.and_comm], Bool.and_comm (sok a.things)]
theorem heldAdd_ok {l : List Held} {h : Held} (hr : heldR l = true) (hm : hmay h = true) (hn : ∀ x ∈ l, x.id ≠ h.id) (hl : l.length < 256) (hc : ∀ x ∈ l, clash x h = false) :
    heldAdd l h = (kput Held.id l h, 0) ∧ heldR (kput Held.id l h) = true := by
  obtain ⟨h1, h2, h3, h4⟩ := held_iff.1 hr
  have hh : heldHit l h.id = false := by
    cases e : heldHit l h.id with
    | false => rfl
    | true => obtain ⟨x, hx, e⟩ := (heldHit_iff h3).1 e; exact absurd e (hn x hx)
  have ha : (l.any fun x => clash x h) = false := by rw [List.any_eq_false]; intro x hx; rw [hc x hx]; simp
  constructor
  · unfold heldAdd
    rw [hr, hm, hh, ha, if_neg (by simp), if_neg (by simp), if_neg (by simp; omega)]
    rfl
  · refine held_iff.2 ⟨?_, fun y hy => ?_, kput_sorted h3 hn, ?_⟩
    · unfold kput; simp only [List.length_append, List.length_take, List.length_cons, List.length_drop]; omega
    · rcases kput_mem.1 hy with rfl | hy
      · exact hm
      · exact h2 y hy
    · unfold kput
      rw [List.pairwise_append]
      refine ⟨h4.sublist (List.take_sublist _ _), ?_, ?_⟩
      · rw [List.pairwise_cons]
        exact ⟨fun y hy => by rw [clash_symm]; exact hc y (List.mem_of_mem_drop hy), h4.sublist (List.drop_sublist _ _)⟩
      · intro a ha' b hb
        rcases List.mem_cons.1 hb with rfl | hb
        · exact hc a (List.mem_of_mem_take ha')
        · have := h4
          rw [← List.take_append_drop (kpos Held.id l h.id) l, List.pairwise_append] at this
          exact this.2.2 a ha' b hb
end Go.Av

/-
  WHAT HAPPENS TO A JOB, plainly.
-/
namespace Go.Av
set_option linter.unusedVariables false
theorem jnext_in {s w t : Int} (h0 : 0 ≤ s) (h : jnext s w = some t) : 0 ≤ t ∧ t ≤ 6 := by
  unfold jnext at h
  repeat' split at h
  all_goals first | (injection h with h; omega) | cases h
theorem jnext_from {s w t : Int} (h : jnext s w = some t) : s ≤ 2 ∧ (t = 2 → s = 0) ∧ (t = 0 → s = 1) ∧ (t = 1 → s = 0) ∧ (t = 3 → s = 2) ∧ (t = 4 → s = 2) ∧ (t = 6 → s < 2) := by
  unfold jnext at h
  repeat' split at h
  all_goals first | (injection h with h; omega) | cases h
theorem jstep_right {j : Job} {w t now : Int} (hb : jbad j w now = false) (h : jnext j.state w = some t) : jright (jstep j t now) = true := by
  simp only [jbad, Bool.or_eq_false_iff, Bool.not_eq_false', decide_eq_false_iff_not] at hb
  obtain ⟨⟨⟨⟨hjr, _⟩, _⟩, hnow⟩, hmx⟩ := hb
  have hst := jright_state hjr
  have hi := jnext_in hst.1 h
  have hf := jnext_from h
  have h5 : tm j.came = true := by simp only [jright, Bool.and_eq_true] at hjr; exact hjr.1.2
  have ht : jtimes j = true := by simp only [jright, Bool.and_eq_true] at hjr; exact hjr.2
  have hr : jright (jstep j t now) = jtimes (jstep j t now) := by
    simp only [jright, jneeds, Bool.and_eq_true] at hjr
    obtain ⟨⟨⟨⟨⟨a1, a2⟩, a3⟩, a4, a5⟩, a6⟩, a7⟩ := hjr
    show (decide (1 ≤ j.id) && decide (j.id ≤ 1073741824) && sright j.spec && (decide (j.needs.length ≤ 16) && ndall j.id j.needs) && tm j.came && jtimes (jstep j t now)) = _
    rw [a1, a2, a3, a4, a5, a6]
    rfl
  rw [hr]
  have h5' : tm (jstep j t now).came = true := h5
  rw [jtimes_ref h5'] 
  rw [jtimes_ref h5] at ht
  simp only [jstep, jover, tm, Bool.and_eq_true, decide_eq_true_eq] at *
  clear hr hjr h
  obtain ⟨⟨⟨⟨⟨t1, t2⟩, t3⟩, t4⟩, t5⟩, t6⟩ := ht
  split at t5 <;> split at t6 <;> simp only [Bool.or_eq_true, Bool.and_eq_true, decide_eq_true_eq] at t5 t6 <;> (refine ⟨⟨⟨⟨⟨?_, ?_⟩, ?_⟩, ?_⟩, ?_⟩, ?_⟩) <;> (repeat' split) <;> (try simp only [Bool.or_eq_true, Bool.and_eq_true, decide_eq_true_eq]) <;> omega
end Go.Av

/-
  JOBS THAT ARE RIGHT, and what happens to one of them, plainly.
-/
namespace Go.Av
set_option linter.unusedVariables false
theorem jobAt_get {l : List Job} {k : Nat} {j : Job} (h : l[k]? = some j) : jobAt l k = j := by rw [jobAt, List.getD_eq_getElem?_getD, h]; rfl
theorem jobPos_eq (l : List Job) (id : Int) : jobPos l id = kpos Job.id l id := rfl
theorem jobHit_iff {l : List Job} (hp : l.Pairwise (fun a b => a.id < b.id)) {id : Int} : jobHit l id = true ↔ ∃ j ∈ l, j.id = id := by
  unfold jobHit jobId
  rw [Bool.and_eq_true, decide_eq_true_eq, decide_eq_true_eq]
  constructor
  · rintro ⟨h1, h2⟩
    rw [jobAt_get (List.getElem?_eq_getElem h1)] at h2
    exact ⟨_, List.getElem_mem h1, h2⟩
  · rintro ⟨j, hj, rfl⟩
    obtain ⟨k, hk⟩ := List.mem_iff_getElem?.1 hj
    have e : jobPos l j.id = k := kpos_at (f := Job.id) hp hk
    rw [e, jobAt_get hk]
    exact ⟨(List.getElem?_eq_some_iff.1 hk).1, rfl⟩
theorem jobPos_at {l : List Job} (hp : l.Pairwise (fun a b => a.id < b.id)) {j : Job} (hj : j ∈ l) : l[jobPos l j.id]? = some j := by
  obtain ⟨k, hk⟩ := List.mem_iff_getElem?.1 hj
  have e : jobPos l j.id = k := kpos_at (f := Job.id) hp hk
  rw [e]; exact hk
/-- The needs of each are among the numbers ahead. -/
def NeedsIn (l : List Job) : Prop := ∀ k j, l[k]? = some j → ∀ n ∈ j.needs, n ∈ (l.map (·.id)).take k
theorem jobs_iff {l : List Job} : jobsR l = true ↔ l.length ≤ 64 ∧ (∀ j ∈ l, jright j = true) ∧ l.Pairwise (fun a b => a.id < b.id) ∧ l.Pairwise (fun a b => a.came ≤ b.came) ∧ NeedsIn l := by
  unfold jobsR
  rw [Bool.and_eq_true, decide_eq_true_eq]
  constructor
  · rintro ⟨h1, h2⟩
    have hB : ∀ k j, l[k]? = some j → jright j = true ∧ (0 < k → (jobAt l (k - 1)).id < j.id ∧ (jobAt l (k - 1)).came ≤ j.came) ∧ ∀ n ∈ j.needs, jobHit (l.take k) n = true := by
      intro k j hk
      have := allI_get h2 (List.getElem?_eq_some_iff.1 hk).1
      unfold jobB at this
      rw [hk] at this
      simp only [Bool.and_eq_true, Bool.not_eq_true', Bool.and_eq_false_iff, Bool.or_eq_false_iff, decide_eq_false_iff_not, List.all_eq_true] at this
      obtain ⟨⟨k1, k2⟩, k3⟩ := this
      refine ⟨k1, fun h0 => ?_, k3⟩
      rcases k2 with k2 | k2
      · exact absurd h0 k2
      · unfold jobId at k2; omega
    have step : ∀ k a b, l[k]? = some a → l[k + 1]? = some b → a.id < b.id ∧ a.came ≤ b.came := by
      intro k a b ha hb
      have := (hB (k + 1) b hb).2.1 (Nat.succ_pos _)
      rw [Nat.add_sub_cancel, jobAt_get ha] at this
      exact this
    have mono : ∀ d i a b, l[i]? = some a → l[i + d + 1]? = some b → a.id < b.id ∧ a.came ≤ b.came := by
      intro d
      induction d with
      | zero => intro i a b ha hb; exact step i a b ha hb
      | succ d ih =>
        intro i a b ha hb
        have hlt := (List.getElem?_eq_some_iff.1 hb).1
        have h3 := ih i a l[i + d + 1] ha (List.getElem?_eq_getElem (by omega))
        have h4 := step (i + d + 1) _ b (List.getElem?_eq_getElem (by omega)) hb
        omega
    have hid : l.Pairwise (fun a b => a.id < b.id) := by
      rw [List.pairwise_iff_getElem]
      intro i j hi hj hij
      exact (mono (j - i - 1) i _ _ (List.getElem?_eq_getElem hi) (by rw [show i + (j - i - 1) + 1 = j by omega]; exact List.getElem?_eq_getElem hj)).1
    refine ⟨h1, fun j hj => ?_, hid, ?_, ?_⟩
    · obtain ⟨k, hk⟩ := List.mem_iff_getElem?.1 hj
      exact (hB k j hk).1
    · rw [List.pairwise_iff_getElem]
      intro i j hi hj hij
      exact (mono (j - i - 1) i _ _ (List.getElem?_eq_getElem hi) (by rw [show i + (j - i - 1) + 1 = j by omega]; exact List.getElem?_eq_getElem hj)).2
    · intro k j hk n hn
      obtain ⟨x, hx, e⟩ := (jobHit_iff (hid.sublist (List.take_sublist k l))).1 ((hB k j hk).2.2 n hn)
      rw [← List.map_take]
      exact List.mem_map.2 ⟨x, hx, e⟩
  · rintro ⟨h1, h2, h3, h4, h5⟩
    refine ⟨h1, allI_true fun k hk => ?_⟩
    unfold jobB
    rw [List.getElem?_eq_getElem hk]
    simp only [Bool.and_eq_true, Bool.not_eq_true', Bool.and_eq_false_iff, Bool.or_eq_false_iff, decide_eq_false_iff_not, List.all_eq_true]
    refine ⟨⟨h2 _ (List.getElem_mem hk), ?_⟩, fun n hn => ?_⟩
    · cases k with
      | zero => exact .inl (Nat.lt_irrefl 0)
      | succ k =>
        right
        rw [Nat.add_sub_cancel, jobId, jobAt_get (List.getElem?_eq_getElem (by omega))]
        have := List.pairwise_iff_getElem.1 h3 k (k + 1) (by omega) hk (Nat.lt_succ_self k)
        have := List.pairwise_iff_getElem.1 h4 k (k + 1) (by omega) hk (Nat.lt_succ_self k)
        omega
    · have := h5 k _ (List.getElem?_eq_getElem hk) n hn
      rw [← List.map_take] at this
      obtain ⟨x, hx, e⟩ := List.mem_map.1 this
      exact (jobHit_iff (h3.sublist (List.take_sublist k l))).2 ⟨x, hx, e⟩
theorem jobsGet_eq {l : List Job} (hr : jobsR l = true) {j : Job} (hj : j ∈ l) : jobsGet l j.id = (j, true) := by
  have hp := (jobs_iff.1 hr).2.2.1
  unfold jobsGet
  rw [hr, Bool.true_and, (jobHit_iff hp).2 ⟨j, hj, rfl⟩, if_pos rfl, jobAt_get (jobPos_at hp hj)]
theorem set_mem {l : List Job} {k : Nat} {j j' y : Job} (hp : l.Pairwise (fun a b => a.id < b.id)) (hk : l[k]? = some j) (he : j'.id = j.id) : y ∈ l.set k j' ↔ y = j' ∨ (y ∈ l ∧ y.id ≠ j.id) := by
  have hkl := (List.getElem?_eq_some_iff.1 hk).1
  rw [List.mem_iff_getElem?]
  constructor
  · rintro ⟨i, hi⟩
    by_cases e : k = i
    · subst e
      rw [List.getElem?_set_self hkl] at hi
      exact .inl (Option.some.inj hi).symm
    · rw [List.getElem?_set_ne e] at hi
      refine .inr ⟨List.mem_of_getElem? hi, fun e2 => e ?_⟩
      have h1 := kpos_at (f := Job.id) hp hk
      have h2 := kpos_at (f := Job.id) hp hi
      rw [e2, h1] at h2
      exact h2
  · rintro (rfl | ⟨hy, hne⟩)
    · exact ⟨k, List.getElem?_set_self hkl⟩
    · obtain ⟨i, hi⟩ := List.mem_iff_getElem?.1 hy
      refine ⟨i, ?_⟩
      rw [List.getElem?_set_ne]
      · exact hi
      · rintro rfl
        rw [hk] at hi
        exact hne (congrArg Job.id (Option.some.inj hi)).symm
theorem set_map {β : Type} (g : Job → β) {l : List Job} {k : Nat} {j j' : Job} (hk : l[k]? = some j) (he : g j' = g j) : (l.set k j').map g = l.map g := by
  apply List.ext_getElem?
  intro i
  rw [List.getElem?_map, List.getElem?_map]
  by_cases e : k = i
  · subst e
    rw [List.getElem?_set_self (List.getElem?_eq_some_iff.1 hk).1, hk]
    simp [he]
  · rw [List.getElem?_set_ne e]
theorem jdo_same (j : Job) (w now : Int) : (jdo j w now).1.id = j.id ∧ (jdo j w now).1.spec = j.spec ∧ (jdo j w now).1.needs = j.needs ∧ (jdo j w now).1.came = j.came := by
  unfold jdo
  split
  · exact ⟨rfl, rfl, rfl, rfl⟩
  · split <;> exact ⟨rfl, rfl, rfl, rfl⟩
theorem jdo_right {j : Job} {w now : Int} (h : jright j = true) : jright (jdo j w now).1 = true := by
  unfold jdo
  split
  · exact h
  · rename_i hb
    split
    · exact h
    · rename_i s hs
      exact jstep_right (by simpa using hb) hs
/-- Something happens to one of them. -/
theorem jobsDo_hit {l : List Job} (hr : jobsR l = true) {j : Job} (hj : j ∈ l) (w now : Int) :
    jobsDo l j.id w now = (l.set (jobPos l j.id) (jdo j w now).1, (jdo j w now).2) ∧ jobsR (jobsDo l j.id w now).1 = true ∧ (∀ y, y ∈ (jobsDo l j.id w now).1 ↔ y = (jdo j w now).1 ∨ (y ∈ l ∧ y.id ≠ j.id)) ∧ (jobsDo l j.id w now).1.map (·.id) = l.map (·.id) := by
  obtain ⟨h1, h2, h3, h4, h5⟩ := jobs_iff.1 hr
  have hk := jobPos_at h3 hj
  have e : jobsDo l j.id w now = (l.set (jobPos l j.id) (jdo j w now).1, (jdo j w now).2) := by
    unfold jobsDo
    rw [hr, (jobHit_iff h3).2 ⟨j, hj, rfl⟩, jobAt_get hk, if_neg (by simp), if_neg (by simp)]
  obtain ⟨s1, s2, s3, s4⟩ := jdo_same j w now
  have hids : (l.set (jobPos l j.id) (jdo j w now).1).map (fun x : Job => x.id) = l.map (fun x : Job => x.id) := set_map (fun x : Job => x.id) hk s1
  have hcames : (l.set (jobPos l j.id) (jdo j w now).1).map Job.came = l.map Job.came := set_map Job.came hk s4
  have hneeds : (l.set (jobPos l j.id) (jdo j w now).1).map Job.needs = l.map Job.needs := set_map Job.needs hk s3
  rw [e]
  refine ⟨rfl, jobs_iff.2 ⟨by simpa using h1, fun y hy => ?_, ?_, ?_, ?_⟩, fun y => set_mem h3 hk s1, hids⟩
  · rcases (set_mem h3 hk s1).1 hy with rfl | ⟨hy, _⟩
    · exact jdo_right (h2 j hj)
    · exact h2 y hy
  · have := h3
    rw [← List.pairwise_map (f := fun x : Job => x.id) (R := fun a b : Int => a < b)] at this ⊢
    rw [hids]; exact this
  · have := h4
    rw [← List.pairwise_map (f := Job.came) (R := fun a b : Int => a ≤ b)] at this ⊢
    rw [hcames]; exact this
  · intro k y hy n hn
    have e1 := congrArg (·[k]?) hneeds
    simp only [List.getElem?_map, hy, Option.map_some] at e1
    cases hx : l[k]? with
    | none => rw [hx] at e1; cases e1
    | some x =>
      rw [hx] at e1
      simp only [Option.map_some, Option.some.injEq] at e1
      have := h5 k x hx n (by rw [← e1]; exact hn)
      show n ∈ ((l.set (jobPos l j.id) (jdo j w now).1).map fun x : Job => x.id).take k
      rw [hids]; exact this
theorem jobsDo_no {l : List Job} {id w now : Int} (hr : jobsR l = true) (hn : ∀ j ∈ l, j.id ≠ id) : (jobsDo l id w now).2 ≠ 0 := by
  have h3 := (jobs_iff.1 hr).2.2.1
  unfold jobsDo
  rw [hr]
  cases h : jobHit l id with
  | false => simp
  | true =>
    obtain ⟨x, hx, e⟩ := (jobHit_iff h3).1 h
    exact absurd e (hn x hx)
end Go.Av

/-
  WHAT A CALL IS GIVEN: a value that reads as1 data is an abstract value, cell by cell.
-/
namespace Go.Av

theorem flat_getT {α : Type} {sz : Nat} : ∀ {rows : List (List α)}, (∀ r ∈ rows, r.length = sz) → ∀ {i : Nat} {r : List α} {j : Nat}, rows[i]? = some r → j < sz → rows.flatten[i * sz + j]? = r[j]?
  | [], _, i, r, j, hr, _ => by simp at hr
  | x :: rows, hw, i, r, j, hr, hj => by
    have hx : x.length = sz := hw x (by simp)
    cases i with
    | zero =>
      simp at hr
      subst hr
      rw [List.flatten_cons, List.getElem?_append_left (by omega)]
      simp
    | succ i =>
      have := flat_getT (rows := rows) (fun r h => hw r (by simp [h])) (i := i) (r := r) (j := j) (by simpa using hr) hj
      rw [List.flatten_cons, List.getElem?_append_right (by rw [hx, Nat.succ_mul]; omega), hx, show (i + 1) * sz + j - sz = i * sz + j by rw [Nat.succ_mul]; omega]
      exact this

/-- The types of a type's cells; none where it holds what is not followed here. -/
def tile (P : Program) (rec : TypeId → Option (List TypeId)) (total : Nat) : Nat → List Field → Option (List TypeId)
  | off, [] => if off = total then some [] else none
  | off, f :: fs => if f.offset = off then
      match rec f.type with
      | some a => if a.length = P.cellsOf f.type then
          match tile P rec total (off + P.cellsOf f.type) fs with
          | some r => some (a ++ r)
          | none => none
        else none
      | none => none
    else none
def cellTys (P : Program) : Nat → TypeId → Option (List TypeId)
  | 0, _ => none
  | n + 1, t => match P.underlying t with
    | some .bool | some (.int _) | some .string => some [t]
    | some (.slice e) => if P.cellsOf e = 0 then none else some [t]
    | some (.struct fs) => tile P (cellTys P n) (P.cellsOf t) 0 fs.toList
    | some (.array m e) => match cellTys P n e with
      | some a => if a.length = P.cellsOf e ∧ P.cellsOf t = m * P.cellsOf e then some (List.replicate m a).flatten else none
      | none => none
    | _ => none

/-- What one cell of a type may hold. -/
def CellOk (P : Program) : Nat → TypeId → AV → Prop
  | 0, _, _ => False
  | n + 1, t, v => match P.underlying t with
    | some .bool => ∃ b, v = .bool b
    | some (.int k) => ∃ i, v = .int k i ∧ (Lit.int k i).wf = true
    | some .string => ∃ s : ByteArray, v = .str s ∧ s.size ≤ maxLen
    | some (.slice e) => ∃ rows, v = .pl rows ∧ rows.length ≤ maxLen ∧ ∀ r ∈ rows, ∃ ts, cellTys P (n + 1) e = some ts ∧ r.length = ts.length ∧ ∀ (j : Nat) (t' : TypeId) (v' : AV), ts[j]? = some t' → r[j]? = some v' → CellOk P n t' v'
    | _ => False
def RowIs (P : Program) (n : Nat) (ts : List TypeId) (r : List AV) : Prop := r.length = ts.length ∧ ∀ (j : Nat) (t' : TypeId) (v' : AV), ts[j]? = some t' → r[j]? = some v' → CellOk P n t' v'

section
variable {P : Program} {Hd : Type} {enc : TypeId × Value → Hd} {w : World} {base : Nat} {spare : Nat → Bool} {held : Bool}

theorem tile_spec {rec : TypeId → Option (List TypeId)} {total : Nat} : ∀ (fs : List Field) (off : Nat) (ts : List TypeId), tile P rec total off fs = some ts → off + ts.length = total ∧ off ≤ total ∧
    ∀ (f : Field), f ∈ fs → ∃ a, rec f.type = some a ∧ a.length = P.cellsOf f.type ∧ off ≤ f.offset ∧ f.offset + a.length ≤ total ∧ (∀ j, j < a.length → ts[f.offset - off + j]? = a[j]?)
  | [], off, ts, h => by
    unfold tile at h
    split at h
    · cases h; simp_all
    · cases h
  | f :: fs, off, ts, h => by
    unfold tile at h
    split at h
    · rename_i ho
      split at h
      · rename_i a ha
        split at h
        · rename_i hl
          split at h
          · rename_i r hr
            cases h
            obtain ⟨h1, h2, h3⟩ := tile_spec fs _ _ hr
            refine ⟨by simp; omega, by omega, fun g hg => ?_⟩
            rcases List.mem_cons.1 hg with rfl | hg
            · refine ⟨a, ha, hl, by omega, by omega, fun j hj => ?_⟩
              rw [ho, Nat.sub_self, Nat.zero_add, List.getElem?_append_left hj]
            · obtain ⟨b, k1, k2, k3, k4, k5⟩ := h3 g hg
              refine ⟨b, k1, k2, by omega, k4, fun j hj => ?_⟩
              rw [List.getElem?_append_right (by omega), ← k5 j hj]
              congr 1
              omega
          · cases h
        · cases h
      · cases h
    · cases h

/-- Which field a cell belongs to. -/
theorem tile_cover {rec : TypeId → Option (List TypeId)} {total : Nat} : ∀ (fs : List Field) (off : Nat) (ts : List TypeId), tile P rec total off fs = some ts → ∀ j, off ≤ j → j < total → ∃ f ∈ fs, f.offset ≤ j ∧ j < f.offset + P.cellsOf f.type
  | [], off, ts, h, j, h1, h2 => by
    unfold tile at h
    split at h
    · omega
    · cases h
  | f :: fs, off, ts, h, j, h1, h2 => by
    unfold tile at h
    split at h
    · rename_i ho
      split at h
      · split at h
        · split at h
          · rename_i r hr
            by_cases hj : j < off + P.cellsOf f.type
            · exact ⟨f, List.mem_cons_self, by omega, by omega⟩
            · obtain ⟨g, hg, k⟩ := tile_cover fs _ _ hr j (by omega) h2
              exact ⟨g, List.mem_cons_of_mem _ hg, k⟩
          · cases h
        · cases h
      · cases h
    · cases h

theorem trod_one {t : TypeId} {fuel : Nat} {cs : List Value} {x : DataW Hd × List MemPlace} (hu : P.underlying t = some .bool ∨ (∃ k, P.underlying t = some (.int k)) ∨ P.underlying t = some .string ∨ ∃ e, P.underlying t = some (.slice e)) (h : DataW.trod enc P w base spare held (fuel + 1) t cs = some x) : ∃ u, cs = [u] := by
  unfold DataW.trod at h
  rcases hu with hu | ⟨k, hu⟩ | hu | ⟨e, hu⟩ <;> rw [hu] at h <;> split at h <;> first | exact ⟨_, rfl⟩ | (simp_all; done)

/-- A value that reads: each of its cells reads, by its own type. -/
theorem trod_cells : ∀ (n : Nat) (t : TypeId) (ts : List TypeId) (fuel : Nat) (cs : List Value) (x : DataW Hd × List MemPlace), cellTys P n t = some ts → DataW.trod enc P w base spare held fuel t cs = some x →
    cs.length = ts.length ∧ ∀ (j : Nat) (t' : TypeId) (u : Value), ts[j]? = some t' → cs[j]? = some u → ∃ fuel' x', DataW.trod enc P w base spare held fuel' t' [u] = some x' ∧ (P.underlying t' = some .bool ∨ (∃ k, P.underlying t' = some (.int k)) ∨ P.underlying t' = some .string ∨ ∃ e, P.underlying t' = some (.slice e) ∧ P.cellsOf e ≠ 0)
  | 0, _, _, _, _, _, h, _ => by cases h
  | _ + 1, _, _, 0, _, _, _, h => by cases h
  | n + 1, t, ts, fuel + 1, cs, x, h, hx => by
    have one : ∀ u, cs = [u] → ts = [t] → (P.underlying t = some .bool ∨ (∃ k, P.underlying t = some (.int k)) ∨ P.underlying t = some .string ∨ ∃ e, P.underlying t = some (.slice e) ∧ P.cellsOf e ≠ 0) → cs.length = ts.length ∧ ∀ (j : Nat) (t' : TypeId) (u : Value), ts[j]? = some t' → cs[j]? = some u → ∃ fuel' x', DataW.trod enc P w base spare held fuel' t' [u] = some x' ∧ (P.underlying t' = some .bool ∨ (∃ k, P.underlying t' = some (.int k)) ∨ P.underlying t' = some .string ∨ ∃ e, P.underlying t' = some (.slice e) ∧ P.cellsOf e ≠ 0) := by
      rintro u rfl rfl hk
      refine ⟨rfl, fun j t' u' h1 h2 => ?_⟩
      cases j with
      | zero => simp at h1 h2; subst h1; subst h2; exact ⟨fuel + 1, x, hx, hk⟩
      | succ j => simp at h1
    unfold cellTys at h
    split at h
    · rename_i hu
      cases h
      obtain ⟨u, hcs⟩ := trod_one (.inl hu) hx
      exact one u hcs rfl (.inl hu)
    · rename_i k hu
      cases h
      obtain ⟨u, hcs⟩ := trod_one (.inr (.inl ⟨k, hu⟩)) hx
      exact one u hcs rfl (.inr (.inl ⟨k, hu⟩))
    · rename_i hu
      cases h
      obtain ⟨u, hcs⟩ := trod_one (.inr (.inr (.inl hu))) hx
      exact one u hcs rfl (.inr (.inr (.inl hu)))
    · rename_i e hu
      split at h
      · cases h
      · rename_i he
        cases h
        obtain ⟨u, hcs⟩ := trod_one (.inr (.inr (.inr ⟨e, hu⟩))) hx
        exact one u hcs rfl (.inr (.inr (.inr ⟨e, hu, he⟩)))
    · rename_i fs hu
      obtain ⟨h1, _, h3⟩ := tile_spec _ _ _ h
      rw [Nat.zero_add] at h1
      unfold DataW.trod at hx
      rw [hu] at hx
      simp only at hx
      split at hx
      · rename_i hl
        cases hm : fs.toList.mapM (fun f => DataW.trod enc P w base spare held fuel f.type ((cs.drop f.offset).take (P.cellsOf f.type))) with
        | none => rw [hm] at hx; simp at hx
        | some xs =>
          have hg := mapM_some_get hm
          refine ⟨hl.trans h1.symm, fun j t' u hj hu' => ?_⟩
          have hjt : j < P.cellsOf t := by rw [← h1]; exact (List.getElem?_eq_some_iff.1 hj).1
          obtain ⟨f, hf, k1, k2⟩ := tile_cover _ _ _ h j (Nat.zero_le _) hjt
          obtain ⟨a, ha, hal, _, _, hat⟩ := h3 f hf
          obtain ⟨i, hi⟩ := List.mem_iff_getElem?.1 hf
          have hx1 := hg i f hi
          have hil : i < xs.length := by rw [mapM_some_length hm]; exact (List.getElem?_eq_some_iff.1 hi).1
          rw [List.getElem?_eq_getElem hil] at hx1
          obtain ⟨_, hrec⟩ := trod_cells n f.type a fuel _ _ ha hx1
          have hj2 : j - f.offset < a.length := by omega
          have e1 := hat (j - f.offset) hj2
          rw [show f.offset - 0 + (j - f.offset) = j by omega, hj] at e1
          refine hrec (j - f.offset) t' u e1.symm ?_
          rw [List.getElem?_take, if_pos (by omega), List.getElem?_drop, show f.offset + (j - f.offset) = j by omega]
          exact hu'
      · cases hx
    · rename_i m e hu
      split at h
      · rename_i a ha
        split at h
        · rename_i hal
          cases h
          unfold DataW.trod at hx
          rw [hu] at hx
          simp only at hx
          split at hx
          · rename_i hl
            cases hm : (List.range m).mapM (fun i => DataW.trod enc P w base spare held fuel e ((cs.drop (i * P.cellsOf e)).take (P.cellsOf e))) with
            | none => rw [hm] at hx; simp at hx
            | some xs =>
              have hg := mapM_some_get hm
              have hfl : (List.replicate m a).flatten.length = m * P.cellsOf e := by simp [hal.1]
              refine ⟨by rw [hl, hal.2, hfl], fun j t' u hj hu' => ?_⟩
              have hjt : j < m * P.cellsOf e := by rw [← hfl]; exact (List.getElem?_eq_some_iff.1 hj).1
              have hpos : 0 < P.cellsOf e := by
                rcases Nat.eq_zero_or_pos (P.cellsOf e) with h0 | h0
                · rw [h0] at hjt; simp at hjt
                · exact h0
              have hi : j / P.cellsOf e < m := (Nat.div_lt_iff_lt_mul hpos).2 hjt
              have hx1 := hg (j / P.cellsOf e) (j / P.cellsOf e) (by simp [hi])
              have hil : j / P.cellsOf e < xs.length := by rw [mapM_some_length hm]; simpa using hi
              rw [List.getElem?_eq_getElem hil] at hx1
              obtain ⟨_, hrec⟩ := trod_cells n e a fuel _ _ ha hx1
              have hdm : j / P.cellsOf e * P.cellsOf e + j % P.cellsOf e = j := Nat.div_add_mod' _ _
              have hmod : j % P.cellsOf e < P.cellsOf e := Nat.mod_lt _ hpos
              refine hrec (j % P.cellsOf e) t' u ?_ ?_
              · have hw : ∀ r ∈ List.replicate m a, r.length = P.cellsOf e := fun r hr => by rw [List.eq_of_mem_replicate hr]; exact hal.1
                have h3 := flat_getT (sz := P.cellsOf e) hw (i := j / P.cellsOf e) (r := a) (by rw [List.getElem?_replicate, if_pos hi]) hmod
                rw [hdm] at h3
                rw [← h3]; exact hj
              · rw [List.getElem?_take, if_pos hmod, List.getElem?_drop, hdm]
                exact hu'
          · cases hx
        · cases h
      · cases h
    · cases h

theorem choose_list {α : Type} {p : Nat → α → Prop} : ∀ (n : Nat), (∀ j, j < n → ∃ v, p j v) → ∃ l : List α, l.length = n ∧ ∀ (j : Nat) (v : α), l[j]? = some v → p j v
  | 0, _ => ⟨[], rfl, fun _ _ h => by simp at h⟩
  | n + 1, h => by
    obtain ⟨l, h1, h2⟩ := choose_list n (fun j hj => h j (by omega))
    obtain ⟨v, hv⟩ := h n (by omega)
    refine ⟨l ++ [v], by simp [h1], fun j x hx => ?_⟩
    rcases Nat.lt_or_ge j l.length with hj | hj
    · rw [List.getElem?_append_left hj] at hx; exact h2 j x hx
    · rw [List.getElem?_append_right hj] at hx
      have : j - l.length = 0 := by
        rcases Nat.eq_zero_or_pos (j - l.length) with e | e
        · exact e
        · rw [List.getElem?_eq_none (by simp; omega)] at hx; cases hx
      rw [this] at hx
      simp at hx
      subst hx
      rw [show j = n by omega]
      exact hv

/-- Types all of whose cells are followed. -/
def cellDeep (P : Program) : Nat → TypeId → Bool
  | 0, _ => false
  | n + 1, t => match P.underlying t with
    | some .bool | some (.int _) | some .string => true
    | some (.slice e) => match cellTys P (n + 1) e with
      | some ts => decide (P.cellsOf e ≠ 0) && decide (ts.length = P.cellsOf e) && ts.all (cellDeep P n)
      | none => false
    | _ => false

theorem cell_vr : ∀ (n : Nat) (t : TypeId) (u : Value) (fuel : Nat) (x : DataW Hd × List MemPlace), cellDeep P n t = true → DataW.trod enc P w base spare held fuel t [u] = some x → ∃ v, CellOk P n t v ∧ v.leaf = true ∧ VR (own []) w [] v u
  | 0, _, _, _, _, h, _ => by cases h
  | _ + 1, _, _, 0, _, _, h => by cases h
  | n + 1, t, u, fuel + 1, x, h, hx => by
    unfold cellDeep at h
    unfold CellOk
    unfold DataW.trod at hx
    split at h
    · rename_i hu
      rw [hu] at hx
      split at hx <;> first | (simp_all; done) | skip
      rename_i b _ hc
      obtain rfl := (List.cons.inj hc).1
      exact ⟨_, ⟨_, rfl⟩, rfl, .bool⟩
    · rename_i k hu
      rw [hu] at hx
      split at hx <;> first | (simp_all; done) | skip
      split at hx
      · rename_i k' k'' i hk hc hw
        obtain rfl := (List.cons.inj hc).1
        injection hk with hk
        injection hk with hk
        subst hk
        obtain ⟨rfl, hw⟩ := hw
        exact ⟨_, ⟨_, rfl, hw⟩, rfl, .int⟩
      · cases hx
    · rename_i hu
      rw [hu] at hx
      split at hx <;> first | (simp_all; done) | skip
      split at hx
      · rename_i s _ hc hw
        obtain rfl := (List.cons.inj hc).1
        exact ⟨_, ⟨_, rfl, hw⟩, rfl, .str⟩
      · cases hx
    · rename_i e hu
      rw [hu] at hx
      split at h
      · rename_i ts hts
        simp only [Bool.and_eq_true, decide_eq_true_eq] at h
        obtain ⟨⟨he, htl⟩, hall⟩ := h
        split at hx <;> first | (simp_all; done) | skip
        · rename_i e' hk hc
          obtain rfl := (List.cons.inj hc).1
          refine ⟨.pl [], ⟨[], rfl, Nat.zero_le _, by simp⟩, rfl, .pl (xs := []) default 0 (fun _ _ => undef) (Nat.zero_le _) (fun h => absurd rfl h) (fun _ _ h => by simp at h) (fun _ h => by simp at h) (fun _ _ _ _ h => by simp at h) (fun _ _ _ _ h => by simp at h)⟩
        · rename_i e' a len cap hk hc
          obtain rfl := (List.cons.inj hc).1
          injection hk with hk
          injection hk with hk
          subst hk
          simp only at hx
          split at hx
          · rename_i hcnd
            cases hm : (List.range len).mapM (fun i => (w.cells? base (a.add (i * P.cellsOf e)) (P.cellsOf e)).bind (DataW.trod enc P w base spare held fuel e)) with
            | none => rw [hm] at hx; simp at hx
            | some xs =>
              have hg := mapM_some_get hm
              have row : ∀ i, i < len → ∃ r : List AV, r.length = P.cellsOf e ∧ (∀ (j : Nat) (t' : TypeId) (v' : AV), ts[j]? = some t' → r[j]? = some v' → CellOk P n t' v') ∧ a.block < w.heap.size ∧
                  ∀ (j : Nat) (v : AV), r[j]? = some v → v.leaf = true ∧ ∃ u, w.cell? (a.add (i * P.cellsOf e + j)) = some u ∧ VR (own []) w [] v u := by
                intro i hi
                have hx1 := hg i i (by simp [hi])
                have hil : i < xs.length := by rw [mapM_some_length hm]; simpa using hi
                rw [List.getElem?_eq_getElem hil] at hx1
                cases hcs : w.cells? base (a.add (i * P.cellsOf e)) (P.cellsOf e) with
                | none => rw [hcs] at hx1; simp at hx1
                | some cs =>
                  rw [hcs] at hx1
                  simp only [Option.bind_some] at hx1
                  obtain ⟨_, hcl, hcell⟩ := World.cells?_some hcs
                  obtain ⟨hl, hrec⟩ := trod_cells (n + 1) e ts fuel cs _ hts hx1
                  have hblk := World.cells?_block hcs (by omega)
                  rw [add_block] at hblk
                  obtain ⟨r, hr1, hr2⟩ := choose_list (p := fun j v => v.leaf = true ∧ (∀ t', ts[j]? = some t' → CellOk P n t' v) ∧ ∃ u, w.cell? (a.add (i * P.cellsOf e + j)) = some u ∧ VR (own []) w [] v u) (P.cellsOf e) (fun j hj => by
                    have hjc : j < cs.length := by omega
                    have hjt : j < ts.length := by omega
                    obtain ⟨fuel', x', hx', _⟩ := hrec j _ _ (List.getElem?_eq_getElem hjt) (List.getElem?_eq_getElem hjc)
                    obtain ⟨v, k1, k2, k3⟩ := cell_vr n _ _ fuel' x' (List.all_eq_true.1 hall _ (List.getElem_mem hjt)) hx'
                    refine ⟨v, k2, fun t' ht' => ?_, _, ?_, k3⟩
                    · rw [List.getElem?_eq_getElem hjt] at ht'
                      obtain rfl := Option.some.inj ht'
                      exact k1
                    · have := hcell j hj
                      rw [add_add] at this
                      rw [this, List.getElem?_eq_getElem hjc])
                  exact ⟨r, hr1, fun j t' v' ht' hv' => (hr2 j v' hv').2.1 t' ht', hblk, fun j v hv => ⟨(hr2 j v hv).1, (hr2 j v hv).2.2⟩⟩
              obtain ⟨rows, hr1, hr2⟩ := choose_list len row
              have hrows : ∀ i r, rows[i]? = some r → i < len := fun i r hr => by rw [← hr1]; exact (List.getElem?_eq_some_iff.1 hr).1
              refine ⟨.pl rows, ⟨rows, rfl, by omega, fun r hr => ?_⟩, rfl, ?_⟩
              · obtain ⟨i, hi⟩ := List.mem_iff_getElem?.1 hr
                obtain ⟨k1, k2, _, _⟩ := hr2 i r hi
                exact ⟨ts, hts, by omega, k2⟩
              · rw [← hr1]
                refine .pl a (P.cellsOf e) (fun i j => (w.cell? (a.add (i * P.cellsOf e + j))).getD undef) (by omega) (fun hne => ?_) (fun i r hr => (hr2 i r hr).1) (fun i hi j hj => ?_) (fun i j r v hr hv => ((hr2 i r hr).2.2.2 j v hv).1) (fun i j r v hr hv => ?_)
                · have hpos : 0 < rows.length := List.length_pos_iff.2 hne
                  exact ⟨rfl, by rintro ⟨i, s, hs, _⟩; simp at hs, (hr2 0 _ (List.getElem?_eq_getElem hpos)).2.2.1⟩
                · have hk := hr2 i _ (List.getElem?_eq_getElem hi)
                  obtain ⟨_, u, hu', _⟩ := hk.2.2.2 j _ (List.getElem?_eq_getElem (by rw [hk.1]; exact hj))
                  rw [hu']; rfl
                · obtain ⟨_, u, hu', hv'⟩ := (hr2 i r hr).2.2.2 j v hv
                  rw [hu']; exact hv'
          · cases hx
      · cases h
    · cases h

/-- A value that reads, as1 one abstract value. -/
def rowVal (t : Bool) (r : List AV) : AV := if t then .agg r else r.headD .junk
theorem trod_vr {n : Nat} {t : TypeId} {ts : List TypeId} {v : Value} {d : DataW Hd} {ps : List MemPlace} (hts : cellTys P (n + 1) t = some ts) (hd : ts.all (cellDeep P n) = true) (h : DataW.Trod enc P w base spare held t v d ps) :
    ∃ r : List AV, RowIs P n ts r ∧ r.length = v.cells.size ∧ ∀ (j : Nat) (a : AV) (u : Value), r[j]? = some a → v.cells[j]? = some u → a.leaf = true ∧ VR (own []) w [] a u := by
  obtain ⟨fuel, h⟩ := h
  obtain ⟨hl, hrec⟩ := trod_cells (n + 1) t ts fuel _ _ hts h
  obtain ⟨r, hr1, hr2⟩ := choose_list (p := fun j a => a.leaf = true ∧ (∀ t', ts[j]? = some t' → CellOk P n t' a) ∧ ∀ u, v.cells.toList[j]? = some u → VR (own []) w [] a u) ts.length (fun j hj => by
    have hjc : j < v.cells.toList.length := by omega
    obtain ⟨fuel', x', hx', _⟩ := hrec j _ _ (List.getElem?_eq_getElem hj) (List.getElem?_eq_getElem hjc)
    obtain ⟨a, k1, k2, k3⟩ := cell_vr n _ _ fuel' x' (List.all_eq_true.1 hd _ (List.getElem_mem hj)) hx'
    refine ⟨a, k2, fun t' ht' => ?_, fun u hu => ?_⟩
    · rw [List.getElem?_eq_getElem hj] at ht'
      obtain rfl := Option.some.inj ht'
      exact k1
    · rw [List.getElem?_eq_getElem hjc] at hu
      obtain rfl := Option.some.inj hu
      exact k3)
  refine ⟨r, ⟨hr1, fun j t' v' ht' hv' => (hr2 j v' hv').2.1 t' ht'⟩, by rw [hr1, ← hl]; simp, fun j a u ha hu => ⟨(hr2 j a ha).1, (hr2 j a ha).2.2 u (by simpa using hu)⟩⟩
end
end Go.Av

/-
  FROM A CALL's CONTRACT TO A ROW: the arguments as1 abstract values, and what the row asks of the world behind.
-/
namespace Go.Av
open Go.RowKit

section
variable {P : Program} {Hd : Type} {enc : TypeId × Value → Hd} {w : World} {base b : Nat} {spare : Nat → Bool} {held : Bool}
theorem arg_leaf {n : Nat} {t : TypeId} {v : Value} {d : DataW Hd} {ps : List MemPlace} (hd : cellDeep P n t = true) (hval : Value.okWide P w .any b t v) (h : DataW.Trod enc P w base spare held t v d ps) : ∃ a, CellOk P n t a ∧ VR (own []) w [] a v := by
  have hc : v.cells = #[v] := by
    cases n with
    | zero => cases hd
    | succ n =>
      unfold cellDeep at hd
      unfold Value.okWide at hval
      cases v with
      | agg cs =>
        exfalso
        split at hd <;> rename_i hu <;> simp [hu, Cell.okWide, Cell.ok] at hval hd
      | _ => rfl
  obtain ⟨fuel, h⟩ := h
  rw [hc] at h
  obtain ⟨a, h1, _, h2⟩ := cell_vr n t v fuel _ hd h
  exact ⟨a, h1, h2⟩
theorem arg_agg {n : Nat} {t : TypeId} {ts : List TypeId} {v : Value} {d : DataW Hd} {ps : List MemPlace} (hts : cellTys P (n + 1) t = some ts) (hall : ts.all (cellDeep P n) = true) (hagg : (∃ fs, P.underlying t = some (.struct fs)) ∨ ∃ m e, P.underlying t = some (.array m e)) (hval : Value.okWide P w .any b t v) (h : DataW.Trod enc P w base spare held t v d ps) : ∃ r, RowIs P n ts r ∧ VR (own []) w [] (.agg r) v := by
  obtain ⟨r, h1, h2, h3⟩ := trod_vr hts hall h
  have hv : ∃ cs, v = .agg cs := by
    unfold Value.okWide at hval
    rcases hagg with ⟨fs, hu⟩ | ⟨m, e, hu⟩ <;> rw [hu] at hval <;> exact ⟨_, hval.choose_spec.1⟩
  obtain ⟨cs, rfl⟩ := hv
  have hc : (Value.agg cs).cells = cs := rfl
  rw [hc] at h2 h3
  exact ⟨r, h1, .agg h2 (fun j a ha => by
    have hj : j < cs.size := by rw [← h2]; exact (List.getElem?_eq_some_iff.1 ha).1
    exact (h3 j a _ ha (Array.getElem?_eq_getElem hj)).1) (fun j a u ha hu => (h3 j a u ha hu).2)⟩

theorem cell_bool {n : Nat} {t : TypeId} {a : AV} (hu : P.underlying t = some .bool) (h : CellOk P (n + 1) t a) : ∃ b, a = .bool b := by
  unfold CellOk at h; rw [hu] at h; exact h
theorem cell_int {n : Nat} {t : TypeId} {k : IntKind} {a : AV} (hu : P.underlying t = some (.int k)) (h : CellOk P (n + 1) t a) : ∃ i, a = .int k i ∧ (Lit.int k i).wf = true := by
  unfold CellOk at h; rw [hu] at h; exact h
theorem cell_str {n : Nat} {t : TypeId} {a : AV} (hu : P.underlying t = some .string) (h : CellOk P (n + 1) t a) : ∃ s : ByteArray, a = .str s ∧ s.size ≤ maxLen := by
  unfold CellOk at h; rw [hu] at h; exact h
theorem cell_sl {n : Nat} {t e : TypeId} {ts : List TypeId} {a : AV} (hu : P.underlying t = some (.slice e)) (hts : cellTys P (n + 1) e = some ts) (h : CellOk P (n + 1) t a) : ∃ rows, a = .pl rows ∧ rows.length ≤ maxLen ∧ ∀ r ∈ rows, RowIs P n ts r := by
  unfold CellOk at h
  rw [hu] at h
  obtain ⟨rows, h1, h2, h3⟩ := h
  refine ⟨rows, h1, h2, fun r hr => ?_⟩
  obtain ⟨ts', k1, k2, k3⟩ := h3 r hr
  rw [hts] at k1
  obtain rfl := Option.some.inj k1
  exact ⟨k2, k3⟩
theorem row_nil {n : Nat} {r : List AV} (h : RowIs P n [] r) : r = [] := List.eq_nil_of_length_eq_zero h.1
theorem row_cons {n : Nat} {t : TypeId} {ts : List TypeId} {r : List AV} (h : RowIs P n (t :: ts) r) : ∃ v r', r = v :: r' ∧ CellOk P n t v ∧ RowIs P n ts r' := by
  cases r with
  | nil => have := h.1; simp at this
  | cons v r => exact ⟨v, r, rfl, h.2 0 t v rfl rfl, by simpa using h.1, fun j t' v' h1 h2 => h.2 (j + 1) t' v' h1 h2⟩
theorem rows_map {α : Type} {e : α → List AV} : ∀ {rows : List (List AV)}, (∀ r ∈ rows, ∃ x, r = e x) → ∃ l : List α, rows = l.map e
  | [], _ => ⟨[], rfl⟩
  | r :: rows, h => by
    obtain ⟨x, rfl⟩ := h r List.mem_cons_self
    obtain ⟨l, rfl⟩ := rows_map (rows := rows) fun r hr => h r (List.mem_cons_of_mem _ hr)
    exact ⟨x :: l, rfl⟩
theorem cell_byte {n : Nat} {t : TypeId} {a : AV} (hu : P.underlying t = some (.int .u8)) (h : CellOk P (n + 1) t a) : ∃ c : UInt8, a = .int .u8 (c.toNat : Int) := by
  obtain ⟨i, rfl, hw⟩ := cell_int hu h
  have h2 : 0 ≤ i ∧ i < 256 := by
    have e1 : IntKind.u8.min = 0 := rfl
    have e2 : IntKind.u8.max = 255 := rfl
    simp [Lit.wf, e1, e2] at hw
    omega
  refine ⟨UInt8.ofNat i.toNat, ?_⟩
  congr 1
  have : i.toNat < 256 := by omega
  simp [UInt8.toNat_ofNat', Nat.mod_eq_of_lt this]
  omega
theorem cell_bytes {n : Nat} {t e : TypeId} {a : AV} (hu : P.underlying t = some (.slice e)) (he : P.underlying e = some (.int .u8)) (h : CellOk P (n + 2) t a) : ∃ bs : List UInt8, a = .pl (bs.map brow) := by
  have hts : cellTys P (n + 1 + 1) e = some [e] := by unfold cellTys; rw [he]
  obtain ⟨rows, rfl, _, h3⟩ := cell_sl hu hts h
  obtain ⟨l, rfl⟩ := rows_map (e := brow) (rows := rows) fun r hr => by
    obtain ⟨v, r', rfl, h1, h2⟩ := row_cons (h3 r hr)
    obtain rfl := row_nil h2
    obtain ⟨c, rfl⟩ := cell_byte he h1
    exact ⟨c, rfl⟩
  exact ⟨l, rfl⟩

inductive All2 {α β : Type} (R : α → β → Prop) : List α → List β → Prop where
  | nil : All2 R [] []
  | cons {a b as1 bs} (h : R a b) (k : All2 R as1 bs) : All2 R (a :: as1) (b :: bs)
theorem All2.vrs {O : Nat → Prop} {S : List Slot} {vs : List AV} {us : List Value} (h : All2 (VR O w S) vs us) : VRs O w S vs us.toArray := by
  induction h with
  | nil => exact ⟨rfl, fun i v u hv => by simp at hv⟩
  | cons h k ih =>
    refine ⟨by simpa using ih.1, fun i v u hv hu => ?_⟩
    cases i with
    | zero => simp at hv hu; subst hv; subst hu; exact h
    | succ i => exact ih.2 i v u (by simpa using hv) (by simpa using hu)
theorem ac_row {f : FuncId} {avs : List AV} {us : List Value} {bb : Bool} (h : AC P f avs [] (Ret (.bool bb) [])) (hv : All2 (VR (own []) w []) avs us) : Calls P f us.toArray w fun e w' => e = .returned (.bool bb) ∧ Below w.heap.size w w' := by
  refine (h [] w us.toArray ⟨rfl, fun _ _ _ h => by simp at h, fun _ _ _ _ _ h => by simp at h⟩ hv.vrs).mono fun e w' => ?_
  rintro ⟨o, H', S', ⟨rfl, rfl⟩, ho, hh, hx⟩
  cases ho with
  | ret hb =>
    cases hb
    exact ⟨rfl, hx.os, hx.tape, hx.output, hx.stp.size, fun k hk => (hx.stp.old k hk (by rintro ⟨i, s, hs, _⟩; simp at hs)).2⟩
end
end Go.Av

/-
  The range of a whole number that comes in.
-/
namespace Go.Av
theorem u8_w {i : Int} (h : (Lit.int .u8 i).wf = true) : 0 ≤ i ∧ i ≤ 255 := by
  simp only [Lit.wf, Bool.and_eq_true, decide_eq_true_eq] at h
  exact ⟨h.1, h.2⟩
theorem u16_w {i : Int} (h : (Lit.int .u16 i).wf = true) : 0 ≤ i ∧ i ≤ 65535 := by
  simp only [Lit.wf, Bool.and_eq_true, decide_eq_true_eq] at h
  exact ⟨h.1, h.2⟩
theorem u32_w {i : Int} (h : (Lit.int .u32 i).wf = true) : 0 ≤ i ∧ i ≤ 4294967295 := by
  simp only [Lit.wf, Bool.and_eq_true, decide_eq_true_eq] at h
  exact ⟨h.1, h.2⟩
theorem i64_w {i : Int} (h : (Lit.int .i64 i).wf = true) : -9223372036854775808 ≤ i ∧ i ≤ 9223372036854775807 := by
  simp only [Lit.wf, Bool.and_eq_true, decide_eq_true_eq] at h
  exact ⟨h.1, h.2⟩
end Go.Av

