/- Parts of the proof: rules for an abstract memory, plain laws, and walks through the program. -/
import Derived.Test.YtljahedgdjnohaaDoorSetP0
import Derived.Test.YtljahedgdjnohaaDoorSetP1
import Derived.Orders
import Derived.Laws.Strings
import Derived.Lib.SlBytesConst
import Derived.Lib.OthersKept
import Derived.Laws.RangeString
import Derived.Scope
import Derived.Lib.Bytealg
import Derived.Laws.Externs
import Derived.Laws.Bits64
import Derived.Lib.Join
import Derived.Lib.ItoaNum
import Derived.Lib.AtoiAll
import Derived.Laws.StructEq
import Derived.DataReads
import Derived.ChangeOld
import Derived.WalkKit
import Derived.ProofKit
import Derived.OpenShut
import Derived.ShutString
import Derived.Below
import Derived.SizedLaws
import Derived.Carry
import Derived.Lib.LaidTab
import Derived.LaidMore
import Derived.Handed
import Derived.Lib.AtoiErrMem
import Derived.Test.YtljahedgdjnohaaDoorProg
import Derived.KernelRfl
set_option linter.unusedVariables false
set_option linter.unusedSimpArgs false
/-
  REGIONS THAT DRAW THEIR ORDER, over the abstract memory: an operation that may come up now may be taken first if it turns nothing in memory, whatever the others have done meanwhile.
-/
namespace Go.Av

/-- A slot of its own, behind all that a function has: a known table may stand there. -/
abbrev KT : Nat := 1000000
abbrev DN (d N : Nat) : Prop := d < N ∧ d ≠ KT
/-- What an operation's own operands hold (and what is known). -/
def renv (o : Oper) (env : Env) : Env := (KT, get env KT) :: o.op.operands.toList.filterMap fun | .tmp t => some (t, get env t) | _ => none

theorem get_filterMap (l : List Operand) (env : Env) (t : Nat) : get (l.filterMap fun | .tmp t => some (t, get env t) | _ => none) t = .junk ∨ get (l.filterMap fun | .tmp t => some (t, get env t) | _ => none) t = get env t := by
  induction l with
  | nil => exact .inl rfl
  | cons x l ih =>
    cases x with
    | tmp s =>
      simp only [List.filterMap_cons]
      by_cases e : s = t
      · subst e; rw [get_put_same]; exact .inr rfl
      · rw [get_put_other _ _ e]; exact ih
    | const v => simpa [List.filterMap_cons] using ih
    | global g => simpa [List.filterMap_cons] using ih
    | func f => simpa [List.filterMap_cons] using ih
theorem renv_sub (o : Oper) (env : Env) : Sub (renv o env) env := fun t => by
  by_cases hK : KT = t
  · subst hK; exact .inr (get_put_same _ _ _).symm
  show get ((KT, _) :: _) t = .junk ∨ _
  rw [renv, get_put_other _ _ hK]
  rcases get_filterMap o.op.operands.toList env t with h | h
  · exact .inl h
  · exact .inr h.symm

/-- Two environments that hold the same. -/
def Eqv (e e' : Env) : Prop := ∀ t, get e t = get e' t
theorem Eqv.put {e e' : Env} (h : Eqv e e') (d : Option Nat) (v : AV) : Eqv (Av.put e d v) (Av.put e' d v) := fun t => by
  cases d with
  | none => exact h t
  | some d =>
    show get ((d, v) :: e) t = get ((d, v) :: e') t
    by_cases hd : d = t
    · subst hd; rw [get_put_same, get_put_same]
    · rw [get_put_other _ _ hd, get_put_other _ _ hd]; exact h t
theorem Eqv.comm (e : Env) {a b : Option Nat} (x y : AV) (h : ∀ d, a = some d → b ≠ some d) : Eqv (Av.put (Av.put e a x) b y) (Av.put (Av.put e b y) a x) := fun t => by
  cases a with
  | none => rfl
  | some a =>
    cases b with
    | none => rfl
    | some b =>
      have hne : a ≠ b := fun he => h a rfl (he ▸ rfl)
      show get ((b, y) :: (a, x) :: e) t = get ((a, x) :: (b, y) :: e) t
      by_cases h1 : b = t
      · subst h1; rw [get_put_same, get_put_other _ _ hne, get_put_same]
      · rw [get_put_other _ _ h1]
        by_cases h2 : a = t
        · subst h2; rw [get_put_same, get_put_same]
        · rw [get_put_other _ _ h2, get_put_other _ _ h2, get_put_other _ _ h1]
theorem Eqv.renv {e e' : Env} (h : Eqv e e') (o : Oper) : renv o e = renv o e' := by
  unfold Av.renv
  rw [h KT]
  congr 2
  funext x
  cases x <;> simp [h _]
theorem renv_put (ops : Array Oper) (o : Oper) (env : Env) (d : Option Nat) (v : AV) (h : ∀ t, d = some t → t ∉ o.looksAt ops) (hK : ∀ t, d = some t → t ≠ KT) : renv o (Av.put env d v) = renv o env := by
  cases d with
  | none => rfl
  | some d =>
    have hk := hK d rfl
    have h' := h d rfl
    unfold Oper.looksAt at h'
    rw [List.mem_append, not_or] at h'
    have key : ∀ l : List Operand, d ∉ (l.filterMap fun | .tmp t => some t | _ => none) → (l.filterMap fun | .tmp t => some (t, get (Av.put env (some d) v) t) | _ => none) = (l.filterMap fun | .tmp t => some (t, get env t) | _ => none) := by
      intro l h1
      induction l with
      | nil => rfl
      | cons x l ih =>
        cases x with
        | tmp s =>
          simp only [List.filterMap_cons, List.mem_cons, not_or] at h1 ⊢
          rw [ih h1.2]
          show (s, get ((d, v) :: env) s) :: _ = _
          rw [get_put_other _ _ h1.1]
        | const v => simpa [List.filterMap_cons] using ih (by simpa [List.filterMap_cons] using h1)
        | global v => simpa [List.filterMap_cons] using ih (by simpa [List.filterMap_cons] using h1)
        | func v => simpa [List.filterMap_cons] using ih (by simpa [List.filterMap_cons] using h1)
    show (KT, get ((d, v) :: env) KT) :: _ = (KT, get env KT) :: _
    rw [get_put_other _ _ hk]
    exact congrArg _ (key _ h'.1)

section
variable (P : Program) (N : Nat) (B : Base) (ops : Array Oper)

/-- Whether an operation is carried out: by its guard's slot. -/
def Asked (o : Oper) (env : Env) (b : Bool) : Prop := match o.guard with
  | none => b = true
  | some (j, want) => ∃ d, (ops[j]?).bind (·.dst) = some d ∧ ((∃ c, get env d = .bool c ∧ b = (c == want)) ∨ (get env d = .tup [] ∧ b = false))

/-- Operation number i comes up. -/
def AAt (i : Nat) (env : Env) (H : Heap) (K : Env → Heap → Prop) : Prop :=
  ∃ o, ops[i]? = some o ∧ (∀ t, o.dst = some t → DN t N) ∧
    ((Asked ops o env true ∧ ∃ V : AV → Heap → Prop, AOp P N o (renv o env) H V (fun _ _ => False) ∧ ∀ v H', V v H' → K (put env o.dst v) H') ∨ (Asked ops o env false ∧ K (put env o.dst (.tup [])) H))

/-- Operation a (if one is named) has not come up yet. -/
def Yet (a : Option Nat) (listed : Array Bool) : Prop := match a with
  | none => True
  | some a => listed.getD a true = false

/-- What stands behind: some of what is known may be let go. -/
def AFin (B : Base) (F : Env → Heap → Prop) (env : Env) (H : Heap) : Prop := ∃ E M, F E M ∧ Sub E env ∧ Fit B E H M
theorem AFin.eqv {B : Base} {F : Env → Heap → Prop} {e e' : Env} {H : Heap} (he : Eqv e e') (h : AFin B F e H) : AFin B F e' H := by
  obtain ⟨E, M, h1, h2, h3⟩ := h
  exact ⟨E, M, h1, fun t => by rw [← he t]; exact h2 t, h3⟩

/-- Whatever order is picked from here on; C holds of the memory as1 long as1 operation a has not come up. -/
def AAny (a : Option Nat) (C : Heap → Prop) (F : Env → Heap → Prop) : Nat → Array Bool → Env → Heap → Prop
  | 0, listed, env, H => (Yet a listed → C H) ∧ Region.ready .any ops listed = [] ∧ AFin B F env H
  | n + 1, listed, env, H => (Yet a listed → C H) ∧ (Region.ready .any ops listed = [] → AFin B F env H) ∧
    ∀ i ∈ Region.ready .any ops listed, AAt P N ops i env H (AAny a C F n (listed.setIfInBounds i true))
end

section
variable {P : Program} {N : Nat} {B : Base} {ops : Array Oper} {a : Option Nat} {C : Heap → Prop} {F : Env → Heap → Prop}

theorem Asked.congr {o : Oper} {e e' : Env} {b : Bool} (h : Asked ops o e b) (k : ∀ j want d, o.guard = some (j, want) → (ops[j]?).bind (·.dst) = some d → get e' d = get e d) : Asked ops o e' b := by
  unfold Asked at h ⊢
  split at h
  · exact h
  · rename_i j want hg
    obtain ⟨d, hd, h⟩ := h
    refine ⟨d, hd, ?_⟩
    rw [k j want d hg hd]
    exact h
theorem Asked.put {o : Oper} {e : Env} {b : Bool} {d : Option Nat} {v : AV} (h : Asked ops o (Av.put e d v) b) (k : ∀ t, d = some t → t ∉ o.looksAt ops) : Asked ops o e b := h.congr fun j want g hg hd => by
  cases d with
  | none => rfl
  | some d =>
    have hne : d ≠ g := fun e => k d rfl (by subst e; simp [Oper.looksAt, hg, hd])
    exact (get_put_other _ _ hne).symm
theorem Asked.put' {o : Oper} {e : Env} {b : Bool} {d : Option Nat} {v : AV} (h : Asked ops o e b) (k : ∀ t, d = some t → t ∉ o.looksAt ops) : Asked ops o (Av.put e d v) b := h.congr fun j want g hg hd => by
  cases d with
  | none => rfl
  | some d =>
    have hne : d ≠ g := fun e => k d rfl (by subst e; simp [Oper.looksAt, hg, hd])
    exact get_put_other _ _ hne

theorem AAt.mono {i : Nat} {env : Env} {H : Heap} {K K' : Env → Heap → Prop} (h : AAt P N ops i env H K) (hk : ∀ e H, K e H → K' e H) : AAt P N ops i env H K' := by
  obtain ⟨o, ho, hd, h⟩ := h
  refine ⟨o, ho, hd, ?_⟩
  rcases h with ⟨h1, V, h2, h3⟩ | ⟨h1, h2⟩
  · exact .inl ⟨h1, V, h2, fun v H' hv => hk _ _ (h3 v H' hv)⟩
  · exact .inr ⟨h1, hk _ _ h2⟩

theorem AAny.eqv : ∀ (n : Nat) (listed : Array Bool) (env env' : Env) (H : Heap), Eqv env env' → AAny P N B ops a C F n listed env H → AAny P N B ops a C F n listed env' H
  | 0, _, _, _, _, he, h => ⟨h.1, h.2.1, h.2.2.eqv he⟩
  | n + 1, listed, env, env', H, he, h => by
    refine ⟨h.1, fun h0 => (h.2.1 h0).eqv he, fun i hi => ?_⟩
    obtain ⟨o, ho, hd, h⟩ := h.2.2 i hi
    refine ⟨o, ho, hd, ?_⟩
    rcases h with ⟨h1, V, h2, h3⟩ | ⟨h1, h2⟩
    · exact .inl ⟨h1.congr fun _ _ d _ _ => (he d).symm, V, (he.renv o) ▸ h2, fun v H' hv => AAny.eqv n _ _ _ _ (he.put _ _) (h3 v H' hv)⟩
    · exact .inr ⟨h1.congr fun _ _ d _ _ => (he d).symm, AAny.eqv n _ _ _ _ (he.put _ _) h2⟩

/-- It yields v, and turns nothing, in whatever memory of which C holds. -/
def Quiet (P : Program) (N : Nat) (ops : Array Oper) (C : Heap → Prop) (o : Oper) (env : Env) (v : AV) : Prop :=
  (Asked ops o env true ∧ ∀ H, C H → AOp P N o (renv o env) H (fun v' H' => v' = v ∧ H' = H) (fun _ _ => False)) ∨ (Asked ops o env false ∧ v = .tup [])

theorem Quiet.at_ {i : Nat} {o : Oper} {env : Env} {H : Heap} {v : AV} {K : Env → Heap → Prop} (hi : ops[i]? = some o) (hd : ∀ t, o.dst = some t → DN t N) (hq : Quiet P N ops C o env v) (hC : C H) (h : K (Av.put env o.dst v) H) : AAt P N ops i env H K := by
  refine ⟨o, hi, hd, ?_⟩
  rcases hq with ⟨h1, h2⟩ | ⟨h1, rfl⟩
  · exact .inl ⟨h1, _, h2 H hC, by rintro _ _ ⟨rfl, rfl⟩; exact h⟩
  · exact .inr ⟨h1, h⟩
theorem Quiet.put {o : Oper} {env : Env} {v : AV} {d : Option Nat} {x : AV} (hq : Quiet P N ops C o env v) (k : ∀ t, d = some t → t ∉ o.looksAt ops) (hK : ∀ t, d = some t → t ≠ KT) : Quiet P N ops C o (Av.put env d x) v := by
  rcases hq with ⟨h1, h2⟩ | ⟨h1, h2⟩
  · exact .inl ⟨h1.put' k, by rw [renv_put ops o env d x k hK]; exact h2⟩
  · exact .inr ⟨h1.put' k, h2⟩

theorem AAny.here {n : Nat} {listed : Array Bool} {env : Env} {H : Heap} (h : AAny P N B ops a C F n listed env H) : Yet a listed → C H := by
  cases n <;> exact h.1

/-- **Taken first.** -/
theorem aa_first_aux {i : Nat} {oi : Oper} {v : AV} (hi : ops[i]? = some oi) (hdi : ∀ t, oi.dst = some t → DN t N) (hai : a ≠ some i) (hwait : ∀ a', a = some a' → ∀ oa, ops[a']? = some oa → ∃ e ∈ oa.after, Region.binds .any e = true ∧ e.on = i) :
    ∀ (fuel : Nat) (listed : Array Bool) (env : Env) (H : Heap), listed.size = ops.size →
      (∀ j oj, ops[j]? = some oj → j ≠ i → listed.getD j true = false → (∀ e ∈ oj.after, Region.binds .any e = true → e.on ≠ i) → oi.apart ops oj = true) →
      i ∈ Region.ready .any ops listed → Yet a listed → Quiet P N ops C oi env v →
      AAny P N B ops a C F fuel (listed.setIfInBounds i true) (Av.put env oi.dst v) H → AAny P N B ops a C F (fuel + 1) listed env H := by
  have hset : ∀ (listed : Array Bool) (j : Nat), a ≠ some j → Yet a (listed.setIfInBounds j true) = Yet a listed := fun listed j hj => by
    unfold Yet
    cases a with
    | none => rfl
    | some a => simp only; rw [getD_set_ne true (fun e => hj (by rw [e]))]
  intro fuel
  induction fuel with
  | zero =>
    intro listed env H hsz _ hr ha hq h
    have hC : C H := h.1 (by rw [hset _ _ hai]; exact ha)
    refine ⟨fun _ => hC, fun h0 => (by rw [h0] at hr; cases hr), fun j hj => ?_⟩
    by_cases hji : j = i
    · subst hji; exact hq.at_ hi hdi hC h
    · have := ready_mono hj hji
      rw [h.2.1] at this
      cases this
  | succ fuel ih =>
    intro listed env H hsz hfree hr ha hq h
    have hC : C H := h.1 (by rw [hset _ _ hai]; exact ha)
    refine ⟨fun _ => hC, fun h0 => (by rw [h0] at hr; cases hr), fun j hj => ?_⟩
    by_cases hji : j = i
    · subst hji; exact hq.at_ hi hdi hC h
    · have h1 := h.2.2 j (ready_mono hj hji)
      obtain ⟨hjun, oj, hoj, hall⟩ := mem_ready.1 hj
      have hnot : ∀ e ∈ oj.after, Region.binds .any e = true → e.on ≠ i := fun e he hb heq => by
        have h1 := hall e he hb
        have h0 := (mem_ready.1 hr).1
        rw [heq] at h1
        rcases Nat.lt_or_ge i listed.size with h' | h'
        · simp [h'] at h0 h1; rw [h0] at h1; cases h1
        · simp [Array.getElem?_eq_none h'] at h1
      have hja : a ≠ some j := by
        rintro rfl
        obtain ⟨e, he, hb, heq⟩ := hwait j rfl oj hoj
        exact hnot e he hb heq
      have hap := hfree j oj hoj hji hjun hnot
      obtain ⟨p1, p2, p3⟩ := Oper.apart_spec hap
      have hfree' : ∀ k ok, ops[k]? = some ok → k ≠ i → (listed.setIfInBounds j true).getD k true = false →
          (∀ e ∈ ok.after, Region.binds .any e = true → e.on ≠ i) → oi.apart ops ok = true := fun k ok hk hki hun hno => by
        refine hfree k ok hk hki ?_ hno
        by_cases hjk : j = k
        · subst hjk; exact hjun
        · rw [getD_set_ne true hjk] at hun; exact hun
      obtain ⟨o, ho, hd, h2⟩ := h1
      rw [hoj] at ho
      obtain rfl := Option.some.inj ho
      have step : ∀ x H', AAny P N B ops a C F fuel ((listed.setIfInBounds i true).setIfInBounds j true) (Av.put (Av.put env oi.dst v) oj.dst x) H' → AAny P N B ops a C F (fuel + 1) (listed.setIfInBounds j true) (Av.put env oj.dst x) H' := by
        intro x H' hx
        refine ih (listed.setIfInBounds j true) (Av.put env oj.dst x) H' (by simpa using hsz) hfree' (ready_mono hr (Ne.symm hji)) (by rw [hset _ _ hja]; exact ha) (hq.put p3 fun t ht => (hd t ht).2) ?_
        rw [Array.setIfInBounds_comm _ _ hji]
        exact AAny.eqv _ _ _ _ _ (Eqv.comm env v x p2) hx
      refine ⟨oj, hoj, hd, ?_⟩
      rcases h2 with ⟨k1, V, k2, k3⟩ | ⟨k1, k2⟩
      · exact .inl ⟨k1.put p1, V, by rw [renv_put ops oj env oi.dst v p1 fun t ht => (hdi t ht).2] at k2; exact k2, fun x H' hx => step x H' (k3 x H' hx)⟩
      · exact .inr ⟨k1.put p1, step _ _ k2⟩

/-- Taken first, if nothing in memory is asked. -/
theorem aa_first0_aux {i : Nat} {oi : Oper} {v : AV} (hi : ops[i]? = some oi) (hdi : ∀ t, oi.dst = some t → DN t N) (hai : a ≠ some i) :
    ∀ (fuel : Nat) (listed : Array Bool) (env : Env) (H : Heap), listed.size = ops.size →
      (∀ j oj, ops[j]? = some oj → j ≠ i → listed.getD j true = false → (∀ e ∈ oj.after, Region.binds .any e = true → e.on ≠ i) → oi.apart ops oj = true) →
      i ∈ Region.ready .any ops listed → Quiet P N ops (fun _ => True) oi env v →
      AAny P N B ops a C F fuel (listed.setIfInBounds i true) (Av.put env oi.dst v) H → AAny P N B ops a C F (fuel + 1) listed env H := by
  have hset : ∀ (listed : Array Bool) (j : Nat), a ≠ some j → Yet a (listed.setIfInBounds j true) = Yet a listed := fun listed j hj => by
    unfold Yet
    cases a with
    | none => rfl
    | some a => simp only; rw [getD_set_ne true (fun e => hj (by rw [e]))]
  intro fuel
  induction fuel with
  | zero =>
    intro listed env H hsz _ hr hq h
    refine ⟨fun ha => h.1 (by rw [hset _ _ hai]; exact ha), fun h0 => (by rw [h0] at hr; cases hr), fun j hj => ?_⟩
    by_cases hji : j = i
    · subst hji; exact hq.at_ hi hdi trivial h
    · have := ready_mono hj hji
      rw [h.2.1] at this
      cases this
  | succ fuel ih =>
    intro listed env H hsz hfree hr hq h
    refine ⟨fun ha => h.1 (by rw [hset _ _ hai]; exact ha), fun h0 => (by rw [h0] at hr; cases hr), fun j hj => ?_⟩
    by_cases hji : j = i
    · subst hji; exact hq.at_ hi hdi trivial h
    · have h1 := h.2.2 j (ready_mono hj hji)
      obtain ⟨hjun, oj, hoj, hall⟩ := mem_ready.1 hj
      have hnot : ∀ e ∈ oj.after, Region.binds .any e = true → e.on ≠ i := fun e he hb heq => by
        have h1 := hall e he hb
        have h0 := (mem_ready.1 hr).1
        rw [heq] at h1
        rcases Nat.lt_or_ge i listed.size with h' | h'
        · simp [h'] at h0 h1; rw [h0] at h1; cases h1
        · simp [Array.getElem?_eq_none h'] at h1
      have hap := hfree j oj hoj hji hjun hnot
      obtain ⟨p1, p2, p3⟩ := Oper.apart_spec hap
      have hfree' : ∀ k ok, ops[k]? = some ok → k ≠ i → (listed.setIfInBounds j true).getD k true = false →
          (∀ e ∈ ok.after, Region.binds .any e = true → e.on ≠ i) → oi.apart ops ok = true := fun k ok hk hki hun hno => by
        refine hfree k ok hk hki ?_ hno
        by_cases hjk : j = k
        · subst hjk; exact hjun
        · rw [getD_set_ne true hjk] at hun; exact hun
      obtain ⟨o, ho, hd, h2⟩ := h1
      rw [hoj] at ho
      obtain rfl := Option.some.inj ho
      have step : ∀ x H', AAny P N B ops a C F fuel ((listed.setIfInBounds i true).setIfInBounds j true) (Av.put (Av.put env oi.dst v) oj.dst x) H' → AAny P N B ops a C F (fuel + 1) (listed.setIfInBounds j true) (Av.put env oj.dst x) H' := by
        intro x H' hx
        refine ih (listed.setIfInBounds j true) (Av.put env oj.dst x) H' (by simpa using hsz) hfree' (ready_mono hr (Ne.symm hji)) (hq.put p3 fun t ht => (hd t ht).2) ?_
        rw [Array.setIfInBounds_comm _ _ hji]
        exact AAny.eqv _ _ _ _ _ (Eqv.comm env v x p2) hx
      refine ⟨oj, hoj, hd, ?_⟩
      rcases h2 with ⟨k1, V, k2, k3⟩ | ⟨k1, k2⟩
      · exact .inl ⟨k1.put p1, V, by rw [renv_put ops oj env oi.dst v p1 fun t ht => (hdi t ht).2] at k2; exact k2, fun x H' hx => step x H' (k3 x H' hx)⟩
      · exact .inr ⟨k1.put p1, step _ _ k2⟩

def firstB0 (ops : Array Oper) (listed : Array Bool) (a : Option Nat) (i : Nat) : Bool :=
  (Region.ready .any ops listed).contains i && Region.free .any ops listed i && a != some i && decide (listed.size = ops.size)
theorem aa_first0 {fuel : Nat} {listed : Array Bool} {env : Env} {H : Heap} (i : Nat) {oi : Oper} {v : AV} (hi : ops[i]? = some oi) (hB : firstB0 ops listed a i = true) (hd : ∀ t, oi.dst = some t → DN t N) (hq : Quiet P N ops (fun _ => True) oi env v)
    (h : AAny P N B ops a C F fuel (listed.setIfInBounds i true) (Av.put env oi.dst v) H) : AAny P N B ops a C F (fuel + 1) listed env H := by
  simp only [firstB0, Bool.and_eq_true, bne_iff_ne, decide_eq_true_eq] at hB
  obtain ⟨⟨⟨h1, h2⟩, h3⟩, h5⟩ := hB
  exact aa_first0_aux hi hd h3 fuel listed env H h5 (Region.free_spec hi h2) (by simpa using h1) hq h

/-- Everything asked of it, by computation. -/
def firstB (ops : Array Oper) (listed : Array Bool) (a : Option Nat) (i : Nat) : Bool :=
  (Region.ready .any ops listed).contains i && Region.free .any ops listed i && decide (listed.size = ops.size) &&
    match a with
    | none => true
    | some a => i != a && !(listed.getD a true) && match ops[a]? with
      | some oa => oa.after.toList.any fun e => Region.binds .any e && e.on == i
      | none => false

theorem aa_first {fuel : Nat} {listed : Array Bool} {env : Env} {H : Heap} (i : Nat) {oi : Oper} {v : AV} (hi : ops[i]? = some oi) (hB : firstB ops listed a i = true) (hd : ∀ t, oi.dst = some t → DN t N) (hq : Quiet P N ops C oi env v)
    (h : AAny P N B ops a C F fuel (listed.setIfInBounds i true) (Av.put env oi.dst v) H) : AAny P N B ops a C F (fuel + 1) listed env H := by
  simp only [firstB, Bool.and_eq_true, decide_eq_true_eq] at hB
  obtain ⟨⟨⟨h1, h2⟩, h5⟩, h6⟩ := hB
  cases a with
  | none => exact aa_first_aux hi hd (by simp) (fun a' h => by cases h) fuel listed env H h5 (Region.free_spec hi h2) (by simpa using h1) trivial hq h
  | some a =>
    simp only [Bool.and_eq_true, bne_iff_ne, Bool.not_eq_true'] at h6
    obtain ⟨⟨h3, h6⟩, h7⟩ := h6
    refine aa_first_aux hi hd (fun e => h3 (Option.some.inj e).symm) (fun a' ha oa hoa => ?_) fuel listed env H h5 (Region.free_spec hi h2) (by simpa using h1) h6 hq h
    obtain rfl := Option.some.inj ha
    rw [hoa] at h7
    simp only [List.any_eq_true, Bool.and_eq_true, beq_iff_eq] at h7
    obtain ⟨e, he, hb, ho⟩ := h7
    exact ⟨e, by simpa using he, hb, ho⟩

/-- The only one that may come up now. -/
theorem aa_sole {fuel : Nat} {listed : Array Bool} {env : Env} {H : Heap} (i : Nat) {oi : Oper} {v : AV} {H' : Heap} (hi : ops[i]? = some oi) (hr : (Region.ready .any ops listed == [i]) = true) (hC : Yet a listed → C H) (hd : ∀ t, oi.dst = some t → DN t N)
    (hg : oi.guard = none) (h1 : AOp P N oi (renv oi env) H (fun v' h' => v' = v ∧ h' = H') (fun _ _ => False))
    (h : AAny P N B ops a C F fuel (listed.setIfInBounds i true) (Av.put env oi.dst v) H') : AAny P N B ops a C F (fuel + 1) listed env H := by
  have hr' : Region.ready .any ops listed = [i] := by simpa using hr
  refine ⟨hC, fun h0 => (by rw [hr'] at h0; cases h0), fun j hj => ?_⟩
  rw [hr'] at hj
  obtain rfl : j = i := by simpa using hj
  exact ⟨oi, hi, hd, .inl ⟨by unfold Asked; rw [hg], _, h1, by rintro _ _ ⟨rfl, rfl⟩; exact h⟩⟩
/-- Any one of those that may come up now. -/
theorem aa_all {fuel : Nat} {listed : Array Bool} {env : Env} {H : Heap} (l : List Nat) (hr : (Region.ready .any ops listed == l) = true) (hne : l ≠ []) (hC : Yet a listed → C H)
    (h : ∀ i ∈ l, AAt P N ops i env H (AAny P N B ops a C F fuel (listed.setIfInBounds i true))) : AAny P N B ops a C F (fuel + 1) listed env H := by
  have hr' : Region.ready .any ops listed = l := by simpa using hr
  refine ⟨hC, fun h0 => absurd (hr'.symm.trans h0) hne, fun j hj => ?_⟩
  rw [hr'] at hj
  exact h j hj
theorem aa_done {fuel : Nat} {listed : Array Bool} {env : Env} {H : Heap} (hr : (Region.ready .any ops listed == []) = true) (hC : Yet a listed → C H) (h : F env H) : AAny P N B ops a C F fuel listed env H := by
  have hr' : Region.ready .any ops listed = [] := by simpa using hr
  have hf : AFin B F env H := ⟨env, H, h, Sub.refl env, Fit.refl _ _⟩
  cases fuel with
  | zero => exact ⟨hC, hr', hf⟩
  | succ n => exact ⟨hC, fun _ => hf, fun j hj => by rw [hr'] at hj; cases hj⟩

theorem Asked.run {S : List Slot} {act : Act} {w : World} {o : Oper} {env : Env} {b : Bool} {H : Heap} (hc : CR N env H S act w) (h : Asked ops o env b) : Region.wanted o (yielded ops act.tmps) = b := by
  unfold Asked at h
  unfold Region.wanted
  split at h
  · rename_i hg; rw [hg]; exact h.symm
  · rename_i j want hg
    rw [hg]
    obtain ⟨d, hd, h⟩ := h
    rcases h with ⟨c, hc', rfl⟩ | ⟨h1, rfl⟩
    · simp only
      rw [yielded_of hc hd hc']
      cases c <;> cases want <;> rfl
    · simp only
      rw [not_yielded hc hd h1]
      rfl

theorem AAny.sound {Q : Post} : ∀ (fuel : Nat) (listed : Array Bool) (env : Env) (H : Heap), AAny P N B ops a C (Q .nrm) fuel listed env H → ∀ S act w, CR N env H S act w → Ext B.S B.w S w → wpAny P .any ops (Lift N Q B) fuel listed act w := by
  have fin : ∀ env H, AFin B (Q .nrm) env H → ∀ S act w, CR N env H S act w → Ext B.S B.w S w → Lift N Q B .normal act w := by
    rintro env H ⟨E, M, hQ, hs, hf⟩ S act w hc hb
    obtain ⟨S', c', k'⟩ := (hc.sub hs).fit hb hf
    exact ⟨.nrm, E, M, S', hQ, .nrm, c', k'⟩
  intro fuel
  induction fuel with
  | zero => intro listed env H h S act w hc hb; exact ⟨h.2.1, fin env H h.2.2 S act w hc hb⟩
  | succ fuel ih =>
    intro listed env H h S act w hc hb
    refine ⟨fun h0 => fin env H (h.2.1 h0) S act w hc hb, fun i hi => ?_⟩
    obtain ⟨o, ho, hd, h2⟩ := h.2.2 i hi
    unfold wpOp
    rw [ho]
    simp only
    rcases h2 with ⟨k1, V, k2, k3⟩ | ⟨k1, k2⟩
    · rw [if_pos (k1.run hc)]
      left
      refine k2 S act w (hc.sub (renv_sub o env)) _ _ ?_ (fun _ _ _ _ _ hf => hf.elim)
      intro v u H' S' w' hv hh hx hvr
      exact ih _ _ _ (k3 v H' hv) S' _ w' (hc.put hx hh (fun t ht => (hd t ht).1) hvr) (hb.trans hx)
    · rw [if_neg (by rw [k1.run hc]; exact Bool.false_ne_true)]
      exact ih _ _ _ k2 S _ w (hc.put (Ext.refl S w) hc.heap (fun t ht => (hd t ht).1) undef_ok) hb

/-- A region that draws its order. -/
theorem aw_draw {id : Nat} {l : List Oper} {Q : Post} {env : Env} {H : Heap} (hm : P.follows .mixedOrders = true) (a : Option Nat) (C : Heap → Prop)
    (h : AAny P N B l.toArray a C (Q .nrm) l.length (Array.replicate l.length false) env H) : AWp P N B (.region id l.toArray true) Q env H := fun S act w hc hb =>
  wp_region_any hm (by
    have hx : Ext S w S { w with drawn := w.drawn + 1 } := ⟨rfl, rfl, rfl, ⟨Nat.le_refl _, fun b _ h => ⟨h, rfl⟩, fun _ arr _ h => ⟨arr, h, rfl⟩⟩, SExt.refl S⟩
    have hh : HRel H S { w with drawn := w.drawn + 1 } := same_heap hc.heap hx (fun _ _ => rfl)
    have := AAny.sound l.length _ env H h S act { w with drawn := w.drawn + 1 } (hc.step hx hh) (hb.trans hx)
    simpa using this)

/-! #### As a walk uses them -/
variable {fuel : Nat} {listed : Array Bool} {env : Env} {H : Heap} {op : Op} {ty : TypeId} {pos : String} {after : Array Edge} {v : AV}
theorem aq1 {d : Nat} (i : Nat) (hi : ops[i]? = some ⟨some d, op, ty, pos, after, none⟩) (hB : firstB ops listed a i = true) (hd : DN d N) (h1 : ∀ H', C H' → V1 P N op ty (renv ⟨some d, op, ty, pos, after, none⟩ env) H' v)
    (h : AAny P N B ops a C F fuel (listed.setIfInBounds i true) ((d, v) :: env) H) : AAny P N B ops a C F (fuel + 1) listed env H :=
  aa_first i hi hB (by rintro _ ⟨⟩; exact hd) (.inl ⟨rfl, fun H hC => (h1 H hC).toV2 _ _ _ _⟩) h
theorem aq2 {d : Nat} (i : Nat) (hi : ops[i]? = some ⟨some d, op, ty, pos, after, none⟩) (hB : firstB ops listed a i = true) (hd : DN d N) (h1 : ∀ H', C H' → V2 P N op ty (renv ⟨some d, op, ty, pos, after, none⟩ env) H' v H')
    (h : AAny P N B ops a C F fuel (listed.setIfInBounds i true) ((d, v) :: env) H) : AAny P N B ops a C F (fuel + 1) listed env H :=
  aa_first i hi hB (by rintro _ ⟨⟩; exact hd) (.inl ⟨rfl, fun H hC => h1 H hC _ _ _ _⟩) h
/-- Nothing in memory is asked. -/
theorem aq0 {d : Nat} (i : Nat) (hi : ops[i]? = some ⟨some d, op, ty, pos, after, none⟩) (hB : firstB0 ops listed a i = true) (hd : DN d N) (h1 : ∀ H', V1 P N op ty (renv ⟨some d, op, ty, pos, after, none⟩ env) H' v)
    (h : AAny P N B ops a C F fuel (listed.setIfInBounds i true) ((d, v) :: env) H) : AAny P N B ops a C F (fuel + 1) listed env H :=
  aa_first0 i hi hB (by rintro _ ⟨⟩; exact hd) (.inl ⟨rfl, fun H _ => (h1 H).toV2 _ _ _ _⟩) h
theorem aqy1 {d j g : Nat} {want : Bool} (i : Nat) (hi : ops[i]? = some ⟨some d, op, ty, pos, after, some (j, want)⟩) (hB : firstB ops listed a i = true) (hd : DN d N) (hj : (ops[j]?).bind (·.dst) = some g) (hb : get env g = .bool want)
    (h1 : ∀ H', C H' → V1 P N op ty (renv ⟨some d, op, ty, pos, after, some (j, want)⟩ env) H' v)
    (h : AAny P N B ops a C F fuel (listed.setIfInBounds i true) ((d, v) :: env) H) : AAny P N B ops a C F (fuel + 1) listed env H :=
  aa_first i hi hB (by rintro _ ⟨⟩; exact hd) (.inl ⟨⟨g, hj, .inl ⟨want, hb, by simp⟩⟩, fun H hC => (h1 H hC).toV2 _ _ _ _⟩) h
theorem aqy2 {d j g : Nat} {want : Bool} (i : Nat) (hi : ops[i]? = some ⟨some d, op, ty, pos, after, some (j, want)⟩) (hB : firstB ops listed a i = true) (hd : DN d N) (hj : (ops[j]?).bind (·.dst) = some g) (hb : get env g = .bool want)
    (h1 : ∀ H', C H' → V2 P N op ty (renv ⟨some d, op, ty, pos, after, some (j, want)⟩ env) H' v H')
    (h : AAny P N B ops a C F fuel (listed.setIfInBounds i true) ((d, v) :: env) H) : AAny P N B ops a C F (fuel + 1) listed env H :=
  aa_first i hi hB (by rintro _ ⟨⟩; exact hd) (.inl ⟨⟨g, hj, .inl ⟨want, hb, by simp⟩⟩, fun H hC => h1 H hC _ _ _ _⟩) h
theorem aqn {d j g : Nat} {want c : Bool} (i : Nat) (hi : ops[i]? = some ⟨some d, op, ty, pos, after, some (j, want)⟩) (hB : firstB ops listed a i = true) (hd : DN d N) (hj : (ops[j]?).bind (·.dst) = some g) (hb : get env g = .bool c) (hc : (c == want) = false)
    (h : AAny P N B ops a C F fuel (listed.setIfInBounds i true) ((d, .tup []) :: env) H) : AAny P N B ops a C F (fuel + 1) listed env H :=
  aa_first i hi hB (by rintro _ ⟨⟩; exact hd) (.inr ⟨⟨g, hj, .inl ⟨c, hb, hc.symm⟩⟩, rfl⟩) h
theorem aqu {d j g : Nat} {want : Bool} (i : Nat) (hi : ops[i]? = some ⟨some d, op, ty, pos, after, some (j, want)⟩) (hB : firstB ops listed a i = true) (hd : DN d N) (hj : (ops[j]?).bind (·.dst) = some g) (hb : get env g = .tup [])
    (h : AAny P N B ops a C F fuel (listed.setIfInBounds i true) ((d, .tup []) :: env) H) : AAny P N B ops a C F (fuel + 1) listed env H :=
  aa_first i hi hB (by rintro _ ⟨⟩; exact hd) (.inr ⟨⟨g, hj, .inr ⟨hb, rfl⟩⟩, rfl⟩) h
theorem aq_split {g : Nat} {b : Bool} (hb : get env g = .bool b) (h1 : b = true → AAny P N B ops a C F fuel listed ((g, .bool true) :: env) H) (h2 : b = false → AAny P N B ops a C F fuel listed ((g, .bool false) :: env) H) : AAny P N B ops a C F fuel listed env H := by
  have key : Eqv ((g, AV.bool b) :: env) env := fun t => by
    by_cases e : g = t
    · subst e; rw [get_put_same, hb]
    · rw [get_put_other _ _ e]
  cases b
  · exact AAny.eqv _ _ _ _ _ key (h2 rfl)
  · exact AAny.eqv _ _ _ _ _ key (h1 rfl)
theorem aqs {dst : Option Nat} {H' : Heap} (i : Nat) (hi : ops[i]? = some ⟨dst, op, ty, pos, after, none⟩) (hr : (Region.ready .any ops listed == [i]) = true) (hC : Yet a listed → C H) (hd : ∀ t, dst = some t → DN t N)
    (h1 : V2 P N op ty (renv ⟨dst, op, ty, pos, after, none⟩ env) H v H') (h : AAny P N B ops a C F fuel (listed.setIfInBounds i true) (Av.put env dst v) H') : AAny P N B ops a C F (fuel + 1) listed env H :=
  aa_sole i hi hr hC hd rfl (h1 _ _ _ _) h
theorem aat {dst : Option Nat} {H' : Heap} {i : Nat} {K : Env → Heap → Prop} (hi : ops[i]? = some ⟨dst, op, ty, pos, after, none⟩) (hd : ∀ t, dst = some t → DN t N)
    (h1 : V2 P N op ty (renv ⟨dst, op, ty, pos, after, none⟩ env) H v H') (h : K (Av.put env dst v) H') : AAt P N ops i env H K :=
  ⟨_, hi, hd, .inl ⟨rfl, _, h1 _ _ _ _, by rintro _ _ ⟨rfl, rfl⟩; exact h⟩⟩
/-- What a bool slot holds is told. -/
theorem aa_outP {env : Env} {H : Heap} {listed : Array Bool} {fuel t : Nat} {v : AV} (hr : (Region.ready .any ops listed == []) = true) (hC : Yet a listed → C H) {E : Env} (hv : get env t = v) (hs : SubX t E env) (h : F ((t, v) :: E) H) : AAny P N B ops a C F fuel listed env H := by
  have hr' : Region.ready .any ops listed = [] := by simpa using hr
  have hf : AFin B F env H := ⟨(t, v) :: E, H, h, hs.sub hv, Fit.refl _ _⟩
  cases fuel with
  | zero => exact ⟨hC, hr', hf⟩
  | succ n => exact ⟨hC, fun _ => hf, fun j hj => by rw [hr'] at hj; cases hj⟩
end
end Go.Av

/-
  WHAT IS MADE, AND NEVER WRITTEN AGAIN, IS A LIST AT ONCE.
-/
namespace Go.Av

theorem str_eq (p q : ByteArray) : (p.toList == q.toList) = decide (p = q) := by
  rw [ByteArray.toList_eq, ByteArray.toList_eq, Bool.eq_iff_iff]
  simp
  constructor
  · intro h; cases p; cases q; simp_all
  · rintro rfl; rfl
theorem bytes_eq (p q : List UInt8) : decide ((⟨p.toArray⟩ : ByteArray) = ⟨q.toArray⟩) = decide (p = q) := by simp
theorem o_seqd {P : Program} {N : Nat} {env : Env} {H : Heap} {ty : TypeId} {x y : Operand} {t t' : TypeId} {p q : ByteArray} (hx : aev env x = .str p) (hy : aev env y = .str q) : V1 P N (.binOp .eql t x y t') ty env H (.bool (decide (p = q))) := str_eq p q ▸ o_seq hx hy
theorem o_sned {P : Program} {N : Nat} {env : Env} {H : Heap} {ty : TypeId} {x y : Operand} {t t' : TypeId} {p q : ByteArray} (hx : aev env x = .str p) (hy : aev env y = .str q) : V1 P N (.binOp .neq t x y t') ty env H (.bool (!decide (p = q))) := str_eq p q ▸ o_sne hx hy
theorem zadd {α : Type} {xs : List α} {k : Nat} {r : α} (h : xs[k]? = some r) : xs[0 + k]? = some r := by rw [Nat.zero_add]; exact h
/-- A slice with nothing in it, and no room, is an empty list. -/
def AV.up1 : AV → AV
  | .nsl => .pl []
  | v => v
def AV.up : AV → AV
  | .nsl => .pl []
  | .agg cs => .agg (cs.map AV.up1)
  | v => v
theorem VR.up1 {O : Nat → Prop} {w : World} {S : List Slot} {v : AV} {u : Value} (h : VR O w S v u) : VR O w S v.up1 u := by
  cases h with
  | nsl => exact .pl (xs := []) default 0 (fun _ _ => undef) (Nat.zero_le _) (fun h => absurd rfl h) (fun _ _ h => by simp at h) (fun _ h => by simp at h) (fun _ _ _ _ h => by simp at h) (fun _ _ _ _ h => by simp at h)
  | sl s hs hg h1 h => exact .sl s hs hg h1 h
  | pt s hs hg h1 h => exact .pt s hs hg h1 h
  | pl base sz u hc hb hs hm hl hv => exact .pl base sz u hc hb hs hm hl hv
  | pp base sz u hb hs hm hl hv => exact .pp base sz u hb hs hm hl hv
  | agg hn hl h => exact .agg hn hl h
  | tup hn h => exact .tup hn h
  | fn hp hq h1 h2 => exact .fn hp hq h1 h2
  | ifc h => exact .ifc h
  | know h1 h2 h3 h4 => exact .know h1 h2 h3 h4
  | _ => constructor
theorem AV.up1_leaf (v : AV) : v.up1.leaf = v.leaf := by cases v <;> rfl
theorem VR.up {O : Nat → Prop} {w : World} {S : List Slot} {v : AV} {u : Value} (h : VR O w S v u) : VR O w S v.up u := by
  cases h with
  | @agg _ cs vs hn hl h =>
    refine .agg (by simpa using hn) (fun j v hv => ?_) (fun j v u hv hu => ?_)
    · rw [List.getElem?_map] at hv
      cases hc : cs[j]? with
      | none => simp [hc] at hv
      | some c => simp [hc] at hv; subst hv; rw [AV.up1_leaf]; exact hl j c hc
    · rw [List.getElem?_map] at hv
      cases hc : cs[j]? with
      | none => simp [hc] at hv
      | some c => simp [hc] at hv; subst hv; exact (h j c u hc hu).up1
  | nsl => exact VR.nsl.up1
  | sl s hs hg h1 h => exact .sl s hs hg h1 h
  | pt s hs hg h1 h => exact .pt s hs hg h1 h
  | pl base sz u hc hb hs hm hl hv => exact .pl base sz u hc hb hs hm hl hv
  | pp base sz u hb hs hm hl hv => exact .pp base sz u hb hs hm hl hv
  | tup hn h => exact .tup hn h
  | fn hp hq h1 h2 => exact .fn hp hq h1 h2
  | ifc h => exact .ifc h
  | know h1 h2 h3 h4 => exact .know h1 h2 h3 h4
  | _ => constructor
def AObj.up (o : AObj) : AObj := { o with rows := o.rows.map (·.map AV.up1) }
theorem HRel.up {H : Heap} {S : List Slot} {w : World} (h : HRel H S w) {id : Nat} {o : AObj} (hid : H[id]? = some o) : HRel (H.set id o.up) S w := by
  refine ⟨by simpa using h.len, fun id' o' s' ho' hs' => ?_, h.inj⟩
  by_cases e : id = id'
  · subst e
    rw [List.getElem?_set_self (List.getElem?_eq_some_iff.1 hid).1] at ho'
    obtain rfl := Option.some.inj ho'
    have ok := h.obj id o s' hid hs'
    refine ⟨ok.gen, ok.sz, ok.pos, fun hn => by simp [AObj.up, ok.nope hn], fun b hb => ?_⟩
    obtain ⟨arr, ty, h1, h2, h3⟩ := ok.lies b hb
    refine ⟨arr, ty, h1, by simpa [AObj.up] using h2, fun i r hr => ?_⟩
    simp only [AObj.up, List.getElem?_map] at hr
    cases hc : o.rows[i]? with
    | none => simp [hc] at hr
    | some r0 =>
      simp [hc] at hr
      subst hr
      obtain ⟨k1, k2⟩ := h3 i r0 hc
      refine ⟨by simpa [AObj.up] using k1, fun j v hv => ?_⟩
      rw [List.getElem?_map] at hv
      cases hc2 : r0[j]? with
      | none => simp [hc2] at hv
      | some c =>
        simp [hc2] at hv
        subst hv
        obtain ⟨k3, u, k4, k5⟩ := k2 j c hc2
        exact ⟨by rw [AV.up1_leaf]; exact k3, u, k4, k5.up1⟩
  · rw [List.getElem?_set_ne e] at ho'
    exact h.obj id' o' s' ho' hs'
theorem aw_upL {P : Program} {N : Nat} {B : Base} {Q : Post} {env : Env} {H0 L : Heap} {c : Code} (k : Nat) {o : AObj} (hk : L[k]? = some o) (h : AWp P N B c Q env (H0 ++ L.set k o.up)) : AWp P N B c Q env (H0 ++ L) := fun S a w hc hb =>
  h S a w ⟨by have := hc.heap.up (lk (H0 := H0) rfl hk); rwa [st rfl] at this, hc.env, hc.size, hc.defers⟩ hb
theorem aw_up {P : Program} {N : Nat} {B : Base} {Q : Post} {env : Env} {H : Heap} {c : Code} (t : Nat) {v : AV} (ht : get env t = v) (h : AWp P N B c Q ((t, v.up) :: env) H) : AWp P N B c Q env H := fun S a w hc hb =>
  h S a w ⟨hc.heap, fun t' => by
    by_cases e : t = t'
    · subst e; rw [get_put_same, ← ht]; exact (hc.env t).up
    · rw [get_put_other _ _ e]; exact hc.env t', hc.size, hc.defers⟩ hb
theorem V1.up {P : Program} {N : Nat} {op : Op} {ty : TypeId} {env : Env} {H : Heap} {v : AV} (h : V1 P N op ty env H v) : V1 P N op ty env H v.up := fun S a w hc =>
  let ⟨u, h1, h2⟩ := h S a w hc
  ⟨u, h1, h2.up⟩

theorem fill_arr {S : List Slot} {w : World} (n sz : Nat) : ∀ (parts : List (Nat × AV)) (us : List (Nat × Value)) (cs cs' : List AV) (vs : Array Value),
    parts.length = us.length → (∀ (j : Nat) (x : Nat × AV) (y : Nat × Value), parts[j]? = some x → us[j]? = some y → x.1 = y.1 ∧ VR (own S) w S x.2 y.2) → CellsR S w cs vs → afill ((List.range n).map fun i => (i * sz, sz)) cs parts = some cs' →
    ∃ vs', Instr.fill (fun i => some (i * sz, sz)) vs us = some vs' ∧ CellsR S w cs' vs' := by
  intro parts
  induction parts with
  | nil =>
    intro us cs cs' vs hl _ h he
    cases us with
    | nil => simp [afill] at he; subst he; exact ⟨vs, rfl, h⟩
    | cons y us => simp at hl
  | cons x parts ih =>
    intro us cs cs' vs hl hr h he
    cases us with
    | nil => simp at hl
    | cons y us =>
      obtain ⟨i, v⟩ := x
      obtain ⟨i', u⟩ := y
      obtain ⟨hi, hv⟩ := hr 0 _ _ rfl rfl
      simp only at hi hv
      subst hi
      unfold afill at he
      cases hpl : ((List.range n).map fun i => (i * sz, sz))[i]? with
      | none => rw [hpl] at he; cases he
      | some x =>
        have hx : x = (i * sz, sz) := by
          rw [List.getElem?_map] at hpl
          cases hi : (List.range n)[i]? with
          | none => simp [hi] at hpl
          | some k =>
            have hk : k = i := by
              have := List.getElem?_eq_some_iff.1 hi
              obtain ⟨hlt, e⟩ := this
              simpa using e.symm
            rw [hi] at hpl
            subst hk
            exact (Option.some.inj hpl).symm
        subst hx
        rw [hpl] at he
        simp only at he
        split at he
        · rename_i hcnd
          obtain ⟨c1, c2, c3⟩ := hcnd
          obtain ⟨k1, _, k3⟩ := hv.cells c3
          have hput := h.put ⟨k1, k3⟩ (off := i * sz) (by omega)
          rw [c1] at hput
          obtain ⟨vs', e1, e2⟩ := ih us _ cs' _ (by simpa using hl) (fun j x y hx hy => hr (j + 1) x y hx hy) hput he
          refine ⟨vs', ?_, e2⟩
          have hif : (decide (u.cells.size ≠ sz) || decide (i * sz + u.cells.size > vs.size)) = false := by
            have := h.1
            simp
            omega
          unfold Instr.fill
          simp only [hif, Bool.false_eq_true, if_false]
          exact e1
        · cases he
theorem o_buildArr {P : Program} {N : Nat} {env : Env} {H : Heap} {ty t e : TypeId} {n sz : Nat} {agg : Bool} {parts : Array (Nat × Operand)} {zs cs : List AV} [hz : ZcI P t zs] [ha : ArI P t n e] [TyI P e agg sz] (hf : afill ((List.range n).map fun i => (i * sz, sz)) zs (parts.toList.map fun (i, x) => (i, aev env x)) = some cs) :
    V1 P N (.build t parts) ty env H (.agg cs) := by
  intro S a w hc
  obtain ⟨z, hz1, hz2⟩ := run_zc (P := P) (t := t) S w
  obtain ⟨h1, h2⟩ := parts_ok hc parts
  obtain ⟨vs', e1, e2⟩ := fill_arr (S := S) (w := w) n sz _ _ zs cs z.cells h1 h2 hz2 hf
  refine ⟨.agg vs', fun _ _ _ _ => ?_, e2.agg⟩
  simp only [execOp, Instr.build, Sem.run_bind, hz1, Result.andThen_ok, run_und ha.ud, run_sz (P := P) (t := e) (agg := agg) (sz := sz), e1, Sem.run_pure]


/-- A constant text's bytes: they are read, and never written. -/
theorem ao_litb {P : Program} {N : Nat} {B : Base} {Q : Post} {env : Env} {H : Heap} {ops : Array Oper} {rest : List Oper} {t e : TypeId} {n d1 d2 : Nat} {parts : Array (Nat × Operand)} {ty1 ty2 : TypeId} {pos1 pos2 : String} {after1 after2 : Array Edge} {zs cs : List AV} (bs : List UInt8)
    [hu : SlI P t e] [hue : UdI P e (.int .u8)] [TyI P e false 1] [hz : ZcI P e zs] (hn : zs.length = 1) (h0 : 0 < n) (hbig : n ≤ 16777216)
    (hf : afill ((List.range n).map fun i => (i * 1, 1)) (List.replicate n zs).flatten (parts.toList.map fun (i, x) => (i, aev env x)) = some cs) (hcs : cs = bs.map fun b => .int .u8 (b.toNat : Int)) (hd1 : d1 < N) (hd2 : d2 < N)
    (h : AOps P N B ops rest Q ((d2, .pl (bs.map brow)) :: (d1, .junk) :: env) H) :
    AOps P N B ops (⟨some d1, .buildSlice t n parts, ty1, pos1, after1, none⟩ :: ⟨some d2, .convert t t (.tmp d1), ty2, pos2, after2, none⟩ :: rest) Q env H := by
  intro S a w hc hb
  obtain ⟨z, hz1, hz2⟩ := run_zc (P := P) (t := e) S w
  obtain ⟨h1, h2⟩ := parts_ok hc parts
  have hrep := hz2.rep (by omega) n
  rw [hn] at hrep
  obtain ⟨vs', e1, e2⟩ := fill_arr (S := S) (w := w) n 1 _ _ (List.replicate n zs).flatten cs _ h1 h2 hrep hf
  have hlen : cs.length = vs'.size := e2.1
  have hcl : cs.length = n := by
    have hfl : ∀ (parts : List (Nat × AV)) (cs cs' : List AV), afill ((List.range n).map fun i => (i * 1, 1)) cs parts = some cs' → cs'.length = cs.length := by
      intro parts
      induction parts with
      | nil => intro cs cs' he; simp [afill] at he; rw [he]
      | cons x parts ih =>
        intro cs cs' he
        obtain ⟨i, v⟩ := x
        unfold afill at he
        split at he
        · cases he
        · split at he
          · rename_i hcnd
            have := ih _ _ he
            rw [this]
            simp
            omega
          · cases he
    have := hfl _ _ _ hf
    have h3 : ((List.replicate n zs).flatten).length = n := by simp [hn]
    rw [this, h3]
  have hbl : bs.length = n := by rw [← hcl, hcs]; simp
  have hr1 : ∀ pos after, (execOp a.eval ⟨some d1, .buildSlice t n parts, ty1, pos, after, none⟩).run P w = .ok (.value (.slice (some ⟨w.heap.size, 0, none⟩) n n)) (w.alloc (.cells vs' e)) := by
    intro pos after
    have hne : ¬ (n * 1 = 0) := by omega
    have hnb : ¬ (n * 1 > 2 ^ 24) := by omega
    simp only [execOp, Instr.buildSlice, Sem.run_bind, run_und hu.ud, Result.andThen_ok, run_sz (P := P) (t := e) (agg := false) (sz := 1), hnb, hne, if_false, hz1, Sem.run_pure, e1]
    simp [newRow]
  refine wpList_plain rfl fun next hnext => ?_
  unfold Oper.wp
  rw [hr1]
  refine hnext _ _ ?_
  refine wpList_plain rfl fun next2 hnext2 => ?_
  have hev : (a.put (some d1) (.slice (some ⟨w.heap.size, 0, none⟩) n n)).eval (.tmp d1) = .slice (some ⟨w.heap.size, 0, none⟩) n n := by
    simp [Act.eval, Act.put, hc.size, hd1]
  have hr2 : (execOp (a.put (some d1) (.slice (some ⟨w.heap.size, 0, none⟩) n n)).eval ⟨some d2, .convert t t (.tmp d1), ty2, pos2, after2, none⟩).run P (w.alloc (.cells vs' e)) = .ok (.value (.slice (some ⟨w.heap.size, 0, none⟩) n n)) (w.alloc (.cells vs' e (vs'.size, vs'.size + 1))) := by
    have := Lib.run_convert_bytes_const (P := P) w t e vs' n n hu.ud hue.ud
    simp only [execOp, hev, Sem.run_bind, this, Result.andThen_ok, Sem.run_pure]
  unfold Oper.wp
  rw [hr2]
  refine hnext2 _ _ ?_
  have hold : ∀ b, b < w.heap.size → (w.alloc (.cells vs' e (vs'.size, vs'.size + 1))).heap[b]? = w.heap[b]? := fun b hb => (by first | exact heap_alloc_old w _ b hb | exact heap_alloc_old w _ hb)
  have hx : Ext S w S (w.alloc (.cells vs' e (vs'.size, vs'.size + 1))) := ⟨rfl, rfl, rfl, ⟨by simp, fun b hb ho => ⟨ho, hold b hb⟩, fun b arr ty hb' => ⟨arr, by rw [hold b (Array.getElem?_eq_some_iff.1 hb').1]; exact hb', rfl⟩⟩, SExt.refl S⟩
  have hh := same_heap hc.heap hx hold
  have c1 := hc.put (d := some d1) (v := .junk) (u := .slice (some ⟨w.heap.size, 0, none⟩) n n) hx hh (by rintro _ ⟨⟩; exact hd1) .junk
  have hv : VR (own S) (w.alloc (.cells vs' e (vs'.size, vs'.size + 1))) S (.pl (bs.map brow)) (.slice (some ⟨w.heap.size, 0, none⟩) n n) := by
    have key : ∀ i (hi : i < bs.length), vs'[i]? = some (.int .u8 (bs[i].toNat : Int)) := by
      intro i hi
      have h3 : cs[i]? = some (.int .u8 (bs[i].toNat : Int)) := by rw [hcs, List.getElem?_map, List.getElem?_eq_getElem hi]; rfl
      obtain ⟨_, u, h4, h5⟩ := e2.2 i _ h3
      cases h5
      exact h4
    have hl2 : (bs.map brow).length = n := by simp [hbl]
    rw [← hl2]
    refine .pl ⟨w.heap.size, 0, none⟩ 1 (fun i _ => vs'.getD i undef) (Nat.le_refl _) (fun _ => ⟨rfl, fun ho => absurd (own_lt hc.heap ho) (Nat.lt_irrefl _), by simp⟩) (fun i r hr => ?_) (fun i hi j hj => ?_) (fun i j r v hr hv => ?_) (fun i j r v hr hv => ?_)
    · rw [List.getElem?_map] at hr
      cases hq : bs[i]? with
      | none => simp [hq] at hr
      | some b => simp [hq] at hr; subst hr; rfl
    · obtain rfl : j = 0 := by omega
      have hi' : i < bs.length := by simpa using hi
      have hk := key i hi'
      rw [Nat.mul_one, Nat.add_zero, add_none, Nat.zero_add]
      simp only [World.cell?, World.alloc, Array.getElem?_push, if_true, hk]
      simp [hk]
    · rw [List.getElem?_map] at hr
      cases hq : bs[i]? with
      | none => simp [hq] at hr
      | some b =>
        simp [hq] at hr; subst hr
        cases j with
        | zero => simp [brow] at hv; subst hv; rfl
        | succ j => simp [brow] at hv
    · rw [List.getElem?_map] at hr
      cases hq : bs[i]? with
      | none => simp [hq] at hr
      | some b =>
        simp [hq] at hr; subst hr
        cases j with
        | zero =>
          simp [brow] at hv; subst hv
          obtain ⟨hi, rfl⟩ := List.getElem?_eq_some_iff.1 hq
          simp only [Array.getD_eq_getD_getElem?, key i hi, Option.getD_some]
          exact .int
        | succ j => simp [brow] at hv
  have c2 := c1.put (Ext.refl S _) hh (d := some d2) (by rintro _ ⟨⟩; exact hd2) hv
  exact h S _ _ c2 (hb.trans hx)

theorem vfreeze {H : Heap} {S S' : List Slot} {w w' : World} {o : AObj} {off len cap : Nat} {ys : List (List AV)} {u : Value} (h0 : HRel H S w) (hx : Ext S w S' w') (hh : HRel (H ++ [o]) S' w')
    (hv : VR (own S') w' S' (.sl H.length o.gen off len cap) u) (hys : (o.rows.drop off).take len = ys) (hlen : ys.length = len) (hp : ∀ r ∈ ys, AV.bels 0 r = true) :
    ∃ S'', HRel H S'' w' ∧ Ext S w S'' w' ∧ VR (own S'') w' S'' (.pl ys) u := by
  let a : Act := { tmps := #[u], defers := [] }
  have hc : CR 1 [(0, .sl H.length o.gen off len cap)] (H ++ [o]) S' a w' := ⟨hh, fun t => by
    cases t with
    | zero => exact hv
    | succ t => exact .junk, rfl, rfl⟩
  obtain ⟨S2, h2, x2⟩ := hc.freeze (B := ⟨S, w⟩) (t := 0) (id := H.length) (cap := cap) (o := o) hx rfl (by simp) hys hlen hp
  have h3 := h2.sub (E := [(0, .pl ys)]) (Sub.cons rfl Sub.nil)
  rw [List.set_append_right _ _ (Nat.le_refl _)] at h3
  simp only [Nat.sub_self, List.set_cons_zero] at h3
  have hb : (AV.pl ys).bel H.length = true := by
    exact rfl
  obtain ⟨S4, h4, x4⟩ := h3.fit (B := ⟨S, w⟩) (M := H) x2 (.inr ⟨[⟨o.gen + 1, o.sz, []⟩], rfl, by rw [h0.len]; exact Nat.le_refl _, EBel.cons hb EBel.nil, h0.bel⟩)
  exact ⟨S4, h4.heap, x4, h4.env 0⟩

theorem vbump {H : Heap} {S S' : List Slot} {w w' : World} {id len cap m : Nat} (hm : m ≤ max cap len) {o : AObj} {u : Value} (hx : Ext S w S' w') (hh : HRel H S' w') (hid : H[id]? = some o)
    (hv : VR (own S') w' S' (.sl id o.gen 0 len cap) u) :
    ∃ S'', HRel (H.set id ⟨o.gen + 1, o.sz, o.rows.take len⟩) S'' w' ∧ Ext S w S'' w' ∧ VR (own S'') w' S'' (.sl id (o.gen + 1) 0 len m) u := by
  obtain ⟨s, hs, ok⟩ := hh.slot hid
  have hlt : id < S'.length := (List.getElem?_eq_some_iff.1 hs).1
  have hltH : id < H.length := (List.getElem?_eq_some_iff.1 hid).1
  have hown : ∀ b, own (S'.set id ⟨s.gen + 1, s.sz, s.place⟩) b ↔ own S' b := by
    intro b
    constructor
    · rintro ⟨i, si, hi, hpi⟩
      by_cases e : id = i
      · subst e
        rw [List.getElem?_set_self hlt] at hi
        obtain rfl := Option.some.inj hi
        exact ⟨id, s, hs, hpi⟩
      · rw [List.getElem?_set_ne e] at hi
        exact ⟨i, si, hi, hpi⟩
    · rintro ⟨i, si, hi, hpi⟩
      by_cases e : id = i
      · subst e
        rw [hs] at hi
        obtain rfl := Option.some.inj hi
        exact ⟨id, _, List.getElem?_set_self hlt, hpi⟩
      · exact ⟨i, si, by rw [List.getElem?_set_ne e]; exact hi, hpi⟩
  have hx2 : Ext S' w' (S'.set id ⟨s.gen + 1, s.sz, s.place⟩) w' := ⟨rfl, rfl, rfl, ⟨Nat.le_refl _, fun b _ ho => ⟨fun k => ho ((hown b).1 k), rfl⟩, fun _ arr _ h => ⟨arr, h, rfl⟩⟩, SExt.bump hs (by simp)⟩
  have hh2 : HRel (H.set id ⟨o.gen + 1, o.sz, o.rows.take len⟩) (S'.set id ⟨s.gen + 1, s.sz, s.place⟩) w' := by
    refine ⟨by simpa using hh.len, fun id' o' s' ho' hs' => ?_, fun i j si sj b hi hj hbi hbj => ?_⟩
    · by_cases e : id = id'
      · subst e
        rw [List.getElem?_set_self hlt] at hs'
        rw [List.getElem?_set_self hltH] at ho'
        obtain rfl := Option.some.inj hs'
        obtain rfl := Option.some.inj ho'
        refine ⟨by simp [ok.gen], ok.sz, ok.pos, fun hn => by simp [ok.nope hn], fun b hb => ?_⟩
        obtain ⟨arr, ty', h1, h2⟩ := ok.row hb
        have h2' := h2.mono hx2.stp hx2.slots
        refine ⟨arr, ty', h1, Nat.le_trans (Nat.mul_le_mul_right _ (by simp; omega)) h2'.1, fun i r hr => h2'.2 i r ?_⟩
        rw [List.getElem?_take] at hr
        split at hr
        · exact hr
        · cases hr
      · rw [List.getElem?_set_ne e] at ho' hs'
        have ok' := hh.obj id' o' s' ho' hs'
        refine ⟨ok'.gen, ok'.sz, ok'.pos, ok'.nope, fun b hb => ?_⟩
        obtain ⟨arr, ty', h1, h2⟩ := ok'.row hb
        exact ⟨arr, ty', h1, (h2.mono hx2.stp hx2.slots).1, (h2.mono hx2.stp hx2.slots).2⟩
    · have key : ∀ {i : Nat} {si : Slot}, (S'.set id ⟨s.gen + 1, s.sz, s.place⟩)[i]? = some si → ∃ ti : Slot, S'[i]? = some ti ∧ ti.place = si.place := by
        intro i si h
        by_cases e : id = i
        · subst e
          rw [List.getElem?_set_self hlt] at h
          obtain rfl := Option.some.inj h
          exact ⟨s, hs, rfl⟩
        · rw [List.getElem?_set_ne e] at h
          exact ⟨si, h, rfl⟩
      obtain ⟨ti, hti, hpi⟩ := key hi
      obtain ⟨tj, htj, hpj⟩ := key hj
      exact hh.inj i j ti tj b hti htj (hpi.trans hbi) (hpj.trans hbj)
  refine ⟨_, hh2, hx.trans hx2, ?_⟩
  cases hv with
  | sl s' hs' hg h1 hsl =>
    rw [hs] at hs'
    obtain rfl := Option.some.inj hs'
    refine .sl ⟨s.gen + 1, s.sz, s.place⟩ (List.getElem?_set_self hlt) (by simp [ok.gen]) h1 fun _ => ?_
    obtain ⟨c, hc1, hc2, hsl⟩ := hsl ok.gen.symm
    exact ⟨c, by omega, hc2, hsl⟩

theorem VRs.up {O : Nat → Prop} {w : World} {S : List Slot} {vs : List AV} {us : Array Value} (h : VRs O w S vs us) : VRs O w S (vs.map AV.up) us := by
  refine ⟨by simpa using h.1, fun i v u hv hu => ?_⟩
  rw [List.getElem?_map] at hv
  cases hc : vs[i]? with
  | none => simp [hc] at hv
  | some c => simp [hc] at hv; subst hv; exact (h.2 i c u hc hu).up
theorem AC.up {P : Program} {f : FuncId} {vs us : List AV} {H : Heap} {R : AOut → Heap → Prop} (h : AC P f us H R) (hvs : vs.map AV.up = us) : AC P f vs H R := fun S w cargs hH hv => h S w cargs hH (hvs ▸ hv.up)

section
variable {P : Program} {N : Nat} {B : Base} {env : Env} {H H0 L : Heap} {op : Op} {ty : TypeId}
theorem V2.freeze {o : AObj} {g off len cap : Nat} {ys : List (List AV)} (h : V2 P N op ty env H (.sl H.length g off len cap) (H ++ [o])) (hg : o.gen = g) (hys : (o.rows.drop off).take len = ys) (hlen : ys.length = len) (hp : ∀ r ∈ ys, AV.bels 0 r = true) :
    V2 P N op ty env H (.pl ys) H := by
  subst hg
  intro dst pos after guard S a w hc next Q hn hq
  refine h dst pos after guard S a w hc next Q ?_ (fun _ _ _ _ _ hf => hf.elim)
  rintro v u H' S' w' ⟨rfl, rfl⟩ hh hx hv
  obtain ⟨S2, h2, x2, v2⟩ := vfreeze hc.heap hx hh hv hys hlen hp
  exact hn _ _ _ S2 w' ⟨rfl, rfl⟩ h2 x2 v2
theorem V2.freeze1 {o : AObj} {g len cap : Nat} (h : V2 P N op ty env H (.sl H.length g 0 len cap) (H ++ [o])) (hg : o.gen = g) (hlen : o.rows.length = len) (hp : ∀ r ∈ o.rows, AV.bels 0 r = true) :
    V2 P N op ty env H (.pl o.rows) H := h.freeze hg (by rw [List.drop_zero, ← hlen, List.take_length]) hlen hp
theorem V2.freezeL {o : AObj} {g k len cap : Nat} (h : V2 P N op ty env (H0 ++ L) (.sl (Lid H0.length k) g 0 len cap) (H0 ++ (L ++ [o]))) (hk : L.length = k) (hg : o.gen = g) (hlen : o.rows.length = len) (hp : ∀ r ∈ o.rows, AV.bels 0 r = true) :
    V2 P N op ty env (H0 ++ L) (.pl o.rows) (H0 ++ L) := by
  rw [← Lid_app hk, ← List.append_assoc] at h
  exact V2.freeze1 (g := g) (len := len) (cap := cap) (by simpa [Lid] using h) hg hlen hp
/-- A nil slice, or one with no room, is an empty list. -/
theorem V2.nslpl (h : V2 P N op ty env H .nsl H) : V2 P N op ty env H (.pl []) H := by
  intro dst pos after guard S a w hc next Q hn hq
  refine h dst pos after guard S a w hc next Q ?_ (fun _ _ _ _ _ hf => hf.elim)
  rintro v u H' S' w' ⟨rfl, rfl⟩ hh hx hv
  refine hn _ _ _ S' w' ⟨rfl, rfl⟩ hh hx ?_
  cases hv with
  | @nsl _ ad => exact .pl (xs := []) default 0 (fun _ _ => undef) (Nat.zero_le _) (fun h => absurd rfl h) (fun _ _ h => by simp at h) (fun _ h => by simp at h) (fun _ _ _ _ h => by simp at h) (fun _ _ _ _ h => by simp at h)

theorem V2.ghost (h : V2 P N op ty env H .nsl H) (sz : Nat) (hp : 0 < sz) : V2 P N op ty env H (.sl H.length 0 0 0 0) (H ++ [⟨0, sz, []⟩]) := by
  intro dst pos after guard S a w hc next Q hn hq
  refine h dst pos after guard S a w hc next Q ?_ (fun _ _ _ _ _ hf => hf.elim)
  rintro v u H' S' w' ⟨rfl, rfl⟩ hh hx hv
  have hc1 : CR 1 [(0, .nsl)] H' S' { tmps := #[u], defers := [] } w' := ⟨hh, fun t => by
    cases t with
    | zero => exact hv
    | succ t => exact .junk, rfl, rfl⟩
  obtain ⟨S2, h2, x2⟩ := hc1.ghost (B := ⟨S, w⟩) (t := 0) hx rfl hp
  exact hn _ _ _ S2 w' ⟨rfl, rfl⟩ h2.heap x2 (h2.env 0)
theorem V2.bump {id len cap m : Nat} {o : AObj} (hm : m ≤ max cap len) (h : V2 P N op ty env H (.sl id o.gen 0 len cap) H) (hid : H[id]? = some o) : V2 P N op ty env H (.sl id (o.gen + 1) 0 len m) (H.set id ⟨o.gen + 1, o.sz, o.rows.take len⟩) := by
  intro dst pos after guard S a w hc next Q hn hq
  refine h dst pos after guard S a w hc next Q ?_ (fun _ _ _ _ _ hf => hf.elim)
  rintro v u H' S' w' ⟨rfl, rfl⟩ hh hx hv
  obtain ⟨S2, h2, x2, v2⟩ := vbump hm hx hh hid hv
  exact hn _ _ _ S2 w' ⟨rfl, rfl⟩ h2 x2 v2

/-- Append to a slice with nothing in it, and no room: a row of the call's own, whatever comes. -/
theorem g_append_nsl {t t' e : TypeId} {x y : Operand} {sz bytes k : Nat} {agg : Bool} {zs : List AV} {ys : List (List AV)} [hu : SlI P t e] [NiI P t'] [TyI P e agg sz] [hz : ZcI P e zs] [ByI P e bytes]
    (hx : aev env x = .nsl) (hy : Src P N env (H0 ++ L) y sz ys) (hn : zs.length = sz) (hp : 0 < sz) (h63 : ys.length ≤ 9223372036854775807) (hb : ys.length * bytes ≤ 140737488355328) (hk : L.length = k) :
    V2 P N (.call { callee := .builtin .append, args := #[x, y], argTypes := #[t, t'] }) ty env (H0 ++ L) (.sl (Lid H0.length k) 0 0 ys.length ys.length) (H0 ++ (L ++ [⟨0, sz, ys⟩])) := by
  rcases Nat.eq_zero_or_pos ys.length with h0 | h0
  · have : ys = [] := List.eq_nil_of_length_eq_zero h0
    subst this
    have := (o_append_nsl0 (P := P) (N := N) (env := env) (H := H0 ++ L) (ty := ty) (t := t) (t' := t') (e := e) (agg := agg) (sz := sz) hx hy).ghost sz hp
    rw [List.length_append, hk, List.append_assoc] at this
    exact this
  · exact o_append_nslL (agg := agg) (e := e) (zs := zs) hn hp hx hy h0 h63 hb hk
/-- Append to a row of the call's own, whatever comes. -/
theorem g_append {t t' e : TypeId} {x y : Operand} {n k g len cap sz bytes : Nat} {agg : Bool} {zs : List AV} {o : AObj} {ys : List (List AV)} [hu : SlI P t e] [NiI P t'] [TyI P e agg sz] [hz : ZcI P e zs] [ByI P e bytes]
    (hx : aev env x = .sl (Lid n k) g 0 len cap) (hn : H0.length = n) (hk : L[k]? = some o) (hg : o.gen = g) (hsz : o.sz = sz) (hy : Src P N env (H0 ++ L) y sz ys) (hz' : zs.length = sz) (hlen : len ≤ o.rows.length) (h63 : len + ys.length ≤ 9223372036854775807) (hb : (len + ys.length) * bytes ≤ 140737488355328) :
    V2 P N (.call { callee := .builtin .append, args := #[x, y], argTypes := #[t, t'] }) ty env (H0 ++ L) (.sl (Lid n k) (g + 1) 0 (len + ys.length) (len + ys.length)) (H0 ++ L.set k ⟨g + 1, o.sz, o.rows.take len ++ ys⟩) := by
  rcases Nat.eq_zero_or_pos ys.length with h0 | h0
  · have : ys = [] := List.eq_nil_of_length_eq_zero h0
    subst this
    subst hg
    have := (o_append0 (P := P) (N := N) (env := env) (H := H0 ++ L) (ty := ty) (t := t) (t' := t') (e := e) (agg := agg) (sz := sz) hx (lk hn hk) hy).bump (m := len) (by omega) (lk hn hk)
    rw [st hn] at this
    simpa using this
  · exact w_append (agg := agg) (e := e) (zs := zs) hx hn hk hg hsz hy hz' hlen h0 h63 hb
/-- Cleared: what was known of the row from there on is let go. -/
theorem o_clear {t e : TypeId} {x : Operand} {id off len cap sz : Nat} {agg : Bool} {zs : List AV} {o : AObj} [hu : SlI P t e] [TyI P e agg sz] [hz : ZcI P e zs] (hx : aev env x = .sl id o.gen off len cap) (hid : H[id]? = some o) (hsz : o.sz = sz) (hn : zs.length = sz) :
    V2 P N (.call { callee := .builtin .clear, args := #[x], argTypes := #[t] }) ty env H (.tup []) (H.set id { o with rows := o.rows.take off }) := by
  intro dst pos after guard S a w hc next Q hnext _
  obtain ⟨s, c, hsl, ok, hcc, hlc, h⟩ := hc.slc hx hid
  have hlt : id < S.length := (List.getElem?_eq_some_iff.1 hsl).1
  obtain ⟨z, hz1, hz2⟩ := run_zc (P := P) (t := e) S w
  have key : ∀ w1, (Builtin.clear_ #[t] ty #[a.eval x]).run P w = .ok (.tuple #[]) w1 → (∃ H', (H' = H.set id { o with rows := o.rows.take off }) ∧ HRel H' S w1 ∧ Ext S w S w1) → Oper.wp P ⟨dst, .call { callee := .builtin .clear, args := #[x], argTypes := #[t] }, ty, pos, after, guard⟩ a w next Q := by
    rintro w1 hr ⟨H', rfl, hh, hx'⟩
    have hrun : (execOp a.eval ⟨dst, .call { callee := .builtin .clear, args := #[x], argTypes := #[t] }, ty, pos, after, guard⟩).run P w = .ok (.value (.tuple #[])) w1 := by
      simp [execOp, resolve, invoke, builtin, hr]
    unfold Oper.wp
    rw [hrun]
    exact hnext _ _ _ _ _ ⟨rfl, rfl⟩ hh hx' undef_ok
  have take_hrel : ∀ (hnil : o.rows.take off = o.rows ∨ s.place = none ∨ True), HRel (H.set id { o with rows := o.rows.take off }) S w := by
    intro _
    refine ⟨by simpa using hc.heap.len, fun id' o' s' ho' hs' => ?_, hc.heap.inj⟩
    by_cases e : id = id'
    · subst e
      rw [List.getElem?_set_self (List.getElem?_eq_some_iff.1 hid).1] at ho'
      obtain rfl := Option.some.inj ho'
      rw [hsl] at hs'
      obtain rfl := Option.some.inj hs'
      refine ⟨ok.gen, ok.sz, ok.pos, fun hn => by simp [ok.nope hn], fun b hb => ?_⟩
      obtain ⟨arr, ty', h1, h2⟩ := ok.row hb
      refine ⟨arr, ty', h1, Nat.le_trans (Nat.mul_le_mul_right _ (by simp; omega)) h2.1, fun i r hr => h2.2 i r ?_⟩
      rw [List.getElem?_take] at hr
      split at hr
      · exact hr
      · cases hr
    · rw [List.getElem?_set_ne e] at ho'
      exact hc.heap.obj id' o' s' ho' hs'
  rcases h with ⟨h0, ad, he⟩ | ⟨b, arr, et, hp, he, hbl, hfit, hrow⟩
  · refine key w ?_ ⟨_, rfl, take_hrel (.inr (.inr trivial)), Ext.refl S w⟩
    rw [he]
    cases ad <;> simp [Builtin.clear_, run_und hu.ud]
  · rcases Nat.eq_zero_or_pos len with h0 | h0
    · subst h0
      refine key w ?_ ⟨_, rfl, take_hrel (.inr (.inr trivial)), Ext.refl S w⟩
      rw [he]
      simp [Builtin.clear_, run_und hu.ud]
    · have hzn : z.cells.size = sz := by
        have := hz2.1
        omega
      have hvs : (Builtin.zeroCells z.cells len).toList.length = len * sz := by rw [Array.length_toList, size_zeroCells, hzn]
      have hfit2 : off * o.sz + (Builtin.zeroCells z.cells len).toList.length ≤ arr.size := by
        rw [hvs, hsz, ← Nat.add_mul]
        rw [hsz] at hfit
        exact Nat.le_trans (Nat.mul_le_mul_right _ (by omega)) hfit
      have hone : ∀ v ∈ (Builtin.zeroCells z.cells len).toList, v.oneCell' = true := by
        intro v hv
        obtain ⟨i, hi⟩ := List.mem_iff_getElem?.1 hv
        rw [Array.getElem?_toList] at hi
        have hi2 := (Array.getElem?_eq_some_iff.1 hi).1
        have hpos : 0 < z.cells.size := by
          rcases Nat.eq_zero_or_pos z.cells.size with e | e
          · rw [size_zeroCells, e] at hi2; simp at hi2
          · exact e
        have hm : i % z.cells.size < z.cells.size := Nat.mod_lt _ hpos
        have hv2 : v = z.cells[i % z.cells.size] := by
          have := (Array.getElem?_eq_some_iff.1 hi).2
          rw [← this]
          simp [Builtin.zeroCells, hm]
        have hj : i % z.cells.size < zs.length := by rw [hn, ← hzn]; exact hm
        obtain ⟨h1, u, h2, h3⟩ := hz2.2 _ _ (List.getElem?_eq_getElem hj)
        rw [Array.getElem?_eq_getElem hm] at h2
        rw [hv2, Option.some.inj h2]
        exact h3.one h1
      have hst := run_storeCells_at P b (off * o.sz) et (Builtin.zeroCells z.cells len).toList 0 arr w hbl (by simpa using hfit2) hone
      simp only [Nat.add_zero] at hst
      have hw := hc.heap.write (rows' := o.rows.take off) (arr' := (arr.toList.take (off * o.sz) ++ (Builtin.zeroCells z.cells len).toList ++ arr.toList.drop (off * o.sz + (Builtin.zeroCells z.cells len).toList.length)).toArray) hid hsl hp hbl (by simp only [List.size_toArray, List.length_append, List.length_take, List.length_drop, Array.length_toList] at *; omega) ?_
      · refine key _ ?_ ⟨_, rfl, hw.1, hw.2⟩
        rw [he]
        have hl : ∃ m, len = m + 1 := ⟨len - 1, by omega⟩
        obtain ⟨m, rfl⟩ := hl
        simp [Builtin.clear_, run_und hu.ud, hz1, hst]
      · refine ⟨?_, fun i r hr => ?_⟩
        · have := hrow.1
          have h2 : (o.rows.take off).length * o.sz ≤ o.rows.length * o.sz := Nat.mul_le_mul_right _ (by simp; omega)
          simp only [List.size_toArray, List.length_append, List.length_take, List.length_drop, Array.length_toList] at *
          omega
        · have hi : i < off := by
            have := (List.getElem?_eq_some_iff.1 hr).1
            simp at this; omega
          have hr' : o.rows[i]? = some r := by
            rw [List.getElem?_take, if_pos hi] at hr; exact hr
          obtain ⟨k1, k2⟩ := hrow.2 i r hr'
          refine ⟨k1, fun j v hv => ?_⟩
          obtain ⟨k3, u, k4, k5⟩ := k2 j v hv
          have hj : j < o.sz := by rw [← k1]; exact (List.getElem?_eq_some_iff.1 hv).1
          have hlt2 : i * o.sz + j < off * o.sz := by
            have : (i + 1) * o.sz ≤ off * o.sz := Nat.mul_le_mul_right _ hi
            rw [Nat.succ_mul] at this
            omega
          refine ⟨k3, u, ?_, k5⟩
          have hlt3 : i * o.sz + j < arr.size := (Array.getElem?_eq_some_iff.1 k4).1
          rw [List.getElem?_toArray, List.append_assoc, List.getElem?_append_left (by simp; omega), List.getElem?_take, if_pos hlt2, Array.getElem?_toList]
          exact k4
/-- A literal that is never written again. -/
theorem g_lit1 {t e : TypeId} {sz : Nat} {x : Operand} {v : AV} {agg : Bool} {zs cs : List AV} [hu : SlI P t e] [TyI P e agg sz] [hz : ZcI P e zs] (hn : zs.length = sz) (hp : 0 < sz) (hbig : sz ≤ 16777216) (hx : aev env x = v) (hv : v.cellish = true) (hcs : v.cells = cs) (hl : cs.length = sz) (hb : AV.bels 0 cs = true) :
    V2 P N (.buildSlice t 1 #[(0, x)]) ty env H (.pl [cs]) H := by
  have h1 := o_buildSlice1L (P := P) (N := N) (env := env) (H0 := H) (L := []) (ty := ty) (t := t) (e := e) (agg := agg) (zs := zs) hn hp hbig hx hv hcs hl rfl
  have := V2.freezeL (L := []) h1 rfl rfl rfl (by intro r hr; simp only [List.mem_singleton] at hr; subst hr; exact hb)
  simpa using this
theorem w_clear {t e : TypeId} {x : Operand} {n k g off len cap sz : Nat} {agg : Bool} {zs : List AV} {o : AObj} [hu : SlI P t e] [TyI P e agg sz] [hz : ZcI P e zs] (hx : aev env x = .sl (Lid n k) g off len cap) (hn : H0.length = n) (hk : L[k]? = some o) (hg : o.gen = g) (hsz : o.sz = sz) (hz' : zs.length = sz) :
    V2 P N (.call { callee := .builtin .clear, args := #[x], argTypes := #[t] }) ty env (H0 ++ L) (.tup []) (H0 ++ L.set k { o with rows := o.rows.take off }) := by
  subst hg
  have := o_clear (P := P) (N := N) (env := env) (H := H0 ++ L) (ty := ty) (t := t) (e := e) (agg := agg) (zs := zs) hx (lk hn hk) hsz hz'
  rwa [st hn] at this
/-- A cut with its room. -/
theorem o_slices3 {t e : TypeId} {x hi mx : Operand} {lo : Option Operand} {k k' : IntKind} {id g off len cap l h m sz : Nat} {agg : Bool} {o : AObj} [hu : SlI P t e] [TyI P e agg sz] (hx : aev env x = .sl id g off len cap) (hid : H[id]? = some o) (hg : o.gen = g) (hsz : o.sz = sz) (hl : Bd env lo 0 l) (hh : aev env hi = .int k (h : Int)) (hm : aev env mx = .int k' (m : Int)) (h1 : l ≤ h) (h2 : h ≤ m) (h3 : m ≤ max len cap) :
    V1 P N (.slice t x lo (Option.some hi) (Option.some mx)) ty env H (.sl id g (off + l) (h - l) (m - l)) := by
  subst hg
  intro S a w hc
  obtain ⟨s, c, hs, ok, hcc, hlc, hh2⟩ := hc.slc hx hid
  rcases hh2 with ⟨h0, ad, he⟩ | ⟨b, arr, et, hp, he, hb, hfit, hrow⟩
  · obtain rfl : m = 0 := by omega
    obtain rfl : h = 0 := by omega
    obtain rfl : l = 0 := by omega
    have el : len = 0 := by omega
    subst el
    have hb' := run_sliceBounds3 (P := P) hc true (len := 0) (cap := 0) hl hh hm h1 (by omega) (by omega)
    refine ⟨.slice ad 0 0, fun _ _ _ _ => ?_, .sl s hs (by rw [ok.gen]; exact Nat.le_refl _) rfl fun _ => ⟨0, by omega, by omega, .inl ⟨rfl, ad, rfl⟩⟩⟩
    simp [execOp, he, Instr.sliceAt, Instr.slice, run_und hu.ud, hb', run_sz (P := P) (t := e) (agg := agg) (sz := sz)]
  · have hb' := run_sliceBounds3 (P := P) hc true (len := len) (cap := c) hl hh hm h1 h2 (by omega)
    refine ⟨.slice (if m = l then some ⟨b, off * o.sz, none⟩ else some ⟨b, (off + l) * o.sz, none⟩) (h - l) (m - l), fun _ _ _ _ => ?_, .sl s hs (by rw [ok.gen]; exact Nat.le_refl _) rfl fun _ => ⟨m - l, by omega, by omega, ?_⟩⟩
    · have e1 : (⟨b, off * o.sz, none⟩ : Addr).add (l * sz) = ⟨b, (off + l) * o.sz, none⟩ := by rw [add_none, hsz, Nat.add_mul]
      simp [execOp, he, Instr.sliceAt, Instr.slice, run_und hu.ud, hb', run_sz (P := P) (t := e) (agg := agg) (sz := sz), e1]
    · by_cases e1 : m = l
      · left
        refine ⟨by omega, some ⟨b, off * o.sz, none⟩, ?_⟩
        rw [if_pos e1, show h - l = 0 by omega, show m - l = 0 by omega]
      · right
        refine ⟨b, arr, et, hp, by rw [if_neg e1, ok.sz], hb, ?_⟩
        rw [← ok.sz]
        refine Nat.le_trans (Nat.mul_le_mul_right _ ?_) hfit
        omega
/-- Append, and the room is still known. -/
theorem o_appendT {t t' e : TypeId} {x y : Operand} {id g len cap sz bytes : Nat} {agg : Bool} {zs : List AV} {o : AObj} {ys : List (List AV)} (m : Nat) [hu : SlI P t e] [NiI P t'] [TyI P e agg sz] [hz : ZcI P e zs] [ByI P e bytes]
    (hx : aev env x = .sl id g 0 len cap) (hid : H[id]? = some o) (hg : o.gen = g) (hsz : o.sz = sz) (hy : Src P N env H y sz ys) (hz' : zs.length = sz) (hlen : len ≤ o.rows.length) (h63 : len + ys.length ≤ 9223372036854775807) (hb : (len + ys.length) * bytes ≤ 140737488355328) (hm : m ≤ max cap (len + ys.length)) :
    V2 P N (.call { callee := .builtin .append, args := #[x, y], argTypes := #[t, t'] }) ty env H (.sl id (g + 1) 0 (len + ys.length) m) (H.set id ⟨g + 1, o.sz, o.rows.take len ++ ys⟩) := by
  subst hg
  rcases Nat.eq_zero_or_pos ys.length with h0 | h0
  · have : ys = [] := List.eq_nil_of_length_eq_zero h0
    subst this
    have := (o_append0 (P := P) (N := N) (env := env) (H := H) (ty := ty) (t := t) (t' := t') (e := e) (agg := agg) (sz := sz) hx hid hy).bump (m := m) (by simpa using hm) hid
    simpa using this
  · exact o_appendM (agg := agg) (e := e) (zs := zs) hz' hx hid hsz hlen hy h0 h63 hb hm
theorem w_appendF {t t' e : TypeId} {x y : Operand} {id g len cap sz bytes : Nat} {agg : Bool} {zs : List AV} {o : AObj} {ys : List (List AV)} (m : Nat) [hu : SlI P t e] [NiI P t'] [TyI P e agg sz] [hz : ZcI P e zs] [ByI P e bytes]
    (hx : aev env x = .sl id g 0 len cap) (hid : H0[id]? = some o) (hg : o.gen = g) (hsz : o.sz = sz) (hy : Src P N env (H0 ++ L) y sz ys) (hz' : zs.length = sz) (hlen : len ≤ o.rows.length) (h63 : len + ys.length ≤ 9223372036854775807) (hb : (len + ys.length) * bytes ≤ 140737488355328) (hm : m ≤ max cap (len + ys.length)) :
    V2 P N (.call { callee := .builtin .append, args := #[x, y], argTypes := #[t, t'] }) ty env (H0 ++ L) (.sl id (g + 1) 0 (len + ys.length) m) (H0.set id ⟨g + 1, o.sz, o.rows.take len ++ ys⟩ ++ L) := by
  have := o_appendT (P := P) (N := N) (env := env) (H := H0 ++ L) (ty := ty) (t := t) (t' := t') (e := e) (agg := agg) (zs := zs) (bytes := bytes) m hx (lkF hid) hg hsz hy hz' hlen h63 hb hm
  rwa [stF hid] at this
theorem w_clearF {t e : TypeId} {x : Operand} {id g off len cap sz : Nat} {agg : Bool} {zs : List AV} {o : AObj} [hu : SlI P t e] [TyI P e agg sz] [hz : ZcI P e zs] (hx : aev env x = .sl id g off len cap) (hid : H0[id]? = some o) (hg : o.gen = g) (hsz : o.sz = sz) (hz' : zs.length = sz) :
    V2 P N (.call { callee := .builtin .clear, args := #[x], argTypes := #[t] }) ty env (H0 ++ L) (.tup []) (H0.set id { o with rows := o.rows.take off } ++ L) := by
  subst hg
  have := o_clear (P := P) (N := N) (env := env) (H := H0 ++ L) (ty := ty) (t := t) (e := e) (agg := agg) (zs := zs) hx (lkF hid) hsz hz'
  rwa [stF hid] at this
/-- The call ends; a row that was there before has been turned. -/
theorem e_doneF {B : Base} {rs : List ResultVar} {vs : List AV} {v : AV} {args : List AV} {M : Heap} (hB : Begun B H args) (h : ResVs P env (M ++ L) rs vs) (hv : tupv vs = v) (hb : v.bel H.length = true) (hl : M.length = H.length) (hM : HBel H.length M) : Ends P B rs (Ret v M) .ret env (M ++ L) := by
  refine ⟨vs, M, h, .inr ⟨L, rfl, by rw [hB.len, hl]; exact Nat.le_refl _, by rw [hv, hl]; exact hb, by rw [hl]; exact hM⟩, by rw [hv], rfl⟩
theorem HBel.set {n : Nat} {M : Heap} (h : HBel n M) (id : Nat) (o : AObj) (ho : ∀ r ∈ o.rows, AV.bels n r = true) : HBel n (M.set id o) := fun o' ho' => by
  rcases List.mem_or_eq_of_mem_set ho' with h1 | rfl
  · exact h o' h1
  · exact ho
/-- A call that is given slices with nothing in them. -/
theorem V2.callu {f : Nat} {xs : Array Operand} {ts : Array TypeId} {v : AV} {us : List AV} {M : Heap} [FnI P f] (hac : AC P f us H (Ret v M)) (hvs : (xs.toList.map (aev env)).map AV.up = us) :
    V2 P N (.call { callee := .value (.func f), args := xs, argTypes := ts }) ty env H v M := V2.call (hac.up hvs) rfl
/-- A call that turns a row of the call's own. -/
theorem V2.callo3 {f g n c id' : Nat} {xs : Array Operand} {ts : Array TypeId} {vs : List AV} {o : AObj} {k : Nat} [FnI P f] (hac : AC P f vs (H0 ++ L) (Ret (.sl id' g 0 n c) ((H0 ++ L).set id' o))) (hvs : xs.toList.map (aev env) = vs) (hk : id' = Lid H0.length k) :
    V2 P N (.call { callee := .value (.func f), args := xs, argTypes := ts }) ty env (H0 ++ L) (.sl (Lid H0.length k) g 0 n c) (H0 ++ L.set k o) := by
  subst hk
  have := V2.call (N := N) (ty := ty) (ts := ts) hac hvs
  rwa [st rfl] at this
end

/-! #### where two ways meet -/
def JoinP (B : Base) (E : Env) (M : Heap) (Q : Post) : Post
  | .nrm, e, H => Sub E e ∧ Fit B E H M
  | x, e, H => Q x e H
section
variable {P : Program} {N : Nat} {B : Base} {Q : Post} {env : Env} {H : Heap}
theorem aw_joinQ {x : Code} (E : Env) (M : Heap) (h : AWp P N B x (JoinP B E M Q) env H) (k : Q .nrm E M) : AWp P N B x Q env H := by
  intro S a w hc hb
  refine wp_mono (h S a w hc hb) ?_
  rintro e a' w' ⟨ax, env', H', S', hj, r, c', k'⟩
  cases ax with
  | nrm =>
    cases r
    obtain ⟨S2, c2, k2⟩ := (c'.sub hj.1).fit k' hj.2
    exact ⟨.nrm, E, M, S2, k, .nrm, c2, k2⟩
  | brk i => exact ⟨_, env', H', S', hj, r, c', k'⟩
  | ret => exact ⟨_, env', H', S', hj, r, c', k'⟩
  | pan v => exact ⟨_, env', H', S', hj, r, c', k'⟩
theorem join_nrm {E : Env} {M : Heap} (h1 : Sub E env) (h2 : Fit B E H M) : JoinP B E M Q .nrm env H := ⟨h1, h2⟩
theorem join_ret {E : Env} {M : Heap} (h : Q .ret env H) : JoinP B E M Q .ret env H := h
theorem join_brk {E : Env} {M : Heap} {i : Nat} (h : Q (.brk i) env H) : JoinP B E M Q (.brk i) env H := h
end

/-! #### regions that draw, as1 a walk uses them -/
/-- The memory has these rows, and some more. -/
def AtR (H0 L0 : Heap) (k : Nat) (H : Heap) : Prop := ∃ G : Heap, H = H0 ++ G ∧ G[k]? = L0[k]?
def Pre (H0 L0 H : Heap) : Prop := ∃ G, H = H0 ++ (L0 ++ G)
section
variable {P : Program} {N : Nat} {B : Base} {ops : Array Oper} {a : Option Nat} {C : Heap → Prop} {F : Env → Heap → Prop} {Q : Post}
variable {fuel : Nat} {listed : Array Bool} {env : Env} {H H0 L : Heap} {op : Op} {ty : TypeId} {pos : String} {after : Array Edge} {v : AV} {id : Nat} {l : List Oper}
theorem yet_done {X : Prop} {i : Nat} (h : listed.getD i true = true) : Yet (some i) listed → X := fun k => by
  have : listed.getD i true = false := k
  rw [h] at this
  cases this
theorem aw_drawP (hm : P.follows .mixedOrders = true) (a : Option Nat) (k : Nat) (h : AAny P N B l.toArray a (Pre H0 (L.take k)) (Q .nrm) l.length (Array.replicate l.length false) env (H0 ++ L)) : AWp P N B (.region id l.toArray true) Q env (H0 ++ L) := aw_draw hm a _ h
/-- Nothing in memory is asked. -/
theorem aw_draw0 (hm : P.follows .mixedOrders = true) (h : AAny P N B l.toArray none (fun _ => True) (Q .nrm) l.length (Array.replicate l.length false) env H) : AWp P N B (.region id l.toArray true) Q env H := aw_draw hm none _ h
/-- One row is as1 it was. -/
theorem aw_drawR (hm : P.follows .mixedOrders = true) (a : Option Nat) (k : Nat) (h : AAny P N B l.toArray a (AtR H0 L k) (Q .nrm) l.length (Array.replicate l.length false) env (H0 ++ L)) : AWp P N B (.region id l.toArray true) Q env (H0 ++ L) := aw_draw hm a _ h
theorem aqr {d k : Nat} {L0 : Heap} (i : Nat) (hi : ops[i]? = some ⟨some d, op, ty, pos, after, none⟩) (hB : firstB ops listed a i = true) (hd : DN d N) (h1 : ∀ G : Heap, G[k]? = L0[k]? → V1 P N op ty (renv ⟨some d, op, ty, pos, after, none⟩ env) (H0 ++ G) v)
    (h : AAny P N B ops a (AtR H0 L0 k) F fuel (listed.setIfInBounds i true) ((d, v) :: env) H) : AAny P N B ops a (AtR H0 L0 k) F (fuel + 1) listed env H :=
  aq1 i hi hB hd (by rintro _ ⟨G, rfl, hG⟩; exact h1 G hG) h
theorem aqyr {d j g k : Nat} {want : Bool} {L0 : Heap} (i : Nat) (hi : ops[i]? = some ⟨some d, op, ty, pos, after, some (j, want)⟩) (hB : firstB ops listed a i = true) (hd : DN d N) (hj : (ops[j]?).bind (·.dst) = some g) (hb : get env g = .bool want)
    (h1 : ∀ G : Heap, G[k]? = L0[k]? → V1 P N op ty (renv ⟨some d, op, ty, pos, after, some (j, want)⟩ env) (H0 ++ G) v)
    (h : AAny P N B ops a (AtR H0 L0 k) F fuel (listed.setIfInBounds i true) ((d, v) :: env) H) : AAny P N B ops a (AtR H0 L0 k) F (fuel + 1) listed env H :=
  aqy1 i hi hB hd hj hb (by rintro _ ⟨G, rfl, hG⟩; exact h1 G hG) h
theorem aw_of_out {c : Code} (t : Nat) (v : AV) (h : AWp P N B c (Out B env t v H) env H) (k : Q .nrm ((t, v) :: env) H) : AWp P N B c Q env H := by
  intro S a w hc hb
  refine Code.wp_mono ?_ (h S a w hc hb)
  rintro e a' w' ⟨x, e', H', S', ⟨rfl, hv, hs, rfl⟩, r, c', k'⟩
  cases r
  exact ⟨.nrm, _, _, S', k, .nrm, c'.sub (hs.sub hv), k'⟩
theorem aq02 {d : Nat} (i : Nat) (hi : ops[i]? = some ⟨some d, op, ty, pos, after, none⟩) (hB : firstB0 ops listed a i = true) (hd : DN d N) (h1 : ∀ H', V2 P N op ty (renv ⟨some d, op, ty, pos, after, none⟩ env) H' v H')
    (h : AAny P N B ops a C F fuel (listed.setIfInBounds i true) ((d, v) :: env) H) : AAny P N B ops a C F (fuel + 1) listed env H :=
  aa_first0 i hi hB (by rintro _ ⟨⟩; exact hd) (.inl ⟨rfl, fun H _ => h1 H _ _ _ _⟩) h
theorem aqy0 {d j g : Nat} {want : Bool} (i : Nat) (hi : ops[i]? = some ⟨some d, op, ty, pos, after, some (j, want)⟩) (hB : firstB0 ops listed a i = true) (hd : DN d N) (hj : (ops[j]?).bind (·.dst) = some g) (hb : get env g = .bool want)
    (h1 : ∀ H', V1 P N op ty (renv ⟨some d, op, ty, pos, after, some (j, want)⟩ env) H' v)
    (h : AAny P N B ops a C F fuel (listed.setIfInBounds i true) ((d, v) :: env) H) : AAny P N B ops a C F (fuel + 1) listed env H :=
  aa_first0 i hi hB (by rintro _ ⟨⟩; exact hd) (.inl ⟨⟨g, hj, .inl ⟨want, hb, by simp⟩⟩, fun H hC => (h1 H).toV2 _ _ _ _⟩) h
theorem aqy02 {d j g : Nat} {want : Bool} (i : Nat) (hi : ops[i]? = some ⟨some d, op, ty, pos, after, some (j, want)⟩) (hB : firstB0 ops listed a i = true) (hd : DN d N) (hj : (ops[j]?).bind (·.dst) = some g) (hb : get env g = .bool want)
    (h1 : ∀ H', V2 P N op ty (renv ⟨some d, op, ty, pos, after, some (j, want)⟩ env) H' v H')
    (h : AAny P N B ops a C F fuel (listed.setIfInBounds i true) ((d, v) :: env) H) : AAny P N B ops a C F (fuel + 1) listed env H :=
  aa_first0 i hi hB (by rintro _ ⟨⟩; exact hd) (.inl ⟨⟨g, hj, .inl ⟨want, hb, by simp⟩⟩, fun H hC => h1 H _ _ _ _⟩) h
theorem aqn0 {d j g : Nat} {want c : Bool} (i : Nat) (hi : ops[i]? = some ⟨some d, op, ty, pos, after, some (j, want)⟩) (hB : firstB0 ops listed a i = true) (hd : DN d N) (hj : (ops[j]?).bind (·.dst) = some g) (hb : get env g = .bool c) (hc : (c == want) = false)
    (h : AAny P N B ops a C F fuel (listed.setIfInBounds i true) ((d, .tup []) :: env) H) : AAny P N B ops a C F (fuel + 1) listed env H :=
  aa_first0 i hi hB (by rintro _ ⟨⟩; exact hd) (.inr ⟨⟨g, hj, .inl ⟨c, hb, hc.symm⟩⟩, rfl⟩) h
theorem aqu0 {d j g : Nat} {want : Bool} (i : Nat) (hi : ops[i]? = some ⟨some d, op, ty, pos, after, some (j, want)⟩) (hB : firstB0 ops listed a i = true) (hd : DN d N) (hj : (ops[j]?).bind (·.dst) = some g) (hb : get env g = .tup [])
    (h : AAny P N B ops a C F fuel (listed.setIfInBounds i true) ((d, .tup []) :: env) H) : AAny P N B ops a C F (fuel + 1) listed env H :=
  aa_first0 i hi hB (by rintro _ ⟨⟩; exact hd) (.inr ⟨⟨g, hj, .inr ⟨hb, rfl⟩⟩, rfl⟩) h
/-- By what the first rows hold. -/
theorem aqp {d : Nat} {L0 : Heap} (i : Nat) (hi : ops[i]? = some ⟨some d, op, ty, pos, after, none⟩) (hB : firstB ops listed a i = true) (hd : DN d N) (h1 : ∀ G, V1 P N op ty (renv ⟨some d, op, ty, pos, after, none⟩ env) (H0 ++ (L0 ++ G)) v)
    (h : AAny P N B ops a (Pre H0 L0) F fuel (listed.setIfInBounds i true) ((d, v) :: env) H) : AAny P N B ops a (Pre H0 L0) F (fuel + 1) listed env H :=
  aq1 i hi hB hd (by rintro _ ⟨G, rfl⟩; exact h1 G) h
theorem aqyp {d j g : Nat} {want : Bool} {L0 : Heap} (i : Nat) (hi : ops[i]? = some ⟨some d, op, ty, pos, after, some (j, want)⟩) (hB : firstB ops listed a i = true) (hd : DN d N) (hj : (ops[j]?).bind (·.dst) = some g) (hb : get env g = .bool want)
    (h1 : ∀ G, V1 P N op ty (renv ⟨some d, op, ty, pos, after, some (j, want)⟩ env) (H0 ++ (L0 ++ G)) v)
    (h : AAny P N B ops a (Pre H0 L0) F fuel (listed.setIfInBounds i true) ((d, v) :: env) H) : AAny P N B ops a (Pre H0 L0) F (fuel + 1) listed env H :=
  aqy1 i hi hB hd hj hb (by rintro _ ⟨G, rfl⟩; exact h1 G) h
end
end Go.Av

/-
  A ROW OF THE CALL's OWN IS LENT TO A CALL THAT ONLY READS IT: there it is a list; behind the call it is a row again.
-/
namespace Go.Av

/-- Values that name no memory. -/
def AV.flat : AV → Bool
  | .int .. | .bool _ | .str _ | .flt .. | .nptr | .nifc | .nfn | .nsl | .junk => true
  | _ => false
theorem VR.flat {O O' : Nat → Prop} {w w' : World} {S S' : List Slot} {v : AV} {u : Value} (h : VR O w S v u) (hf : v.flat = true) : VR O' w' S' v u := by
  cases h <;> first | (simp [AV.flat] at hf; done) | constructor
theorem VR.free {O : Nat → Prop} {w : World} {S : List Slot} {v : AV} {u : Value} (h : VR O w S v u) (hb : v.bel 0 = true) : VR (own []) w [] v u :=
  (h.pur hb).mono ⟨Nat.le_refl _, fun b _ _ => ⟨by rintro ⟨i, s, hs, _⟩; simp at hs, rfl⟩, fun _ arr _ h => ⟨arr, h, rfl⟩⟩ (SExt.refl _)

/-- What a callee that only reads sees of a cell. -/
inductive Lend1 (H : Heap) : AV → AV → Prop where
  | sl {id off len cap : Nat} {o : AObj} {ys : List (List AV)} (hid : H[id]? = some o) (hp : ∀ r ∈ ys, AV.bels 0 r = true) (hys : (o.rows.drop off).take len = ys) (hlen : ys.length = len) : Lend1 H (.sl id o.gen off len cap) (.pl ys)
  | same {v : AV} (hb : v.bel 0 = true) (hl : v.leaf = true) : Lend1 H v v
inductive Lends (H : Heap) : List AV → List AV → Prop where
  | nil : Lends H [] []
  | cons {a b : AV} {as1 bs : List AV} (h : Lend1 H a b) (k : Lends H as1 bs) : Lends H (a :: as1) (b :: bs)
inductive Lend (H : Heap) : AV → AV → Prop where
  | one {a b : AV} (h : Lend1 H a b) : Lend H a b
  | agg {cs ds : List AV} (h : Lends H cs ds) : Lend H (.agg cs) (.agg ds)
  | pure {v : AV} (hb : v.bel 0 = true) : Lend H v v
inductive LendAll (H : Heap) : List AV → List AV → Prop where
  | nil : LendAll H [] []
  | cons {a b : AV} {as1 bs : List AV} (h : Lend H a b) (k : LendAll H as1 bs) : LendAll H (a :: as1) (b :: bs)

theorem Lend1.leaf {H : Heap} {a b : AV} (h : Lend1 H a b) : b.leaf = true := by cases h <;> first | rfl | assumption
theorem Lends.get {H : Heap} : ∀ {as1 bs : List AV}, Lends H as1 bs → as1.length = bs.length ∧ ∀ (j : Nat) (b : AV), bs[j]? = some b → ∃ a, as1[j]? = some a ∧ Lend1 H a b
  | _, _, .nil => ⟨rfl, fun j b h => by simp at h⟩
  | _, _, .cons h k => by
    obtain ⟨h1, h2⟩ := k.get
    refine ⟨by simp [h1], fun j b hb => ?_⟩
    cases j with
    | zero => simp at hb; subst hb; exact ⟨_, rfl, h⟩
    | succ j => simpa using h2 j b (by simpa using hb)
theorem LendAll.get {H : Heap} : ∀ {as1 bs : List AV}, LendAll H as1 bs → as1.length = bs.length ∧ ∀ (j : Nat) (b : AV), bs[j]? = some b → ∃ a, as1[j]? = some a ∧ Lend H a b
  | _, _, .nil => ⟨rfl, fun j b h => by simp at h⟩
  | _, _, .cons h k => by
    obtain ⟨h1, h2⟩ := k.get
    refine ⟨by simp [h1], fun j b hb => ?_⟩
    cases j with
    | zero => simp at hb; subst hb; exact ⟨_, rfl, h⟩
    | succ j => simpa using h2 j b (by simpa using hb)

theorem Lend1.vr {H : Heap} {S : List Slot} {w : World} (hh : HRel H S w) {a b : AV} {u : Value} (h : Lend1 H a b) (hv : VR (own S) w S a u) : VR (own []) w [] b u := by
  cases h with
  | same hb _ => exact hv.free hb
  | @sl id off len cap o ys hid hp hys hlen =>
    obtain ⟨s, hs, ok⟩ := hh.slot hid
    have hc : CR 1 [(0, .sl id o.gen off len cap)] H S { tmps := #[u], defers := [] } w := ⟨hh, fun t => by
      cases t with
      | zero => exact hv
      | succ t => exact .junk, rfl, rfl⟩
    obtain ⟨S', hc', _⟩ := hc.freeze (B := ⟨S, w⟩) (t := 0) (id := id) (cap := cap) (o := o) (Ext.refl S w) rfl hid hys hlen hp
    have := hc'.env 0
    rw [get_put_same] at this
    exact this.free rfl
theorem Lend.vr {H : Heap} {S : List Slot} {w : World} (hh : HRel H S w) {a b : AV} {u : Value} (h : Lend H a b) (hv : VR (own S) w S a u) : VR (own []) w [] b u := by
  cases h with
  | one h => exact h.vr hh hv
  | pure hb => exact hv.free hb
  | agg h =>
    obtain ⟨h1, h2⟩ := h.get
    cases hv with
    | agg hn hl hvr =>
      refine .agg (h1.symm.trans hn) (fun j v hj => ?_) (fun j v u hj hu => ?_)
      · obtain ⟨a, _, ha⟩ := h2 j v hj
        exact ha.leaf
      · obtain ⟨a, haj, ha⟩ := h2 j v hj
        exact ha.vr hh (hvr j a u haj hu)

section
variable {P : Program} {N : Nat} {env : Env} {H : Heap} {ty : TypeId}
/-- A call that only reads, and hands back a plain value. -/
theorem V2.lend {f : Nat} {xs : Array Operand} {ts : Array TypeId} {v : AV} {us : List AV} [FnI P f] (hac : AC P f us [] (Ret v [])) (hl : LendAll H (xs.toList.map (aev env)) us) (hf : v.flat = true) :
    V2 P N (.call { callee := .value (.func f), args := xs, argTypes := ts }) ty env H v H := by
  refine V2.call (vs := xs.toList.map (aev env)) ?_ rfl
  intro S w cargs hH hv
  obtain ⟨h1, h2⟩ := hl.get
  have hv' : VRs (own []) w [] us cargs := ⟨h1.symm.trans hv.1, fun i b u hb hu => by
    obtain ⟨a, ha, hab⟩ := h2 i b hb
    exact hab.vr hH (hv.2 i a u ha hu)⟩
  refine (hac [] w cargs ⟨rfl, fun _ _ _ h => by simp at h, fun _ _ _ _ _ h => by simp at h⟩ hv').mono ?_
  rintro e w' ⟨o, H', S', ⟨rfl, rfl⟩, ho, hh, hx⟩
  have hno : ∀ b, ¬ own [] b := by rintro b ⟨i, s, hs, _⟩; simp at hs
  have hold : ∀ b, b < w.heap.size → w'.heap[b]? = w.heap[b]? := fun b hb => (hx.stp.old b hb (hno b)).2
  have hx' : Ext S w S w' := ⟨hx.os, hx.tape, hx.output, ⟨hx.stp.size, fun b hb ho => ⟨ho, hold b hb⟩, hx.stp.cells⟩, SExt.refl S⟩
  refine ⟨.ret v, H, S, ⟨rfl, rfl⟩, ?_, same_heap hH hx' hold, hx'⟩
  cases ho with
  | ret hvr => exact .ret (hvr.flat hf)

/-- A cell of a row is told otherwise: what lies there is also v2. -/
theorem HRel.retell {H : Heap} {S : List Slot} {w : World} (h : HRel H S w) {k i j b : Nat} {o : AObj} {s : Slot} {r : List AV} {v2 : AV} {arr : Array Value} {ty : TypeId} {u : Value} (hk : H[k]? = some o) (hs : S[k]? = some s) (hp : s.place = some b) (hb : w.heap[b]? = some (Obj.cells arr ty (0, 0)))
    (hr : o.rows[i]? = some r) (hj : j < r.length) (hu : arr[i * o.sz + j]? = some u) (hl : v2.leaf = true) (hv : VR (own S) w S v2 u) : HRel (H.set k { o with rows := o.rows.set i (r.set j v2) }) S w := by
  refine ⟨by simpa using h.len, fun id' o' s' ho' hs' => ?_, h.inj⟩
  by_cases e : k = id'
  · subst e
    rw [List.getElem?_set_self (List.getElem?_eq_some_iff.1 hk).1] at ho'
    obtain rfl := Option.some.inj ho'
    rw [hs] at hs'
    obtain rfl := Option.some.inj hs'
    have ok := h.obj k o s hk hs
    refine ⟨ok.gen, ok.sz, ok.pos, fun hn => (by rw [hp] at hn; cases hn), fun b' hb' => ?_⟩
    obtain ⟨arr', ty', h1, h2, h3⟩ := ok.lies b' hb'
    rw [hp] at hb'
    obtain rfl := Option.some.inj hb'
    rw [hb] at h1
    injection h1 with h1
    injection h1 with h1 h1'
    subst h1
    refine ⟨arr, ty, hb, by simpa using h2, fun i' r' hr' => ?_⟩
    by_cases ei : i = i'
    · subst ei
      have hil : i < o.rows.length := (List.getElem?_eq_some_iff.1 hr).1
      rw [List.getElem?_set_self hil] at hr'
      obtain rfl := Option.some.inj hr'
      obtain ⟨k1, k2⟩ := h3 i r hr
      refine ⟨by simpa using k1, fun j' v' hv' => ?_⟩
      by_cases ej : j = j'
      · subst ej
        rw [List.getElem?_set_self hj] at hv'
        obtain rfl := Option.some.inj hv'
        exact ⟨hl, u, hu, hv⟩
      · rw [List.getElem?_set_ne ej] at hv'
        exact k2 j' v' hv'
    · rw [List.getElem?_set_ne ei] at hr'
      exact h3 i' r' hr'
  · rw [List.getElem?_set_ne e] at ho'
    exact h.obj id' o' s' ho' hs'

/-- A row is let go, and the cell that leads to it holds a list from then on. -/
theorem CR.freezeC {B : Base} {S : List Slot} {a : Act} {w : World} {k i j id off len cap : Nat} {o q : AObj} {r : List AV} {ys : List (List AV)} (h : CR N env H S a w) (hx : Ext B.S B.w S w) (hk : H[k]? = some q) (hr : q.rows[i]? = some r) (hj : r[j]? = some (.sl id o.gen off len cap)) (hne : id ≠ k)
    (hid : H[id]? = some o) (hys : (o.rows.drop off).take len = ys) (hlen : ys.length = len) (hp : ∀ r ∈ ys, AV.bels 0 r = true) :
    ∃ S', CR N env ((H.set id ⟨o.gen + 1, o.sz, []⟩).set k { q with rows := q.rows.set i (r.set j (.pl ys)) }) S' a w ∧ Ext B.S B.w S' w := by
  obtain ⟨s, hs, ok⟩ := h.heap.slot hk
  have hil := (List.getElem?_eq_some_iff.1 hr).1
  cases hpl : s.place with
  | none => rw [ok.nope hpl] at hil; simp at hil
  | some b =>
    obtain ⟨arr, ty, h1, h2, h3⟩ := ok.lies b hpl
    obtain ⟨k1, k2⟩ := h3 i r hr
    obtain ⟨_, u, hu, hv⟩ := k2 j _ hj
    have hc : CR 1 [(0, .sl id o.gen off len cap)] H S { tmps := #[u], defers := [] } w := ⟨h.heap, fun t => by
      cases t with
      | zero => exact hv
      | succ t => exact .junk, rfl, rfl⟩
    obtain ⟨S', hc', hx'⟩ := hc.freeze (B := ⟨S, w⟩) (t := 0) (id := id) (cap := cap) (o := o) (Ext.refl S w) rfl hid hys hlen hp
    have hv2 := hc'.env 0
    rw [get_put_same] at hv2
    have hk' : (H.set id ⟨o.gen + 1, o.sz, []⟩)[k]? = some q := by rw [List.getElem?_set_ne hne]; exact hk
    obtain ⟨s', hs', ok'⟩ := hc'.heap.slot hk'
    obtain ⟨s2, hs2, hg, he⟩ := hx'.slots k s hs
    rw [hs'] at hs2
    obtain rfl := Option.some.inj hs2
    have hpl' : s'.place = some b := (he (by rw [← ok'.gen, ok.gen])).2.trans hpl
    have hh := hc'.heap.retell (v2 := .pl ys) hk' hs' hpl' h1 hr (List.getElem?_eq_some_iff.1 hj).1 hu rfl hv2
    exact ⟨S', ⟨hh, fun t => (h.env t).ext hx', h.size, h.defers⟩, hx.trans hx'⟩
theorem aw_freezeC {B : Base} {Q : Post} {c : Code} {L : Heap} {H0 : Heap} {n k i j kid g off len cap : Nat} {o q : AObj} {r : List AV} {ys : List (List AV)} (k' : Nat) (hk' : k' = k) (hk : L[k]? = some q) (hr : q.rows[i]? = some r) (hj : r[j]? = some (.sl (Lid n kid) g off len cap)) (hn : H0.length = n) (hne : kid ≠ k)
    (hid : L[kid]? = some o) (hg : o.gen = g) (hys : (o.rows.drop off).take len = ys) (hlen : ys.length = len) (hp : ∀ r ∈ ys, AV.bels 0 r = true)
    (h : AWp P N B c Q env (H0 ++ (L.set kid ⟨g + 1, o.sz, []⟩).set k { q with rows := q.rows.set i (r.set j (.pl ys)) })) : AWp P N B c Q env (H0 ++ L) := fun S a w hc hb => by
  subst hg
  obtain ⟨S', hc', hb'⟩ := hc.freezeC (id := Lid n kid) (k := Lid n k) hb (lk hn hk) hr hj (by unfold Lid; omega) (lk hn hid) hys hlen hp
  rw [st hn, st hn] at hc'
  exact h S' a w hc' hb'
end
end Go.Av

/-
  AN APPEND TO NOTHING THAT NOBODY WRITES BEHIND IT IS A LIST.
-/
namespace Go.Av
section
variable {P : Program} {N : Nat} {B : Base} {env : Env} {H H0 L : Heap} {op : Op} {ty : TypeId}
theorem g_append_new {t t' e : TypeId} {x y : Operand} {sz bytes : Nat} {agg : Bool} {zs : List AV} {ys : List (List AV)} [hu : SlI P t e] [NiI P t'] [TyI P e agg sz] [hz : ZcI P e zs] [ByI P e bytes]
    (hx : aev env x = .nsl) (hy : Src P N env H y sz ys) (hn : zs.length = sz) (hp : 0 < sz) (h63 : ys.length ≤ 9223372036854775807) (hb : ys.length * bytes ≤ 140737488355328) (hbel : ∀ r ∈ ys, AV.bels 0 r = true) :
    V2 P N (.call { callee := .builtin .append, args := #[x, y], argTypes := #[t, t'] }) ty env H (.pl ys) H := by
  have h1 := g_append_nsl (P := P) (N := N) (ty := ty) (t := t) (t' := t') (e := e) (agg := agg) (zs := zs) (bytes := bytes) (H0 := H) (L := []) (k := 0) hx (by rw [List.append_nil]; exact hy) hn hp h63 hb rfl
  have h2 := V2.freezeL (o := ⟨0, sz, ys⟩) (k := 0) h1 rfl rfl rfl hbel
  rw [List.append_nil] at h2
  exact h2
/-- A whole row is written anew. -/
theorem w_storeW {t : TypeId} {x y : Operand} {n k g i sz : Nat} {agg : Bool} {o : AObj} {r cs : List AV} [TyI P t agg sz] (hx : aev env x = .pt (Lid n k) g i 0) (hn : H0.length = n) (hk : L[k]? = some o) (hg : o.gen = g) (hr : o.rows[i]? = some r)
    (hy : aev env y = .agg cs) (hl : cs.length = sz) (hrl : r.length = sz) (hj : sz ≤ o.sz) :
    V2 P N (.store t x y) ty env (H0 ++ L) .junk (H0 ++ L.set k { o with rows := o.rows.set i cs }) :=
  w_storeP (v := .agg cs) (r' := cs) (agg := agg) hx hn hk hg hr hy rfl hl (by omega) (by
    show r.take 0 ++ cs ++ r.drop (0 + sz) = cs
    rw [List.take_zero, List.nil_append, Nat.zero_add, List.drop_of_length_le (by omega), List.append_nil])
end
end Go.Av

/-
  A TEXT IS GONE THROUGH, RUNE BY RUNE: the iterator lies in a block of its own that no abstract value leads to.
-/
namespace Go.Av

/-- Two worlds that differ in one block alone, which holds no cells. -/
structure But (r : Nat) (w w' : World) : Prop where
  os : w'.os = w.os
  tape : w'.tape = w.tape
  output : w'.output = w.output
  size : w'.heap.size = w.heap.size
  other : ∀ j, j ≠ r → w'.heap[j]? = w.heap[j]?
  none : ∀ arr ty fz, w.heap[r]? ≠ some (Obj.cells arr ty fz)
theorem But.cells {r : Nat} {w w' : World} (h : But r w w') {b : Nat} {arr : Array Value} {ty : TypeId} {fz : Nat × Nat} (hb : w.heap[b]? = some (Obj.cells arr ty fz)) : w'.heap[b]? = some (Obj.cells arr ty fz) := by
  by_cases e : b = r
  · subst e; exact absurd hb (h.none _ _ _)
  · rw [h.other b e]; exact hb
theorem But.cell {r : Nat} {w w' : World} (h : But r w w') {a : Addr} {v : Value} (hc : w.cell? a = some v) : w'.cell? a = some v := by
  by_cases e : a.block = r
  · unfold World.cell? at hc
    split at hc
    · rename_i c x y hq; rw [e] at hq; exact absurd hq (h.none _ _ _)
    · cases hc
  · exact (World.cell?_of_block (h.other a.block e)).trans hc
theorem VR.but {r : Nat} {w w' : World} (hw : But r w w') {O : Nat → Prop} {S : List Slot} {v : AV} {u : Value} (h : VR O w S v u) : VR O w' S v u := by
  induction h with
  | junk => exact .junk
  | int => exact .int
  | bool => exact .bool
  | str => exact .str
  | flt => exact .flt
  | nsl => exact .nsl
  | nptr => exact .nptr
  | nfn => exact .nfn
  | nifc => exact .nifc
  | raw => exact .raw
  | know ho hg h hx => exact .know ho (by rw [hw.size]; exact hg) (fun j v hv => hw.cell (h j v hv)) (by obtain ⟨ty, fz, e⟩ := hx; exact ⟨ty, fz, hw.cells e⟩)
  | ifc _ ih => exact .ifc ih
  | pl base sz u hc hb hs hm hl _ ih =>
    exact .pl base sz u hc (fun hx => ⟨(hb hx).1, (hb hx).2.1, by rw [hw.size]; exact (hb hx).2.2⟩) hs (fun i hi j hj => hw.cell (hm i hi j hj)) hl ih
  | pp base sz u hb hs hm hl _ ih =>
    exact .pp base sz u ⟨hb.1, by rw [hw.size]; exact hb.2⟩ hs (fun i hi j hj => hw.cell (hm i hi j hj)) hl ih
  | sl s hs hg h1 h =>
    refine .sl s hs hg h1 fun e => ?_
    obtain ⟨c, hc, hl, h⟩ := h e
    refine ⟨c, hc, hl, ?_⟩
    rcases h with h | ⟨b, arr, ty, hp, hu, hb, hsz⟩
    · exact .inl h
    · exact .inr ⟨b, arr, ty, hp, hu, hw.cells hb, hsz⟩
  | pt s hs hg h1 h => exact .pt s hs hg h1 h
  | agg hn hl _ ih => exact .agg hn hl ih
  | tup hn _ ih => exact .tup hn ih
  | fn hp hq _ _ ih1 ih2 => exact .fn hp hq ih1 ih2
theorem HRel.but {r : Nat} {H : Heap} {S : List Slot} {w w' : World} (hh : HRel H S w) (hw : But r w w') : HRel H S w' := by
  refine ⟨hh.len, fun id o s ho hs => ?_, hh.inj⟩
  have ok := hh.obj id o s ho hs
  refine ⟨ok.gen, ok.sz, ok.pos, ok.nope, fun b hb => ?_⟩
  obtain ⟨arr, ty, h1, h2, h3⟩ := ok.lies b hb
  refine ⟨arr, ty, hw.cells h1, h2, fun i r hr => ?_⟩
  obtain ⟨k1, k2⟩ := h3 i r hr
  refine ⟨k1, fun j v hv => ?_⟩
  obtain ⟨k3, u, k4, k5⟩ := k2 j v hv
  exact ⟨k3, u, k4, k5.but hw⟩
theorem HRel.notOwn {H : Heap} {S : List Slot} {w : World} (hh : HRel H S w) {r : Nat} (hn : ∀ arr ty fz, w.heap[r]? ≠ some (Obj.cells arr ty fz)) : ¬ own S r := by
  rintro ⟨i, s, hs, hp⟩
  have hlt : i < H.length := by rw [hh.len]; exact (List.getElem?_eq_some_iff.1 hs).1
  have ok := hh.obj i H[i] s (List.getElem?_eq_getElem hlt) hs
  obtain ⟨arr, ty, h1, _⟩ := ok.lies r hp
  exact hn _ _ _ h1

section
variable {P : Program} {N : Nat} {B : Base} {Q : Post} {env : Env} {H : Heap}
abbrev itv (r : Nat) : Value := .pointer (some ⟨r, 0, none⟩)

/-- The run stands in a loop over a text. -/
structure ItAt (N : Nat) (B : Base) (it r : Nat) (s : ByteArray) (pos : Nat) (E : Env) (H : Heap) (a : Act) (w : World) (S : List Slot) : Prop where
  cr : CR N ((it, .raw (itv r)) :: E) H S a w
  ext : Ext B.S B.w S w
  obj : w.heap[r]? = some (.stringIter s pos)
  new : B.w.heap.size ≤ r

theorem ItAt.next {it r pos pos' : Nat} {s : ByteArray} {E : Env} {S : List Slot} {a : Act} {w : World} (h : ItAt N B it r s pos E H a w S) : ItAt N B it r s pos' E H a (w.iterAt r s pos') S := by
  have hn : ∀ arr ty fz, w.heap[r]? ≠ some (Obj.cells arr ty fz) := by intro arr ty fz e; rw [h.obj] at e; cases e
  have hb : But r w (w.iterAt r s pos') := ⟨rfl, rfl, rfl, Lib.iterAt_size w r s pos', fun j hj => Lib.iterAt_other w r j s pos' hj, hn⟩
  have hno := h.cr.heap.notOwn hn
  refine ⟨⟨h.cr.heap.but hb, fun t => (h.cr.env t).but hb, h.cr.size, h.cr.defers⟩, ?_, Lib.iterAt_heap w r s pos pos' h.obj, h.new⟩
  have hx := h.ext
  refine ⟨hx.os, hx.tape, hx.output, ⟨by rw [hb.size]; exact hx.stp.size, fun b hbs ho => ?_, fun b arr ty hc => ?_⟩, hx.slots⟩
  · obtain ⟨k1, k2⟩ := hx.stp.old b hbs ho
    exact ⟨k1, by rw [hb.other b (by have := h.new; omega)]; exact k2⟩
  · obtain ⟨arr', k1, k2⟩ := hx.stp.cells b arr ty hc
    exact ⟨arr', hb.cells k1, k2⟩

theorem decode_pos (s : ByteArray) (i : Nat) : 1 ≤ (Utf8.decode s i).2 := by
  unfold Utf8.decode
  simp only
  repeat' split
  all_goals simp

theorem aw_rangeStr {k1 k2 b t it nx okt : Nat} {x : Operand} {tx ty1 ty2 ty3 ty4 : TypeId} {p1 p2 p3 p4 : String} {f1 f2 f3 f4 : Array Edge} {body : Code} {s : ByteArray} [hu : UdI P tx .string]
    (hx : aev env x = .str s) (ht : t < N) (hit : it < N) (hnx : nx < N) (hok : okt < N) (hne : it ≠ t) (hne2 : nx ≠ it) (hne3 : okt ≠ it)
    (I : Nat → Prop) (E : Nat → Env) (h0 : I 0) (hE : Sub (E 0) ((t, .str s) :: env))
    (round : ∀ (pos r : Nat) (B' : Base), pos < s.size → I pos → B'.S.length = H.length → AWp P N B' body (AX.andThen (fun e H' => I (pos + (Utf8.decode s pos).2) ∧ Sub ((it, .raw (itv r)) :: E (pos + (Utf8.decode s pos).2)) e ∧ H' = H) (AX.inBlock b Q))
      ((okt, .bool true) :: (nx, .tup [.bool true, .int .i64 (pos : Int), .int .i32 ((Utf8.decode s pos).1 : Int)]) :: (it, .raw (itv r)) :: E pos) H)
    (fin : ∀ (pos r : Nat), ¬ pos < s.size → I pos → Q .nrm ((okt, .bool false) :: (nx, .tup [.bool false]) :: (it, .raw (itv r)) :: E pos) H) :
    AWp P N B (.seq (.region k1 [⟨some t, .move x, ty1, p1, f1, none⟩, ⟨some it, .range tx (.tmp t), ty2, p2, f2, none⟩].toArray false)
      (.block b (.loop (.seq (.region k2 [⟨some nx, .next (.tmp it) true, ty3, p3, f3, none⟩, ⟨some okt, .extract (.tmp nx) 0, ty4, p4, f4, none⟩].toArray false) (.seq (.cond (.tmp okt) .skip (.exit b)) body))))) Q env H := by
  intro S a w hc hb
  refine wp_seq (wp_region_lit ?_)
  refine wpList_plain rfl fun next hnext => ?_
  have hv := hc.ev x
  rw [hx] at hv
  unfold Oper.wp
  rw [show ∀ pos after guard, (execOp a.eval ⟨some t, .move x, ty1, pos, after, guard⟩).run P w = .ok (.value (a.eval x)) w from fun _ _ _ => rfl]
  refine hnext _ _ ?_
  have c1 := hc.put (d := some t) (Ext.refl S w) hc.heap (by rintro _ ⟨⟩; exact ht) hv
  generalize a.eval x = u at hv c1 ⊢
  cases hv
  refine wpList_plain rfl fun next2 hnext2 => ?_
  have hev : (a.put (some t) (.string s)).eval (.tmp t) = .string s := by simp [Act.eval, Act.put, hc.size, ht]
  have hr2 : ∀ pos after guard, (execOp (a.put (some t) (.string s)).eval ⟨some it, .range tx (.tmp t), ty2, pos, after, guard⟩).run P w = .ok (.value (itv w.heap.size)) (w.iter s 0) := by
    intro pos after guard
    simp only [execOp, hev, Sem.run_bind, run_range_string w tx s hu.ud, Result.andThen_ok, Sem.run_pure]
  unfold Oper.wp
  rw [hr2]
  refine hnext2 _ _ ?_
  have hold : ∀ b, b < w.heap.size → (w.iter s 0).heap[b]? = w.heap[b]? := fun b hb => (by first | exact heap_alloc_old w _ b hb | exact heap_alloc_old w _ hb)
  have hx' : Ext S w S (w.iter s 0) := ⟨rfl, rfl, rfl, ⟨by simp [World.iter], fun b hb ho => ⟨ho, hold b hb⟩, fun b arr ty hb' => ⟨arr, by rw [hold b (Array.getElem?_eq_some_iff.1 hb').1]; exact hb', rfl⟩⟩, SExt.refl S⟩
  have hh := same_heap hc.heap hx' hold
  have c2 := c1.put (d := some it) (v := .raw (itv w.heap.size)) (u := itv w.heap.size) hx' hh (by rintro _ ⟨⟩; exact hit) .raw
  have hsub : Sub ((it, .raw (itv w.heap.size)) :: E 0) ((it, .raw (itv w.heap.size)) :: (t, .str s) :: env) := fun t' => by
    by_cases e : it = t'
    · subst e; rw [get_put_same, get_put_same]; exact .inr rfl
    · rw [get_put_other _ _ e, get_put_other _ _ e]; exact hE t'
  refine wpList_nil ?_
  refine wp_block (wp_loop_ghost (fun n a' w' => ∃ pos S', n = s.size - pos ∧ I pos ∧ ItAt N B it w.heap.size s pos (E pos) H a' w' S') (s.size - 0) ⟨0, S, rfl, h0, ⟨c2.sub hsub, hb.trans hx', World.iter_heap w s 0, hb.stp.size⟩⟩ ?_)
  rintro n a1 w1 ⟨pos, S1, rfl, hI, h1⟩
  refine wp_seq (wp_region_lit ?_)
  refine wpList_plain rfl fun next hnext => ?_
  have hevit : a1.eval (.tmp it) = itv w.heap.size := by
    have := h1.cr.ev (.tmp it)
    rw [show aev ((it, AV.raw (itv w.heap.size)) :: E pos) (.tmp it) = .raw (itv w.heap.size) from get_put_same _ _ _] at this
    generalize a1.eval (.tmp it) = u at this
    cases this
    rfl
  by_cases hp : pos < s.size
  · have hrn : ∀ pos' after guard, (execOp a1.eval ⟨some nx, .next (.tmp it) true, ty3, pos', after, guard⟩).run P w1 = .ok (.value (.tuple #[.bool true, .int .i64 pos, .int .i32 (Utf8.decode s pos).1])) (w1.iterAt w.heap.size s (pos + (Utf8.decode s pos).2)) := by
      intro pos' after guard
      simp only [execOp, hevit, Sem.run_bind, Lib.run_next_any_at w1 w.heap.size s pos ty3 h1.obj hp, Result.andThen_ok, Sem.run_pure]
    unfold Oper.wp
    rw [hrn]
    refine hnext _ _ ?_
    have h2 := h1.next (pos' := pos + (Utf8.decode s pos).2)
    have c3 := h2.cr.put (d := some nx) (v := .tup [.bool true, .int .i64 (pos : Int), .int .i32 ((Utf8.decode s pos).1 : Int)]) (Ext.refl S1 _) h2.cr.heap (by rintro _ ⟨⟩; exact hnx) (.tup (vs := #[.bool true, .int .i64 pos, .int .i32 (Utf8.decode s pos).1]) rfl fun j v u hv hu => by
      match j, hv, hu with
      | 0, hv, hu => simp at hv hu; subst hv; subst hu; exact .bool
      | 1, hv, hu => simp at hv hu; subst hv; subst hu; exact .int
      | 2, hv, hu => simp at hv hu; subst hv; subst hu; exact .int
      | j + 3, hv, hu => simp at hv)
    refine wpList_plain rfl fun next2 hnext2 => ?_
    obtain ⟨u, hru, hvu⟩ := (o_extract (P := P) (N := N) (env := (nx, .tup [.bool true, .int .i64 (pos : Int), .int .i32 ((Utf8.decode s pos).1 : Int)]) :: (it, .raw (itv w.heap.size)) :: E pos) (H := H) (ty := ty4) (x := .tmp nx) (i := 0) (v := .bool true) (get_put_same ((it, .raw (itv w.heap.size)) :: E pos) nx (.tup [.bool true, .int .i64 (pos : Int), .int .i32 ((Utf8.decode s pos).1 : Int)])) rfl) S1 _ _ c3
    unfold Oper.wp
    rw [hru]
    refine hnext2 _ _ ?_
    have c4 := c3.put (d := some okt) (Ext.refl S1 _) c3.heap (by rintro _ ⟨⟩; exact hok) hvu
    refine wpList_nil ?_
    have hevok := c4.ev (.tmp okt)
    rw [show ∀ e : Env, aev (Av.put e (some okt) (.bool true)) (.tmp okt) = .bool true from fun e => get_put_same _ _ _] at hevok
    generalize hu2 : Act.eval _ (.tmp okt) = u2 at hevok
    cases hevok
    refine wp_seq (wp_cond_true hu2 (wp_skip ?_))
    refine wp_mono (round pos w.heap.size ⟨S1, w1.iterAt w.heap.size s (pos + (Utf8.decode s pos).2)⟩ hp hI (by rw [← h2.cr.heap.len]) S1 _ _ c4 (Ext.refl _ _)) ?_
    intro e a' w' ⟨x', env', H', S', q, r, c, k⟩
    have kx : Ext B.S B.w S' w' := h2.ext.trans k
    cases r with
    | nrm =>
      obtain ⟨hI', hs, rfl⟩ := q
      have hr : w.heap.size < (w1.iterAt w.heap.size s (pos + (Utf8.decode s pos).2)).heap.size := (Array.getElem?_eq_some_iff.1 h2.obj).1
      have hno := h2.cr.heap.notOwn (r := w.heap.size) (by intro arr ty fz e; rw [h2.obj] at e; cases e)
      refine ⟨s.size - (pos + (Utf8.decode s pos).2), by have := decode_pos s pos; omega, pos + (Utf8.decode s pos).2, S', rfl, hI', c.sub hs, kx, ?_, h1.new⟩
      rw [(k.stp.old _ hr hno).2]
      exact h2.obj
    | @brk i =>
      simp only [AX.andThen, AX.inBlock] at q
      simp only [Exit.then, Exit.inBlock]
      split at q
      · rename_i e; rw [if_pos e]; exact ⟨_, env', H', S', q, .nrm, c, kx⟩
      · rename_i e; rw [if_neg e]; exact ⟨_, env', H', S', q, .brk, c, kx⟩
    | ret => exact ⟨_, env', H', S', q, .ret, c, kx⟩
    | pan hv => exact ⟨_, env', H', S', q, .pan hv, c, kx⟩
  · have hrn : ∀ pos' after guard, (execOp a1.eval ⟨some nx, .next (.tmp it) true, ty3, pos', after, guard⟩).run P w1 = .ok (.value (.tuple #[.bool false])) w1 := by
      intro pos' after guard
      simp only [execOp, hevit, Sem.run_bind, Lib.run_next_end_at w1 w.heap.size s pos ty3 h1.obj hp, Result.andThen_ok, Sem.run_pure]
    unfold Oper.wp
    rw [hrn]
    refine hnext _ _ ?_
    have c3 := h1.cr.put (d := some nx) (v := .tup [.bool false]) (Ext.refl S1 _) h1.cr.heap (by rintro _ ⟨⟩; exact hnx) (.tup (vs := #[.bool false]) rfl fun j v u hv hu => by
      match j, hv, hu with
      | 0, hv, hu => simp at hv hu; subst hv; subst hu; exact .bool
      | j + 1, hv, hu => simp at hv)
    refine wpList_plain rfl fun next2 hnext2 => ?_
    obtain ⟨u, hru, hvu⟩ := (o_extract (P := P) (N := N) (env := (nx, .tup [.bool false]) :: (it, .raw (itv w.heap.size)) :: E pos) (H := H) (ty := ty4) (x := .tmp nx) (i := 0) (v := .bool false) (get_put_same ((it, .raw (itv w.heap.size)) :: E pos) nx (.tup [.bool false])) rfl) S1 _ _ c3
    unfold Oper.wp
    rw [hru]
    refine hnext2 _ _ ?_
    have c4 := c3.put (d := some okt) (Ext.refl S1 _) c3.heap (by rintro _ ⟨⟩; exact hok) hvu
    refine wpList_nil ?_
    have hevok := c4.ev (.tmp okt)
    rw [show ∀ e : Env, aev (Av.put e (some okt) (.bool false)) (.tmp okt) = .bool false from fun e => get_put_same _ _ _] at hevok
    generalize hu2 : Act.eval _ (.tmp okt) = u2 at hevok
    cases hevok
    refine wp_seq (wp_cond_false hu2 (wp_exit ?_))
    simp only [Exit.then, Exit.inBlock, if_true]
    exact ⟨.nrm, _, H, S1, fin pos w.heap.size hp hI, .nrm, c4, h1.ext⟩

theorem aw_scope {c : Code} (h : AWp P N B c Q env H) : AWp P N B (.scope c) Q env H := by
  intro S a w hc hb
  refine wp_scope_straight (wp_mono (h S a w hc hb) ?_)
  intro e a' w' ⟨x, env', H', S', q, r, c, k⟩
  cases r with
  | nrm => exact ⟨_, env', H', S', q, .nrm, c, k⟩
  | brk => exact ⟨_, env', H', S', q, .brk, c, k⟩
  | ret => exact ⟨_, env', H', S', q, .ret, c, k⟩
  | pan hv => exact ⟨_, env', H', S', q, .pan hv, c, k⟩
end
end Go.Av

/-
  CALLS OF WHAT THE MODEL ITSELF ANSWERS (a body that is not Go); a rune as1 a text.
-/
namespace Go.Av
section
variable {P : Program} {N : Nat} {B : Base} {Q : Post} {env : Env} {H : Heap} {ty : TypeId}
theorem o_extern {f : FuncId} {fn : Func} {e : Array Value → Sem Value} {xs : Array Operand} {ts : Array TypeId} {v : AV} (hf : P.funcs[f]? = some fn) (hname : (fn.name == "runtime.NumGoroutine") = false) (hb : fn.body.isNone = true) (hn : Extern.findNext fn = none) (he : Extern.find fn = some e)
    (h : ∀ S a w, CR N env H S a w → ∃ u, (e (xs.map a.eval)).run P w = .ok u w ∧ VR (own S) w S v u) :
    V1 P N (.call { callee := .value (.func f), args := xs, argTypes := ts }) ty env H v := by
  intro S a w hc
  obtain ⟨u, h1, h2⟩ := h S a w hc
  refine ⟨u, fun dst pos after guard => ?_, h2⟩
  simp [execOp, resolve, Act.eval, Deferred.ofValue, invoke, run_callFunc_extern hf hname hb hn he, h1, Result.andThen]
theorem o_indexByteStr {f : FuncId} {fn : Func} {x y : Operand} {ts : Array TypeId} {s : ByteArray} {c : Int} (hf : P.funcs[f]? = some fn) (hname : (fn.name == "runtime.NumGoroutine") = false) (hb : fn.body.isNone = true) (hn : Extern.findNext fn = none) (he : Extern.find fn = some Extern.BytealgIndexByte.indexByte)
    (hx : aev env x = .str s) (hy : aev env y = .int .u8 c) : V1 P N (.call { callee := .value (.func f), args := #[x, y], argTypes := ts }) ty env H (.int .i64 (Lib.indexByte s.data.toList c.toNat.toUInt8)) := by
  refine o_extern hf hname hb hn he fun S a w hc => ?_
  have h1 := hc.ev x
  have h2 := hc.ev y
  rw [hx] at h1
  rw [hy] at h2
  refine ⟨.int .i64 (Lib.indexByte s.data.toList c.toNat.toUInt8), ?_, .int⟩
  have e : (#[x, y] : Array Operand).map a.eval = #[a.eval x, a.eval y] := by simp
  rw [e]
  generalize a.eval x = u at h1
  generalize a.eval y = u2 at h2
  cases h1
  cases h2
  exact Lib.run_indexByteString s c w
theorem o_runeStr {x : Operand} {s d : TypeId} {k : IntKind} {n : Int} [hs : UdI P s (.int k)] [hd : UdI P d .string] (hx : aev env x = .int k n) : V1 P N (.convert s d x) ty env H (.str (Utf8.encode n)) := by
  intro S a w hc
  have h1 := hc.ev x
  rw [hx] at h1
  refine ⟨.string (Utf8.encode n), fun dst pos after guard => ?_, .str⟩
  generalize hu : a.eval x = u at h1
  cases h1
  simp [execOp, hu, convert, run_und hs.ud, run_und hd.ud, Conv.intToString]
/-- A literal of many that is never written again. -/
theorem g_litL {t e : TypeId} {n sz : Nat} {parts : Array (Nat × Operand)} {agg : Bool} {zs cs : List AV} (rows : List (List AV)) [hu : SlI P t e] [TyI P e agg sz] [hz : ZcI P e zs] (hn : zs.length = sz) (hp : 0 < sz) (h0 : 0 < n) (hbig : n * sz ≤ 16777216)
    (hf : afill ((List.range n).map fun i => (i * sz, sz)) (List.replicate n zs).flatten (parts.toList.map fun (i, x) => (i, aev env x)) = some cs) (hrows : rows.flatten = cs) (hw : ∀ r ∈ rows, r.length = sz) (hlen : rows.length = n) (hb : ∀ r ∈ rows, AV.bels 0 r = true) :
    V2 P N (.buildSlice t n parts) ty env H (.pl rows) H := by
  have h1 := o_buildSliceL (P := P) (N := N) (env := env) (H0 := H) (L := []) (ty := ty) (t := t) (e := e) (agg := agg) (zs := zs) hn hp h0 hbig hf hrows hw rfl
  have := V2.freezeL (L := []) h1 rfl rfl hlen hb
  simpa using this
/-- A call of a function value. -/
theorem V2.callv {f : Nat} {x : Operand} {xs : Array Operand} {ts : Array TypeId} {v : AV} {ps qs vs : List AV} {M : Heap} [FnI P f] (hac : AC P f vs H (Ret v M)) (hx : aev env x = .fn (.func f) ps qs) (hvs : ps ++ xs.toList.map (aev env) ++ qs = vs) :
    V2 P N (.call { callee := .value x, args := xs, argTypes := ts }) ty env H v M := by
  subst hvs
  intro dst pos after guard S a w hc next Q hn hp
  refine AOp.call (P := P) (N := N) (o := ⟨dst, .call { callee := .value x, args := xs, argTypes := ts }, ty, pos, after, guard⟩) (f := f) (fun S a w hc => ?_) hac S a w hc next Q ?_ ?_
  · have hv := hc.ev x
    rw [hx] at hv
    generalize he : a.eval x = u at hv
    cases hv with
    | @fn _ _ _ _ p' q' hp hq h1 h2 =>
      refine ⟨p' ++ xs.map a.eval ++ q', ?_, (VRs.append (VRs.append ⟨hp, h1⟩ (evs_ok hc xs)) ⟨hq, h2⟩)⟩
      simp [execOp, resolve, he, Deferred.ofValue, invoke, run_callFunc (P := P) (f := f)]
  · rintro v' u H' S' w' ⟨e, rfl⟩
    injection e with e
    subst e
    exact hn _ u _ S' w' ⟨rfl, rfl⟩
  · rintro v' u H' S' w' ⟨e, _⟩
    cases e
end
theorem encode_high {n : Int} (h : 128 ≤ n) (hv : Utf8.valid n = true) : 2 ≤ (Utf8.encode n).data.toList.length ∧ (Utf8.encode n).data.toList.length ≤ 4 ∧ ∀ b ∈ (Utf8.encode n).data.toList, 128 ≤ b.toNat := by
  have hn : n.toNat < 1114112 ∧ 128 ≤ n.toNat := by
    simp [Utf8.valid] at hv
    omega
  unfold Utf8.encode
  rw [if_pos hv]
  generalize n.toNat = c at hn
  simp only
  rw [if_neg (by omega)]
  split
  · refine ⟨by simp, by simp, fun b hb => ?_⟩
    simp only [List.mem_cons, List.not_mem_nil, or_false] at hb
    rcases hb with rfl | rfl <;> simp <;> omega
  · split
    · refine ⟨by simp, by simp, fun b hb => ?_⟩
      simp only [List.mem_cons, List.not_mem_nil, or_false] at hb
      rcases hb with rfl | rfl | rfl <;> simp <;> omega
    · refine ⟨by simp, by simp, fun b hb => ?_⟩
      simp only [List.mem_cons, List.not_mem_nil, or_false] at hb
      rcases hb with rfl | rfl | rfl | rfl <;> simp <;> omega
theorem decode_high (s : ByteArray) (i : Nat) (h : 128 ≤ (s.get! i).toNat) : 128 ≤ (Utf8.decode s i).1 ∧ (Utf8.decode s i).1 ≤ 1114111 := by
  unfold Utf8.decode
  simp only [Nat.add_zero]
  rw [if_neg (by omega)]
  have hre : Utf8.runeError = 65533 := rfl
  repeat' split
  all_goals simp_all [Utf8.valid]
  all_goals omega
theorem decode_low (s : ByteArray) (i : Nat) (h : (s.get! i).toNat < 128) : Utf8.decode s i = ((s.get! i).toNat, 1) := by
  unfold Utf8.decode
  simp only [Nat.add_zero]
  rw [if_pos h]
end Go.Av

/-
  WHAT THE WORDS' OPERATIONS ARE, AND WHEN A LIST IS A SET (of no program).
-/
namespace Go.Av
theorem u64_nat (x : Nat) (h : x < 18446744073709551616) : (BitVec.ofInt IntKind.u64.bits (x : Int)).toNat = x := by
  show (BitVec.ofInt 64 (x : Int)).toNat = x
  rw [BitVec.ofInt_natCast, BitVec.toNat_ofNat]; exact Nat.mod_eq_of_lt (by omega)
theorem u64_wrap (x : Nat) (h : x < 18446744073709551616) : IntKind.u64.wrap (x : Int) = (x : Int) := by rw [IntKind.wrap_u64]; omega
theorem u64_or (x y : Nat) (hx : x < 18446744073709551616) (hy : y < 18446744073709551616) : IntKind.u64.wrap (BitVec.ofInt IntKind.u64.bits (x : Int) ||| BitVec.ofInt IntKind.u64.bits (y : Int)).toNat = ((x ||| y : Nat) : Int) := by
  rw [BitVec.toNat_or, u64_nat x hx, u64_nat y hy]
  exact u64_wrap _ (Nat.or_lt_two_pow (n := 64) hx hy)
theorem u64_and (x y : Nat) (hx : x < 18446744073709551616) (hy : y < 18446744073709551616) : IntKind.u64.wrap (BitVec.ofInt IntKind.u64.bits (x : Int) &&& BitVec.ofInt IntKind.u64.bits (y : Int)).toNat = ((x &&& y : Nat) : Int) := by
  rw [BitVec.toNat_and, u64_nat x hx, u64_nat y hy]
  exact u64_wrap _ (Nat.and_lt_two_pow (n := 64) _ hy)
theorem u64_andNot (f g : Nat → Bool) (i : Nat) : IntKind.u64.wrap (BitVec.ofInt IntKind.u64.bits (wd f i : Int) &&& ~~~ (BitVec.ofInt IntKind.u64.bits (wd g i : Int))).toNat = ((wd (fun n => f n && !g n) i : Nat) : Int) := by
  have e : (BitVec.ofInt IntKind.u64.bits (wd f i : Int) &&& ~~~ (BitVec.ofInt IntKind.u64.bits (wd g i : Int))).toNat = wd (fun n => f n && !g n) i := by
    rw [BitVec.toNat_and, BitVec.toNat_not, u64_nat _ (wd_lt f i), u64_nat _ (wd_lt g i)]
    apply Nat.eq_of_testBit_eq; intro j
    rw [Nat.testBit_and, show (2 : Nat) ^ IntKind.u64.bits - 1 - wd g i = 2 ^ 64 - (wd g i + 1) by show 2 ^ 64 - 1 - wd g i = _; omega, Nat.testBit_two_pow_sub_succ (wd_lt g i), wd_bit, wd_bit, wd_bit]
    cases decide (j < 64) <;> simp
  rw [e]
  exact u64_wrap _ (wd_lt _ _)
/-- A word with the lowest bit less. -/
theorem u64_pred (x : Nat) (h0 : x ≠ 0) (h : x < 18446744073709551616) : IntKind.u64.wrap ((x : Int) - 1) = ((x - 1 : Nat) : Int) := by rw [IntKind.wrap_u64]; omega

/-! ### lists that are sets -/
def okB (l : List Int) (i : Nat) : Bool := match l[i]? with
  | none => true
  | some n => decide (0 ≤ n) && decide (n < 256) && (i == 0 || match l[i - 1]? with
    | some m => decide (m < n)
    | none => true)
def sok (l : List Int) : Bool := (List.range l.length).all (okB l)
theorem sok_false {l : List Int} {k : Nat} (hk : k < l.length) (h : okB l k = false) : sok l = false := by
  cases hs : sok l with
  | false => rfl
  | true =>
    have := List.all_eq_true.1 hs k (by simpa using hk)
    rw [h] at this; cases this
theorem sok_true {l : List Int} (h : ∀ k, k < l.length → okB l k = true) : sok l = true := List.all_eq_true.2 fun k hk => h k (by simpa using hk)
theorem sok_get {l : List Int} (h : sok l = true) {k : Nat} (hk : k < l.length) : okB l k = true := List.all_eq_true.1 h k (by simpa using hk)
theorem okB_get {l : List Int} {k : Nat} {n : Int} (hn : l[k]? = some n) : okB l k = (decide (0 ≤ n) && decide (n < 256) && (k == 0 || match l[k - 1]? with
    | some m => decide (m < n)
    | none => true)) := by rw [okB, hn]
theorem okB_range {l : List Int} {k : Nat} {n : Int} (hn : l[k]? = some n) (h : okB l k = true) : 0 ≤ n ∧ n < 256 := by
  rw [okB_get hn] at h
  simp only [Bool.and_eq_true, decide_eq_true_eq] at h
  exact h.1
/-- Is a number in a list? -/
def inl (l : List Int) (j : Nat) : Bool := l.any fun n => n == (j : Int)
/-- How far a list is a set. -/
def okn (l : List Int) : Nat := ((List.range l.length).takeWhile (okB l)).length
theorem takeWhile_range {p : Nat → Bool} {n k : Nat} (hk : k ≤ n) (h : ∀ i, i < k → p i = true) (h2 : k < n → p k = false) : ((List.range n).takeWhile p).length = k := by
  obtain ⟨d, rfl⟩ : ∃ d, n = k + d := ⟨n - k, by omega⟩
  rw [List.range_add, List.takeWhile_append_of_pos (by intro i hi; exact h i (by simpa using hi))]
  cases d with
  | zero => simp
  | succ d =>
    have : (List.map (fun x => k + x) (List.range (d + 1))).takeWhile p = [] := by
      rw [List.range_succ_eq_map, List.map_cons, Nat.add_zero, List.takeWhile_cons_of_neg (by rw [h2 (by omega)]; simp)]
    rw [this]; simp
theorem okn_at {l : List Int} {k : Nat} (hk : k < l.length) (h : ∀ i, i < k → okB l i = true) (h2 : okB l k = false) : okn l = k := takeWhile_range (Nat.le_of_lt hk) h fun _ => h2
theorem okn_all {l : List Int} (h : ∀ i, i < l.length → okB l i = true) : okn l = l.length := takeWhile_range (Nat.le_refl _) h fun h => absurd h (Nat.lt_irrefl _)
/-- The last number ahead of a place. -/
def lastN (l : List Int) (k : Nat) : Int := if k = 0 then -1 else (l[k - 1]?).getD 0
theorem okB_last {l : List Int} {k : Nat} {n : Int} (hn : l[k]? = some n) (h : ∀ i, i < k → okB l i = true) : okB l k = !(decide (n ≤ lastN l k) || decide (256 ≤ n)) := by
  rw [okB_get hn, lastN]
  cases k with
  | zero => simp; rw [Bool.eq_iff_iff]; simp; omega
  | succ k =>
    have hk : k < l.length := by have := (List.getElem?_eq_some_iff.1 hn).1; omega
    have hm : l[k]? = some l[k] := List.getElem?_eq_getElem hk
    have := okB_range hm (h k (by omega))
    simp only [Nat.add_sub_cancel, hm, Option.getD_some]
    rw [Bool.eq_iff_iff]
    simp
    omega
/-- The words of a list's beginning. -/
def fpre (l : List Int) (k : Nat) : Nat → Bool := inl (l.take k)
theorem fpre_step {l : List Int} {k : Nat} {n : Nat} (hn : l[k]? = some (n : Int)) : fpre l (k + 1) = fun m => fpre l k m || m == n := by
  funext m
  rw [fpre, fpre, take_snoc_get hn, inl, inl, List.any_append]
  congr 1
  rw [List.any_cons, List.any_nil, Bool.or_false, Bool.eq_iff_iff]
  simp
  omega
theorem fpre_zero (l : List Int) : fpre l 0 = fun _ => false := rfl
theorem fpre_all (l : List Int) : fpre l l.length = inl l := by rw [fpre, List.take_length]
/-- Four words. -/
def eWn (w : Nat → Nat) : List AV := (List.range 4).map fun j => .int .u64 ((w j : Nat) : Int)
theorem eWn_get (w : Nat → Nat) {k : Nat} (h : k < 4) : (eWn w)[k]? = some (.int .u64 ((w k : Nat) : Int)) := by simp [eWn, List.getElem?_map, List.getElem?_range h]
theorem eWn_set (w : Nat → Nat) {k : Nat} (h : k < 4) (x : Nat) : (eWn w).take k ++ [AV.int .u64 (x : Int)] ++ (eWn w).drop (k + 1) = eWn fun j => if j = k then x else w j := by
  match k, h with
  | 0, _ => rfl
  | 1, _ => rfl
  | 2, _ => rfl
  | 3, _ => rfl
theorem eWn_congr {w v : Nat → Nat} (h : ∀ j, j < 4 → w j = v j) : eWn w = eWn v := List.map_congr_left fun j hj => by rw [h j (by simpa using hj)]
end Go.Av

/-
  SETS AS LISTS: two that have the same numbers are one; what is joined, met and taken away, number by number.
-/
namespace Go.Av
theorem sorted_ext : ∀ {a b : List Int}, a.Pairwise (· < ·) → b.Pairwise (· < ·) → (∀ x, x ∈ a ↔ x ∈ b) → a = b
  | [], [], _, _, _ => rfl
  | [], y :: b, _, _, h => absurd ((h y).2 List.mem_cons_self) (by simp)
  | x :: a, [], _, _, h => absurd ((h x).1 List.mem_cons_self) (by simp)
  | x :: a, y :: b, ha, hb, h => by
    rw [List.pairwise_cons] at ha hb
    have e : x = y := by
      rcases List.mem_cons.1 ((h x).1 List.mem_cons_self) with e | e
      · exact e
      · rcases List.mem_cons.1 ((h y).2 List.mem_cons_self) with e' | e'
        · exact e'.symm
        · have := hb.1 x e; have := ha.1 y e'; omega
    subst e
    congr 1
    refine sorted_ext ha.2 hb.2 fun z => ⟨fun hz => ?_, fun hz => ?_⟩
    · rcases List.mem_cons.1 ((h z).1 (List.mem_cons_of_mem _ hz)) with e | e
      · have := ha.1 z hz; omega
      · exact e
    · rcases List.mem_cons.1 ((h z).2 (List.mem_cons_of_mem _ hz)) with e | e
      · have := hb.1 z hz; omega
      · exact e
theorem sok_get_range {l : List Int} (h : sok l = true) {k : Nat} (hk : k < l.length) : 0 ≤ l[k] ∧ l[k] < 256 := okB_range (List.getElem?_eq_getElem hk) (sok_get h hk)
theorem sok_step {l : List Int} (h : sok l = true) {k : Nat} (hk : k + 1 < l.length) : l[k] < l[k + 1] := by
  have h1 := sok_get h hk
  rw [okB_get (List.getElem?_eq_getElem hk)] at h1
  simp only [Nat.add_sub_cancel, List.getElem?_eq_getElem (Nat.lt_of_succ_lt hk), Bool.and_eq_true, Bool.or_eq_true, decide_eq_true_eq, beq_iff_eq] at h1
  omega
theorem sok_sorted {l : List Int} (h : sok l = true) : l.Pairwise (· < ·) := by
  rw [List.pairwise_iff_getElem]
  intro i j hi hj hij
  obtain ⟨d, rfl⟩ : ∃ d, j = i + 1 + d := ⟨j - i - 1, by omega⟩
  induction d with
  | zero => exact sok_step h hj
  | succ d ih =>
    have h1 := ih (by omega) (by omega)
    have h2 := sok_step h (k := i + 1 + d) (by omega)
    exact Int.lt_trans h1 h2
theorem sok_of_sorted {l : List Int} (h : l.Pairwise (· < ·)) (hr : ∀ x ∈ l, 0 ≤ x ∧ x < 256) : sok l = true := by
  refine sok_true fun k hk => ?_
  rw [okB_get (List.getElem?_eq_getElem hk)]
  have h1 := hr l[k] (List.getElem_mem hk)
  simp only [Bool.and_eq_true, Bool.or_eq_true, decide_eq_true_eq, beq_iff_eq]
  refine ⟨h1, ?_⟩
  cases k with
  | zero => exact .inl rfl
  | succ k =>
    refine .inr ?_
    rw [Nat.add_sub_cancel, List.getElem?_eq_getElem (by omega)]
    exact decide_eq_true (List.pairwise_iff_getElem.1 h k (k + 1) (by omega) hk (by omega))
theorem mem_setl {f : Nat → Bool} {x : Int} : x ∈ setl f ↔ ∃ n : Nat, x = n ∧ n < 256 ∧ f n = true := by
  unfold setl
  simp only [List.mem_map, List.mem_filter, List.mem_range]
  constructor
  · rintro ⟨n, ⟨h1, h2⟩, rfl⟩; exact ⟨n, rfl, h1, h2⟩
  · rintro ⟨n, rfl, h1, h2⟩; exact ⟨n, ⟨h1, h2⟩, rfl⟩
theorem setl_sorted (f : Nat → Bool) : (setl f).Pairwise (· < ·) := by
  unfold setl
  rw [List.pairwise_map]
  exact (List.pairwise_lt_range.filter _).imp (by intro a b h; omega)
theorem sok_setl (f : Nat → Bool) : sok (setl f) = true := sok_of_sorted (setl_sorted f) fun x hx => by
  obtain ⟨n, rfl, h, _⟩ := mem_setl.1 hx
  omega
theorem inl_mem {l : List Int} {n : Nat} : inl l n = true ↔ (n : Int) ∈ l := by
  unfold inl
  rw [List.any_eq_true]
  constructor
  · rintro ⟨x, hx, h⟩; obtain rfl : x = n := by simpa using h
    exact hx
  · intro h; exact ⟨_, h, by simp⟩
theorem inl_setl (f : Nat → Bool) (n : Nat) : inl (setl f) n = (decide (n < 256) && f n) := by
  rw [Bool.eq_iff_iff, inl_mem, mem_setl]
  simp only [Bool.and_eq_true, decide_eq_true_eq]
  constructor
  · rintro ⟨m, h, h1, h2⟩; obtain rfl : n = m := by omega
    exact ⟨h1, h2⟩
  · rintro ⟨h1, h2⟩; exact ⟨n, rfl, h1, h2⟩
theorem inl_256 {l : List Int} (h : sok l = true) {n : Nat} (hn : inl l n = true) : n < 256 := by
  obtain ⟨k, hk, e⟩ := List.getElem_of_mem (inl_mem.1 hn)
  have := sok_get_range h hk
  omega
theorem sok_mem {l : List Int} (h : sok l = true) {x : Int} (hx : x ∈ l) : 0 ≤ x ∧ x < 256 := by
  obtain ⟨k, hk, rfl⟩ := List.getElem_of_mem hx
  exact sok_get_range h hk
/-- Sets with the same numbers are one. -/
theorem sok_ext {a b : List Int} (ha : sok a = true) (hb : sok b = true) (h : ∀ n, inl a n = inl b n) : a = b := by
  refine sorted_ext (sok_sorted ha) (sok_sorted hb) fun x => ?_
  constructor
  · intro hx
    have := sok_mem ha hx
    have h1 : inl a x.toNat = true := inl_mem.2 (by rw [Int.toNat_of_nonneg this.1]; exact hx)
    rw [h] at h1
    have := inl_mem.1 h1
    rwa [Int.toNat_of_nonneg (by omega)] at this
  · intro hx
    have := sok_mem hb hx
    have h1 : inl b x.toNat = true := inl_mem.2 (by rw [Int.toNat_of_nonneg this.1]; exact hx)
    rw [← h] at h1
    have := inl_mem.1 h1
    rwa [Int.toNat_of_nonneg (by omega)] at this
theorem setl_nil {f : Nat → Bool} : setl f = [] ↔ ∀ n, n < 256 → f n = false := by
  constructor
  · intro h n hn
    cases hf : f n with
    | false => rfl
    | true =>
      have : (n : Int) ∈ setl f := mem_setl.2 ⟨n, rfl, hn, hf⟩
      rw [h] at this; cases this
  · intro h
    refine List.eq_nil_iff_forall_not_mem.2 fun x hx => ?_
    obtain ⟨n, rfl, h1, h2⟩ := mem_setl.1 hx
    rw [h n h1] at h2; cases h2
theorem sok_nil : sok [] = true := by decide
theorem inl_nil (n : Nat) : inl [] n = false := rfl
end Go.Av

/-
  TEXTS OF SETS, plainly: runs of numbers, their digits; what a text is cut into.
-/
namespace Go.Av
set_option linter.unusedVariables false

def dec (n : Int) : List UInt8 := Lib.decDigits n.toNat
def sruns : List Int → List (Int × Int)
  | [] => []
  | x :: xs => match sruns xs with
    | [] => [(x, x)]
    | (a, b) :: r => if a = x + 1 then (x, b) :: r else (x, x) :: (a, b) :: r
def showR (r : Int × Int) : List UInt8 := if r.1 < r.2 then dec r.1 ++ 45 :: dec r.2 else dec r.1
def showRs (rs : List (Int × Int)) : List UInt8 := Lib.join (rs.map showR) [44]
def showS (l : List Int) : List UInt8 := if sok l then showRs (sruns l) else []
def rng (a b : Int) : List Int := (List.range (b + 1 - a).toNat).map fun k : Nat => a + (k : Int)
def unruns (rs : List (Int × Int)) : List Int := rs.flatMap fun r => rng r.1 r.2
/-- Runs in order, none beside the one ahead. -/
def RCh : Int → List (Int × Int) → Prop
  | _, [] => True
  | last, (a, b) :: r => last + 1 < a ∧ a ≤ b ∧ b < 256 ∧ RCh b r

theorem rng_cons {a b : Int} (h : a ≤ b) : rng a b = a :: rng (a + 1) b := by
  unfold rng
  rw [show (b + 1 - a).toNat = (b + 1 - (a + 1)).toNat + 1 by omega, List.range_succ_eq_map]
  simp only [List.map_cons, List.map_map]
  congr 1
  · simp
  · exact List.map_congr_left fun k _ => by simp; omega
theorem rng_one (a : Int) : rng a a = [a] := by
  unfold rng
  rw [show (a + 1 - a).toNat = 1 by omega]; simp [List.range_succ]
theorem rng_empty {a b : Int} (h : b < a) : rng a b = [] := by
  unfold rng
  rw [show (b + 1 - a).toNat = 0 by omega]; rfl
theorem rng_snoc {a b : Int} (h : a ≤ b + 1) : rng a (b + 1) = rng a b ++ [b + 1] := by
  unfold rng
  rw [show (b + 1 + 1 - a).toNat = (b + 1 - a).toNat + 1 by omega, List.range_succ, List.map_append]
  simp only [List.map_cons, List.map_nil]
  congr 2
  omega
theorem rng_mem {a b x : Int} : x ∈ rng a b ↔ a ≤ x ∧ x ≤ b := by
  unfold rng
  rw [List.mem_map]
  constructor
  · rintro ⟨k, hk, rfl⟩
    rw [List.mem_range] at hk
    omega
  · rintro ⟨h1, h2⟩
    exact ⟨(x - a).toNat, by rw [List.mem_range]; omega, by omega⟩
theorem rng_len (a b : Int) : (rng a b).length = (b + 1 - a).toNat := by simp [rng]
theorem rng_sorted (a b : Int) : (rng a b).Pairwise (· < ·) := by
  unfold rng
  rw [List.pairwise_map]
  exact List.pairwise_lt_range.imp fun h => by omega
theorem sruns_nil_iff {l : List Int} : sruns l = [] ↔ l = [] := by
  cases l with
  | nil => simp [sruns]
  | cons x xs =>
    simp only [sruns]
    split
    · simp
    · split <;> simp
theorem sruns_ch : ∀ (l : List Int) (last : Int), l.Pairwise (· < ·) → (∀ x ∈ l, last + 1 < x ∧ x < 256) → RCh last (sruns l)
  | [], _, _, _ => trivial
  | x :: xs, last, hs, hr => by
    have h0 := hr x (List.mem_cons_self ..)
    rw [List.pairwise_cons] at hs
    have ih := sruns_ch xs (x - 1) hs.2 fun y hy => ⟨by have := hs.1 y hy; omega, (hr y (List.mem_cons_of_mem _ hy)).2⟩
    simp only [sruns]
    split
    · exact ⟨h0.1, Int.le_refl _, h0.2, trivial⟩
    · rename_i a b r e
      rw [e] at ih
      obtain ⟨i1, i2, i3, i4⟩ := ih
      split
      · exact ⟨h0.1, by omega, i3, i4⟩
      · exact ⟨h0.1, Int.le_refl _, h0.2, by omega, i2, i3, i4⟩
theorem sok_ch {l : List Int} (h : sok l = true) : RCh (-2) (sruns l) :=
  sruns_ch l (-2) (sok_sorted h) fun x hx => by have := sok_mem h hx; omega
theorem sruns_le : ∀ (l : List Int) (r : Int × Int), r ∈ sruns l → r.1 ≤ r.2
  | [], r, h => by simp [sruns] at h
  | x :: xs, r, h => by
    have ih := sruns_le xs
    simp only [sruns] at h
    split at h
    · simp only [List.mem_singleton] at h; subst h; exact Int.le_refl _
    · rename_i a b t e
      rw [e] at ih
      split at h
      · rcases List.mem_cons.1 h with rfl | h
        · have := ih (a, b) (List.mem_cons_self ..); simp only at this ⊢; omega
        · exact ih r (List.mem_cons_of_mem _ h)
      · rcases List.mem_cons.1 h with rfl | h
        · exact Int.le_refl _
        · exact ih r h
theorem unruns_sruns : ∀ l : List Int, unruns (sruns l) = l
  | [] => rfl
  | x :: xs => by
    have ih := unruns_sruns xs
    have hle := sruns_le xs
    simp only [sruns]
    split
    · rename_i e
      rw [sruns_nil_iff] at e
      subst e
      simp [unruns, rng_one]
    · rename_i a b r e
      rw [e] at ih hle
      have hab := hle (a, b) (List.mem_cons_self ..)
      simp only at hab
      simp only [unruns, List.flatMap_cons] at ih
      split
      · rename_i ha
        simp only [unruns, List.flatMap_cons]
        rw [rng_cons (by omega), ← ha, List.cons_append, ih]
      · simp only [unruns, List.flatMap_cons, rng_one]
        rw [ih]; rfl
theorem sruns_rng_app : ∀ (n : Nat) (a b : Int) (t : List Int), b - a = n → (∀ a' b' r, sruns t = (a', b') :: r → b + 1 < a') → sruns (rng a b ++ t) = (a, b) :: sruns t
  | 0, a, b, t, hn, ht => by
    obtain rfl : b = a := by omega
    rw [rng_one]
    simp only [List.cons_append, List.nil_append, sruns]
    split
    · rename_i e; rw [e]
    · rename_i a' b' r e
      have := ht a' b' r e
      rw [if_neg (by omega), e]
  | n + 1, a, b, t, hn, ht => by
    rw [rng_cons (by omega), List.cons_append]
    simp only [sruns]
    rw [sruns_rng_app n (a + 1) b t (by omega) ht]
    simp
theorem sruns_unruns : ∀ (rs : List (Int × Int)) (last : Int), RCh last rs → sruns (unruns rs) = rs
  | [], _, _ => rfl
  | (a, b) :: r, last, ⟨h1, h2, h3, h4⟩ => by
    have ih := sruns_unruns r b h4
    simp only [unruns, List.flatMap_cons]
    rw [show r.flatMap (fun r => rng r.1 r.2) = unruns r from rfl, sruns_rng_app (b - a).toNat a b _ (by omega), ih]
    intro a' b' r' e
    rw [ih] at e
    subst e
    exact h4.1
theorem unruns_ok : ∀ (rs : List (Int × Int)) (last : Int), RCh last rs → (unruns rs).Pairwise (· < ·) ∧ ∀ x ∈ unruns rs, last + 1 < x ∧ x < 256
  | [], _, _ => ⟨List.Pairwise.nil, fun x hx => by simp [unruns] at hx⟩
  | (a, b) :: r, last, ⟨h1, h2, h3, h4⟩ => by
    obtain ⟨i1, i2⟩ := unruns_ok r b h4
    simp only [unruns, List.flatMap_cons]
    rw [show r.flatMap (fun r => rng r.1 r.2) = unruns r from rfl]
    refine ⟨List.pairwise_append.2 ⟨rng_sorted a b, i1, fun x hx y hy => ?_⟩, fun x hx => ?_⟩
    · have := rng_mem.1 hx; have := i2 y hy; omega
    · rcases List.mem_append.1 hx with h | h
      · have := rng_mem.1 h; omega
      · have := i2 x h; omega
theorem sok_unruns {rs : List (Int × Int)} (h : RCh (-2) rs) : sok (unruns rs) = true := by
  obtain ⟨h1, h2⟩ := unruns_ok rs (-2) h
  exact sok_of_sorted h1 fun x hx => by have := h2 x hx; omega
theorem RCh.weak {a b : Int} (h : a ≤ b) : ∀ {rs : List (Int × Int)}, RCh b rs → RCh a rs
  | [], _ => trivial
  | (_, _) :: _, ⟨h1, h2⟩ => ⟨by omega, h2⟩
theorem RCh.each : ∀ {rs : List (Int × Int)} {last : Int}, RCh last rs → ∀ r ∈ rs, last + 1 < r.1 ∧ r.1 ≤ r.2 ∧ r.2 < 256
  | [], _, _, r, hr => by simp at hr
  | (a, b) :: t, last, ⟨h1, h2, h3, h4⟩, r, hr => by
    rcases List.mem_cons.1 hr with rfl | hr
    · exact ⟨h1, h2, h3⟩
    · have := RCh.each (h4.weak (a := last) (by omega)) r hr
      exact this

/-! ### digits -/
def dec3 (n : Nat) : List UInt8 := if n < 10 then [UInt8.ofNat (48 + n)] else if n < 100 then [UInt8.ofNat (48 + n / 10), UInt8.ofNat (48 + n % 10)] else [UInt8.ofNat (48 + n / 100), UInt8.ofNat (48 + n / 10 % 10), UInt8.ofNat (48 + n % 10)]
theorem dec_3 {n : Nat} (h : n < 1000) : Lib.decDigits n = dec3 n := by
  unfold dec3
  split
  · rename_i h; exact Lib.decDigits_one h
  · split
    · rename_i h1 h2; exact Lib.decDigits_two h1 h2
    · rename_i h1 h2
      rw [Lib.decDigits, dif_neg h1, Lib.decDigits_two (by omega) (by omega), show n / 10 / 10 = n / 100 by omega]
      rfl
theorem dec3_facts : ∀ n : Fin 256, ((dec3 n.val).all fun c => decide (48 ≤ c.toNat) && decide (c.toNat ≤ 57)) = true ∧ Lib.atoiAll (dec3 n.val) = .ok (n.val : Int) ∧ (dec3 n.val).length ≤ 3 ∧ 0 < (dec3 n.val).length := by decide +kernel
theorem dec_facts {n : Int} (h0 : 0 ≤ n) (h1 : n < 256) : (∀ c ∈ dec n, 48 ≤ c.toNat ∧ c.toNat ≤ 57) ∧ Lib.atoiAll (dec n) = .ok n ∧ (dec n).length ≤ 3 ∧ 0 < (dec n).length := by
  have := dec3_facts ⟨n.toNat, by omega⟩
  rw [dec, dec_3 (by omega)]
  simp only [List.all_eq_true, Bool.and_eq_true, decide_eq_true_eq] at this
  obtain ⟨k1, k2, k3⟩ := this
  refine ⟨k1, ?_, k3⟩
  rw [k2, show ((n.toNat : Nat) : Int) = n by omega]
theorem dec_no {n : Int} (h0 : 0 ≤ n) (h1 : n < 256) {c : UInt8} (hc : c.toNat < 48) : c ∉ dec n := fun h => by
  have := (dec_facts h0 h1).1 c h; omega
theorem showR_no {a b : Int} (h0 : 0 ≤ a) (h : a ≤ b) (h1 : b < 256) : (44 : UInt8) ∉ showR (a, b) := by
  unfold showR
  simp only
  split
  · rw [List.mem_append, List.mem_cons]
    rintro (h | h | h)
    · exact dec_no (c := 44) h0 (by omega) (by decide) h
    · exact absurd h (by decide)
    · exact dec_no (c := 44) (by omega) h1 (by decide) h
  · exact dec_no (c := 44) h0 (by omega) (by decide)
theorem showR_len {a b : Int} (h0 : 0 ≤ a) (h : a ≤ b) (h1 : b < 256) : (showR (a, b)).length ≤ 7 ∧ 0 < (showR (a, b)).length := by
  have k1 := dec_facts h0 (by omega : a < 256)
  have k2 := dec_facts (by omega : 0 ≤ b) h1
  unfold showR
  simp only
  split
  · simp only [List.length_append, List.length_cons]; omega
  · omega

/-! ### what the program reads -/
def atI (s : List UInt8) : Option Int := match Lib.atoiAll s with | .ok v => some v | _ => none
def firstOf (s : List UInt8) : List UInt8 := s.takeWhile (· != 45)
def lastOf (s : List UInt8) : List UInt8 := if s.contains 45 then (s.dropWhile (· != 45)).tail else firstOf s
def prun (s : List UInt8) : Option (List Int) :=
  match atI (firstOf s), atI (lastOf s) with
  | some a, some b => if a < 0 ∨ b < a ∨ 256 ≤ b then none else some (rng a b)
  | _, _ => none
def collect : List Int → List (List UInt8) → Option (List Int)
  | out, [] => some out
  | out, s :: r => match prun s with
    | none => none
    | some l => if 256 < out.length + l.length then none else collect (out ++ l) r
def splitc : List UInt8 → List (List UInt8)
  | [] => [[]]
  | c :: r => if c = 44 then [] :: splitc r else match splitc r with
    | h :: t => (c :: h) :: t
    | [] => [[c]]
def parseS (s : List UInt8) : List Int × Int :=
  if 8192 < s.length then ([], 4) else if s = [] then ([], 0) else
  match collect [] (splitc s) with
  | none => ([], 3)
  | some out => if showS out = s then (out, 0) else ([], 3)

theorem takeWhile_app {p : UInt8 → Bool} : ∀ (a b : List UInt8), (∀ c ∈ a, p c = true) → (a ++ b).takeWhile p = a ++ b.takeWhile p
  | [], _, _ => rfl
  | x :: a, b, h => by simp [h x (List.mem_cons_self ..), takeWhile_app a b fun c hc => h c (List.mem_cons_of_mem _ hc)]
theorem dropWhile_app {p : UInt8 → Bool} : ∀ (a b : List UInt8), (∀ c ∈ a, p c = true) → (a ++ b).dropWhile p = b.dropWhile p
  | [], _, _ => rfl
  | x :: a, b, h => by simp [h x (List.mem_cons_self ..), dropWhile_app a b fun c hc => h c (List.mem_cons_of_mem _ hc)]
theorem prun_show {a b : Int} (h0 : 0 ≤ a) (h : a ≤ b) (h1 : b < 256) : prun (showR (a, b)) = some (rng a b) := by
  have ka := dec_facts h0 (by omega : a < 256)
  have kb := dec_facts (by omega : 0 ≤ b) h1
  have na : ∀ c ∈ dec a, (c != 45) = true := fun c hc => by
    have := ka.1 c hc
    simp only [bne_iff_ne, ne_eq]
    rintro rfl
    exact absurd this.1 (by decide)
  have hfirst : firstOf (showR (a, b)) = dec a := by
    unfold firstOf showR
    simp only
    split
    · rw [takeWhile_app _ _ na]; simp
    · have := takeWhile_app (dec a) [] na; simpa using this
  have hlast : lastOf (showR (a, b)) = dec b := by
    unfold lastOf
    rw [hfirst]
    unfold showR
    simp only
    by_cases hab : a < b
    · rw [if_pos hab, if_pos (by simp), dropWhile_app _ _ na]
      simp
    · obtain rfl : a = b := by omega
      rw [if_neg hab, if_neg]
      intro hc
      exact dec_no (c := 45) h0 h1 (by decide) (by simpa using hc)
  unfold prun
  rw [hfirst, hlast]
  unfold atI
  rw [ka.2.1, kb.2.1]
  simp only
  rw [if_neg (by omega)]
theorem collect_show : ∀ (rs : List (Int × Int)) (out : List Int), (∀ r ∈ rs, 0 ≤ r.1 ∧ r.1 ≤ r.2 ∧ r.2 < 256) → (out ++ unruns rs).length ≤ 256 → collect out (rs.map showR) = some (out ++ unruns rs)
  | [], out, _, _ => by simp [collect, unruns]
  | (a, b) :: r, out, hr, hl => by
    obtain ⟨h0, h1, h2⟩ := hr (a, b) (List.mem_cons_self ..)
    simp only at h0 h1 h2
    simp only [unruns, List.flatMap_cons] at hl ⊢
    rw [← List.append_assoc] at hl ⊢
    simp only [List.map_cons, collect]
    rw [prun_show h0 h1 h2]
    simp only
    rw [if_neg (by simp only [List.length_append] at hl; omega)]
    exact collect_show r (out ++ rng a b) (fun x hx => hr x (List.mem_cons_of_mem _ hx)) hl
theorem splitc_no : ∀ (x : List UInt8), (44 : UInt8) ∉ x → splitc x = [x]
  | [], _ => rfl
  | c :: r, h => by
    simp only [splitc]
    rw [if_neg (fun e => h (by rw [e]; exact List.mem_cons_self ..)), splitc_no r fun hr => h (List.mem_cons_of_mem _ hr)]
theorem splitc_app : ∀ (x t : List UInt8), (44 : UInt8) ∉ x → splitc (x ++ 44 :: t) = x :: splitc t
  | [], t, _ => by simp [splitc]
  | c :: r, t, h => by
    simp only [List.cons_append, splitc]
    rw [if_neg (fun e => h (by rw [e]; exact List.mem_cons_self ..)), splitc_app r t fun hr => h (List.mem_cons_of_mem _ hr)]
theorem join_cons2 (x y : List UInt8) (t : List (List UInt8)) : Lib.join (x :: y :: t) [44] = x ++ 44 :: Lib.join (y :: t) [44] := by
  simp [Lib.join, List.intercalate, List.intersperse]
theorem join_one (x : List UInt8) : Lib.join [x] [44] = x := by simp [Lib.join, List.intercalate]
theorem join_nil : Lib.join [] [44] = [] := by simp [Lib.join, List.intercalate]
theorem splitc_join : ∀ (xs : List (List UInt8)), xs ≠ [] → (∀ x ∈ xs, (44 : UInt8) ∉ x) → splitc (Lib.join xs [44]) = xs
  | [], h, _ => absurd rfl h
  | [x], _, hx => by rw [join_one]; exact splitc_no x (hx x (List.mem_cons_self ..))
  | x :: y :: t, _, hx => by
    rw [join_cons2, splitc_app x _ (hx x (List.mem_cons_self ..)), splitc_join (y :: t) (by simp) fun z hz => hx z (List.mem_cons_of_mem _ hz)]
theorem join_len : ∀ (xs : List (List UInt8)), (∀ x ∈ xs, x.length ≤ 7) → (Lib.join xs [44]).length ≤ 8 * xs.length
  | [], _ => by rw [join_nil]; simp
  | [x], hx => by rw [join_one]; have := hx x (List.mem_cons_self ..); simp; omega
  | x :: y :: t, hx => by
    rw [join_cons2]
    have h1 := hx x (List.mem_cons_self ..)
    have h2 := join_len (y :: t) fun z hz => hx z (List.mem_cons_of_mem _ hz)
    simp only [List.length_append, List.length_cons] at h2 ⊢
    omega
theorem join_pos {xs : List (List UInt8)} (h : xs ≠ []) (hx : ∀ x ∈ xs, 0 < x.length) : Lib.join xs [44] ≠ [] := by
  intro e
  match xs, h with
  | [x], _ => rw [join_one] at e; have := hx x (List.mem_cons_self ..); rw [e] at this; simp at this
  | x :: y :: t, _ => rw [join_cons2] at e; simp at e
theorem sruns_len : ∀ l : List Int, (sruns l).length ≤ l.length
  | [] => Nat.le_refl _
  | x :: xs => by
    have ih := sruns_len xs
    simp only [sruns]
    split
    · simp
    · rename_i a b r e
      rw [e] at ih
      split <;> simp at ih ⊢ <;> omega
theorem showS_ok {l : List Int} (h : sok l = true) : showS l = showRs (sruns l) := by rw [showS, if_pos h]
theorem ch_each {rs : List (Int × Int)} (h : RCh (-2) rs) : ∀ r ∈ rs, 0 ≤ r.1 ∧ r.1 ≤ r.2 ∧ r.2 < 256 := fun r hr => by
  have := h.each r hr; omega
theorem sok_len256 {l : List Int} (h : sok l = true) : l.length ≤ 256 := by
  have h1 := sok_sorted h
  have : l = setl (inl l) := sok_ext h (sok_setl _) fun n => by
    rw [inl_setl]
    cases hn : inl l n with
    | false => simp
    | true => simp [inl_256 h hn]
  rw [this, setl, List.length_map]
  exact Nat.le_trans (List.length_filter_le _ _) (by simp)
theorem showS_len {l : List Int} (h : sok l = true) : (showS l).length ≤ 2048 := by
  rw [showS_ok h, showRs]
  have h1 := join_len ((sruns l).map showR) fun x hx => by
    obtain ⟨r, hr, rfl⟩ := List.mem_map.1 hx
    obtain ⟨k1, k2, k3⟩ := ch_each (sok_ch h) r hr
    exact (showR_len k1 k2 k3).1
  have := sruns_len l
  have := sok_len256 h
  rw [List.length_map] at h1
  omega
theorem showS_pos {l : List Int} (h : sok l = true) (hn : l ≠ []) : showS l ≠ [] := by
  rw [showS_ok h, showRs]
  refine join_pos (by simpa [sruns_nil_iff] using hn) fun x hx => ?_
  obtain ⟨r, hr, rfl⟩ := List.mem_map.1 hx
  obtain ⟨k1, k2, k3⟩ := ch_each (sok_ch h) r hr
  exact (showR_len k1 k2 k3).2
theorem showS_nil : showS [] = [] := by rw [showS_ok sok_nil]; exact join_nil
/-- A set is read from its text as1 it was. -/
theorem parse_show {l : List Int} (h : sok l = true) : parseS (showS l) = (l, 0) := by
  by_cases hn : l = []
  · subst hn; rw [showS_nil]; rfl
  have hl := showS_len h
  unfold parseS
  rw [if_neg (by omega), if_neg (showS_pos h hn)]
  have hsp : splitc (showS l) = (sruns l).map showR := by
    rw [showS_ok h, showRs]
    refine splitc_join _ (by simpa [sruns_nil_iff] using hn) fun x hx => ?_
    obtain ⟨r, hr, rfl⟩ := List.mem_map.1 hx
    obtain ⟨k1, k2, k3⟩ := ch_each (sok_ch h) r hr
    exact showR_no k1 k2 k3
  rw [hsp, collect_show _ _ (ch_each (sok_ch h)) (by rw [List.nil_append, unruns_sruns]; exact sok_len256 h)]
  simp [unruns_sruns]
/-- What is read is a set, and shows as1 the text was. -/
theorem parse_ok {s : List UInt8} {l : List Int} (h : parseS s = (l, 0)) : sok l = true ∧ showS l = s := by
  unfold parseS at h
  split at h
  · simp at h
  · split at h
    · rename_i h1 h2
      obtain rfl : [] = l := by simpa using h
      exact ⟨sok_nil, by rw [showS_nil, h2]⟩
    · rename_i h1 h2
      split at h
      · simp at h
      · rename_i out e
        split at h
        · rename_i h3
          obtain rfl : out = l := by simpa using h
          refine ⟨?_, h3⟩
          cases hs : sok out with
          | true => rfl
          | false =>
            rw [showS, if_neg (by rw [hs]; simp)] at h3
            exact absurd h3.symm h2
        · simp at h
theorem parse_err {s : List UInt8} : (parseS s).2 ≠ 0 → (parseS s).1 = [] := by
  unfold parseS
  split
  · simp
  · split
    · simp
    · split
      · simp
      · split <;> simp
end Go.Av

/-
  TEXTS OF SETS, plainly, the other way: number by number, and digit by digit.
-/
namespace Go.Av
set_option linter.unusedVariables false

def lastF (f : Nat → Bool) : Nat → Nat → Nat
  | 0, n => n
  | k + 1, n => if f (n + 1) then lastF f k (n + 1) else n
/-- Runs that begin at m or later, k numbers on; is the one ahead of m in it? -/
def rS (f : Nat → Bool) : Nat → Nat → Bool → List (Int × Int)
  | 0, _, _ => []
  | k + 1, m, p => if f m && !p then ((m : Int), ((lastF f k m : Nat) : Int)) :: rS f k (m + 1) (f m) else rS f k (m + 1) (f m)
def lS (f : Nat → Bool) (k m : Nat) : List Int := ((List.range' m k).filter f).map fun j : Nat => (j : Int)
theorem lS_succ (f : Nat → Bool) (k m : Nat) : lS f (k + 1) m = if f m then (m : Int) :: lS f k (m + 1) else lS f k (m + 1) := by
  unfold lS
  rw [List.range'_succ]
  by_cases h : f m = true <;> simp [h]
theorem lS_ge {f : Nat → Bool} {k m : Nat} {x : Int} (h : x ∈ lS f k m) : (m : Int) ≤ x := by
  unfold lS at h
  obtain ⟨j, hj, rfl⟩ := List.mem_map.1 h
  have := List.mem_range'_1.1 (List.mem_filter.1 hj).1
  omega
theorem sruns_first : ∀ {l : List Int} {a b : Int} {r : List (Int × Int)}, sruns l = (a, b) :: r → ∃ t, l = a :: t
  | [], _, _, _, h => by simp [sruns] at h
  | x :: xs, a, b, r, h => by
    simp only [sruns] at h
    split at h
    · simp only [List.cons.injEq, Prod.mk.injEq] at h; exact ⟨xs, by rw [h.1.1]⟩
    · split at h
      · simp only [List.cons.injEq, Prod.mk.injEq] at h; exact ⟨xs, by rw [h.1.1]⟩
      · simp only [List.cons.injEq, Prod.mk.injEq] at h; exact ⟨xs, by rw [h.1.1]⟩
theorem rS_eq (f : Nat → Bool) : ∀ k m, rS f k m false = sruns (lS f k m) ∧ rS f k m true = if 0 < k ∧ f m = true then (sruns (lS f k m)).tail else sruns (lS f k m)
  | 0, m => ⟨rfl, by simp [rS, lS, sruns]⟩
  | k + 1, m => by
    obtain ⟨iA, iB⟩ := rS_eq f k (m + 1)
    rw [lS_succ]
    by_cases hm : f m = true
    · simp only [rS, hm, Bool.not_false, Bool.and_self, Bool.not_true, Bool.and_false, if_true, Bool.false_eq_true, if_false, Nat.zero_lt_succ, true_and, List.tail]
      by_cases h1 : 0 < k ∧ f (m + 1) = true
      · rw [if_pos h1] at iB
        obtain ⟨k', rfl⟩ : ∃ k', k = k' + 1 := ⟨k - 1, by omega⟩
        have e : lS f (k' + 1) (m + 1) = ((m + 1 : Nat) : Int) :: lS f k' (m + 1 + 1) := by rw [lS_succ, if_pos h1.2]
        have e2 : ∃ r, sruns (lS f (k' + 1) (m + 1)) = (((m + 1 : Nat) : Int), ((lastF f k' (m + 1) : Nat) : Int)) :: r := by
          rw [← iA]; simp [rS, h1.2]
        obtain ⟨r, e2⟩ := e2
        rw [iB]
        simp only [sruns, e2, List.tail_cons]
        rw [if_pos (by omega)]
        exact ⟨by simp [lastF, h1.2], rfl⟩
      · rw [if_neg h1] at iB
        rw [iB]
        have hl : lastF f k m = m := by
          cases k with
          | zero => rfl
          | succ k => rw [lastF, if_neg (fun h => h1 ⟨by omega, h⟩)]
        rw [hl]
        cases hq : sruns (lS f k (m + 1)) with
        | nil => simp [sruns, hq]
        | cons p r =>
          obtain ⟨a, b⟩ := p
          simp only [sruns, hq]
          have : a ≠ (m : Int) + 1 := by
            rintro rfl
            obtain ⟨t, ht⟩ := sruns_first hq
            cases k with
            | zero => simp [lS] at ht
            | succ k =>
              rw [lS_succ, if_neg (fun h => h1 ⟨by omega, h⟩)] at ht
              have := lS_ge (f := f) (k := k) (m := m + 1 + 1) (x := (m : Int) + 1) (by rw [ht]; exact List.mem_cons_self ..)
              omega
          rw [if_neg this]
          exact ⟨rfl, rfl⟩
    · have hm : f m = false := by simpa using hm
      simp [rS, hm, iA]
theorem rS_set {l : List Int} (h : sok l = true) : rS (inl l) 256 0 false = sruns l := by
  rw [(rS_eq (inl l) 256 0).1]
  congr 1
  have : lS (inl l) 256 0 = setl (inl l) := by rw [lS, setl, List.range_eq_range']
  rw [this]
  refine sok_ext (sok_setl _) h fun n => ?_
  rw [inl_setl]
  cases hn : inl l n with
  | false => simp
  | true => simp [inl_256 h hn]
theorem showRs_snoc (rs : List (Int × Int)) (r : Int × Int) : showRs (rs ++ [r]) = if rs = [] then showR r else showRs rs ++ 44 :: showR r := by
  induction rs with
  | nil => simp [showRs, join_one]
  | cons x rs ih =>
    rw [if_neg (by simp)]
    cases rs with
    | nil => simp [showRs, join_cons2, join_one]
    | cons y rs =>
      rw [if_neg (by simp)] at ih
      simp only [showRs, List.cons_append, List.map_cons, join_cons2, List.append_assoc] at ih ⊢
      rw [ih]
theorem showRs_nil {rs : List (Int × Int)} (h : ∀ r ∈ rs, 0 ≤ r.1 ∧ r.1 ≤ r.2 ∧ r.2 < 256) : showRs rs = [] ↔ rs = [] := by
  constructor
  · intro e
    by_cases hn : rs = []
    · exact hn
    · exfalso
      refine join_pos (xs := rs.map showR) (by simpa using hn) (fun x hx => ?_) e
      obtain ⟨r, hr, rfl⟩ := List.mem_map.1 hx
      obtain ⟨k1, k2, k3⟩ := h r hr
      exact (showR_len k1 k2 k3).2
  · rintro rfl; exact join_nil
theorem lastF_le (f : Nat → Bool) : ∀ k n, n ≤ lastF f k n ∧ lastF f k n ≤ n + k
  | 0, n => by simp [lastF]
  | k + 1, n => by
    have := lastF_le f k (n + 1)
    simp only [lastF]
    split <;> omega

/-! ### digit by digit -/
def digs : Nat → Nat → List UInt8 → Nat × Nat
  | 0, n, _ => (n, 0)
  | _ + 1, n, [] => (n, 0)
  | k + 1, n, c :: r => if 48 ≤ c.toNat ∧ c.toNat ≤ 57 then ((digs k (n * 10 + (c.toNat - 48)) r).1, (digs k (n * 10 + (c.toNat - 48)) r).2 + 1) else (n, 0)
def numS (r : List UInt8) : Option (Nat × Nat) :=
  if (digs 4 0 r).2 = 0 ∨ 255 < (digs 4 0 r).1 ∨ r.head? = some 48 ∧ 1 < (digs 4 0 r).2 then none else some (digs 4 0 r)
theorem digs_le : ∀ k n r, (digs k n r).2 ≤ k ∧ (digs k n r).2 ≤ r.length
  | 0, n, r => by simp [digs]
  | k + 1, n, [] => by simp [digs]
  | k + 1, n, c :: r => by
    have := digs_le k (n * 10 + (c.toNat - 48)) r
    simp only [digs]
    split
    · simp only [List.length_cons]; omega
    · simp
theorem u8_back (c : UInt8) : UInt8.ofNat c.toNat = c := by simp
theorem head48 {c : UInt8} : (c = 48) ↔ c.toNat = 48 := by
  constructor
  · rintro rfl; rfl
  · intro h; rw [← u8_back c, h]; rfl
theorem numS_some {r : List UInt8} {v j : Nat} (h : numS r = some (v, j)) : v < 256 ∧ 0 < j ∧ j ≤ r.length ∧ r = dec v ++ r.drop j := by
  unfold numS at h
  split at h
  · cases h
  rename_i hc
  have hv := Option.some.inj h
  have hlen := digs_le 4 0 r
  rw [hv] at hc hlen
  simp only at hc hlen
  refine ⟨by omega, by omega, hlen.2, ?_⟩
  have hv256 : v < 256 := by omega
  have h48 : ¬ (r.head? = some 48 ∧ 1 < j) := fun k => hc (.inr (.inr k))
  rw [dec, Int.toNat_natCast, dec_3 (by omega)]
  match r, hv, h48, hc with
  | [], hv, _, hc => simp [digs] at hv; omega
  | [a], hv, _, hc =>
    simp only [digs] at hv
    split at hv
    · simp only [Prod.mk.injEq] at hv
      obtain ⟨rfl, rfl⟩ := hv
      unfold dec3
      rw [if_pos (by omega), show 48 + (0 * 10 + (a.toNat - 48)) = a.toNat by omega, u8_back]; rfl
    · simp at hv; omega
  | [a, b], hv, h48, hc =>
    simp only [digs] at hv
    split at hv
    · split at hv
      · simp only [Prod.mk.injEq] at hv
        obtain ⟨rfl, rfl⟩ := hv
        have : ¬ a = 48 := fun e => h48 (by simp [e])
        rw [head48] at this
        unfold dec3
        rw [if_neg (by omega), if_pos (by omega), show 48 + ((0 * 10 + (a.toNat - 48)) * 10 + (b.toNat - 48)) / 10 = a.toNat by omega, show 48 + ((0 * 10 + (a.toNat - 48)) * 10 + (b.toNat - 48)) % 10 = b.toNat by omega, u8_back, u8_back]; rfl
      · simp only [Prod.mk.injEq] at hv
        obtain ⟨rfl, rfl⟩ := hv
        unfold dec3
        rw [if_pos (by omega), show 48 + (0 * 10 + (a.toNat - 48)) = a.toNat by omega, u8_back]; rfl
    · simp at hv; omega
  | a :: b :: c :: t, hv, h48, hc =>
    simp only [digs] at hv
    split at hv
    · split at hv
      · have hne : 1 < j → ¬ a = 48 := fun hj e => h48 (by simp [e, hj])
        split at hv
        · have hj : 1 < j := by simp only [Prod.mk.injEq] at hv; omega
          have := hne hj
          rw [head48] at this
          have hd : (digs 1 (((0 * 10 + (a.toNat - 48)) * 10 + (b.toNat - 48)) * 10 + (c.toNat - 48)) t) = ((((0 * 10 + (a.toNat - 48)) * 10 + (b.toNat - 48)) * 10 + (c.toNat - 48)), 0) := by
            cases t with
            | nil => simp [digs]
            | cons d t =>
              simp only [digs] at hv ⊢
              split at hv
              · simp only [Prod.mk.injEq] at hv; omega
              · rename_i hd; rw [if_neg hd]
          rw [hd] at hv
          simp only [Prod.mk.injEq] at hv
          obtain ⟨rfl, rfl⟩ := hv
          unfold dec3
          rw [if_neg (by omega), if_neg (by omega), show 48 + (((0 * 10 + (a.toNat - 48)) * 10 + (b.toNat - 48)) * 10 + (c.toNat - 48)) / 100 = a.toNat by omega, show 48 + (((0 * 10 + (a.toNat - 48)) * 10 + (b.toNat - 48)) * 10 + (c.toNat - 48)) / 10 % 10 = b.toNat by omega, show 48 + (((0 * 10 + (a.toNat - 48)) * 10 + (b.toNat - 48)) * 10 + (c.toNat - 48)) % 10 = c.toNat by omega, u8_back, u8_back, u8_back]; rfl
        · simp only [Prod.mk.injEq] at hv
          obtain ⟨rfl, rfl⟩ := hv
          have := hne (by omega)
          rw [head48] at this
          unfold dec3
          rw [if_neg (by omega), if_pos (by omega), show 48 + ((0 * 10 + (a.toNat - 48)) * 10 + (b.toNat - 48)) / 10 = a.toNat by omega, show 48 + ((0 * 10 + (a.toNat - 48)) * 10 + (b.toNat - 48)) % 10 = b.toNat by omega, u8_back, u8_back]; rfl
      · simp only [Prod.mk.injEq] at hv
        obtain ⟨rfl, rfl⟩ := hv
        unfold dec3
        rw [if_pos (by omega), show 48 + (0 * 10 + (a.toNat - 48)) = a.toNat by omega, u8_back]; rfl
    · simp at hv; omega
/-- Digits of a number, and no digit behind. -/
theorem numS_dec {v : Nat} (hv : v < 256) {t : List UInt8} (ht : ∀ c r, t = c :: r → ¬ (48 ≤ c.toNat ∧ c.toNat ≤ 57)) : numS (dec v ++ t) = some (v, (dec v).length) := by
  have hlast : ∀ k n, digs k n t = (n, 0) := by
    intro k n
    cases k with
    | zero => simp [digs]
    | succ k =>
      cases t with
      | nil => simp [digs]
      | cons c r => simp only [digs]; rw [if_neg (ht c r rfl)]
  have hof : ∀ m : Nat, m < 10 → (UInt8.ofNat (48 + m)).toNat = 48 + m := fun m hm => by
    rw [UInt8.toNat_ofNat']; omega
  rw [dec, Int.toNat_natCast, dec_3 (by omega)]
  unfold dec3
  split
  · rename_i h
    have h1 := hof v h
    have hd : digs 4 0 ([UInt8.ofNat (48 + v)] ++ t) = (v, 1) := by
      simp only [List.cons_append, List.nil_append, digs, h1, hlast]
      rw [if_pos (by omega)]; simp
    unfold numS
    rw [hd, if_neg (by simp only; omega)]; rfl
  · split
    · rename_i h h2
      have h1 := hof (v / 10) (by omega)
      have h3 := hof (v % 10) (by omega)
      have hd : digs 4 0 ([UInt8.ofNat (48 + v / 10), UInt8.ofNat (48 + v % 10)] ++ t) = (v, 2) := by
        simp only [List.cons_append, List.nil_append, digs, h1, h3, hlast]
        rw [if_pos (by omega), if_pos (by omega)]
        simp only [Prod.mk.injEq, and_true]; omega
      unfold numS
      rw [hd, if_neg]
      · rfl
      · simp only [List.cons_append, List.head?_cons, Option.some.injEq]
        rw [head48, h1]; omega
    · rename_i h h2
      have h1 := hof (v / 100) (by omega)
      have h3 := hof (v / 10 % 10) (by omega)
      have h4 := hof (v % 10) (by omega)
      have hd : digs 4 0 ([UInt8.ofNat (48 + v / 100), UInt8.ofNat (48 + v / 10 % 10), UInt8.ofNat (48 + v % 10)] ++ t) = (v, 3) := by
        simp only [List.cons_append, List.nil_append, digs, h1, h3, h4, hlast]
        rw [if_pos (by omega), if_pos (by omega), if_pos (by omega)]
        simp only [Prod.mk.injEq, and_true]; omega
      unfold numS
      rw [hd, if_neg]
      · rfl
      · simp only [List.cons_append, List.head?_cons, Option.some.injEq]
        rw [head48, h1]; omega
def rpEnd (K : Int → List UInt8 → Option (List (Int × Int))) (a b : Int) : List UInt8 → Option (List (Int × Int))
  | [] => some [(a, b)]
  | c :: r => if c = 44 then (K b r).map ((a, b) :: ·) else none
def rp : Nat → Int → List UInt8 → Option (List (Int × Int))
  | 0, _, _ => none
  | k + 1, last, r => match numS r with
    | none => none
    | some (a, j) => if (a : Int) ≤ last + 1 then none else
      match r.drop j with
      | [] => rpEnd (rp k) a a []
      | c :: r2 => if c = 45 then (match numS r2 with
          | none => none
          | some (b, j2) => if (b : Int) ≤ a then none else rpEnd (rp k) a b (r2.drop j2))
        else rpEnd (rp k) a a (c :: r2)
theorem rpEnd_some {K : Int → List UInt8 → Option (List (Int × Int))} {a b : Int} {r : List UInt8} {rs : List (Int × Int)} (hK : ∀ t rs', K b t = some rs' → RCh b rs' ∧ rs' ≠ [] ∧ t = showRs rs') (h : rpEnd K a b r = some rs) :
    (r = [] ∧ rs = [(a, b)]) ∨ ∃ rs', rs' ≠ [] ∧ RCh b rs' ∧ r = 44 :: showRs rs' ∧ rs = (a, b) :: rs' := by
  cases r with
  | nil => simp only [rpEnd, Option.some.injEq] at h; exact .inl ⟨rfl, h.symm⟩
  | cons c r =>
    simp only [rpEnd] at h
    split at h
    · rename_i e
      cases hk : K b r with
      | none => rw [hk] at h; simp at h
      | some rs' =>
        rw [hk] at h
        simp only [Option.map_some, Option.some.injEq] at h
        obtain ⟨h1, h2, h3⟩ := hK r rs' hk
        exact .inr ⟨rs', h2, h1, by rw [e, h3], h.symm⟩
    · cases h
theorem showRs_cons {r : Int × Int} {rs : List (Int × Int)} (h : rs ≠ []) : showRs (r :: rs) = showR r ++ 44 :: showRs rs := by
  cases rs with
  | nil => exact absurd rfl h
  | cons x rs => simp [showRs, join_cons2]
theorem showRs_one (r : Int × Int) : showRs [r] = showR r := by simp [showRs, join_one]
theorem rp_some : ∀ (k : Nat) (last : Int) (r : List UInt8) (rs : List (Int × Int)), rp k last r = some rs → RCh last rs ∧ rs ≠ [] ∧ r = showRs rs
  | 0, _, _, _, h => by simp [rp] at h
  | k + 1, last, r, rs, h => by
    have ih : ∀ b t rs', rp k b t = some rs' → RCh b rs' ∧ rs' ≠ [] ∧ t = showRs rs' := fun b t rs' => rp_some k b t rs'
    simp only [rp] at h
    split at h
    · cases h
    rename_i a j hn
    obtain ⟨n1, n2, n3, n4⟩ := numS_some hn
    split at h
    · cases h
    rename_i hla
    have fin : ∀ (b : Int) (t : List UInt8), (a : Int) ≤ b → b < 256 → rpEnd (rp k) a b t = some rs → r = showR ((a : Int), b) ++ t → RCh last rs ∧ rs ≠ [] ∧ r = showRs rs := by
      intro b t hab hb he hr
      rcases rpEnd_some (ih b) he with ⟨rfl, rfl⟩ | ⟨rs', e1, e2, rfl, rfl⟩
      · exact ⟨⟨by omega, hab, hb, trivial⟩, by simp, by rw [hr, showRs_one]; simp⟩
      · exact ⟨⟨by omega, hab, hb, e2⟩, by simp, by rw [hr, showRs_cons e1]⟩
    split at h
    · rename_i hd
      refine fin a [] (by omega) (by omega) h ?_
      rw [n4, hd, showR, if_neg (by simp)]
    · rename_i c r2 hd
      split at h
      · rename_i hc45
        split at h
        · cases h
        rename_i b j2 hn2
        obtain ⟨m1, m2, m3, m4⟩ := numS_some hn2
        split at h
        · cases h
        rename_i hba
        refine fin b _ (by omega) (by omega) h ?_
        rw [n4, hd, hc45, showR, if_pos (by simp only; omega)]
        simp only [List.append_assoc, List.cons_append]
        rw [← m4]
      · refine fin a _ (by omega) (by omega) h ?_
        rw [n4, hd, showR, if_neg (by simp)]
theorem rp_show : ∀ (rs : List (Int × Int)) (k : Nat) (last : Int), rs ≠ [] → RCh last rs → -2 ≤ last → (showRs rs).length < k → rp k last (showRs rs) = some rs
  | [], _, _, h, _, _, _ => absurd rfl h
  | (a, b) :: rs, 0, _, _, _, _, hk => by omega
  | (a, b) :: rs, k + 1, last, _, ⟨h1, h2, h3, h4⟩, hl, hk => by
    have ha0 : 0 ≤ a := by omega
    obtain ⟨an, rfl⟩ : ∃ n : Nat, a = n := ⟨a.toNat, by omega⟩
    obtain ⟨bn, rfl⟩ : ∃ n : Nat, b = n := ⟨b.toNat, by omega⟩
    have hend : ∀ t, (t = [] ∧ rs = []) ∨ (rs ≠ [] ∧ t = 44 :: showRs rs ∧ (showRs rs).length < k) → rpEnd (rp k) (an : Int) (bn : Int) t = some (((an : Int), (bn : Int)) :: rs) := by
      rintro t (⟨rfl, rfl⟩ | ⟨e1, rfl, e3⟩)
      · rfl
      · simp only [rpEnd, if_true]
        rw [rp_show rs k bn e1 h4 (by omega) e3]; rfl
    obtain ⟨t, ht, htl⟩ : ∃ t, showRs (((an : Int), (bn : Int)) :: rs) = showR ((an : Int), (bn : Int)) ++ t ∧ ((t = [] ∧ rs = []) ∨ (rs ≠ [] ∧ t = 44 :: showRs rs ∧ (showRs rs).length < k)) := by
      by_cases e : rs = []
      · subst e; exact ⟨[], by rw [showRs_one]; simp, .inl ⟨rfl, rfl⟩⟩
      · rw [showRs_cons e] at hk
        exact ⟨_, showRs_cons e, .inr ⟨e, rfl, by simp only [List.length_append, List.length_cons] at hk; omega⟩⟩
    have htd : ∀ c r, t = c :: r → ¬ (48 ≤ c.toNat ∧ c.toNat ≤ 57) ∧ c ≠ 45 := by
      rintro c r rfl
      rcases htl with ⟨e, _⟩ | ⟨_, e, _⟩
      · cases e
      · injection e with e _
        subst e
        decide
    rw [ht]
    simp only [rp]
    by_cases hab : (an : Int) < bn
    · have e1 : showR ((an : Int), (bn : Int)) ++ t = dec (an : Int) ++ 45 :: (dec (bn : Int) ++ t) := by rw [showR, if_pos hab]; simp
      rw [e1, numS_dec (by omega) (by rintro c r e; injection e with e _; subst e; decide)]
      simp only
      rw [if_neg (by omega), List.drop_left]
      simp only [if_true]
      rw [numS_dec (by omega) (fun c r e => (htd c r e).1)]
      simp only
      rw [if_neg (by omega), List.drop_left]
      exact hend t htl
    · obtain rfl : an = bn := by omega
      have e1 : showR ((an : Int), (an : Int)) ++ t = dec (an : Int) ++ t := by rw [showR, if_neg hab]
      rw [e1, numS_dec (by omega) (fun c r e => (htd c r e).1)]
      simp only
      rw [if_neg (by omega), List.drop_left]
      cases t with
      | nil => exact hend [] htl
      | cons c r =>
        simp only
        rw [if_neg (htd c r rfl).2]
        exact hend _ htl
/-- The document's reading, digit by digit, is the program's. -/
def parseD (s : List UInt8) : List Int × Int :=
  if 8192 < s.length then ([], 4) else if s = [] then ([], 0) else
  match rp (s.length + 1) (-2) s with
  | none => ([], 3)
  | some rs => (unruns rs, 0)
theorem parse_two (s : List UInt8) : (parseS s).2 = 0 ∨ (parseS s).2 = 3 ∨ (parseS s).2 = 4 := by
  unfold parseS
  split
  · simp
  · split
    · simp
    · split
      · simp
      · split <;> simp
theorem parseD_eq (s : List UInt8) : parseD s = parseS s := by
  unfold parseD
  split
  · rename_i h; rw [parseS, if_pos h]
  · rename_i hl
    split
    · rename_i h; rw [parseS, if_neg hl, if_pos h]
    · rename_i hn
      split
      · rename_i hr
        have h4 : (parseS s).2 ≠ 4 := by
          unfold parseS
          rw [if_neg hl, if_neg hn]
          split
          · simp
          · split <;> simp
        rcases parse_two s with h | h | h
        · obtain ⟨h1, h2⟩ := parse_ok (s := s) (l := (parseS s).1) (by rw [← h])
          exfalso
          have hne : (parseS s).1 ≠ [] := by
            intro e; rw [e, showS_nil] at h2; exact hn h2.symm
          rw [showS_ok h1] at h2
          have := rp_show (sruns (parseS s).1) (s.length + 1) (-2) (by simpa [sruns_nil_iff] using hne) (sok_ch h1) (by omega) (by rw [h2]; omega)
          rw [h2, hr] at this
          cases this
        · have := parse_err (s := s) (by omega)
          rw [← this, ← h]
        · exact absurd h h4
      · rename_i rs hr
        obtain ⟨h1, h2, h3⟩ := rp_some _ _ _ _ hr
        have hs := sok_unruns h1
        have : showS (unruns rs) = s := by rw [showS_ok hs, sruns_unruns rs (-2) h1, ← h3]
        rw [← parse_show hs, this]
end Go.Av

/-
  BYTES OF TEXTS: pieces, places, counts.
-/
namespace Go.Av
abbrev bs (l : List UInt8) : ByteArray := ⟨l.toArray⟩
theorem bs_back (s : ByteArray) : bs s.data.toList = s := by cases s; simp
theorem bs_size (l : List UInt8) : (bs l).size = l.length := by simp [ByteArray.size]
theorem bs_inj {a b : List UInt8} : bs a = bs b ↔ a = b := by simp
theorem bs_app (a b : List UInt8) : bs a ++ bs b = bs (a ++ b) := by
  apply ByteArray.ext; simp
theorem bs_cut (l : List UInt8) (a b : Nat) : (bs l).extract a b = bs ((l.take b).drop a) := by
  apply ByteArray.ext
  simp only [ByteArray.data_extract]
  apply Array.ext'
  simp [Array.toList_extract, List.extract_eq_take_drop, List.drop_take]
theorem bs_get (l : List UInt8) (i : Nat) : (bs l)[i]? = l[i]? := by
  cases h : l[i]? with
  | none =>
    rw [List.getElem?_eq_none_iff] at h
    exact getElem?_neg (bs l) i (by rw [bs_size]; omega)
  | some v =>
    obtain ⟨hi, e⟩ := List.getElem?_eq_some_iff.1 h
    rw [getElem?_pos (bs l) i (by rw [bs_size]; exact hi)]
    rw [← e]; rfl
theorem bs_data (l : List UInt8) : (bs l).data.toList = l := by simp
theorem index_no {c : UInt8} : ∀ {l : List UInt8}, c ∉ l → Lib.indexByte l c = -1
  | [], _ => rfl
  | b :: l, h => by
    unfold Lib.indexByte
    rw [if_neg (by simp only [beq_iff_eq]; rintro rfl; exact h (List.mem_cons_self ..)), index_no fun k => h (List.mem_cons_of_mem _ k)]
    rfl
theorem index_at {c : UInt8} : ∀ {l : List UInt8}, c ∈ l → Lib.indexByte l c = ((l.takeWhile (· != c)).length : Int)
  | [], h => by simp at h
  | b :: l, h => by
    unfold Lib.indexByte
    by_cases e : b = c
    · subst e; simp
    · have hl : c ∈ l := by
        rcases List.mem_cons.1 h with h | h
        · exact absurd h.symm e
        · exact h
      rw [if_neg (by simpa using e), index_at hl, if_neg (by simp only [beq_iff_eq]; omega)]
      simp [e]
theorem take_at {c : UInt8} : ∀ {l : List UInt8}, l.take (l.takeWhile (· != c)).length = l.takeWhile (· != c)
  | [] => rfl
  | b :: l => by
    by_cases e : b = c
    · subst e; simp
    · simp [e, take_at (c := c) (l := l)]
theorem drop_at {c : UInt8} : ∀ {l : List UInt8}, l.drop (l.takeWhile (· != c)).length = l.dropWhile (· != c)
  | [] => rfl
  | b :: l => by
    by_cases e : b = c
    · subst e; simp
    · simp [e, drop_at (c := c) (l := l)]
theorem takeWhile_no {c : UInt8} : ∀ {l : List UInt8}, c ∉ l → l.takeWhile (· != c) = l
  | [], _ => rfl
  | b :: l, h => by
    have e : b ≠ c := fun e => h (by rw [e]; exact List.mem_cons_self ..)
    simp [e, takeWhile_no (c := c) (l := l) fun k => h (List.mem_cons_of_mem _ k)]
theorem at_lt {c : UInt8} : ∀ {l : List UInt8}, c ∈ l → (l.takeWhile (· != c)).length < l.length
  | [], h => by simp at h
  | b :: l, h => by
    by_cases e : b = c
    · subst e; simp
    · have hl : c ∈ l := by
        rcases List.mem_cons.1 h with h | h
        · exact absurd h.symm e
        · exact h
      simp [e, at_lt hl]
theorem splitc_hit : ∀ {l : List UInt8}, (44 : UInt8) ∈ l → splitc l = l.takeWhile (· != 44) :: splitc (l.dropWhile (· != 44)).tail
  | [], h => by simp at h
  | b :: l, h => by
    by_cases e : b = 44
    · subst e; simp [splitc]
    · have hl : (44 : UInt8) ∈ l := by
        rcases List.mem_cons.1 h with h | h
        · exact absurd h.symm e
        · exact h
      simp only [splitc]
      rw [if_neg e, splitc_hit hl]
      simp [e]
theorem count_hit : ∀ {l : List UInt8}, (44 : UInt8) ∈ l → Lib.countByte l 44 = Lib.countByte (l.dropWhile (· != 44)).tail 44 + 1
  | [], h => by simp at h
  | b :: l, h => by
    by_cases e : b = 44
    · subst e; simp [Lib.countByte]
    · have hl : (44 : UInt8) ∈ l := by
        rcases List.mem_cons.1 h with h | h
        · exact absurd h.symm e
        · exact h
      have := count_hit hl
      simp only [Lib.countByte] at this ⊢
      rw [List.count_cons_of_ne (by simpa using e), this]
      simp [e]
theorem count_no {l : List UInt8} (h : (44 : UInt8) ∉ l) : Lib.countByte l 44 = 0 := by
  simp only [Lib.countByte]; exact List.count_eq_zero.2 h
theorem count_le (l : List UInt8) : Lib.countByte l 44 ≤ l.length := List.count_le_length
theorem count_mem {l : List UInt8} : 0 < Lib.countByte l 44 ↔ (44 : UInt8) ∈ l := by
  simp only [Lib.countByte]; exact List.count_pos_iff
theorem drop_tail {c : UInt8} {l : List UInt8} : l.drop ((l.takeWhile (· != c)).length + 1) = (l.dropWhile (· != c)).tail := by
  rw [← List.drop_drop, drop_at, List.drop_one]
theorem dropWhile_len {c : UInt8} (l : List UInt8) : (l.dropWhile (· != c)).tail.length ≤ l.length := by
  rw [← drop_tail, List.length_drop]; omega
end Go.Av

/-
  TWO STRUCTS OF PLAIN CELLS ARE COMPARED.
-/
namespace Go.Av
def flatv : AV → Option Value
  | .int k n => some (.int k n)
  | .bool b => some (.bool b)
  | .str s => some (.string s)
  | _ => none
theorem VR.flat_eq {O : Nat → Prop} {w : World} {S : List Slot} {v : AV} {u u' : Value} (h : VR O w S v u) (hf : flatv v = some u') : u = u' := by
  cases h <;> simp [flatv] at hf <;> exact hf
theorem VR.agg_flat {O : Nat → Prop} {w : World} {S : List Slot} {cs : List AV} {us : List Value} {u : Value} (h : VR O w S (.agg cs) u) (hf : cs.map flatv = us.map some) : u = .agg us.toArray := by
  cases h with
  | @agg _ _ vs hn hl h =>
    congr 1
    have hlen : cs.length = us.length := by simpa using congrArg List.length hf
    apply Array.ext
    · simp; omega
    · intro j h1 h2
      have hj : j < cs.length := by omega
      have hju : j < us.length := by omega
      have e : flatv cs[j] = some us[j] := by
        have := congrArg (·[j]?) hf
        simpa [hj, hju] using this
      have := (h j cs[j] vs[j] (List.getElem?_eq_getElem hj) (Array.getElem?_eq_getElem h1)).flat_eq e
      simpa using this
section
variable {P : Program} {N : Nat} {env : Env} {H : Heap} {ty : TypeId}
theorem o_eqAgg {t t' : TypeId} {x y : Operand} {cs ds : List AV} {us vs : List Value} {b : Bool} (hx : aev env x = .agg cs) (hy : aev env y = .agg ds) (hu : cs.map flatv = us.map some) (hv : ds.map flatv = vs.map some)
    (hm : P.eqGuardType P.depth t = false) (hb : ∀ w, (Op.equalIn 10000 t (.agg us.toArray) (.agg vs.toArray)).run P w = .ok b w) : V1 P N (.binOp .eql t x y t') ty env H (.bool b) := by
  intro S a w hc
  have h1 := hc.ev x
  have h2 := hc.ev y
  rw [hx] at h1
  rw [hy] at h2
  have e1 := h1.agg_flat hu
  have e2 := h2.agg_flat hv
  refine ⟨.bool b, fun _ _ _ _ => ?_, .bool⟩
  simp only [execOp, e1, e2, Sem.run_bind, run_eqGuard_agg w .eql t x y _ _ hm, Result.andThen_ok, run_eql_struct, hb w, Sem.run_pure]
theorem o_neAgg {t t' : TypeId} {x y : Operand} {cs ds : List AV} {us vs : List Value} {b : Bool} (hx : aev env x = .agg cs) (hy : aev env y = .agg ds) (hu : cs.map flatv = us.map some) (hv : ds.map flatv = vs.map some)
    (hm : P.eqGuardType P.depth t = false) (hb : ∀ w, (Op.equalIn 10000 t (.agg us.toArray) (.agg vs.toArray)).run P w = .ok b w) : V1 P N (.binOp .neq t x y t') ty env H (.bool (!b)) := by
  intro S a w hc
  have h1 := hc.ev x
  have h2 := hc.ev y
  rw [hx] at h1
  rw [hy] at h2
  have e1 := h1.agg_flat hu
  have e2 := h2.agg_flat hv
  refine ⟨.bool (!b), fun _ _ _ _ => ?_, .bool⟩
  simp only [execOp, e1, e2, Sem.run_bind, run_eqGuard_agg w .neq t x y _ _ hm, Result.andThen_ok, run_neq_struct, hb w, Sem.run_pure]
end
end Go.Av

/-
  AN INTERFACE's VALUE IS HELD AGAINST nil.
-/
namespace Go.Av
def isIface (P : Program) (t : TypeId) : Bool := match P.underlying t with
  | some (.interface _) => true
  | _ => false
section
variable {P : Program} {N : Nat} {env : Env} {H : Heap} {ty : TypeId}
theorem isIface_ud {t : TypeId} (h : isIface P t = true) : ∃ ms, P.underlying t = some (.interface ms) := by
  unfold isIface at h
  split at h
  · exact ⟨_, by assumption⟩
  · cases h
theorem run_equalIn_ifc {t t2 : TypeId} {v : Value} {ms : _} (hu : P.underlying t = some (.interface ms)) (d : Nat) (w : World) : (Op.equalIn (d + 1) t (.iface t2 v) .nilIface).run P w = .ok false w := by
  simp [Op.equalIn, run_und hu]
theorem run_equalIn_nifc {t : TypeId} {ms : _} (hu : P.underlying t = some (.interface ms)) (d : Nat) (w : World) : (Op.equalIn (d + 1) t .nilIface .nilIface).run P w = .ok true w := by
  simp [Op.equalIn, run_und hu]
theorem run_neq_ifc {t t2 : TypeId} {v : Value} {ms : _} (hu : P.underlying t = some (.interface ms)) (w : World) : (binOp .neq t (.iface t2 v) .nilIface).run P w = .ok (.bool true) w := by
  have := run_equalIn_ifc (t2 := t2) (v := v) hu 9999 w
  simp only [binOp]
  simp [Op.equal, Op.maxDepth, this]
theorem run_neq_nifc {t : TypeId} {ms : _} (hu : P.underlying t = some (.interface ms)) (w : World) : (binOp .neq t .nilIface .nilIface).run P w = .ok (.bool false) w := by
  have := run_equalIn_nifc hu 9999 w
  simp only [binOp]
  simp [Op.equal, Op.maxDepth, this]
theorem o_neIfc {t t' t2 : TypeId} {x y : Operand} {v : AV} (ht : isIface P t = true) (hx : aev env x = .ifc t2 v) (hy : y = .const .nilIface) : V1 P N (.binOp .neq t x y t') ty env H (.bool true) := by
  subst hy
  intro S a w hc
  obtain ⟨ms, hu⟩ := isIface_ud ht
  have h1 := hc.ev x
  rw [hx] at h1
  generalize he : a.eval x = u at h1
  cases h1
  refine ⟨.bool true, fun _ _ _ _ => ?_, .bool⟩
  have h2 : a.eval (.const .nilIface) = .nilIface := rfl
  simp only [execOp, he, h2, eqGuard]
  simp [run_neq_ifc hu]
theorem o_neNifc {t t' : TypeId} {x y : Operand} (ht : isIface P t = true) (hx : aev env x = .nifc) (hy : y = .const .nilIface) : V1 P N (.binOp .neq t x y t') ty env H (.bool false) := by
  subst hy
  intro S a w hc
  obtain ⟨ms, hu⟩ := isIface_ud ht
  have h1 := hc.ev x
  rw [hx] at h1
  generalize he : a.eval x = u at h1
  cases h1
  refine ⟨.bool false, fun _ _ _ _ => ?_, .bool⟩
  have h2 : a.eval (.const .nilIface) = .nilIface := rfl
  simp only [execOp, he, h2, eqGuard]
  simp [run_neq_nifc hu]
end
end Go.Av

/-
  A PACKAGE's TABLE THAT NOBODY WRITES: what it holds is known of every world that the call comes to ('know', kept in the environment under a number that no slot has).
-/
namespace Go.Av
structure Know where
  g : Nat
  tab : List Value
def Kn (K : Know) (S : List Slot) (w : World) : Prop := ¬ own S K.g ∧ K.g < w.heap.size ∧ (∀ j v, K.tab[j]? = some v → w.cell? ⟨K.g, j, none⟩ = some v) ∧ ∃ ty fz, w.heap[K.g]? = some (Obj.cells K.tab.toArray ty fz)
abbrev Know.av (K : Know) : AV := .know K.g K.tab
theorem VR.kn {S : List Slot} {w : World} {K : Know} {u : Value} (h : VR (own S) w S K.av u) : Kn K S w := by
  cases h with
  | know ho hg h hx => exact ⟨ho, hg, h, hx⟩
theorem Kn.vr {S : List Slot} {w : World} {K : Know} {u : Value} (h : Kn K S w) : VR (own S) w S K.av u := .know h.1 h.2.1 h.2.2.1 h.2.2.2

/-- A contract in a world whose table is known. -/
def ACT (P : Program) (K : Know) (f : FuncId) (args : List AV) (H : Heap) (R : AOut → Heap → Prop) : Prop :=
  ∀ S w cargs, Kn K S w → HRel H S w → VRs (own S) w S args cargs →
    Calls P f cargs w fun e w' => ∃ o H' S', R o H' ∧ OutR (own S') w' S' o e ∧ HRel H' S' w' ∧ Ext S w S' w'
theorem AC.toT {P : Program} {K : Know} {f : FuncId} {args : List AV} {H : Heap} {R : AOut → Heap → Prop} (h : AC P f args H R) : ACT P K f args H R := fun S w cargs _ => h S w cargs

section
variable {P : Program} {N : Nat} {B : Base} {env : Env} {H H0 L : Heap} {ty : TypeId}
theorem V2.callT {K : Know} {f : Nat} {xs : Array Operand} {ts : Array TypeId} {v : AV} {vs : List AV} {M : Heap} [FnI P f] (hac : ACT P K f vs H (Ret v M)) (hvs : xs.toList.map (aev env) = vs) (hk : get env KT = K.av) :
    V2 P N (.call { callee := .value (.func f), args := xs, argTypes := ts }) ty env H v M := by
  subst hvs
  intro dst pos after guard S a w hc next Q hn hp
  have hkn := hc.env KT
  rw [hk] at hkn
  have hrun : (execOp a.eval ⟨dst, .call { callee := .value (.func f), args := xs, argTypes := ts }, ty, pos, after, guard⟩).run P w = .ok (.enter f (xs.map a.eval)) w := by
    simp [execOp, resolve, Act.eval, Deferred.ofValue, invoke, run_callFunc (P := P) (f := f)]
  unfold Oper.wp
  rw [hrun]
  refine (hac S w (xs.map a.eval) hkn.kn hc.heap (evs_ok hc xs)).mono ?_
  rintro e w' ⟨out, H', S', ⟨rfl, rfl⟩, hout, hh, hx⟩
  cases hout with
  | ret hv => exact hn _ _ _ S' w' ⟨rfl, rfl⟩ hh hx hv
theorem ACT.up {K : Know} {f : FuncId} {vs us : List AV} {R : AOut → Heap → Prop} (h : ACT P K f us H R) (hvs : vs.map AV.up = us) : ACT P K f vs H R := fun S w cargs hk hH hv => h S w cargs hk hH (hvs ▸ hv.up)
theorem V2.callTu {K : Know} {f : Nat} {xs : Array Operand} {ts : Array TypeId} {v : AV} {us : List AV} {M : Heap} [FnI P f] (hac : ACT P K f us H (Ret v M)) (hvs : (xs.toList.map (aev env)).map AV.up = us) (hk : get env KT = K.av) :
    V2 P N (.call { callee := .value (.func f), args := xs, argTypes := ts }) ty env H v M := V2.callT (hac.up hvs) rfl hk
theorem ACT.body {K : Know} {f : FuncId} {N : Nat} {fn : Func} {c : Code} {args : List AV} {R : AOut → Heap → Prop} (rs : List ResultVar) (hf : P.funcs[f]? = some fn) (hb : fn.body = some c) (hr : fn.results = rs.toArray)
    (hN : fn.ntmps = N) (hn : args.length ≤ N) (h : ∀ B, Begun B H args → AWp P N B c (Ends P B rs R) ((KT, K.av) :: params 0 args) (H ++ [])) : ACT P K f args H R := by
  subst hN
  simp only [List.append_nil] at h
  intro S w cargs hkn hH hv
  refine calls_of_wp hf hb ?_
  have hc : CR fn.ntmps ((KT, K.av) :: params 0 args) H S { tmps := cargs ++ Array.replicate (fn.ntmps - cargs.size) undef, defers := [] } w := by
    refine ⟨hH, fun t => ?_, ?_, rfl⟩
    · by_cases hKT : KT = t
      · subst hKT; rw [get_put_same]; exact hkn.vr
      rw [get_put_other _ _ hKT, get_params, if_pos (Nat.zero_le _), Nat.sub_zero]
      by_cases ht : t < args.length
      · have h1 : args.getD t .junk = args[t] := by simp [List.getD, ht]
        have ht' : t < cargs.size := by rw [← hv.1]; exact ht
        have h2 : (cargs ++ Array.replicate (fn.ntmps - cargs.size) undef).getD t undef = cargs[t] := by
          simp [Array.getElem?_append_left ht', ht']
        rw [h1, h2]
        exact hv.2 t _ _ (List.getElem?_eq_getElem ht) (Array.getElem?_eq_getElem ht')
      · have h1 : args.getD t .junk = .junk := by simp [List.getD, List.getElem?_eq_none (Nat.le_of_not_lt ht)]
        rw [h1]; exact .junk
    · have := hv.1
      simp
      omega
  have hbg : Begun ⟨S, w⟩ H args := by
    refine ⟨hH.len.symm, hH.bel, ?_⟩
    rw [AV.bels_iff]
    intro v hv'
    obtain ⟨j, hj⟩ := List.mem_iff_getElem?.1 hv'
    rw [hH.len]
    exact (hv.2 j v _ hj (Array.getElem?_eq_getElem (by rw [← hv.1]; exact (List.getElem?_eq_some_iff.1 hj).1))).bel
  refine wp_mono (h ⟨S, w⟩ hbg S _ w hc (Ext.refl S w)) ?_
  intro e a' w' ⟨x, env', H', S', q, r, c, k⟩
  cases r with
  | nrm =>
    obtain ⟨vs, M, h1, h2, h3⟩ := q
    obtain ⟨u, k1, k2⟩ := results_ok c hr h1
    obtain ⟨S2, m1, m2, m3⟩ := h2.ok c.heap k2 k
    exact ⟨c.defers, u, k1, _, M, S2, h3, .ret m2, m1, m3⟩
  | ret =>
    obtain ⟨vs, M, h1, h2, h3⟩ := q
    obtain ⟨u, k1, k2⟩ := results_ok c hr h1
    obtain ⟨S2, m1, m2, m3⟩ := h2.ok c.heap k2 k
    exact ⟨c.defers, u, k1, _, M, S2, h3, .ret m2, m1, m3⟩
  | brk => exact q.elim
  | pan hv =>
    obtain ⟨M, h2, h3⟩ := q
    obtain ⟨S2, m1, m2, m3⟩ := h2.ok c.heap hv k
    exact ⟨c.defers, _, M, S2, h3, .pan m2, m1, m3⟩

/-- A place in a package's array, and what lies there. -/
theorem o_indexGlob {t e : TypeId} {x y : Operand} {g m n : Nat} {k : IntKind} {sz : Nat} {agg : Bool} [ArI P t m e] [TyI P e agg sz] (hx : aev env x = .raw (.pointer (some ⟨g, 0, none⟩))) (hy : aev env y = .int k (n : Int)) (h1 : n < m) :
    V1 P N (.indexAddr t x y) ty env H (.raw (.pointer (some ⟨g, n * sz, none⟩))) := by
  intro S a w hc
  have hv := hc.ev x
  rw [hx] at hv
  generalize he : a.eval x = u at hv
  cases hv
  refine ⟨.pointer (some ⟨g, n * sz, none⟩), fun _ _ _ _ => ?_, .raw⟩
  simp [execOp, he, ev_int hc hy, run_indexArr (P := P) (t := t) (e := e) (sz := sz) (agg := agg) (n := (n : Int)) (by omega) (by omega), add_none]
theorem o_loadGlob {K : Know} {t : TypeId} {x : Operand} {g j sz : Nat} {v : AV} {u : Value} [TyI P t false sz] (hx : aev env x = .raw (.pointer (some ⟨g, j, none⟩))) (hk : get env KT = K.av) (hg : K.g = g) (hu : K.tab[j]? = some u) (hv : ∀ O w S, VR O w S v u) : V1 P N (.load t x) ty env H v := by
  intro S a w hc
  have hkn := hc.env KT
  rw [hk] at hkn
  have hcell := hkn.kn.2.2.1 j u hu
  rw [hg] at hcell
  have h := hc.ev x
  rw [hx] at h
  generalize he : a.eval x = y at h
  cases h
  exact ⟨u, fun _ _ _ _ => by simp [execOp, he, Instr.loadAt, Instr.sureAddr, run_loadVar1 (P := P) (t := t) hcell], hv _ _ _⟩
end
end Go.Av

/-
  WHAT A CALL IS GIVEN: a value that reads as1 data is an abstract value, cell by cell.
-/
namespace Go.Av

theorem flat_getT {α : Type} {sz : Nat} : ∀ {rows : List (List α)}, (∀ r ∈ rows, r.length = sz) → ∀ {i : Nat} {r : List α} {j : Nat}, rows[i]? = some r → j < sz → rows.flatten[i * sz + j]? = r[j]?
  | [], _, i, r, j, hr, _ => by simp at hr
  | x :: rows, hw, i, r, j, hr, hj => by
    have hx : x.length = sz := hw x (by simp)
    cases i with
    | zero =>
      simp at hr
      subst hr
      rw [List.flatten_cons, List.getElem?_append_left (by omega)]
      simp
    | succ i =>
      have := flat_getT (rows := rows) (fun r h => hw r (by simp [h])) (i := i) (r := r) (j := j) (by simpa using hr) hj
      rw [List.flatten_cons, List.getElem?_append_right (by rw [hx, Nat.succ_mul]; omega), hx, show (i + 1) * sz + j - sz = i * sz + j by rw [Nat.succ_mul]; omega]
      exact this

/-- The types of a type's cells; none where it holds what is not followed here. -/
def tile (P : Program) (rec : TypeId → Option (List TypeId)) (total : Nat) : Nat → List Field → Option (List TypeId)
  | off, [] => if off = total then some [] else none
  | off, f :: fs => if f.offset = off then
      match rec f.type with
      | some a => if a.length = P.cellsOf f.type then
          match tile P rec total (off + P.cellsOf f.type) fs with
          | some r => some (a ++ r)
          | none => none
        else none
      | none => none
    else none
def cellTys (P : Program) : Nat → TypeId → Option (List TypeId)
  | 0, _ => none
  | n + 1, t => match P.underlying t with
    | some .bool | some (.int _) | some .string => some [t]
    | some (.slice e) => if P.cellsOf e = 0 then none else some [t]
    | some (.struct fs) => tile P (cellTys P n) (P.cellsOf t) 0 fs.toList
    | some (.array m e) => match cellTys P n e with
      | some a => if a.length = P.cellsOf e ∧ P.cellsOf t = m * P.cellsOf e then some (List.replicate m a).flatten else none
      | none => none
    | _ => none

/-- What one cell of a type may hold. -/
def CellOk (P : Program) : Nat → TypeId → AV → Prop
  | 0, _, _ => False
  | n + 1, t, v => match P.underlying t with
    | some .bool => ∃ b, v = .bool b
    | some (.int k) => ∃ i, v = .int k i ∧ (Lit.int k i).wf = true
    | some .string => ∃ s : ByteArray, v = .str s ∧ s.size ≤ maxLen
    | some (.slice e) => ∃ rows, v = .pl rows ∧ rows.length ≤ maxLen ∧ ∀ r ∈ rows, ∃ ts, cellTys P (n + 1) e = some ts ∧ r.length = ts.length ∧ ∀ (j : Nat) (t' : TypeId) (v' : AV), ts[j]? = some t' → r[j]? = some v' → CellOk P n t' v'
    | _ => False
def RowIs (P : Program) (n : Nat) (ts : List TypeId) (r : List AV) : Prop := r.length = ts.length ∧ ∀ (j : Nat) (t' : TypeId) (v' : AV), ts[j]? = some t' → r[j]? = some v' → CellOk P n t' v'

section
variable {P : Program} {Hd : Type} {enc : TypeId × Value → Hd} {w : World} {base : Nat} {spare : Nat → Bool} {held : Bool}

theorem tile_spec {rec : TypeId → Option (List TypeId)} {total : Nat} : ∀ (fs : List Field) (off : Nat) (ts : List TypeId), tile P rec total off fs = some ts → off + ts.length = total ∧ off ≤ total ∧
    ∀ (f : Field), f ∈ fs → ∃ a, rec f.type = some a ∧ a.length = P.cellsOf f.type ∧ off ≤ f.offset ∧ f.offset + a.length ≤ total ∧ (∀ j, j < a.length → ts[f.offset - off + j]? = a[j]?)
  | [], off, ts, h => by
    unfold tile at h
    split at h
    · cases h; simp_all
    · cases h
  | f :: fs, off, ts, h => by
    unfold tile at h
    split at h
    · rename_i ho
      split at h
      · rename_i a ha
        split at h
        · rename_i hl
          split at h
          · rename_i r hr
            cases h
            obtain ⟨h1, h2, h3⟩ := tile_spec fs _ _ hr
            refine ⟨by simp; omega, by omega, fun g hg => ?_⟩
            rcases List.mem_cons.1 hg with rfl | hg
            · refine ⟨a, ha, hl, by omega, by omega, fun j hj => ?_⟩
              rw [ho, Nat.sub_self, Nat.zero_add, List.getElem?_append_left hj]
            · obtain ⟨b, k1, k2, k3, k4, k5⟩ := h3 g hg
              refine ⟨b, k1, k2, by omega, k4, fun j hj => ?_⟩
              rw [List.getElem?_append_right (by omega), ← k5 j hj]
              congr 1
              omega
          · cases h
        · cases h
      · cases h
    · cases h

/-- Which field a cell belongs to. -/
theorem tile_cover {rec : TypeId → Option (List TypeId)} {total : Nat} : ∀ (fs : List Field) (off : Nat) (ts : List TypeId), tile P rec total off fs = some ts → ∀ j, off ≤ j → j < total → ∃ f ∈ fs, f.offset ≤ j ∧ j < f.offset + P.cellsOf f.type
  | [], off, ts, h, j, h1, h2 => by
    unfold tile at h
    split at h
    · omega
    · cases h
  | f :: fs, off, ts, h, j, h1, h2 => by
    unfold tile at h
    split at h
    · rename_i ho
      split at h
      · split at h
        · split at h
          · rename_i r hr
            by_cases hj : j < off + P.cellsOf f.type
            · exact ⟨f, List.mem_cons_self, by omega, by omega⟩
            · obtain ⟨g, hg, k⟩ := tile_cover fs _ _ hr j (by omega) h2
              exact ⟨g, List.mem_cons_of_mem _ hg, k⟩
          · cases h
        · cases h
      · cases h
    · cases h

theorem trod_one {t : TypeId} {fuel : Nat} {cs : List Value} {x : DataW Hd × List MemPlace} (hu : P.underlying t = some .bool ∨ (∃ k, P.underlying t = some (.int k)) ∨ P.underlying t = some .string ∨ ∃ e, P.underlying t = some (.slice e)) (h : DataW.trod enc P w base spare held (fuel + 1) t cs = some x) : ∃ u, cs = [u] := by
  unfold DataW.trod at h
  rcases hu with hu | ⟨k, hu⟩ | hu | ⟨e, hu⟩ <;> rw [hu] at h <;> split at h <;> first | exact ⟨_, rfl⟩ | (simp_all; done)

/-- A value that reads: each of its cells reads, by its own type. -/
theorem trod_cells : ∀ (n : Nat) (t : TypeId) (ts : List TypeId) (fuel : Nat) (cs : List Value) (x : DataW Hd × List MemPlace), cellTys P n t = some ts → DataW.trod enc P w base spare held fuel t cs = some x →
    cs.length = ts.length ∧ ∀ (j : Nat) (t' : TypeId) (u : Value), ts[j]? = some t' → cs[j]? = some u → ∃ fuel' x', DataW.trod enc P w base spare held fuel' t' [u] = some x' ∧ (P.underlying t' = some .bool ∨ (∃ k, P.underlying t' = some (.int k)) ∨ P.underlying t' = some .string ∨ ∃ e, P.underlying t' = some (.slice e) ∧ P.cellsOf e ≠ 0)
  | 0, _, _, _, _, _, h, _ => by cases h
  | _ + 1, _, _, 0, _, _, _, h => by cases h
  | n + 1, t, ts, fuel + 1, cs, x, h, hx => by
    have one : ∀ u, cs = [u] → ts = [t] → (P.underlying t = some .bool ∨ (∃ k, P.underlying t = some (.int k)) ∨ P.underlying t = some .string ∨ ∃ e, P.underlying t = some (.slice e) ∧ P.cellsOf e ≠ 0) → cs.length = ts.length ∧ ∀ (j : Nat) (t' : TypeId) (u : Value), ts[j]? = some t' → cs[j]? = some u → ∃ fuel' x', DataW.trod enc P w base spare held fuel' t' [u] = some x' ∧ (P.underlying t' = some .bool ∨ (∃ k, P.underlying t' = some (.int k)) ∨ P.underlying t' = some .string ∨ ∃ e, P.underlying t' = some (.slice e) ∧ P.cellsOf e ≠ 0) := by
      rintro u rfl rfl hk
      refine ⟨rfl, fun j t' u' h1 h2 => ?_⟩
      cases j with
      | zero => simp at h1 h2; subst h1; subst h2; exact ⟨fuel + 1, x, hx, hk⟩
      | succ j => simp at h1
    unfold cellTys at h
    split at h
    · rename_i hu
      cases h
      obtain ⟨u, hcs⟩ := trod_one (.inl hu) hx
      exact one u hcs rfl (.inl hu)
    · rename_i k hu
      cases h
      obtain ⟨u, hcs⟩ := trod_one (.inr (.inl ⟨k, hu⟩)) hx
      exact one u hcs rfl (.inr (.inl ⟨k, hu⟩))
    · rename_i hu
      cases h
      obtain ⟨u, hcs⟩ := trod_one (.inr (.inr (.inl hu))) hx
      exact one u hcs rfl (.inr (.inr (.inl hu)))
    · rename_i e hu
      split at h
      · cases h
      · rename_i he
        cases h
        obtain ⟨u, hcs⟩ := trod_one (.inr (.inr (.inr ⟨e, hu⟩))) hx
        exact one u hcs rfl (.inr (.inr (.inr ⟨e, hu, he⟩)))
    · rename_i fs hu
      obtain ⟨h1, _, h3⟩ := tile_spec _ _ _ h
      rw [Nat.zero_add] at h1
      unfold DataW.trod at hx
      rw [hu] at hx
      simp only at hx
      split at hx
      · rename_i hl
        cases hm : fs.toList.mapM (fun f => DataW.trod enc P w base spare held fuel f.type ((cs.drop f.offset).take (P.cellsOf f.type))) with
        | none => rw [hm] at hx; simp at hx
        | some xs =>
          have hg := mapM_some_get hm
          refine ⟨hl.trans h1.symm, fun j t' u hj hu' => ?_⟩
          have hjt : j < P.cellsOf t := by rw [← h1]; exact (List.getElem?_eq_some_iff.1 hj).1
          obtain ⟨f, hf, k1, k2⟩ := tile_cover _ _ _ h j (Nat.zero_le _) hjt
          obtain ⟨a, ha, hal, _, _, hat⟩ := h3 f hf
          obtain ⟨i, hi⟩ := List.mem_iff_getElem?.1 hf
          have hx1 := hg i f hi
          have hil : i < xs.length := by rw [mapM_some_length hm]; exact (List.getElem?_eq_some_iff.1 hi).1
          rw [List.getElem?_eq_getElem hil] at hx1
          obtain ⟨_, hrec⟩ := trod_cells n f.type a fuel _ _ ha hx1
          have hj2 : j - f.offset < a.length := by omega
          have e1 := hat (j - f.offset) hj2
          rw [show f.offset - 0 + (j - f.offset) = j by omega, hj] at e1
          refine hrec (j - f.offset) t' u e1.symm ?_
          rw [List.getElem?_take, if_pos (by omega), List.getElem?_drop, show f.offset + (j - f.offset) = j by omega]
          exact hu'
      · cases hx
    · rename_i m e hu
      split at h
      · rename_i a ha
        split at h
        · rename_i hal
          cases h
          unfold DataW.trod at hx
          rw [hu] at hx
          simp only at hx
          split at hx
          · rename_i hl
            cases hm : (List.range m).mapM (fun i => DataW.trod enc P w base spare held fuel e ((cs.drop (i * P.cellsOf e)).take (P.cellsOf e))) with
            | none => rw [hm] at hx; simp at hx
            | some xs =>
              have hg := mapM_some_get hm
              have hfl : (List.replicate m a).flatten.length = m * P.cellsOf e := by simp [hal.1]
              refine ⟨by rw [hl, hal.2, hfl], fun j t' u hj hu' => ?_⟩
              have hjt : j < m * P.cellsOf e := by rw [← hfl]; exact (List.getElem?_eq_some_iff.1 hj).1
              have hpos : 0 < P.cellsOf e := by
                rcases Nat.eq_zero_or_pos (P.cellsOf e) with h0 | h0
                · rw [h0] at hjt; simp at hjt
                · exact h0
              have hi : j / P.cellsOf e < m := (Nat.div_lt_iff_lt_mul hpos).2 hjt
              have hx1 := hg (j / P.cellsOf e) (j / P.cellsOf e) (by simp [hi])
              have hil : j / P.cellsOf e < xs.length := by rw [mapM_some_length hm]; simpa using hi
              rw [List.getElem?_eq_getElem hil] at hx1
              obtain ⟨_, hrec⟩ := trod_cells n e a fuel _ _ ha hx1
              have hdm : j / P.cellsOf e * P.cellsOf e + j % P.cellsOf e = j := Nat.div_add_mod' _ _
              have hmod : j % P.cellsOf e < P.cellsOf e := Nat.mod_lt _ hpos
              refine hrec (j % P.cellsOf e) t' u ?_ ?_
              · have hw : ∀ r ∈ List.replicate m a, r.length = P.cellsOf e := fun r hr => by rw [List.eq_of_mem_replicate hr]; exact hal.1
                have h3 := flat_getT (sz := P.cellsOf e) hw (i := j / P.cellsOf e) (r := a) (by rw [List.getElem?_replicate, if_pos hi]) hmod
                rw [hdm] at h3
                rw [← h3]; exact hj
              · rw [List.getElem?_take, if_pos hmod, List.getElem?_drop, hdm]
                exact hu'
          · cases hx
        · cases h
      · cases h
    · cases h

theorem choose_list {α : Type} {p : Nat → α → Prop} : ∀ (n : Nat), (∀ j, j < n → ∃ v, p j v) → ∃ l : List α, l.length = n ∧ ∀ (j : Nat) (v : α), l[j]? = some v → p j v
  | 0, _ => ⟨[], rfl, fun _ _ h => by simp at h⟩
  | n + 1, h => by
    obtain ⟨l, h1, h2⟩ := choose_list n (fun j hj => h j (by omega))
    obtain ⟨v, hv⟩ := h n (by omega)
    refine ⟨l ++ [v], by simp [h1], fun j x hx => ?_⟩
    rcases Nat.lt_or_ge j l.length with hj | hj
    · rw [List.getElem?_append_left hj] at hx; exact h2 j x hx
    · rw [List.getElem?_append_right hj] at hx
      have : j - l.length = 0 := by
        rcases Nat.eq_zero_or_pos (j - l.length) with e | e
        · exact e
        · rw [List.getElem?_eq_none (by simp; omega)] at hx; cases hx
      rw [this] at hx
      simp at hx
      subst hx
      rw [show j = n by omega]
      exact hv

/-- Types all of whose cells are followed. -/
def cellDeep (P : Program) : Nat → TypeId → Bool
  | 0, _ => false
  | n + 1, t => match P.underlying t with
    | some .bool | some (.int _) | some .string => true
    | some (.slice e) => match cellTys P (n + 1) e with
      | some ts => decide (P.cellsOf e ≠ 0) && decide (ts.length = P.cellsOf e) && ts.all (cellDeep P n)
      | none => false
    | _ => false

theorem cell_vr : ∀ (n : Nat) (t : TypeId) (u : Value) (fuel : Nat) (x : DataW Hd × List MemPlace), cellDeep P n t = true → DataW.trod enc P w base spare held fuel t [u] = some x → ∃ v, CellOk P n t v ∧ v.leaf = true ∧ VR (own []) w [] v u
  | 0, _, _, _, _, h, _ => by cases h
  | _ + 1, _, _, 0, _, _, h => by cases h
  | n + 1, t, u, fuel + 1, x, h, hx => by
    unfold cellDeep at h
    unfold CellOk
    unfold DataW.trod at hx
    split at h
    · rename_i hu
      rw [hu] at hx
      split at hx <;> first | (simp_all; done) | skip
      rename_i b _ hc
      obtain rfl := (List.cons.inj hc).1
      exact ⟨_, ⟨_, rfl⟩, rfl, .bool⟩
    · rename_i k hu
      rw [hu] at hx
      split at hx <;> first | (simp_all; done) | skip
      split at hx
      · rename_i k' k'' i hk hc hw
        obtain rfl := (List.cons.inj hc).1
        injection hk with hk
        injection hk with hk
        subst hk
        obtain ⟨rfl, hw⟩ := hw
        exact ⟨_, ⟨_, rfl, hw⟩, rfl, .int⟩
      · cases hx
    · rename_i hu
      rw [hu] at hx
      split at hx <;> first | (simp_all; done) | skip
      split at hx
      · rename_i s _ hc hw
        obtain rfl := (List.cons.inj hc).1
        exact ⟨_, ⟨_, rfl, hw⟩, rfl, .str⟩
      · cases hx
    · rename_i e hu
      rw [hu] at hx
      split at h
      · rename_i ts hts
        simp only [Bool.and_eq_true, decide_eq_true_eq] at h
        obtain ⟨⟨he, htl⟩, hall⟩ := h
        split at hx <;> first | (simp_all; done) | skip
        · rename_i e' hk hc
          obtain rfl := (List.cons.inj hc).1
          refine ⟨.pl [], ⟨[], rfl, Nat.zero_le _, by simp⟩, rfl, .pl (xs := []) default 0 (fun _ _ => undef) (Nat.zero_le _) (fun h => absurd rfl h) (fun _ _ h => by simp at h) (fun _ h => by simp at h) (fun _ _ _ _ h => by simp at h) (fun _ _ _ _ h => by simp at h)⟩
        · rename_i e' a len cap hk hc
          obtain rfl := (List.cons.inj hc).1
          injection hk with hk
          injection hk with hk
          subst hk
          simp only at hx
          split at hx
          · rename_i hcnd
            cases hm : (List.range len).mapM (fun i => (w.cells? base (a.add (i * P.cellsOf e)) (P.cellsOf e)).bind (DataW.trod enc P w base spare held fuel e)) with
            | none => rw [hm] at hx; simp at hx
            | some xs =>
              have hg := mapM_some_get hm
              have row : ∀ i, i < len → ∃ r : List AV, r.length = P.cellsOf e ∧ (∀ (j : Nat) (t' : TypeId) (v' : AV), ts[j]? = some t' → r[j]? = some v' → CellOk P n t' v') ∧ a.block < w.heap.size ∧
                  ∀ (j : Nat) (v : AV), r[j]? = some v → v.leaf = true ∧ ∃ u, w.cell? (a.add (i * P.cellsOf e + j)) = some u ∧ VR (own []) w [] v u := by
                intro i hi
                have hx1 := hg i i (by simp [hi])
                have hil : i < xs.length := by rw [mapM_some_length hm]; simpa using hi
                rw [List.getElem?_eq_getElem hil] at hx1
                cases hcs : w.cells? base (a.add (i * P.cellsOf e)) (P.cellsOf e) with
                | none => rw [hcs] at hx1; simp at hx1
                | some cs =>
                  rw [hcs] at hx1
                  simp only [Option.bind_some] at hx1
                  obtain ⟨_, hcl, hcell⟩ := World.cells?_some hcs
                  obtain ⟨hl, hrec⟩ := trod_cells (n + 1) e ts fuel cs _ hts hx1
                  have hblk := World.cells?_block hcs (by omega)
                  rw [add_block] at hblk
                  obtain ⟨r, hr1, hr2⟩ := choose_list (p := fun j v => v.leaf = true ∧ (∀ t', ts[j]? = some t' → CellOk P n t' v) ∧ ∃ u, w.cell? (a.add (i * P.cellsOf e + j)) = some u ∧ VR (own []) w [] v u) (P.cellsOf e) (fun j hj => by
                    have hjc : j < cs.length := by omega
                    have hjt : j < ts.length := by omega
                    obtain ⟨fuel', x', hx', _⟩ := hrec j _ _ (List.getElem?_eq_getElem hjt) (List.getElem?_eq_getElem hjc)
                    obtain ⟨v, k1, k2, k3⟩ := cell_vr n _ _ fuel' x' (List.all_eq_true.1 hall _ (List.getElem_mem hjt)) hx'
                    refine ⟨v, k2, fun t' ht' => ?_, _, ?_, k3⟩
                    · rw [List.getElem?_eq_getElem hjt] at ht'
                      obtain rfl := Option.some.inj ht'
                      exact k1
                    · have := hcell j hj
                      rw [add_add] at this
                      rw [this, List.getElem?_eq_getElem hjc])
                  exact ⟨r, hr1, fun j t' v' ht' hv' => (hr2 j v' hv').2.1 t' ht', hblk, fun j v hv => ⟨(hr2 j v hv).1, (hr2 j v hv).2.2⟩⟩
              obtain ⟨rows, hr1, hr2⟩ := choose_list len row
              have hrows : ∀ i r, rows[i]? = some r → i < len := fun i r hr => by rw [← hr1]; exact (List.getElem?_eq_some_iff.1 hr).1
              refine ⟨.pl rows, ⟨rows, rfl, by omega, fun r hr => ?_⟩, rfl, ?_⟩
              · obtain ⟨i, hi⟩ := List.mem_iff_getElem?.1 hr
                obtain ⟨k1, k2, _, _⟩ := hr2 i r hi
                exact ⟨ts, hts, by omega, k2⟩
              · rw [← hr1]
                refine .pl a (P.cellsOf e) (fun i j => (w.cell? (a.add (i * P.cellsOf e + j))).getD undef) (by omega) (fun hne => ?_) (fun i r hr => (hr2 i r hr).1) (fun i hi j hj => ?_) (fun i j r v hr hv => ((hr2 i r hr).2.2.2 j v hv).1) (fun i j r v hr hv => ?_)
                · have hpos : 0 < rows.length := List.length_pos_iff.2 hne
                  exact ⟨rfl, by rintro ⟨i, s, hs, _⟩; simp at hs, (hr2 0 _ (List.getElem?_eq_getElem hpos)).2.2.1⟩
                · have hk := hr2 i _ (List.getElem?_eq_getElem hi)
                  obtain ⟨_, u, hu', _⟩ := hk.2.2.2 j _ (List.getElem?_eq_getElem (by rw [hk.1]; exact hj))
                  rw [hu']; rfl
                · obtain ⟨_, u, hu', hv'⟩ := (hr2 i r hr).2.2.2 j v hv
                  rw [hu']; exact hv'
          · cases hx
      · cases h
    · cases h

/-- A value that reads, as1 one abstract value. -/
def rowVal (t : Bool) (r : List AV) : AV := if t then .agg r else r.headD .junk
theorem trod_vr {n : Nat} {t : TypeId} {ts : List TypeId} {v : Value} {d : DataW Hd} {ps : List MemPlace} (hts : cellTys P (n + 1) t = some ts) (hd : ts.all (cellDeep P n) = true) (h : DataW.Trod enc P w base spare held t v d ps) :
    ∃ r : List AV, RowIs P n ts r ∧ r.length = v.cells.size ∧ ∀ (j : Nat) (a : AV) (u : Value), r[j]? = some a → v.cells[j]? = some u → a.leaf = true ∧ VR (own []) w [] a u := by
  obtain ⟨fuel, h⟩ := h
  obtain ⟨hl, hrec⟩ := trod_cells (n + 1) t ts fuel _ _ hts h
  obtain ⟨r, hr1, hr2⟩ := choose_list (p := fun j a => a.leaf = true ∧ (∀ t', ts[j]? = some t' → CellOk P n t' a) ∧ ∀ u, v.cells.toList[j]? = some u → VR (own []) w [] a u) ts.length (fun j hj => by
    have hjc : j < v.cells.toList.length := by omega
    obtain ⟨fuel', x', hx', _⟩ := hrec j _ _ (List.getElem?_eq_getElem hj) (List.getElem?_eq_getElem hjc)
    obtain ⟨a, k1, k2, k3⟩ := cell_vr n _ _ fuel' x' (List.all_eq_true.1 hd _ (List.getElem_mem hj)) hx'
    refine ⟨a, k2, fun t' ht' => ?_, fun u hu => ?_⟩
    · rw [List.getElem?_eq_getElem hj] at ht'
      obtain rfl := Option.some.inj ht'
      exact k1
    · rw [List.getElem?_eq_getElem hjc] at hu
      obtain rfl := Option.some.inj hu
      exact k3)
  refine ⟨r, ⟨hr1, fun j t' v' ht' hv' => (hr2 j v' hv').2.1 t' ht'⟩, by rw [hr1, ← hl]; simp, fun j a u ha hu => ⟨(hr2 j a ha).1, (hr2 j a ha).2.2 u (by simpa using hu)⟩⟩
end
end Go.Av

/-
  FROM A CALL's CONTRACT TO A ROW: the arguments as1 abstract values, and what the row asks of the world behind.
-/
namespace Go.Av
open Go.RowKit

section
variable {P : Program} {Hd : Type} {enc : TypeId × Value → Hd} {w : World} {base b : Nat} {spare : Nat → Bool} {held : Bool}
theorem arg_leaf {n : Nat} {t : TypeId} {v : Value} {d : DataW Hd} {ps : List MemPlace} (hd : cellDeep P n t = true) (hval : Value.okWide P w .any b t v) (h : DataW.Trod enc P w base spare held t v d ps) : ∃ a, CellOk P n t a ∧ VR (own []) w [] a v := by
  have hc : v.cells = #[v] := by
    cases n with
    | zero => cases hd
    | succ n =>
      unfold cellDeep at hd
      unfold Value.okWide at hval
      cases v with
      | agg cs =>
        exfalso
        split at hd <;> rename_i hu <;> simp [hu, Cell.okWide, Cell.ok] at hval hd
      | _ => rfl
  obtain ⟨fuel, h⟩ := h
  rw [hc] at h
  obtain ⟨a, h1, _, h2⟩ := cell_vr n t v fuel _ hd h
  exact ⟨a, h1, h2⟩
theorem arg_agg {n : Nat} {t : TypeId} {ts : List TypeId} {v : Value} {d : DataW Hd} {ps : List MemPlace} (hts : cellTys P (n + 1) t = some ts) (hall : ts.all (cellDeep P n) = true) (hagg : (∃ fs, P.underlying t = some (.struct fs)) ∨ ∃ m e, P.underlying t = some (.array m e)) (hval : Value.okWide P w .any b t v) (h : DataW.Trod enc P w base spare held t v d ps) : ∃ r, RowIs P n ts r ∧ VR (own []) w [] (.agg r) v := by
  obtain ⟨r, h1, h2, h3⟩ := trod_vr hts hall h
  have hv : ∃ cs, v = .agg cs := by
    unfold Value.okWide at hval
    rcases hagg with ⟨fs, hu⟩ | ⟨m, e, hu⟩ <;> rw [hu] at hval <;> exact ⟨_, hval.choose_spec.1⟩
  obtain ⟨cs, rfl⟩ := hv
  have hc : (Value.agg cs).cells = cs := rfl
  rw [hc] at h2 h3
  exact ⟨r, h1, .agg h2 (fun j a ha => by
    have hj : j < cs.size := by rw [← h2]; exact (List.getElem?_eq_some_iff.1 ha).1
    exact (h3 j a _ ha (Array.getElem?_eq_getElem hj)).1) (fun j a u ha hu => (h3 j a u ha hu).2)⟩

theorem cell_bool {n : Nat} {t : TypeId} {a : AV} (hu : P.underlying t = some .bool) (h : CellOk P (n + 1) t a) : ∃ b, a = .bool b := by
  unfold CellOk at h; rw [hu] at h; exact h
theorem cell_int {n : Nat} {t : TypeId} {k : IntKind} {a : AV} (hu : P.underlying t = some (.int k)) (h : CellOk P (n + 1) t a) : ∃ i, a = .int k i ∧ (Lit.int k i).wf = true := by
  unfold CellOk at h; rw [hu] at h; exact h
theorem cell_str {n : Nat} {t : TypeId} {a : AV} (hu : P.underlying t = some .string) (h : CellOk P (n + 1) t a) : ∃ s : ByteArray, a = .str s ∧ s.size ≤ maxLen := by
  unfold CellOk at h; rw [hu] at h; exact h
theorem cell_sl {n : Nat} {t e : TypeId} {ts : List TypeId} {a : AV} (hu : P.underlying t = some (.slice e)) (hts : cellTys P (n + 1) e = some ts) (h : CellOk P (n + 1) t a) : ∃ rows, a = .pl rows ∧ rows.length ≤ maxLen ∧ ∀ r ∈ rows, RowIs P n ts r := by
  unfold CellOk at h
  rw [hu] at h
  obtain ⟨rows, h1, h2, h3⟩ := h
  refine ⟨rows, h1, h2, fun r hr => ?_⟩
  obtain ⟨ts', k1, k2, k3⟩ := h3 r hr
  rw [hts] at k1
  obtain rfl := Option.some.inj k1
  exact ⟨k2, k3⟩
theorem row_nil {n : Nat} {r : List AV} (h : RowIs P n [] r) : r = [] := List.eq_nil_of_length_eq_zero h.1
theorem row_cons {n : Nat} {t : TypeId} {ts : List TypeId} {r : List AV} (h : RowIs P n (t :: ts) r) : ∃ v r', r = v :: r' ∧ CellOk P n t v ∧ RowIs P n ts r' := by
  cases r with
  | nil => have := h.1; simp at this
  | cons v r => exact ⟨v, r, rfl, h.2 0 t v rfl rfl, by simpa using h.1, fun j t' v' h1 h2 => h.2 (j + 1) t' v' h1 h2⟩
theorem rows_map {α : Type} {e : α → List AV} : ∀ {rows : List (List AV)}, (∀ r ∈ rows, ∃ x, r = e x) → ∃ l : List α, rows = l.map e
  | [], _ => ⟨[], rfl⟩
  | r :: rows, h => by
    obtain ⟨x, rfl⟩ := h r List.mem_cons_self
    obtain ⟨l, rfl⟩ := rows_map (rows := rows) fun r hr => h r (List.mem_cons_of_mem _ hr)
    exact ⟨x :: l, rfl⟩
theorem cell_byte {n : Nat} {t : TypeId} {a : AV} (hu : P.underlying t = some (.int .u8)) (h : CellOk P (n + 1) t a) : ∃ c : UInt8, a = .int .u8 (c.toNat : Int) := by
  obtain ⟨i, rfl, hw⟩ := cell_int hu h
  have h2 : 0 ≤ i ∧ i < 256 := by
    have e1 : IntKind.u8.min = 0 := rfl
    have e2 : IntKind.u8.max = 255 := rfl
    simp [Lit.wf, e1, e2] at hw
    omega
  refine ⟨UInt8.ofNat i.toNat, ?_⟩
  congr 1
  have : i.toNat < 256 := by omega
  simp [UInt8.toNat_ofNat', Nat.mod_eq_of_lt this]
  omega
theorem cell_bytes {n : Nat} {t e : TypeId} {a : AV} (hu : P.underlying t = some (.slice e)) (he : P.underlying e = some (.int .u8)) (h : CellOk P (n + 2) t a) : ∃ bs : List UInt8, a = .pl (bs.map brow) := by
  have hts : cellTys P (n + 1 + 1) e = some [e] := by unfold cellTys; rw [he]
  obtain ⟨rows, rfl, _, h3⟩ := cell_sl hu hts h
  obtain ⟨l, rfl⟩ := rows_map (e := brow) (rows := rows) fun r hr => by
    obtain ⟨v, r', rfl, h1, h2⟩ := row_cons (h3 r hr)
    obtain rfl := row_nil h2
    obtain ⟨c, rfl⟩ := cell_byte he h1
    exact ⟨c, rfl⟩
  exact ⟨l, rfl⟩

inductive All2 {α β : Type} (R : α → β → Prop) : List α → List β → Prop where
  | nil : All2 R [] []
  | cons {a b as1 bs} (h : R a b) (k : All2 R as1 bs) : All2 R (a :: as1) (b :: bs)
theorem All2.vrs {O : Nat → Prop} {S : List Slot} {vs : List AV} {us : List Value} (h : All2 (VR O w S) vs us) : VRs O w S vs us.toArray := by
  induction h with
  | nil => exact ⟨rfl, fun i v u hv => by simp at hv⟩
  | cons h k ih =>
    refine ⟨by simpa using ih.1, fun i v u hv hu => ?_⟩
    cases i with
    | zero => simp at hv hu; subst hv; subst hu; exact h
    | succ i => exact ih.2 i v u (by simpa using hv) (by simpa using hu)
theorem ac_row {f : FuncId} {avs : List AV} {us : List Value} {bb : Bool} (h : AC P f avs [] (Ret (.bool bb) [])) (hv : All2 (VR (own []) w []) avs us) : Calls P f us.toArray w fun e w' => e = .returned (.bool bb) ∧ Below w.heap.size w w' := by
  refine (h [] w us.toArray ⟨rfl, fun _ _ _ h => by simp at h, fun _ _ _ _ _ h => by simp at h⟩ hv.vrs).mono fun e w' => ?_
  rintro ⟨o, H', S', ⟨rfl, rfl⟩, ho, hh, hx⟩
  cases ho with
  | ret hb =>
    cases hb
    exact ⟨rfl, hx.os, hx.tape, hx.output, hx.stp.size, fun k hk => (hx.stp.old k hk (by rintro ⟨i, s, hs, _⟩; simp at hs)).2⟩
end
end Go.Av

/-
  FROM A CALL's CONTRACT TO A ROW, in a world whose table is known.
-/
namespace Go.Av
open Go.RowKit
theorem act_row {P : Program} {w : World} {K : Know} {f : FuncId} {avs : List AV} {us : List Value} {bb : Bool} (h : ACT P K f avs [] (Ret (.bool bb) [])) (hk : Kn K [] w) (hv : All2 (VR (own []) w []) avs us) : Calls P f us.toArray w fun e w' => e = .returned (.bool bb) ∧ Below w.heap.size w w' := by
  refine (h [] w us.toArray hk ⟨rfl, fun _ _ _ h => by simp at h, fun _ _ _ _ _ h => by simp at h⟩ hv.vrs).mono fun e w' => ?_
  rintro ⟨o, H', S', ⟨rfl, rfl⟩, ho, hh, hx⟩
  cases ho with
  | ret hb =>
    cases hb
    exact ⟨rfl, hx.os, hx.tape, hx.output, hx.stp.size, fun k hk => (hx.stp.old k hk (by rintro ⟨i, s, hs, _⟩; simp at hs)).2⟩
/-- A table of numbers that is laid is known. -/
theorem kn_of_tab {P : Program} {W : World} {name : String} {k : IntKind} {zs : List Int} {g : Nat} {K : Know} (hg : P.globalNamed name = some g) (hz : zs ≠ []) (hK : K = ⟨g, zs.map fun z => Value.int k z⟩) (h : Lib.TabIs P W name k zs) : Kn K [] W := by
  subst hK
  have hc : ∀ j v, (zs.map fun z => Value.int k z)[j]? = some v → W.cell? ⟨g, j, none⟩ = some v := by
    intro j v hj
    have := World.var?_cell hg h j
    rw [this]
    simpa using hj
  have hx : ∃ ty fz, W.heap[g]? = some (Obj.cells (zs.map fun z => Value.int k z).toArray ty fz) := by
    unfold Lib.TabIs World.var? at h
    rw [hg] at h
    simp only [Option.bind_some] at h
    split at h
    · rename_i cs ty fz e
      obtain rfl := Option.some.inj h
      exact ⟨ty, fz, e⟩
    · cases h
  refine ⟨by rintro ⟨i, s, hs, _⟩; simp at hs, ?_, hc, hx⟩
  clear hx
  cases zs with
  | nil => exact absurd rfl hz
  | cons z zs =>
    have h0 := hc 0 _ rfl
    show g < W.heap.size
    rcases Nat.lt_or_ge g W.heap.size with h1 | h1
    · exact h1
    · exfalso
      simp [World.cell?, Array.getElem?_eq_none h1] at h0
end Go.Av

/-
  WHAT THE LIBRARY's CONTRACTS SAY, as1 contracts over abstract values.
-/
namespace Go.Av
open Go.RowKit
theorem Ext.of_below {S : List Slot} {w w' : World} (h : Below w.heap.size w w') : Ext S w S w' :=
  ⟨h.os, h.tape, h.output, ⟨h.size, fun b hb ho => ⟨ho, h.block b hb⟩, fun b arr ty hb => ⟨arr, by rw [h.block b (Array.getElem?_eq_some_iff.1 hb).1]; exact hb, rfl⟩⟩, SExt.refl S⟩
theorem AC.kit {P : Program} {f : FuncId} {vs : List AV} {H : Heap} {v : AV} (hk : ∀ S w cargs, HRel H S w → VRs (own S) w S vs cargs → ∃ u, Calls P f cargs w (fun e w' => e = .returned u ∧ Below w.heap.size w w') ∧ ∀ w', Ext S w S w' → VR (own S) w' S v u) : AC P f vs H (Ret v H) := by
  intro S w cargs hH hv
  obtain ⟨u, h1, h2⟩ := hk S w cargs hH hv
  refine h1.mono ?_
  rintro e w' ⟨rfl, hb⟩
  have hx := Ext.of_below (S := S) hb
  exact ⟨.ret v, H, S, ⟨rfl, rfl⟩, .ret (h2 w' hx), same_heap hH hx (fun b h => hb.block b h), hx⟩
section
variable {O : Nat → Prop} {w : World} {S : List Slot} {cargs : Array Value}
theorem vrs_1 {v : AV} (h : VRs O w S [v] cargs) : ∃ u, cargs = #[u] ∧ VR O w S v u := by
  have hsz : cargs.size = 1 := by have := h.1; simpa using this.symm
  refine ⟨cargs[0], ?_, h.2 0 _ _ rfl (Array.getElem?_eq_getElem (by omega))⟩
  apply Array.ext
  · simp [hsz]
  · intro i k1 k2
    have : i = 0 := by simp at k2; omega
    subst this; rfl
theorem vrs_2 {v v' : AV} (h : VRs O w S [v, v'] cargs) : ∃ u u', cargs = #[u, u'] ∧ VR O w S v u ∧ VR O w S v' u' := by
  have hsz : cargs.size = 2 := by have := h.1; simpa using this.symm
  refine ⟨cargs[0], cargs[1], ?_, h.2 0 _ _ rfl (Array.getElem?_eq_getElem (by omega)), h.2 1 _ _ rfl (Array.getElem?_eq_getElem (by omega))⟩
  apply Array.ext
  · simp [hsz]
  · intro i k1 k2
    have : i = 0 ∨ i = 1 := by simp at k2; omega
    rcases this with rfl | rfl <;> rfl
end
abbrev eStr (s : ByteArray) : List AV := [.str s]
/-- A row of texts of the caller's own: what its cells hold. -/
theorem str_cells {H : Heap} {S : List Slot} {w : World} {id g n : Nat} {xs : List ByteArray} {u : Value} (hH : HRel H S w) (hid : H[id]? = some ⟨g, 1, xs.map eStr⟩) (hv : VR (own S) w S (.sl id g 0 xs.length n) u) :
    (xs = [] ∧ ∃ a c, u = .slice a 0 c) ∨ ∃ b c, u = .slice (some ⟨b, 0, none⟩) xs.length c ∧ b < w.heap.size ∧ xs.length ≤ c ∧ ∀ (j : Nat) x, xs[j]? = some x → w.cell? ⟨b, 0 + j, none⟩ = some (.string x) := by
  obtain ⟨s, hs, ok⟩ := hH.slot hid
  cases hv with
  | sl s' hs' hg' _ h =>
    obtain rfl : s' = s := Option.some.inj (hs'.symm.trans hs)
    obtain ⟨c, k1, k2, k3⟩ := h ok.gen.symm
    rcases k3 with ⟨rfl, a, rfl⟩ | ⟨b, arr, ty, hp, rfl, ha, hsz⟩
    · exact .inl ⟨List.eq_nil_of_length_eq_zero (by omega), a, 0, rfl⟩
    · obtain ⟨arr', ty', l1, l2, l3⟩ := ok.lies b hp
      refine .inr ⟨b, c, by rw [Nat.zero_mul], (Array.getElem?_eq_some_iff.1 l1).1, k2, fun j x hj => ?_⟩
      have hrow : (xs.map eStr)[j]? = some (eStr x) := by rw [List.getElem?_map, hj]; rfl
      obtain ⟨_, hc⟩ := l3 j _ hrow
      obtain ⟨_, u, hu, hv⟩ := hc 0 _ rfl
      cases hv
      rw [Nat.zero_add, cell_of_row w b j arr' ty' _ l1]
      simpa using hu
end Go.Av

/-
  MANY TABLES THAT NOBODY WRITES, each known under a number of its own; and contracts of the library's in such a world.
-/
namespace Go.Av
open Go.RowKit
abbrev Knows := List (Nat × Know)
def KnS (Ks : Knows) (S : List Slot) (w : World) : Prop := ∀ p ∈ Ks, Kn p.2 S w
def kenv (Ks : Knows) : Env := Ks.map fun p => (p.1, p.2.av)
/-- A contract in a world whose tables are known. -/
def ACL (P : Program) (Ks : Knows) (f : FuncId) (args : List AV) (H : Heap) (R : AOut → Heap → Prop) : Prop :=
  ∀ S w cargs, KnS Ks S w → HRel H S w → VRs (own S) w S args cargs →
    Calls P f cargs w fun e w' => ∃ o H' S', R o H' ∧ OutR (own S') w' S' o e ∧ HRel H' S' w' ∧ Ext S w S' w'
theorem AC.toL {P : Program} {Ks : Knows} {f : FuncId} {args : List AV} {H : Heap} {R : AOut → Heap → Prop} (h : AC P f args H R) : ACL P Ks f args H R := fun S w cargs _ => h S w cargs
theorem ACT.toL {P : Program} {Ks : Knows} {K : Know} {n : Nat} {f : FuncId} {args : List AV} {H : Heap} {R : AOut → Heap → Prop} (h : ACT P K f args H R) (hm : (n, K) ∈ Ks) : ACL P Ks f args H R := fun S w cargs k => h S w cargs (k _ hm)
theorem ACL.sub {P : Program} {Ks Ks' : Knows} {f : FuncId} {args : List AV} {H : Heap} {R : AOut → Heap → Prop} (h : ACL P Ks f args H R) (hm : ∀ p ∈ Ks, p ∈ Ks') : ACL P Ks' f args H R := fun S w cargs k => h S w cargs fun p hp => k p (hm p hp)
def KnE : Knows → Env → Prop
  | [], _ => True
  | p :: ps, env => get env p.1 = p.2.av ∧ KnE ps env
theorem KnE.ok {N : Nat} {env : Env} {H : Heap} {S : List Slot} {a : Act} {w : World} (hc : CR N env H S a w) : ∀ {Ks : Knows}, KnE Ks env → KnS Ks S w
  | [], _ => fun p hp => by simp at hp
  | q :: qs, h => fun p hp => by
    rcases List.mem_cons.1 hp with rfl | hp
    · have := hc.env p.1
      rw [h.1] at this
      exact this.kn
    · exact KnE.ok hc h.2 p hp
section
variable {P : Program} {N : Nat} {B : Base} {env : Env} {H H0 L : Heap} {ty : TypeId}
theorem V2.callL {Ks : Knows} {f : Nat} {xs : Array Operand} {ts : Array TypeId} {v : AV} {vs : List AV} {M : Heap} [FnI P f] (hac : ACL P Ks f vs H (Ret v M)) (hvs : xs.toList.map (aev env) = vs) (hk : KnE Ks env) :
    V2 P N (.call { callee := .value (.func f), args := xs, argTypes := ts }) ty env H v M := by
  subst hvs
  intro dst pos after guard S a w hc next Q hn hp
  have hrun : (execOp a.eval ⟨dst, .call { callee := .value (.func f), args := xs, argTypes := ts }, ty, pos, after, guard⟩).run P w = .ok (.enter f (xs.map a.eval)) w := by
    simp [execOp, resolve, Act.eval, Deferred.ofValue, invoke, run_callFunc (P := P) (f := f)]
  unfold Oper.wp
  rw [hrun]
  refine (hac S w (xs.map a.eval) (hk.ok hc) hc.heap (evs_ok hc xs)).mono ?_
  rintro e w' ⟨out, H', S', ⟨rfl, rfl⟩, hout, hh, hx⟩
  cases hout with
  | ret hv => exact hn _ _ _ S' w' ⟨rfl, rfl⟩ hh hx hv
theorem ACL.up {Ks : Knows} {f : FuncId} {vs us : List AV} {R : AOut → Heap → Prop} (h : ACL P Ks f us H R) (hvs : vs.map AV.up = us) : ACL P Ks f vs H R := fun S w cargs hk hH hv => h S w cargs hk hH (hvs ▸ hv.up)
theorem V2.callLu {Ks : Knows} {f : Nat} {xs : Array Operand} {ts : Array TypeId} {v : AV} {us : List AV} {M : Heap} [FnI P f] (hac : ACL P Ks f us H (Ret v M)) (hvs : (xs.toList.map (aev env)).map AV.up = us) (hk : KnE Ks env) :
    V2 P N (.call { callee := .value (.func f), args := xs, argTypes := ts }) ty env H v M := V2.callL (hac.up hvs) rfl hk
theorem get_kenv {O : Nat → Prop} {w : World} {S : List Slot} {E : Env} {f : Nat → Value} (hO : O = own S) (hE : ∀ t, VR O w S (get E t) (f t)) : ∀ {Ks : Knows}, KnS Ks S w → ∀ t, VR O w S (get (kenv Ks ++ E) t) (f t)
  | [], _, t => hE t
  | p :: ps, h, t => by
    subst hO
    show VR _ w S (get ((p.1, p.2.av) :: (kenv ps ++ E)) t) (f t)
    by_cases e : p.1 = t
    · subst e
      rw [get_put_same]
      exact (h p (List.mem_cons_self ..)).vr
    · rw [get_put_other _ _ e]
      exact get_kenv rfl hE (fun q hq => h q (List.mem_cons_of_mem _ hq)) t
theorem ACL.body {Ks : Knows} {f : FuncId} {N : Nat} {fn : Func} {c : Code} {args : List AV} {R : AOut → Heap → Prop} (rs : List ResultVar) (hf : P.funcs[f]? = some fn) (hb : fn.body = some c) (hr : fn.results = rs.toArray)
    (hN : fn.ntmps = N) (hn : args.length ≤ N) (h : ∀ B, Begun B H args → AWp P N B c (Ends P B rs R) (kenv Ks ++ params 0 args) (H ++ [])) : ACL P Ks f args H R := by
  subst hN
  simp only [List.append_nil] at h
  intro S w cargs hkn hH hv
  refine calls_of_wp hf hb ?_
  have hc : CR fn.ntmps (kenv Ks ++ params 0 args) H S { tmps := cargs ++ Array.replicate (fn.ntmps - cargs.size) undef, defers := [] } w := by
    refine ⟨hH, ?_, ?_, rfl⟩
    · refine get_kenv rfl (fun t => ?_) hkn
      rw [get_params, if_pos (Nat.zero_le _), Nat.sub_zero]
      by_cases ht : t < args.length
      · have h1 : args.getD t .junk = args[t] := by simp [List.getD, ht]
        have ht' : t < cargs.size := by rw [← hv.1]; exact ht
        have h2 : (cargs ++ Array.replicate (fn.ntmps - cargs.size) undef).getD t undef = cargs[t] := by
          simp [Array.getElem?_append_left ht', ht']
        rw [h1, h2]
        exact hv.2 t _ _ (List.getElem?_eq_getElem ht) (Array.getElem?_eq_getElem ht')
      · have h1 : args.getD t .junk = .junk := by simp [List.getD, List.getElem?_eq_none (Nat.le_of_not_lt ht)]
        rw [h1]; exact .junk
    · have := hv.1
      simp
      omega
  have hbg : Begun ⟨S, w⟩ H args := by
    refine ⟨hH.len.symm, hH.bel, ?_⟩
    rw [AV.bels_iff]
    intro v hv'
    obtain ⟨j, hj⟩ := List.mem_iff_getElem?.1 hv'
    rw [hH.len]
    exact (hv.2 j v _ hj (Array.getElem?_eq_getElem (by rw [← hv.1]; exact (List.getElem?_eq_some_iff.1 hj).1))).bel
  refine wp_mono (h ⟨S, w⟩ hbg S _ w hc (Ext.refl S w)) ?_
  intro e a' w' ⟨x, env', H', S', q, r, c, k⟩
  cases r with
  | nrm =>
    obtain ⟨vs, M, h1, h2, h3⟩ := q
    obtain ⟨u, k1, k2⟩ := results_ok c hr h1
    obtain ⟨S2, m1, m2, m3⟩ := h2.ok c.heap k2 k
    exact ⟨c.defers, u, k1, _, M, S2, h3, .ret m2, m1, m3⟩
  | ret =>
    obtain ⟨vs, M, h1, h2, h3⟩ := q
    obtain ⟨u, k1, k2⟩ := results_ok c hr h1
    obtain ⟨S2, m1, m2, m3⟩ := h2.ok c.heap k2 k
    exact ⟨c.defers, u, k1, _, M, S2, h3, .ret m2, m1, m3⟩
  | brk => exact q.elim
  | pan hv =>
    obtain ⟨M, h2, h3⟩ := q
    obtain ⟨S2, m1, m2, m3⟩ := h2.ok c.heap hv k
    exact ⟨c.defers, _, M, S2, h3, .pan m2, m1, m3⟩
/-- A contract of the library's, in a world whose tables are known. -/
theorem ACL.kit {Ks : Knows} {f : FuncId} {vs : List AV} {v : AV} (hk : ∀ S w cargs, KnS Ks S w → HRel H S w → VRs (own S) w S vs cargs → Calls P f cargs w fun e w' => ∃ u, e = .returned u ∧ Below w.heap.size w w' ∧ VR (own S) w' S v u) : ACL P Ks f vs H (Ret v H) := by
  intro S w cargs hkn hH hv
  refine (hk S w cargs hkn hH hv).mono ?_
  rintro e w' ⟨u, rfl, hb, hvr⟩
  have hx := Ext.of_below (S := S) hb
  exact ⟨.ret v, H, S, ⟨rfl, rfl⟩, .ret hvr, same_heap hH hx (fun b h => hb.block b h), hx⟩
end
/-- A known table, by the program's name of it. -/
theorem Kn.tabIs {P : Program} {S : List Slot} {w : World} {K : Know} {name : String} {k : IntKind} {zs : List Int} (h : Kn K S w) (hg : P.globalNamed name = some K.g) (hz : K.tab = zs.map fun z => Value.int k z) : Lib.TabIs P w name k zs := by
  obtain ⟨_, _, _, ty, fz, e⟩ := h
  unfold Lib.TabIs World.var?
  rw [hg]
  simp only [Option.bind_some, e]
  rw [hz]
theorem act_rowL {P : Program} {w : World} {Ks : Knows} {f : FuncId} {avs : List AV} {us : List Value} {bb : Bool} (h : ACL P Ks f avs [] (Ret (.bool bb) [])) (hk : KnS Ks [] w) (hv : All2 (VR (own []) w []) avs us) : Calls P f us.toArray w fun e w' => e = .returned (.bool bb) ∧ Below w.heap.size w w' := by
  refine (h [] w us.toArray hk ⟨rfl, fun _ _ _ h => by simp at h, fun _ _ _ _ _ h => by simp at h⟩ hv.vrs).mono fun e w' => ?_
  rintro ⟨o, H', S', ⟨rfl, rfl⟩, ho, hh, hx⟩
  cases ho with
  | ret hb =>
    cases hb
    exact ⟨rfl, hx.os, hx.tape, hx.output, hx.stp.size, fun k hk => (hx.stp.old k hk (by rintro ⟨i, s, hs, _⟩; simp at hs)).2⟩
end Go.Av

/-
  WHAT THE PROGRAM's TABLES SAY OF THE TYPES AND FUNCTIONS THAT THE WALKS MEET. Laid by a program of this session's own.
-/
namespace Go.Av
open Go.Proofs
instance ty1 : TyI Tryd.prog 1 false 1 := ⟨by kernel_rfl, by kernel_rfl⟩
instance no1 : NoI Tryd.prog 1 := ⟨by kernel_rfl⟩
instance by1 : ByI Tryd.prog 1 8 := ⟨by kernel_rfl⟩
instance zc1 : ZcI Tryd.prog 1 [.nfn] := ⟨.nilFunc, by kernel_rfl, rfl, rfl⟩
instance ty2 : TyI Tryd.prog 2 false 1 := ⟨by kernel_rfl, by kernel_rfl⟩
instance no2 : NoI Tryd.prog 2 := ⟨by kernel_rfl⟩
instance by2 : ByI Tryd.prog 2 8 := ⟨by kernel_rfl⟩
instance ud2 : UdI Tryd.prog 2 (.int .i64) := ⟨by kernel_rfl⟩
instance zc2 : ZcI Tryd.prog 2 [.int .i64 0] := ⟨.int .i64 0, by kernel_rfl, rfl, rfl⟩
instance ty3 : TyI Tryd.prog 3 false 1 := ⟨by kernel_rfl, by kernel_rfl⟩
instance no3 : NoI Tryd.prog 3 := ⟨by kernel_rfl⟩
instance by3 : ByI Tryd.prog 3 8 := ⟨by kernel_rfl⟩
instance ud3 : UdI Tryd.prog 3 (.int .i64) := ⟨by kernel_rfl⟩
instance zc3 : ZcI Tryd.prog 3 [.int .i64 0] := ⟨.int .i64 0, by kernel_rfl, rfl, rfl⟩
instance ty4 : TyI Tryd.prog 4 false 1 := ⟨by kernel_rfl, by kernel_rfl⟩
instance no4 : NoI Tryd.prog 4 := ⟨by kernel_rfl⟩
instance by4 : ByI Tryd.prog 4 1 := ⟨by kernel_rfl⟩
instance ud4 : UdI Tryd.prog 4 .bool := ⟨by kernel_rfl⟩
instance zc4 : ZcI Tryd.prog 4 [.bool false] := ⟨.bool false, by kernel_rfl, rfl, rfl⟩
instance ty5 : TyI Tryd.prog 5 false 1 := ⟨by kernel_rfl, by kernel_rfl⟩
instance no5 : NoI Tryd.prog 5 := ⟨by kernel_rfl⟩
instance by5 : ByI Tryd.prog 5 1 := ⟨by kernel_rfl⟩
instance ud5 : UdI Tryd.prog 5 (.int .u8) := ⟨by kernel_rfl⟩
instance zc5 : ZcI Tryd.prog 5 [.int .u8 0] := ⟨.int .u8 0, by kernel_rfl, rfl, rfl⟩
instance ty9 : TyI Tryd.prog 9 false 1 := ⟨by kernel_rfl, by kernel_rfl⟩
instance no9 : NoI Tryd.prog 9 := ⟨by kernel_rfl⟩
instance by9 : ByI Tryd.prog 9 16 := ⟨by kernel_rfl⟩
instance ud9 : UdI Tryd.prog 9 .string := ⟨by kernel_rfl⟩
instance ni9 : NiI Tryd.prog 9 := ⟨.inr (by kernel_rfl)⟩
instance zc9 : ZcI Tryd.prog 9 [.str ⟨#[]⟩] := ⟨.string ⟨#[]⟩, by kernel_rfl, rfl, rfl⟩
instance ty12 : TyI Tryd.prog 12 false 1 := ⟨by kernel_rfl, by kernel_rfl⟩
instance no12 : NoI Tryd.prog 12 := ⟨by kernel_rfl⟩
instance by12 : ByI Tryd.prog 12 8 := ⟨by kernel_rfl⟩
instance ud12 : UdI Tryd.prog 12 (.int .u64) := ⟨by kernel_rfl⟩
instance zc12 : ZcI Tryd.prog 12 [.int .u64 0] := ⟨.int .u64 0, by kernel_rfl, rfl, rfl⟩
instance ty13 : TyI Tryd.prog 13 true 2 := ⟨by kernel_rfl, by kernel_rfl⟩
instance no13 : NoI Tryd.prog 13 := ⟨by kernel_rfl⟩
instance by13 : ByI Tryd.prog 13 24 := ⟨by kernel_rfl⟩
instance fl13_0 : FldI Tryd.prog 13 0 0 9 := ⟨by kernel_rfl⟩
instance fl13_1 : FldI Tryd.prog 13 1 1 12 := ⟨by kernel_rfl⟩
instance st13 : StI Tryd.prog 13 [(0, 1), (1, 1)] := ⟨by kernel_rfl⟩
instance zc13 : ZcI Tryd.prog 13 [.str ⟨#[]⟩, .int .u64 0] := ⟨.agg #[.string ⟨#[]⟩, .int .u64 0], by kernel_rfl, rfl, rfl⟩
instance ty20 : TyI Tryd.prog 20 false 1 := ⟨by kernel_rfl, by kernel_rfl⟩
instance by20 : ByI Tryd.prog 20 16 := ⟨by kernel_rfl⟩
instance zc20 : ZcI Tryd.prog 20 [.nifc] := ⟨.nilIface, by kernel_rfl, rfl, rfl⟩
instance ty21 : TyI Tryd.prog 21 false 1 := ⟨by kernel_rfl, by kernel_rfl⟩
instance no21 : NoI Tryd.prog 21 := ⟨by kernel_rfl⟩
instance by21 : ByI Tryd.prog 21 4 := ⟨by kernel_rfl⟩
instance ud21 : UdI Tryd.prog 21 (.int .i32) := ⟨by kernel_rfl⟩
instance zc21 : ZcI Tryd.prog 21 [.int .i32 0] := ⟨.int .i32 0, by kernel_rfl, rfl, rfl⟩
instance ty22 : TyI Tryd.prog 22 false 1 := ⟨by kernel_rfl, by kernel_rfl⟩
instance no22 : NoI Tryd.prog 22 := ⟨by kernel_rfl⟩
instance by22 : ByI Tryd.prog 22 24 := ⟨by kernel_rfl⟩
instance sl22 : SlI Tryd.prog 22 3 := ⟨by kernel_rfl⟩
instance ni22 : NiI Tryd.prog 22 := ⟨.inl ⟨3, by kernel_rfl⟩⟩
instance zc22 : ZcI Tryd.prog 22 [.nsl] := ⟨.slice none 0 0, by kernel_rfl, rfl, rfl⟩
instance ty23 : TyI Tryd.prog 23 false 1 := ⟨by kernel_rfl, by kernel_rfl⟩
instance no23 : NoI Tryd.prog 23 := ⟨by kernel_rfl⟩
instance by23 : ByI Tryd.prog 23 8 := ⟨by kernel_rfl⟩
instance zc23 : ZcI Tryd.prog 23 [.nfn] := ⟨.nilFunc, by kernel_rfl, rfl, rfl⟩
instance ty24 : TyI Tryd.prog 24 false 1 := ⟨by kernel_rfl, by kernel_rfl⟩
instance no24 : NoI Tryd.prog 24 := ⟨by kernel_rfl⟩
instance by24 : ByI Tryd.prog 24 8 := ⟨by kernel_rfl⟩
instance ud24 : UdI Tryd.prog 24 (.int .i64) := ⟨by kernel_rfl⟩
instance zc24 : ZcI Tryd.prog 24 [.int .i64 0] := ⟨.int .i64 0, by kernel_rfl, rfl, rfl⟩
instance ty26 : TyI Tryd.prog 26 false 1 := ⟨by kernel_rfl, by kernel_rfl⟩
instance no26 : NoI Tryd.prog 26 := ⟨by kernel_rfl⟩
instance by26 : ByI Tryd.prog 26 8 := ⟨by kernel_rfl⟩
instance zc26 : ZcI Tryd.prog 26 [.nfn] := ⟨.nilFunc, by kernel_rfl, rfl, rfl⟩
instance ty28 : TyI Tryd.prog 28 false 1 := ⟨by kernel_rfl, by kernel_rfl⟩
instance no28 : NoI Tryd.prog 28 := ⟨by kernel_rfl⟩
instance by28 : ByI Tryd.prog 28 8 := ⟨by kernel_rfl⟩
instance zc28 : ZcI Tryd.prog 28 [.nfn] := ⟨.nilFunc, by kernel_rfl, rfl, rfl⟩
instance ty29 : TyI Tryd.prog 29 false 1 := ⟨by kernel_rfl, by kernel_rfl⟩
instance no29 : NoI Tryd.prog 29 := ⟨by kernel_rfl⟩
instance by29 : ByI Tryd.prog 29 8 := ⟨by kernel_rfl⟩
instance zc29 : ZcI Tryd.prog 29 [.nfn] := ⟨.nilFunc, by kernel_rfl, rfl, rfl⟩
instance ty30 : TyI Tryd.prog 30 false 1 := ⟨by kernel_rfl, by kernel_rfl⟩
instance no30 : NoI Tryd.prog 30 := ⟨by kernel_rfl⟩
instance by30 : ByI Tryd.prog 30 8 := ⟨by kernel_rfl⟩
instance zc30 : ZcI Tryd.prog 30 [.nfn] := ⟨.nilFunc, by kernel_rfl, rfl, rfl⟩
instance ty31 : TyI Tryd.prog 31 false 1 := ⟨by kernel_rfl, by kernel_rfl⟩
instance no31 : NoI Tryd.prog 31 := ⟨by kernel_rfl⟩
instance by31 : ByI Tryd.prog 31 8 := ⟨by kernel_rfl⟩
instance zc31 : ZcI Tryd.prog 31 [.nfn] := ⟨.nilFunc, by kernel_rfl, rfl, rfl⟩
instance ty32 : TyI Tryd.prog 32 false 1 := ⟨by kernel_rfl, by kernel_rfl⟩
instance no32 : NoI Tryd.prog 32 := ⟨by kernel_rfl⟩
instance by32 : ByI Tryd.prog 32 8 := ⟨by kernel_rfl⟩
instance zc32 : ZcI Tryd.prog 32 [.nfn] := ⟨.nilFunc, by kernel_rfl, rfl, rfl⟩
instance ty33 : TyI Tryd.prog 33 false 1 := ⟨by kernel_rfl, by kernel_rfl⟩
instance no33 : NoI Tryd.prog 33 := ⟨by kernel_rfl⟩
instance by33 : ByI Tryd.prog 33 8 := ⟨by kernel_rfl⟩
instance zc33 : ZcI Tryd.prog 33 [.nfn] := ⟨.nilFunc, by kernel_rfl, rfl, rfl⟩
instance ty34 : TyI Tryd.prog 34 false 1 := ⟨by kernel_rfl, by kernel_rfl⟩
instance no34 : NoI Tryd.prog 34 := ⟨by kernel_rfl⟩
instance by34 : ByI Tryd.prog 34 8 := ⟨by kernel_rfl⟩
instance zc34 : ZcI Tryd.prog 34 [.nfn] := ⟨.nilFunc, by kernel_rfl, rfl, rfl⟩
instance ty35 : TyI Tryd.prog 35 false 1 := ⟨by kernel_rfl, by kernel_rfl⟩
instance no35 : NoI Tryd.prog 35 := ⟨by kernel_rfl⟩
instance by35 : ByI Tryd.prog 35 8 := ⟨by kernel_rfl⟩
instance zc35 : ZcI Tryd.prog 35 [.nfn] := ⟨.nilFunc, by kernel_rfl, rfl, rfl⟩
instance ty36 : TyI Tryd.prog 36 false 1 := ⟨by kernel_rfl, by kernel_rfl⟩
instance no36 : NoI Tryd.prog 36 := ⟨by kernel_rfl⟩
instance by36 : ByI Tryd.prog 36 8 := ⟨by kernel_rfl⟩
instance zc36 : ZcI Tryd.prog 36 [.nfn] := ⟨.nilFunc, by kernel_rfl, rfl, rfl⟩
instance ty37 : TyI Tryd.prog 37 false 1 := ⟨by kernel_rfl, by kernel_rfl⟩
instance no37 : NoI Tryd.prog 37 := ⟨by kernel_rfl⟩
instance by37 : ByI Tryd.prog 37 8 := ⟨by kernel_rfl⟩
instance zc37 : ZcI Tryd.prog 37 [.nfn] := ⟨.nilFunc, by kernel_rfl, rfl, rfl⟩
instance ty38 : TyI Tryd.prog 38 false 1 := ⟨by kernel_rfl, by kernel_rfl⟩
instance no38 : NoI Tryd.prog 38 := ⟨by kernel_rfl⟩
instance by38 : ByI Tryd.prog 38 8 := ⟨by kernel_rfl⟩
instance zc38 : ZcI Tryd.prog 38 [.nfn] := ⟨.nilFunc, by kernel_rfl, rfl, rfl⟩
instance ty39 : TyI Tryd.prog 39 false 1 := ⟨by kernel_rfl, by kernel_rfl⟩
instance no39 : NoI Tryd.prog 39 := ⟨by kernel_rfl⟩
instance by39 : ByI Tryd.prog 39 8 := ⟨by kernel_rfl⟩
instance zc39 : ZcI Tryd.prog 39 [.nfn] := ⟨.nilFunc, by kernel_rfl, rfl, rfl⟩
instance ty40 : TyI Tryd.prog 40 false 1 := ⟨by kernel_rfl, by kernel_rfl⟩
instance no40 : NoI Tryd.prog 40 := ⟨by kernel_rfl⟩
instance by40 : ByI Tryd.prog 40 24 := ⟨by kernel_rfl⟩
instance sl40 : SlI Tryd.prog 40 9 := ⟨by kernel_rfl⟩
instance ni40 : NiI Tryd.prog 40 := ⟨.inl ⟨9, by kernel_rfl⟩⟩
instance zc40 : ZcI Tryd.prog 40 [.nsl] := ⟨.slice none 0 0, by kernel_rfl, rfl, rfl⟩
instance ty41 : TyI Tryd.prog 41 false 1 := ⟨by kernel_rfl, by kernel_rfl⟩
instance no41 : NoI Tryd.prog 41 := ⟨by kernel_rfl⟩
instance by41 : ByI Tryd.prog 41 8 := ⟨by kernel_rfl⟩
instance zc41 : ZcI Tryd.prog 41 [.nfn] := ⟨.nilFunc, by kernel_rfl, rfl, rfl⟩
instance ty43 : TyI Tryd.prog 43 false 1 := ⟨by kernel_rfl, by kernel_rfl⟩
instance no43 : NoI Tryd.prog 43 := ⟨by kernel_rfl⟩
instance by43 : ByI Tryd.prog 43 8 := ⟨by kernel_rfl⟩
instance zc43 : ZcI Tryd.prog 43 [.nfn] := ⟨.nilFunc, by kernel_rfl, rfl, rfl⟩
instance ty45 : TyI Tryd.prog 45 false 1 := ⟨by kernel_rfl, by kernel_rfl⟩
instance no45 : NoI Tryd.prog 45 := ⟨by kernel_rfl⟩
instance by45 : ByI Tryd.prog 45 8 := ⟨by kernel_rfl⟩
instance zc45 : ZcI Tryd.prog 45 [.nfn] := ⟨.nilFunc, by kernel_rfl, rfl, rfl⟩
instance ty46 : TyI Tryd.prog 46 false 1 := ⟨by kernel_rfl, by kernel_rfl⟩
instance no46 : NoI Tryd.prog 46 := ⟨by kernel_rfl⟩
instance by46 : ByI Tryd.prog 46 8 := ⟨by kernel_rfl⟩
instance zc46 : ZcI Tryd.prog 46 [.nfn] := ⟨.nilFunc, by kernel_rfl, rfl, rfl⟩
instance ty47 : TyI Tryd.prog 47 false 1 := ⟨by kernel_rfl, by kernel_rfl⟩
instance no47 : NoI Tryd.prog 47 := ⟨by kernel_rfl⟩
instance by47 : ByI Tryd.prog 47 8 := ⟨by kernel_rfl⟩
instance zc47 : ZcI Tryd.prog 47 [.nfn] := ⟨.nilFunc, by kernel_rfl, rfl, rfl⟩
instance ty48 : TyI Tryd.prog 48 false 1 := ⟨by kernel_rfl, by kernel_rfl⟩
instance no48 : NoI Tryd.prog 48 := ⟨by kernel_rfl⟩
instance by48 : ByI Tryd.prog 48 8 := ⟨by kernel_rfl⟩
instance ud48 : UdI Tryd.prog 48 (.int .u64) := ⟨by kernel_rfl⟩
instance zc48 : ZcI Tryd.prog 48 [.int .u64 0] := ⟨.int .u64 0, by kernel_rfl, rfl, rfl⟩
instance ty49 : TyI Tryd.prog 49 true 4 := ⟨by kernel_rfl, by kernel_rfl⟩
instance no49 : NoI Tryd.prog 49 := ⟨by kernel_rfl⟩
instance by49 : ByI Tryd.prog 49 32 := ⟨by kernel_rfl⟩
instance ar49 : ArI Tryd.prog 49 4 48 := ⟨by kernel_rfl⟩
instance zc49 : ZcI Tryd.prog 49 [.int .u64 0, .int .u64 0, .int .u64 0, .int .u64 0] := ⟨.agg #[.int .u64 0, .int .u64 0, .int .u64 0, .int .u64 0], by kernel_rfl, rfl, rfl⟩
instance ty50 : TyI Tryd.prog 50 true 4 := ⟨by kernel_rfl, by kernel_rfl⟩
instance no50 : NoI Tryd.prog 50 := ⟨by kernel_rfl⟩
instance by50 : ByI Tryd.prog 50 32 := ⟨by kernel_rfl⟩
instance ar50 : ArI Tryd.prog 50 4 48 := ⟨by kernel_rfl⟩
instance zc50 : ZcI Tryd.prog 50 [.int .u64 0, .int .u64 0, .int .u64 0, .int .u64 0] := ⟨.agg #[.int .u64 0, .int .u64 0, .int .u64 0, .int .u64 0], by kernel_rfl, rfl, rfl⟩
instance ty52 : TyI Tryd.prog 52 false 1 := ⟨by kernel_rfl, by kernel_rfl⟩
instance no52 : NoI Tryd.prog 52 := ⟨by kernel_rfl⟩
instance by52 : ByI Tryd.prog 52 8 := ⟨by kernel_rfl⟩
instance zc52 : ZcI Tryd.prog 52 [.nfn] := ⟨.nilFunc, by kernel_rfl, rfl, rfl⟩
instance ty53 : TyI Tryd.prog 53 false 1 := ⟨by kernel_rfl, by kernel_rfl⟩
instance no53 : NoI Tryd.prog 53 := ⟨by kernel_rfl⟩
instance by53 : ByI Tryd.prog 53 8 := ⟨by kernel_rfl⟩
instance zc53 : ZcI Tryd.prog 53 [.nfn] := ⟨.nilFunc, by kernel_rfl, rfl, rfl⟩
instance ty54 : TyI Tryd.prog 54 false 1 := ⟨by kernel_rfl, by kernel_rfl⟩
instance no54 : NoI Tryd.prog 54 := ⟨by kernel_rfl⟩
instance by54 : ByI Tryd.prog 54 8 := ⟨by kernel_rfl⟩
instance zc54 : ZcI Tryd.prog 54 [.nfn] := ⟨.nilFunc, by kernel_rfl, rfl, rfl⟩
instance ty56 : TyI Tryd.prog 56 false 1 := ⟨by kernel_rfl, by kernel_rfl⟩
instance no56 : NoI Tryd.prog 56 := ⟨by kernel_rfl⟩
instance by56 : ByI Tryd.prog 56 8 := ⟨by kernel_rfl⟩
instance zc56 : ZcI Tryd.prog 56 [.nfn] := ⟨.nilFunc, by kernel_rfl, rfl, rfl⟩
instance ty57 : TyI Tryd.prog 57 false 1 := ⟨by kernel_rfl, by kernel_rfl⟩
instance no57 : NoI Tryd.prog 57 := ⟨by kernel_rfl⟩
instance by57 : ByI Tryd.prog 57 8 := ⟨by kernel_rfl⟩
instance zc57 : ZcI Tryd.prog 57 [.nfn] := ⟨.nilFunc, by kernel_rfl, rfl, rfl⟩
instance ty59 : TyI Tryd.prog 59 false 1 := ⟨by kernel_rfl, by kernel_rfl⟩
instance no59 : NoI Tryd.prog 59 := ⟨by kernel_rfl⟩
instance by59 : ByI Tryd.prog 59 8 := ⟨by kernel_rfl⟩
instance zc59 : ZcI Tryd.prog 59 [.nfn] := ⟨.nilFunc, by kernel_rfl, rfl, rfl⟩
instance ty60 : TyI Tryd.prog 60 false 1 := ⟨by kernel_rfl, by kernel_rfl⟩
instance by60 : ByI Tryd.prog 60 16 := ⟨by kernel_rfl⟩
instance zc60 : ZcI Tryd.prog 60 [.nifc] := ⟨.nilIface, by kernel_rfl, rfl, rfl⟩
instance ty61 : TyI Tryd.prog 61 false 1 := ⟨by kernel_rfl, by kernel_rfl⟩
instance by61 : ByI Tryd.prog 61 16 := ⟨by kernel_rfl⟩
instance zc61 : ZcI Tryd.prog 61 [.nifc] := ⟨.nilIface, by kernel_rfl, rfl, rfl⟩
instance ty63 : TyI Tryd.prog 63 false 1 := ⟨by kernel_rfl, by kernel_rfl⟩
instance no63 : NoI Tryd.prog 63 := ⟨by kernel_rfl⟩
instance by63 : ByI Tryd.prog 63 8 := ⟨by kernel_rfl⟩
instance zc63 : ZcI Tryd.prog 63 [.nfn] := ⟨.nilFunc, by kernel_rfl, rfl, rfl⟩
instance ty64 : TyI Tryd.prog 64 false 1 := ⟨by kernel_rfl, by kernel_rfl⟩
instance no64 : NoI Tryd.prog 64 := ⟨by kernel_rfl⟩
instance by64 : ByI Tryd.prog 64 8 := ⟨by kernel_rfl⟩
instance zc64 : ZcI Tryd.prog 64 [.nptr] := ⟨.pointer none, by kernel_rfl, rfl, rfl⟩
instance ty65 : TyI Tryd.prog 65 false 1 := ⟨by kernel_rfl, by kernel_rfl⟩
instance no65 : NoI Tryd.prog 65 := ⟨by kernel_rfl⟩
instance by65 : ByI Tryd.prog 65 24 := ⟨by kernel_rfl⟩
instance sl65 : SlI Tryd.prog 65 5 := ⟨by kernel_rfl⟩
instance ni65 : NiI Tryd.prog 65 := ⟨.inl ⟨5, by kernel_rfl⟩⟩
instance zc65 : ZcI Tryd.prog 65 [.nsl] := ⟨.slice none 0 0, by kernel_rfl, rfl, rfl⟩
instance ty66 : TyI Tryd.prog 66 true 2 := ⟨by kernel_rfl, by kernel_rfl⟩
instance no66 : NoI Tryd.prog 66 := ⟨by kernel_rfl⟩
instance by66 : ByI Tryd.prog 66 32 := ⟨by kernel_rfl⟩
instance fl66_0 : FldI Tryd.prog 66 0 0 64 := ⟨by kernel_rfl⟩
instance fl66_1 : FldI Tryd.prog 66 1 1 65 := ⟨by kernel_rfl⟩
instance st66 : StI Tryd.prog 66 [(0, 1), (1, 1)] := ⟨by kernel_rfl⟩
instance zc66 : ZcI Tryd.prog 66 [.nptr, .nsl] := ⟨.agg #[.pointer none, .slice none 0 0], by kernel_rfl, rfl, rfl⟩
instance ty67 : TyI Tryd.prog 67 true 2 := ⟨by kernel_rfl, by kernel_rfl⟩
instance no67 : NoI Tryd.prog 67 := ⟨by kernel_rfl⟩
instance by67 : ByI Tryd.prog 67 32 := ⟨by kernel_rfl⟩
instance fl67_0 : FldI Tryd.prog 67 0 0 64 := ⟨by kernel_rfl⟩
instance fl67_1 : FldI Tryd.prog 67 1 1 65 := ⟨by kernel_rfl⟩
instance st67 : StI Tryd.prog 67 [(0, 1), (1, 1)] := ⟨by kernel_rfl⟩
instance zc67 : ZcI Tryd.prog 67 [.nptr, .nsl] := ⟨.agg #[.pointer none, .slice none 0 0], by kernel_rfl, rfl, rfl⟩
instance ty68 : TyI Tryd.prog 68 false 1 := ⟨by kernel_rfl, by kernel_rfl⟩
instance no68 : NoI Tryd.prog 68 := ⟨by kernel_rfl⟩
instance by68 : ByI Tryd.prog 68 8 := ⟨by kernel_rfl⟩
instance zc68 : ZcI Tryd.prog 68 [.nfn] := ⟨.nilFunc, by kernel_rfl, rfl, rfl⟩
instance ty69 : TyI Tryd.prog 69 false 1 := ⟨by kernel_rfl, by kernel_rfl⟩
instance no69 : NoI Tryd.prog 69 := ⟨by kernel_rfl⟩
instance by69 : ByI Tryd.prog 69 8 := ⟨by kernel_rfl⟩
instance zc69 : ZcI Tryd.prog 69 [.nfn] := ⟨.nilFunc, by kernel_rfl, rfl, rfl⟩
instance ty70 : TyI Tryd.prog 70 false 1 := ⟨by kernel_rfl, by kernel_rfl⟩
instance no70 : NoI Tryd.prog 70 := ⟨by kernel_rfl⟩
instance by70 : ByI Tryd.prog 70 8 := ⟨by kernel_rfl⟩
instance zc70 : ZcI Tryd.prog 70 [.nfn] := ⟨.nilFunc, by kernel_rfl, rfl, rfl⟩
instance ty71 : TyI Tryd.prog 71 false 1 := ⟨by kernel_rfl, by kernel_rfl⟩
instance no71 : NoI Tryd.prog 71 := ⟨by kernel_rfl⟩
instance by71 : ByI Tryd.prog 71 8 := ⟨by kernel_rfl⟩
instance zc71 : ZcI Tryd.prog 71 [.nfn] := ⟨.nilFunc, by kernel_rfl, rfl, rfl⟩
instance ty72 : TyI Tryd.prog 72 false 1 := ⟨by kernel_rfl, by kernel_rfl⟩
instance no72 : NoI Tryd.prog 72 := ⟨by kernel_rfl⟩
instance by72 : ByI Tryd.prog 72 8 := ⟨by kernel_rfl⟩
instance zc72 : ZcI Tryd.prog 72 [.nfn] := ⟨.nilFunc, by kernel_rfl, rfl, rfl⟩
instance ty73 : TyI Tryd.prog 73 false 1 := ⟨by kernel_rfl, by kernel_rfl⟩
instance no73 : NoI Tryd.prog 73 := ⟨by kernel_rfl⟩
instance by73 : ByI Tryd.prog 73 8 := ⟨by kernel_rfl⟩
instance zc73 : ZcI Tryd.prog 73 [.nfn] := ⟨.nilFunc, by kernel_rfl, rfl, rfl⟩
instance ty74 : TyI Tryd.prog 74 false 1 := ⟨by kernel_rfl, by kernel_rfl⟩
instance no74 : NoI Tryd.prog 74 := ⟨by kernel_rfl⟩
instance by74 : ByI Tryd.prog 74 8 := ⟨by kernel_rfl⟩
instance zc74 : ZcI Tryd.prog 74 [.nfn] := ⟨.nilFunc, by kernel_rfl, rfl, rfl⟩
instance ty75 : TyI Tryd.prog 75 false 1 := ⟨by kernel_rfl, by kernel_rfl⟩
instance no75 : NoI Tryd.prog 75 := ⟨by kernel_rfl⟩
instance by75 : ByI Tryd.prog 75 8 := ⟨by kernel_rfl⟩
instance zc75 : ZcI Tryd.prog 75 [.nptr] := ⟨.pointer none, by kernel_rfl, rfl, rfl⟩
instance ty76 : TyI Tryd.prog 76 false 1 := ⟨by kernel_rfl, by kernel_rfl⟩
instance no76 : NoI Tryd.prog 76 := ⟨by kernel_rfl⟩
instance by76 : ByI Tryd.prog 76 8 := ⟨by kernel_rfl⟩
instance zc76 : ZcI Tryd.prog 76 [.nfn] := ⟨.nilFunc, by kernel_rfl, rfl, rfl⟩
instance ty77 : TyI Tryd.prog 77 false 1 := ⟨by kernel_rfl, by kernel_rfl⟩
instance no77 : NoI Tryd.prog 77 := ⟨by kernel_rfl⟩
instance by77 : ByI Tryd.prog 77 8 := ⟨by kernel_rfl⟩
instance zc77 : ZcI Tryd.prog 77 [.nfn] := ⟨.nilFunc, by kernel_rfl, rfl, rfl⟩
instance ty79 : TyI Tryd.prog 79 false 1 := ⟨by kernel_rfl, by kernel_rfl⟩
instance no79 : NoI Tryd.prog 79 := ⟨by kernel_rfl⟩
instance by79 : ByI Tryd.prog 79 8 := ⟨by kernel_rfl⟩
instance zc79 : ZcI Tryd.prog 79 [.nfn] := ⟨.nilFunc, by kernel_rfl, rfl, rfl⟩
instance ty80 : TyI Tryd.prog 80 false 1 := ⟨by kernel_rfl, by kernel_rfl⟩
instance no80 : NoI Tryd.prog 80 := ⟨by kernel_rfl⟩
instance by80 : ByI Tryd.prog 80 8 := ⟨by kernel_rfl⟩
instance zc80 : ZcI Tryd.prog 80 [.nfn] := ⟨.nilFunc, by kernel_rfl, rfl, rfl⟩
instance ty83 : TyI Tryd.prog 83 false 1 := ⟨by kernel_rfl, by kernel_rfl⟩
instance no83 : NoI Tryd.prog 83 := ⟨by kernel_rfl⟩
instance by83 : ByI Tryd.prog 83 8 := ⟨by kernel_rfl⟩
instance zc83 : ZcI Tryd.prog 83 [.nfn] := ⟨.nilFunc, by kernel_rfl, rfl, rfl⟩
instance ty84 : TyI Tryd.prog 84 false 1 := ⟨by kernel_rfl, by kernel_rfl⟩
instance no84 : NoI Tryd.prog 84 := ⟨by kernel_rfl⟩
instance by84 : ByI Tryd.prog 84 8 := ⟨by kernel_rfl⟩
instance zc84 : ZcI Tryd.prog 84 [.nptr] := ⟨.pointer none, by kernel_rfl, rfl, rfl⟩
instance ty85 : TyI Tryd.prog 85 false 1 := ⟨by kernel_rfl, by kernel_rfl⟩
instance no85 : NoI Tryd.prog 85 := ⟨by kernel_rfl⟩
instance by85 : ByI Tryd.prog 85 8 := ⟨by kernel_rfl⟩
instance zc85 : ZcI Tryd.prog 85 [.nfn] := ⟨.nilFunc, by kernel_rfl, rfl, rfl⟩
instance ty86 : TyI Tryd.prog 86 false 1 := ⟨by kernel_rfl, by kernel_rfl⟩
instance no86 : NoI Tryd.prog 86 := ⟨by kernel_rfl⟩
instance by86 : ByI Tryd.prog 86 8 := ⟨by kernel_rfl⟩
instance zc86 : ZcI Tryd.prog 86 [.nfn] := ⟨.nilFunc, by kernel_rfl, rfl, rfl⟩
instance ty87 : TyI Tryd.prog 87 true 24 := ⟨by kernel_rfl, by kernel_rfl⟩
instance no87 : NoI Tryd.prog 87 := ⟨by kernel_rfl⟩
instance by87 : ByI Tryd.prog 87 24 := ⟨by kernel_rfl⟩
instance ar87 : ArI Tryd.prog 87 24 5 := ⟨by kernel_rfl⟩
instance zc87 : ZcI Tryd.prog 87 [.int .u8 0, .int .u8 0, .int .u8 0, .int .u8 0, .int .u8 0, .int .u8 0, .int .u8 0, .int .u8 0, .int .u8 0, .int .u8 0, .int .u8 0, .int .u8 0, .int .u8 0, .int .u8 0, .int .u8 0, .int .u8 0, .int .u8 0, .int .u8 0, .int .u8 0, .int .u8 0, .int .u8 0, .int .u8 0, .int .u8 0, .int .u8 0] := ⟨.agg #[.int .u8 0, .int .u8 0, .int .u8 0, .int .u8 0, .int .u8 0, .int .u8 0, .int .u8 0, .int .u8 0, .int .u8 0, .int .u8 0, .int .u8 0, .int .u8 0, .int .u8 0, .int .u8 0, .int .u8 0, .int .u8 0, .int .u8 0, .int .u8 0, .int .u8 0, .int .u8 0, .int .u8 0, .int .u8 0, .int .u8 0, .int .u8 0], by kernel_rfl, rfl, rfl⟩
instance ty88 : TyI Tryd.prog 88 false 1 := ⟨by kernel_rfl, by kernel_rfl⟩
instance no88 : NoI Tryd.prog 88 := ⟨by kernel_rfl⟩
instance by88 : ByI Tryd.prog 88 8 := ⟨by kernel_rfl⟩
instance zc88 : ZcI Tryd.prog 88 [.nfn] := ⟨.nilFunc, by kernel_rfl, rfl, rfl⟩
instance ty90 : TyI Tryd.prog 90 false 1 := ⟨by kernel_rfl, by kernel_rfl⟩
instance no90 : NoI Tryd.prog 90 := ⟨by kernel_rfl⟩
instance by90 : ByI Tryd.prog 90 8 := ⟨by kernel_rfl⟩
instance zc90 : ZcI Tryd.prog 90 [.nfn] := ⟨.nilFunc, by kernel_rfl, rfl, rfl⟩
instance ty92 : TyI Tryd.prog 92 false 1 := ⟨by kernel_rfl, by kernel_rfl⟩
instance no92 : NoI Tryd.prog 92 := ⟨by kernel_rfl⟩
instance by92 : ByI Tryd.prog 92 8 := ⟨by kernel_rfl⟩
instance zc92 : ZcI Tryd.prog 92 [.nfn] := ⟨.nilFunc, by kernel_rfl, rfl, rfl⟩
instance ty93 : TyI Tryd.prog 93 false 1 := ⟨by kernel_rfl, by kernel_rfl⟩
instance no93 : NoI Tryd.prog 93 := ⟨by kernel_rfl⟩
instance by93 : ByI Tryd.prog 93 8 := ⟨by kernel_rfl⟩
instance zc93 : ZcI Tryd.prog 93 [.nfn] := ⟨.nilFunc, by kernel_rfl, rfl, rfl⟩
instance ty94 : TyI Tryd.prog 94 true 64 := ⟨by kernel_rfl, by kernel_rfl⟩
instance no94 : NoI Tryd.prog 94 := ⟨by kernel_rfl⟩
instance by94 : ByI Tryd.prog 94 64 := ⟨by kernel_rfl⟩
instance ar94 : ArI Tryd.prog 94 64 5 := ⟨by kernel_rfl⟩
instance zc94 : ZcI Tryd.prog 94 [.int .u8 0, .int .u8 0, .int .u8 0, .int .u8 0, .int .u8 0, .int .u8 0, .int .u8 0, .int .u8 0, .int .u8 0, .int .u8 0, .int .u8 0, .int .u8 0, .int .u8 0, .int .u8 0, .int .u8 0, .int .u8 0, .int .u8 0, .int .u8 0, .int .u8 0, .int .u8 0, .int .u8 0, .int .u8 0, .int .u8 0, .int .u8 0, .int .u8 0, .int .u8 0, .int .u8 0, .int .u8 0, .int .u8 0, .int .u8 0, .int .u8 0, .int .u8 0, .int .u8 0, .int .u8 0, .int .u8 0, .int .u8 0, .int .u8 0, .int .u8 0, .int .u8 0, .int .u8 0, .int .u8 0, .int .u8 0, .int .u8 0, .int .u8 0, .int .u8 0, .int .u8 0, .int .u8 0, .int .u8 0, .int .u8 0, .int .u8 0, .int .u8 0, .int .u8 0, .int .u8 0, .int .u8 0, .int .u8 0, .int .u8 0, .int .u8 0, .int .u8 0, .int .u8 0, .int .u8 0, .int .u8 0, .int .u8 0, .int .u8 0, .int .u8 0] := ⟨.agg #[.int .u8 0, .int .u8 0, .int .u8 0, .int .u8 0, .int .u8 0, .int .u8 0, .int .u8 0, .int .u8 0, .int .u8 0, .int .u8 0, .int .u8 0, .int .u8 0, .int .u8 0, .int .u8 0, .int .u8 0, .int .u8 0, .int .u8 0, .int .u8 0, .int .u8 0, .int .u8 0, .int .u8 0, .int .u8 0, .int .u8 0, .int .u8 0, .int .u8 0, .int .u8 0, .int .u8 0, .int .u8 0, .int .u8 0, .int .u8 0, .int .u8 0, .int .u8 0, .int .u8 0, .int .u8 0, .int .u8 0, .int .u8 0, .int .u8 0, .int .u8 0, .int .u8 0, .int .u8 0, .int .u8 0, .int .u8 0, .int .u8 0, .int .u8 0, .int .u8 0, .int .u8 0, .int .u8 0, .int .u8 0, .int .u8 0, .int .u8 0, .int .u8 0, .int .u8 0, .int .u8 0, .int .u8 0, .int .u8 0, .int .u8 0, .int .u8 0, .int .u8 0, .int .u8 0, .int .u8 0, .int .u8 0, .int .u8 0, .int .u8 0, .int .u8 0], by kernel_rfl, rfl, rfl⟩
instance ty95 : TyI Tryd.prog 95 false 1 := ⟨by kernel_rfl, by kernel_rfl⟩
instance no95 : NoI Tryd.prog 95 := ⟨by kernel_rfl⟩
instance by95 : ByI Tryd.prog 95 8 := ⟨by kernel_rfl⟩
instance ud95 : UdI Tryd.prog 95 (.int .u64) := ⟨by kernel_rfl⟩
instance zc95 : ZcI Tryd.prog 95 [.int .u64 0] := ⟨.int .u64 0, by kernel_rfl, rfl, rfl⟩
instance ty96 : TyI Tryd.prog 96 false 1 := ⟨by kernel_rfl, by kernel_rfl⟩
instance no96 : NoI Tryd.prog 96 := ⟨by kernel_rfl⟩
instance by96 : ByI Tryd.prog 96 8 := ⟨by kernel_rfl⟩
instance zc96 : ZcI Tryd.prog 96 [.nfn] := ⟨.nilFunc, by kernel_rfl, rfl, rfl⟩
instance ty98 : TyI Tryd.prog 98 false 1 := ⟨by kernel_rfl, by kernel_rfl⟩
instance no98 : NoI Tryd.prog 98 := ⟨by kernel_rfl⟩
instance by98 : ByI Tryd.prog 98 8 := ⟨by kernel_rfl⟩
instance zc98 : ZcI Tryd.prog 98 [.nfn] := ⟨.nilFunc, by kernel_rfl, rfl, rfl⟩
instance ty99 : TyI Tryd.prog 99 false 1 := ⟨by kernel_rfl, by kernel_rfl⟩
instance no99 : NoI Tryd.prog 99 := ⟨by kernel_rfl⟩
instance by99 : ByI Tryd.prog 99 8 := ⟨by kernel_rfl⟩
instance zc99 : ZcI Tryd.prog 99 [.nfn] := ⟨.nilFunc, by kernel_rfl, rfl, rfl⟩
instance ty100 : TyI Tryd.prog 100 true 3 := ⟨by kernel_rfl, by kernel_rfl⟩
instance no100 : NoI Tryd.prog 100 := ⟨by kernel_rfl⟩
instance by100 : ByI Tryd.prog 100 48 := ⟨by kernel_rfl⟩
instance fl100_0 : FldI Tryd.prog 100 0 0 9 := ⟨by kernel_rfl⟩
instance fl100_1 : FldI Tryd.prog 100 1 1 9 := ⟨by kernel_rfl⟩
instance fl100_2 : FldI Tryd.prog 100 2 2 61 := ⟨by kernel_rfl⟩
instance st100 : StI Tryd.prog 100 [(0, 1), (1, 1), (2, 1)] := ⟨by kernel_rfl⟩
instance zc100 : ZcI Tryd.prog 100 [.str ⟨#[]⟩, .str ⟨#[]⟩, .nifc] := ⟨.agg #[.string ⟨#[]⟩, .string ⟨#[]⟩, .nilIface], by kernel_rfl, rfl, rfl⟩
instance ty101 : TyI Tryd.prog 101 true 3 := ⟨by kernel_rfl, by kernel_rfl⟩
instance no101 : NoI Tryd.prog 101 := ⟨by kernel_rfl⟩
instance by101 : ByI Tryd.prog 101 48 := ⟨by kernel_rfl⟩
instance fl101_0 : FldI Tryd.prog 101 0 0 9 := ⟨by kernel_rfl⟩
instance fl101_1 : FldI Tryd.prog 101 1 1 9 := ⟨by kernel_rfl⟩
instance fl101_2 : FldI Tryd.prog 101 2 2 61 := ⟨by kernel_rfl⟩
instance st101 : StI Tryd.prog 101 [(0, 1), (1, 1), (2, 1)] := ⟨by kernel_rfl⟩
instance zc101 : ZcI Tryd.prog 101 [.str ⟨#[]⟩, .str ⟨#[]⟩, .nifc] := ⟨.agg #[.string ⟨#[]⟩, .string ⟨#[]⟩, .nilIface], by kernel_rfl, rfl, rfl⟩
instance ty102 : TyI Tryd.prog 102 false 1 := ⟨by kernel_rfl, by kernel_rfl⟩
instance no102 : NoI Tryd.prog 102 := ⟨by kernel_rfl⟩
instance by102 : ByI Tryd.prog 102 8 := ⟨by kernel_rfl⟩
instance zc102 : ZcI Tryd.prog 102 [.nfn] := ⟨.nilFunc, by kernel_rfl, rfl, rfl⟩
instance ty103 : TyI Tryd.prog 103 false 1 := ⟨by kernel_rfl, by kernel_rfl⟩
instance no103 : NoI Tryd.prog 103 := ⟨by kernel_rfl⟩
instance by103 : ByI Tryd.prog 103 8 := ⟨by kernel_rfl⟩
instance zc103 : ZcI Tryd.prog 103 [.nfn] := ⟨.nilFunc, by kernel_rfl, rfl, rfl⟩
instance ty104 : TyI Tryd.prog 104 true 20 := ⟨by kernel_rfl, by kernel_rfl⟩
instance no104 : NoI Tryd.prog 104 := ⟨by kernel_rfl⟩
instance by104 : ByI Tryd.prog 104 160 := ⟨by kernel_rfl⟩
instance ar104 : ArI Tryd.prog 104 20 48 := ⟨by kernel_rfl⟩
instance zc104 : ZcI Tryd.prog 104 [.int .u64 0, .int .u64 0, .int .u64 0, .int .u64 0, .int .u64 0, .int .u64 0, .int .u64 0, .int .u64 0, .int .u64 0, .int .u64 0, .int .u64 0, .int .u64 0, .int .u64 0, .int .u64 0, .int .u64 0, .int .u64 0, .int .u64 0, .int .u64 0, .int .u64 0, .int .u64 0] := ⟨.agg #[.int .u64 0, .int .u64 0, .int .u64 0, .int .u64 0, .int .u64 0, .int .u64 0, .int .u64 0, .int .u64 0, .int .u64 0, .int .u64 0, .int .u64 0, .int .u64 0, .int .u64 0, .int .u64 0, .int .u64 0, .int .u64 0, .int .u64 0, .int .u64 0, .int .u64 0, .int .u64 0], by kernel_rfl, rfl, rfl⟩
instance ty105 : TyI Tryd.prog 105 false 1 := ⟨by kernel_rfl, by kernel_rfl⟩
instance no105 : NoI Tryd.prog 105 := ⟨by kernel_rfl⟩
instance by105 : ByI Tryd.prog 105 4 := ⟨by kernel_rfl⟩
instance ud105 : UdI Tryd.prog 105 (.int .u32) := ⟨by kernel_rfl⟩
instance zc105 : ZcI Tryd.prog 105 [.int .u32 0] := ⟨.int .u32 0, by kernel_rfl, rfl, rfl⟩
instance ty106 : TyI Tryd.prog 106 true 65 := ⟨by kernel_rfl, by kernel_rfl⟩
instance no106 : NoI Tryd.prog 106 := ⟨by kernel_rfl⟩
instance by106 : ByI Tryd.prog 106 65 := ⟨by kernel_rfl⟩
instance ar106 : ArI Tryd.prog 106 65 5 := ⟨by kernel_rfl⟩
instance zc106 : ZcI Tryd.prog 106 (List.replicate 65 (.int .u8 0)) := ⟨.agg (Array.replicate 65 (.int .u8 0)), by kernel_rfl, by kernel_rfl, by kernel_rfl⟩
instance ty107 : TyI Tryd.prog 107 false 1 := ⟨by kernel_rfl, by kernel_rfl⟩
instance no107 : NoI Tryd.prog 107 := ⟨by kernel_rfl⟩
instance by107 : ByI Tryd.prog 107 8 := ⟨by kernel_rfl⟩
instance zc107 : ZcI Tryd.prog 107 [.nfn] := ⟨.nilFunc, by kernel_rfl, rfl, rfl⟩
instance ty108 : TyI Tryd.prog 108 false 1 := ⟨by kernel_rfl, by kernel_rfl⟩
instance no108 : NoI Tryd.prog 108 := ⟨by kernel_rfl⟩
instance by108 : ByI Tryd.prog 108 8 := ⟨by kernel_rfl⟩
instance zc108 : ZcI Tryd.prog 108 [.nfn] := ⟨.nilFunc, by kernel_rfl, rfl, rfl⟩
instance ty109 : TyI Tryd.prog 109 true 256 := ⟨by kernel_rfl, by kernel_rfl⟩
instance no109 : NoI Tryd.prog 109 := ⟨by kernel_rfl⟩
instance by109 : ByI Tryd.prog 109 256 := ⟨by kernel_rfl⟩
instance ar109 : ArI Tryd.prog 109 256 5 := ⟨by kernel_rfl⟩
instance zc109 : ZcI Tryd.prog 109 (List.replicate 256 (.int .u8 0)) := ⟨.agg (Array.replicate 256 (.int .u8 0)), by kernel_rfl, by kernel_rfl, by kernel_rfl⟩
instance ty110 : TyI Tryd.prog 110 true 2 := ⟨by kernel_rfl, by kernel_rfl⟩
instance no110 : NoI Tryd.prog 110 := ⟨by kernel_rfl⟩
instance by110 : ByI Tryd.prog 110 2 := ⟨by kernel_rfl⟩
instance fl110_0 : FldI Tryd.prog 110 0 0 5 := ⟨by kernel_rfl⟩
instance fl110_1 : FldI Tryd.prog 110 1 1 5 := ⟨by kernel_rfl⟩
instance st110 : StI Tryd.prog 110 [(0, 1), (1, 1)] := ⟨by kernel_rfl⟩
instance zc110 : ZcI Tryd.prog 110 [.int .u8 0, .int .u8 0] := ⟨.agg #[.int .u8 0, .int .u8 0], by kernel_rfl, rfl, rfl⟩
instance ty111 : TyI Tryd.prog 111 true 2 := ⟨by kernel_rfl, by kernel_rfl⟩
instance no111 : NoI Tryd.prog 111 := ⟨by kernel_rfl⟩
instance by111 : ByI Tryd.prog 111 2 := ⟨by kernel_rfl⟩
instance fl111_0 : FldI Tryd.prog 111 0 0 5 := ⟨by kernel_rfl⟩
instance fl111_1 : FldI Tryd.prog 111 1 1 5 := ⟨by kernel_rfl⟩
instance st111 : StI Tryd.prog 111 [(0, 1), (1, 1)] := ⟨by kernel_rfl⟩
instance zc111 : ZcI Tryd.prog 111 [.int .u8 0, .int .u8 0] := ⟨.agg #[.int .u8 0, .int .u8 0], by kernel_rfl, rfl, rfl⟩
instance ty112 : TyI Tryd.prog 112 true 32 := ⟨by kernel_rfl, by kernel_rfl⟩
instance no112 : NoI Tryd.prog 112 := ⟨by kernel_rfl⟩
instance by112 : ByI Tryd.prog 112 32 := ⟨by kernel_rfl⟩
instance ar112 : ArI Tryd.prog 112 16 111 := ⟨by kernel_rfl⟩
instance zc112 : ZcI Tryd.prog 112 [.int .u8 0, .int .u8 0, .int .u8 0, .int .u8 0, .int .u8 0, .int .u8 0, .int .u8 0, .int .u8 0, .int .u8 0, .int .u8 0, .int .u8 0, .int .u8 0, .int .u8 0, .int .u8 0, .int .u8 0, .int .u8 0, .int .u8 0, .int .u8 0, .int .u8 0, .int .u8 0, .int .u8 0, .int .u8 0, .int .u8 0, .int .u8 0, .int .u8 0, .int .u8 0, .int .u8 0, .int .u8 0, .int .u8 0, .int .u8 0, .int .u8 0, .int .u8 0] := ⟨.agg #[.int .u8 0, .int .u8 0, .int .u8 0, .int .u8 0, .int .u8 0, .int .u8 0, .int .u8 0, .int .u8 0, .int .u8 0, .int .u8 0, .int .u8 0, .int .u8 0, .int .u8 0, .int .u8 0, .int .u8 0, .int .u8 0, .int .u8 0, .int .u8 0, .int .u8 0, .int .u8 0, .int .u8 0, .int .u8 0, .int .u8 0, .int .u8 0, .int .u8 0, .int .u8 0, .int .u8 0, .int .u8 0, .int .u8 0, .int .u8 0, .int .u8 0, .int .u8 0], by kernel_rfl, rfl, rfl⟩
instance ty114 : TyI Tryd.prog 114 false 1 := ⟨by kernel_rfl, by kernel_rfl⟩
instance no114 : NoI Tryd.prog 114 := ⟨by kernel_rfl⟩
instance by114 : ByI Tryd.prog 114 8 := ⟨by kernel_rfl⟩
instance zc114 : ZcI Tryd.prog 114 [.nfn] := ⟨.nilFunc, by kernel_rfl, rfl, rfl⟩
instance ty115 : TyI Tryd.prog 115 false 1 := ⟨by kernel_rfl, by kernel_rfl⟩
instance no115 : NoI Tryd.prog 115 := ⟨by kernel_rfl⟩
instance by115 : ByI Tryd.prog 115 8 := ⟨by kernel_rfl⟩
instance zc115 : ZcI Tryd.prog 115 [.nfn] := ⟨.nilFunc, by kernel_rfl, rfl, rfl⟩
instance ty116 : TyI Tryd.prog 116 false 1 := ⟨by kernel_rfl, by kernel_rfl⟩
instance no116 : NoI Tryd.prog 116 := ⟨by kernel_rfl⟩
instance by116 : ByI Tryd.prog 116 8 := ⟨by kernel_rfl⟩
instance zc116 : ZcI Tryd.prog 116 [.nfn] := ⟨.nilFunc, by kernel_rfl, rfl, rfl⟩
instance ty117 : TyI Tryd.prog 117 false 1 := ⟨by kernel_rfl, by kernel_rfl⟩
instance no117 : NoI Tryd.prog 117 := ⟨by kernel_rfl⟩
instance by117 : ByI Tryd.prog 117 8 := ⟨by kernel_rfl⟩
instance zc117 : ZcI Tryd.prog 117 [.nptr] := ⟨.pointer none, by kernel_rfl, rfl, rfl⟩
instance ty118 : TyI Tryd.prog 118 true 1 := ⟨by kernel_rfl, by kernel_rfl⟩
instance no118 : NoI Tryd.prog 118 := ⟨by kernel_rfl⟩
instance by118 : ByI Tryd.prog 118 16 := ⟨by kernel_rfl⟩
instance fl118_0 : FldI Tryd.prog 118 0 0 9 := ⟨by kernel_rfl⟩
instance st118 : StI Tryd.prog 118 [(0, 1)] := ⟨by kernel_rfl⟩
instance zc118 : ZcI Tryd.prog 118 [.str ⟨#[]⟩] := ⟨.agg #[.string ⟨#[]⟩], by kernel_rfl, rfl, rfl⟩
instance ty119 : TyI Tryd.prog 119 true 1 := ⟨by kernel_rfl, by kernel_rfl⟩
instance no119 : NoI Tryd.prog 119 := ⟨by kernel_rfl⟩
instance by119 : ByI Tryd.prog 119 16 := ⟨by kernel_rfl⟩
instance fl119_0 : FldI Tryd.prog 119 0 0 9 := ⟨by kernel_rfl⟩
instance st119 : StI Tryd.prog 119 [(0, 1)] := ⟨by kernel_rfl⟩
instance zc119 : ZcI Tryd.prog 119 [.str ⟨#[]⟩] := ⟨.agg #[.string ⟨#[]⟩], by kernel_rfl, rfl, rfl⟩
instance ty120 : TyI Tryd.prog 120 false 1 := ⟨by kernel_rfl, by kernel_rfl⟩
instance no120 : NoI Tryd.prog 120 := ⟨by kernel_rfl⟩
instance by120 : ByI Tryd.prog 120 8 := ⟨by kernel_rfl⟩
instance zc120 : ZcI Tryd.prog 120 [.nfn] := ⟨.nilFunc, by kernel_rfl, rfl, rfl⟩
instance ty121 : TyI Tryd.prog 121 true 32 := ⟨by kernel_rfl, by kernel_rfl⟩
instance no121 : NoI Tryd.prog 121 := ⟨by kernel_rfl⟩
instance by121 : ByI Tryd.prog 121 32 := ⟨by kernel_rfl⟩
instance ar121 : ArI Tryd.prog 121 32 5 := ⟨by kernel_rfl⟩
instance zc121 : ZcI Tryd.prog 121 [.int .u8 0, .int .u8 0, .int .u8 0, .int .u8 0, .int .u8 0, .int .u8 0, .int .u8 0, .int .u8 0, .int .u8 0, .int .u8 0, .int .u8 0, .int .u8 0, .int .u8 0, .int .u8 0, .int .u8 0, .int .u8 0, .int .u8 0, .int .u8 0, .int .u8 0, .int .u8 0, .int .u8 0, .int .u8 0, .int .u8 0, .int .u8 0, .int .u8 0, .int .u8 0, .int .u8 0, .int .u8 0, .int .u8 0, .int .u8 0, .int .u8 0, .int .u8 0] := ⟨.agg #[.int .u8 0, .int .u8 0, .int .u8 0, .int .u8 0, .int .u8 0, .int .u8 0, .int .u8 0, .int .u8 0, .int .u8 0, .int .u8 0, .int .u8 0, .int .u8 0, .int .u8 0, .int .u8 0, .int .u8 0, .int .u8 0, .int .u8 0, .int .u8 0, .int .u8 0, .int .u8 0, .int .u8 0, .int .u8 0, .int .u8 0, .int .u8 0, .int .u8 0, .int .u8 0, .int .u8 0, .int .u8 0, .int .u8 0, .int .u8 0, .int .u8 0, .int .u8 0], by kernel_rfl, rfl, rfl⟩
instance ty127 : TyI Tryd.prog 127 false 1 := ⟨by kernel_rfl, by kernel_rfl⟩
instance no127 : NoI Tryd.prog 127 := ⟨by kernel_rfl⟩
instance by127 : ByI Tryd.prog 127 8 := ⟨by kernel_rfl⟩
instance zc127 : ZcI Tryd.prog 127 [.nfn] := ⟨.nilFunc, by kernel_rfl, rfl, rfl⟩
instance ty130 : TyI Tryd.prog 130 false 1 := ⟨by kernel_rfl, by kernel_rfl⟩
instance no130 : NoI Tryd.prog 130 := ⟨by kernel_rfl⟩
instance by130 : ByI Tryd.prog 130 8 := ⟨by kernel_rfl⟩
instance zc130 : ZcI Tryd.prog 130 [.nfn] := ⟨.nilFunc, by kernel_rfl, rfl, rfl⟩
instance fn3 : FnI Tryd.prog 3 := ⟨by kernel_rfl⟩
instance fn4 : FnI Tryd.prog 4 := ⟨by kernel_rfl⟩
instance fn5 : FnI Tryd.prog 5 := ⟨by kernel_rfl⟩
instance fn6 : FnI Tryd.prog 6 := ⟨by kernel_rfl⟩
instance fn7 : FnI Tryd.prog 7 := ⟨by kernel_rfl⟩
instance fn8 : FnI Tryd.prog 8 := ⟨by kernel_rfl⟩
instance fn9 : FnI Tryd.prog 9 := ⟨by kernel_rfl⟩
instance fn10 : FnI Tryd.prog 10 := ⟨by kernel_rfl⟩
instance fn11 : FnI Tryd.prog 11 := ⟨by kernel_rfl⟩
instance fn12 : FnI Tryd.prog 12 := ⟨by kernel_rfl⟩
instance fn13 : FnI Tryd.prog 13 := ⟨by kernel_rfl⟩
instance fn14 : FnI Tryd.prog 14 := ⟨by kernel_rfl⟩
instance fn15 : FnI Tryd.prog 15 := ⟨by kernel_rfl⟩
instance fn16 : FnI Tryd.prog 16 := ⟨by kernel_rfl⟩
instance fn17 : FnI Tryd.prog 17 := ⟨by kernel_rfl⟩
instance fn18 : FnI Tryd.prog 18 := ⟨by kernel_rfl⟩
instance fn19 : FnI Tryd.prog 19 := ⟨by kernel_rfl⟩
instance fn20 : FnI Tryd.prog 20 := ⟨by kernel_rfl⟩
instance fn21 : FnI Tryd.prog 21 := ⟨by kernel_rfl⟩
instance fn22 : FnI Tryd.prog 22 := ⟨by kernel_rfl⟩
instance fn23 : FnI Tryd.prog 23 := ⟨by kernel_rfl⟩
instance fn24 : FnI Tryd.prog 24 := ⟨by kernel_rfl⟩
instance fn25 : FnI Tryd.prog 25 := ⟨by kernel_rfl⟩
instance fn26 : FnI Tryd.prog 26 := ⟨by kernel_rfl⟩
instance fn27 : FnI Tryd.prog 27 := ⟨by kernel_rfl⟩
instance fn28 : FnI Tryd.prog 28 := ⟨by kernel_rfl⟩
instance fn29 : FnI Tryd.prog 29 := ⟨by kernel_rfl⟩
instance fn30 : FnI Tryd.prog 30 := ⟨by kernel_rfl⟩
instance fn31 : FnI Tryd.prog 31 := ⟨by kernel_rfl⟩
instance fn32 : FnI Tryd.prog 32 := ⟨by kernel_rfl⟩
instance fn33 : FnI Tryd.prog 33 := ⟨by kernel_rfl⟩
instance fn34 : FnI Tryd.prog 34 := ⟨by kernel_rfl⟩
instance fn35 : FnI Tryd.prog 35 := ⟨by kernel_rfl⟩
instance fn36 : FnI Tryd.prog 36 := ⟨by kernel_rfl⟩
instance fn37 : FnI Tryd.prog 37 := ⟨by kernel_rfl⟩
instance fn38 : FnI Tryd.prog 38 := ⟨by kernel_rfl⟩
instance fn39 : FnI Tryd.prog 39 := ⟨by kernel_rfl⟩
instance fn40 : FnI Tryd.prog 40 := ⟨by kernel_rfl⟩
instance fn41 : FnI Tryd.prog 41 := ⟨by kernel_rfl⟩
instance fn42 : FnI Tryd.prog 42 := ⟨by kernel_rfl⟩
instance fn43 : FnI Tryd.prog 43 := ⟨by kernel_rfl⟩
instance fn44 : FnI Tryd.prog 44 := ⟨by kernel_rfl⟩
instance fn45 : FnI Tryd.prog 45 := ⟨by kernel_rfl⟩
instance fn46 : FnI Tryd.prog 46 := ⟨by kernel_rfl⟩
instance fn47 : FnI Tryd.prog 47 := ⟨by kernel_rfl⟩
instance fn48 : FnI Tryd.prog 48 := ⟨by kernel_rfl⟩
instance fn49 : FnI Tryd.prog 49 := ⟨by kernel_rfl⟩
instance fn50 : FnI Tryd.prog 50 := ⟨by kernel_rfl⟩
instance fn51 : FnI Tryd.prog 51 := ⟨by kernel_rfl⟩
instance fn52 : FnI Tryd.prog 52 := ⟨by kernel_rfl⟩
instance fn53 : FnI Tryd.prog 53 := ⟨by kernel_rfl⟩
instance fn54 : FnI Tryd.prog 54 := ⟨by kernel_rfl⟩
instance fn55 : FnI Tryd.prog 55 := ⟨by kernel_rfl⟩
instance fn56 : FnI Tryd.prog 56 := ⟨by kernel_rfl⟩
instance fn57 : FnI Tryd.prog 57 := ⟨by kernel_rfl⟩
instance fn59 : FnI Tryd.prog 59 := ⟨by kernel_rfl⟩
instance fn60 : FnI Tryd.prog 60 := ⟨by kernel_rfl⟩
instance fn61 : FnI Tryd.prog 61 := ⟨by kernel_rfl⟩
instance fn62 : FnI Tryd.prog 62 := ⟨by kernel_rfl⟩
instance fn63 : FnI Tryd.prog 63 := ⟨by kernel_rfl⟩
instance fn64 : FnI Tryd.prog 64 := ⟨by kernel_rfl⟩
instance fn65 : FnI Tryd.prog 65 := ⟨by kernel_rfl⟩
instance fn66 : FnI Tryd.prog 66 := ⟨by kernel_rfl⟩
instance fn67 : FnI Tryd.prog 67 := ⟨by kernel_rfl⟩
instance fn68 : FnI Tryd.prog 68 := ⟨by kernel_rfl⟩
instance fn71 : FnI Tryd.prog 71 := ⟨by kernel_rfl⟩
instance fn72 : FnI Tryd.prog 72 := ⟨by kernel_rfl⟩
instance fn74 : FnI Tryd.prog 74 := ⟨by kernel_rfl⟩
instance fn75 : FnI Tryd.prog 75 := ⟨by kernel_rfl⟩
instance fn76 : FnI Tryd.prog 76 := ⟨by kernel_rfl⟩
instance fn77 : FnI Tryd.prog 77 := ⟨by kernel_rfl⟩
instance fn78 : FnI Tryd.prog 78 := ⟨by kernel_rfl⟩
instance fn79 : FnI Tryd.prog 79 := ⟨by kernel_rfl⟩
instance fn80 : FnI Tryd.prog 80 := ⟨by kernel_rfl⟩
instance fn81 : FnI Tryd.prog 81 := ⟨by kernel_rfl⟩
instance fn82 : FnI Tryd.prog 82 := ⟨by kernel_rfl⟩
instance fn83 : FnI Tryd.prog 83 := ⟨by kernel_rfl⟩
instance fn85 : FnI Tryd.prog 85 := ⟨by kernel_rfl⟩
instance fn86 : FnI Tryd.prog 86 := ⟨by kernel_rfl⟩
instance fn87 : FnI Tryd.prog 87 := ⟨by kernel_rfl⟩
instance fn88 : FnI Tryd.prog 88 := ⟨by kernel_rfl⟩
theorem mixed : Tryd.prog.follows .mixedOrders = true := by kernel_rfl
end Go.Av

namespace Go.Av
open Go.Proofs
set_option maxRecDepth 10000
set_option linter.unusedSimpArgs false
set_option linter.unusedVariables false

/-- The place of an array's cell, by a number. -/
theorem w_indexArrN {P : Program} {N : Nat} {env : Env} {H : Heap} {ty : TypeId} {t e : TypeId} {x y : Operand} {id g i j m n : Nat} {k : IntKind} {sz : Nat} {agg : Bool} {o : AObj} [ArI P t m e] [TyI P e agg sz] (hx : aev env x = .pt id g i j) (hid : H[id]? = some o) (hg : o.gen = g)
    (hy : aev env y = .int k (n : Int)) (h1 : n < m) : V1 P N (.indexAddr t x y) ty env H (.pt id g i (j + n * sz)) := w_indexArr (agg := agg) (e := e) hx hid hg hy (by omega) (by omega)

theorem p64 {k : Nat} (h : k < 64) : 2 ^ k < 18446744073709551616 := Nat.pow_lt_pow_right (a := 2) (n := 64) (by decide) h
def KD : Know := ⟨0, Lib.deBruijn64tab.map fun n : Nat => Value.int .u8 (n : Int)⟩
theorem KD_at {q k : Nat} (hi : q < 64) (h : Lib.deBruijn64tab.getD q 0 = k) : KD.tab[q]? = some (.int .u8 (k : Int)) := by
  have hlen : Lib.deBruijn64tab.length = 64 := rfl
  unfold KD
  dsimp only
  generalize Lib.deBruijn64tab = l at h hlen
  rw [List.getElem?_map]
  cases hq : l[q]? with
  | none => rw [List.getElem?_eq_none_iff] at hq; omega
  | some v =>
    rw [List.getD_eq_getElem?_getD, hq] at h
    subst h
    rfl
theorem bits_TZ (x : Nat) (hx : x < 18446744073709551616) (H : Heap) : ACT Tryd.prog KD 55 [.int .u64 (x : Int)] H (Ret (.int .i64 ((Lib.ctz 64 x : Nat) : Int)) H) := by
  refine ACT.body (N := 14) [.tmp 2] Tryd.func55 rfl rfl rfl (Nat.le_of_ble_eq_true rfl) fun B hB => ?_
  refine Z2 ?_
  refine Z9 ?_
  refine Za ?_
  refine Zb ?_
  refine aw_cond rfl (fun hc => ?_) (fun hc => ?_)
  · refine Z2 ?_
    refine Zc ?_
    rw [show Lib.ctz 64 x = 64 by simp at hc; simp [Lib.ctz, hc]]
    exact Zd
  · have hx0 : x ≠ 0 := by simp at hc; omega
    obtain ⟨hlow, hk⟩ := Lib.lowest_bit 64 x hx0 hx
    generalize Lib.ctz 64 x = k at hlow hk
    obtain ⟨hi, htab⟩ := Lib.deBruijn64_at k hk
    have hlt : 2 ^ k < 18446744073709551616 := p64 hk
    generalize hm : 2 ^ k = m at hlow hi htab hlt
    generalize hq : m * 285870213051353865 % 18446744073709551616 / 288230376151711744 = q at hi htab
    have hu := KD_at hi htab
    refine Zf ?_
    refine ao1 (by decide) (o_neg (r := ((18446744073709551616 - x : Nat) : Int)) rfl (by rw [IntKind.wrap_u64]; omega)) ?_
    refine ao1 (by decide) (o_and (r := (m : Int)) rfl rfl (by rw [u64_and x _ hx (by omega)]; rw [show (18446744073709551616 : Nat) = 2 ^ 64 from rfl, hlow])) ?_
    refine ao1 (by decide) (o_mul (r := ((m * 285870213051353865 % 18446744073709551616 : Nat) : Int)) rfl rfl (by rw [IntKind.wrap_u64]; omega)) ?_
    refine ao1 (by decide) (o_shr (r := (q : Int)) rfl rfl (by omega) (by rw [← hq, show ((2 : Int) ^ min (58 : Int).toNat IntKind.u64.bits) = ((288230376151711744 : Nat) : Int) from rfl, Int.fdiv_eq_ediv_of_nonneg _ (by omega)]; exact (Int.natCast_ediv _ _).symm)) ?_
    refine ao1 (by decide) (o_indexGlob (n := q) rfl rfl (by omega)) ?_
    refine ao1 (by decide) (o_loadGlob (K := KD) (v := .int .u8 (k : Int)) rfl rfl rfl (by rw [Nat.mul_one]; exact hu) (fun _ _ _ => .int)) ?_
    refine ao1 (by decide) (o_conv_int (r := (k : Int)) rfl (wrap64_ok (by omega) (by omega))) ?_
    refine Zc ?_
    exact Zd

abbrev eInt (i : Int) : List AV := [.int .i64 i]
theorem ints_bel (n : Nat) (l : List Int) : ∀ r ∈ l.map eInt, AV.bels n r = true := rows_bel (e := eInt) (fun _ => rfl) l
theorem ints_len (l : List Int) : ∀ r ∈ l.map eInt, r.length = 1 := rows_len (e := eInt) (n := 1) (fun _ => rfl) l
theorem eWn_bels (n : Nat) (w : Nat → Nat) : AV.bels n (eWn w) = true := by rw [AV.bels_iff]; intro v hv; simp only [eWn, List.mem_map] at hv; obtain ⟨i, _, rfl⟩ := hv; rfl
theorem eWn_len (w : Nat → Nat) : (eWn w).length = 4 := by simp [eWn]
theorem eW0 (l : List Int) : eWn (wd (fpre l 0)) = [.int .u64 0, .int .u64 0, .int .u64 0, .int .u64 0] := by
  rw [fpre_zero]; simp [eWn, wd_zero, List.range_succ]
def pof (l : List Int) : Nat → Nat := wd (fpre l (okn l))
theorem set_of (l : List Int) (hl : l.length ≤ 9223372036854775807) (H : Heap) : AC Tryd.prog 32 [.pl (l.map eInt)] H (Ret (.tup [.agg (eWn (pof l)), .bool (sok l)]) H) := by
  refine AC.body (N := 34) [.cell 2 50, .tmp 3] Tryd.func32 rfl rfl rfl (Nat.le_of_ble_eq_true rfl) fun B hB => ?_
  refine Z2 ?_
  refine Zg ?_
  refine Zi ?_
  refine Zg ?_
  refine Z6 ?_
  refine Z3 ?_
  refine Z6 ?_
  refine Zl ?_
  refine Z7 ?_
  refine Zn ?_
  refine aw_loop (G := Nat) (fun k => k ≤ l.length ∧ ∀ i, i < k → okB l i = true) (fun k => [(2, .pt (Lid H.length 0) 0 0 0), (4, .pt (Lid H.length 1) 0 0 0), (5, .int .i64 (lastN l k)), (8, .pl (l.map eInt)), (9, .int .i64 (l.length : Int)), (10, .int .i64 (k : Int))]) (fun k => H ++ [⟨0, 4, [[.int .u64 0, .int .u64 0, .int .u64 0, .int .u64 0]]⟩, ⟨0, 4, [eWn (wd (fpre l k))]⟩]) (fun k => l.length - k) 0 ⟨Nat.zero_le _, fun i hi => by omega⟩ (by repeat (first | exact Sub.nil | refine Sub.cons (by first | rfl | (simp [get]; done)) ?_)) (.inl (by rw [eW0])) ?_
  rintro k ⟨hk, hno⟩
  refine Zq ?_
  refine aw_cond rfl (fun hc => ?_) (fun hc => ?_)
  · have hlt : k < l.length := by simpa using hc
    obtain ⟨x, hx, hxl⟩ := get_in hlt
    have hr := map_get eInt hx
    have hok := okB_last hx hno
    refine Z2 ?_
    refine Zr ?_
    refine Zs ?_
    refine Zc ?_
    refine aw_out 20 (.bool (!okB l k)) ?_ ?_
    · refine Z7 ?_
      refine Z7 ?_
      refine Zt ?_
      refine Zu ?_
      refine ao_split rfl rfl (fun hg3 => ?_) (fun hg3 => ?_)
      · refine Zy ?_
        exact Zz
      · refine Z10 ?_
        refine Z11 ?_
        refine Zx ?_
        exact Zz
    refine Z1 ?_
    refine aw_cond rfl (fun hc => ?_) (fun hc => ?_)
    · refine Z2 ?_
      refine Z12 ?_
      refine Z13 ?_
      refine Z14 ?_
      rw [sok_false hlt (by simpa using hc), show wd (fpre l k) = pof l by rw [pof, okn_at hlt hno (by simpa using hc)]]
      exact Z15
    · have hokk : okB l k = true := by simpa using hc
      obtain ⟨h0, h256⟩ := okB_range hx hokk
      obtain ⟨n, rfl⟩ : ∃ n : Nat, x = n := ⟨x.toNat, by omega⟩
      have hn4 : n / 64 < 4 := by omega
      have hp : 2 ^ (n % 64) < 18446744073709551616 := p64 (by omega)
      have hcell : (eWn (wd (fpre l k)))[0 + n / 64 * 1]? = some (.int .u64 ((wd (fpre l k) (n / 64) : Nat) : Int)) := by rw [Nat.zero_add, Nat.mul_one]; exact eWn_get _ hn4
      have hlast : lastN l (k + 1) = (n : Int) := by rw [lastN, if_neg (by omega), Nat.add_sub_cancel, hx]; rfl
      have hset : (eWn (wd (fpre l k))).take (0 + n / 64 * 1) ++ [AV.int .u64 ((wd (fpre l k) (n / 64) ||| 2 ^ (n % 64) : Nat) : Int)] ++ (eWn (wd (fpre l k))).drop (0 + n / 64 * 1 + 1) = eWn (wd (fpre l (k + 1))) := by
        rw [Nat.zero_add, Nat.mul_one, eWn_set _ hn4, fpre_step hx]
        refine eWn_congr fun j _ => ?_
        rw [wd_put]
        split <;> simp_all
      refine Ze ?_
      refine Zc ?_
      refine aw_drawR mixed (some 9) 1 ?_
      refine Z16 ?_
      refine Z17 ?_
      refine aq0 1 rfl (by decide +kernel) (by decide) (fun _ => o_quo (r := ((n / 64 : Nat) : Int)) rfl rfl (by omega) (wrap64_ok (n := ((n / 64 : Nat) : Int)) (by omega) (by omega))) ?_
      refine aqr 2 rfl (by decide +kernel) (by decide) (fun G hG => w_indexArrN rfl (lk rfl hG) rfl rfl hn4) ?_
      refine aqr 3 rfl (by decide +kernel) (by decide) (fun G hG => w_load1 (v := .int .u64 _) rfl (lk rfl hG) rfl rfl hcell) ?_
      refine Z18 ?_
      refine aq0 5 rfl (by decide +kernel) (by decide) (fun _ => o_rem (r := ((n % 64 : Nat) : Int)) rfl rfl (by omega) rfl) ?_
      refine aq0 6 rfl (by decide +kernel) (by decide) (fun _ => o_shl (r := ((2 ^ (n % 64) : Nat) : Int)) rfl rfl (by omega) (by rw [show min ((n % 64 : Nat) : Int).toNat IntKind.u64.bits = n % 64 by show min (n % 64) 64 = _; omega, Int.one_mul]; rw [show ((2 : Int) ^ (n % 64)) = ((2 ^ (n % 64) : Nat) : Int) by simp]; exact u64_wrap _ hp)) ?_
      refine aq0 7 rfl (by decide +kernel) (by decide) (fun _ => o_or (r := ((wd (fpre l k) (n / 64) ||| 2 ^ (n % 64) : Nat) : Int)) rfl rfl (u64_or _ _ (wd_lt _ _) hp)) ?_
      refine aqr 8 rfl (by decide +kernel) (by decide) (fun G hG => w_indexArrN rfl (lk rfl hG) rfl rfl hn4) ?_
      refine aqs 9 rfl (by decide +kernel) (by first | exact fun _ => trivial | exact fun _ => ⟨_, rfl⟩ | exact fun _ => ⟨_, rfl, rfl⟩ | exact fun _ => ⟨_, rfl, rfl, rfl⟩ | exact yet_done (by decide +kernel)) (by rintro _ ⟨⟩) (w_storeP (sz := 1) (v := .int .u64 _) (r' := eWn (wd (fpre l (k + 1)))) rfl rfl rfl rfl rfl rfl rfl rfl (by show _ ≤ 4; omega) hset) ?_
      refine Z19 ?_
      refine Z2 ?_
      refine Z1a ?_
      refine Z1b ?_
      refine ⟨k + 1, by omega, ⟨by omega, fun i hi => ?_⟩, by rw [hlast]; exact (by repeat (first | exact Sub.nil | refine Sub.cons (by first | rfl | (simp [get]; done)) ?_)), .refl _ _⟩
      rcases Nat.lt_or_eq_of_le (Nat.le_of_lt_succ hi) with h | h
      · exact hno i h
      · subst h; exact hokk
  · have : k = l.length := by simp at hc; omega
    subst this
    refine Z2 ?_
    refine Z12 ?_
    refine Z13 ?_
    refine Z14 ?_
    rw [sok_true hno, show wd (fpre l l.length) = pof l by rw [pof, okn_all hno]]
    exact Z15
end Go.Av

/-
  A REGION THAT DRAWS: two rows of the call's own are as1 they were.
-/
namespace Go.Av
def AtR2 (H0 L0 : Heap) (k1 k2 : Nat) (H : Heap) : Prop := ∃ G : Heap, H = H0 ++ G ∧ G[k1]? = L0[k1]? ∧ G[k2]? = L0[k2]?
section
variable {P : Program} {N : Nat} {B : Base} {ops : Array Oper} {a : Option Nat} {C : Heap → Prop} {F : Env → Heap → Prop} {Q : Post}
variable {fuel : Nat} {listed : Array Bool} {env : Env} {H H0 L : Heap} {op : Op} {ty : TypeId} {pos : String} {after : Array Edge} {v : AV} {id : Nat} {l : List Oper}
theorem aw_draw2 (hm : P.follows .mixedOrders = true) (a : Option Nat) (k1 k2 : Nat) (h : AAny P N B l.toArray a (AtR2 H0 L k1 k2) (Q .nrm) l.length (Array.replicate l.length false) env (H0 ++ L)) : AWp P N B (.region id l.toArray true) Q env (H0 ++ L) := aw_draw hm a _ h
theorem aqr2 {d k1 k2 : Nat} {L0 : Heap} (i : Nat) (hi : ops[i]? = some ⟨some d, op, ty, pos, after, none⟩) (hB : firstB ops listed a i = true) (hd : DN d N) (h1 : ∀ G : Heap, G[k1]? = L0[k1]? → G[k2]? = L0[k2]? → V1 P N op ty (renv ⟨some d, op, ty, pos, after, none⟩ env) (H0 ++ G) v)
    (h : AAny P N B ops a (AtR2 H0 L0 k1 k2) F fuel (listed.setIfInBounds i true) ((d, v) :: env) H) : AAny P N B ops a (AtR2 H0 L0 k1 k2) F (fuel + 1) listed env H :=
  aq1 i hi hB hd (by rintro _ ⟨G, rfl, hG1, hG2⟩; exact h1 G hG1 hG2) h
theorem aqyr2 {d j g k1 k2 : Nat} {want : Bool} {L0 : Heap} (i : Nat) (hi : ops[i]? = some ⟨some d, op, ty, pos, after, some (j, want)⟩) (hB : firstB ops listed a i = true) (hd : DN d N) (hj : (ops[j]?).bind (·.dst) = some g) (hb : get env g = .bool want)
    (h1 : ∀ G : Heap, G[k1]? = L0[k1]? → G[k2]? = L0[k2]? → V1 P N op ty (renv ⟨some d, op, ty, pos, after, some (j, want)⟩ env) (H0 ++ G) v)
    (h : AAny P N B ops a (AtR2 H0 L0 k1 k2) F fuel (listed.setIfInBounds i true) ((d, v) :: env) H) : AAny P N B ops a (AtR2 H0 L0 k1 k2) F (fuel + 1) listed env H :=
  aqy1 i hi hB hd hj hb (by rintro _ ⟨G, rfl, hG1, hG2⟩; exact h1 G hG1 hG2) h
end
end Go.Av

namespace Go.Av
open Go.Proofs
set_option maxRecDepth 10000
set_option linter.unusedSimpArgs false
set_option linter.unusedVariables false

theorem sok_len {l : List Int} (h : sok l = true) : ∀ k : Nat, k < l.length → (k : Int) ≤ l.getD k 0 := by
  intro k
  induction k with
  | zero =>
    intro hk
    have hm : l[0]? = some l[0] := List.getElem?_eq_getElem hk
    have := okB_range hm (sok_get h hk)
    simp only [List.getD_eq_getElem?_getD, hm, Option.getD_some]
    omega
  | succ k ih =>
    intro hk
    have hm : l[k + 1]? = some l[k + 1] := List.getElem?_eq_getElem hk
    have hm0 : l[k]? = some l[k] := List.getElem?_eq_getElem (by omega)
    have h1 := sok_get h hk
    rw [okB_get hm] at h1
    have ih := ih (by omega)
    simp only [List.getD_eq_getElem?_getD, hm0, hm, Option.getD_some] at ih ⊢
    simp only [Nat.add_sub_cancel, hm0, Bool.and_eq_true, Bool.or_eq_true, decide_eq_true_eq, beq_iff_eq] at h1
    omega
theorem sok_256 {l : List Int} (h : sok l = true) : l.length ≤ 256 := by
  rcases Nat.lt_or_ge 256 l.length with hl | hl
  · have h1 := sok_len h 256 hl
    have hm : l[256]? = some l[256] := List.getElem?_eq_getElem hl
    have := okB_range hm (sok_get h hl)
    simp only [List.getD_eq_getElem?_getD, hm, Option.getD_some] at h1
    omega
  · exact hl
theorem pof_ok {l : List Int} (h : sok l = true) : pof l = wd (inl l) := by
  rw [pof, okn_all fun i hi => sok_get h hi, fpre_all]
theorem set_Right (l : List Int) (hl : l.length ≤ 9223372036854775807) (H : Heap) : AC Tryd.prog 15 [.pl (l.map eInt)] H (Ret (.bool (sok l)) H) := by
  refine AC.body (N := 11) [.tmp 2] Tryd.func15 rfl rfl rfl (Nat.le_of_ble_eq_true rfl) fun B hB => ?_
  refine Z1c ?_
  refine Zj ?_
  refine Z1d ?_
  refine Z1g ?_
  refine Z1i ?_
  refine Z13 ?_
  refine Zi ?_
  refine Zu ?_
  refine Z14 ?_
  exact Zd
theorem set_both (a b : List Int) (ha : a.length ≤ 9223372036854775807) (hb : b.length ≤ 9223372036854775807) (H : Heap) : AC Tryd.prog 37 [.pl (a.map eInt), .pl (b.map eInt)] H (Ret (.tup [.agg (eWn (pof a)), .agg (eWn (pof b)), .bool (sok a && sok b)]) H) := by
  refine AC.body (N := 27) [.cell 4 50, .cell 5 50, .tmp 6] Tryd.func37 rfl rfl rfl (Nat.le_of_ble_eq_true rfl) fun B hB => ?_
  refine Z2 ?_
  refine Zg ?_
  refine Zg ?_
  refine Zi ?_
  refine Zj ?_
  refine Z1d ?_
  refine Z1g ?_
  refine Z1i ?_
  refine Z13 ?_
  refine Zi ?_
  refine Zj ?_
  refine Z1d ?_
  refine Z1g ?_
  refine Z1i ?_
  refine Z13 ?_
  refine Zh ?_
  refine Z5 ?_
  have hbel : ∀ n : Nat, (AV.tup [.agg (eWn (pof a)), .agg (eWn (pof b)), .bool (sok a && sok b)]).bel n = true := by intro n; simp [AV.bel, AV.bels, eWn_bels]
  refine Z1 ?_
  refine aw_draw2 mixed none 2 3 ?_
  refine Z16 ?_
  first | refine aqr2 0 rfl (by decide +kernel) (by decide) (fun G hG1 hG2 => w_loadR rfl (lk rfl hG1) rfl rfl (eWn_len _)) ?_ | refine aqr2 0 rfl (by decide +kernel) (by decide) (fun G hG1 hG2 => w_loadR rfl (lk rfl hG2) rfl rfl (eWn_len _)) ?_
  first | refine aqr2 1 rfl (by decide +kernel) (by decide) (fun G hG1 hG2 => w_loadR rfl (lk rfl hG1) rfl rfl (eWn_len _)) ?_ | refine aqr2 1 rfl (by decide +kernel) (by decide) (fun G hG1 hG2 => w_loadR rfl (lk rfl hG2) rfl rfl (eWn_len _)) ?_
  refine aq0 2 rfl (by decide +kernel) (by decide) (fun _ => o_move (v := .bool _) rfl) ?_
  refine aq0 3 rfl (by decide +kernel) (by decide) (fun _ => o_move (v := .bool _) rfl) ?_
  refine aq_split (g := 24) rfl (fun hg3 => ?_) (fun hg3 => ?_)
  · refine aqy0 (g := 24) 4 rfl (by decide +kernel) (by decide) rfl rfl (fun _ => o_move (v := .bool _) rfl) ?_
    refine Z1j ?_
    refine Z1k ?_
    refine Z1l ?_
    refine Z1m ?_
    refine Z19 ?_
    refine Z1 ?_
    rw [hg3] at hbel ⊢
    exact Z1n
  · refine aqn0 (g := 24) 4 rfl (by decide +kernel) (by decide) rfl rfl rfl ?_
    refine Z1j ?_
    refine Z1k ?_
    refine Z1l ?_
    refine Z1m ?_
    refine Z19 ?_
    refine Z1 ?_
    rw [hg3] at hbel ⊢
    exact Z1n
end Go.Av

