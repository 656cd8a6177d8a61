/-
  LOOPS THAT GATHER: what is forgotten at a round's end, rows that grow by one.
-/
import Derived.Test.YtmhfpopbhiloiaaDoorAv11
namespace Go.Av

mutual
theorem AV.bel_mono {n m : Nat} (h : n ≤ m) : ∀ v : AV, AV.bel n v = true → AV.bel m v = true
  | .sl _ _ _ _ _, hv => by simp [AV.bel] at hv ⊢; omega
  | .pt _ _ _ _, hv => by simp [AV.bel] at hv ⊢; omega
  | .agg cs, hv => AV.bels_mono h cs hv
  | .tup cs, hv => AV.bels_mono h cs hv
  | .fn _ p q, hv => by
    simp only [AV.bel, Bool.and_eq_true] at hv ⊢
    exact ⟨AV.bels_mono h p hv.1, AV.bels_mono h q hv.2⟩
  | .ifc _ v, hv => AV.bel_mono h v hv
  | .junk, _ | .int _ _, _ | .bool _, _ | .str _, _ | .flt _ _, _ | .nsl, _ | .pl _, _ | .pp _ _ _, _ | .nptr, _ | .nfn, _ | .nifc, _ | .raw _, _ | .know _ _, _ => rfl
theorem AV.bels_mono {n m : Nat} (h : n ≤ m) : ∀ vs : List AV, AV.bels n vs = true → AV.bels m vs = true
  | [], _ => rfl
  | v :: vs, hv => by
    simp only [AV.bels, Bool.and_eq_true] at hv ⊢
    exact ⟨AV.bel_mono h v hv.1, AV.bels_mono h vs hv.2⟩
end
theorem HBel.mono {n m : Nat} (h : n ≤ m) {M : Heap} (k : HBel n M) : HBel m M := fun o ho r hr => AV.bels_mono h r (k o ho r hr)

section
variable {B : Base} {H L G : Heap} {E : Env} {args : List AV}
/-- At a round's end, or anywhere: rows made behind L are forgotten. -/
theorem Fit.loc {L' : Heap} (hB : Begun B H args) (hL : L' = L ++ G) (hE : EBel (H.length + L.length) E) (hr : ∀ o ∈ L, ∀ r ∈ o.rows, AV.bels (H.length + L.length) r = true) : Fit B E (H ++ L') (H ++ L) := by
  subst hL
  refine .inr ⟨G, by simp, by rw [hB.len]; simp, by simpa using hE, ?_⟩
  intro o ho r hr'
  rw [List.length_append]
  rcases List.mem_append.1 ho with h | h
  · exact AV.bels_mono (by omega) r (hB.heap o h r hr')
  · exact hr o h r hr'
theorem Fit.same {M M' : Heap} (h : M = M') : Fit B E M M' := .inl h
end

section
variable {P : Program} {N : Nat} {B : Base} {Q : Post} {env : Env} {H H0 L : Heap} {ty : TypeId} {ops : Array Oper} {rest : List Oper} {pos : String} {after : Array Edge}
theorem Lid_app {k : Nat} (hk : L.length = k) : Lid (H0 ++ L).length 0 = Lid H0.length k := by simp [Lid, hk]
/-- The end of a call that hands back rows of its own. -/
theorem e_keep {rs : List ResultVar} {vs : List AV} {v : AV} {args : List AV} {K G : Heap} (hB : Begun B H args) (h : ResVs P env (H ++ L) rs vs) (hv : tupv vs = v) (hL : L = K ++ G) (hb : v.bel (H.length + K.length) = true) (hr : ∀ o ∈ K, ∀ r ∈ o.rows, AV.bels (H.length + K.length) r = true) : Ends P B rs (Ret v (H ++ K)) .ret env (H ++ L) := by
  subst hL
  refine ⟨vs, H ++ K, h, .inr ⟨G, by simp, by rw [hB.len]; simp, by rw [hv]; simpa using hb, ?_⟩, by rw [hv], rfl⟩
  intro o ho r hr'
  rw [List.length_append]
  rcases List.mem_append.1 ho with h | h
  · exact AV.bels_mono (by omega) r (hB.heap o h r hr')
  · exact hr o h r hr'
/-- A call that hands back a row of its own. -/
theorem V2.callo {f g n c : Nat} {xs : Array Operand} {ts : Array TypeId} {vs : List AV} {o : AObj} {k : Nat} [FnI P f] (hac : AC P f vs (H0 ++ L) (Ret (.sl (Lid (H0 ++ L).length 0) g 0 n c) ((H0 ++ L) ++ [o]))) (hvs : xs.toList.map (aev env) = vs) (hk : L.length = k) :
    V2 P N (.call { callee := .value (.func f), args := xs, argTypes := ts }) ty env (H0 ++ L) (.sl (Lid H0.length k) g 0 n c) (H0 ++ (L ++ [o])) := by
  have := V2.call (N := N) (ty := ty) (ts := ts) hac hvs
  rwa [Lid_app hk, List.append_assoc] at this
theorem V2.callo2 {f g n c : Nat} {xs : Array Operand} {ts : Array TypeId} {vs : List AV} {o : AObj} {k : Nat} {v : AV} [FnI P f] (hac : AC P f vs (H0 ++ L) (Ret (.tup [.sl (Lid (H0 ++ L).length 0) g 0 n c, v]) ((H0 ++ L) ++ [o]))) (hvs : xs.toList.map (aev env) = vs) (hk : L.length = k) :
    V2 P N (.call { callee := .value (.func f), args := xs, argTypes := ts }) ty env (H0 ++ L) (.tup [.sl (Lid H0.length k) g 0 n c, v]) (H0 ++ (L ++ [o])) := by
  have := V2.call (N := N) (ty := ty) (ts := ts) hac hvs
  rwa [Lid_app hk, List.append_assoc] at this
end

theorem take_snoc_map {α : Type} (e : α → List AV) {l : List α} {k : Nat} {x : α} (hx : l[k]? = some x) : ((l.take k).map e).take k ++ [e x] = (l.take (k + 1)).map e := by
  have hlt := (List.getElem?_eq_some_iff.1 hx).1
  have h1 : ((l.take k).map e).length = k := by simp; omega
  rw [List.take_of_length_le (by omega), List.take_add_one, hx]
  simp
theorem map_get {α : Type} (e : α → List AV) {l : List α} {k : Nat} {x : α} (hx : l[k]? = some x) : (l.map e)[k]? = some (e x) := by simp [hx]
theorem get_of_lt {α : Type} {l : List α} {k : Nat} (h : k < l.length) : ∃ x, l[k]? = some x := ⟨l[k], List.getElem?_eq_getElem h⟩
theorem get_in {α : Type} {l : List α} {k : Nat} (h : k < l.length) : ∃ x, l[k]? = some x ∧ x ∈ l := ⟨l[k], List.getElem?_eq_getElem h, List.getElem_mem h⟩
/-- Encoded rows name no row. -/
theorem rows_bel {α : Type} {e : α → List AV} {n : Nat} (he : ∀ x, AV.bels n (e x) = true) (l : List α) : ∀ r ∈ l.map e, AV.bels n r = true := by
  intro r hr
  obtain ⟨x, _, rfl⟩ := List.mem_map.1 hr
  exact he x
theorem rows_len {α : Type} {e : α → List AV} {n : Nat} (he : ∀ x, (e x).length = n) (l : List α) : ∀ r ∈ l.map e, r.length = n := by
  intro r hr
  obtain ⟨x, _, rfl⟩ := List.mem_map.1 hr
  exact he x
end Go.Av
