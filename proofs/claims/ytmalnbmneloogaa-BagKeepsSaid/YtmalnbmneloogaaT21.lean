/- A part of the proof: walks through the program over abstract values. -/
import Derived.Test.YtmalnbmneloogaaT8
import Derived.Test.YtmalnbmneloogaaAv18
namespace Go.Av
open Go.Proofs
set_option maxRecDepth 10000
set_option linter.unusedSimpArgs false
set_option linter.unusedVariables false

/-- A thing that is done with a bag. -/
structure BDo where
  kind : Int
  at_ : Int
  h : (0 ≤ kind ∧ kind ≤ 255) ∧ (0 ≤ at_ ∧ at_ ≤ 255)
abbrev eBDo (d : BDo) : List AV := [.int .u8 d.kind, .int .u8 d.at_]
/-- The bag, how many were put, and how often each of them is there. -/
structure KS where
  b : List Way
  put : Nat
  times : List Int
def cnt (b : List Way) (q : Nat) : Nat := b.countP fun w => w.p.seq == (q : Int) + 1
structure KOk (s : KS) (i : Nat) : Prop where
  len : s.times.length = 200
  put : s.put ≤ i
  many : s.b.length ≤ i
  i200 : i ≤ 200
  right : bright s.b = true
  each : ∀ w ∈ s.b, ∃ q : Nat, w.p.seq = (q : Int) + 1 ∧ q < s.put ∧ w.to = w.p.ack.tmod 8 ∧ w.p.body = []
  tm : ∀ q, q < 200 → s.times[q]? = some (cnt s.b q : Int)
def kw (s : KS) (d : BDo) : Way := ⟨d.at_.tmod 8, ⟨0, (s.put : Int) + 1, d.at_, []⟩⟩
def kstep (s : KS) (d : BDo) : KS :=
  if d.kind.tmod 3 = 0 then ⟨s.b ++ [kw s d], s.put + 1, s.times.set s.put 1⟩
  else match s.b[d.at_.toNat]? with
    | none => s
    | some w => if d.kind.tmod 3 = 1 then ⟨s.b.eraseIdx d.at_.toNat, s.put, s.times.set (w.p.seq.toNat - 1) ((cnt s.b (w.p.seq.toNat - 1) : Int) - 1)⟩
      else ⟨s.b ++ [w], s.put, s.times.set (w.p.seq.toNat - 1) ((cnt s.b (w.p.seq.toNat - 1) : Int) + 1)⟩
theorem cnt_append (b : List Way) (w : Way) (q : Nat) : cnt (b ++ [w]) q = cnt b q + if w.p.seq = (q : Int) + 1 then 1 else 0 := by
  simp [cnt, List.countP_append, List.countP_cons]
theorem cnt_erase {b : List Way} {k : Nat} {w : Way} (h : b[k]? = some w) (q : Nat) : cnt b q = cnt (b.eraseIdx k) q + if w.p.seq = (q : Int) + 1 then 1 else 0 := by
  obtain ⟨hk, rfl⟩ := List.getElem?_eq_some_iff.1 h
  have e : b = b.take k ++ b[k] :: b.drop (k + 1) := by rw [← List.drop_eq_getElem_cons hk, List.take_append_drop]
  rw [List.eraseIdx_eq_take_drop_succ]
  have e2 := congrArg (fun l => cnt l q) e
  simp only [cnt, List.countP_append, List.countP_cons, beq_iff_eq] at e2 ⊢
  omega
theorem tmod8 {a : Int} (h : 0 ≤ a) : 0 ≤ a.tmod 8 ∧ a.tmod 8 ≤ 7 := by rw [Int.tmod_eq_emod_of_nonneg h]; omega
theorem kw_may (s : KS) (d : BDo) (h : s.put ≤ 200) : may (kw s d) = true := by
  have := tmod8 d.h.2.1
  have := d.h
  simp only [may, fine, Bool.and_eq_true, Bool.or_eq_true, decide_eq_true_eq, beq_iff_eq]
  dsimp only [kw]
  simp only [List.length_nil]
  omega
theorem KOk.fst : KOk ⟨[], 0, List.replicate 200 0⟩ 0 := ⟨List.length_replicate, Nat.le_refl _, Nat.le_refl _, by omega, by decide, fun w hw => (by cases hw), fun q hq => by rw [List.getElem?_replicate, if_pos hq]; rfl⟩
theorem bright_get {b : List Way} {w : Way} (h : bright b = true) (hw : w ∈ b) : may w = true := by simp [bright] at h; exact h.2 w hw
theorem bright_erase {b : List Way} {k : Nat} (h : bright b = true) : bright (b.eraseIdx k) = true := by
  simp [bright] at h ⊢
  exact ⟨by have := List.length_eraseIdx_le b k; omega, fun w hw => h.2 w (List.mem_of_mem_eraseIdx hw)⟩
theorem KOk.next {s : KS} {i : Nat} (h : KOk s i) (d : BDo) (hi : i < 200) : KOk (kstep s d) (i + 1) := by
  obtain ⟨h1, h2, h3, h4, h5, h6, h7⟩ := h
  unfold kstep
  split
  · refine ⟨by simpa using h1, by simp only; omega, by simp; omega, by omega, bright_append h5 (by omega) (kw_may s d (by omega)), fun w hw => ?_, fun q hq => ?_⟩
    · rcases List.mem_append.1 hw with hw | hw
      · obtain ⟨q, k1, k2, k3⟩ := h6 w hw
        exact ⟨q, k1, by simp only; omega, k3⟩
      · simp only [List.mem_singleton] at hw
        subst hw
        exact ⟨s.put, rfl, by simp only; omega, rfl, rfl⟩
    · simp only
      rw [cnt_append]
      by_cases e : s.put = q
      · subst e
        have h0 : cnt s.b s.put = 0 := by
          rw [cnt, List.countP_eq_zero]
          intro w hw
          obtain ⟨q, k1, k2, _⟩ := h6 w hw
          simp
          omega
        rw [List.getElem?_set_self (by omega), if_pos (by simp [kw]), h0]; rfl
      · rw [List.getElem?_set_ne e, h7 q hq, if_neg (by simp [kw]; omega)]; rfl
  · split
    · exact ⟨h1, by omega, by omega, by omega, h5, h6, h7⟩
    · rename_i w hw
      have hwm : w ∈ s.b := List.mem_of_getElem? hw
      obtain ⟨q0, k1, k2, k3⟩ := h6 w hwm
      have hq0 : w.p.seq.toNat - 1 = q0 := by omega
      rw [hq0]
      split
      · refine ⟨by simpa using h1, by simp only; omega, by have := List.length_eraseIdx_le s.b d.at_.toNat; simp only; omega, by omega, bright_erase h5, fun v hv => h6 v (List.mem_of_mem_eraseIdx hv), fun q hq => ?_⟩
        simp only
        have hc := cnt_erase hw q
        by_cases e : q0 = q
        · subst e
          rw [if_pos k1] at hc
          rw [List.getElem?_set_self (by omega)]
          congr 1
          omega
        · rw [if_neg (by omega)] at hc
          rw [List.getElem?_set_ne e, h7 q hq, hc]; rfl
      · refine ⟨by simpa using h1, by simp only; omega, by simp; omega, by omega, bright_append h5 (by omega) (bright_get h5 hwm), fun v hv => ?_, fun q hq => ?_⟩
        · rcases List.mem_append.1 hv with hv | hv
          · exact h6 v hv
          · simp only [List.mem_singleton] at hv
            subst hv
            exact ⟨q0, k1, k2, k3⟩
        · simp only
          rw [cnt_append]
          by_cases e : q0 = q
          · subst e
            rw [List.getElem?_set_self (by omega), if_pos k1]; rfl
          · rw [List.getElem?_set_ne e, h7 q hq, if_neg (by omega)]; rfl
/-- How many are found. -/
def fnd (b : List Way) (j : Nat) : Nat := b.countP fun w => decide (w.to < (j : Int))
theorem bFind_len {b : List Way} (h : bright b = true) (j : Nat) : ((bFind b (j : Int)).length : Int) = (fnd b (j + 1) : Int) - (fnd b j : Int) := by
  have e : (bFind b (j : Int)).length = b.countP fun w => w.to == (j : Int) := by
    rw [bFind, findTo, List.length_map, ← List.countP_eq_length_filter, show (fun p : Way × Nat => p.1.to == (j : Int) && bright b) = (fun w : Way => w.to == (j : Int)) ∘ Prod.fst by funext p; simp [h], ← List.countP_map, List.zipIdx_map_fst]
  rw [e]
  unfold fnd
  clear e h
  induction b with
  | nil => rfl
  | cons w b ih =>
    simp only [List.countP_cons, beq_iff_eq, decide_eq_true_eq]
    by_cases h1 : w.to = (j : Int)
    · rw [if_pos h1, if_pos (by omega), if_neg (by omega)]; omega
    · rw [if_neg h1]
      by_cases h2 : w.to < (j : Int)
      · rw [if_pos (by omega), if_pos h2]; omega
      · rw [if_neg (by omega), if_neg h2]; omega
theorem fnd0 {b : List Way} (h : bright b = true) : fnd b 0 = 0 := by
  rw [fnd, List.countP_eq_zero]
  intro w hw
  have := bright_get h hw
  simp [may] at this
  simp
  omega
theorem fnd8 {b : List Way} (h : bright b = true) : fnd b 8 = b.length := by
  rw [fnd, List.countP_eq_length]
  intro w hw
  have := bright_get h hw
  simp [may] at this
  simp
  omega
abbrev eInts (l : List Int) : List AV := l.map fun i => .int .i64 i
theorem ints_set (l : List Int) (k : Nat) (x : Int) (h : k < l.length) : (eInts l).take k ++ [AV.int .i64 x] ++ (eInts l).drop (k + 1) = eInts (l.set k x) := by
  rw [List.set_eq_take_append_cons_drop, if_pos h]
  simp [eInts]
theorem ints_bels (n : Nat) (l : List Int) : AV.bels n (eInts l) = true := by
  rw [AV.bels_iff]; intro v hv; simp only [eInts, List.mem_map] at hv; obtain ⟨i, _, rfl⟩ := hv; rfl
/-- The place of an array's cell, by a number. -/
theorem w_indexArrN {P : Program} {N : Nat} {env : Env} {H : Heap} {ty : TypeId} {t e : TypeId} {x y : Operand} {id g i j m n : Nat} {k : IntKind} {sz : Nat} {agg : Bool} {o : AObj} [ArI P t m e] [TyI P e agg sz] (hx : aev env x = .pt id g i j) (hid : H[id]? = some o) (hg : o.gen = g)
    (hy : aev env y = .int k (n : Int)) (h1 : n < m) : V1 P N (.indexAddr t x y) ty env H (.pt id g i (j + n * sz)) := w_indexArr (agg := agg) (e := e) hx hid hg hy (by omega) (by omega)
end Go.Av
