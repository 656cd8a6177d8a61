/-
  FROM A CALL's CONTRACT TO A ROW: the arguments as abstract values, and what the row asks of the world behind.
-/
import Derived.Test.YtmhfpopbhiloiaaDoorAv15
import Derived.WalkKit
import Derived.ProofKit
import Derived.OpenShut
import Derived.ShutString
import Derived.Below
import Derived.SizedLaws
import Derived.Carry
namespace Go.Av
open Go.RowKit

section
variable {P : Program} {Hd : Type} {enc : TypeId × Value → Hd} {w : World} {base b : Nat} {spare : Nat → Bool} {held : Bool}
theorem arg_leaf {n : Nat} {t : TypeId} {v : Value} {d : DataW Hd} {ps : List MemPlace} (hd : cellDeep P n t = true) (hval : Value.okWide P w .any b t v) (h : DataW.Trod enc P w base spare held t v d ps) : ∃ a, CellOk P n t a ∧ VR (own []) w [] a v := by
  have hc : v.cells = #[v] := by
    cases n with
    | zero => cases hd
    | succ n =>
      unfold cellDeep at hd
      unfold Value.okWide at hval
      cases v with
      | agg cs =>
        exfalso
        split at hd <;> rename_i hu <;> simp [hu, Cell.okWide, Cell.ok] at hval hd
      | _ => rfl
  obtain ⟨fuel, h⟩ := h
  rw [hc] at h
  obtain ⟨a, h1, _, h2⟩ := cell_vr n t v fuel _ hd h
  exact ⟨a, h1, h2⟩
theorem arg_agg {n : Nat} {t : TypeId} {ts : List TypeId} {v : Value} {d : DataW Hd} {ps : List MemPlace} (hts : cellTys P (n + 1) t = some ts) (hall : ts.all (cellDeep P n) = true) (hagg : (∃ fs, P.underlying t = some (.struct fs)) ∨ ∃ m e, P.underlying t = some (.array m e)) (hval : Value.okWide P w .any b t v) (h : DataW.Trod enc P w base spare held t v d ps) : ∃ r, RowIs P n ts r ∧ VR (own []) w [] (.agg r) v := by
  obtain ⟨r, h1, h2, h3⟩ := trod_vr hts hall h
  have hv : ∃ cs, v = .agg cs := by
    unfold Value.okWide at hval
    rcases hagg with ⟨fs, hu⟩ | ⟨m, e, hu⟩ <;> rw [hu] at hval <;> exact ⟨_, hval.choose_spec.1⟩
  obtain ⟨cs, rfl⟩ := hv
  have hc : (Value.agg cs).cells = cs := rfl
  rw [hc] at h2 h3
  exact ⟨r, h1, .agg h2 (fun j a ha => by
    have hj : j < cs.size := by rw [← h2]; exact (List.getElem?_eq_some_iff.1 ha).1
    exact (h3 j a _ ha (Array.getElem?_eq_getElem hj)).1) (fun j a u ha hu => (h3 j a u ha hu).2)⟩

theorem cell_bool {n : Nat} {t : TypeId} {a : AV} (hu : P.underlying t = some .bool) (h : CellOk P (n + 1) t a) : ∃ b, a = .bool b := by
  unfold CellOk at h; rw [hu] at h; exact h
theorem cell_int {n : Nat} {t : TypeId} {k : IntKind} {a : AV} (hu : P.underlying t = some (.int k)) (h : CellOk P (n + 1) t a) : ∃ i, a = .int k i ∧ (Lit.int k i).wf = true := by
  unfold CellOk at h; rw [hu] at h; exact h
theorem cell_str {n : Nat} {t : TypeId} {a : AV} (hu : P.underlying t = some .string) (h : CellOk P (n + 1) t a) : ∃ s : ByteArray, a = .str s ∧ s.size ≤ maxLen := by
  unfold CellOk at h; rw [hu] at h; exact h
theorem cell_sl {n : Nat} {t e : TypeId} {ts : List TypeId} {a : AV} (hu : P.underlying t = some (.slice e)) (hts : cellTys P (n + 1) e = some ts) (h : CellOk P (n + 1) t a) : ∃ rows, a = .pl rows ∧ rows.length ≤ maxLen ∧ ∀ r ∈ rows, RowIs P n ts r := by
  unfold CellOk at h
  rw [hu] at h
  obtain ⟨rows, h1, h2, h3⟩ := h
  refine ⟨rows, h1, h2, fun r hr => ?_⟩
  obtain ⟨ts', k1, k2, k3⟩ := h3 r hr
  rw [hts] at k1
  obtain rfl := Option.some.inj k1
  exact ⟨k2, k3⟩
theorem row_nil {n : Nat} {r : List AV} (h : RowIs P n [] r) : r = [] := List.eq_nil_of_length_eq_zero h.1
theorem row_cons {n : Nat} {t : TypeId} {ts : List TypeId} {r : List AV} (h : RowIs P n (t :: ts) r) : ∃ v r', r = v :: r' ∧ CellOk P n t v ∧ RowIs P n ts r' := by
  cases r with
  | nil => have := h.1; simp at this
  | cons v r => exact ⟨v, r, rfl, h.2 0 t v rfl rfl, by simpa using h.1, fun j t' v' h1 h2 => h.2 (j + 1) t' v' h1 h2⟩
theorem rows_map {α : Type} {e : α → List AV} : ∀ {rows : List (List AV)}, (∀ r ∈ rows, ∃ x, r = e x) → ∃ l : List α, rows = l.map e
  | [], _ => ⟨[], rfl⟩
  | r :: rows, h => by
    obtain ⟨x, rfl⟩ := h r List.mem_cons_self
    obtain ⟨l, rfl⟩ := rows_map (rows := rows) fun r hr => h r (List.mem_cons_of_mem _ hr)
    exact ⟨x :: l, rfl⟩
theorem cell_byte {n : Nat} {t : TypeId} {a : AV} (hu : P.underlying t = some (.int .u8)) (h : CellOk P (n + 1) t a) : ∃ c : UInt8, a = .int .u8 (c.toNat : Int) := by
  obtain ⟨i, rfl, hw⟩ := cell_int hu h
  have h2 : 0 ≤ i ∧ i < 256 := by
    have e1 : IntKind.u8.min = 0 := rfl
    have e2 : IntKind.u8.max = 255 := rfl
    simp [Lit.wf, e1, e2] at hw
    omega
  refine ⟨UInt8.ofNat i.toNat, ?_⟩
  congr 1
  have : i.toNat < 256 := by omega
  simp [UInt8.toNat_ofNat', Nat.mod_eq_of_lt this]
  omega
theorem cell_bytes {n : Nat} {t e : TypeId} {a : AV} (hu : P.underlying t = some (.slice e)) (he : P.underlying e = some (.int .u8)) (h : CellOk P (n + 2) t a) : ∃ bs : List UInt8, a = .pl (bs.map brow) := by
  have hts : cellTys P (n + 1 + 1) e = some [e] := by unfold cellTys; rw [he]
  obtain ⟨rows, rfl, _, h3⟩ := cell_sl hu hts h
  obtain ⟨l, rfl⟩ := rows_map (e := brow) (rows := rows) fun r hr => by
    obtain ⟨v, r', rfl, h1, h2⟩ := row_cons (h3 r hr)
    obtain rfl := row_nil h2
    obtain ⟨c, rfl⟩ := cell_byte he h1
    exact ⟨c, rfl⟩
  exact ⟨l, rfl⟩

inductive All2 {α β : Type} (R : α → β → Prop) : List α → List β → Prop where
  | nil : All2 R [] []
  | cons {a b as bs} (h : R a b) (k : All2 R as bs) : All2 R (a :: as) (b :: bs)
theorem All2.vrs {O : Nat → Prop} {S : List Slot} {vs : List AV} {us : List Value} (h : All2 (VR O w S) vs us) : VRs O w S vs us.toArray := by
  induction h with
  | nil => exact ⟨rfl, fun i v u hv => by simp at hv⟩
  | cons h k ih =>
    refine ⟨by simpa using ih.1, fun i v u hv hu => ?_⟩
    cases i with
    | zero => simp at hv hu; subst hv; subst hu; exact h
    | succ i => exact ih.2 i v u (by simpa using hv) (by simpa using hu)
theorem ac_row {f : FuncId} {avs : List AV} {us : List Value} {bb : Bool} (h : AC P f avs [] (Ret (.bool bb) [])) (hv : All2 (VR (own []) w []) avs us) : Calls P f us.toArray w fun e w' => e = .returned (.bool bb) ∧ Below w.heap.size w w' := by
  refine (h [] w us.toArray ⟨rfl, fun _ _ _ h => by simp at h, fun _ _ _ _ _ h => by simp at h⟩ hv.vrs).mono fun e w' => ?_
  rintro ⟨o, H', S', ⟨rfl, rfl⟩, ho, hh, hx⟩
  cases ho with
  | ret hb =>
    cases hb
    exact ⟨rfl, hx.os, hx.tape, hx.output, hx.stp.size, fun k hk => (hx.stp.old k hk (by rintro ⟨i, s, hs, _⟩; simp at hs)).2⟩
end
end Go.Av
