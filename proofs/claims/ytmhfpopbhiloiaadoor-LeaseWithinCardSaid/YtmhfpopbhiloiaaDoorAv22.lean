/-
  PLAIN FACTS ABOUT LISTS (of no program).
-/
import Derived.Test.YtmhfpopbhiloiaaDoorAv12
namespace Go.Av
/-- What IndexFunc finds. -/
def ixf {α : Type} (p : α → Bool) (l : List α) : Int := match l.findIdx? p with
  | some n => n
  | none => -1
theorem ixf_some {α : Type} {p : α → Bool} {l : List α} {k : Nat} {x : α} (hx : l[k]? = some x) (hp : p x = true) (hno : ∀ y ∈ l.take k, p y = false) : ixf p l = k := by
  have : l.findIdx? p = some k := by
    rw [List.findIdx?_eq_some_iff_getElem]
    obtain ⟨h1, h2⟩ := List.getElem?_eq_some_iff.1 hx
    refine ⟨h1, by rw [h2]; exact hp, fun j hj => ?_⟩
    have hj' : j < l.length := Nat.lt_trans hj h1
    have := hno l[j] (List.mem_iff_getElem?.2 ⟨j, by rw [List.getElem?_take, if_pos hj]; exact List.getElem?_eq_getElem hj'⟩)
    simp [this]
  simp [ixf, this]
theorem ixf_none {α : Type} {p : α → Bool} {l : List α} (hno : ∀ y ∈ l, p y = false) : ixf p l = -1 := by
  have : l.findIdx? p = none := by rw [List.findIdx?_eq_none_iff]; simpa using hno
  simp [ixf, this]
theorem ixf_nonneg {α : Type} (p : α → Bool) (l : List α) : decide (0 ≤ ixf p l) = l.any p := by
  rw [Bool.eq_iff_iff]
  unfold ixf
  cases h : l.findIdx? p with
  | none =>
    rw [List.findIdx?_eq_none_iff] at h
    simp
    simpa using h
  | some n =>
    rw [List.findIdx?_eq_some_iff_getElem] at h
    obtain ⟨h1, h2, _⟩ := h
    simp
    exact ⟨_, List.getElem_mem h1, h2⟩
theorem take_snoc_get {α : Type} {l : List α} {k : Nat} {x : α} (hx : l[k]? = some x) : l.take (k + 1) = l.take k ++ [x] := by
  obtain ⟨h1, h2⟩ := List.getElem?_eq_some_iff.1 hx
  rw [List.take_add_one, hx]; rfl
theorem all_step {α : Type} {l : List α} {k : Nat} {x : α} {p : α → Bool} (hx : l[k]? = some x) (h : (l.take k).all p = true) (hp : p x = true) : (l.take (k + 1)).all p = true := by
  rw [take_snoc_get hx, List.all_append, h]; simp [hp]
theorem all_fail {α : Type} {l : List α} {x : α} {p : α → Bool} (hx : x ∈ l) (h : p x = false) : l.all p = false := by
  rw [List.all_eq_false]; exact ⟨x, hx, by simp [h]⟩
end Go.Av
