/-
  FROM A CALL's CONTRACT TO A ROW, in a world whose table is known.
-/
import Derived.Test.YtmhfpopbhiloiaaDoorAv16
import Derived.Test.YtmhfpopbhiloiaaDoorAv24
import Derived.Lib.LaidTab
import Derived.LaidMore
import Derived.Handed
namespace Go.Av
open Go.RowKit
theorem act_row {P : Program} {w : World} {K : Know} {f : FuncId} {avs : List AV} {us : List Value} {bb : Bool} (h : ACT P K f avs [] (Ret (.bool bb) [])) (hk : Kn K [] w) (hv : All2 (VR (own []) w []) avs us) : Calls P f us.toArray w fun e w' => e = .returned (.bool bb) ∧ Below w.heap.size w w' := by
  refine (h [] w us.toArray hk ⟨rfl, fun _ _ _ h => by simp at h, fun _ _ _ _ _ h => by simp at h⟩ hv.vrs).mono fun e w' => ?_
  rintro ⟨o, H', S', ⟨rfl, rfl⟩, ho, hh, hx⟩
  cases ho with
  | ret hb =>
    cases hb
    exact ⟨rfl, hx.os, hx.tape, hx.output, hx.stp.size, fun k hk => (hx.stp.old k hk (by rintro ⟨i, s, hs, _⟩; simp at hs)).2⟩
/-- A table of numbers that is laid is known. -/
theorem kn_of_tab {P : Program} {W : World} {name : String} {k : IntKind} {zs : List Int} {g : Nat} {K : Know} (hg : P.globalNamed name = some g) (hz : zs ≠ []) (hK : K = ⟨g, zs.map fun z => Value.int k z⟩) (h : Lib.TabIs P W name k zs) : Kn K [] W := by
  subst hK
  have hc : ∀ j v, (zs.map fun z => Value.int k z)[j]? = some v → W.cell? ⟨g, j, none⟩ = some v := by
    intro j v hj
    have := World.var?_cell hg h j
    rw [this]
    simpa using hj
  refine ⟨by rintro ⟨i, s, hs, _⟩; simp at hs, ?_, hc⟩
  cases zs with
  | nil => exact absurd rfl hz
  | cons z zs =>
    have h0 := hc 0 _ rfl
    show g < W.heap.size
    rcases Nat.lt_or_ge g W.heap.size with h1 | h1
    · exact h1
    · exfalso
      simp [World.cell?, Array.getElem?_eq_none h1] at h0
end Go.Av
