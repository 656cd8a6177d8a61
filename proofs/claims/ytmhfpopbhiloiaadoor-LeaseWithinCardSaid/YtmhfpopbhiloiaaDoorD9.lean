/-
  What happens to a loan, once it is read.
-/
import Derived.Test.YtmhfpopbhiloiaaDoorD8
import Derived.Test.YtmhfpopbhiloiaaDoorV13
namespace Go.Av
open Go.Proofs
set_option linter.unusedVariables false
set_option maxRecDepth 10000
theorem do_dec {r : List AV} (h : RowIs Tryd.prog 4 [5, 22, 5] r) : ∃ d : DoW, r = eDo d ∧ 0 ≤ d.kind ∧ 0 ≤ d.at_ ∧ d.at_ ≤ 255 := by
  obtain ⟨a1, r, rfl, h1, h⟩ := row_cons h
  obtain ⟨a2, r, rfl, h2, h⟩ := row_cons h
  obtain ⟨a3, r, rfl, h3, h⟩ := row_cons h
  obtain rfl := row_nil h
  obtain ⟨c1, rfl⟩ := cell_byte (UdI.ud (P := Tryd.prog) (t := 5)) h1
  obtain ⟨l2, rfl⟩ := ints_dec h2
  obtain ⟨c3, rfl⟩ := cell_byte (UdI.ud (P := Tryd.prog) (t := 5)) h3
  exact ⟨⟨c1.toNat, l2, c3.toNat⟩, rfl, by simp, by simp, by have := c3.toNat_lt; simp only; omega⟩
theorem byte_dec {a : AV} (h : CellOk Tryd.prog 1 5 a) : ∃ u : Int, a = .int .u8 u ∧ 0 ≤ u ∧ u ≤ 255 := by
  obtain ⟨c, rfl⟩ := cell_byte (UdI.ud (P := Tryd.prog) (t := 5)) h
  exact ⟨_, rfl, by simp, by have := c.toNat_lt; omega⟩
theorem dos_dec {a : AV} (h : CellOk Tryd.prog 5 47 a) : ∃ l : List DoW, a = .pl (l.map eDo) ∧ ∀ d ∈ l, 0 ≤ d.kind ∧ 0 ≤ d.at_ ∧ d.at_ ≤ 255 := by
  have hts : cellTys Tryd.prog (4 + 1) 50 = some [5, 22, 5] := by kernel_rfl
  obtain ⟨rows, rfl, _, h3⟩ := cell_sl Tryd.underlying47 hts h
  have : ∀ rows : List (List AV), (∀ r ∈ rows, RowIs Tryd.prog 4 [5, 22, 5] r) → ∃ l : List DoW, rows = l.map eDo ∧ ∀ d ∈ l, 0 ≤ d.kind ∧ 0 ≤ d.at_ ∧ d.at_ ≤ 255 := by
    intro rows
    induction rows with
    | nil => intro _; exact ⟨[], rfl, fun d hd => by cases hd⟩
    | cons r rows ih =>
      intro h
      obtain ⟨d, rfl, hd⟩ := do_dec (h r List.mem_cons_self)
      obtain ⟨l, rfl, hl⟩ := ih fun r hr => h r (List.mem_cons_of_mem _ hr)
      refine ⟨d :: l, rfl, fun x hx => ?_⟩
      rcases List.mem_cons.1 hx with rfl | hx
      · exact hd
      · exact hl x hx
  obtain ⟨l, rfl, hl⟩ := this rows h3
  exact ⟨l, rfl, hl⟩
end Go.Av
