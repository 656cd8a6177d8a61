/-
  Specs, once they are read.
-/
import Derived.Test.YtmhfpopbhiloiaaU5
import Derived.Test.YtmhfpopbhiloiaaAv16
import Derived.Test.YtmhfpopbhiloiaaAv19
namespace Go.Av
open Go.Proofs
set_option linter.unusedVariables false
theorem spec_dec {r : List AV} (h : RowIs Try.prog 4 [3, 3, 3, 9, 4, 2, 3] r) : ∃ s : Spec, r = eSpec s ∧ s.tag.size ≤ 9223372036854775807 := by
  obtain ⟨a1, r, rfl, h1, h⟩ := row_cons h
  obtain ⟨a2, r, rfl, h2, h⟩ := row_cons h
  obtain ⟨a3, r, rfl, h3, h⟩ := row_cons h
  obtain ⟨a4, r, rfl, h4, h⟩ := row_cons h
  obtain ⟨a5, r, rfl, h5, h⟩ := row_cons h
  obtain ⟨a6, r, rfl, h6, h⟩ := row_cons h
  obtain ⟨a7, r, rfl, h7, h⟩ := row_cons h
  obtain rfl := row_nil h
  obtain ⟨i1, rfl, _⟩ := cell_int (UdI.ud (P := Try.prog) (t := 3)) h1
  obtain ⟨i2, rfl, _⟩ := cell_int (UdI.ud (P := Try.prog) (t := 3)) h2
  obtain ⟨i3, rfl, _⟩ := cell_int (UdI.ud (P := Try.prog) (t := 3)) h3
  obtain ⟨i4, rfl, w4⟩ := cell_str (UdI.ud (P := Try.prog) (t := 9)) h4
  obtain ⟨i5, rfl⟩ := cell_bool (UdI.ud (P := Try.prog) (t := 4)) h5
  obtain ⟨i6, rfl, _⟩ := cell_int (UdI.ud (P := Try.prog) (t := 2)) h6
  obtain ⟨i7, rfl, _⟩ := cell_int (UdI.ud (P := Try.prog) (t := 3)) h7
  exact ⟨⟨i1, i2, i3, i4, i5, i6, i7⟩, rfl, w4⟩
end Go.Av
