/-
  Jobs, once they are read.
-/
import Derived.Test.YtmhfpopbhiloiaaU9
import Derived.Test.YtmhfpopbhiloiaaD5
namespace Go.Av
open Go.Proofs
set_option linter.unusedVariables false
theorem ints_dec {a : AV} (h : CellOk Try.prog 4 38 a) : ∃ l : List Int, a = .pl (l.map eI) := by
  obtain ⟨rows, rfl, _, h3⟩ := cell_sl (SlI.ud (P := Try.prog) (t := 38)) (by kernel_rfl : cellTys Try.prog 4 3 = some [3]) h
  obtain ⟨l, rfl⟩ := rows_map (e := eI) fun r hr => by
    have h := h3 r hr
    obtain ⟨a1, r, rfl, h1, h⟩ := row_cons h
    obtain rfl := row_nil h
    obtain ⟨i1, rfl, _⟩ := cell_int (UdI.ud (P := Try.prog) (t := 3)) h1
    exact ⟨i1, rfl⟩
  exact ⟨l, rfl⟩
theorem job_dec {r : List AV} (h : RowIs Try.prog 4 [3, 3, 3, 3, 9, 4, 2, 3, 38, 3, 2, 2, 2] r) : ∃ j : Job, r = eJob j ∧ j.spec.tag.size ≤ 9223372036854775807 := by
  obtain ⟨a0, r, rfl, h0, h⟩ := row_cons h
  obtain ⟨a1, r, rfl, h1, h⟩ := row_cons h
  obtain ⟨a2, r, rfl, h2, h⟩ := row_cons h
  obtain ⟨a3, r, rfl, h3, h⟩ := row_cons h
  obtain ⟨a4, r, rfl, h4, h⟩ := row_cons h
  obtain ⟨a5, r, rfl, h5, h⟩ := row_cons h
  obtain ⟨a6, r, rfl, h6, h⟩ := row_cons h
  obtain ⟨a7, r, rfl, h7, h⟩ := row_cons h
  obtain ⟨a8, r, rfl, h8, h⟩ := row_cons h
  obtain ⟨a9, r, rfl, h9, h⟩ := row_cons h
  obtain ⟨aa, r, rfl, ha, h⟩ := row_cons h
  obtain ⟨ab, r, rfl, hb, h⟩ := row_cons h
  obtain ⟨ac, r, rfl, hc, h⟩ := row_cons h
  obtain rfl := row_nil h
  obtain ⟨i0, rfl, _⟩ := cell_int (UdI.ud (P := Try.prog) (t := 3)) h0
  obtain ⟨i1, rfl, _⟩ := cell_int (UdI.ud (P := Try.prog) (t := 3)) h1
  obtain ⟨i2, rfl, _⟩ := cell_int (UdI.ud (P := Try.prog) (t := 3)) h2
  obtain ⟨i3, rfl, _⟩ := cell_int (UdI.ud (P := Try.prog) (t := 3)) h3
  obtain ⟨i4, rfl, w4⟩ := cell_str (UdI.ud (P := Try.prog) (t := 9)) h4
  obtain ⟨i5, rfl⟩ := cell_bool (UdI.ud (P := Try.prog) (t := 4)) h5
  obtain ⟨i6, rfl, _⟩ := cell_int (UdI.ud (P := Try.prog) (t := 2)) h6
  obtain ⟨i7, rfl, _⟩ := cell_int (UdI.ud (P := Try.prog) (t := 3)) h7
  obtain ⟨l, rfl⟩ := ints_dec h8
  obtain ⟨i9, rfl, _⟩ := cell_int (UdI.ud (P := Try.prog) (t := 3)) h9
  obtain ⟨ia, rfl, _⟩ := cell_int (UdI.ud (P := Try.prog) (t := 2)) ha
  obtain ⟨ib, rfl, _⟩ := cell_int (UdI.ud (P := Try.prog) (t := 2)) hb
  obtain ⟨ic, rfl, _⟩ := cell_int (UdI.ud (P := Try.prog) (t := 2)) hc
  exact ⟨⟨i0, ⟨i1, i2, i3, i4, i5, i6, i7⟩, l, i9, ia, ib, ic⟩, rfl, w4⟩
end Go.Av
