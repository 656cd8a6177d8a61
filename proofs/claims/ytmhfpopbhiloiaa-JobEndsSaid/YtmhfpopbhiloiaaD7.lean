/-
  What happens to a job, once it is read.
-/
import Derived.Test.YtmhfpopbhiloiaaU13
import Derived.Test.YtmhfpopbhiloiaaD5
namespace Go.Av
open Go.Proofs
set_option linter.unusedVariables false
theorem whs_dec {a : AV} (h : CellOk Try.prog 4 52 a) : ∃ l : List Wh, a = .pl (l.map eWh) := by
  obtain ⟨rows, rfl, _, h3⟩ := cell_sl (SlI.ud (P := Try.prog) (t := 52)) (by kernel_rfl : cellTys Try.prog 4 54 = some [3, 5]) h
  obtain ⟨l, rfl⟩ := rows_map (e := eWh) fun r hr => by
    have h := h3 r hr
    obtain ⟨a1, r, rfl, h1, h⟩ := row_cons h
    obtain ⟨a2, r, rfl, h2, h⟩ := row_cons h
    obtain rfl := row_nil h
    obtain ⟨i1, rfl, _⟩ := cell_int (UdI.ud (P := Try.prog) (t := 3)) h1
    obtain ⟨i2, rfl, w2⟩ := cell_int (UdI.ud (P := Try.prog) (t := 5)) h2
    exact ⟨⟨i1, i2, u8_w w2⟩, rfl⟩
  exact ⟨l, rfl⟩
end Go.Av
