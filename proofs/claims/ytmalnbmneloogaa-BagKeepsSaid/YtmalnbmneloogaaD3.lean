/-
  The things that are done with a bag, once they are read.
-/
import Derived.Test.YtmalnbmneloogaaT21
import Derived.Test.YtmalnbmneloogaaAv19
namespace Go.Av
open Go.Proofs
set_option linter.unusedVariables false

theorem bdos_dec {a : AV} (h : CellOk Try.prog 4 47 a) : ∃ l : List BDo, a = .pl (l.map eBDo) := by
  obtain ⟨rows, rfl, _, h3⟩ := cell_sl (SlI.ud (P := Try.prog) (t := 47)) (by kernel_rfl : cellTys Try.prog 4 50 = some [5, 5]) h
  obtain ⟨l, rfl⟩ := rows_map (e := eBDo) fun r hr => by
    have h := h3 r hr
    obtain ⟨a1, r, rfl, h1, h⟩ := row_cons h
    obtain ⟨a2, r, rfl, h2, h⟩ := row_cons h
    obtain rfl := row_nil h
    obtain ⟨i1, rfl, w1⟩ := cell_int (UdI.ud (P := Try.prog) (t := 5)) h1
    obtain ⟨i2, rfl, w2⟩ := cell_int (UdI.ud (P := Try.prog) (t := 5)) h2
    exact ⟨⟨i1, i2, u8_w w1, u8_w w2⟩, rfl⟩
  exact ⟨l, rfl⟩
end Go.Av
