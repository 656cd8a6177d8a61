/-
  What the arguments of the laws of chapters 17 and 18 are, once they are read: packets, bags.
-/
import Derived.Test.YtmalnbmneloogaaT1
import Derived.Test.YtmalnbmneloogaaAv16
namespace Go.Av
open Go.Proofs
set_option linter.unusedVariables false

theorem way_dec {n : Nat} {r : List AV} (h : RowIs Try.prog (n + 2) [3, 3, 3, 3, 23] r) : ∃ x : Way, r = eWay x := by
  obtain ⟨a1, r, rfl, h1, h⟩ := row_cons h
  obtain ⟨a2, r, rfl, h2, h⟩ := row_cons h
  obtain ⟨a3, r, rfl, h3, h⟩ := row_cons h
  obtain ⟨a4, r, rfl, h4, h⟩ := row_cons h
  obtain ⟨a5, r, rfl, h5, h⟩ := row_cons h
  obtain rfl := row_nil h
  obtain ⟨i1, rfl, _⟩ := cell_int (UdI.ud (P := Try.prog) (t := 3)) h1
  obtain ⟨i2, rfl, _⟩ := cell_int (UdI.ud (P := Try.prog) (t := 3)) h2
  obtain ⟨i3, rfl, _⟩ := cell_int (UdI.ud (P := Try.prog) (t := 3)) h3
  obtain ⟨i4, rfl, _⟩ := cell_int (UdI.ud (P := Try.prog) (t := 3)) h4
  obtain ⟨bs, rfl⟩ := cell_bytes (SlI.ud (P := Try.prog) (t := 23)) (UdI.ud (P := Try.prog)) h5
  exact ⟨⟨i1, i2, i3, i4, bs⟩, rfl⟩
theorem packet_dec {n : Nat} {r : List AV} (h : RowIs Try.prog (n + 2) [3, 3, 3, 23] r) : ∃ x : Packet, r = ePacket x := by
  obtain ⟨a2, r, rfl, h2, h⟩ := row_cons h
  obtain ⟨a3, r, rfl, h3, h⟩ := row_cons h
  obtain ⟨a4, r, rfl, h4, h⟩ := row_cons h
  obtain ⟨a5, r, rfl, h5, h⟩ := row_cons h
  obtain rfl := row_nil h
  obtain ⟨i2, rfl, _⟩ := cell_int (UdI.ud (P := Try.prog) (t := 3)) h2
  obtain ⟨i3, rfl, _⟩ := cell_int (UdI.ud (P := Try.prog) (t := 3)) h3
  obtain ⟨i4, rfl, _⟩ := cell_int (UdI.ud (P := Try.prog) (t := 3)) h4
  obtain ⟨bs, rfl⟩ := cell_bytes (SlI.ud (P := Try.prog) (t := 23)) (UdI.ud (P := Try.prog)) h5
  exact ⟨⟨i2, i3, i4, bs⟩, rfl⟩
theorem ways_dec {a : AV} (h : CellOk Try.prog 4 22 a) : ∃ l : List Way, a = .pl (l.map eWay) := by
  obtain ⟨rows, rfl, _, h3⟩ := cell_sl (SlI.ud (P := Try.prog) (t := 22)) (by kernel_rfl : cellTys Try.prog 4 35 = some [3, 3, 3, 3, 23]) h
  obtain ⟨l, rfl⟩ := rows_map (e := eWay) fun r hr => way_dec (h3 r hr)
  exact ⟨l, rfl⟩
end Go.Av
