/-
  What the arguments of the laws of chapter 17 are, once they are read: ends of a pipe.
-/
import Derived.Test.YtmalnbmneloogaaT9
import Derived.Test.YtmalnbmneloogaaD1
import Derived.Test.YtmalnbmneloogaaAv19
namespace Go.Av
open Go.Proofs
set_option linter.unusedVariables false

theorem bytes_dec {a : AV} (h : CellOk Try.prog 4 23 a) : ∃ b : List UInt8, a = .pl (b.map brow) := cell_bytes (SlI.ud (P := Try.prog) (t := 23)) (UdI.ud (P := Try.prog)) h
theorem packets_dec {a : AV} (h : CellOk Try.prog 4 52 a) : ∃ l : List Packet, a = .pl (l.map ePacket) := by
  obtain ⟨rows, rfl, _, h3⟩ := cell_sl (SlI.ud (P := Try.prog) (t := 52)) (by kernel_rfl : cellTys Try.prog 4 25 = some [3, 3, 3, 23]) h
  obtain ⟨l, rfl⟩ := rows_map (e := ePacket) fun r hr => packet_dec (h3 r hr)
  exact ⟨l, rfl⟩
theorem pipe_dec {r : List AV} (h : RowIs Try.prog 4 [3, 52, 3, 3] r) : ∃ p : Pipe, r = ePipe p := by
  obtain ⟨a1, r, rfl, h1, h⟩ := row_cons h
  obtain ⟨a2, r, rfl, h2, h⟩ := row_cons h
  obtain ⟨a3, r, rfl, h3, h⟩ := row_cons h
  obtain ⟨a4, r, rfl, h4, h⟩ := row_cons h
  obtain rfl := row_nil h
  obtain ⟨i1, rfl, _⟩ := cell_int (UdI.ud (P := Try.prog) (t := 3)) h1
  obtain ⟨l, rfl⟩ := packets_dec h2
  obtain ⟨i3, rfl, _⟩ := cell_int (UdI.ud (P := Try.prog) (t := 3)) h3
  obtain ⟨i4, rfl, _⟩ := cell_int (UdI.ud (P := Try.prog) (t := 3)) h4
  exact ⟨⟨i1, l, i3, i4⟩, rfl⟩
end Go.Av
