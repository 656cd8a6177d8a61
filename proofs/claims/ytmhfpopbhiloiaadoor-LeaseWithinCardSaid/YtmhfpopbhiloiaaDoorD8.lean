/-
  Loans and notes, once they are read; the laid table is known.
-/
import Derived.Test.YtmhfpopbhiloiaaDoorV6
import Derived.Test.YtmhfpopbhiloiaaDoorAv19
import Derived.Test.YtmhfpopbhiloiaaDoorAv28
import Derived.Test.YtmhfpopbhiloiaaDoorRows
namespace Go.Av
open Go.Proofs Go.Proofs.YtmhfpopbhiloiaaDoor
open Go.RowKit
set_option linter.unusedVariables false
set_option maxRecDepth 10000
theorem ints_dec {n : Nat} {a : AV} (h : CellOk Tryd.prog (n + 2) 22 a) : ∃ l : List Int, a = .pl (l.map eInt) := by
  have hts : cellTys Tryd.prog (n + 1 + 1) 3 = some [3] := by unfold cellTys; rw [UdI.ud (P := Tryd.prog) (t := 3)]
  obtain ⟨rows, rfl, _, h3⟩ := cell_sl Tryd.underlying22 hts h
  obtain ⟨l, rfl⟩ := rows_map (e := eInt) (rows := rows) fun r hr => by
    obtain ⟨v, r', rfl, h1, h2⟩ := row_cons (h3 r hr)
    obtain rfl := row_nil h2
    obtain ⟨c, rfl, _⟩ := cell_int (UdI.ud (P := Tryd.prog) (t := 3)) h1
    exact ⟨c, rfl⟩
  exact ⟨l, rfl⟩
theorem loan_dec {r : List AV} (h : RowIs Tryd.prog 4 [22, 22, 2] r) : ∃ l : Loan, r = eLoan l := by
  obtain ⟨a1, r, rfl, h1, h⟩ := row_cons h
  obtain ⟨a2, r, rfl, h2, h⟩ := row_cons h
  obtain ⟨a3, r, rfl, h3, h⟩ := row_cons h
  obtain rfl := row_nil h
  obtain ⟨l1, rfl⟩ := ints_dec h1
  obtain ⟨l2, rfl⟩ := ints_dec h2
  obtain ⟨i3, rfl, _⟩ := cell_int (UdI.ud (P := Tryd.prog) (t := 2)) h3
  exact ⟨⟨l1, l2, i3⟩, rfl⟩
theorem note_dec {r : List AV} (h : RowIs Tryd.prog 4 [3, 22, 2] r) : ∃ n : Note, r = eNote n := by
  obtain ⟨a1, r, rfl, h1, h⟩ := row_cons h
  obtain ⟨a2, r, rfl, h2, h⟩ := row_cons h
  obtain ⟨a3, r, rfl, h3, h⟩ := row_cons h
  obtain rfl := row_nil h
  obtain ⟨i1, rfl, _⟩ := cell_int (UdI.ud (P := Tryd.prog) (t := 3)) h1
  obtain ⟨l2, rfl⟩ := ints_dec h2
  obtain ⟨i3, rfl, _⟩ := cell_int (UdI.ud (P := Tryd.prog) (t := 2)) h3
  exact ⟨⟨i1, l2, i3⟩, rfl⟩
abbrev laidD : List (String × DataW Unit) := [("math/bits.deBruijn64tab", Rows.laid_math_bits_deBruijn64tab)]
theorem laid_kn {W : World} (h : laidMetH Tryd.prog laidD W) : Kn KD [] W := by
  rw [MakeChecks.laidMetH_plain _ _ _ (by kernel_rfl)] at h
  have hg : Tryd.prog.globalNamed "math/bits.deBruijn64tab" = some 0 := by kernel_rfl
  have h2 : Lib.TabIs Tryd.prog W "math/bits.deBruijn64tab" .u8 (Lib.deBruijn64tab.map fun n : Nat => (n : Int)) :=
    Lib.tabIs_of_head (rest := []) (t := 111) (e := 5) (n := 64) hg (by kernel_rfl) (by kernel_rfl) (by kernel_rfl) (by kernel_rfl) (by kernel_rfl) h
  exact kn_of_tab hg (by decide) (by unfold KD; rw [List.map_map]; rfl) h2
theorem door_met (os : Os) (args : Array Value) : laidMetH Tryd.prog laidD ((World.doorLaid Tryd.prog 400 os).forCall (fun _ _ => 0) ⟨#[], args, []⟩).memory :=
  laidMetH_of_parts3 (fuel := 8) (laidMet_of_run' 8 (by kernel_rfl) (by kernel_rfl)) (by kernel_rfl) (by kernel_rfl)
end Go.Av
