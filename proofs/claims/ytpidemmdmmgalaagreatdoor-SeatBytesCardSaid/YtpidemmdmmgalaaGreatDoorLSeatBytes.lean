/-
  The law SeatBytes holds for every input: the walk of bailiwicklaw21.SeatBytes ends in true, and what was there before the call stays as it was. No conditions.
-/
import Derived.Test.YtpidemmdmmgalaaGreatDoorSeatBP5
import Derived.Test.YtpidemmdmmgalaaGreatDoorSeatBP2
import Derived.Test.YtpidemmdmmgalaaGreatDoorRows
import Derived.Test.YtpidemmdmmgalaaGreatDoorCards
import Derived.Test.YtpidemmdmmgalaaGreatDoorTie
import Derived.SevenTiedAt
import Derived.LaidMore
import Derived.Stop.Joined
namespace Go.Proofs.YtpidemmdmmgalaaGreatDoor.seatBytes
open Go.Av
open Go.ChangeShapes Go.WideShapes Go.ChangeAt Go.RowKit
open Go.ChangeMaps (open_string shut_string)
set_option linter.unusedVariables false
theorem own : ownKnob Tryz.prog.godebug = none := by kernel_rfl
theorem qsu : laidOutB Tryz.prog = true := by kernel_rfl
set_option maxRecDepth 100000 in
theorem q12y (os : Os) (started : os.Started) (H : Type) (enc : TypeId × Value → H) :
    ReturnsInHanded {} Tryz.checked os 3 .any (fun w args => (Rows.seatBytesSpec.pre enc Tryz.prog Tryz.f3 [] false w args ∧ laidMetH Tryz.prog qto w) ∧ sizedMet enc Tryz.prog Tryz.f3 (OpenSpec.ofChange Rows.seatBytesSpec) false w args) (Rows.seatBytesSpec.post enc Tryz.prog Tryz.f3 false true false false) := by
  refine returnsInHanded_of_change_and (C := Tryz.checked) (X := fun w _ => laidMetH Tryz.prog qto w) (fun _ _ _ hh h => h.of_heap hh) own started (by kernel_rfl) Tryz.func3
    (ChangeSpec.witness_shaped (enc := enc) (C := Tryz.checked) (os := os) (X := fun w _ => laidMetH Tryz.prog qto w) false (World.doorLaid Tryz.prog 400 os) #[.agg #[.int .i64 0, .int .i64 0, .int .i64 0, .int .i64 0, .string ByteArray.empty, .bool false, .int .i64 0, .int .i64 0, .slice none 0 0, .int .i64 0, .int .i64 0, .int .i64 0, .slice none 0 0], .slice none 0 0] 8 rfl (World.shaped_of_RefB (by kernel_rfl) (by kernel_rfl)) (by kernel_rfl) (by kernel_rfl) (by kernel_rfl) (qz0 os _)) ?_
  intro W base args ds gs before hval0 hW hcnd hsz0 hL _
  have hval : ∀ (j : Nat) t v, Tryz.f3.params[j]? = some t → args[j]? = some v → Value.okWide Tryz.prog W .any base t v := hval0
  have hW2 := hW
  obtain ⟨p, q, hA0, hV, rfl, hfz, hnd⟩ := hW
  have hA : DataW.TrodAll enc Tryz.prog W 0 (fun _ => true) true Tryz.f3.params.toList args.toList ds p := hA0
  rw [Tryz.params3] at hA hval
  obtain ⟨v0, vs0, d0, ds0, p0, q0, hargs, rfl, rfl, h0, r0⟩ := trodAll_cons hA
  obtain ⟨v1, vs1, d1, ds1, p1, q1, rfl, rfl, rfl, h1, r1⟩ := trodAll_cons r0
  obtain ⟨rfl, rfl, rfl⟩ := trodAll_nil r1
  obtain rfl : args = #[v0, v1] := by cases args; simp_all
  obtain ⟨rfl, rfl⟩ := trodVars_none hV
  have lt0 : ∀ x ∈ p0, x.block < W.heap.size := by obtain ⟨m, hm⟩ := h0; exact DataW.trod_lt m _ _ _ hm
  obtain ⟨a0, o0, w0⟩ := q10f (n := 4) (t := 26) (ts := [3, 3, 3, 3, 9, 4, 2, 3, 24, 3, 3, 2, 24]) (by kernel_rfl) (by kernel_rfl) (.inl ⟨_, Tryz.underlying25⟩) (hval 0 26 v0 rfl rfl) h0
  obtain ⟨o, rfl, o_w⟩ := q13g o0
  have lt1 : ∀ x ∈ p1, x.block < W.heap.size := by obtain ⟨m, hm⟩ := h1; exact DataW.trod_lt m _ _ _ hm
  obtain ⟨a1, o1, w1⟩ := qxo (n := 4) (t := 27) (by kernel_rfl) (hval 1 27 v1 rfl rfl) h1
  obtain ⟨b, rfl⟩ := qrx o1
  clear hA0 hval0 hsz0
  refine (q11g (qeg o b o_w []) (q10w hL) (.cons w0 (.cons w1 .nil))).mono fun e W2 ⟨he, bel⟩ => ?_
  subst he
  exact ⟨_, rfl, _, _, _, [], _, [], hW2, trodAll_mk1 (shut_bool (UdI.ud (P := Tryz.prog) (t := 4)) _), (trodAll_cons_mk (Below.trod qsu (by kernel_rfl) (of_decide_eq_true (by kernel_rfl)) h0 bel lt0) (trodAll_cons_mk (Below.trod qsu (by kernel_rfl) (of_decide_eq_true (by kernel_rfl)) h1 bel lt1) trodAll_mk0)), rfl, bel.frame _, fun h => by cases h⟩
/-- What the law reaches, once. -/
theorem clo : Tryz.prog.closure 3 = [3, 8, 15, 24, 59, 105, 106, 144, 186, 218, 145, 146, 187, 219, 245, 257, 220, 221, 222, 60, 40, 61, 62, 107, 18, 50, 63, 89, 128, 10, 28, 70, 117, 118, 71, 119, 72, 73, 74, 120, 29, 75, 76, 77, 30, 31, 78, 51, 90, 91, 52, 92, 26, 64, 108, 65, 66, 67, 109, 147, 148, 110, 149, 150, 151, 188, 68, 111, 113, 114, 153, 154, 189, 112, 152, 69, 115, 155, 190, 191, 156, 116, 157, 192, 129, 161, 193, 162, 130, 163, 195, 225, 247, 194, 223, 246, 258, 224, 196, 197, 132, 167, 205, 239, 169, 168, 170, 171, 206, 164, 198, 226, 228, 227, 199, 131, 166, 200, 229, 248, 249, 250, 259, 251, 260, 165, 201, 230, 231, 252, 261, 262, 268, 273, 232, 233, 203, 236, 202, 234, 253, 263, 270, 283, 284, 269, 274, 280, 290, 275, 285, 276, 286, 287, 277, 288, 289, 291, 278, 279, 281, 282, 264, 254, 266, 265, 271, 235, 204, 237, 238, 255, 256, 267, 272, 93, 94, 133, 95, 96, 134, 21, 22, 56, 47, 12, 36, 83, 122, 123, 126, 159, 125, 127, 158, 160, 84, 124, 37, 38, 85, 86, 17, 43, 44, 45, 46, 48, 49, 9, 11, 32, 79, 87, 80, 33, 81, 34, 35, 82, 121, 14, 13, 39] := by kernel_rfl
set_option maxRecDepth 100000 in
theorem q13z : joinedFacts Tryz.prog 3 Tryz.f3 Rows.seatBytesSpec Rows.seatBytesRow = true := by
  unfold joinedFacts Program.inPlace Program.unfollowed Program.recurses Program.varsNamed
  unfold Program.unfollowed
  rw [clo]
  kernel_rfl
theorem over : Rows.seatBytesRow.holds Tryz.pinned (OpenSpec.ofChange Rows.seatBytesSpec) :=
  OpenClaim.holds_of_wide 3 Tryz.f3 rfl rfl rfl rfl rfl rfl rfl ⟨rfl, rfl, rfl, rfl, rfl⟩ rfl rfl rfl rfl rfl (by kernel_rfl) Tryz.func3 q13z
    (of_decide_eq_true (by kernel_rfl)) (by unfold Func.isWrapper; first | (rw [if_pos (by decide +kernel)]; kernel_rfl) | (rw [if_neg (by decide +kernel)]; exact ⟨rfl, rfl⟩))
    (fun os started H enc _ => q12y os started H enc)
end Go.Proofs.YtpidemmdmmgalaaGreatDoor.seatBytes
namespace Go.Proofs.YtpidemmdmmgalaaGreatDoor
open Go Go.Av
set_option maxRecDepth 100000 in
/-- The tied card. -/
theorem seatBytes_holds : Rows.SeatBytesCardSaid :=
  Claim7.holds_tied_plain_at .later [] [.data] true (true, "d799bb577981ddf955afaa4312732883400b67f359eaf38aac1a80db7577ba5d") true
    seatBytes.over (fun _ h => by cases h) (by kernel_rfl) (fun _ h => by cases h) seatBytes_row_tie rfl ⟨rfl, rfl⟩ (by kernel_rfl) rfl
    (fun f fn hf hfn => by
      obtain rfl : f = 3 := Option.some.inj ((show Tryz.prog.funcNamed "bailiwick/bailiwicklaw21.SeatBytes" = some 3 by kernel_rfl).symm.trans hf) |>.symm
      obtain rfl : fn = Tryz.f3 := (Option.some.inj (Tryz.func3.symm.trans hfn)).symm
      exact ⟨by kernel_rfl, fun j t ht => by
        rw [Tryz.params3] at ht
        have hm : t ∈ [26, 27] := by simpa using Array.mem_of_getElem? ht
        have hall : ([26, 27].all fun u => !Tryz.prog.wantsStandIn u) = true := by kernel_rfl
        exact (show Tryz.prog.wantsStandIn t = false by simpa using List.all_eq_true.1 hall t hm)⟩)
    (by kernel_rfl)
end Go.Proofs.YtpidemmdmmgalaaGreatDoor
