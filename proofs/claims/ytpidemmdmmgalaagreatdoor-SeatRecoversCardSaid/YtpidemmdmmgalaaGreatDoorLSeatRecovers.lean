/-
  The law SeatRecovers holds for every input: the walk of bailiwicklaw21.SeatRecovers ends in true, and what was there before the call stays as it was. No conditions.
-/
import Derived.Test.YtpidemmdmmgalaaGreatDoorSeatP5
import Derived.Test.YtpidemmdmmgalaaGreatDoorSeatP2
import Derived.Test.YtpidemmdmmgalaaGreatDoorRows
import Derived.Test.YtpidemmdmmgalaaGreatDoorCards
import Derived.Test.YtpidemmdmmgalaaGreatDoorTie
import Derived.SevenTiedAt
import Derived.LaidMore
import Derived.Stop.Joined
namespace Go.Proofs.YtpidemmdmmgalaaGreatDoor.seatRecovers
open Go.Av
open Go.ChangeShapes Go.WideShapes Go.ChangeAt Go.RowKit
open Go.ChangeMaps (open_string shut_string)
set_option linter.unusedVariables false
theorem own : ownKnob Tryz.prog.godebug = none := by kernel_rfl
theorem q49 : laidOutB Tryz.prog = true := by kernel_rfl
set_option maxRecDepth 100000 in
theorem qko (os : Os) (started : os.Started) (H : Type) (enc : TypeId × Value → H) :
    ReturnsInHanded {} Tryz.checked os 5 .any (fun w args => (Rows.seatRecoversSpec.pre enc Tryz.prog Tryz.f5 [] false w args ∧ laidMetH Tryz.prog qeu w) ∧ sizedMet enc Tryz.prog Tryz.f5 (OpenSpec.ofChange Rows.seatRecoversSpec) false w args) (Rows.seatRecoversSpec.post enc Tryz.prog Tryz.f5 false true false false) := by
  refine returnsInHanded_of_change_and (C := Tryz.checked) (X := fun w _ => laidMetH Tryz.prog qeu w) (fun _ _ _ hh h => h.of_heap hh) own started (by kernel_rfl) Tryz.func5
    (ChangeSpec.witness_shaped (enc := enc) (C := Tryz.checked) (os := os) (X := fun w _ => laidMetH Tryz.prog qeu w) false (World.doorLaid Tryz.prog 400 os) #[.slice none 0 0, .int .u8 0, .int .u8 0, .slice none 0 0, .int .u16 0, .slice none 0 0] 8 rfl (World.shaped_of_RefB (by kernel_rfl) (by kernel_rfl)) (by kernel_rfl) (by kernel_rfl) (by kernel_rfl) (qjf os _)) ?_
  intro W base args ds gs before hval0 hW hcnd hsz0 hL _
  have hval : ∀ (j : Nat) t v, Tryz.f5.params[j]? = some t → args[j]? = some v → Value.okWide Tryz.prog W .any base t v := hval0
  have hW2 := hW
  obtain ⟨p, q, hA0, hV, rfl, hfz, hnd⟩ := hW
  have hA : DataW.TrodAll enc Tryz.prog W 0 (fun _ => true) true Tryz.f5.params.toList args.toList ds p := hA0
  rw [Tryz.params5] at hA hval
  obtain ⟨v0, vs0, d0, ds0, p0, q0, hargs, rfl, rfl, h0, r0⟩ := trodAll_cons hA
  obtain ⟨v1, vs1, d1, ds1, p1, q1, rfl, rfl, rfl, h1, r1⟩ := trodAll_cons r0
  obtain ⟨v2, vs2, d2, ds2, p2, q2, rfl, rfl, rfl, h2, r2⟩ := trodAll_cons r1
  obtain ⟨v3, vs3, d3, ds3, p3, q3, rfl, rfl, rfl, h3, r3⟩ := trodAll_cons r2
  obtain ⟨v4, vs4, d4, ds4, p4, q4, rfl, rfl, rfl, h4, r4⟩ := trodAll_cons r3
  obtain ⟨v5, vs5, d5, ds5, p5, q5, rfl, rfl, rfl, h5, r5⟩ := trodAll_cons r4
  obtain ⟨rfl, rfl, rfl⟩ := trodAll_nil r5
  obtain rfl : args = #[v0, v1, v2, v3, v4, v5] := by cases args; simp_all
  obtain ⟨rfl, rfl⟩ := trodVars_none hV
  have lt0 : ∀ x ∈ p0, x.block < W.heap.size := by obtain ⟨m, hm⟩ := h0; exact DataW.trod_lt m _ _ _ hm
  obtain ⟨a0, o0, w0⟩ := q3w (n := 6) (t := 40) (by kernel_rfl) (hval 0 40 v0 rfl rfl) h0
  obtain ⟨g, rfl, g_w⟩ := qcr o0
  have lt1 : ∀ x ∈ p1, x.block < W.heap.size := by obtain ⟨m, hm⟩ := h1; exact DataW.trod_lt m _ _ _ hm
  obtain ⟨a1, o1, w1⟩ := q3w (n := 1) (t := 5) (by kernel_rfl) (hval 1 5 v1 rfl rfl) h1
  obtain ⟨pp, rfl, pp_w⟩ := q2l (UdI.ud (P := Tryz.prog) (t := 5)) o1
  have lt2 : ∀ x ∈ p2, x.block < W.heap.size := by obtain ⟨m, hm⟩ := h2; exact DataW.trod_lt m _ _ _ hm
  obtain ⟨a2, o2, w2⟩ := q3w (n := 1) (t := 5) (by kernel_rfl) (hval 2 5 v2 rfl rfl) h2
  obtain ⟨dd, rfl, dd_w⟩ := q2l (UdI.ud (P := Tryz.prog) (t := 5)) o2
  have lt3 : ∀ x ∈ p3, x.block < W.heap.size := by obtain ⟨m, hm⟩ := h3; exact DataW.trod_lt m _ _ _ hm
  obtain ⟨a3, o3, w3⟩ := q3w (n := 6) (t := 41) (by kernel_rfl) (hval 3 41 v3 rfl rfl) h3
  obtain ⟨l, rfl, l_w⟩ := qui o3
  have lt4 : ∀ x ∈ p4, x.block < W.heap.size := by obtain ⟨m, hm⟩ := h4; exact DataW.trod_lt m _ _ _ hm
  obtain ⟨a4, o4, w4⟩ := q3w (n := 1) (t := 58) (by kernel_rfl) (hval 4 58 v4 rfl rfl) h4
  obtain ⟨cut, rfl, cut_w⟩ := q2l (UdI.ud (P := Tryz.prog) (t := 58)) o4
  have lt5 : ∀ x ∈ p5, x.block < W.heap.size := by obtain ⟨m, hm⟩ := h5; exact DataW.trod_lt m _ _ _ hm
  obtain ⟨a5, o5, w5⟩ := q3w (n := 4) (t := 27) (by kernel_rfl) (hval 5 27 v5 rfl rfl) h5
  obtain ⟨more, rfl⟩ := qkm o5
  clear hA0 hval0 hsz0
  refine (qnd (qg8 g pp dd l cut (q14f cut_w) more []) (qn8 hL) (.cons w0 (.cons w1 (.cons w2 (.cons w3 (.cons w4 (.cons w5 .nil))))))).mono fun e W2 ⟨he, bel⟩ => ?_
  subst he
  exact ⟨_, rfl, _, _, _, [], _, [], hW2, trodAll_mk1 (shut_bool (UdI.ud (P := Tryz.prog) (t := 4)) _), (trodAll_cons_mk (Below.trod q49 (by kernel_rfl) (of_decide_eq_true (by kernel_rfl)) h0 bel lt0) (trodAll_cons_mk (Below.trod q49 (by kernel_rfl) (of_decide_eq_true (by kernel_rfl)) h1 bel lt1) (trodAll_cons_mk (Below.trod q49 (by kernel_rfl) (of_decide_eq_true (by kernel_rfl)) h2 bel lt2) (trodAll_cons_mk (Below.trod q49 (by kernel_rfl) (of_decide_eq_true (by kernel_rfl)) h3 bel lt3) (trodAll_cons_mk (Below.trod q49 (by kernel_rfl) (of_decide_eq_true (by kernel_rfl)) h4 bel lt4) (trodAll_cons_mk (Below.trod q49 (by kernel_rfl) (of_decide_eq_true (by kernel_rfl)) h5 bel lt5) trodAll_mk0)))))), rfl, bel.frame _, fun h => by cases h⟩
/-- What the law reaches, once. -/
theorem clo : Tryz.prog.closure 5 = [5, 8, 15, 24, 59, 105, 106, 144, 186, 218, 145, 146, 187, 219, 245, 257, 220, 221, 222, 60, 40, 61, 62, 107, 18, 50, 63, 89, 128, 10, 28, 70, 117, 118, 71, 119, 72, 73, 74, 120, 29, 75, 76, 77, 30, 31, 78, 51, 90, 91, 52, 92, 26, 64, 108, 65, 66, 67, 109, 147, 148, 110, 149, 150, 151, 188, 68, 111, 113, 114, 153, 154, 189, 112, 152, 69, 115, 155, 190, 191, 156, 116, 157, 192, 129, 161, 193, 162, 130, 163, 195, 225, 247, 194, 223, 246, 258, 224, 196, 197, 132, 167, 205, 239, 169, 168, 170, 171, 206, 164, 198, 226, 228, 227, 199, 131, 166, 200, 229, 248, 249, 250, 259, 251, 260, 165, 201, 230, 231, 252, 261, 262, 268, 273, 232, 233, 203, 236, 202, 234, 253, 263, 270, 283, 284, 269, 274, 280, 290, 275, 285, 276, 286, 287, 277, 288, 289, 291, 278, 279, 281, 282, 264, 254, 266, 265, 271, 235, 204, 237, 238, 255, 256, 267, 272, 93, 94, 133, 95, 96, 134, 21, 22, 56, 47, 12, 36, 83, 122, 123, 126, 159, 125, 127, 158, 160, 84, 124, 37, 38, 85, 86, 17, 43, 44, 45, 46, 48, 49, 9, 20, 55, 23, 39, 57, 103, 58, 104] := by kernel_rfl
set_option maxRecDepth 100000 in
theorem qvw : joinedFacts Tryz.prog 5 Tryz.f5 Rows.seatRecoversSpec Rows.seatRecoversRow = true := by
  unfold joinedFacts Program.inPlace Program.unfollowed Program.recurses Program.varsNamed
  unfold Program.unfollowed
  rw [clo]
  kernel_rfl
theorem over : Rows.seatRecoversRow.holds Tryz.pinned (OpenSpec.ofChange Rows.seatRecoversSpec) :=
  OpenClaim.holds_of_wide 5 Tryz.f5 rfl rfl rfl rfl rfl rfl rfl ⟨rfl, rfl, rfl, rfl, rfl⟩ rfl rfl rfl rfl rfl (by kernel_rfl) Tryz.func5 qvw
    (of_decide_eq_true (by kernel_rfl)) (by unfold Func.isWrapper; first | (rw [if_pos (by decide +kernel)]; kernel_rfl) | (rw [if_neg (by decide +kernel)]; exact ⟨rfl, rfl⟩))
    (fun os started H enc _ => qko os started H enc)
end Go.Proofs.YtpidemmdmmgalaaGreatDoor.seatRecovers
namespace Go.Proofs.YtpidemmdmmgalaaGreatDoor
open Go Go.Av
set_option maxRecDepth 100000 in
/-- The tied card. -/
theorem seatRecovers_holds : Rows.SeatRecoversCardSaid :=
  Claim7.holds_tied_plain_at .later [] [.data] true (true, "d799bb577981ddf955afaa4312732883400b67f359eaf38aac1a80db7577ba5d") true
    seatRecovers.over (fun _ h => by cases h) (by kernel_rfl) (fun _ h => by cases h) seatRecovers_row_tie rfl ⟨rfl, rfl⟩ (by kernel_rfl) rfl
    (fun f fn hf hfn => by
      obtain rfl : f = 5 := Option.some.inj ((show Tryz.prog.funcNamed "bailiwick/bailiwicklaw21.SeatRecovers" = some 5 by kernel_rfl).symm.trans hf) |>.symm
      obtain rfl : fn = Tryz.f5 := (Option.some.inj (Tryz.func5.symm.trans hfn)).symm
      exact ⟨by kernel_rfl, fun j t ht => by
        rw [Tryz.params5] at ht
        have hm : t ∈ [40, 5, 5, 41, 58, 27] := by simpa using Array.mem_of_getElem? ht
        have hall : ([40, 5, 5, 41, 58, 27].all fun u => !Tryz.prog.wantsStandIn u) = true := by kernel_rfl
        exact (show Tryz.prog.wantsStandIn t = false by simpa using List.all_eq_true.1 hall t hm)⟩)
    (by kernel_rfl)
end Go.Proofs.YtpidemmdmmgalaaGreatDoor
