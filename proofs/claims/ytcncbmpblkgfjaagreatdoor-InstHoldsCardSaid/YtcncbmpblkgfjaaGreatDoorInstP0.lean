/- Steps of walks: each a theorem whose last argument is a tactic. -/
import Derived.KernelRfl
namespace Go.Av
structure Hid (p : Prop) : Prop where
  out : p
theorem Z1 {G G' : Prop} (k : G') (h : Hid G' → G := by intro h'0; refine ao1 (by decide) (o_assign (v := .int _ _) rfl) ?_; exact h'0.out) : G := h ⟨k⟩
theorem Z2 {G G' : Prop} (k : G') (h : Hid G' → G := by intro h'0; refine Z1 ?_; refine ao_nil ?_; exact h'0.out) : G := h ⟨k⟩
theorem Z3 {G G' : Prop} (k : G') (h : Hid G' → G := by intro h'0; refine aw_region ?_; refine Z2 ?_; exact h'0.out) : G := h ⟨k⟩
theorem Z4 {G G' : Prop} (k : G') (h : Hid G' → G := by intro h'0; refine ao1 (by decide) (o_move (v := .str _) rfl) ?_; exact h'0.out) : G := h ⟨k⟩
theorem Z5 {G G' : Prop} (k : G') (h : Hid G' → G := by intro h'0; refine aw_region ?_; refine Z4 ?_; exact h'0.out) : G := h ⟨k⟩
theorem Z6 {G G' : Prop} (k : G') (h : Hid G' → G := by intro h'0; refine ao1 (by decide) (o_move (v := .int _ _) rfl) ?_; exact h'0.out) : G := h ⟨k⟩
theorem Z7 {G : Prop} (h : G := by exact e_done hB (r_tmp rfl .nil) rfl rfl) : G := h
theorem Z8 {G G' : Prop} (k : G') (h : Hid G' → G := by intro h'0; refine ao1 (by decide) (o_assign (v := .bool _) rfl) ?_; exact h'0.out) : G := h ⟨k⟩
theorem Z9 {G G' : Prop} (k : G') (h : Hid G' → G := by intro h'0; refine Z8 ?_; refine ao_nil ?_; exact h'0.out) : G := h ⟨k⟩
theorem Za {G G' : Prop} (k : G') (h : Hid G' → G := by intro h'0; refine aw_region ?_; refine Z9 ?_; exact h'0.out) : G := h ⟨k⟩
theorem Zb {G G' : Prop} (k : G') (h : Hid G' → G := by intro h'0; refine ao1 (by decide) (o_le rfl rfl) ?_; exact h'0.out) : G := h ⟨k⟩
theorem Zc {G G' : Prop} (k : G') (h : Hid G' → G := by intro h'0; refine ao1 (by decide) (o_move (v := .bool _) rfl) ?_; exact h'0.out) : G := h ⟨k⟩
theorem Zd {G G' : Prop} (k : G') (h : Hid G' → G := by intro h'0; refine Zb ?_; refine Zc ?_; exact h'0.out) : G := h ⟨k⟩
theorem Ze {G G' : Prop} (k : G') (h : Hid G' → G := by intro h'0; refine ao_y1 rfl rfl (by decide) (o_move (v := .int _ _) rfl) ?_; exact h'0.out) : G := h ⟨k⟩
theorem Zf {G G' : Prop} (k : G') (h : Hid G' → G := by intro h'0; refine ao_y1 rfl rfl (by decide) (o_lt rfl rfl) ?_; exact h'0.out) : G := h ⟨k⟩
theorem Zg {G G' : Prop} (k : G') (h : Hid G' → G := by intro h'0; refine ao1 (by decide) (o_pick_t (v := .bool _) rfl rfl) ?_; exact h'0.out) : G := h ⟨k⟩
theorem Zh {G G' : Prop} (k : G') (h : Hid G' → G := by intro h'0; refine Zg ?_; refine Z8 ?_; exact h'0.out) : G := h ⟨k⟩
theorem Zi {G : Prop} (h : G := by exact ao_nil (Out.mk (by (refine congrArg AV.bool ?_; (refine Bool.eq_iff_iff.mpr ?_; simp only [Bool.and_eq_true, Bool.or_eq_true, Bool.not_eq_true', decide_eq_true_eq, decide_eq_false_iff_not, beq_iff_eq, bne_iff_ne, beq_eq_false_iff_ne, Bool.false_eq_true, Bool.true_eq_false, Bool.and_eq_false_iff, Bool.or_eq_false_iff, List.length_map, false_iff, true_iff, iff_true, iff_false] at *; omega))) (by repeat (first | exact SubX.refl _ _ | refine SubX.at ?_ | refine SubX.put rfl ?_)))) : G := h
theorem Zj {G : Prop} (h : G := by refine Zh ?_; exact Zi) : G := h
theorem Zk {G G' : Prop} (k : G') (h : Hid G' → G := by intro h'0; refine ao_nT rfl rfl (by decide) ?_; exact h'0.out) : G := h ⟨k⟩
theorem Zl {G G' : Prop} (k : G') (h : Hid G' → G := by intro h'0; refine Zk ?_; refine Zk ?_; exact h'0.out) : G := h ⟨k⟩
theorem Zm {G G' : Prop} (k : G') (h : Hid G' → G := by intro h'0; refine ao1 (by decide) (o_pick_f (v := .bool _) rfl rfl) ?_; exact h'0.out) : G := h ⟨k⟩
theorem Zn {G G' : Prop} (k : G') (h : Hid G' → G := by intro h'0; refine Zm ?_; refine Z8 ?_; exact h'0.out) : G := h ⟨k⟩
theorem Zo {G G' : Prop} (k : G') (h : Hid G' → G := by intro h'0; refine Zl ?_; refine Zn ?_; exact h'0.out) : G := h ⟨k⟩
theorem Zp {G G' : Prop} (k : G') (h : Hid G' → G := by intro h'0; refine ao1 (by decide) (o_lt rfl rfl) ?_; exact h'0.out) : G := h ⟨k⟩
theorem Zq {G G' : Prop} (k : G') (h : Hid G' → G := by intro h'0; refine Zp ?_; refine Zc ?_; exact h'0.out) : G := h ⟨k⟩
theorem Zr {G G' : Prop} (k : G') (h : Hid G' → G := by intro h'0; refine Z6 ?_; refine Zq ?_; exact h'0.out) : G := h ⟨k⟩
theorem Zs {G G' : Prop} (k : G') (h : Hid G' → G := by intro h'0; refine ao_y1 rfl rfl (by decide) (o_le rfl rfl) ?_; exact h'0.out) : G := h ⟨k⟩
theorem Zt {G G' : Prop} (k : G') (h : Hid G' → G := by intro h'0; refine Ze ?_; refine Zs ?_; exact h'0.out) : G := h ⟨k⟩
theorem Zu {G : Prop} (h : G := by exact ao_nil (Out.mk (by rfl) (by repeat (first | exact SubX.refl _ _ | refine SubX.at ?_ | refine SubX.put rfl ?_)))) : G := h
theorem Zv {G G' : Prop} (k : G') (h : Hid G' → G := by intro h'0; refine aw_region ?_; refine Z6 ?_; exact h'0.out) : G := h ⟨k⟩
theorem Zw {G G' : Prop} (k : G') (h : Hid G' → G := by intro h'0; refine ao1 (by decide) (o_eq rfl rfl) ?_; exact h'0.out) : G := h ⟨k⟩
theorem Zx {G G' : Prop} (k : G') (h : Hid G' → G := by intro h'0; refine Zw ?_; refine Z9 ?_; exact h'0.out) : G := h ⟨k⟩
theorem Zy {G G' : Prop} (k : G') (h : Hid G' → G := by intro h'0; refine ao1 (by decide) (o_extract (v := .int _ _) rfl rfl) ?_; exact h'0.out) : G := h ⟨k⟩
theorem Zz {G G' : Prop} (k : G') (h : Hid G' → G := by intro h'0; refine Z1 ?_; refine Z2 ?_; exact h'0.out) : G := h ⟨k⟩
theorem Z10 {G G' : Prop} (k : G') (h : Hid G' → G := by intro h'0; refine Zw ?_; refine ao_nil ?_; exact h'0.out) : G := h ⟨k⟩
theorem Z11 {G G' : Prop} (k : G') (h : Hid G' → G := by intro h'0; refine ao1 (by decide) (o_not rfl) ?_; exact h'0.out) : G := h ⟨k⟩
theorem Z12 {G G' : Prop} (k : G') (h : Hid G' → G := by intro h'0; refine ao1 (by decide) (o_lenStr rfl) ?_; exact h'0.out) : G := h ⟨k⟩
theorem Z13 {G G' : Prop} (k : G') (h : Hid G' → G := by intro h'0; refine Zv ?_; refine Z2 ?_; exact h'0.out) : G := h ⟨k⟩
theorem Z14 {G G' : Prop} (k : G') (h : Hid G' → G := by intro h'0; refine Zp ?_; refine ao_nil ?_; exact h'0.out) : G := h ⟨k⟩
theorem Z15 {G G' : Prop} (k : G') (h : Hid G' → G := by intro h'0; refine aw_drawP mixed none 999 ?_; exact h'0.out) : G := h ⟨k⟩
theorem Z16 {G G' : Prop} (k : G') (h : Hid G' → G := by intro h'0; refine aq0 0 rfl (by decide +kernel) (by decide) (fun _ => o_move (v := .str _) rfl) ?_; exact h'0.out) : G := h ⟨k⟩
theorem Z17 {G G' : Prop} (k : G') (h : Hid G' → G := by intro h'0; refine aq0 1 rfl (by decide +kernel) (by decide) (fun _ => o_move (v := .int _ _) rfl) ?_; exact h'0.out) : G := h ⟨k⟩
theorem Z18 {G G' : Prop} (k : G') (h : Hid G' → G := by intro h'0; refine aq0 4 rfl (by decide +kernel) (by decide) (fun _ => o_move (v := .int _ _) rfl) ?_; exact h'0.out) : G := h ⟨k⟩
theorem Z19 {G G' : Prop} (k : G') (h : Hid G' → G := by intro h'0; refine aa_done (by decide +kernel) (by exact fun _ => ⟨_, rfl⟩) ?_; exact h'0.out) : G := h ⟨k⟩
theorem Z1a {G G' : Prop} (k : G') (h : Hid G' → G := by intro h'0; refine aq0 5 rfl (by decide +kernel) (by decide) (fun _ => o_move (v := .int _ _) rfl) ?_; exact h'0.out) : G := h ⟨k⟩
theorem Z1b {G G' : Prop} (k : G') (h : Hid G' → G := by intro h'0; refine aq0 8 rfl (by decide +kernel) (by decide) (fun _ => o_assign (v := .int _ _) rfl) ?_; exact h'0.out) : G := h ⟨k⟩
theorem Z1c {G G' : Prop} (k : G') (h : Hid G' → G := by intro h'0; refine ao1 (by decide) (o_ge rfl rfl) ?_; exact h'0.out) : G := h ⟨k⟩
theorem Z1d {G G' : Prop} (k : G') (h : Hid G' → G := by intro h'0; refine ao1 (by decide) (o_move (v := .fn _ _ _) rfl) ?_; exact h'0.out) : G := h ⟨k⟩
theorem Z1e {G G' : Prop} (k : G') (h : Hid G' → G := by intro h'0; refine aw_region ?_; refine Z1d ?_; exact h'0.out) : G := h ⟨k⟩
theorem Z1f {G G' : Prop} (k : G') (h : Hid G' → G := by intro h'0; refine ao_y1 rfl rfl (by decide) (o_not rfl) ?_; exact h'0.out) : G := h ⟨k⟩
theorem Z1g {G : Prop} (h : G := by exact ao_nil (Out.mk (by (refine congrArg AV.bool ?_; (simp_all; done))) (by repeat (first | exact SubX.refl _ _ | refine SubX.at ?_ | refine SubX.put rfl ?_)))) : G := h
theorem Z1h {G G' : Prop} (k : G') (h : Hid G' → G := by intro h'0; refine Zl ?_; refine Zk ?_; exact h'0.out) : G := h ⟨k⟩
theorem Z1i {G G' : Prop} (k : G') (h : Hid G' → G := by intro h'0; refine Z1h ?_; refine Zn ?_; exact h'0.out) : G := h ⟨k⟩
theorem Z1j {G G' : Prop} (k : G') (h : Hid G' → G := by intro h'0; refine ao1 (by decide) (o_min rfl rfl rfl) ?_; exact h'0.out) : G := h ⟨k⟩
theorem Z1k {G G' : Prop} (k : G') (h : Hid G' → G := by intro h'0; refine ao_ret (when_near _ _) rfl (by decide) ?_; exact h'0.out) : G := h ⟨k⟩
theorem Z1l {G G' : Prop} (k : G') (h : Hid G' → G := by intro h'0; refine ao1 (by decide) (o_add rfl rfl (wrap64_ok (by omega) (by omega))) ?_; exact h'0.out) : G := h ⟨k⟩
theorem Z1m {G G' : Prop} (k : G') (h : Hid G' → G := by intro h'0; refine Z1l ?_; refine Z2 ?_; exact h'0.out) : G := h ⟨k⟩
theorem Z1n {G G' : Prop} (k : G') (h : Hid G' → G := by intro h'0; refine Z1c ?_; refine Zc ?_; exact h'0.out) : G := h ⟨k⟩
theorem Z1o {G G' : Prop} (k : G') (h : Hid G' → G := by intro h'0; refine Zv ?_; refine Z6 ?_; exact h'0.out) : G := h ⟨k⟩
theorem Z1p {G G' : Prop} (k : G') (h : Hid G' → G := by intro h'0; refine ao1 (by decide) (o_ne rfl rfl) ?_; exact h'0.out) : G := h ⟨k⟩
theorem Z1q {G G' : Prop} (k : G') (h : Hid G' → G := by intro h'0; refine ao_ret (cmp_isNaN _ _) rfl (by decide) ?_; exact h'0.out) : G := h ⟨k⟩
theorem Z1r {G G' : Prop} (k : G') (h : Hid G' → G := by intro h'0; refine aw_region ?_; refine Zc ?_; exact h'0.out) : G := h ⟨k⟩
theorem Z1s {G G' : Prop} (k : G') (h : Hid G' → G := by intro h'0; refine ao1 (by decide) (o_gt rfl rfl) ?_; exact h'0.out) : G := h ⟨k⟩
theorem Z1t {G G' : Prop} (k : G') (h : Hid G' → G := by intro h'0; refine Z1s ?_; refine ao_nil ?_; exact h'0.out) : G := h ⟨k⟩
theorem Z1u {G G' : Prop} (k : G') (h : Hid G' → G := by intro h'0; refine Z6 ?_; refine Z6 ?_; exact h'0.out) : G := h ⟨k⟩
theorem Z1v {G G' : Prop} (k : G') (h : Hid G' → G := by intro h'0; refine ao2 (by rintro _ ⟨⟩; decide) (o_boxL (sz := 7) (v := .agg _) rfl rfl rfl rfl (by decide) rfl) ?_; exact h'0.out) : G := h ⟨k⟩
theorem Z1w {G G' : Prop} (k : G') (h : Hid G' → G := by intro h'0; refine aw_region ?_; refine Z1v ?_; exact h'0.out) : G := h ⟨k⟩
theorem Z1x {G G' : Prop} (k : G') (h : Hid G' → G := by intro h'0; (try dsimp only [List.length_nil, put, AV.cells, List.nil_append]); exact h'0.out) : G := h ⟨k⟩
theorem Z1y {G G' : Prop} (k : G') (h : Hid G' → G := by intro h'0; refine Z9 ?_; refine Z1x ?_; exact h'0.out) : G := h ⟨k⟩
theorem Z1z {G G' : Prop} (k : G') (h : Hid G' → G := by intro h'0; refine ao1 (by decide) (w_fieldAddr rfl (lk rfl rfl) rfl (by decide)) ?_; exact h'0.out) : G := h ⟨k⟩
theorem Z20 {G G' : Prop} (k : G') (h : Hid G' → G := by intro h'0; refine Z1z ?_; refine ao1 (by decide) (w_load1 (v := .int _ _) rfl (lk rfl rfl) rfl rfl rfl) ?_; exact h'0.out) : G := h ⟨k⟩
theorem Z21 {G G' : Prop} (k : G') (h : Hid G' → G := by intro h'0; refine ao_y1 rfl rfl (by decide) (w_fieldAddr rfl (lk rfl rfl) rfl (by decide)) ?_; exact h'0.out) : G := h ⟨k⟩
theorem Z22 {G G' : Prop} (k : G') (h : Hid G' → G := by intro h'0; refine Z21 ?_; refine ao_y1 rfl rfl (by decide) (w_load1 (v := .int _ _) rfl (lk rfl rfl) rfl rfl rfl) ?_; exact h'0.out) : G := h ⟨k⟩
theorem Z23 {G G' : Prop} (k : G') (h : Hid G' → G := by intro h'0; refine ao_y rfl rfl (by decide) (V2.call (spec_within _ _ _ _) rfl) ?_; exact h'0.out) : G := h ⟨k⟩
theorem Z24 {G G' : Prop} (k : G') (h : Hid G' → G := by intro h'0; refine Zg ?_; refine Zc ?_; exact h'0.out) : G := h ⟨k⟩
theorem Z25 {G : Prop} (h : G := by exact ao_nil (Out.mk (by (refine congrArg AV.bool ?_; (simp only [smany] at *; (simp_all; omega)))) (by repeat (first | exact SubX.refl _ _ | refine SubX.at ?_ | refine SubX.put rfl ?_)))) : G := h
theorem Z26 {G G' : Prop} (k : G') (h : Hid G' → G := by intro h'0; refine Zm ?_; refine Zc ?_; exact h'0.out) : G := h ⟨k⟩
theorem Z27 {G G' : Prop} (k : G') (h : Hid G' → G := by intro h'0; refine Z1h ?_; refine Z26 ?_; exact h'0.out) : G := h ⟨k⟩
theorem Z28 {G G' : Prop} (k : G') (h : Hid G' → G := by intro h'0; refine ao_nF rfl rfl (by decide) ?_; exact h'0.out) : G := h ⟨k⟩
theorem Z29 {G G' : Prop} (k : G') (h : Hid G' → G := by intro h'0; refine Z28 ?_; refine Z28 ?_; exact h'0.out) : G := h ⟨k⟩
theorem Z2a {G G' : Prop} (k : G') (h : Hid G' → G := by intro h'0; refine Z29 ?_; refine Z28 ?_; exact h'0.out) : G := h ⟨k⟩
theorem Z2b {G G' : Prop} (k : G') (h : Hid G' → G := by intro h'0; refine Z2a ?_; refine Z24 ?_; exact h'0.out) : G := h ⟨k⟩
theorem Z2c {G : Prop} (h : G := by exact ao_nil (Out.mk (by (refine congrArg AV.bool ?_; (simp only [ssome] at *; (simp_all; done)))) (by repeat (first | exact SubX.refl _ _ | refine SubX.at ?_ | refine SubX.put rfl ?_)))) : G := h
theorem Z2d {G G' : Prop} (k : G') (h : Hid G' → G := by intro h'0; refine ao_y1 rfl rfl (by decide) (o_gt rfl rfl) ?_; exact h'0.out) : G := h ⟨k⟩
theorem Z2e {G G' : Prop} (k : G') (h : Hid G' → G := by intro h'0; refine Zc ?_; refine Zc ?_; exact h'0.out) : G := h ⟨k⟩
theorem Z2f {G G' : Prop} (k : G') (h : Hid G' → G := by intro h'0; refine ao_y1 rfl rfl (by decide) (o_move (v := .bool _) rfl) ?_; exact h'0.out) : G := h ⟨k⟩
theorem Z2g {G : Prop} (h : G := by exact ao_nil (Out.mk (by (refine congrArg AV.bool ?_; (simp only [sright] at *; (simp_all; done)))) (by repeat (first | exact SubX.refl _ _ | refine SubX.at ?_ | refine SubX.put rfl ?_)))) : G := h
theorem Z2h {G G' : Prop} (k : G') (h : Hid G' → G := by intro h'0; refine ao1 (by decide) (w_loadR rfl (lk rfl rfl) rfl rfl rfl) ?_; exact h'0.out) : G := h ⟨k⟩
theorem Z2i {G G' : Prop} (k : G') (h : Hid G' → G := by intro h'0; refine aw_region ?_; refine Z2h ?_; exact h'0.out) : G := h ⟨k⟩
theorem Z2j {G G' : Prop} (k : G') (h : Hid G' → G := by intro h'0; refine Z11 ?_; refine ao_nil ?_; exact h'0.out) : G := h ⟨k⟩
theorem Z2k {G G' : Prop} (k : G') (h : Hid G' → G := by intro h'0; refine ao_ret (when_Plus _ _ _) rfl (by decide) ?_; exact h'0.out) : G := h ⟨k⟩
theorem Z2l {G G' : Prop} (k : G') (h : Hid G' → G := by intro h'0; (try dsimp only [Nat.reduceAdd]); exact h'0.out) : G := h ⟨k⟩
theorem Z2m {G G' : Prop} (k : G') (h : Hid G' → G := by intro h'0; refine Z2 ?_; refine Z2l ?_; exact h'0.out) : G := h ⟨k⟩
theorem Z2n {G G' : Prop} (k : G') (h : Hid G' → G := by intro h'0; refine ao1 (by decide) (o_assign (v := .nsl) rfl) ?_; exact h'0.out) : G := h ⟨k⟩
theorem Z2o {G G' : Prop} (k : G') (h : Hid G' → G := by intro h'0; refine aw_region ?_; refine Z2n ?_; exact h'0.out) : G := h ⟨k⟩
theorem Z2p {G G' : Prop} (k : G') (h : Hid G' → G := by intro h'0; refine Z2o ?_; refine ao_nil ?_; exact h'0.out) : G := h ⟨k⟩
theorem Z2q {G G' : Prop} (k : G') (h : Hid G' → G := by intro h'0; refine ao1 (by decide) (o_move (v := .pl _) rfl) ?_; exact h'0.out) : G := h ⟨k⟩
theorem Z2r {G G' : Prop} (k : G') (h : Hid G' → G := by intro h'0; refine aw_region ?_; refine Z2q ?_; exact h'0.out) : G := h ⟨k⟩
theorem Z2s {G G' : Prop} (k : G') (h : Hid G' → G := by intro h'0; refine ao_nil ?_; (try dsimp only [put]); exact h'0.out) : G := h ⟨k⟩
theorem Z2t {G G' : Prop} (k : G') (h : Hid G' → G := by intro h'0; refine ao2 (by rintro _ ⟨⟩; decide) (o_buildSlice0) ?_; exact h'0.out) : G := h ⟨k⟩
theorem Z2u {G G' : Prop} (k : G') (h : Hid G' → G := by intro h'0; refine ao1 (by decide) (o_assign (v := .pl _) rfl) ?_; exact h'0.out) : G := h ⟨k⟩
theorem Z2v {G G' : Prop} (k : G') (h : Hid G' → G := by intro h'0; refine Z2u ?_; refine Z2s ?_; exact h'0.out) : G := h ⟨k⟩
theorem Z2w {G G' : Prop} (k : G') (h : Hid G' → G := by intro h'0; refine ao2 (by rintro _ ⟨⟩; decide) (o_boxL (sz := 13) (v := .agg _) rfl rfl rfl rfl (by decide) rfl) ?_; exact h'0.out) : G := h ⟨k⟩
theorem Z2x {G G' : Prop} (k : G') (h : Hid G' → G := by intro h'0; refine aw_region ?_; refine Z2w ?_; exact h'0.out) : G := h ⟨k⟩
theorem Z2y {G G' : Prop} (k : G') (h : Hid G' → G := by intro h'0; refine ao1 (by decide) (w_load1 (v := .pl _) rfl (lk rfl rfl) rfl rfl rfl) ?_; exact h'0.out) : G := h ⟨k⟩
theorem Z2z {G G' : Prop} (k : G') (h : Hid G' → G := by intro h'0; refine Z1z ?_; refine Z2y ?_; exact h'0.out) : G := h ⟨k⟩
theorem Z30 {G G' : Prop} (k : G') (h : Hid G' → G := by intro h'0; refine aw_region ?_; refine Z2z ?_; exact h'0.out) : G := h ⟨k⟩
theorem Z31 {G G' : Prop} (k : G') (h : Hid G' → G := by intro h'0; refine ao1 (by decide) (o_lenp rfl) ?_; exact h'0.out) : G := h ⟨k⟩
theorem Z32 {G G' : Prop} (k : G') (h : Hid G' → G := by intro h'0; refine ao_nil ?_; refine Z2l ?_; exact h'0.out) : G := h ⟨k⟩
theorem Z33 {G G' : Prop} (k : G') (h : Hid G' → G := by intro h'0; refine Z6 ?_; refine ao_nil ?_; exact h'0.out) : G := h ⟨k⟩
theorem Z34 {G G' : Prop} (k : G') (h : Hid G' → G := by intro h'0; refine Z31 ?_; refine Z33 ?_; exact h'0.out) : G := h ⟨k⟩
theorem Z35 {G G' : Prop} (k : G') (h : Hid G' → G := by intro h'0; refine Z34 ?_; refine Z2l ?_; exact h'0.out) : G := h ⟨k⟩
theorem Z36 {G G' : Prop} (k : G') (h : Hid G' → G := by intro h'0; refine aw_region ?_; refine Z14 ?_; exact h'0.out) : G := h ⟨k⟩
theorem Z37 {G G' : Prop} (k : G') (h : Hid G' → G := by intro h'0; refine ao1 (by decide) (w_indexAddrpN rfl rfl hr rfl) ?_; exact h'0.out) : G := h ⟨k⟩
theorem Z38 {G G' : Prop} (k : G') (h : Hid G' → G := by intro h'0; refine ao1 (by decide) (o_load1p (v := .int _ _) rfl hr rfl) ?_; exact h'0.out) : G := h ⟨k⟩
theorem Z39 {G G' : Prop} (k : G') (h : Hid G' → G := by intro h'0; refine Z37 ?_; refine Z38 ?_; exact h'0.out) : G := h ⟨k⟩
theorem Z3a {G G' : Prop} (k : G') (h : Hid G' → G := by intro h'0; refine aw_region ?_; refine Z39 ?_; exact h'0.out) : G := h ⟨k⟩
theorem Z3b {G G' : Prop} (k : G') (h : Hid G' → G := by intro h'0; refine Z3a ?_; refine Z2 ?_; exact h'0.out) : G := h ⟨k⟩
theorem Z3c {G G' : Prop} (k : G') (h : Hid G' → G := by intro h'0; refine Z29 ?_; refine Z29 ?_; exact h'0.out) : G := h ⟨k⟩
theorem Z3d {G G' : Prop} (k : G') (h : Hid G' → G := by intro h'0; refine Z3c ?_; refine Zg ?_; exact h'0.out) : G := h ⟨k⟩
theorem Z3e {G : Prop} (h : G := by exact ao_nil (Out.mk (by (refine congrArg AV.bool ?_; (rw [hok] at *; simp only [Bool.not_not] at *; (simp_all; done)))) (by repeat (first | exact SubX.refl _ _ | refine SubX.at ?_ | refine SubX.put rfl ?_)))) : G := h
theorem Z3f {G G' : Prop} (k : G') (h : Hid G' → G := by intro h'0; refine ao_y1 rfl rfl (by decide) (o_ge rfl rfl) ?_; exact h'0.out) : G := h ⟨k⟩
theorem Z3g {G : Prop} (h : G := by exact ao_nil (Out.mk (by (refine congrArg AV.bool ?_; (rw [hok] at *; simp only [Bool.not_not] at *; (simp_all; omega)))) (by repeat (first | exact SubX.refl _ _ | refine SubX.at ?_ | refine SubX.put rfl ?_)))) : G := h
theorem Z3h {G G' : Prop} (k : G') (h : Hid G' → G := by intro h'0; refine aw_region ?_; refine Z1l ?_; exact h'0.out) : G := h ⟨k⟩
theorem Z3i {G G' : Prop} (k : G') (h : Hid G' → G := by intro h'0; refine Z3h ?_; refine Z33 ?_; exact h'0.out) : G := h ⟨k⟩
theorem Z3j {G G' : Prop} (k : G') (h : Hid G' → G := by intro h'0; refine ao_ret (when_Right _ _) rfl (by decide) ?_; exact h'0.out) : G := h ⟨k⟩
theorem Z3k {G G' : Prop} (k : G') (h : Hid G' → G := by intro h'0; refine Z22 ?_; refine Z22 ?_; exact h'0.out) : G := h ⟨k⟩
theorem Z3l {G G' : Prop} (k : G') (h : Hid G' → G := by intro h'0; refine Zl ?_; refine Z1i ?_; exact h'0.out) : G := h ⟨k⟩
theorem Z3m {G G' : Prop} (k : G') (h : Hid G' → G := by intro h'0; refine ao_y1 rfl rfl (by decide) (o_max rfl rfl rfl) ?_; exact h'0.out) : G := h ⟨k⟩
theorem Z3n {G G' : Prop} (k : G') (h : Hid G' → G := by intro h'0; refine Zl ?_; refine Zl ?_; exact h'0.out) : G := h ⟨k⟩
theorem Z3o {G G' : Prop} (k : G') (h : Hid G' → G := by intro h'0; refine Z3n ?_; refine Z3n ?_; exact h'0.out) : G := h ⟨k⟩
theorem Z3p {G G' : Prop} (k : G') (h : Hid G' → G := by intro h'0; refine aw_region ?_; refine Z20 ?_; exact h'0.out) : G := h ⟨k⟩
theorem Z3q {G G' : Prop} (k : G') (h : Hid G' → G := by intro h'0; refine aw_region ?_; refine Zx ?_; exact h'0.out) : G := h ⟨k⟩
theorem Z3r {G G' : Prop} (k : G') (h : Hid G' → G := by intro h'0; refine Zw ?_; refine Zc ?_; exact h'0.out) : G := h ⟨k⟩
theorem Z3s {G G' : Prop} (k : G') (h : Hid G' → G := by intro h'0; refine ao_y1 rfl rfl (by decide) (o_eq rfl rfl) ?_; exact h'0.out) : G := h ⟨k⟩
theorem Z3t {G G' : Prop} (k : G') (h : Hid G' → G := by intro h'0; refine Z22 ?_; refine Z3s ?_; exact h'0.out) : G := h ⟨k⟩
theorem Z3u {G : Prop} (h : G := by exact ao_nil (Out.mk (by (refine congrArg AV.bool ?_; (simp only [jtimes, hs] at *; (simp_all; done)))) (by repeat (first | exact SubX.refl _ _ | refine SubX.at ?_ | refine SubX.put rfl ?_)))) : G := h
theorem Z3v {G : Prop} (h : G := by refine Zh ?_; exact Z3u) : G := h
theorem Z3w {G G' : Prop} (k : G') (h : Hid G' → G := by intro h'0; refine Zk ?_; refine Zn ?_; exact h'0.out) : G := h ⟨k⟩
theorem Z3x {G G' : Prop} (k : G') (h : Hid G' → G := by intro h'0; refine Z3s ?_; refine Z24 ?_; exact h'0.out) : G := h ⟨k⟩
theorem Z3y {G : Prop} (h : G := by exact ao_nil (Out.mk (by (refine congrArg AV.bool ?_; (simp only [jtimes, h0, h1, h2, h3, h4, h5] at *; (simp_all; done)))) (by repeat (first | exact SubX.refl _ _ | refine SubX.at ?_ | refine SubX.put rfl ?_)))) : G := h
theorem Z3z {G G' : Prop} (k : G') (h : Hid G' → G := by intro h'0; refine ao_y1 rfl rfl (by decide) (w_loadN (cs := [_, _, _, _, _, _, _]) rfl (lk rfl rfl) rfl rfl rfl rfl) ?_; exact h'0.out) : G := h ⟨k⟩
theorem Z40 {G G' : Prop} (k : G') (h : Hid G' → G := by intro h'0; refine ao_y rfl rfl (by decide) (V2.call (spec_Right _ _) rfl) ?_; exact h'0.out) : G := h ⟨k⟩
theorem Z41 {G G' : Prop} (k : G') (h : Hid G' → G := by intro h'0; refine ao_y1 rfl rfl (by decide) (w_loadR rfl (lk rfl rfl) rfl rfl rfl) ?_; exact h'0.out) : G := h ⟨k⟩
theorem Z42 {G G' : Prop} (k : G') (h : Hid G' → G := by intro h'0; refine ao_y rfl rfl (by decide) (V2.call (when_Right _ _) rfl) ?_; exact h'0.out) : G := h ⟨k⟩
theorem Z43 {G : Prop} (h : G := by exact ao_nil (Out.mk (by (refine congrArg AV.bool ?_; (simp only [jright, tm] at *; (simp_all; done)))) (by repeat (first | exact SubX.refl _ _ | refine SubX.at ?_ | refine SubX.put rfl ?_)))) : G := h
theorem Z44 {G : Prop} (h : G := by exact ao_nil (Out.mk (by (refine congrArg AV.bool ?_; (simp only [jright, tm] at *; (simp_all; omega)))) (by repeat (first | exact SubX.refl _ _ | refine SubX.at ?_ | refine SubX.put rfl ?_)))) : G := h
theorem Z45 {G G' : Prop} (k : G') (h : Hid G' → G := by intro h'0; refine Z27 ?_; refine Zl ?_; exact h'0.out) : G := h ⟨k⟩
theorem Z46 {G G' : Prop} (k : G') (h : Hid G' → G := by intro h'0; refine Z45 ?_; refine Zn ?_; exact h'0.out) : G := h ⟨k⟩
theorem Z47 {G G' : Prop} (k : G') (h : Hid G' → G := by intro h'0; refine Zl ?_; refine Z26 ?_; exact h'0.out) : G := h ⟨k⟩
theorem Z48 {G G' : Prop} (k : G') (h : Hid G' → G := by intro h'0; refine Z1 ?_; refine Z9 ?_; exact h'0.out) : G := h ⟨k⟩
theorem Z49 {G G' : Prop} (k : G') (h : Hid G' → G := by intro h'0; refine aw_region ?_; refine Z48 ?_; exact h'0.out) : G := h ⟨k⟩
theorem Z4a {G G' : Prop} (k : G') (h : Hid G' → G := by intro h'0; refine Z6 ?_; refine Z3r ?_; exact h'0.out) : G := h ⟨k⟩
theorem Z4b {G G' : Prop} (k : G') (h : Hid G' → G := by intro h'0; refine Ze ?_; refine Z3s ?_; exact h'0.out) : G := h ⟨k⟩
theorem Z4c {G G' : Prop} (k : G') (h : Hid G' → G := by intro h'0; refine Z4b ?_; refine Zh ?_; exact h'0.out) : G := h ⟨k⟩
theorem Z4d {G : Prop} (h : G := by refine Z4c ?_; exact ao_nil (Out.mk (by (refine congrArg AV.bool ?_; grind)) (by repeat (first | exact SubX.refl _ _ | refine SubX.at ?_ | refine SubX.put rfl ?_)))) : G := h
theorem Z4e {G : Prop} (h : G := by exact e_done hB (r_tmp rfl (r_tmp rfl .nil)) rfl rfl) : G := h
theorem Z4f {G : Prop} (h : G := by exact ao_nil (Out.mk (by (refine congrArg AV.bool ?_; (simp_all; omega))) (by repeat (first | exact SubX.refl _ _ | refine SubX.at ?_ | refine SubX.put rfl ?_)))) : G := h
theorem Z4g {G G' : Prop} (k : G') (h : Hid G' → G := by intro h'0; refine ao2 (by rintro _ ⟨⟩; decide) (o_allocL (sz := 13) rfl (by decide) rfl) ?_; exact h'0.out) : G := h ⟨k⟩
theorem Z4h {G G' : Prop} (k : G') (h : Hid G' → G := by intro h'0; (try dsimp only [List.length_nil, put, AV.cells, List.nil_append, List.length_cons, Nat.reduceAdd, List.cons_append]); exact h'0.out) : G := h ⟨k⟩
theorem Z4i {G G' : Prop} (k : G') (h : Hid G' → G := by intro h'0; refine Z2 ?_; refine Z4h ?_; exact h'0.out) : G := h ⟨k⟩
theorem Z4j {G G' : Prop} (k : G') (h : Hid G' → G := by intro h'0; refine ao_ret (slices_CloneI _ _ (by assumption)) rfl (by decide) ?_; exact h'0.out) : G := h ⟨k⟩
theorem Z4k {G G' : Prop} (k : G') (h : Hid G' → G := by intro h'0; refine ao2 (by rintro _ ⟨⟩) (w_storeP (sz := 1) (v := .pl _) (r' := [_, _, _, _, _, _, _, _, _, _, _, _, _]) rfl rfl rfl rfl rfl rfl rfl rfl (Nat.le_of_ble_eq_true rfl) rfl) ?_; exact h'0.out) : G := h ⟨k⟩
theorem Z4l {G G' : Prop} (k : G') (h : Hid G' → G := by intro h'0; (try dsimp only [put, Nat.reduceAdd, List.set_cons_zero]); exact h'0.out) : G := h ⟨k⟩
theorem Z4m {G G' : Prop} (k : G') (h : Hid G' → G := by intro h'0; refine ao_nil ?_; refine Z4l ?_; exact h'0.out) : G := h ⟨k⟩
theorem Z4n {G G' : Prop} (k : G') (h : Hid G' → G := by intro h'0; refine Z11 ?_; refine Zc ?_; exact h'0.out) : G := h ⟨k⟩
theorem Z4o {G G' : Prop} (k : G') (h : Hid G' → G := by intro h'0; refine Z29 ?_; refine Z24 ?_; exact h'0.out) : G := h ⟨k⟩
theorem Z4p {G G' : Prop} (k : G') (h : Hid G' → G := by intro h'0; refine Z29 ?_; refine Z2a ?_; exact h'0.out) : G := h ⟨k⟩
theorem Z4q {G G' : Prop} (k : G') (h : Hid G' → G := by intro h'0; refine Z4p ?_; refine Zg ?_; exact h'0.out) : G := h ⟨k⟩
theorem Z4r {G : Prop} (h : G := by exact ao_nil (Out.mk (by (refine congrArg AV.bool ?_; (simp only [jbad, tm] at *; (simp_all; done)))) (by repeat (first | exact SubX.refl _ _ | refine SubX.at ?_ | refine SubX.put rfl ?_)))) : G := h
theorem Z4s {G G' : Prop} (k : G') (h : Hid G' → G := by intro h'0; refine Ze ?_; refine Z2d ?_; exact h'0.out) : G := h ⟨k⟩
theorem Z4t {G G' : Prop} (k : G') (h : Hid G' → G := by intro h'0; refine Z1f ?_; refine Z26 ?_; exact h'0.out) : G := h ⟨k⟩
theorem Z4u {G G' : Prop} (k : G') (h : Hid G' → G := by intro h'0; refine ao2 (by rintro _ ⟨⟩) (w_storeW (sz := 13) rfl rfl rfl rfl rfl rfl rfl rfl (Nat.le_of_ble_eq_true rfl)) ?_; exact h'0.out) : G := h ⟨k⟩
theorem Z4v {G G' : Prop} (k : G') (h : Hid G' → G := by intro h'0; refine Z2i ?_; refine Z4u ?_; exact h'0.out) : G := h ⟨k⟩
theorem Z4w {G G' : Prop} (k : G') (h : Hid G' → G := by intro h'0; (try dsimp only [put, List.set_cons_zero, List.set_cons_succ]); exact h'0.out) : G := h ⟨k⟩
theorem Z4x {G : Prop} (h : G := by exact e_done hB (r_cellR rfl (lk rfl rfl) rfl rfl rfl (r_tmp rfl .nil)) rfl rfl) : G := h
theorem Z4y {G G' : Prop} (k : G') (h : Hid G' → G := by intro h'0; refine Z3p ?_; refine Z6 ?_; exact h'0.out) : G := h ⟨k⟩
theorem Z4z {G G' : Prop} (k : G') (h : Hid G' → G := by intro h'0; refine ao2 (by rintro _ ⟨⟩; decide) (V2.call (c4 _) rfl) ?_; exact h'0.out) : G := h ⟨k⟩
theorem Z50 {G G' : Prop} (k : G') (h : Hid G' → G := by intro h'0; refine ao1 (by decide) (o_move (v := .tup _) rfl) ?_; exact h'0.out) : G := h ⟨k⟩
theorem Z51 {G G' : Prop} (k : G') (h : Hid G' → G := by intro h'0; refine ao1 (by decide) (o_extract (v := .bool _) rfl rfl) ?_; exact h'0.out) : G := h ⟨k⟩
theorem Z52 {G G' : Prop} (k : G') (h : Hid G' → G := by intro h'0; refine Zy ?_; refine Z51 ?_; exact h'0.out) : G := h ⟨k⟩
theorem Z53 {G G' : Prop} (k : G') (h : Hid G' → G := by intro h'0; refine Z52 ?_; refine Z48 ?_; exact h'0.out) : G := h ⟨k⟩
theorem Z54 {G G' : Prop} (k : G') (h : Hid G' → G := by intro h'0; refine Z50 ?_; refine Z53 ?_; exact h'0.out) : G := h ⟨k⟩
theorem Z55 {G G' : Prop} (k : G') (h : Hid G' → G := by intro h'0; (try dsimp only [Nat.reduceAdd, put]); exact h'0.out) : G := h ⟨k⟩
theorem Z56 {G G' : Prop} (k : G') (h : Hid G' → G := by intro h'0; refine Z1r ?_; refine Z2j ?_; exact h'0.out) : G := h ⟨k⟩
theorem Z57 {G G' : Prop} (k : G') (h : Hid G' → G := by intro h'0; refine ao2 (by rintro _ ⟨⟩) (w_storeP (sz := 1) (v := .int _ _) (r' := [_, _, _, _, _, _, _, _, _, _, _, _, _]) rfl rfl rfl rfl rfl rfl rfl rfl (Nat.le_of_ble_eq_true rfl) rfl) ?_; exact h'0.out) : G := h ⟨k⟩
theorem Z58 {G G' : Prop} (k : G') (h : Hid G' → G := by intro h'0; refine ao_ret (job_Over _ _) rfl (by decide) ?_; exact h'0.out) : G := h ⟨k⟩
theorem Z59 {G G' : Prop} (k : G') (h : Hid G' → G := by intro h'0; refine Z2r ?_; refine Z31 ?_; exact h'0.out) : G := h ⟨k⟩
theorem Z5a {G G' : Prop} (k : G') (h : Hid G' → G := by intro h'0; refine Z2q ?_; refine Z31 ?_; exact h'0.out) : G := h ⟨k⟩
theorem Z5b {G G' : Prop} (k : G') (h : Hid G' → G := by intro h'0; refine Z1p ?_; refine ao_nil ?_; exact h'0.out) : G := h ⟨k⟩
theorem Z5c {G G' : Prop} (k : G') (h : Hid G' → G := by intro h'0; refine Zv ?_; refine Z5a ?_; exact h'0.out) : G := h ⟨k⟩
theorem Z5d {G G' : Prop} (k : G') (h : Hid G' → G := by intro h'0; refine Z5c ?_; refine Z14 ?_; exact h'0.out) : G := h ⟨k⟩
theorem Z5e {G G' : Prop} (k : G') (h : Hid G' → G := by intro h'0; refine aq0 0 rfl (by decide +kernel) (by decide) (fun _ => o_move (v := .pl _) rfl) ?_; exact h'0.out) : G := h ⟨k⟩
theorem Z5f {G G' : Prop} (k : G') (h : Hid G' → G := by intro h'0; refine aq0 4 rfl (by decide +kernel) (by decide) (fun _ => o_move (v := .pl _) rfl) ?_; exact h'0.out) : G := h ⟨k⟩
theorem Z5g {G G' : Prop} (k : G') (h : Hid G' → G := by intro h'0; refine Zv ?_; refine Z1m ?_; exact h'0.out) : G := h ⟨k⟩
theorem Z5h {G G' : Prop} (k : G') (h : Hid G' → G := by intro h'0; refine Z20 ?_; refine Z20 ?_; exact h'0.out) : G := h ⟨k⟩
theorem Z5i {G G' : Prop} (k : G') (h : Hid G' → G := by intro h'0; refine Z3k ?_; refine Z3x ?_; exact h'0.out) : G := h ⟨k⟩
theorem Z5j {G G' : Prop} (k : G') (h : Hid G' → G := by intro h'0; refine ao_y1 rfl rfl (by decide) (w_load1 (v := .pl _) rfl (lk rfl rfl) rfl rfl rfl) ?_; exact h'0.out) : G := h ⟨k⟩
theorem Z5k {G G' : Prop} (k : G') (h : Hid G' → G := by intro h'0; refine Z21 ?_; refine Z5j ?_; exact h'0.out) : G := h ⟨k⟩
theorem Z5l {G G' : Prop} (k : G') (h : Hid G' → G := by intro h'0; refine Z5k ?_; refine Z5k ?_; exact h'0.out) : G := h ⟨k⟩
theorem Z5m {G : Prop} (h : G := by exact ao_nil (Out.mk (by (refine congrArg AV.bool ?_; (simp_all))) (by repeat (first | exact SubX.refl _ _ | refine SubX.at ?_ | refine SubX.put rfl ?_)))) : G := h
theorem Z5n {G G' : Prop} (k : G') (h : Hid G' → G := by intro h'0; refine Z45 ?_; refine Z1i ?_; exact h'0.out) : G := h ⟨k⟩
theorem Z5o {G : Prop} (h : G := by refine Z5n ?_; exact Z5m) : G := h
theorem Z5p {G G' : Prop} (k : G') (h : Hid G' → G := by intro h'0; refine Z45 ?_; refine Z45 ?_; exact h'0.out) : G := h ⟨k⟩
theorem Z5q {G G' : Prop} (k : G') (h : Hid G' → G := by intro h'0; refine Zl ?_; refine Z5p ?_; exact h'0.out) : G := h ⟨k⟩
theorem Z5r {G G' : Prop} (k : G') (h : Hid G' → G := by intro h'0; refine ao2 (by rintro _ ⟨⟩; decide) (o_allocL (sz := 4) rfl (by decide) rfl) ?_; exact h'0.out) : G := h ⟨k⟩
theorem Z5s {G G' : Prop} (k : G') (h : Hid G' → G := by intro h'0; (try dsimp only [List.length_nil, put, List.nil_append]); exact h'0.out) : G := h ⟨k⟩
theorem Z5t {G G' : Prop} (k : G') (h : Hid G' → G := by intro h'0; refine Z2r ?_; refine Z34 ?_; exact h'0.out) : G := h ⟨k⟩
theorem Z5u {G G' : Prop} (k : G') (h : Hid G' → G := by intro h'0; refine ao2 (by rintro _ ⟨⟩) (w_storeW (sz := 4) rfl rfl rfl rfl rfl rfl (eWn_len _) rfl (Nat.le_of_ble_eq_true rfl)) ?_; exact h'0.out) : G := h ⟨k⟩
theorem Z5v {G G' : Prop} (k : G') (h : Hid G' → G := by intro h'0; refine Z5u ?_; refine Z9 ?_; exact h'0.out) : G := h ⟨k⟩
theorem Z5w {G G' : Prop} (k : G') (h : Hid G' → G := by intro h'0; (try dsimp only [put, List.set_cons_zero]); exact h'0.out) : G := h ⟨k⟩
theorem Z5x {G : Prop} (h : G := by exact e_done hB (r_cellR rfl (lk rfl rfl) rfl rfl (eWn_len _) (r_tmp rfl .nil)) rfl (by simp [AV.bel, AV.bels, eWn_bels])) : G := h
theorem Z5y {G G' : Prop} (k : G') (h : Hid G' → G := by intro h'0; refine aq0 0 rfl (by decide +kernel) (by decide) (fun _ => o_move (v := .int _ _) rfl) ?_; exact h'0.out) : G := h ⟨k⟩
theorem Z5z {G G' : Prop} (k : G') (h : Hid G' → G := by intro h'0; refine aa_done (by decide +kernel) (by exact yet_done (by decide +kernel)) ?_; exact h'0.out) : G := h ⟨k⟩
theorem Z60 {G G' : Prop} (k : G') (h : Hid G' → G := by intro h'0; refine ao_ret (set_of _ (by assumption) _) rfl (by decide) ?_; exact h'0.out) : G := h ⟨k⟩
theorem Z61 {G G' : Prop} (k : G') (h : Hid G' → G := by intro h'0; refine ao1 (by decide) (o_extract (v := .agg _) rfl rfl) ?_; exact h'0.out) : G := h ⟨k⟩
theorem Z62 {G G' : Prop} (k : G') (h : Hid G' → G := by intro h'0; refine Z50 ?_; refine Z61 ?_; exact h'0.out) : G := h ⟨k⟩
theorem Z63 {G G' : Prop} (k : G') (h : Hid G' → G := by intro h'0; refine Z62 ?_; refine Z51 ?_; exact h'0.out) : G := h ⟨k⟩
theorem Z64 {G G' : Prop} (k : G') (h : Hid G' → G := by intro h'0; (try dsimp only [List.length_nil, put, List.nil_append, List.set_cons_zero]); exact h'0.out) : G := h ⟨k⟩
theorem Z65 {G G' : Prop} (k : G') (h : Hid G' → G := by intro h'0; (try dsimp only [List.length_cons, List.length_nil, Nat.reduceAdd, put, List.cons_append, List.nil_append, List.set_cons_zero, List.set_cons_succ]); exact h'0.out) : G := h ⟨k⟩
theorem Z66 {G G' : Prop} (k : G') (h : Hid G' → G := by intro h'0; refine aq0 2 rfl (by decide +kernel) (by decide) (fun _ => o_move (v := .bool _) rfl) ?_; exact h'0.out) : G := h ⟨k⟩
theorem Z67 {G G' : Prop} (k : G') (h : Hid G' → G := by intro h'0; refine aq0 3 rfl (by decide +kernel) (by decide) (fun _ => o_move (v := .bool _) rfl) ?_; exact h'0.out) : G := h ⟨k⟩
theorem Z68 {G G' : Prop} (k : G') (h : Hid G' → G := by intro h'0; refine aqs 6 rfl (by decide +kernel) (by exact fun _ => ⟨_, rfl, rfl, rfl⟩) (by rintro _ ⟨⟩) (w_storeW (sz := 4) rfl rfl rfl rfl rfl rfl (eWn_len _) rfl (Nat.le_of_ble_eq_true rfl)) ?_; exact h'0.out) : G := h ⟨k⟩
theorem Z69 {G G' : Prop} (k : G') (h : Hid G' → G := by intro h'0; refine aqs 7 rfl (by decide +kernel) (by exact fun _ => ⟨_, rfl, rfl, rfl⟩) (by rintro _ ⟨⟩) (w_storeW (sz := 4) rfl rfl rfl rfl rfl rfl (eWn_len _) rfl (Nat.le_of_ble_eq_true rfl)) ?_; exact h'0.out) : G := h ⟨k⟩
theorem Z6a {G G' : Prop} (k : G') (h : Hid G' → G := by intro h'0; refine aq0 8 rfl (by decide +kernel) (by decide) (fun _ => o_assign (v := .bool _) rfl) ?_; exact h'0.out) : G := h ⟨k⟩
theorem Z6b {G G' : Prop} (k : G') (h : Hid G' → G := by intro h'0; refine aa_done (by decide +kernel) (by exact fun _ => ⟨_, rfl, rfl, rfl⟩) ?_; exact h'0.out) : G := h ⟨k⟩
theorem Z6c {G : Prop} (h : G := by exact e_done hB (r_cellR rfl (lk rfl rfl) rfl rfl (eWn_len _) (r_cellR rfl (lk rfl rfl) rfl rfl (eWn_len _) (r_tmp rfl .nil))) rfl (hbel _)) : G := h
theorem Z6d {G G' : Prop} (k : G') (h : Hid G' → G := by intro h'0; refine Z2r ?_; refine Z2q ?_; exact h'0.out) : G := h ⟨k⟩
theorem Z6e {G G' : Prop} (k : G') (h : Hid G' → G := by intro h'0; refine ao_ret (set_both _ _ (by assumption) (by assumption) _) rfl (by decide) ?_; exact h'0.out) : G := h ⟨k⟩
theorem Z6f {G G' : Prop} (k : G') (h : Hid G' → G := by intro h'0; (try dsimp only [List.length_nil, put, List.nil_append, List.length_cons, Nat.reduceAdd, List.cons_append, List.set_cons_zero, List.set_cons_succ]); exact h'0.out) : G := h ⟨k⟩
theorem Z6g {G G' : Prop} (k : G') (h : Hid G' → G := by intro h'0; refine aw_drawP mixed none 2 ?_; exact h'0.out) : G := h ⟨k⟩
theorem Z6h {G G' : Prop} (k : G') (h : Hid G' → G := by intro h'0; (try dsimp only [List.take_succ_cons, List.take_zero]); exact h'0.out) : G := h ⟨k⟩
theorem Z6i {G G' : Prop} (k : G') (h : Hid G' → G := by intro h'0; refine Z6g ?_; refine Z6h ?_; exact h'0.out) : G := h ⟨k⟩
theorem Z6j {G G' : Prop} (k : G') (h : Hid G' → G := by intro h'0; refine aq0 0 rfl (by decide +kernel) (by decide) (fun _ => o_move (v := .bool _) rfl) ?_; exact h'0.out) : G := h ⟨k⟩
theorem Z6k {G G' : Prop} (k : G') (h : Hid G' → G := by intro h'0; refine aq0 1 rfl (by decide +kernel) (by decide) (fun _ => o_move (v := .bool _) rfl) ?_; exact h'0.out) : G := h ⟨k⟩
theorem Z6l {G G' : Prop} (k : G') (h : Hid G' → G := by intro h'0; refine aqy0 (g := 20) 2 rfl (by decide +kernel) (by decide) rfl rfl (fun _ => o_move (v := .int _ _) rfl) ?_; exact h'0.out) : G := h ⟨k⟩
theorem Z6m {G G' : Prop} (k : G') (h : Hid G' → G := by intro h'0; refine aqyp (g := 20) 3 rfl (by decide +kernel) (by decide) rfl rfl (fun G => w_indexArrN rfl (lk rfl rfl) rfl rfl hk4) ?_; exact h'0.out) : G := h ⟨k⟩
theorem Z6n {G G' : Prop} (k : G') (h : Hid G' → G := by intro h'0; refine aqyp (g := 20) 4 rfl (by decide +kernel) (by decide) rfl rfl (fun G => w_load1 (v := .int .u64 _) rfl (lk rfl rfl) rfl rfl hx) ?_; exact h'0.out) : G := h ⟨k⟩
theorem Z6o {G G' : Prop} (k : G') (h : Hid G' → G := by intro h'0; refine aqy0 (g := 20) 5 rfl (by decide +kernel) (by decide) rfl rfl (fun _ => o_move (v := .int _ _) rfl) ?_; exact h'0.out) : G := h ⟨k⟩
theorem Z6p {G G' : Prop} (k : G') (h : Hid G' → G := by intro h'0; refine aqyp (g := 20) 6 rfl (by decide +kernel) (by decide) rfl rfl (fun G => w_indexArrN rfl (lk rfl rfl) rfl rfl hk4) ?_; exact h'0.out) : G := h ⟨k⟩
theorem Z6q {G G' : Prop} (k : G') (h : Hid G' → G := by intro h'0; refine aqyp (g := 20) 7 rfl (by decide +kernel) (by decide) rfl rfl (fun G => w_load1 (v := .int .u64 _) rfl (lk rfl rfl) rfl rfl hy) ?_; exact h'0.out) : G := h ⟨k⟩
theorem Z6r {G G' : Prop} (k : G') (h : Hid G' → G := by intro h'0; refine aqy0 (g := 20) 9 rfl (by decide +kernel) (by decide) rfl rfl (fun _ => o_eq rfl rfl) ?_; exact h'0.out) : G := h ⟨k⟩
theorem Z6s {G G' : Prop} (k : G') (h : Hid G' → G := by intro h'0; refine aq0 10 rfl (by decide +kernel) (by decide) (fun _ => o_pick_t (v := .bool _) rfl rfl) ?_; exact h'0.out) : G := h ⟨k⟩
theorem Z6t {G G' : Prop} (k : G') (h : Hid G' → G := by intro h'0; refine aq0 11 rfl (by decide +kernel) (by decide) (fun _ => o_assign (v := .bool _) rfl) ?_; exact h'0.out) : G := h ⟨k⟩
theorem Z6u {G G' : Prop} (k : G') (h : Hid G' → G := by intro h'0; refine aqn0 (g := 20) 2 rfl (by decide +kernel) (by decide) rfl rfl rfl ?_; exact h'0.out) : G := h ⟨k⟩
theorem Z6v {G G' : Prop} (k : G') (h : Hid G' → G := by intro h'0; refine aqn0 (g := 20) 3 rfl (by decide +kernel) (by decide) rfl rfl rfl ?_; exact h'0.out) : G := h ⟨k⟩
theorem Z6w {G G' : Prop} (k : G') (h : Hid G' → G := by intro h'0; refine aqn0 (g := 20) 4 rfl (by decide +kernel) (by decide) rfl rfl rfl ?_; exact h'0.out) : G := h ⟨k⟩
theorem Z6x {G G' : Prop} (k : G') (h : Hid G' → G := by intro h'0; refine aqn0 (g := 20) 5 rfl (by decide +kernel) (by decide) rfl rfl rfl ?_; exact h'0.out) : G := h ⟨k⟩
theorem Z6y {G G' : Prop} (k : G') (h : Hid G' → G := by intro h'0; refine aqn0 (g := 20) 6 rfl (by decide +kernel) (by decide) rfl rfl rfl ?_; exact h'0.out) : G := h ⟨k⟩
theorem Z6z {G G' : Prop} (k : G') (h : Hid G' → G := by intro h'0; refine aqn0 (g := 20) 7 rfl (by decide +kernel) (by decide) rfl rfl rfl ?_; exact h'0.out) : G := h ⟨k⟩
theorem Z70 {G G' : Prop} (k : G') (h : Hid G' → G := by intro h'0; refine aqn0 (g := 20) 8 rfl (by decide +kernel) (by decide) rfl rfl rfl ?_; exact h'0.out) : G := h ⟨k⟩
theorem Z71 {G G' : Prop} (k : G') (h : Hid G' → G := by intro h'0; refine aqn0 (g := 20) 9 rfl (by decide +kernel) (by decide) rfl rfl rfl ?_; exact h'0.out) : G := h ⟨k⟩
theorem Z72 {G G' : Prop} (k : G') (h : Hid G' → G := by intro h'0; refine aq0 10 rfl (by decide +kernel) (by decide) (fun _ => o_pick_f (v := .bool _) rfl rfl) ?_; exact h'0.out) : G := h ⟨k⟩
theorem Z73 {G G' : Prop} (k : G') (h : Hid G' → G := by intro h'0; refine Z2n ?_; refine ao_nil ?_; exact h'0.out) : G := h ⟨k⟩
theorem Z74 {G G' : Prop} (k : G') (h : Hid G' → G := by intro h'0; refine ao1 (by decide) (w_loadR rfl (lk rfl rfl) rfl rfl (eWn_len _)) ?_; exact h'0.out) : G := h ⟨k⟩
theorem Z75 {G G' : Prop} (k : G') (h : Hid G' → G := by intro h'0; (try dsimp only [List.cons_append, List.nil_append]); exact h'0.out) : G := h ⟨k⟩
theorem Z76 {G G' : Prop} (k : G') (h : Hid G' → G := by intro h'0; refine Zv ?_; refine Z5b ?_; exact h'0.out) : G := h ⟨k⟩
theorem Z77 {G G' : Prop} (k : G') (h : Hid G' → G := by intro h'0; refine ao1 (by decide) (o_move (v := .sl _ _ _ _ _) rfl) ?_; exact h'0.out) : G := h ⟨k⟩
theorem Z78 {G G' : Prop} (k : G') (h : Hid G' → G := by intro h'0; refine aw_region ?_; refine Z77 ?_; exact h'0.out) : G := h ⟨k⟩
theorem Z79 {G G' : Prop} (k : G') (h : Hid G' → G := by intro h'0; refine Z78 ?_; refine Z6 ?_; exact h'0.out) : G := h ⟨k⟩
theorem Z7a {G G' : Prop} (k : G') (h : Hid G' → G := by intro h'0; refine ao2 (by rintro _ ⟨⟩; decide) (o_buildSlice1L (sz := 1) (v := .int _ _) rfl (by decide) (by decide) rfl rfl rfl rfl rfl) ?_; exact h'0.out) : G := h ⟨k⟩
theorem Z7b {G G' : Prop} (k : G') (h : Hid G' → G := by intro h'0; refine ao1 (by decide) (o_assign (v := .sl _ _ _ _ _) rfl) ?_; exact h'0.out) : G := h ⟨k⟩
theorem Z7c {G G' : Prop} (k : G') (h : Hid G' → G := by intro h'0; refine Z7b ?_; refine ao_nil ?_; exact h'0.out) : G := h ⟨k⟩
theorem Z7d {G G' : Prop} (k : G') (h : Hid G' → G := by intro h'0; refine ao2 (by rintro _ ⟨⟩; decide) (w_append rfl rfl rfl rfl rfl (w_src1 rfl rfl rfl rfl rfl rfl) rfl (by (simp; done)) (by simp; done) (by (simp; omega)) (by (simp; omega))) ?_; refine Z7c ?_; exact h'0.out) : G := h ⟨k⟩
theorem Z7e {G G' : Prop} (k : G') (h : Hid G' → G := by intro h'0; refine Z7d ?_; (try dsimp only [AV.cells, List.length_cons, List.length_nil, Nat.reduceAdd, put, List.cons_append, List.nil_append, List.set_cons_succ, List.set_cons_zero]); exact h'0.out) : G := h ⟨k⟩
theorem Z7f {G G' : Prop} (k : G') (h : Hid G' → G := by intro h'0; refine Z78 ?_; refine Z7c ?_; exact h'0.out) : G := h ⟨k⟩
theorem Z7g {G : Prop} (h : G := by refine aw_ret ?_; exact Z7) : G := h
theorem Z7h {G G' : Prop} (k : G') (h : Hid G' → G := by intro h'0; refine aq0 2 rfl (by decide +kernel) (by decide) (fun _ => o_move (v := .int _ _) rfl) ?_; exact h'0.out) : G := h ⟨k⟩
theorem Z7i {G : Prop} (h : G := by exact ao_nil (Out.mk (by (refine congrArg AV.bool ?_; (clear hr; (simp_all; omega)))) (by repeat (first | exact SubX.refl _ _ | refine SubX.at ?_ | refine SubX.put rfl ?_)))) : G := h
theorem Z7j {G G' : Prop} (k : G') (h : Hid G' → G := by intro h'0; refine ao_y1 rfl rfl (by decide) (o_move (v := .pl _) rfl) ?_; exact h'0.out) : G := h ⟨k⟩
theorem Z7k {G G' : Prop} (k : G') (h : Hid G' → G := by intro h'0; refine ao_y1 rfl rfl (by decide) (o_lenp rfl) ?_; exact h'0.out) : G := h ⟨k⟩
theorem Z7l {G G' : Prop} (k : G') (h : Hid G' → G := by intro h'0; refine Z7j ?_; refine Z7k ?_; exact h'0.out) : G := h ⟨k⟩
theorem Z7m {G G' : Prop} (k : G') (h : Hid G' → G := by intro h'0; refine ao_y1 rfl rfl (by decide) (w_loadRp rfl hr rfl) ?_; exact h'0.out) : G := h ⟨k⟩
theorem Z7n {G G' : Prop} (k : G') (h : Hid G' → G := by intro h'0; refine Z37 ?_; refine ao1 (by decide) (w_loadRp rfl hr rfl) ?_; exact h'0.out) : G := h ⟨k⟩
theorem Z7o {G G' : Prop} (k : G') (h : Hid G' → G := by intro h'0; refine Zv ?_; refine Z7n ?_; exact h'0.out) : G := h ⟨k⟩
theorem Z7p {G G' : Prop} (k : G') (h : Hid G' → G := by intro h'0; refine ao2 (by rintro _ ⟨⟩; decide) (o_allocL (sz := 3) rfl (by decide) rfl) ?_; exact h'0.out) : G := h ⟨k⟩
theorem Z7q {G G' : Prop} (k : G') (h : Hid G' → G := by intro h'0; refine ao2 (by rintro _ ⟨⟩) (w_storeW (sz := 3) rfl rfl rfl rfl rfl rfl rfl rfl (Nat.le_of_ble_eq_true rfl)) ?_; exact h'0.out) : G := h ⟨k⟩
theorem Z7r {G G' : Prop} (k : G') (h : Hid G' → G := by intro h'0; (try dsimp only [put, List.length_nil, List.nil_append, List.set_cons_zero]); exact h'0.out) : G := h ⟨k⟩
theorem Z7s {G G' : Prop} (k : G') (h : Hid G' → G := by intro h'0; refine ao_nil ?_; refine Z7r ?_; exact h'0.out) : G := h ⟨k⟩
theorem Z7t {G G' : Prop} (k : G') (h : Hid G' → G := by intro h'0; refine aw_drawP mixed none 1 ?_; exact h'0.out) : G := h ⟨k⟩
theorem Z7u {G G' : Prop} (k : G') (h : Hid G' → G := by intro h'0; refine Z7t ?_; refine Z6h ?_; exact h'0.out) : G := h ⟨k⟩
theorem Z7v {G G' : Prop} (k : G') (h : Hid G' → G := by intro h'0; refine aqp 0 rfl (by decide +kernel) (by decide) (fun G => w_fieldAddr rfl (lk rfl rfl) rfl (by decide)) ?_; exact h'0.out) : G := h ⟨k⟩
theorem Z7w {G G' : Prop} (k : G') (h : Hid G' → G := by intro h'0; refine aqp 1 rfl (by decide +kernel) (by decide) (fun G => w_load1 (v := .int _ _) rfl (lk rfl rfl) rfl rfl rfl) ?_; exact h'0.out) : G := h ⟨k⟩
theorem Z7x {G G' : Prop} (k : G') (h : Hid G' → G := by intro h'0; refine aq0 2 rfl (by decide +kernel) (by decide) (fun _ => o_lt rfl rfl) ?_; exact h'0.out) : G := h ⟨k⟩
theorem Z7y {G G' : Prop} (k : G') (h : Hid G' → G := by intro h'0; refine aqn0 (g := 31) 4 rfl (by decide +kernel) (by decide) rfl rfl rfl ?_; exact h'0.out) : G := h ⟨k⟩
theorem Z7z {G G' : Prop} (k : G') (h : Hid G' → G := by intro h'0; refine aqn0 (g := 31) 5 rfl (by decide +kernel) (by decide) rfl rfl rfl ?_; exact h'0.out) : G := h ⟨k⟩
theorem Z80 {G G' : Prop} (k : G') (h : Hid G' → G := by intro h'0; refine aqn0 (g := 31) 6 rfl (by decide +kernel) (by decide) rfl rfl rfl ?_; exact h'0.out) : G := h ⟨k⟩
theorem Z81 {G G' : Prop} (k : G') (h : Hid G' → G := by intro h'0; refine aqn0 (g := 31) 7 rfl (by decide +kernel) (by decide) rfl rfl rfl ?_; exact h'0.out) : G := h ⟨k⟩
theorem Z82 {G G' : Prop} (k : G') (h : Hid G' → G := by intro h'0; refine aq0 8 rfl (by decide +kernel) (by decide) (fun _ => o_pick_t (v := .bool _) rfl rfl) ?_; exact h'0.out) : G := h ⟨k⟩
theorem Z83 {G G' : Prop} (k : G') (h : Hid G' → G := by intro h'0; refine aq0 9 rfl (by decide +kernel) (by decide) (fun _ => o_move (v := .bool _) rfl) ?_; exact h'0.out) : G := h ⟨k⟩
theorem Z84 {G G' : Prop} (k : G') (h : Hid G' → G := by intro h'0; refine aqn0 (g := 37) 10 rfl (by decide +kernel) (by decide) rfl rfl rfl ?_; exact h'0.out) : G := h ⟨k⟩
theorem Z85 {G G' : Prop} (k : G') (h : Hid G' → G := by intro h'0; refine aqn0 (g := 37) 11 rfl (by decide +kernel) (by decide) rfl rfl rfl ?_; exact h'0.out) : G := h ⟨k⟩
theorem Z86 {G G' : Prop} (k : G') (h : Hid G' → G := by intro h'0; refine aqn0 (g := 37) 12 rfl (by decide +kernel) (by decide) rfl rfl rfl ?_; exact h'0.out) : G := h ⟨k⟩
theorem Z87 {G G' : Prop} (k : G') (h : Hid G' → G := by intro h'0; refine aqn0 (g := 37) 13 rfl (by decide +kernel) (by decide) rfl rfl rfl ?_; exact h'0.out) : G := h ⟨k⟩
theorem Z88 {G G' : Prop} (k : G') (h : Hid G' → G := by intro h'0; refine aqn0 (g := 37) 14 rfl (by decide +kernel) (by decide) rfl rfl rfl ?_; exact h'0.out) : G := h ⟨k⟩
theorem Z89 {G G' : Prop} (k : G') (h : Hid G' → G := by intro h'0; refine aqn0 (g := 37) 15 rfl (by decide +kernel) (by decide) rfl rfl rfl ?_; exact h'0.out) : G := h ⟨k⟩
theorem Z8a {G G' : Prop} (k : G') (h : Hid G' → G := by intro h'0; refine aqn0 (g := 37) 16 rfl (by decide +kernel) (by decide) rfl rfl rfl ?_; exact h'0.out) : G := h ⟨k⟩
theorem Z8b {G G' : Prop} (k : G') (h : Hid G' → G := by intro h'0; refine aqn0 (g := 37) 17 rfl (by decide +kernel) (by decide) rfl rfl rfl ?_; exact h'0.out) : G := h ⟨k⟩
theorem Z8c {G G' : Prop} (k : G') (h : Hid G' → G := by intro h'0; refine aqn0 (g := 37) 18 rfl (by decide +kernel) (by decide) rfl rfl rfl ?_; exact h'0.out) : G := h ⟨k⟩
theorem Z8d {G G' : Prop} (k : G') (h : Hid G' → G := by intro h'0; refine aqn0 (g := 37) 19 rfl (by decide +kernel) (by decide) rfl rfl rfl ?_; exact h'0.out) : G := h ⟨k⟩
theorem Z8e {G G' : Prop} (k : G') (h : Hid G' → G := by intro h'0; refine aq0 20 rfl (by decide +kernel) (by decide) (fun _ => o_pick_t (v := .bool _) rfl rfl) ?_; exact h'0.out) : G := h ⟨k⟩
theorem Z8f {G G' : Prop} (k : G') (h : Hid G' → G := by intro h'0; refine aq0 21 rfl (by decide +kernel) (by decide) (fun _ => o_move (v := .bool _) rfl) ?_; exact h'0.out) : G := h ⟨k⟩
theorem Z8g {G G' : Prop} (k : G') (h : Hid G' → G := by intro h'0; refine aqn0 (g := 49) 22 rfl (by decide +kernel) (by decide) rfl rfl rfl ?_; exact h'0.out) : G := h ⟨k⟩
theorem Z8h {G G' : Prop} (k : G') (h : Hid G' → G := by intro h'0; refine aqn0 (g := 49) 23 rfl (by decide +kernel) (by decide) rfl rfl rfl ?_; exact h'0.out) : G := h ⟨k⟩
theorem Z8i {G G' : Prop} (k : G') (h : Hid G' → G := by intro h'0; refine aqn0 (g := 49) 24 rfl (by decide +kernel) (by decide) rfl rfl rfl ?_; exact h'0.out) : G := h ⟨k⟩
theorem Z8j {G G' : Prop} (k : G') (h : Hid G' → G := by intro h'0; refine aqn0 (g := 49) 25 rfl (by decide +kernel) (by decide) rfl rfl rfl ?_; exact h'0.out) : G := h ⟨k⟩
theorem Z8k {G G' : Prop} (k : G') (h : Hid G' → G := by intro h'0; refine aq0 26 rfl (by decide +kernel) (by decide) (fun _ => o_pick_t (v := .bool _) rfl rfl) ?_; exact h'0.out) : G := h ⟨k⟩
theorem Z8l {G G' : Prop} (k : G') (h : Hid G' → G := by intro h'0; refine aq0 27 rfl (by decide +kernel) (by decide) (fun _ => o_move (v := .bool _) rfl) ?_; exact h'0.out) : G := h ⟨k⟩
theorem Z8m {G G' : Prop} (k : G') (h : Hid G' → G := by intro h'0; refine aqn0 (g := 55) 28 rfl (by decide +kernel) (by decide) rfl rfl rfl ?_; refine aqn0 (g := 55) 29 rfl (by decide +kernel) (by decide) rfl rfl rfl ?_; exact h'0.out) : G := h ⟨k⟩
theorem Z8n {G G' : Prop} (k : G') (h : Hid G' → G := by intro h'0; refine Z8m ?_; refine aqn0 (g := 55) 30 rfl (by decide +kernel) (by decide) rfl rfl rfl ?_; exact h'0.out) : G := h ⟨k⟩
theorem Z8o {G G' : Prop} (k : G') (h : Hid G' → G := by intro h'0; refine Z8n ?_; refine aqn0 (g := 55) 31 rfl (by decide +kernel) (by decide) rfl rfl rfl ?_; exact h'0.out) : G := h ⟨k⟩
theorem Z8p {G G' : Prop} (k : G') (h : Hid G' → G := by intro h'0; refine Z8o ?_; refine aqu0 (g := 59) 32 rfl (by decide +kernel) (by decide) rfl rfl ?_; exact h'0.out) : G := h ⟨k⟩
theorem Z8q {G G' : Prop} (k : G') (h : Hid G' → G := by intro h'0; refine Z8p ?_; refine aqu0 (g := 59) 33 rfl (by decide +kernel) (by decide) rfl rfl ?_; exact h'0.out) : G := h ⟨k⟩
theorem Z8r {G G' : Prop} (k : G') (h : Hid G' → G := by intro h'0; refine Z8q ?_; refine aqu0 (g := 59) 34 rfl (by decide +kernel) (by decide) rfl rfl ?_; exact h'0.out) : G := h ⟨k⟩
theorem Z8s {G G' : Prop} (k : G') (h : Hid G' → G := by intro h'0; refine Z8r ?_; refine aqn0 (g := 55) 35 rfl (by decide +kernel) (by decide) rfl rfl rfl ?_; exact h'0.out) : G := h ⟨k⟩
theorem Z8t {G G' : Prop} (k : G') (h : Hid G' → G := by intro h'0; refine Z8s ?_; refine aq0 36 rfl (by decide +kernel) (by decide) (fun _ => o_pick_t (v := .bool _) rfl rfl) ?_; exact h'0.out) : G := h ⟨k⟩
theorem Z8u {G : Prop} (h : G := by exact aa_done (by decide +kernel) (by exact fun _ => ⟨_, rfl⟩) (Out.mk (by (refine congrArg AV.bool ?_; (rw [hB2]; clear hB hr1 hB2; (simp_all; omega)))) (by repeat (first | exact SubX.refl _ _ | refine SubX.at ?_ | refine SubX.put rfl ?_)))) : G := h
theorem Z8v {G G' : Prop} (k : G') (h : Hid G' → G := by intro h'0; refine aqyp (g := 31) 4 rfl (by decide +kernel) (by decide) rfl rfl (fun G => w_fieldAddr rfl (lk rfl rfl) rfl (by decide)) ?_; exact h'0.out) : G := h ⟨k⟩
theorem Z8w {G G' : Prop} (k : G') (h : Hid G' → G := by intro h'0; refine aqyp (g := 31) 5 rfl (by decide +kernel) (by decide) rfl rfl (fun G => w_load1 (v := .int _ _) rfl (lk rfl rfl) rfl rfl rfl) ?_; exact h'0.out) : G := h ⟨k⟩
theorem Z8x {G G' : Prop} (k : G') (h : Hid G' → G := by intro h'0; refine aqy0 (g := 31) 6 rfl (by decide +kernel) (by decide) rfl rfl (fun _ => o_move (v := .int _ _) rfl) ?_; exact h'0.out) : G := h ⟨k⟩
theorem Z8y {G G' : Prop} (k : G') (h : Hid G' → G := by intro h'0; refine aqy0 (g := 31) 7 rfl (by decide +kernel) (by decide) rfl rfl (fun _ => o_gt rfl rfl) ?_; exact h'0.out) : G := h ⟨k⟩
theorem Z8z {G G' : Prop} (k : G') (h : Hid G' → G := by intro h'0; refine aq0 8 rfl (by decide +kernel) (by decide) (fun _ => o_pick_f (v := .bool _) rfl rfl) ?_; exact h'0.out) : G := h ⟨k⟩
theorem Z90 {G G' : Prop} (k : G') (h : Hid G' → G := by intro h'0; refine aq0 20 rfl (by decide +kernel) (by decide) (fun _ => o_pick_f (v := .bool _) rfl rfl) ?_; exact h'0.out) : G := h ⟨k⟩
theorem Z91 {G : Prop} (h : G := by exact aa_done (by decide +kernel) (by exact fun _ => ⟨_, rfl⟩) (Out.mk (by (refine congrArg AV.bool ?_; (rw [hB2]; clear hB hr1 hB2; (simp_all; done)))) (by repeat (first | exact SubX.refl _ _ | refine SubX.at ?_ | refine SubX.put rfl ?_)))) : G := h
theorem Z92 {G G' : Prop} (k : G') (h : Hid G' → G := by intro h'0; refine aq0 36 rfl (by decide +kernel) (by decide) (fun _ => o_pick_f (v := .bool _) rfl rfl) ?_; exact h'0.out) : G := h ⟨k⟩
theorem Z93 {G : Prop} (h : G := by exact aa_done (by decide +kernel) (by exact fun _ => ⟨_, rfl⟩) (Out.mk (by (refine congrArg AV.bool ?_; (rw [hB3]; clear hB hB3; (simp_all; done)))) (by repeat (first | exact SubX.refl _ _ | refine SubX.at ?_ | refine SubX.put rfl ?_)))) : G := h
theorem Z94 {G : Prop} (h : G := by exact ao_nil (Out.mk (by (refine congrArg AV.bool ?_; (simp only [gthere]; clear hB; (simp_all; omega)))) (by repeat (first | exact SubX.refl _ _ | refine SubX.at ?_ | refine SubX.put rfl ?_)))) : G := h
theorem Z95 {G G' : Prop} (k : G') (h : Hid G' → G := by intro h'0; refine Z2r ?_; refine Z6 ?_; exact h'0.out) : G := h ⟨k⟩
theorem Z96 {G G' : Prop} (k : G') (h : Hid G' → G := by intro h'0; (try dsimp only [List.length_nil, put, List.length_cons, Nat.reduceAdd, List.nil_append]); exact h'0.out) : G := h ⟨k⟩
theorem Z97 {G G' : Prop} (k : G') (h : Hid G' → G := by intro h'0; refine ao1 (by decide) (w_indexAddrN rfl (lk rfl rfl) rfl rfl rfl (by omega)) ?_; exact h'0.out) : G := h ⟨k⟩
theorem Z98 {G G' : Prop} (k : G') (h : Hid G' → G := by intro h'0; refine ao_nil ?_; refine Z5w ?_; exact h'0.out) : G := h ⟨k⟩
theorem Z99 {G G' : Prop} (k : G') (h : Hid G' → G := by intro h'0; (try dsimp only [put, List.length_cons, List.length_nil, Nat.reduceAdd, List.cons_append, List.nil_append, List.set_cons_zero, List.set_cons_succ]); exact h'0.out) : G := h ⟨k⟩
theorem Z9a {G G' : Prop} (k : G') (h : Hid G' → G := by intro h'0; refine ao_nil ?_; refine Z99 ?_; exact h'0.out) : G := h ⟨k⟩
theorem Z9b {G G' : Prop} (k : G') (h : Hid G' → G := by intro h'0; refine ao1 (by decide) (w_load1 (v := .bool _) rfl (lk rfl rfl) rfl hrow0 rfl) ?_; exact h'0.out) : G := h ⟨k⟩
theorem Z9c {G G' : Prop} (k : G') (h : Hid G' → G := by intro h'0; refine ao_nU rfl rfl (by decide) ?_; exact h'0.out) : G := h ⟨k⟩
theorem Z9d {G G' : Prop} (k : G') (h : Hid G' → G := by intro h'0; refine Z9c ?_; refine Z9c ?_; exact h'0.out) : G := h ⟨k⟩
theorem Z9e {G G' : Prop} (k : G') (h : Hid G' → G := by intro h'0; refine Z9d ?_; refine Z9d ?_; exact h'0.out) : G := h ⟨k⟩
theorem Z9f {G G' : Prop} (k : G') (h : Hid G' → G := by intro h'0; refine Z9e ?_; refine Z9c ?_; exact h'0.out) : G := h ⟨k⟩
theorem Z9g {G G' : Prop} (k : G') (h : Hid G' → G := by intro h'0; refine Z28 ?_; refine Zg ?_; exact h'0.out) : G := h ⟨k⟩
theorem Z9h {G G' : Prop} (k : G') (h : Hid G' → G := by intro h'0; refine ao2 (by rintro _ ⟨⟩) (w_storeP (sz := 1) (v := .bool _) (r' := [.bool (uU g m i)]) rfl rfl rfl rfl hrow0 rfl rfl rfl (by show _ ≤ 1; omega) (by rw [hat]; (simp [AV.cells, hg6]; done))) ?_; exact h'0.out) : G := h ⟨k⟩
theorem Z9i {G G' : Prop} (k : G') (h : Hid G' → G := by intro h'0; refine ao_y1 rfl rfl (by decide) (o_move (v := .sl _ _ _ _ _) rfl) ?_; exact h'0.out) : G := h ⟨k⟩
theorem Z9j {G G' : Prop} (k : G') (h : Hid G' → G := by intro h'0; refine ao_y1 rfl rfl (by decide) (o_pick_t (v := .bool _) rfl rfl) ?_; exact h'0.out) : G := h ⟨k⟩
theorem Z9k {G G' : Prop} (k : G') (h : Hid G' → G := by intro h'0; refine ao2 (by rintro _ ⟨⟩) (w_storeP (sz := 1) (v := .bool _) (r' := [.bool (uU g m i)]) rfl rfl rfl rfl hrow0 rfl rfl rfl (by show _ ≤ 1; omega) (by rw [hat]; (simp [AV.cells, hg6, hup]; done))) ?_; exact h'0.out) : G := h ⟨k⟩
theorem Z9l {G G' : Prop} (k : G') (h : Hid G' → G := by intro h'0; refine Zl ?_; refine Z1h ?_; exact h'0.out) : G := h ⟨k⟩
theorem Z9m {G G' : Prop} (k : G') (h : Hid G' → G := by intro h'0; refine ao_y1 rfl rfl (by decide) (o_pick_f (v := .bool _) rfl rfl) ?_; exact h'0.out) : G := h ⟨k⟩
theorem Z9n {G G' : Prop} (k : G') (h : Hid G' → G := by intro h'0; refine Z2q ?_; refine Z6 ?_; exact h'0.out) : G := h ⟨k⟩
theorem Z9o {G G' : Prop} (k : G') (h : Hid G' → G := by intro h'0; refine Z9 ?_; (try dsimp only [put]); exact h'0.out) : G := h ⟨k⟩
theorem Z9p {G G' : Prop} (k : G') (h : Hid G' → G := by intro h'0; refine ao_ret (graph_Right _ _ (by assumption)) rfl (by decide) ?_; exact h'0.out) : G := h ⟨k⟩
theorem Z9q {G : Prop} (h : G := by exact ao_nil (Out.mk (by (refine congrArg AV.bool ?_; (simp only [hright]; clear hB; (simp_all; omega)))) (by repeat (first | exact SubX.refl _ _ | refine SubX.at ?_ | refine SubX.put rfl ?_)))) : G := h
theorem Z9r {G G' : Prop} (k : G') (h : Hid G' → G := by intro h'0; refine aq0 0 rfl (by decide +kernel) (by decide) (fun _ => o_move (v := .sl _ _ _ _ _) rfl) ?_; refine Z17 ?_; exact h'0.out) : G := h ⟨k⟩
theorem Z9s {G G' : Prop} (k : G') (h : Hid G' → G := by intro h'0; refine aq0 2 rfl (by decide +kernel) (by decide) (fun _ => o_move (v := .sl _ _ _ _ _) rfl) ?_; exact h'0.out) : G := h ⟨k⟩
theorem Z9t {G G' : Prop} (k : G') (h : Hid G' → G := by intro h'0; refine aq0 3 rfl (by decide +kernel) (by decide) (fun _ => o_move (v := .int _ _) rfl) ?_; exact h'0.out) : G := h ⟨k⟩
theorem Z9u {G G' : Prop} (k : G') (h : Hid G' → G := by intro h'0; refine aqp 7 rfl (by decide +kernel) (by decide) (fun G => w_fieldAddr rfl (lk rfl rfl) rfl (by decide)) ?_; exact h'0.out) : G := h ⟨k⟩
theorem Z9v {G G' : Prop} (k : G') (h : Hid G' → G := by intro h'0; refine ao_ret (health_Right _ _ _ (by omega) (by omega)) rfl (by decide) ?_; exact h'0.out) : G := h ⟨k⟩
theorem Z9w {G G' : Prop} (k : G') (h : Hid G' → G := by intro h'0; (try dsimp only [List.nil_append]); exact h'0.out) : G := h ⟨k⟩
theorem Z9x {G G' : Prop} (k : G') (h : Hid G' → G := by intro h'0; (try dsimp only [AV.cells, List.length_cons, List.length_nil, Nat.reduceAdd, put, List.cons_append, List.nil_append, List.set_cons_zero]); exact h'0.out) : G := h ⟨k⟩
theorem Z9y {G G' : Prop} (k : G') (h : Hid G' → G := by intro h'0; refine ao_ret (health_below _ _ _ _ (by omega) (by omega)) rfl (by decide) ?_; exact h'0.out) : G := h ⟨k⟩
theorem Z9z {G G' : Prop} (k : G') (h : Hid G' → G := by intro h'0; refine Z2u ?_; refine ao_nil ?_; exact h'0.out) : G := h ⟨k⟩
theorem Za0 {G G' : Prop} (k : G') (h : Hid G' → G := by intro h'0; refine ao2 (by rintro _ ⟨⟩; decide) (o_boxL (sz := 4) (v := .agg _) rfl rfl rfl rfl (by decide) rfl) ?_; exact h'0.out) : G := h ⟨k⟩
theorem Za1 {G G' : Prop} (k : G') (h : Hid G' → G := by intro h'0; refine aw_region ?_; refine Za0 ?_; exact h'0.out) : G := h ⟨k⟩
theorem Za2 {G G' : Prop} (k : G') (h : Hid G' → G := by intro h'0; refine Z2z ?_; refine Z31 ?_; exact h'0.out) : G := h ⟨k⟩
theorem Za3 {G G' : Prop} (k : G') (h : Hid G' → G := by intro h'0; refine Z1s ?_; refine Zc ?_; exact h'0.out) : G := h ⟨k⟩
theorem Za4 {G G' : Prop} (k : G') (h : Hid G' → G := by intro h'0; refine ao_y rfl rfl (by decide) (V2.call (set_Right _ (by omega) _) rfl) ?_; exact h'0.out) : G := h ⟨k⟩
theorem Za5 {G : Prop} (h : G := by exact ao_nil (Out.mk (by (refine congrArg AV.bool ?_; (simp only [hmay, tm]; clear hB; (simp_all; done)))) (by repeat (first | exact SubX.refl _ _ | refine SubX.at ?_ | refine SubX.put rfl ?_)))) : G := h
theorem Za6 {G : Prop} (h : G := by exact ao_nil (Out.mk (by (refine congrArg AV.bool ?_; (simp only [hmay, tm]; clear hB; (simp_all; omega)))) (by repeat (first | exact SubX.refl _ _ | refine SubX.at ?_ | refine SubX.put rfl ?_)))) : G := h
theorem Za7 {G G' : Prop} (k : G') (h : Hid G' → G := by intro h'0; refine ao_ret (when_Meets _ _ _ _ _) rfl (by decide) ?_; exact h'0.out) : G := h ⟨k⟩
theorem Za8 {G : Prop} (h : G := by exact ao_nil (Out.mk (by (refine congrArg AV.bool ?_; (simp only [clash]; clear hB; (simp_all; done)))) (by repeat (first | exact SubX.refl _ _ | refine SubX.at ?_ | refine SubX.put rfl ?_)))) : G := h
theorem Za9 {G G' : Prop} (k : G') (h : Hid G' → G := by intro h'0; refine ao1 (by decide) (w_loadR rfl (lkF hF) rfl rfl rfl) ?_; exact h'0.out) : G := h ⟨k⟩
theorem Zaa {G G' : Prop} (k : G') (h : Hid G' → G := by intro h'0; refine ao_ret (held_clash _ _ _ (by assumption) (by assumption)) rfl (by decide) ?_; exact h'0.out) : G := h ⟨k⟩
theorem Zab {G G' : Prop} (k : G') (h : Hid G' → G := by intro h'0; refine ao2 (by rintro _ ⟨⟩) (w_storeW (sz := 4) rfl rfl rfl rfl rfl rfl rfl rfl (Nat.le_of_ble_eq_true rfl)) ?_; exact h'0.out) : G := h ⟨k⟩
theorem Zac {G G' : Prop} (k : G') (h : Hid G' → G := by intro h'0; refine aqp 0 rfl (by decide +kernel) (by decide) (fun G => w_loadR rfl (lk rfl rfl) rfl rfl rfl) ?_; exact h'0.out) : G := h ⟨k⟩
theorem Zad {G G' : Prop} (k : G') (h : Hid G' → G := by intro h'0; refine Z7u ?_; refine Zac ?_; exact h'0.out) : G := h ⟨k⟩
theorem Zae {G G' : Prop} (k : G') (h : Hid G' → G := by intro h'0; refine aq02 1 rfl (by decide +kernel) (by decide) (fun _ => V2.call (held_may _ _ (by assumption)) rfl) ?_; exact h'0.out) : G := h ⟨k⟩
theorem Zaf {G G' : Prop} (k : G') (h : Hid G' → G := by intro h'0; refine aq0 2 rfl (by decide +kernel) (by decide) (fun _ => o_not rfl) ?_; exact h'0.out) : G := h ⟨k⟩
theorem Zag {G G' : Prop} (k : G') (h : Hid G' → G := by intro h'0; refine aqn0 (g := 18) 4 rfl (by decide +kernel) (by decide) rfl rfl rfl ?_; exact h'0.out) : G := h ⟨k⟩
theorem Zah {G G' : Prop} (k : G') (h : Hid G' → G := by intro h'0; refine aqn0 (g := 18) 5 rfl (by decide +kernel) (by decide) rfl rfl rfl ?_; exact h'0.out) : G := h ⟨k⟩
theorem Zai {G G' : Prop} (k : G') (h : Hid G' → G := by intro h'0; refine aqn0 (g := 18) 6 rfl (by decide +kernel) (by decide) rfl rfl rfl ?_; exact h'0.out) : G := h ⟨k⟩
theorem Zaj {G G' : Prop} (k : G') (h : Hid G' → G := by intro h'0; refine aqu0 (g := 21) 7 rfl (by decide +kernel) (by decide) rfl rfl ?_; exact h'0.out) : G := h ⟨k⟩
theorem Zak {G G' : Prop} (k : G') (h : Hid G' → G := by intro h'0; refine aqu0 (g := 21) 8 rfl (by decide +kernel) (by decide) rfl rfl ?_; exact h'0.out) : G := h ⟨k⟩
theorem Zal {G G' : Prop} (k : G') (h : Hid G' → G := by intro h'0; refine aqu0 (g := 21) 9 rfl (by decide +kernel) (by decide) rfl rfl ?_; exact h'0.out) : G := h ⟨k⟩
theorem Zam {G G' : Prop} (k : G') (h : Hid G' → G := by intro h'0; refine aqu0 (g := 21) 10 rfl (by decide +kernel) (by decide) rfl rfl ?_; exact h'0.out) : G := h ⟨k⟩
theorem Zan {G G' : Prop} (k : G') (h : Hid G' → G := by intro h'0; refine aqu0 (g := 21) 11 rfl (by decide +kernel) (by decide) rfl rfl ?_; exact h'0.out) : G := h ⟨k⟩
theorem Zao {G G' : Prop} (k : G') (h : Hid G' → G := by intro h'0; refine aqu0 (g := 21) 12 rfl (by decide +kernel) (by decide) rfl rfl ?_; exact h'0.out) : G := h ⟨k⟩
theorem Zap {G G' : Prop} (k : G') (h : Hid G' → G := by intro h'0; refine aqu0 (g := 21) 13 rfl (by decide +kernel) (by decide) rfl rfl ?_; exact h'0.out) : G := h ⟨k⟩
theorem Zaq {G G' : Prop} (k : G') (h : Hid G' → G := by intro h'0; refine aqu0 (g := 21) 14 rfl (by decide +kernel) (by decide) rfl rfl ?_; exact h'0.out) : G := h ⟨k⟩
theorem Zar {G G' : Prop} (k : G') (h : Hid G' → G := by intro h'0; refine aqu0 (g := 21) 15 rfl (by decide +kernel) (by decide) rfl rfl ?_; exact h'0.out) : G := h ⟨k⟩
theorem Zas {G G' : Prop} (k : G') (h : Hid G' → G := by intro h'0; refine aqn0 (g := 18) 16 rfl (by decide +kernel) (by decide) rfl rfl rfl ?_; exact h'0.out) : G := h ⟨k⟩
theorem Zat {G G' : Prop} (k : G') (h : Hid G' → G := by intro h'0; refine aq0 17 rfl (by decide +kernel) (by decide) (fun _ => o_pick_t (v := .bool _) rfl rfl) ?_; exact h'0.out) : G := h ⟨k⟩
theorem Zau {G G' : Prop} (k : G') (h : Hid G' → G := by intro h'0; refine aq0 18 rfl (by decide +kernel) (by decide) (fun _ => o_move (v := .bool _) rfl) ?_; exact h'0.out) : G := h ⟨k⟩
theorem Zav {G G' : Prop} (k : G') (h : Hid G' → G := by intro h'0; refine aqn0 (g := 33) 19 rfl (by decide +kernel) (by decide) rfl rfl rfl ?_; exact h'0.out) : G := h ⟨k⟩
theorem Zaw {G G' : Prop} (k : G') (h : Hid G' → G := by intro h'0; refine aqn0 (g := 33) 20 rfl (by decide +kernel) (by decide) rfl rfl rfl ?_; exact h'0.out) : G := h ⟨k⟩
theorem Zax {G G' : Prop} (k : G') (h : Hid G' → G := by intro h'0; refine aqn0 (g := 33) 21 rfl (by decide +kernel) (by decide) rfl rfl rfl ?_; exact h'0.out) : G := h ⟨k⟩
theorem Zay {G G' : Prop} (k : G') (h : Hid G' → G := by intro h'0; refine aqn0 (g := 33) 22 rfl (by decide +kernel) (by decide) rfl rfl rfl ?_; exact h'0.out) : G := h ⟨k⟩
theorem Zaz {G G' : Prop} (k : G') (h : Hid G' → G := by intro h'0; refine aqn0 (g := 33) 23 rfl (by decide +kernel) (by decide) rfl rfl rfl ?_; exact h'0.out) : G := h ⟨k⟩
theorem Zb0 {G G' : Prop} (k : G') (h : Hid G' → G := by intro h'0; refine aq0 24 rfl (by decide +kernel) (by decide) (fun _ => o_pick_t (v := .bool _) rfl rfl) ?_; exact h'0.out) : G := h ⟨k⟩
theorem Zb1 {G : Prop} (h : G := by exact aa_done (by decide +kernel) (by exact fun _ => ⟨_, rfl⟩) (Out.mk (by (refine congrArg AV.bool ?_; (rw [hB2]; clear hB hr1 hB2 hno0 hli; (simp_all; done)))) (by repeat (first | exact SubX.refl _ _ | refine SubX.at ?_ | refine SubX.put rfl ?_)))) : G := h
theorem Zb2 {G G' : Prop} (k : G') (h : Hid G' → G := by intro h'0; refine aqy0 (g := 18) 4 rfl (by decide +kernel) (by decide) rfl rfl (fun _ => o_move (v := .int _ _) rfl) ?_; exact h'0.out) : G := h ⟨k⟩
theorem Zb3 {G G' : Prop} (k : G') (h : Hid G' → G := by intro h'0; refine aqy0 (g := 18) 5 rfl (by decide +kernel) (by decide) rfl rfl (fun _ => o_gt rfl rfl) ?_; exact h'0.out) : G := h ⟨k⟩
theorem Zb4 {G G' : Prop} (k : G') (h : Hid G' → G := by intro h'0; refine aqy0 (g := 18) 6 rfl (by decide +kernel) (by decide) rfl rfl (fun _ => o_move (v := .bool _) rfl) ?_; exact h'0.out) : G := h ⟨k⟩
theorem Zb5 {G G' : Prop} (k : G') (h : Hid G' → G := by intro h'0; refine aqy0 (g := 21) 10 rfl (by decide +kernel) (by decide) rfl rfl (fun _ => o_move (v := .int _ _) rfl) ?_; exact h'0.out) : G := h ⟨k⟩
theorem Zb6 {G G' : Prop} (k : G') (h : Hid G' → G := by intro h'0; refine aq0 17 rfl (by decide +kernel) (by decide) (fun _ => o_pick_f (v := .bool _) rfl rfl) ?_; exact h'0.out) : G := h ⟨k⟩
theorem Zb7 {G G' : Prop} (k : G') (h : Hid G' → G := by intro h'0; refine aqy0 (g := 33) 19 rfl (by decide +kernel) (by decide) rfl rfl (fun _ => o_move (v := .pl _) rfl) ?_; exact h'0.out) : G := h ⟨k⟩
theorem Zb8 {G G' : Prop} (k : G') (h : Hid G' → G := by intro h'0; refine aqy0 (g := 33) 20 rfl (by decide +kernel) (by decide) rfl rfl (fun _ => o_move (v := .int _ _) rfl) ?_; exact h'0.out) : G := h ⟨k⟩
theorem Zb9 {G G' : Prop} (k : G') (h : Hid G' → G := by intro h'0; refine aqy0 (g := 33) 21 rfl (by decide +kernel) (by decide) rfl rfl (fun _ => o_headp (ys := (l.take i).map eHeld) rfl (Bd.some rfl rfl) (by simp; omega) (helds_len _) hli) ?_; exact h'0.out) : G := h ⟨k⟩
theorem Zba {G G' : Prop} (k : G') (h : Hid G' → G := by intro h'0; refine aqy0 (g := 33) 22 rfl (by decide +kernel) (by decide) rfl rfl (fun _ => o_makeFunc (vs := []) (us := [_]) rfl rfl) ?_; exact h'0.out) : G := h ⟨k⟩
theorem Zbb {G G' : Prop} (k : G') (h : Hid G' → G := by intro h'0; refine aqyp2 (g := 33) 23 rfl (by decide +kernel) (by decide) rfl rfl (fun G => V2.call (slices_ContainsFuncH (l.take i) h _ _ (hl.take i) hw (lk rfl rfl)) rfl) ?_; exact h'0.out) : G := h ⟨k⟩
theorem Zbc {G G' : Prop} (k : G') (h : Hid G' → G := by intro h'0; refine aq0 24 rfl (by decide +kernel) (by decide) (fun _ => o_pick_f (v := .bool _) rfl rfl) ?_; exact h'0.out) : G := h ⟨k⟩
theorem Zbd {G G' : Prop} (k : G') (h : Hid G' → G := by intro h'0; refine aqn0 (g := 21) 7 rfl (by decide +kernel) (by decide) rfl rfl rfl ?_; exact h'0.out) : G := h ⟨k⟩
theorem Zbe {G G' : Prop} (k : G') (h : Hid G' → G := by intro h'0; refine aqn0 (g := 21) 8 rfl (by decide +kernel) (by decide) rfl rfl rfl ?_; exact h'0.out) : G := h ⟨k⟩
theorem Zbf {G G' : Prop} (k : G') (h : Hid G' → G := by intro h'0; refine aqn0 (g := 21) 9 rfl (by decide +kernel) (by decide) rfl rfl rfl ?_; exact h'0.out) : G := h ⟨k⟩
theorem Zbg {G G' : Prop} (k : G') (h : Hid G' → G := by intro h'0; refine aqn0 (g := 21) 10 rfl (by decide +kernel) (by decide) rfl rfl rfl ?_; exact h'0.out) : G := h ⟨k⟩
theorem Zbh {G G' : Prop} (k : G') (h : Hid G' → G := by intro h'0; refine aqn0 (g := 21) 11 rfl (by decide +kernel) (by decide) rfl rfl rfl ?_; exact h'0.out) : G := h ⟨k⟩
theorem Zbi {G G' : Prop} (k : G') (h : Hid G' → G := by intro h'0; refine aqn0 (g := 21) 12 rfl (by decide +kernel) (by decide) rfl rfl rfl ?_; exact h'0.out) : G := h ⟨k⟩
theorem Zbj {G G' : Prop} (k : G') (h : Hid G' → G := by intro h'0; refine aqn0 (g := 21) 13 rfl (by decide +kernel) (by decide) rfl rfl rfl ?_; exact h'0.out) : G := h ⟨k⟩
theorem Zbk {G G' : Prop} (k : G') (h : Hid G' → G := by intro h'0; refine aqn0 (g := 21) 14 rfl (by decide +kernel) (by decide) rfl rfl rfl ?_; exact h'0.out) : G := h ⟨k⟩
theorem Zbl {G G' : Prop} (k : G') (h : Hid G' → G := by intro h'0; refine aqn0 (g := 21) 15 rfl (by decide +kernel) (by decide) rfl rfl rfl ?_; exact h'0.out) : G := h ⟨k⟩
theorem Zbm {G G' : Prop} (k : G') (h : Hid G' → G := by intro h'0; refine aqy0 (g := 18) 16 rfl (by decide +kernel) (by decide) rfl rfl (fun _ => o_pick_f (v := .bool _) rfl rfl) ?_; exact h'0.out) : G := h ⟨k⟩
theorem Zbn {G : Prop} (h : G := by exact aa_done (by decide +kernel) (by exact fun _ => ⟨_, rfl⟩) (Out.mk (by (refine congrArg AV.bool ?_; (rw [hB2]; clear hB hB2 hno0 hli; (simp_all; done)))) (by repeat (first | exact SubX.refl _ _ | refine SubX.at ?_ | refine SubX.put rfl ?_)))) : G := h
theorem Zbo {G G' : Prop} (k : G') (h : Hid G' → G := by intro h'0; refine ao_ret (cmp_Compare _ _ _) rfl (by decide) ?_; exact h'0.out) : G := h ⟨k⟩
theorem Zbp {G G' : Prop} (k : G') (h : Hid G' → G := by intro h'0; refine ao1 (by decide) (o_add (r := ((lo + hi : Nat) : Int)) rfl rfl (by rw [show (lo : Int) + (hi : Int) = ((lo + hi : Nat) : Int) by omega]; exact wrap64_ok (by omega) (by omega))) ?_; exact h'0.out) : G := h ⟨k⟩
theorem Zbq {G G' : Prop} (k : G') (h : Hid G' → G := by intro h'0; refine ao1 (by decide) (o_conv_int (r := ((lo + hi : Nat) : Int)) rfl (by rw [IntKind.wrap_u64]; omega)) ?_; exact h'0.out) : G := h ⟨k⟩
theorem Zbr {G G' : Prop} (k : G') (h : Hid G' → G := by intro h'0; refine ao1 (by decide) (o_shr (r := (((lo + hi) / 2 : Nat) : Int)) rfl rfl (by decide) (by rw [show ((2 : Int) ^ min (1 : Int).toNat IntKind.u64.bits) = ((2 : Nat) : Int) from rfl, Int.fdiv_eq_ediv_of_nonneg _ (by omega)]; exact (Int.natCast_ediv _ _).symm)) ?_; exact h'0.out) : G := h ⟨k⟩
theorem Zbs {G G' : Prop} (k : G') (h : Hid G' → G := by intro h'0; refine ao1 (by decide) (o_conv_int (r := (((lo + hi) / 2 : Nat) : Int)) rfl (wrap64_ok (by omega) (by omega))) ?_; exact h'0.out) : G := h ⟨k⟩
theorem Zbt {G G' : Prop} (k : G') (h : Hid G' → G := by intro h'0; refine ao1 (by decide) (o_add (r := (((lo + hi) / 2 + 1 : Nat) : Int)) rfl rfl (by rw [show (((lo + hi) / 2 : Nat) : Int) + 1 = (((lo + hi) / 2 + 1 : Nat) : Int) by omega]; exact wrap64_ok (by omega) (by omega))) ?_; exact h'0.out) : G := h ⟨k⟩
theorem Zbu {G G' : Prop} (k : G') (h : Hid G' → G := by intro h'0; refine ao_y1 rfl rfl (by decide) (o_move (v := .fn _ _ _) rfl) ?_; exact h'0.out) : G := h ⟨k⟩
theorem Zbv {G G' : Prop} (k : G') (h : Hid G' → G := by intro h'0; refine ao_y1 rfl rfl (by decide) (w_indexAddrpN rfl rfl hr rfl) ?_; exact h'0.out) : G := h ⟨k⟩
theorem Zbw {G G' : Prop} (k : G') (h : Hid G' → G := by intro h'0; refine Ze ?_; refine Zbv ?_; exact h'0.out) : G := h ⟨k⟩
theorem Zbx {G G' : Prop} (k : G') (h : Hid G' → G := by intro h'0; refine Z7j ?_; refine Zbw ?_; exact h'0.out) : G := h ⟨k⟩
theorem Zby {G G' : Prop} (k : G') (h : Hid G' → G := by intro h'0; (try dsimp only [put, AV.cells, List.nil_append, List.length_cons, List.length_nil, Nat.reduceAdd, List.cons_append]); exact h'0.out) : G := h ⟨k⟩
theorem Zbz {G G' : Prop} (k : G') (h : Hid G' → G := by intro h'0; refine ao2 (by rintro _ ⟨⟩) (w_storeP (sz := 1) (v := .pl _) (r' := [_, _, _, _]) rfl rfl rfl rfl rfl rfl rfl rfl (Nat.le_of_ble_eq_true rfl) rfl) ?_; exact h'0.out) : G := h ⟨k⟩
theorem Zc0 {G : Prop} (h : G := by exact e_done hB (r_cellR rfl (lk rfl rfl) rfl rfl rfl .nil) rfl rfl) : G := h
theorem Zc1 {G G' : Prop} (k : G') (h : Hid G' → G := by intro h'0; refine ao_ret (held_Right _ _ (by assumption)) rfl (by decide) ?_; exact h'0.out) : G := h ⟨k⟩
theorem Zc2 {G G' : Prop} (k : G') (h : Hid G' → G := by intro h'0; refine Z2r ?_; refine Zc1 ?_; exact h'0.out) : G := h ⟨k⟩
theorem Zc3 {G G' : Prop} (k : G') (h : Hid G' → G := by intro h'0; refine Zc2 ?_; refine Z2j ?_; exact h'0.out) : G := h ⟨k⟩
theorem Zc4 {G G' : Prop} (k : G') (h : Hid G' → G := by intro h'0; refine ao1 (by decide) (V1.up (o_build (cs := [.int _ _, _, .int _ _, .int _ _]) rfl)) ?_; exact h'0.out) : G := h ⟨k⟩
theorem Zc5 {G G' : Prop} (k : G') (h : Hid G' → G := by intro h'0; (try dsimp only [AV.up, put, List.set_cons_zero]); exact h'0.out) : G := h ⟨k⟩
theorem Zc6 {G G' : Prop} (k : G') (h : Hid G' → G := by intro h'0; refine ao_ret (held_find _ _ _ (by omega) (by assumption)) rfl (by decide) ?_; exact h'0.out) : G := h ⟨k⟩
theorem Zc7 {G G' : Prop} (k : G') (h : Hid G' → G := by intro h'0; refine ao_ret (held_copied _ _ (by assumption)) rfl (by decide) ?_; exact h'0.out) : G := h ⟨k⟩
theorem Zc8 {G G' : Prop} (k : G') (h : Hid G' → G := by intro h'0; refine aw_region ?_; refine Z7n ?_; exact h'0.out) : G := h ⟨k⟩
theorem Zc9 {G G' : Prop} (k : G') (h : Hid G' → G := by intro h'0; refine Z5r ?_; refine Zab ?_; exact h'0.out) : G := h ⟨k⟩
theorem Zca {G G' : Prop} (k : G') (h : Hid G' → G := by intro h'0; refine Zc8 ?_; refine Zc9 ?_; exact h'0.out) : G := h ⟨k⟩
theorem Zcb {G G' : Prop} (k : G') (h : Hid G' → G := by intro h'0; refine ao2 (by rintro _ ⟨⟩; decide) (V2.callT (set_Join _ _ (by omega) (by omega) _) rfl rfl) ?_; exact h'0.out) : G := h ⟨k⟩
theorem Zcc {G G' : Prop} (k : G') (h : Hid G' → G := by intro h'0; refine aq02 1 rfl (by decide +kernel) (by decide) (fun _ => V2.call (job_Right _ _) rfl) ?_; exact h'0.out) : G := h ⟨k⟩
theorem Zcd {G G' : Prop} (k : G') (h : Hid G' → G := by intro h'0; refine aqn0 (g := 22) 4 rfl (by decide +kernel) (by decide) rfl rfl rfl ?_; exact h'0.out) : G := h ⟨k⟩
theorem Zce {G G' : Prop} (k : G') (h : Hid G' → G := by intro h'0; refine aqn0 (g := 22) 5 rfl (by decide +kernel) (by decide) rfl rfl rfl ?_; exact h'0.out) : G := h ⟨k⟩
theorem Zcf {G G' : Prop} (k : G') (h : Hid G' → G := by intro h'0; refine aqn0 (g := 22) 6 rfl (by decide +kernel) (by decide) rfl rfl rfl ?_; exact h'0.out) : G := h ⟨k⟩
theorem Zcg {G G' : Prop} (k : G') (h : Hid G' → G := by intro h'0; refine aqu0 (g := 25) 7 rfl (by decide +kernel) (by decide) rfl rfl ?_; exact h'0.out) : G := h ⟨k⟩
theorem Zch {G G' : Prop} (k : G') (h : Hid G' → G := by intro h'0; refine aqu0 (g := 25) 8 rfl (by decide +kernel) (by decide) rfl rfl ?_; exact h'0.out) : G := h ⟨k⟩
theorem Zci {G G' : Prop} (k : G') (h : Hid G' → G := by intro h'0; refine aqu0 (g := 25) 9 rfl (by decide +kernel) (by decide) rfl rfl ?_; exact h'0.out) : G := h ⟨k⟩
theorem Zcj {G G' : Prop} (k : G') (h : Hid G' → G := by intro h'0; refine aqu0 (g := 25) 10 rfl (by decide +kernel) (by decide) rfl rfl ?_; exact h'0.out) : G := h ⟨k⟩
theorem Zck {G G' : Prop} (k : G') (h : Hid G' → G := by intro h'0; refine aqu0 (g := 25) 11 rfl (by decide +kernel) (by decide) rfl rfl ?_; exact h'0.out) : G := h ⟨k⟩
theorem Zcl {G G' : Prop} (k : G') (h : Hid G' → G := by intro h'0; refine aqu0 (g := 25) 12 rfl (by decide +kernel) (by decide) rfl rfl ?_; exact h'0.out) : G := h ⟨k⟩
theorem Zcm {G G' : Prop} (k : G') (h : Hid G' → G := by intro h'0; refine aqu0 (g := 25) 13 rfl (by decide +kernel) (by decide) rfl rfl ?_; exact h'0.out) : G := h ⟨k⟩
theorem Zcn {G G' : Prop} (k : G') (h : Hid G' → G := by intro h'0; refine aqu0 (g := 25) 14 rfl (by decide +kernel) (by decide) rfl rfl ?_; exact h'0.out) : G := h ⟨k⟩
theorem Zco {G G' : Prop} (k : G') (h : Hid G' → G := by intro h'0; refine aqu0 (g := 25) 15 rfl (by decide +kernel) (by decide) rfl rfl ?_; exact h'0.out) : G := h ⟨k⟩
theorem Zcp {G G' : Prop} (k : G') (h : Hid G' → G := by intro h'0; refine aqu0 (g := 25) 16 rfl (by decide +kernel) (by decide) rfl rfl ?_; exact h'0.out) : G := h ⟨k⟩
theorem Zcq {G G' : Prop} (k : G') (h : Hid G' → G := by intro h'0; refine aqu0 (g := 35) 17 rfl (by decide +kernel) (by decide) rfl rfl ?_; exact h'0.out) : G := h ⟨k⟩
theorem Zcr {G G' : Prop} (k : G') (h : Hid G' → G := by intro h'0; refine aqu0 (g := 35) 18 rfl (by decide +kernel) (by decide) rfl rfl ?_; exact h'0.out) : G := h ⟨k⟩
theorem Zcs {G G' : Prop} (k : G') (h : Hid G' → G := by intro h'0; refine aqu0 (g := 35) 19 rfl (by decide +kernel) (by decide) rfl rfl ?_; exact h'0.out) : G := h ⟨k⟩
theorem Zct {G G' : Prop} (k : G') (h : Hid G' → G := by intro h'0; refine aqu0 (g := 35) 20 rfl (by decide +kernel) (by decide) rfl rfl ?_; exact h'0.out) : G := h ⟨k⟩
theorem Zcu {G G' : Prop} (k : G') (h : Hid G' → G := by intro h'0; refine aqu0 (g := 35) 21 rfl (by decide +kernel) (by decide) rfl rfl ?_; exact h'0.out) : G := h ⟨k⟩
theorem Zcv {G G' : Prop} (k : G') (h : Hid G' → G := by intro h'0; refine aqu0 (g := 35) 22 rfl (by decide +kernel) (by decide) rfl rfl ?_; exact h'0.out) : G := h ⟨k⟩
theorem Zcw {G G' : Prop} (k : G') (h : Hid G' → G := by intro h'0; refine aqu0 (g := 35) 23 rfl (by decide +kernel) (by decide) rfl rfl ?_; exact h'0.out) : G := h ⟨k⟩
theorem Zcx {G G' : Prop} (k : G') (h : Hid G' → G := by intro h'0; refine aqu0 (g := 35) 24 rfl (by decide +kernel) (by decide) rfl rfl ?_; exact h'0.out) : G := h ⟨k⟩
theorem Zcy {G G' : Prop} (k : G') (h : Hid G' → G := by intro h'0; refine aqu0 (g := 35) 25 rfl (by decide +kernel) (by decide) rfl rfl ?_; exact h'0.out) : G := h ⟨k⟩
theorem Zcz {G G' : Prop} (k : G') (h : Hid G' → G := by intro h'0; refine aqu0 (g := 25) 26 rfl (by decide +kernel) (by decide) rfl rfl ?_; exact h'0.out) : G := h ⟨k⟩
theorem Zd0 {G G' : Prop} (k : G') (h : Hid G' → G := by intro h'0; refine aqn0 (g := 22) 27 rfl (by decide +kernel) (by decide) rfl rfl rfl ?_; exact h'0.out) : G := h ⟨k⟩
theorem Zd1 {G G' : Prop} (k : G') (h : Hid G' → G := by intro h'0; refine aq0 28 rfl (by decide +kernel) (by decide) (fun _ => o_pick_t (v := .bool _) rfl rfl) ?_; exact h'0.out) : G := h ⟨k⟩
theorem Zd2 {G : Prop} (h : G := by exact aa_done (by decide +kernel) (by exact fun _ => ⟨_, rfl⟩) (Out.mk (by (refine congrArg AV.bool ?_; (clear hB hr1 hli; (simp_all; done)))) (by repeat (first | exact SubX.refl _ _ | refine SubX.at ?_ | refine SubX.put rfl ?_)))) : G := h
theorem Zd3 {G G' : Prop} (k : G') (h : Hid G' → G := by intro h'0; refine aqy0 (g := 22) 4 rfl (by decide +kernel) (by decide) rfl rfl (fun _ => o_move (v := .int _ _) rfl) ?_; exact h'0.out) : G := h ⟨k⟩
theorem Zd4 {G G' : Prop} (k : G') (h : Hid G' → G := by intro h'0; refine aqy0 (g := 22) 5 rfl (by decide +kernel) (by decide) rfl rfl (fun _ => o_gt rfl rfl) ?_; exact h'0.out) : G := h ⟨k⟩
theorem Zd5 {G G' : Prop} (k : G') (h : Hid G' → G := by intro h'0; refine aqy0 (g := 22) 6 rfl (by decide +kernel) (by decide) rfl rfl (fun _ => o_move (v := .bool _) rfl) ?_; exact h'0.out) : G := h ⟨k⟩
theorem Zd6 {G G' : Prop} (k : G') (h : Hid G' → G := by intro h'0; refine aqy0 (g := 22) 27 rfl (by decide +kernel) (by decide) rfl rfl (fun _ => o_pick_t (v := .bool _) rfl rfl) ?_; exact h'0.out) : G := h ⟨k⟩
theorem Zd7 {G G' : Prop} (k : G') (h : Hid G' → G := by intro h'0; refine aq0 28 rfl (by decide +kernel) (by decide) (fun _ => o_pick_f (v := .bool _) rfl rfl) ?_; exact h'0.out) : G := h ⟨k⟩
theorem Zd8 {G G' : Prop} (k : G') (h : Hid G' → G := by intro h'0; refine aqn0 (g := 25) 7 rfl (by decide +kernel) (by decide) rfl rfl rfl ?_; exact h'0.out) : G := h ⟨k⟩
theorem Zd9 {G G' : Prop} (k : G') (h : Hid G' → G := by intro h'0; refine aqn0 (g := 25) 8 rfl (by decide +kernel) (by decide) rfl rfl rfl ?_; exact h'0.out) : G := h ⟨k⟩
theorem Zda {G G' : Prop} (k : G') (h : Hid G' → G := by intro h'0; refine aqn0 (g := 25) 9 rfl (by decide +kernel) (by decide) rfl rfl rfl ?_; exact h'0.out) : G := h ⟨k⟩
theorem Zdb {G G' : Prop} (k : G') (h : Hid G' → G := by intro h'0; refine aqn0 (g := 25) 10 rfl (by decide +kernel) (by decide) rfl rfl rfl ?_; exact h'0.out) : G := h ⟨k⟩
theorem Zdc {G G' : Prop} (k : G') (h : Hid G' → G := by intro h'0; refine aqn0 (g := 25) 11 rfl (by decide +kernel) (by decide) rfl rfl rfl ?_; exact h'0.out) : G := h ⟨k⟩
theorem Zdd {G G' : Prop} (k : G') (h : Hid G' → G := by intro h'0; refine aqn0 (g := 25) 12 rfl (by decide +kernel) (by decide) rfl rfl rfl ?_; exact h'0.out) : G := h ⟨k⟩
theorem Zde {G G' : Prop} (k : G') (h : Hid G' → G := by intro h'0; refine aqn0 (g := 25) 13 rfl (by decide +kernel) (by decide) rfl rfl rfl ?_; exact h'0.out) : G := h ⟨k⟩
theorem Zdf {G G' : Prop} (k : G') (h : Hid G' → G := by intro h'0; refine aqn0 (g := 25) 14 rfl (by decide +kernel) (by decide) rfl rfl rfl ?_; exact h'0.out) : G := h ⟨k⟩
theorem Zdg {G G' : Prop} (k : G') (h : Hid G' → G := by intro h'0; refine aqn0 (g := 25) 15 rfl (by decide +kernel) (by decide) rfl rfl rfl ?_; exact h'0.out) : G := h ⟨k⟩
theorem Zdh {G G' : Prop} (k : G') (h : Hid G' → G := by intro h'0; refine aqn0 (g := 25) 16 rfl (by decide +kernel) (by decide) rfl rfl rfl ?_; exact h'0.out) : G := h ⟨k⟩
theorem Zdi {G G' : Prop} (k : G') (h : Hid G' → G := by intro h'0; refine aqn0 (g := 25) 26 rfl (by decide +kernel) (by decide) rfl rfl rfl ?_; exact h'0.out) : G := h ⟨k⟩
theorem Zdj {G G' : Prop} (k : G') (h : Hid G' → G := by intro h'0; refine aqy0 (g := 22) 27 rfl (by decide +kernel) (by decide) rfl rfl (fun _ => o_pick_f (v := .bool _) rfl rfl) ?_; exact h'0.out) : G := h ⟨k⟩
theorem Zdk {G : Prop} (h : G := by exact aa_done (by decide +kernel) (by exact fun _ => ⟨_, rfl⟩) (Out.mk (by (refine congrArg AV.bool ?_; (clear hB hli; (simp_all; done)))) (by repeat (first | exact SubX.refl _ _ | refine SubX.at ?_ | refine SubX.put rfl ?_)))) : G := h
theorem Zdl {G G' : Prop} (k : G') (h : Hid G' → G := by intro h'0; refine ao_ret (queue_find _ _ _ (by omega) (by assumption)) rfl (by decide) ?_; exact h'0.out) : G := h ⟨k⟩
theorem Zdm {G : Prop} (h : G := by exact ao_nil (Out.mk (by (refine congrArg AV.bool ?_; (simp only [ipolicy]; clear hB; (simp_all; omega)))) (by repeat (first | exact SubX.refl _ _ | refine SubX.at ?_ | refine SubX.put rfl ?_)))) : G := h
theorem Zdn {G G' : Prop} (k : G') (h : Hid G' → G := by intro h'0; refine ao_ret (set_Right _ (by omega) _) rfl (by decide) ?_; exact h'0.out) : G := h ⟨k⟩
theorem Zdo {G G' : Prop} (k : G') (h : Hid G' → G := by intro h'0; refine Z4p ?_; refine Z9j ?_; exact h'0.out) : G := h ⟨k⟩
theorem Zdp {G : Prop} (h : G := by exact ao_nil (Out.mk (by (refine congrArg AV.bool ?_; (simp only [ithings]; clear hB; (simp_all; done)))) (by repeat (first | exact SubX.refl _ _ | refine SubX.at ?_ | refine SubX.put rfl ?_)))) : G := h
theorem Zdq {G : Prop} (h : G := by exact ao_nil (Out.mk (by (refine congrArg AV.bool ?_; (clear hB hs hd hr hx hxl; (simp_all; done)))) (by repeat (first | exact SubX.refl _ _ | refine SubX.at ?_ | refine SubX.put rfl ?_)))) : G := h
theorem Zdr {G G' : Prop} (k : G') (h : Hid G' → G := by intro h'0; refine ao_y1 rfl rfl (by decide) (o_load1p (v := .int _ _) rfl hr rfl) ?_; exact h'0.out) : G := h ⟨k⟩
theorem Zds {G G' : Prop} (k : G') (h : Hid G' → G := by intro h'0; refine ao2 (by rintro _ ⟨⟩; decide) (o_boxL (sz := 9) (v := .agg _) rfl rfl rfl rfl (by decide) rfl) ?_; exact h'0.out) : G := h ⟨k⟩
theorem Zdt {G G' : Prop} (k : G') (h : Hid G' → G := by intro h'0; refine aw_region ?_; refine Zds ?_; exact h'0.out) : G := h ⟨k⟩
theorem Zdu {G G' : Prop} (k : G') (h : Hid G' → G := by intro h'0; refine Z4g ?_; refine Z4u ?_; exact h'0.out) : G := h ⟨k⟩
theorem Zdv {G G' : Prop} (k : G') (h : Hid G' → G := by intro h'0; refine Zc8 ?_; refine Zdu ?_; exact h'0.out) : G := h ⟨k⟩
theorem Zdw {G G' : Prop} (k : G') (h : Hid G' → G := by intro h'0; (try dsimp only [Nat.reduceAdd, List.length_cons, List.length_nil, put, List.cons_append, List.nil_append, List.set_cons_zero, List.set_cons_succ]); exact h'0.out) : G := h ⟨k⟩
theorem Zdx {G G' : Prop} (k : G') (h : Hid G' → G := by intro h'0; refine aw_drawP mixed none 3 ?_; exact h'0.out) : G := h ⟨k⟩
theorem Zdy {G G' : Prop} (k : G') (h : Hid G' → G := by intro h'0; refine aqn0 (g := 49) 10 rfl (by decide +kernel) (by decide) rfl rfl rfl ?_; exact h'0.out) : G := h ⟨k⟩
theorem Zdz {G G' : Prop} (k : G') (h : Hid G' → G := by intro h'0; refine aqn0 (g := 49) 11 rfl (by decide +kernel) (by decide) rfl rfl rfl ?_; exact h'0.out) : G := h ⟨k⟩
theorem Ze0 {G G' : Prop} (k : G') (h : Hid G' → G := by intro h'0; refine aqn0 (g := 49) 12 rfl (by decide +kernel) (by decide) rfl rfl rfl ?_; exact h'0.out) : G := h ⟨k⟩
theorem Ze1 {G G' : Prop} (k : G') (h : Hid G' → G := by intro h'0; refine aqn0 (g := 49) 13 rfl (by decide +kernel) (by decide) rfl rfl rfl ?_; exact h'0.out) : G := h ⟨k⟩
theorem Ze2 {G G' : Prop} (k : G') (h : Hid G' → G := by intro h'0; refine aqn0 (g := 49) 14 rfl (by decide +kernel) (by decide) rfl rfl rfl ?_; exact h'0.out) : G := h ⟨k⟩
theorem Ze3 {G G' : Prop} (k : G') (h : Hid G' → G := by intro h'0; refine aqn0 (g := 49) 15 rfl (by decide +kernel) (by decide) rfl rfl rfl ?_; exact h'0.out) : G := h ⟨k⟩
theorem Ze4 {G G' : Prop} (k : G') (h : Hid G' → G := by intro h'0; refine aqn0 (g := 49) 16 rfl (by decide +kernel) (by decide) rfl rfl rfl ?_; exact h'0.out) : G := h ⟨k⟩
theorem Ze5 {G G' : Prop} (k : G') (h : Hid G' → G := by intro h'0; refine aqn0 (g := 49) 17 rfl (by decide +kernel) (by decide) rfl rfl rfl ?_; exact h'0.out) : G := h ⟨k⟩
theorem Ze6 {G G' : Prop} (k : G') (h : Hid G' → G := by intro h'0; refine aq0 18 rfl (by decide +kernel) (by decide) (fun _ => o_pick_t (v := .bool _) rfl rfl) ?_; exact h'0.out) : G := h ⟨k⟩
theorem Ze7 {G G' : Prop} (k : G') (h : Hid G' → G := by intro h'0; refine aq0 19 rfl (by decide +kernel) (by decide) (fun _ => o_move (v := .bool _) rfl) ?_; exact h'0.out) : G := h ⟨k⟩
theorem Ze8 {G G' : Prop} (k : G') (h : Hid G' → G := by intro h'0; refine aqn0 (g := 59) 20 rfl (by decide +kernel) (by decide) rfl rfl rfl ?_; exact h'0.out) : G := h ⟨k⟩
theorem Ze9 {G G' : Prop} (k : G') (h : Hid G' → G := by intro h'0; refine aqn0 (g := 59) 21 rfl (by decide +kernel) (by decide) rfl rfl rfl ?_; exact h'0.out) : G := h ⟨k⟩
theorem Zea {G G' : Prop} (k : G') (h : Hid G' → G := by intro h'0; refine aqn0 (g := 59) 22 rfl (by decide +kernel) (by decide) rfl rfl rfl ?_; exact h'0.out) : G := h ⟨k⟩
theorem Zeb {G G' : Prop} (k : G') (h : Hid G' → G := by intro h'0; refine aqn0 (g := 59) 23 rfl (by decide +kernel) (by decide) rfl rfl rfl ?_; exact h'0.out) : G := h ⟨k⟩
theorem Zec {G G' : Prop} (k : G') (h : Hid G' → G := by intro h'0; refine aqn0 (g := 59) 24 rfl (by decide +kernel) (by decide) rfl rfl rfl ?_; exact h'0.out) : G := h ⟨k⟩
theorem Zed {G G' : Prop} (k : G') (h : Hid G' → G := by intro h'0; refine aq0 25 rfl (by decide +kernel) (by decide) (fun _ => o_pick_t (v := .bool _) rfl rfl) ?_; exact h'0.out) : G := h ⟨k⟩
theorem Zee {G G' : Prop} (k : G') (h : Hid G' → G := by intro h'0; refine aq0 26 rfl (by decide +kernel) (by decide) (fun _ => o_move (v := .bool _) rfl) ?_; exact h'0.out) : G := h ⟨k⟩
theorem Zef {G G' : Prop} (k : G') (h : Hid G' → G := by intro h'0; refine aqn0 (g := 66) 27 rfl (by decide +kernel) (by decide) rfl rfl rfl ?_; exact h'0.out) : G := h ⟨k⟩
theorem Zeg {G G' : Prop} (k : G') (h : Hid G' → G := by intro h'0; refine aqn0 (g := 66) 28 rfl (by decide +kernel) (by decide) rfl rfl rfl ?_; exact h'0.out) : G := h ⟨k⟩
theorem Zeh {G G' : Prop} (k : G') (h : Hid G' → G := by intro h'0; refine aqn0 (g := 66) 29 rfl (by decide +kernel) (by decide) rfl rfl rfl ?_; exact h'0.out) : G := h ⟨k⟩
theorem Zei {G G' : Prop} (k : G') (h : Hid G' → G := by intro h'0; refine aqn0 (g := 66) 30 rfl (by decide +kernel) (by decide) rfl rfl rfl ?_; exact h'0.out) : G := h ⟨k⟩
theorem Zej {G G' : Prop} (k : G') (h : Hid G' → G := by intro h'0; refine aqn0 (g := 66) 31 rfl (by decide +kernel) (by decide) rfl rfl rfl ?_; exact h'0.out) : G := h ⟨k⟩
theorem Zek {G G' : Prop} (k : G') (h : Hid G' → G := by intro h'0; refine aqn0 (g := 66) 32 rfl (by decide +kernel) (by decide) rfl rfl rfl ?_; exact h'0.out) : G := h ⟨k⟩
theorem Zel {G G' : Prop} (k : G') (h : Hid G' → G := by intro h'0; refine aq0 33 rfl (by decide +kernel) (by decide) (fun _ => o_pick_t (v := .bool _) rfl rfl) ?_; exact h'0.out) : G := h ⟨k⟩
theorem Zem {G : Prop} (h : G := by exact aa_done (by decide +kernel) (by exact fun _ => ⟨_, rfl⟩) (Out.mk (by (refine congrArg AV.bool ?_; (rw [hB2]; clear hB hB2 hno0 hstep hbel hrl; (simp_all; done)))) (by repeat (first | exact SubX.refl _ _ | refine SubX.at ?_ | refine SubX.put rfl ?_)))) : G := h
theorem Zen {G G' : Prop} (k : G') (h : Hid G' → G := by intro h'0; refine Zv ?_; refine Za2 ?_; exact h'0.out) : G := h ⟨k⟩
theorem Zeo {G : Prop} (h : G := by exact e_done hB (r_tmp (by refine congrArg AV.bool ?_; rw [Bool.eq_iff_iff]; simp; omega) .nil) rfl rfl) : G := h
theorem Zep {G G' : Prop} (k : G') (h : Hid G' → G := by intro h'0; refine ao_y rfl rfl (by decide) (V2.call (inst_things _ _ _ (by omega) (by omega)) rfl) ?_; exact h'0.out) : G := h ⟨k⟩
theorem Zeq {G G' : Prop} (k : G') (h : Hid G' → G := by intro h'0; refine ao_y rfl rfl (by decide) (V2.call (inst_policy _ _ _) rfl) ?_; exact h'0.out) : G := h ⟨k⟩
theorem Zer {G : Prop} (h : G := by exact ao_nil (Out.mk (by (refine congrArg AV.bool ?_; (clear hB; simp only [tm]; (simp_all; done)))) (by repeat (first | exact SubX.refl _ _ | refine SubX.at ?_ | refine SubX.put rfl ?_)))) : G := h
theorem Zes {G : Prop} (h : G := by exact ao_nil (Out.mk (by (refine congrArg AV.bool ?_; (clear hB; simp only [tm]; (simp_all; omega)))) (by repeat (first | exact SubX.refl _ _ | refine SubX.at ?_ | refine SubX.put rfl ?_)))) : G := h
theorem Zet {G G' : Prop} (k : G') (h : Hid G' → G := by intro h'0; refine ao_y rfl rfl (by decide) (V2.call (held_Right _ _ (by assumption)) rfl) ?_; exact h'0.out) : G := h ⟨k⟩
theorem Zeu {G : Prop} (h : G := by exact ao_nil (Out.mk (by (refine congrArg AV.bool ?_; (simp only [iright]; clear hB; (simp_all; done)))) (by repeat (first | exact SubX.refl _ _ | refine SubX.at ?_ | refine SubX.put rfl ?_)))) : G := h
theorem Zev {G G' : Prop} (k : G') (h : Hid G' → G := by intro h'0; refine aq0 0 rfl (by decide +kernel) (by decide) (fun _ => o_move (v := .pt _ _ _ _) rfl) ?_; exact h'0.out) : G := h ⟨k⟩
theorem Zew {G G' : Prop} (k : G') (h : Hid G' → G := by intro h'0; refine aqp 1 rfl (by decide +kernel) (by decide) (fun G => w_nilCheck rfl (lkF hF) rfl) ?_; exact h'0.out) : G := h ⟨k⟩
theorem Zex {G G' : Prop} (k : G') (h : Hid G' → G := by intro h'0; refine aqp 2 rfl (by decide +kernel) (by decide) (fun G => w_fieldAddr rfl (lkF hF) rfl (by decide)) ?_; exact h'0.out) : G := h ⟨k⟩
theorem Zey {G G' : Prop} (k : G') (h : Hid G' → G := by intro h'0; refine aqp 3 rfl (by decide +kernel) (by decide) (fun G => w_fieldAddr rfl (lkF hF) rfl (by decide)) ?_; exact h'0.out) : G := h ⟨k⟩
theorem Zez {G G' : Prop} (k : G') (h : Hid G' → G := by intro h'0; refine aqp 4 rfl (by decide +kernel) (by decide) (fun G => w_load1 (v := .pl _) rfl (lkF hF) rfl rfl rfl) ?_; exact h'0.out) : G := h ⟨k⟩
theorem Zf0 {G G' : Prop} (k : G') (h : Hid G' → G := by intro h'0; refine aq0 5 rfl (by decide +kernel) (by decide) (fun _ => o_move (v := .pt _ _ _ _) rfl) ?_; exact h'0.out) : G := h ⟨k⟩
theorem Zf1 {G G' : Prop} (k : G') (h : Hid G' → G := by intro h'0; refine aqp 6 rfl (by decide +kernel) (by decide) (fun G => w_nilCheck rfl (lkF hF) rfl) ?_; exact h'0.out) : G := h ⟨k⟩
theorem Zf2 {G G' : Prop} (k : G') (h : Hid G' → G := by intro h'0; refine aqp 7 rfl (by decide +kernel) (by decide) (fun G => w_fieldAddr rfl (lkF hF) rfl (by decide)) ?_; exact h'0.out) : G := h ⟨k⟩
theorem Zf3 {G G' : Prop} (k : G') (h : Hid G' → G := by intro h'0; refine aqp 8 rfl (by decide +kernel) (by decide) (fun G => w_fieldAddr rfl (lkF hF) rfl (by decide)) ?_; exact h'0.out) : G := h ⟨k⟩
theorem Zf4 {G G' : Prop} (k : G') (h : Hid G' → G := by intro h'0; refine aqp 9 rfl (by decide +kernel) (by decide) (fun G => w_load1 (v := .pl _) rfl (lkF hF) rfl rfl rfl) ?_; exact h'0.out) : G := h ⟨k⟩
theorem Zf5 {G G' : Prop} (k : G') (h : Hid G' → G := by intro h'0; refine aq0 10 rfl (by decide +kernel) (by decide) (fun _ => o_move (v := .pt _ _ _ _) rfl) ?_; exact h'0.out) : G := h ⟨k⟩
theorem Zf6 {G G' : Prop} (k : G') (h : Hid G' → G := by intro h'0; refine aqp 11 rfl (by decide +kernel) (by decide) (fun G => w_nilCheck rfl (lkF hF) rfl) ?_; exact h'0.out) : G := h ⟨k⟩
theorem Zf7 {G G' : Prop} (k : G') (h : Hid G' → G := by intro h'0; refine aqp 12 rfl (by decide +kernel) (by decide) (fun G => w_fieldAddr rfl (lkF hF) rfl (by decide)) ?_; exact h'0.out) : G := h ⟨k⟩
theorem Zf8 {G G' : Prop} (k : G') (h : Hid G' → G := by intro h'0; refine aqp 13 rfl (by decide +kernel) (by decide) (fun G => w_fieldAddr rfl (lkF hF) rfl (by decide)) ?_; exact h'0.out) : G := h ⟨k⟩
theorem Zf9 {G G' : Prop} (k : G') (h : Hid G' → G := by intro h'0; refine aqp 14 rfl (by decide +kernel) (by decide) (fun G => w_load1 (v := .pl _) rfl (lkF hF) rfl rfl rfl) ?_; exact h'0.out) : G := h ⟨k⟩
theorem Zfa {G G' : Prop} (k : G') (h : Hid G' → G := by intro h'0; refine aq0 17 rfl (by decide +kernel) (by decide) (fun _ => o_assign (v := .pl _) rfl) ?_; exact h'0.out) : G := h ⟨k⟩
theorem Zfb {G G' : Prop} (k : G') (h : Hid G' → G := by intro h'0; refine Z19 ?_; refine Z2l ?_; exact h'0.out) : G := h ⟨k⟩
theorem Zfc {G G' : Prop} (k : G') (h : Hid G' → G := by intro h'0; refine ao_ret (inst_Right _ _ (by assumption)) rfl (by decide) ?_; exact h'0.out) : G := h ⟨k⟩
theorem Zfd {G G' : Prop} (k : G') (h : Hid G' → G := by intro h'0; refine ao1 (by decide) (V1.up (o_build (cs := [_, _, _, .int _ _, _, _, .int _ _, .int _ _, .int _ _]) rfl)) ?_; exact h'0.out) : G := h ⟨k⟩
theorem Zfe {G G' : Prop} (k : G') (h : Hid G' → G := by intro h'0; refine Zfd ?_; refine Zds ?_; exact h'0.out) : G := h ⟨k⟩
theorem Zff {G G' : Prop} (k : G') (h : Hid G' → G := by intro h'0; refine ao1 (by decide) (o_assign (v := .pt _ _ _ _) rfl) ?_; refine ao_nil ?_; exact h'0.out) : G := h ⟨k⟩
theorem Zfg {G G' : Prop} (k : G') (h : Hid G' → G := by intro h'0; refine Zfe ?_; refine Zff ?_; exact h'0.out) : G := h ⟨k⟩
theorem Zfh {G G' : Prop} (k : G') (h : Hid G' → G := by intro h'0; refine Zfg ?_; (try dsimp only [List.length_cons, List.length_nil, Nat.reduceAdd, AV.up, put, AV.cells, List.cons_append, List.nil_append]); exact h'0.out) : G := h ⟨k⟩
theorem Zfi {G G' : Prop} (k : G') (h : Hid G' → G := by intro h'0; refine aq0 2 rfl (by decide +kernel) (by decide) (fun _ => o_move (v := .pt _ _ _ _) rfl) ?_; exact h'0.out) : G := h ⟨k⟩
theorem Zfj {G G' : Prop} (k : G') (h : Hid G' → G := by intro h'0; refine aqp 4 rfl (by decide +kernel) (by decide) (fun G => w_fieldAddr rfl (lk rfl rfl) rfl (by decide)) ?_; exact h'0.out) : G := h ⟨k⟩
theorem Zfk {G G' : Prop} (k : G') (h : Hid G' → G := by intro h'0; refine aqp 5 rfl (by decide +kernel) (by decide) (fun G => w_fieldAddr rfl (lk rfl rfl) rfl (by decide)) ?_; exact h'0.out) : G := h ⟨k⟩
theorem Zfl {G G' : Prop} (k : G') (h : Hid G' → G := by intro h'0; refine aqp 6 rfl (by decide +kernel) (by decide) (fun G => w_load1 (v := .pl _) rfl (lk rfl rfl) rfl rfl rfl) ?_; exact h'0.out) : G := h ⟨k⟩
theorem Zfm {G G' : Prop} (k : G') (h : Hid G' → G := by intro h'0; refine aq0 7 rfl (by decide +kernel) (by decide) (fun _ => o_move (v := .pt _ _ _ _) rfl) ?_; exact h'0.out) : G := h ⟨k⟩
theorem Zfn {G G' : Prop} (k : G') (h : Hid G' → G := by intro h'0; refine aqp 8 rfl (by decide +kernel) (by decide) (fun G => w_nilCheck rfl (lk rfl rfl) rfl) ?_; exact h'0.out) : G := h ⟨k⟩
theorem Zfo {G G' : Prop} (k : G') (h : Hid G' → G := by intro h'0; refine aqp 9 rfl (by decide +kernel) (by decide) (fun G => w_fieldAddr rfl (lk rfl rfl) rfl (by decide)) ?_; exact h'0.out) : G := h ⟨k⟩
theorem Zfp {G G' : Prop} (k : G') (h : Hid G' → G := by intro h'0; refine aqp 10 rfl (by decide +kernel) (by decide) (fun G => w_fieldAddr rfl (lk rfl rfl) rfl (by decide)) ?_; exact h'0.out) : G := h ⟨k⟩
theorem Zfq {G G' : Prop} (k : G') (h : Hid G' → G := by intro h'0; refine aqp 11 rfl (by decide +kernel) (by decide) (fun G => w_load1 (v := .int _ _) rfl (lk rfl rfl) rfl rfl rfl) ?_; exact h'0.out) : G := h ⟨k⟩
theorem Zfr {G G' : Prop} (k : G') (h : Hid G' → G := by intro h'0; refine ao2 (by rintro _ ⟨⟩; decide) (o_allocL (sz := 9) rfl (by decide) rfl) ?_; exact h'0.out) : G := h ⟨k⟩
theorem Zfs {G G' : Prop} (k : G') (h : Hid G' → G := by intro h'0; refine ao_ret (graph_Right _ _ (by omega)) rfl (by decide) ?_; exact h'0.out) : G := h ⟨k⟩
theorem Zft {G : Prop} (h : G := by exact ao_nil (Out.mk (by (refine congrArg AV.bool ?_; (clear hB; (simp_all; done)))) (by repeat (first | exact SubX.refl _ _ | refine SubX.at ?_ | refine SubX.put rfl ?_)))) : G := h
theorem Zfu {G G' : Prop} (k : G') (h : Hid G' → G := by intro h'0; refine Z1f ?_; refine Zm ?_; exact h'0.out) : G := h ⟨k⟩
theorem Zfv {G G' : Prop} (k : G') (h : Hid G' → G := by intro h'0; refine ao2 (by rintro _ ⟨⟩) (w_storeW (sz := 9) rfl rfl rfl rfl rfl rfl rfl rfl (Nat.le_of_ble_eq_true rfl)) ?_; exact h'0.out) : G := h ⟨k⟩
theorem Zfw {G G' : Prop} (k : G') (h : Hid G' → G := by intro h'0; refine Zfv ?_; refine Z2 ?_; exact h'0.out) : G := h ⟨k⟩
theorem Zfx {G G' : Prop} (k : G') (h : Hid G' → G := by intro h'0; refine ao_ret (queue_Right _ _ (by omega)) rfl (by decide) ?_; exact h'0.out) : G := h ⟨k⟩
theorem Zfy {G G' : Prop} (k : G') (h : Hid G' → G := by intro h'0; refine ao1 (by decide) (V1.up (o_build (cs := [.int _ _, .int _ _, .int _ _, .int _ _, .str _, .bool _, .int _ _, .int _ _, _, .int _ _, .int _ _, .int _ _, .int _ _]) rfl)) ?_; exact h'0.out) : G := h ⟨k⟩
theorem Zfz {G G' : Prop} (k : G') (h : Hid G' → G := by intro h'0; refine ao_ret (queue_copied _ _ (by assumption)) rfl (by decide) ?_; exact h'0.out) : G := h ⟨k⟩
theorem Zg0 {G G' : Prop} (k : G') (h : Hid G' → G := by intro h'0; refine Z78 ?_; refine Z2h ?_; exact h'0.out) : G := h ⟨k⟩
theorem Zg1 {G G' : Prop} (k : G') (h : Hid G' → G := by intro h'0; refine ao2 (by rintro _ ⟨⟩; decide) (o_buildSlice1L (sz := 13) (v := .agg _) rfl (by decide) (by decide) rfl rfl rfl rfl rfl) ?_; exact h'0.out) : G := h ⟨k⟩
theorem Zg2 {G G' : Prop} (k : G') (h : Hid G' → G := by intro h'0; refine ao2 (by rintro _ ⟨⟩; decide) (w_append rfl rfl rfl rfl rfl (w_src1 rfl rfl rfl rfl rfl rfl) rfl (by (simp; omega)) (by simp; done) (by (simp; omega)) (by (simp; omega))) ?_; exact h'0.out) : G := h ⟨k⟩
theorem Zg3 {G G' : Prop} (k : G') (h : Hid G' → G := by intro h'0; refine ao2 (by rintro _ ⟨⟩; decide) (o_buildSlice1L (sz := 4) (v := .agg _) rfl (by decide) (by decide) rfl rfl rfl rfl rfl) ?_; exact h'0.out) : G := h ⟨k⟩
theorem Zg4 {G G' : Prop} (k : G') (h : Hid G' → G := by intro h'0; refine ao2 (by rintro _ ⟨⟩; decide) (V2.callo (queue_clone l _ hw) rfl rfl) ?_; exact h'0.out) : G := h ⟨k⟩
theorem Zg5 {G G' : Prop} (k : G') (h : Hid G' → G := by intro h'0; refine Z78 ?_; refine Z7b ?_; exact h'0.out) : G := h ⟨k⟩
theorem Zg6 {G G' : Prop} (k : G') (h : Hid G' → G := by intro h'0; refine Zg5 ?_; refine Z2 ?_; exact h'0.out) : G := h ⟨k⟩
theorem Zg7 {G G' : Prop} (k : G') (h : Hid G' → G := by intro h'0; refine aw_freeze1 8 rfl rfl rfl rfl (by simp) (jobs_bel 0 l) ?_; exact h'0.out) : G := h ⟨k⟩
theorem Zg8 {G : Prop} (h : G := by refine aw_ret ?_; exact Z4e) : G := h
theorem Zg9 {G G' : Prop} (k : G') (h : Hid G' → G := by intro h'0; refine ao1 (by decide) (w_loadR rfl (lk rfl rfl) rfl (zadd hr) rfl) ?_; exact h'0.out) : G := h ⟨k⟩
theorem Zga {G G' : Prop} (k : G') (h : Hid G' → G := by intro h'0; refine Z62 ?_; refine Zy ?_; exact h'0.out) : G := h ⟨k⟩
theorem Zgb {G G' : Prop} (k : G') (h : Hid G' → G := by intro h'0; refine ao1 (by decide) (w_lens rfl (lkF hF) rfl) ?_; exact h'0.out) : G := h ⟨k⟩
theorem Zgc {G G' : Prop} (k : G') (h : Hid G' → G := by intro h'0; refine Z78 ?_; refine Z77 ?_; exact h'0.out) : G := h ⟨k⟩
theorem Zgd {G G' : Prop} (k : G') (h : Hid G' → G := by intro h'0; refine ao2 (by rintro _ ⟨⟩; decide) (V2.callo (held_clone l _ hw) rfl rfl) ?_; exact h'0.out) : G := h ⟨k⟩
theorem Zge {G G' : Prop} (k : G') (h : Hid G' → G := by intro h'0; (try dsimp only [List.length_cons, List.length_nil, Nat.reduceAdd, put, List.cons_append, List.nil_append]); exact h'0.out) : G := h ⟨k⟩
theorem Zgf {G G' : Prop} (k : G') (h : Hid G' → G := by intro h'0; refine aw_freeze1 4 rfl rfl rfl rfl (by simp) (helds_bel 0 l) ?_; exact h'0.out) : G := h ⟨k⟩
theorem Zgg {G : Prop} (h : G := by exact e_done hB (r_tmp rfl (r_cellR rfl (lk rfl rfl) rfl rfl rfl (r_tmp rfl .nil))) rfl rfl) : G := h
theorem Zgh {G G' : Prop} (k : G') (h : Hid G' → G := by intro h'0; (try dsimp only [put, List.set_cons_succ, List.set_cons_zero]); exact h'0.out) : G := h ⟨k⟩
theorem Zgi {G G' : Prop} (k : G') (h : Hid G' → G := by intro h'0; refine ao1 (by decide) (o_move (v := .pt _ _ _ _) rfl) ?_; exact h'0.out) : G := h ⟨k⟩
theorem Zgj {G G' : Prop} (k : G') (h : Hid G' → G := by intro h'0; refine aw_region ?_; refine Zgi ?_; exact h'0.out) : G := h ⟨k⟩
theorem Zgk {G G' : Prop} (k : G') (h : Hid G' → G := by intro h'0; refine ao1 (by decide) (w_fieldAddr rfl (lkF hF) rfl (by decide)) ?_; exact h'0.out) : G := h ⟨k⟩
theorem Zgl {G G' : Prop} (k : G') (h : Hid G' → G := by intro h'0; refine ao1 (by decide) (w_nilCheck rfl (lkF hF) rfl) ?_; refine Zgk ?_; exact h'0.out) : G := h ⟨k⟩
theorem Zgm {G G' : Prop} (k : G') (h : Hid G' → G := by intro h'0; refine Zgj ?_; refine Zgl ?_; exact h'0.out) : G := h ⟨k⟩
theorem Zgn {G G' : Prop} (k : G') (h : Hid G' → G := by intro h'0; refine Zgm ?_; refine Zgk ?_; exact h'0.out) : G := h ⟨k⟩
theorem Zgo {G G' : Prop} (k : G') (h : Hid G' → G := by intro h'0; refine ao1 (by decide) (w_load1 (v := .pl _) rfl (lkF hF) rfl rfl rfl) ?_; exact h'0.out) : G := h ⟨k⟩
theorem Zgp {G G' : Prop} (k : G') (h : Hid G' → G := by intro h'0; refine Zgn ?_; refine Zgo ?_; exact h'0.out) : G := h ⟨k⟩
theorem Zgq {G G' : Prop} (k : G') (h : Hid G' → G := by intro h'0; refine ao1 (by decide) (o_extract (v := .pl _) rfl rfl) ?_; exact h'0.out) : G := h ⟨k⟩
theorem Zgr {G G' : Prop} (k : G') (h : Hid G' → G := by intro h'0; refine Z50 ?_; refine Zgq ?_; exact h'0.out) : G := h ⟨k⟩
theorem Zgs {G G' : Prop} (k : G') (h : Hid G' → G := by intro h'0; refine ao_ret (queue_Get _ _ _ (by assumption)) rfl (by decide) ?_; exact h'0.out) : G := h ⟨k⟩
theorem Zgt {G G' : Prop} (k : G') (h : Hid G' → G := by intro h'0; refine ao2 (by rintro _ ⟨⟩; decide) (V2.freeze1 (V2.call (held_clone l _ hw) rfl) rfl (by simp) (helds_bel 0 l)) ?_; exact h'0.out) : G := h ⟨k⟩
theorem Zgu {G G' : Prop} (k : G') (h : Hid G' → G := by intro h'0; refine aqp 1 rfl (by decide +kernel) (by decide) (fun G => w_load1 (v := .pl _) rfl (lk rfl rfl) rfl rfl rfl) ?_; exact h'0.out) : G := h ⟨k⟩
theorem Zgv {G G' : Prop} (k : G') (h : Hid G' → G := by intro h'0; refine aqp 3 rfl (by decide +kernel) (by decide) (fun G => w_fieldAddr rfl (lk rfl rfl) rfl (by decide)) ?_; exact h'0.out) : G := h ⟨k⟩
theorem Zgw {G G' : Prop} (k : G') (h : Hid G' → G := by intro h'0; refine aqp 4 rfl (by decide +kernel) (by decide) (fun G => w_load1 (v := .pl _) rfl (lk rfl rfl) rfl rfl rfl) ?_; exact h'0.out) : G := h ⟨k⟩
theorem Zgx {G G' : Prop} (k : G') (h : Hid G' → G := by intro h'0; (try dsimp only [Nat.reduceAdd, List.cons_append, List.nil_append]); exact h'0.out) : G := h ⟨k⟩
theorem Zgy {G G' : Prop} (k : G') (h : Hid G' → G := by intro h'0; refine ao_nil ?_; (try dsimp only [put, Nat.reduceAdd, List.set_cons_zero, List.set_cons_succ]); exact h'0.out) : G := h ⟨k⟩
theorem Zgz {G G' : Prop} (k : G') (h : Hid G' → G := by intro h'0; refine ao2 (by rintro _ ⟨⟩) (w_storeP (sz := 1) (v := .pl _) (r' := [_, _, _, _, _, _, _, _, _]) rfl rfl rfl rfl rfl rfl rfl rfl (Nat.le_of_ble_eq_true rfl) rfl) ?_; exact h'0.out) : G := h ⟨k⟩
theorem Zh0 {G G' : Prop} (k : G') (h : Hid G' → G := by intro h'0; (try dsimp only [put, Nat.reduceAdd, List.set_cons_succ, List.set_cons_zero]); exact h'0.out) : G := h ⟨k⟩
theorem Zh1 {G G' : Prop} (k : G') (h : Hid G' → G := by intro h'0; (try dsimp only [put, List.length_cons, List.length_nil, Nat.reduceAdd, AV.up, List.cons_append, List.nil_append, List.set_cons_zero, List.set_cons_succ]); exact h'0.out) : G := h ⟨k⟩
theorem Zh2 {G : Prop} (h : G := by exact ao_nil (Out.mk (by (refine congrArg AV.bool ?_; (clear hB hlast; simp only [tm] at *; (simp_all; done)))) (by repeat (first | exact SubX.refl _ _ | refine SubX.at ?_ | refine SubX.put rfl ?_)))) : G := h
theorem Zh3 {G G' : Prop} (k : G') (h : Hid G' → G := by intro h'0; refine aw_freezeL (ys := l.map eJob) 8 rfl rfl rfl rfl (by rw [List.drop_zero, List.take_of_length_le (by simp)]) (by simp) (jobs_bel 0 _) ?_; exact h'0.out) : G := h ⟨k⟩
theorem Zh4 {G : Prop} (h : G := by exact e_done hB (r_tmp rfl (r_tmp rfl (r_tmp rfl .nil))) rfl rfl) : G := h
theorem Zh5 {G : Prop} (h : G := by refine aw_ret ?_; exact Zh4) : G := h
theorem Zh6 {G G' : Prop} (k : G') (h : Hid G' → G := by intro h'0; refine aq0 9 rfl (by decide +kernel) (by decide) (fun _ => o_move (v := .int _ _) rfl) ?_; exact h'0.out) : G := h ⟨k⟩
theorem Zh7 {G G' : Prop} (k : G') (h : Hid G' → G := by intro h'0; refine aq0 12 rfl (by decide +kernel) (by decide) (fun _ => o_assign (v := .int _ _) rfl) ?_; exact h'0.out) : G := h ⟨k⟩
theorem Zh8 {G : Prop} (h : G := by exact ao_nil (Out.mk (by (refine congrArg AV.bool ?_; (clear hB; (simp_all; omega)))) (by repeat (first | exact SubX.refl _ _ | refine SubX.at ?_ | refine SubX.put rfl ?_)))) : G := h
theorem Zh9 {G G' : Prop} (k : G') (h : Hid G' → G := by intro h'0; refine aw_freezeL (ys := h.map eI) 8 rfl rfl rfl rfl (by rw [List.drop_zero, List.take_of_length_le (by simp)]) (by simp) (eI_bel 0 _) ?_; exact h'0.out) : G := h ⟨k⟩
theorem Zha {G G' : Prop} (k : G') (h : Hid G' → G := by intro h'0; refine aq0 1 rfl (by decide +kernel) (by decide) (fun _ => o_move (v := .pl _) rfl) ?_; exact h'0.out) : G := h ⟨k⟩
theorem Zhb {G G' : Prop} (k : G') (h : Hid G' → G := by intro h'0; refine aqp 7 rfl (by decide +kernel) (by decide) (fun G => w_loadR rfl (lk rfl rfl) rfl rfl rfl) ?_; exact h'0.out) : G := h ⟨k⟩
theorem Zhc {G G' : Prop} (k : G') (h : Hid G' → G := by intro h'0; refine aq0 8 rfl (by decide +kernel) (by decide) (fun _ => V1.up (o_build (cs := [_, _, _, .int _ _, .int _ _, .int _ _, .str _, .bool _, .int _ _, .int _ _]) rfl)) ?_; exact h'0.out) : G := h ⟨k⟩
theorem Zhd {G G' : Prop} (k : G') (h : Hid G' → G := by intro h'0; refine aqs 9 rfl (by decide +kernel) (by exact fun _ => ⟨_, rfl⟩) (by rintro _ ⟨⟩; decide) (o_boxL (sz := 10) (v := .agg _) rfl rfl rfl rfl (by decide) rfl) ?_; exact h'0.out) : G := h ⟨k⟩
theorem Zhe {G G' : Prop} (k : G') (h : Hid G' → G := by intro h'0; refine aq0 10 rfl (by decide +kernel) (by decide) (fun _ => o_assign (v := .pt _ _ _ _) rfl) ?_; exact h'0.out) : G := h ⟨k⟩
theorem Zhf {G G' : Prop} (k : G') (h : Hid G' → G := by intro h'0; (try dsimp only [List.length_cons, List.length_nil, Nat.reduceAdd, List.cons_append, List.nil_append, put, AV.up, AV.cells]); exact h'0.out) : G := h ⟨k⟩
theorem Zhg {G G' : Prop} (k : G') (h : Hid G' → G := by intro h'0; refine ao1 (by decide) (w_nilCheck rfl (lk rfl rfl) rfl) ?_; refine Z1z ?_; exact h'0.out) : G := h ⟨k⟩
theorem Zhh {G G' : Prop} (k : G') (h : Hid G' → G := by intro h'0; refine ao1 (by decide) (w_load1 (v := .sl _ _ _ _ _) rfl (lk rfl rfl) rfl rfl rfl) ?_; exact h'0.out) : G := h ⟨k⟩
theorem Zhi {G G' : Prop} (k : G') (h : Hid G' → G := by intro h'0; refine ao2 (by rintro _ ⟨⟩) (w_storeP (sz := 1) (v := .bool true) (r' := [.bool true]) rfl rfl rfl rfl hrow rfl rfl rfl (Nat.le_refl 1) rfl) ?_; exact h'0.out) : G := h ⟨k⟩
theorem Zhj {G G' : Prop} (k : G') (h : Hid G' → G := by intro h'0; refine aw_heapM (M ++ []) (by rw [← hM, List.append_nil]; rfl) ?_; exact h'0.out) : G := h ⟨k⟩
theorem Zhk {G G' : Prop} (k : G') (h : Hid G' → G := by intro h'0; refine aw_drawN mixed (some 18) 1 hF hK ?_; exact h'0.out) : G := h ⟨k⟩
theorem Zhl {G G' : Prop} (k : G') (h : Hid G' → G := by intro h'0; refine aqn2 1 rfl (by decide +kernel) (by decide) (fun M G hn hp hp2 => w_nilCheck rfl (lkF hp) rfl) ?_; exact h'0.out) : G := h ⟨k⟩
theorem Zhm {G G' : Prop} (k : G') (h : Hid G' → G := by intro h'0; refine aqn2 2 rfl (by decide +kernel) (by decide) (fun M G hn hp hp2 => w_fieldAddr rfl (lkF hp) rfl (by decide)) ?_; exact h'0.out) : G := h ⟨k⟩
theorem Zhn {G G' : Prop} (k : G') (h : Hid G' → G := by intro h'0; refine aqn2 4 rfl (by decide +kernel) (by decide) (fun M G hn hp hp2 => w_fieldAddr rfl (lk hn rfl) rfl (by decide)) ?_; exact h'0.out) : G := h ⟨k⟩
theorem Zho {G G' : Prop} (k : G') (h : Hid G' → G := by intro h'0; refine aqn2 5 rfl (by decide +kernel) (by decide) (fun M G hn hp hp2 => w_load1 (v := .int _ _) rfl (lk hn rfl) rfl rfl rfl) ?_; exact h'0.out) : G := h ⟨k⟩
theorem Zhp {G G' : Prop} (k : G') (h : Hid G' → G := by intro h'0; refine aq0 6 rfl (by decide +kernel) (by decide) (fun _ => o_move (v := .pt _ _ _ _) rfl) ?_; exact h'0.out) : G := h ⟨k⟩
theorem Zhq {G G' : Prop} (k : G') (h : Hid G' → G := by intro h'0; refine aqn2 7 rfl (by decide +kernel) (by decide) (fun M G hn hp hp2 => w_nilCheck rfl (lkF hp) rfl) ?_; exact h'0.out) : G := h ⟨k⟩
theorem Zhr {G G' : Prop} (k : G') (h : Hid G' → G := by intro h'0; refine aqn2 8 rfl (by decide +kernel) (by decide) (fun M G hn hp hp2 => w_fieldAddr rfl (lkF hp) rfl (by decide)) ?_; exact h'0.out) : G := h ⟨k⟩
theorem Zhs {G G' : Prop} (k : G') (h : Hid G' → G := by intro h'0; refine aqn2 10 rfl (by decide +kernel) (by decide) (fun M G hn hp hp2 => w_fieldAddr rfl (lk hn rfl) rfl (by decide)) ?_; exact h'0.out) : G := h ⟨k⟩
theorem Zht {G G' : Prop} (k : G') (h : Hid G' → G := by intro h'0; refine aqn2 11 rfl (by decide +kernel) (by decide) (fun M G hn hp hp2 => w_load1 (v := .int _ _) rfl (lk hn rfl) rfl rfl rfl) ?_; exact h'0.out) : G := h ⟨k⟩
theorem Zhu {G G' : Prop} (k : G') (h : Hid G' → G := by intro h'0; refine aqn2 12 rfl (by decide +kernel) (by decide) (fun M G hn hp hp2 => w_indexAddrN rfl (lkF hp2) rfl rfl rfl (by omega)) ?_; exact h'0.out) : G := h ⟨k⟩
theorem Zhv {G G' : Prop} (k : G') (h : Hid G' → G := by intro h'0; refine aqn2 13 rfl (by decide +kernel) (by decide) (fun M G hn hp hp2 => w_load1 (v := .sl _ _ _ _ _) rfl (lkF hp2) rfl (zadd hcell) rfl) ?_; exact h'0.out) : G := h ⟨k⟩
theorem Zhw {G G' : Prop} (k : G') (h : Hid G' → G := by intro h'0; refine aq0 14 rfl (by decide +kernel) (by decide) (fun _ => o_move (v := .int _ _) rfl) ?_; exact h'0.out) : G := h ⟨k⟩
theorem Zhx {G G' : Prop} (k : G') (h : Hid G' → G := by intro h'0; refine aq02 15 rfl (by decide +kernel) (by decide) (fun _ => g_lit1 (sz := 1) (v := .int .i64 (i : Int)) (cs := [.int .i64 (i : Int)]) rfl (by decide) (by decide) rfl rfl rfl rfl rfl) ?_; exact h'0.out) : G := h ⟨k⟩
theorem Zhy {G G' : Prop} (k : G') (h : Hid G' → G := by intro h'0; refine aqs 16 rfl (by decide +kernel) (by exact fun _ => ⟨_, _, rfl, rfl, hF, hK⟩) (by rintro _ ⟨⟩; decide) (w_appendF ((kidP g i u).length + 1) rfl hR rfl rfl (Src.pl (ys := [[.int .i64 (i : Int)]]) rfl (by intro r hr; simp only [List.mem_singleton] at hr; subst hr; rfl)) rfl (by (simp; done)) (by (simp; omega)) (by (simp; omega)) (by (simp; done))) ?_; exact h'0.out) : G := h ⟨k⟩
theorem Zhz {G G' : Prop} (k : G') (h : Hid G' → G := by intro h'0; refine aqn2 17 rfl (by decide +kernel) (by decide) (fun M G hn hp hp2 => w_indexAddrN rfl (lkF hp2) rfl rfl rfl (by omega)) ?_; exact h'0.out) : G := h ⟨k⟩
theorem Zi0 {G G' : Prop} (k : G') (h : Hid G' → G := by intro h'0; refine aqs 18 rfl (by decide +kernel) (by exact fun _ => ⟨_, _, rfl, by simp, hF3, hK3⟩) (by rintro _ ⟨⟩) (w_storeFP (sz := 1) (v := .sl _ _ _ _ _) (r' := [.sl (H.length + (u + 4)) ((kidP g i u).length + 1) 0 ((kidP g i u).length + 1) ((kidP g i u).length + 1)]) rfl hK3 rfl (zadd hcell) rfl rfl rfl (Nat.le_refl 1) rfl) ?_; exact h'0.out) : G := h ⟨k⟩
theorem Zi1 {G G' : Prop} (k : G') (h : Hid G' → G := by intro h'0; (try dsimp only [put, Nat.reduceAdd, List.length_cons, List.length_nil]); exact h'0.out) : G := h ⟨k⟩
theorem Zi2 {G G' : Prop} (k : G') (h : Hid G' → G := by intro h'0; refine ao1 (by decide) (w_indexAddrpN rfl rfl hkr rfl) ?_; exact h'0.out) : G := h ⟨k⟩
theorem Zi3 {G G' : Prop} (k : G') (h : Hid G' → G := by intro h'0; refine ao1 (by decide) (o_load1p (v := .pl _) rfl hkr rfl) ?_; exact h'0.out) : G := h ⟨k⟩
theorem Zi4 {G G' : Prop} (k : G') (h : Hid G' → G := by intro h'0; (try dsimp only [Nat.reduceAdd, List.nil_append]); exact h'0.out) : G := h ⟨k⟩
theorem Zi5 {G G' : Prop} (k : G') (h : Hid G' → G := by intro h'0; refine ao1 (by decide) (w_lens rfl (lk rfl rfl) rfl) ?_; exact h'0.out) : G := h ⟨k⟩
theorem Zi6 {G G' : Prop} (k : G') (h : Hid G' → G := by intro h'0; refine ao_y1 rfl rfl (by decide) (o_move (v := .pt _ _ _ _) rfl) ?_; exact h'0.out) : G := h ⟨k⟩
theorem Zi7 {G G' : Prop} (k : G') (h : Hid G' → G := by intro h'0; refine ao_y1 rfl rfl (by decide) (w_nilCheck rfl (lkF hF) rfl) ?_; exact h'0.out) : G := h ⟨k⟩
theorem Zi8 {G G' : Prop} (k : G') (h : Hid G' → G := by intro h'0; refine ao_y1 rfl rfl (by decide) (w_fieldAddr rfl (lkF hF) rfl (by decide)) ?_; exact h'0.out) : G := h ⟨k⟩
theorem Zi9 {G G' : Prop} (k : G') (h : Hid G' → G := by intro h'0; refine ao_y1 rfl rfl (by decide) (w_fieldAddrp rfl (by decide)) ?_; exact h'0.out) : G := h ⟨k⟩
theorem Zia {G G' : Prop} (k : G') (h : Hid G' → G := by intro h'0; refine Z3n ?_; refine Zl ?_; exact h'0.out) : G := h ⟨k⟩
theorem Zib {G G' : Prop} (k : G') (h : Hid G' → G := by intro h'0; refine Z2o ?_; refine Z9 ?_; exact h'0.out) : G := h ⟨k⟩
theorem Zic {G G' : Prop} (k : G') (h : Hid G' → G := by intro h'0; refine aqn0 (g := 21) 4 rfl (by decide +kernel) (by decide) rfl rfl rfl ?_; exact h'0.out) : G := h ⟨k⟩
theorem Zid {G G' : Prop} (k : G') (h : Hid G' → G := by intro h'0; refine aqn0 (g := 21) 5 rfl (by decide +kernel) (by decide) rfl rfl rfl ?_; exact h'0.out) : G := h ⟨k⟩
theorem Zie {G G' : Prop} (k : G') (h : Hid G' → G := by intro h'0; refine aqn0 (g := 21) 6 rfl (by decide +kernel) (by decide) rfl rfl rfl ?_; exact h'0.out) : G := h ⟨k⟩
theorem Zif {G G' : Prop} (k : G') (h : Hid G' → G := by intro h'0; refine aq0 13 rfl (by decide +kernel) (by decide) (fun _ => o_move (v := .bool _) rfl) ?_; exact h'0.out) : G := h ⟨k⟩
theorem Zig {G G' : Prop} (k : G') (h : Hid G' → G := by intro h'0; refine aqn0 (g := 31) 14 rfl (by decide +kernel) (by decide) rfl rfl rfl ?_; exact h'0.out) : G := h ⟨k⟩
theorem Zih {G G' : Prop} (k : G') (h : Hid G' → G := by intro h'0; refine aqn0 (g := 31) 15 rfl (by decide +kernel) (by decide) rfl rfl rfl ?_; exact h'0.out) : G := h ⟨k⟩
theorem Zii {G G' : Prop} (k : G') (h : Hid G' → G := by intro h'0; refine aqn0 (g := 31) 16 rfl (by decide +kernel) (by decide) rfl rfl rfl ?_; exact h'0.out) : G := h ⟨k⟩
theorem Zij {G G' : Prop} (k : G') (h : Hid G' → G := by intro h'0; refine aqn0 (g := 31) 17 rfl (by decide +kernel) (by decide) rfl rfl rfl ?_; exact h'0.out) : G := h ⟨k⟩
theorem Zik {G G' : Prop} (k : G') (h : Hid G' → G := by intro h'0; refine aqn0 (g := 31) 18 rfl (by decide +kernel) (by decide) rfl rfl rfl ?_; exact h'0.out) : G := h ⟨k⟩
theorem Zil {G G' : Prop} (k : G') (h : Hid G' → G := by intro h'0; refine aqn0 (g := 31) 19 rfl (by decide +kernel) (by decide) rfl rfl rfl ?_; exact h'0.out) : G := h ⟨k⟩
theorem Zim {G G' : Prop} (k : G') (h : Hid G' → G := by intro h'0; refine aqn0 (g := 31) 20 rfl (by decide +kernel) (by decide) rfl rfl rfl ?_; exact h'0.out) : G := h ⟨k⟩
theorem Zin {G G' : Prop} (k : G') (h : Hid G' → G := by intro h'0; refine aqu0 (g := 38) 21 rfl (by decide +kernel) (by decide) rfl rfl ?_; exact h'0.out) : G := h ⟨k⟩
theorem Zio {G G' : Prop} (k : G') (h : Hid G' → G := by intro h'0; refine aqu0 (g := 38) 22 rfl (by decide +kernel) (by decide) rfl rfl ?_; exact h'0.out) : G := h ⟨k⟩
theorem Zip {G G' : Prop} (k : G') (h : Hid G' → G := by intro h'0; refine aqu0 (g := 38) 23 rfl (by decide +kernel) (by decide) rfl rfl ?_; exact h'0.out) : G := h ⟨k⟩
theorem Ziq {G G' : Prop} (k : G') (h : Hid G' → G := by intro h'0; refine aqu0 (g := 38) 24 rfl (by decide +kernel) (by decide) rfl rfl ?_; exact h'0.out) : G := h ⟨k⟩
theorem Zir {G G' : Prop} (k : G') (h : Hid G' → G := by intro h'0; refine aqu0 (g := 38) 25 rfl (by decide +kernel) (by decide) rfl rfl ?_; exact h'0.out) : G := h ⟨k⟩
theorem Zis {G G' : Prop} (k : G') (h : Hid G' → G := by intro h'0; refine aqu0 (g := 38) 26 rfl (by decide +kernel) (by decide) rfl rfl ?_; exact h'0.out) : G := h ⟨k⟩
theorem Zit {G G' : Prop} (k : G') (h : Hid G' → G := by intro h'0; refine aqu0 (g := 38) 27 rfl (by decide +kernel) (by decide) rfl rfl ?_; exact h'0.out) : G := h ⟨k⟩
theorem Ziu {G G' : Prop} (k : G') (h : Hid G' → G := by intro h'0; refine aqu0 (g := 38) 28 rfl (by decide +kernel) (by decide) rfl rfl ?_; exact h'0.out) : G := h ⟨k⟩
theorem Ziv {G G' : Prop} (k : G') (h : Hid G' → G := by intro h'0; refine aqn0 (g := 31) 29 rfl (by decide +kernel) (by decide) rfl rfl rfl ?_; exact h'0.out) : G := h ⟨k⟩
theorem Ziw {G G' : Prop} (k : G') (h : Hid G' → G := by intro h'0; refine aq0 30 rfl (by decide +kernel) (by decide) (fun _ => o_pick_t (v := .bool _) rfl rfl) ?_; exact h'0.out) : G := h ⟨k⟩
theorem Zix {G : Prop} (h : G := by exact aa_done (by decide +kernel) (by exact fun _ => ⟨_, rfl⟩) (Out.mk (by (refine congrArg AV.bool ?_; (clear hB hmem hkr hrT hrI; (simp_all; done)))) (by repeat (first | exact SubX.refl _ _ | refine SubX.at ?_ | refine SubX.put rfl ?_)))) : G := h
theorem Ziy {G G' : Prop} (k : G') (h : Hid G' → G := by intro h'0; refine aq0 30 rfl (by decide +kernel) (by decide) (fun _ => o_pick_f (v := .bool _) rfl rfl) ?_; exact h'0.out) : G := h ⟨k⟩
theorem Ziz {G G' : Prop} (k : G') (h : Hid G' → G := by intro h'0; refine aqp 4 rfl (by decide +kernel) (by decide) (fun G => w_fieldAddr rfl (lkF hF) rfl (by decide)) ?_; exact h'0.out) : G := h ⟨k⟩
theorem Zj0 {G G' : Prop} (k : G') (h : Hid G' → G := by intro h'0; refine aq0 16 rfl (by decide +kernel) (by decide) (fun _ => o_assign (v := .pl _) rfl) ?_; exact h'0.out) : G := h ⟨k⟩
theorem Zj1 {G G' : Prop} (k : G') (h : Hid G' → G := by intro h'0; refine ao1 (by decide) (w_load1 (v := .pl (kidR g)) rfl (lkF hF) rfl rfl rfl) ?_; exact h'0.out) : G := h ⟨k⟩
theorem Zj2 {G : Prop} (h : G := by exact ao_nil (Out.mk (by (refine congrArg AV.bool ?_; (simp only [mmay]; clear hB; (simp_all; done)))) (by repeat (first | exact SubX.refl _ _ | refine SubX.at ?_ | refine SubX.put rfl ?_)))) : G := h
theorem Zj3 {G G' : Prop} (k : G') (h : Hid G' → G := by intro h'0; refine aq0 5 rfl (by decide +kernel) (by decide) (fun _ => o_move (v := .tup _) rfl) ?_; exact h'0.out) : G := h ⟨k⟩
theorem Zj4 {G G' : Prop} (k : G') (h : Hid G' → G := by intro h'0; refine ao2 (by rintro _ ⟨⟩; decide) (V2.callv (hcall _) rfl rfl) ?_; exact h'0.out) : G := h ⟨k⟩
theorem Zj5 {G G' : Prop} (k : G') (h : Hid G' → G := by intro h'0; refine Z9e ?_; refine Z9d ?_; exact h'0.out) : G := h ⟨k⟩
theorem Zj6 {G : Prop} (h : G := by exact ao_nil (Out.mk (by (refine congrArg AV.bool ?_; (clear hB hrow hr; (simp_all; done)))) (by repeat (first | exact SubX.refl _ _ | refine SubX.at ?_ | refine SubX.put rfl ?_)))) : G := h
theorem Zj7 {G G' : Prop} (k : G') (h : Hid G' → G := by intro h'0; refine ao_y1 rfl rfl (by decide) (w_load1 (v := .pl _) rfl (lkF hb) rfl rfl rfl) ?_; exact h'0.out) : G := h ⟨k⟩
theorem Zj8 {G G' : Prop} (k : G') (h : Hid G' → G := by intro h'0; refine Zi9 ?_; refine Zdr ?_; exact h'0.out) : G := h ⟨k⟩
theorem Zj9 {G G' : Prop} (k : G') (h : Hid G' → G := by intro h'0; refine ao_y rfl rfl (by decide) (V2.call (job_Over _ _) rfl) ?_; exact h'0.out) : G := h ⟨k⟩
theorem Zja {G G' : Prop} (k : G') (h : Hid G' → G := by intro h'0; refine ao_y1 rfl rfl (by decide) (o_ne rfl rfl) ?_; exact h'0.out) : G := h ⟨k⟩
theorem Zjb {G G' : Prop} (k : G') (h : Hid G' → G := by intro h'0; refine Zja ?_; refine Z9j ?_; exact h'0.out) : G := h ⟨k⟩
theorem Zjc {G G' : Prop} (k : G') (h : Hid G' → G := by intro h'0; refine Zia ?_; refine Z9m ?_; exact h'0.out) : G := h ⟨k⟩
theorem Zjd {G G' : Prop} (k : G') (h : Hid G' → G := by intro h'0; refine ao2 (by rintro _ ⟨⟩; decide) (o_boxL (sz := 1) (v := .pl _) rfl rfl rfl rfl (by decide) rfl) ?_; exact h'0.out) : G := h ⟨k⟩
theorem Zje {G G' : Prop} (k : G') (h : Hid G' → G := by intro h'0; refine ao2 (by rintro _ ⟨⟩; decide) (o_allocL (sz := 1) rfl (by decide) rfl) ?_; exact h'0.out) : G := h ⟨k⟩
theorem Zjf {G G' : Prop} (k : G') (h : Hid G' → G := by intro h'0; refine ao_y1 rfl rfl (by decide) (o_makeFunc (vs := []) (us := [_]) rfl rfl) ?_; exact h'0.out) : G := h ⟨k⟩
theorem Zjg {G G' : Prop} (k : G') (h : Hid G' → G := by intro h'0; refine aq0 2 rfl (by decide +kernel) (by decide) (fun _ => o_gt rfl rfl) ?_; exact h'0.out) : G := h ⟨k⟩
theorem Zjh {G G' : Prop} (k : G') (h : Hid G' → G := by intro h'0; refine aq0 16 rfl (by decide +kernel) (by decide) (fun _ => o_pick_f (v := .bool _) rfl rfl) ?_; exact h'0.out) : G := h ⟨k⟩
theorem Zji {G : Prop} (h : G := by exact aa_done (by decide +kernel) (by exact fun _ => ⟨_, rfl⟩) (Out.mk (by rfl) (by repeat (first | exact SubX.refl _ _ | refine SubX.at ?_ | refine SubX.put rfl ?_)))) : G := h
theorem Zjj {G G' : Prop} (k : G') (h : Hid G' → G := by intro h'0; refine aw_drawP mixed none 0 ?_; exact h'0.out) : G := h ⟨k⟩
theorem Zjk {G G' : Prop} (k : G') (h : Hid G' → G := by intro h'0; (try dsimp only [List.take_zero]); exact h'0.out) : G := h ⟨k⟩
theorem Zjl {G G' : Prop} (k : G') (h : Hid G' → G := by intro h'0; refine aq0 5 rfl (by decide +kernel) (by decide) (fun _ => o_move (v := .sl _ _ _ _ _) rfl) ?_; exact h'0.out) : G := h ⟨k⟩
theorem Zjm {G G' : Prop} (k : G') (h : Hid G' → G := by intro h'0; refine aq0 6 rfl (by decide +kernel) (by decide) (fun _ => o_move (v := .int _ _) rfl) ?_; exact h'0.out) : G := h ⟨k⟩
theorem Zjn {G G' : Prop} (k : G') (h : Hid G' → G := by intro h'0; refine aq0 11 rfl (by decide +kernel) (by decide) (fun _ => o_move (v := .int _ _) rfl) ?_; exact h'0.out) : G := h ⟨k⟩
theorem Zjo {G G' : Prop} (k : G') (h : Hid G' → G := by intro h'0; refine ao1 (by decide) (w_fieldAddrp rfl (by decide)) ?_; exact h'0.out) : G := h ⟨k⟩
theorem Zjp {G : Prop} (h : G := by exact ao_nil (Out.mk (by (refine congrArg AV.bool ?_; (unfold readyB; clear hB hbf hst hr; (simp_all; done)))) (by repeat (first | exact SubX.refl _ _ | refine SubX.at ?_ | refine SubX.put rfl ?_)))) : G := h
theorem Zjq {G G' : Prop} (k : G') (h : Hid G' → G := by intro h'0; (try dsimp only [List.length_cons, List.length_nil, Nat.reduceAdd, put, List.set_cons_succ, List.set_cons_zero]); exact h'0.out) : G := h ⟨k⟩
theorem Zjr {G G' : Prop} (k : G') (h : Hid G' → G := by intro h'0; refine ao1 (by decide) (w_slices rfl (lkF hF) rfl rfl (.some rfl rfl) .none (by omega) (by omega)) ?_; exact h'0.out) : G := h ⟨k⟩
theorem Zjs {G G' : Prop} (k : G') (h : Hid G' → G := by intro h'0; refine aw_drawP mixed (some 8) 999 ?_; exact h'0.out) : G := h ⟨k⟩
theorem Zjt {G G' : Prop} (k : G') (h : Hid G' → G := by intro h'0; refine aqpz [4, 3] 3 rfl (by decide +kernel) (by decide) (fun G => o_add (r := ((i + 1 : Nat) : Int)) rfl rfl (by rw [show (i : Int) + ((1 : Nat) : Int) = ((i + 1 : Nat) : Int) by omega]; exact wrap64_ok (by omega) (by omega))) ?_; exact h'0.out) : G := h ⟨k⟩
theorem Zju {G G' : Prop} (k : G') (h : Hid G' → G := by intro h'0; refine aqp 7 rfl (by decide +kernel) (by decide) (fun G => w_slices rfl (lkF hF) rfl rfl (.some rfl rfl) .none (by omega) (by omega)) ?_; exact h'0.out) : G := h ⟨k⟩
theorem Zjv {G G' : Prop} (k : G') (h : Hid G' → G := by intro h'0; (try dsimp only [List.take_succ_cons]); exact h'0.out) : G := h ⟨k⟩
theorem Zjw {G G' : Prop} (k : G') (h : Hid G' → G := by intro h'0; refine Z2a ?_; refine Zg ?_; exact h'0.out) : G := h ⟨k⟩
theorem Zjx {G G' : Prop} (k : G') (h : Hid G' → G := by intro h'0; (try dsimp only [List.length_cons, List.length_nil, Nat.reduceAdd, put, List.set_cons_zero]); exact h'0.out) : G := h ⟨k⟩
theorem Zjy {G : Prop} (h : G := by exact ao_nil (Out.mk (by (refine congrArg AV.bool ?_; (simp only [tm]; clear hB; (simp_all; done)))) (by repeat (first | exact SubX.refl _ _ | refine SubX.at ?_ | refine SubX.put rfl ?_)))) : G := h
theorem Zjz {G G' : Prop} (k : G') (h : Hid G' → G := by intro h'0; refine aq0 2 rfl (by decide +kernel) (by decide) (fun _ => o_move (v := .pl _) rfl) ?_; exact h'0.out) : G := h ⟨k⟩
theorem Zk0 {G G' : Prop} (k : G') (h : Hid G' → G := by intro h'0; refine aq0 9 rfl (by decide +kernel) (by decide) (fun _ => o_extract (v := .pl _) rfl rfl) ?_; exact h'0.out) : G := h ⟨k⟩
theorem Zk1 {G G' : Prop} (k : G') (h : Hid G' → G := by intro h'0; refine aq0 10 rfl (by decide +kernel) (by decide) (fun _ => o_extract (v := .bool _) rfl rfl) ?_; exact h'0.out) : G := h ⟨k⟩
theorem Zk2 {G G' : Prop} (k : G') (h : Hid G' → G := by intro h'0; refine ao1 (by decide) (w_loadN (cs := [_, _, _, _, _, _, _]) rfl (lk rfl rfl) rfl rfl rfl rfl) ?_; exact h'0.out) : G := h ⟨k⟩
theorem Zk3 {G : Prop} (h : G := by exact ao_nil (Out.mk (by (refine congrArg AV.bool ?_; (clear hB; grind))) (by repeat (first | exact SubX.refl _ _ | refine SubX.at ?_ | refine SubX.put rfl ?_)))) : G := h
theorem Zk4 {G G' : Prop} (k : G') (h : Hid G' → G := by intro h'0; refine aw_freeze1 16 rfl rfl rfl rfl (by simp) (helds_bel 0 sb) ?_; exact h'0.out) : G := h ⟨k⟩
theorem Zk5 {G G' : Prop} (k : G') (h : Hid G' → G := by intro h'0; refine aw_freeze1 17 rfl rfl rfl rfl (by simp) (helds_bel 0 sk) ?_; exact h'0.out) : G := h ⟨k⟩
theorem Zk6 {G G' : Prop} (k : G') (h : Hid G' → G := by intro h'0; refine ao2 (by rintro _ ⟨⟩; decide) (g_lit1 (sz := 4) (v := .agg (eHeld ⟨w.id, th, t, sEnds w.spec t⟩)) (cs := eHeld ⟨w.id, th, t, sEnds w.spec t⟩) rfl (by decide) (by decide) rfl rfl rfl rfl rfl) ?_; exact h'0.out) : G := h ⟨k⟩
theorem Zk7 {G G' : Prop} (k : G') (h : Hid G' → G := by intro h'0; refine ao2 (by rintro _ ⟨⟩; decide) (w_append rfl rfl rfl rfl rfl (Src.pl (ys := [eHeld ⟨w.id, th, t, sEnds w.spec t⟩]) rfl (by simp)) rfl (by simp) (by simp) (by simp; omega) (by simp; omega)) ?_; exact h'0.out) : G := h ⟨k⟩
theorem Zk8 {G G' : Prop} (k : G') (h : Hid G' → G := by intro h'0; refine aqpz [2, 1] 1 rfl (by decide +kernel) (by decide) (fun G => w_fieldAddr rfl (lk rfl rfl) rfl (by decide)) ?_; exact h'0.out) : G := h ⟨k⟩
theorem Zk9 {G G' : Prop} (k : G') (h : Hid G' → G := by intro h'0; refine aqp 2 rfl (by decide +kernel) (by decide) (fun G => w_load1 (v := .int _ _) rfl (lk rfl rfl) rfl rfl rfl) ?_; exact h'0.out) : G := h ⟨k⟩
theorem Zka {G G' : Prop} (k : G') (h : Hid G' → G := by intro h'0; refine aq0 3 rfl (by decide +kernel) (by decide) (fun _ => o_move (v := .pt _ _ _ _) rfl) ?_; exact h'0.out) : G := h ⟨k⟩
theorem Zkb {G G' : Prop} (k : G') (h : Hid G' → G := by intro h'0; refine aqpz [7, 6, 5, 4] 4 rfl (by decide +kernel) (by decide) (fun G => w_nilCheck rfl (lkF hF) rfl) ?_; exact h'0.out) : G := h ⟨k⟩
theorem Zkc {G G' : Prop} (k : G') (h : Hid G' → G := by intro h'0; refine aqpz [7, 6, 5] 5 rfl (by decide +kernel) (by decide) (fun G => w_fieldAddr rfl (lkF hF) rfl (by decide)) ?_; exact h'0.out) : G := h ⟨k⟩
theorem Zkd {G G' : Prop} (k : G') (h : Hid G' → G := by intro h'0; refine aqpz [7, 6] 6 rfl (by decide +kernel) (by decide) (fun G => w_fieldAddr rfl (lkF hF) rfl (by decide)) ?_; exact h'0.out) : G := h ⟨k⟩
theorem Zke {G G' : Prop} (k : G') (h : Hid G' → G := by intro h'0; refine aqp 7 rfl (by decide +kernel) (by decide) (fun G => w_load1 (v := .int _ _) rfl (lkF hF) rfl rfl rfl) ?_; exact h'0.out) : G := h ⟨k⟩
theorem Zkf {G G' : Prop} (k : G') (h : Hid G' → G := by intro h'0; (try dsimp only [put, Nat.reduceAdd]); exact h'0.out) : G := h ⟨k⟩
theorem Zkg {G G' : Prop} (k : G') (h : Hid G' → G := by intro h'0; refine aq0 19 rfl (by decide +kernel) (by decide) (fun _ => o_pick_t (v := .bool _) rfl rfl) ?_; exact h'0.out) : G := h ⟨k⟩
theorem Zkh {G : Prop} (h : G := by exact aa_done (by decide +kernel) (by exact fun _ => ⟨_, rfl⟩) (Out.mk (by (refine congrArg AV.bool ?_; (clear hB hst hr hF hF0; (simp_all; done)))) (by repeat (first | exact SubX.refl _ _ | refine SubX.at ?_ | refine SubX.put rfl ?_)))) : G := h
theorem Zki {G G' : Prop} (k : G') (h : Hid G' → G := by intro h'0; refine aq0 8 rfl (by decide +kernel) (by decide) (fun _ => o_move (v := .tup _) rfl) ?_; exact h'0.out) : G := h ⟨k⟩
theorem Zkj {G G' : Prop} (k : G') (h : Hid G' → G := by intro h'0; refine Z2i ?_; refine ao_ret (inst_Copy _ _ (by assumption) (by assumption)) rfl (by decide) ?_; exact h'0.out) : G := h ⟨k⟩
theorem Zkk {G G' : Prop} (k : G') (h : Hid G' → G := by intro h'0; refine Zfw ?_; refine Z4w ?_; exact h'0.out) : G := h ⟨k⟩
theorem Zkl {G G' : Prop} (k : G') (h : Hid G' → G := by intro h'0; refine ao2 (by rintro _ ⟨⟩; decide) (V2.callTS (worker_look z (Lid H.length 2) _ hri (by omega) (lk rfl rfl)) rfl rfl) ?_; exact h'0.out) : G := h ⟨k⟩
theorem Zkm {G G' : Prop} (k : G') (h : Hid G' → G := by intro h'0; refine Zfv ?_; refine Zz ?_; exact h'0.out) : G := h ⟨k⟩
theorem Zkn {G G' : Prop} (k : G') (h : Hid G' → G := by intro h'0; refine Zkm ?_; refine Z4w ?_; exact h'0.out) : G := h ⟨k⟩
theorem Zko {G : Prop} (h : G := by exact e_done hB (r_cellR rfl (lk rfl rfl) rfl rfl rfl (r_tmp rfl (r_tmp rfl .nil))) rfl rfl) : G := h
theorem Zkp {G G' : Prop} (k : G') (h : Hid G' → G := by intro h'0; refine aqp 1 rfl (by decide +kernel) (by decide) (fun G => w_nilCheck rfl (lk rfl rfl) rfl) ?_; exact h'0.out) : G := h ⟨k⟩
theorem Zkq {G G' : Prop} (k : G') (h : Hid G' → G := by intro h'0; refine aqp 2 rfl (by decide +kernel) (by decide) (fun G => w_fieldAddr rfl (lk rfl rfl) rfl (by decide)) ?_; exact h'0.out) : G := h ⟨k⟩
theorem Zkr {G G' : Prop} (k : G') (h : Hid G' → G := by intro h'0; refine aq0 13 rfl (by decide +kernel) (by decide) (fun _ => o_move (v := .tup _) rfl) ?_; exact h'0.out) : G := h ⟨k⟩
theorem Zks {G G' : Prop} (k : G') (h : Hid G' → G := by intro h'0; refine aq0 14 rfl (by decide +kernel) (by decide) (fun _ => o_extract (v := .pl _) rfl rfl) ?_; exact h'0.out) : G := h ⟨k⟩
theorem Zkt {G G' : Prop} (k : G') (h : Hid G' → G := by intro h'0; refine aq0 15 rfl (by decide +kernel) (by decide) (fun _ => o_extract (v := .int _ _) rfl rfl) ?_; exact h'0.out) : G := h ⟨k⟩
theorem Zku {G G' : Prop} (k : G') (h : Hid G' → G := by intro h'0; refine Z4p ?_; refine Z24 ?_; exact h'0.out) : G := h ⟨k⟩
theorem Zkv {G G' : Prop} (k : G') (h : Hid G' → G := by intro h'0; refine Z5k ?_; refine Z7j ?_; exact h'0.out) : G := h ⟨k⟩
theorem Zkw {G G' : Prop} (k : G') (h : Hid G' → G := by intro h'0; refine aqp 2 rfl (by decide +kernel) (by decide) (fun G => w_indexAddrpN rfl rfl hr1 rfl) ?_; exact h'0.out) : G := h ⟨k⟩
theorem Zkx {G G' : Prop} (k : G') (h : Hid G' → G := by intro h'0; refine aqp 3 rfl (by decide +kernel) (by decide) (fun G => w_loadRp rfl hr1 rfl) ?_; exact h'0.out) : G := h ⟨k⟩
theorem Zky {G G' : Prop} (k : G') (h : Hid G' → G := by intro h'0; refine aqp 6 rfl (by decide +kernel) (by decide) (fun G => w_indexAddrpN rfl rfl hr2 rfl) ?_; exact h'0.out) : G := h ⟨k⟩
theorem Zkz {G G' : Prop} (k : G') (h : Hid G' → G := by intro h'0; refine aqp 7 rfl (by decide +kernel) (by decide) (fun G => w_loadRp rfl hr2 rfl) ?_; exact h'0.out) : G := h ⟨k⟩
theorem Zl0 {G G' : Prop} (k : G') (h : Hid G' → G := by intro h'0; refine Zga ?_; refine Zfr ?_; exact h'0.out) : G := h ⟨k⟩
theorem Zl1 {G G' : Prop} (k : G') (h : Hid G' → G := by intro h'0; refine Zl0 ?_; refine Zfw ?_; exact h'0.out) : G := h ⟨k⟩
theorem Zl2 {G G' : Prop} (k : G') (h : Hid G' → G := by intro h'0; (try dsimp only [Nat.reduceAdd, put, List.length_cons, List.length_nil, List.cons_append, List.nil_append, List.set_cons_zero, List.set_cons_succ]); exact h'0.out) : G := h ⟨k⟩
theorem Zl3 {G G' : Prop} (k : G') (h : Hid G' → G := by intro h'0; refine ao1 (by decide) (V1.up (o_build (cs := [.int _ _, .int _ _, .str _]) rfl)) ?_; exact h'0.out) : G := h ⟨k⟩
theorem Zl4 {G G' : Prop} (k : G') (h : Hid G' → G := by intro h'0; refine aq0 9 rfl (by decide +kernel) (by decide) (fun _ => o_not rfl) ?_; exact h'0.out) : G := h ⟨k⟩
theorem Zl5 {G : Prop} (h : G := by exact ao_nil (Out.mk (by (refine congrArg AV.bool ?_; (clear hB; simp_all))) (by repeat (first | exact SubX.refl _ _ | refine SubX.at ?_ | refine SubX.put rfl ?_)))) : G := h
theorem Zl6 {G : Prop} (h : G := by refine Z5n ?_; exact Zl5) : G := h
theorem Zl7 {G G' : Prop} (k : G') (h : Hid G' → G := by intro h'0; refine ao2 (by rintro _ ⟨⟩; decide) (V2.callT (law16_awake _) rfl rfl) ?_; exact h'0.out) : G := h ⟨k⟩
theorem Zl8 {G G' : Prop} (k : G') (h : Hid G' → G := by intro h'0; refine ao_y rfl rfl (by decide) (V2.call (law16_light _ _) rfl) ?_; exact h'0.out) : G := h ⟨k⟩
theorem Zl9 {G G' : Prop} (k : G') (h : Hid G' → G := by intro h'0; refine ao1 (by decide) (o_rem rfl rfl (by omega) rfl) ?_; refine ao1 (by decide) (o_conv_int rfl rfl) ?_; exact h'0.out) : G := h ⟨k⟩
theorem Zla {G G' : Prop} (k : G') (h : Hid G' → G := by intro h'0; refine ao1 (by decide) (o_add rfl rfl rfl) ?_; exact h'0.out) : G := h ⟨k⟩
theorem Zlb {G G' : Prop} (k : G') (h : Hid G' → G := by intro h'0; refine ao_ret (inst_New _ _ _ _ (by omega)) rfl (by decide) ?_; exact h'0.out) : G := h ⟨k⟩
theorem Zlc {G G' : Prop} (k : G') (h : Hid G' → G := by intro h'0; refine aqp 3 rfl (by decide +kernel) (by decide) (fun G => w_indexAddrpN rfl rfl hr rfl) ?_; exact h'0.out) : G := h ⟨k⟩
theorem Zld {G G' : Prop} (k : G') (h : Hid G' → G := by intro h'0; refine aqp 4 rfl (by decide +kernel) (by decide) (fun G => w_loadRp rfl hr rfl) ?_; exact h'0.out) : G := h ⟨k⟩
theorem Zle {G G' : Prop} (k : G') (h : Hid G' → G := by intro h'0; refine aq02 5 rfl (by decide +kernel) (by decide) (fun _ => V2.callT (law16_do i a _ hpos hw (by omega) (by omega) (by omega)) rfl rfl) ?_; exact h'0.out) : G := h ⟨k⟩
theorem Zlf {G G' : Prop} (k : G') (h : Hid G' → G := by intro h'0; refine aq0 6 rfl (by decide +kernel) (by decide) (fun _ => o_move (v := .tup _) rfl) ?_; exact h'0.out) : G := h ⟨k⟩
theorem Zlg {G G' : Prop} (k : G') (h : Hid G' → G := by intro h'0; refine aq0 7 rfl (by decide +kernel) (by decide) (fun _ => o_extract (v := .agg _) rfl rfl) ?_; exact h'0.out) : G := h ⟨k⟩
theorem Zlh {G G' : Prop} (k : G') (h : Hid G' → G := by intro h'0; refine aq0 8 rfl (by decide +kernel) (by decide) (fun _ => o_extract (v := .int _ _) rfl rfl) ?_; exact h'0.out) : G := h ⟨k⟩
theorem Zli {G G' : Prop} (k : G') (h : Hid G' → G := by intro h'0; refine aq0 9 rfl (by decide +kernel) (by decide) (fun _ => o_extract (v := .int _ _) rfl rfl) ?_; exact h'0.out) : G := h ⟨k⟩
theorem Zlj {G G' : Prop} (k : G') (h : Hid G' → G := by intro h'0; refine aqs 10 rfl (by decide +kernel) (by exact fun _ => ⟨_, rfl⟩) (by rintro _ ⟨⟩; decide) (o_allocL (sz := 9) rfl (by decide) rfl) ?_; exact h'0.out) : G := h ⟨k⟩
theorem Zlk {G G' : Prop} (k : G') (h : Hid G' → G := by intro h'0; refine aqs 11 rfl (by decide +kernel) (by exact fun _ => ⟨_, rfl⟩) (by rintro _ ⟨⟩) (w_storeW (sz := 9) rfl rfl rfl rfl rfl rfl rfl rfl (Nat.le_of_ble_eq_true rfl)) ?_; exact h'0.out) : G := h ⟨k⟩
theorem Zll {G G' : Prop} (k : G') (h : Hid G' → G := by intro h'0; refine aq0 13 rfl (by decide +kernel) (by decide) (fun _ => o_assign (v := .int _ _) rfl) ?_; exact h'0.out) : G := h ⟨k⟩
theorem Zlm {G : Prop} (h : G := by exact ao_nil (Out.mk (by (refine congrArg AV.bool ?_; (clear hB hr f1 f2 f3 f4 f5 f6 f7 f8 t t2 t3 hg hl14 hll hk hlt hE hw hjl hpos hids hgr ha hal haw hri hjn n1 n2 n3 n4 n5; (rw [Bool.eq_iff_iff]; simp; done)))) (by repeat (first | exact SubX.refl _ _ | refine SubX.at ?_ | refine SubX.put rfl ?_)))) : G := h
theorem Zln {G : Prop} (h : G := by exact ao_nil (Out.mk (by (refine congrArg AV.bool ?_; (clear hB hr f1 f2 f3 f4 f5 f6 f7 f8 t t2 t3 hg hl14 hll hk hlt hE hw hjl hpos hids hgr ha hal haw hri hjn n1 n2 n3 n4 n5; (rw [Bool.eq_iff_iff]; simp_all; done)))) (by repeat (first | exact SubX.refl _ _ | refine SubX.at ?_ | refine SubX.put rfl ?_)))) : G := h
theorem Zlo {G G' : Prop} (k : G') (h : Hid G' → G := by intro h'0; refine Zbx ?_; refine Zj8 ?_; exact h'0.out) : G := h ⟨k⟩
theorem Zlp {G : Prop} (h : G := by exact ao_nil (Out.mk (by (refine congrArg AV.bool ?_; (clear hB hr; (simp_all; done)))) (by repeat (first | exact SubX.refl _ _ | refine SubX.at ?_ | refine SubX.put rfl ?_)))) : G := h
theorem Zlq {G : Prop} (h : G := by refine Z4q ?_; exact Zlp) : G := h
theorem Zlr {G : Prop} (h : G := by refine Zku ?_; exact Zlq) : G := h
theorem Zls {G : Prop} (h : G := by refine Zku ?_; exact Zlr) : G := h
theorem Zlt {G G' : Prop} (k : G') (h : Hid G' → G := by intro h'0; refine Z2f ?_; refine Z2f ?_; exact h'0.out) : G := h ⟨k⟩
theorem Zlu {G G' : Prop} (k : G') (h : Hid G' → G := by intro h'0; refine Zlo ?_; refine Zjb ?_; exact h'0.out) : G := h ⟨k⟩
theorem Zlv {G G' : Prop} (k : G') (h : Hid G' → G := by intro h'0; refine Zlu ?_; refine Z26 ?_; exact h'0.out) : G := h ⟨k⟩
theorem Zlw {G G' : Prop} (k : G') (h : Hid G' → G := by intro h'0; refine Zja ?_; refine Z26 ?_; exact h'0.out) : G := h ⟨k⟩
theorem Zlx {G G' : Prop} (k : G') (h : Hid G' → G := by intro h'0; refine Z3k ?_; refine Zlw ?_; exact h'0.out) : G := h ⟨k⟩
theorem Zly {G G' : Prop} (k : G') (h : Hid G' → G := by intro h'0; refine Zkv ?_; refine ao_y rfl rfl (by decide) (V2.call (ref16_Things n.graph g _ (by omega)) rfl) ?_; exact h'0.out) : G := h ⟨k⟩
theorem Zlz {G G' : Prop} (k : G') (h : Hid G' → G := by intro h'0; refine Zly ?_; refine Zfu ?_; exact h'0.out) : G := h ⟨k⟩
theorem Zm0 {G : Prop} (h : G := by refine Zlz ?_; exact Zlp) : G := h
theorem Zm1 {G G' : Prop} (k : G') (h : Hid G' → G := by intro h'0; refine Zjc ?_; refine Z26 ?_; exact h'0.out) : G := h ⟨k⟩
theorem Zm2 {G G' : Prop} (k : G') (h : Hid G' → G := by intro h'0; refine aq0 10 rfl (by decide +kernel) (by decide) (fun _ => o_move (v := .bool _) rfl) ?_; exact h'0.out) : G := h ⟨k⟩
theorem Zm3 {G G' : Prop} (k : G') (h : Hid G' → G := by intro h'0; refine aqu0 (g := 178) 43 rfl (by decide +kernel) (by decide) rfl rfl ?_; refine aqu0 (g := 178) 44 rfl (by decide +kernel) (by decide) rfl rfl ?_; exact h'0.out) : G := h ⟨k⟩
theorem Zm4 {G G' : Prop} (k : G') (h : Hid G' → G := by intro h'0; refine Zm3 ?_; refine aqu0 (g := 178) 45 rfl (by decide +kernel) (by decide) rfl rfl ?_; exact h'0.out) : G := h ⟨k⟩
theorem Zm5 {G G' : Prop} (k : G') (h : Hid G' → G := by intro h'0; refine Zm4 ?_; refine aqu0 (g := 178) 46 rfl (by decide +kernel) (by decide) rfl rfl ?_; exact h'0.out) : G := h ⟨k⟩
theorem Zm6 {G G' : Prop} (k : G') (h : Hid G' → G := by intro h'0; refine Zm5 ?_; refine aqu0 (g := 178) 47 rfl (by decide +kernel) (by decide) rfl rfl ?_; exact h'0.out) : G := h ⟨k⟩
theorem Zm7 {G G' : Prop} (k : G') (h : Hid G' → G := by intro h'0; refine Zm6 ?_; refine aqu0 (g := 178) 48 rfl (by decide +kernel) (by decide) rfl rfl ?_; exact h'0.out) : G := h ⟨k⟩
theorem Zm8 {G G' : Prop} (k : G') (h : Hid G' → G := by intro h'0; refine Zm7 ?_; refine aqu0 (g := 178) 49 rfl (by decide +kernel) (by decide) rfl rfl ?_; exact h'0.out) : G := h ⟨k⟩
theorem Zm9 {G G' : Prop} (k : G') (h : Hid G' → G := by intro h'0; refine Zm8 ?_; refine aqu0 (g := 178) 50 rfl (by decide +kernel) (by decide) rfl rfl ?_; exact h'0.out) : G := h ⟨k⟩
theorem Zma {G : Prop} (h : G := by exact aa_done (by decide +kernel) (by exact fun _ => ⟨_, rfl⟩) (Out.mk (by (refine congrArg AV.bool ?_; (clear hB hr f1 f2 f3 f4 f5 f6 f7 f8 t; (simp_all; done)))) (by repeat (first | exact SubX.refl _ _ | refine SubX.at ?_ | refine SubX.put rfl ?_)))) : G := h
theorem Zmb {G G' : Prop} (k : G') (h : Hid G' → G := by intro h'0; refine aqy0 (g := 157) 22 rfl (by decide +kernel) (by decide) rfl rfl (fun _ => o_move (v := .int _ _) rfl) ?_; exact h'0.out) : G := h ⟨k⟩
theorem Zmc {G G' : Prop} (k : G') (h : Hid G' → G := by intro h'0; refine aqy0 (g := 157) 23 rfl (by decide +kernel) (by decide) rfl rfl (fun _ => o_eq rfl rfl) ?_; exact h'0.out) : G := h ⟨k⟩
theorem Zmd {G G' : Prop} (k : G') (h : Hid G' → G := by intro h'0; refine aqy0 (g := 157) 24 rfl (by decide +kernel) (by decide) rfl rfl (fun _ => o_move (v := .bool _) rfl) ?_; exact h'0.out) : G := h ⟨k⟩
theorem Zme {G G' : Prop} (k : G') (h : Hid G' → G := by intro h'0; refine aqy0 (g := 160) 25 rfl (by decide +kernel) (by decide) rfl rfl (fun _ => o_move (v := .pl _) rfl) ?_; exact h'0.out) : G := h ⟨k⟩
theorem Zmf {G G' : Prop} (k : G') (h : Hid G' → G := by intro h'0; refine aqy0 (g := 160) 26 rfl (by decide +kernel) (by decide) rfl rfl (fun _ => o_move (v := .int _ _) rfl) ?_; exact h'0.out) : G := h ⟨k⟩
theorem Zmg {G G' : Prop} (k : G') (h : Hid G' → G := by intro h'0; refine aqyp (g := 160) 27 rfl (by decide +kernel) (by decide) rfl rfl (fun G => w_indexAddrpN rfl rfl hr rfl) ?_; exact h'0.out) : G := h ⟨k⟩
theorem Zmh {G G' : Prop} (k : G') (h : Hid G' → G := by intro h'0; refine aqyp (g := 160) 28 rfl (by decide +kernel) (by decide) rfl rfl (fun G => w_fieldAddrp rfl (by decide)) ?_; exact h'0.out) : G := h ⟨k⟩
theorem Zmi {G G' : Prop} (k : G') (h : Hid G' → G := by intro h'0; refine aqyp (g := 160) 29 rfl (by decide +kernel) (by decide) rfl rfl (fun G => o_load1p (v := .int _ _) rfl hr rfl) ?_; exact h'0.out) : G := h ⟨k⟩
theorem Zmj {G G' : Prop} (k : G') (h : Hid G' → G := by intro h'0; refine aqy0 (g := 160) 30 rfl (by decide +kernel) (by decide) rfl rfl (fun _ => o_eq rfl rfl) ?_; exact h'0.out) : G := h ⟨k⟩
theorem Zmk {G G' : Prop} (k : G') (h : Hid G' → G := by intro h'0; refine aqy0 (g := 157) 31 rfl (by decide +kernel) (by decide) rfl rfl (fun _ => o_pick_t (v := .bool _) rfl rfl) ?_; exact h'0.out) : G := h ⟨k⟩
theorem Zml {G G' : Prop} (k : G') (h : Hid G' → G := by intro h'0; refine aqy0 (g := 157) 32 rfl (by decide +kernel) (by decide) rfl rfl (fun _ => o_move (v := .bool _) rfl) ?_; exact h'0.out) : G := h ⟨k⟩
theorem Zmm {G G' : Prop} (k : G') (h : Hid G' → G := by intro h'0; refine aqyp (g := 168) 33 rfl (by decide +kernel) (by decide) rfl rfl (fun G => w_fieldAddr rfl (lk rfl rfl) rfl (by decide)) ?_; exact h'0.out) : G := h ⟨k⟩
theorem Zmn {G G' : Prop} (k : G') (h : Hid G' → G := by intro h'0; refine aqyp (g := 168) 34 rfl (by decide +kernel) (by decide) rfl rfl (fun G => w_load1 (v := .pl _) rfl (lk rfl rfl) rfl rfl rfl) ?_; exact h'0.out) : G := h ⟨k⟩
theorem Zmo {G G' : Prop} (k : G') (h : Hid G' → G := by intro h'0; refine aqy0 (g := 168) 35 rfl (by decide +kernel) (by decide) rfl rfl (fun _ => o_move (v := .pl _) rfl) ?_; exact h'0.out) : G := h ⟨k⟩
theorem Zmp {G G' : Prop} (k : G') (h : Hid G' → G := by intro h'0; refine aqy0 (g := 168) 36 rfl (by decide +kernel) (by decide) rfl rfl (fun _ => o_move (v := .int _ _) rfl) ?_; exact h'0.out) : G := h ⟨k⟩
theorem Zmq {G G' : Prop} (k : G') (h : Hid G' → G := by intro h'0; refine aqyp (g := 168) 37 rfl (by decide +kernel) (by decide) rfl rfl (fun G => w_indexAddrpN rfl rfl hr rfl) ?_; exact h'0.out) : G := h ⟨k⟩
theorem Zmr {G G' : Prop} (k : G') (h : Hid G' → G := by intro h'0; refine aqyp (g := 168) 38 rfl (by decide +kernel) (by decide) rfl rfl (fun G => w_fieldAddrp rfl (by decide)) ?_; exact h'0.out) : G := h ⟨k⟩
theorem Zms {G G' : Prop} (k : G') (h : Hid G' → G := by intro h'0; refine aqyp (g := 168) 39 rfl (by decide +kernel) (by decide) rfl rfl (fun G => o_load1p (v := .pl _) rfl hr rfl) ?_; exact h'0.out) : G := h ⟨k⟩
theorem Zmt {G G' : Prop} (k : G') (h : Hid G' → G := by intro h'0; refine aqy02 (g := 168) 40 rfl (by decide +kernel) (by decide) rfl rfl (fun _ => V2.call (ref01_Same n.lease a.set _ (by omega)) rfl) ?_; exact h'0.out) : G := h ⟨k⟩
theorem Zmu {G G' : Prop} (k : G') (h : Hid G' → G := by intro h'0; refine aqy0 (g := 168) 41 rfl (by decide +kernel) (by decide) rfl rfl (fun _ => o_not rfl) ?_; exact h'0.out) : G := h ⟨k⟩
theorem Zmv {G G' : Prop} (k : G') (h : Hid G' → G := by intro h'0; refine aqy0 (g := 168) 42 rfl (by decide +kernel) (by decide) rfl rfl (fun _ => o_move (v := .bool _) rfl) ?_; exact h'0.out) : G := h ⟨k⟩
theorem Zmw {G G' : Prop} (k : G') (h : Hid G' → G := by intro h'0; refine aqn0 (g := 178) 43 rfl (by decide +kernel) (by decide) rfl rfl rfl ?_; exact h'0.out) : G := h ⟨k⟩
theorem Zmx {G G' : Prop} (k : G') (h : Hid G' → G := by intro h'0; refine aqn0 (g := 178) 44 rfl (by decide +kernel) (by decide) rfl rfl rfl ?_; exact h'0.out) : G := h ⟨k⟩
theorem Zmy {G G' : Prop} (k : G') (h : Hid G' → G := by intro h'0; refine aqn0 (g := 178) 45 rfl (by decide +kernel) (by decide) rfl rfl rfl ?_; exact h'0.out) : G := h ⟨k⟩
theorem Zmz {G G' : Prop} (k : G') (h : Hid G' → G := by intro h'0; refine aqn0 (g := 178) 46 rfl (by decide +kernel) (by decide) rfl rfl rfl ?_; exact h'0.out) : G := h ⟨k⟩
theorem Zn0 {G G' : Prop} (k : G') (h : Hid G' → G := by intro h'0; refine aqn0 (g := 178) 47 rfl (by decide +kernel) (by decide) rfl rfl rfl ?_; exact h'0.out) : G := h ⟨k⟩
theorem Zn1 {G G' : Prop} (k : G') (h : Hid G' → G := by intro h'0; refine aqn0 (g := 178) 48 rfl (by decide +kernel) (by decide) rfl rfl rfl ?_; exact h'0.out) : G := h ⟨k⟩
theorem Zn2 {G G' : Prop} (k : G') (h : Hid G' → G := by intro h'0; refine aqn0 (g := 178) 49 rfl (by decide +kernel) (by decide) rfl rfl rfl ?_; exact h'0.out) : G := h ⟨k⟩
theorem Zn3 {G G' : Prop} (k : G') (h : Hid G' → G := by intro h'0; refine aqn0 (g := 178) 50 rfl (by decide +kernel) (by decide) rfl rfl rfl ?_; exact h'0.out) : G := h ⟨k⟩
theorem Zn4 {G G' : Prop} (k : G') (h : Hid G' → G := by intro h'0; refine aqy0 (g := 168) 51 rfl (by decide +kernel) (by decide) rfl rfl (fun _ => o_pick_t (v := .bool _) rfl rfl) ?_; exact h'0.out) : G := h ⟨k⟩
theorem Zn5 {G G' : Prop} (k : G') (h : Hid G' → G := by intro h'0; refine aq0 53 rfl (by decide +kernel) (by decide) (fun _ => o_pick_f (v := .bool _) rfl rfl) ?_; exact h'0.out) : G := h ⟨k⟩
theorem Zn6 {G G' : Prop} (k : G') (h : Hid G' → G := by intro h'0; refine aqy0 (g := 157) 52 rfl (by decide +kernel) (by decide) rfl rfl (fun _ => o_pick_t (v := .bool _) rfl rfl) ?_; refine Zn5 ?_; exact h'0.out) : G := h ⟨k⟩
theorem Zn7 {G : Prop} (h : G := by refine Zn6 ?_; exact Zma) : G := h
theorem Zn8 {G G' : Prop} (k : G') (h : Hid G' → G := by intro h'0; refine aqyp (g := 178) 43 rfl (by decide +kernel) (by decide) rfl rfl (fun G => w_fieldAddr rfl (lk rfl rfl) rfl (by decide)) ?_; exact h'0.out) : G := h ⟨k⟩
theorem Zn9 {G G' : Prop} (k : G') (h : Hid G' → G := by intro h'0; refine aqyp (g := 178) 44 rfl (by decide +kernel) (by decide) rfl rfl (fun G => w_load1 (v := .int _ _) rfl (lk rfl rfl) rfl rfl rfl) ?_; exact h'0.out) : G := h ⟨k⟩
theorem Zna {G G' : Prop} (k : G') (h : Hid G' → G := by intro h'0; refine aqy0 (g := 178) 45 rfl (by decide +kernel) (by decide) rfl rfl (fun _ => o_move (v := .pl _) rfl) ?_; exact h'0.out) : G := h ⟨k⟩
theorem Znb {G G' : Prop} (k : G') (h : Hid G' → G := by intro h'0; refine aqy0 (g := 178) 46 rfl (by decide +kernel) (by decide) rfl rfl (fun _ => o_move (v := .int _ _) rfl) ?_; exact h'0.out) : G := h ⟨k⟩
theorem Znc {G G' : Prop} (k : G') (h : Hid G' → G := by intro h'0; refine aqyp (g := 178) 47 rfl (by decide +kernel) (by decide) rfl rfl (fun G => w_indexAddrpN rfl rfl hr rfl) ?_; exact h'0.out) : G := h ⟨k⟩
theorem Znd {G G' : Prop} (k : G') (h : Hid G' → G := by intro h'0; refine aqyp (g := 178) 48 rfl (by decide +kernel) (by decide) rfl rfl (fun G => w_fieldAddrp rfl (by decide)) ?_; exact h'0.out) : G := h ⟨k⟩
theorem Zne {G G' : Prop} (k : G') (h : Hid G' → G := by intro h'0; refine aqyp (g := 178) 49 rfl (by decide +kernel) (by decide) rfl rfl (fun G => o_load1p (v := .int _ _) rfl hr rfl) ?_; exact h'0.out) : G := h ⟨k⟩
theorem Znf {G G' : Prop} (k : G') (h : Hid G' → G := by intro h'0; refine aqy0 (g := 178) 50 rfl (by decide +kernel) (by decide) rfl rfl (fun _ => o_ne rfl rfl) ?_; exact h'0.out) : G := h ⟨k⟩
theorem Zng {G G' : Prop} (k : G') (h : Hid G' → G := by intro h'0; refine aqy0 (g := 168) 51 rfl (by decide +kernel) (by decide) rfl rfl (fun _ => o_pick_f (v := .bool _) rfl rfl) ?_; exact h'0.out) : G := h ⟨k⟩
theorem Znh {G G' : Prop} (k : G') (h : Hid G' → G := by intro h'0; refine aqn0 (g := 168) 33 rfl (by decide +kernel) (by decide) rfl rfl rfl ?_; refine aqn0 (g := 168) 34 rfl (by decide +kernel) (by decide) rfl rfl rfl ?_; exact h'0.out) : G := h ⟨k⟩
theorem Zni {G G' : Prop} (k : G') (h : Hid G' → G := by intro h'0; refine Znh ?_; refine aqn0 (g := 168) 35 rfl (by decide +kernel) (by decide) rfl rfl rfl ?_; exact h'0.out) : G := h ⟨k⟩
theorem Znj {G G' : Prop} (k : G') (h : Hid G' → G := by intro h'0; refine Zni ?_; refine aqn0 (g := 168) 36 rfl (by decide +kernel) (by decide) rfl rfl rfl ?_; exact h'0.out) : G := h ⟨k⟩
theorem Znk {G G' : Prop} (k : G') (h : Hid G' → G := by intro h'0; refine Znj ?_; refine aqn0 (g := 168) 37 rfl (by decide +kernel) (by decide) rfl rfl rfl ?_; exact h'0.out) : G := h ⟨k⟩
theorem Znl {G G' : Prop} (k : G') (h : Hid G' → G := by intro h'0; refine Znk ?_; refine aqn0 (g := 168) 38 rfl (by decide +kernel) (by decide) rfl rfl rfl ?_; exact h'0.out) : G := h ⟨k⟩
theorem Znm {G G' : Prop} (k : G') (h : Hid G' → G := by intro h'0; refine Znl ?_; refine aqn0 (g := 168) 39 rfl (by decide +kernel) (by decide) rfl rfl rfl ?_; exact h'0.out) : G := h ⟨k⟩
theorem Znn {G G' : Prop} (k : G') (h : Hid G' → G := by intro h'0; refine Znm ?_; refine aqn0 (g := 168) 40 rfl (by decide +kernel) (by decide) rfl rfl rfl ?_; exact h'0.out) : G := h ⟨k⟩
theorem Zno {G G' : Prop} (k : G') (h : Hid G' → G := by intro h'0; refine Znn ?_; refine aqn0 (g := 168) 41 rfl (by decide +kernel) (by decide) rfl rfl rfl ?_; exact h'0.out) : G := h ⟨k⟩
theorem Znp {G G' : Prop} (k : G') (h : Hid G' → G := by intro h'0; refine Zno ?_; refine aqn0 (g := 168) 42 rfl (by decide +kernel) (by decide) rfl rfl rfl ?_; exact h'0.out) : G := h ⟨k⟩
theorem Znq {G G' : Prop} (k : G') (h : Hid G' → G := by intro h'0; refine Znp ?_; refine Zm9 ?_; exact h'0.out) : G := h ⟨k⟩
theorem Znr {G G' : Prop} (k : G') (h : Hid G' → G := by intro h'0; refine Znq ?_; refine aqn0 (g := 168) 51 rfl (by decide +kernel) (by decide) rfl rfl rfl ?_; exact h'0.out) : G := h ⟨k⟩
theorem Zns {G G' : Prop} (k : G') (h : Hid G' → G := by intro h'0; refine Znr ?_; refine aqy0 (g := 157) 52 rfl (by decide +kernel) (by decide) rfl rfl (fun _ => o_pick_f (v := .bool _) rfl rfl) ?_; exact h'0.out) : G := h ⟨k⟩
theorem Znt {G G' : Prop} (k : G') (h : Hid G' → G := by intro h'0; refine Zns ?_; refine Zn5 ?_; exact h'0.out) : G := h ⟨k⟩
theorem Znu {G : Prop} (h : G := by refine Znt ?_; exact Zji) : G := h
theorem Znv {G G' : Prop} (k : G') (h : Hid G' → G := by intro h'0; refine aqn0 (g := 160) 25 rfl (by decide +kernel) (by decide) rfl rfl rfl ?_; exact h'0.out) : G := h ⟨k⟩
theorem Znw {G G' : Prop} (k : G') (h : Hid G' → G := by intro h'0; refine aqn0 (g := 160) 26 rfl (by decide +kernel) (by decide) rfl rfl rfl ?_; exact h'0.out) : G := h ⟨k⟩
theorem Znx {G G' : Prop} (k : G') (h : Hid G' → G := by intro h'0; refine aqn0 (g := 160) 27 rfl (by decide +kernel) (by decide) rfl rfl rfl ?_; exact h'0.out) : G := h ⟨k⟩
theorem Zny {G G' : Prop} (k : G') (h : Hid G' → G := by intro h'0; refine aqn0 (g := 160) 28 rfl (by decide +kernel) (by decide) rfl rfl rfl ?_; exact h'0.out) : G := h ⟨k⟩
theorem Znz {G G' : Prop} (k : G') (h : Hid G' → G := by intro h'0; refine aqn0 (g := 160) 29 rfl (by decide +kernel) (by decide) rfl rfl rfl ?_; exact h'0.out) : G := h ⟨k⟩
theorem Zo0 {G G' : Prop} (k : G') (h : Hid G' → G := by intro h'0; refine aqn0 (g := 160) 30 rfl (by decide +kernel) (by decide) rfl rfl rfl ?_; exact h'0.out) : G := h ⟨k⟩
theorem Zo1 {G G' : Prop} (k : G') (h : Hid G' → G := by intro h'0; refine aqy0 (g := 157) 31 rfl (by decide +kernel) (by decide) rfl rfl (fun _ => o_pick_f (v := .bool _) rfl rfl) ?_; exact h'0.out) : G := h ⟨k⟩
theorem Zo2 {G G' : Prop} (k : G') (h : Hid G' → G := by intro h'0; refine aqn0 (g := 146) 11 rfl (by decide +kernel) (by decide) rfl rfl rfl ?_; exact h'0.out) : G := h ⟨k⟩
theorem Zo3 {G G' : Prop} (k : G') (h : Hid G' → G := by intro h'0; refine aqn0 (g := 146) 12 rfl (by decide +kernel) (by decide) rfl rfl rfl ?_; exact h'0.out) : G := h ⟨k⟩
theorem Zo4 {G G' : Prop} (k : G') (h : Hid G' → G := by intro h'0; refine aqn0 (g := 146) 13 rfl (by decide +kernel) (by decide) rfl rfl rfl ?_; exact h'0.out) : G := h ⟨k⟩
theorem Zo5 {G G' : Prop} (k : G') (h : Hid G' → G := by intro h'0; refine aqn0 (g := 146) 14 rfl (by decide +kernel) (by decide) rfl rfl rfl ?_; exact h'0.out) : G := h ⟨k⟩
theorem Zo6 {G G' : Prop} (k : G') (h : Hid G' → G := by intro h'0; refine aqn0 (g := 146) 15 rfl (by decide +kernel) (by decide) rfl rfl rfl ?_; exact h'0.out) : G := h ⟨k⟩
theorem Zo7 {G G' : Prop} (k : G') (h : Hid G' → G := by intro h'0; refine aqn0 (g := 146) 16 rfl (by decide +kernel) (by decide) rfl rfl rfl ?_; exact h'0.out) : G := h ⟨k⟩
theorem Zo8 {G G' : Prop} (k : G') (h : Hid G' → G := by intro h'0; refine aqn0 (g := 146) 17 rfl (by decide +kernel) (by decide) rfl rfl rfl ?_; exact h'0.out) : G := h ⟨k⟩
theorem Zo9 {G G' : Prop} (k : G') (h : Hid G' → G := by intro h'0; refine aqn0 (g := 146) 18 rfl (by decide +kernel) (by decide) rfl rfl rfl ?_; exact h'0.out) : G := h ⟨k⟩
theorem Zoa {G G' : Prop} (k : G') (h : Hid G' → G := by intro h'0; refine aqn0 (g := 146) 19 rfl (by decide +kernel) (by decide) rfl rfl rfl ?_; exact h'0.out) : G := h ⟨k⟩
theorem Zob {G G' : Prop} (k : G') (h : Hid G' → G := by intro h'0; refine Z5k ?_; refine Z7k ?_; exact h'0.out) : G := h ⟨k⟩
theorem Zoc {G G' : Prop} (k : G') (h : Hid G' → G := by intro h'0; refine ao_y1 rfl rfl (by decide) (o_add (r := ((i.jobs.length + 1 : Nat) : Int)) rfl rfl (by rw [List.length_map, show ((i.jobs.length : Nat) : Int) + 1 = ((i.jobs.length + 1 : Nat) : Int) by omega]; exact wrap64_ok (by omega) (by omega))) ?_; exact h'0.out) : G := h ⟨k⟩
theorem Zod {G G' : Prop} (k : G') (h : Hid G' → G := by intro h'0; refine ao_y1 rfl rfl (by decide) (o_bne rfl rfl) ?_; exact h'0.out) : G := h ⟨k⟩
theorem Zoe {G : Prop} (h : G := by exact ao_nil (Out.mk (by (refine congrArg AV.bool ?_; (clear hB hr f1 f2 f3 f4 f5 f6 t t2 t3 hll hw hids hri hgr ha hal; simp only [List.length_map] at *; grind))) (by repeat (first | exact SubX.refl _ _ | refine SubX.at ?_ | refine SubX.put rfl ?_)))) : G := h
theorem Zof {G : Prop} (h : G := by exact ao_nil (Out.mk (by (refine congrArg AV.bool ?_; (clear hB hr f1 f2 f3 f4 f5 f6 t t2 t3 hll hw hids hri hgr ha hal; simp only [List.length_map] at *; (simp_all; done)))) (by repeat (first | exact SubX.refl _ _ | refine SubX.at ?_ | refine SubX.put rfl ?_)))) : G := h
theorem Zog {G : Prop} (h : G := by refine Zm ?_; exact Zu) : G := h
theorem Zoh {G G' : Prop} (k : G') (h : Hid G' → G := by intro h'0; refine aat rfl (by rintro _ ⟨⟩; decide) (o_allocL (sz := 13) rfl (by decide) rfl) ?_; exact h'0.out) : G := h ⟨k⟩
theorem Zoi {G G' : Prop} (k : G') (h : Hid G' → G := by intro h'0; refine aqs 11 rfl (by decide +kernel) (by exact fun _ => ⟨_, rfl⟩) (by rintro _ ⟨⟩; decide) (o_allocL (sz := 13) rfl (by decide) rfl) ?_; exact h'0.out) : G := h ⟨k⟩
theorem Zoj {G G' : Prop} (k : G') (h : Hid G' → G := by intro h'0; refine aqs 12 rfl (by decide +kernel) (by exact fun _ => ⟨_, rfl⟩) (by rintro _ ⟨⟩) (w_storeW (sz := 13) rfl rfl rfl rfl rfl rfl rfl rfl (Nat.le_of_ble_eq_true rfl)) ?_; exact h'0.out) : G := h ⟨k⟩
theorem Zok {G G' : Prop} (k : G') (h : Hid G' → G := by intro h'0; refine aqs 13 rfl (by decide +kernel) (by exact fun _ => ⟨_, rfl⟩) (by rintro _ ⟨⟩) (w_storeW (sz := 13) rfl rfl rfl rfl rfl rfl rfl rfl (Nat.le_of_ble_eq_true rfl)) ?_; exact h'0.out) : G := h ⟨k⟩
theorem Zol {G G' : Prop} (k : G') (h : Hid G' → G := by intro h'0; (try dsimp only [put, List.cons_append, List.nil_append, List.length_cons, List.length_nil, Nat.reduceAdd, List.set_cons_zero, List.set_cons_succ]); exact h'0.out) : G := h ⟨k⟩
theorem Zom {G G' : Prop} (k : G') (h : Hid G' → G := by intro h'0; refine ao1 (by decide) (w_fieldAddr rfl (lkF hF1) rfl (by decide)) ?_; exact h'0.out) : G := h ⟨k⟩
theorem Zon {G G' : Prop} (k : G') (h : Hid G' → G := by intro h'0; refine ao1 (by decide) (w_load1 (v := .int _ _) rfl (lkF hF1) rfl rfl rfl) ?_; exact h'0.out) : G := h ⟨k⟩
theorem Zoo {G : Prop} (h : G := by exact ao_nil (Out.mk (by (refine congrArg AV.bool ?_; (clear hB hF hF1 hr1 hr2 hM f5 f6 hgn hgi hri hw hpre; (simp_all; done)))) (by repeat (first | exact SubX.refl _ _ | refine SubX.at ?_ | refine SubX.put rfl ?_)))) : G := h
theorem Zop {G G' : Prop} (k : G') (h : Hid G' → G := by intro h'0; refine ao_y1 rfl rfl (by decide) (w_fieldAddr rfl (lkF hF1) rfl (by decide)) ?_; exact h'0.out) : G := h ⟨k⟩
theorem Zoq {G G' : Prop} (k : G') (h : Hid G' → G := by intro h'0; refine ao_y1 rfl rfl (by decide) (w_load1 (v := .int _ _) rfl (lkF hF) rfl rfl rfl) ?_; exact h'0.out) : G := h ⟨k⟩
theorem Zor {G G' : Prop} (k : G') (h : Hid G' → G := by intro h'0; refine Zop ?_; refine ao_y1 rfl rfl (by decide) (w_load1 (v := .int _ _) rfl (lkF hF1) rfl rfl rfl) ?_; exact h'0.out) : G := h ⟨k⟩
theorem Zos {G : Prop} (h : G := by exact ao_nil (Out.mk (by (refine congrArg AV.bool ?_; (clear hB hF hF1 hr1 hr2 hM hgn hgi hri hw hpre f1 f2 f3 f4 je; (simp_all; omega)))) (by repeat (first | exact SubX.refl _ _ | refine SubX.at ?_ | refine SubX.put rfl ?_)))) : G := h
theorem Zot {G G' : Prop} (k : G') (h : Hid G' → G := by intro h'0; refine ao_y1 rfl rfl (by decide) (o_sub (r := y.to - y.frm) rfl rfl (wrap64_ok (by omega) (by omega))) ?_; exact h'0.out) : G := h ⟨k⟩
theorem Zou {G : Prop} (h : G := by exact ao_nil (Out.mk (by (refine congrArg AV.bool ?_; (clear hB hF hF1 hr1 hr2 hM hgn hgi hri hw hpre f1 f2 f3 f4 je; (simp_all; done)))) (by repeat (first | exact SubX.refl _ _ | refine SubX.at ?_ | refine SubX.put rfl ?_)))) : G := h
theorem Zov {G : Prop} (h : G := by exact ao_nil (Out.mk (by (refine congrArg AV.bool ?_; (clear hB hus hgn hgi hri hw; (simp_all; done)))) (by repeat (first | exact SubX.refl _ _ | refine SubX.at ?_ | refine SubX.put rfl ?_)))) : G := h
theorem Zow {G G' : Prop} (k : G') (h : Hid G' → G := by intro h'0; refine ao_y rfl rfl (by decide) (V2.call (inst_Right n _ hri.iw) rfl) ?_; exact h'0.out) : G := h ⟨k⟩
theorem Zox {G : Prop} (h : G := by exact ao_nil (Out.mk (by (refine congrArg AV.bool ?_; (clear hB hr hgn hgi hri hw hus; (simp_all; done)))) (by repeat (first | exact SubX.refl _ _ | refine SubX.at ?_ | refine SubX.put rfl ?_)))) : G := h
theorem Zoy {G : Prop} (h : G := by exact ao_nil (Out.mk (by (refine congrArg AV.bool ?_; (clear hB hnd hr hgn hgi hri hw hus; (simp_all; done)))) (by repeat (first | exact SubX.refl _ _ | refine SubX.at ?_ | refine SubX.put rfl ?_)))) : G := h
theorem Zoz {G G' : Prop} (k : G') (h : Hid G' → G := by intro h'0; refine aqp 3 rfl (by decide +kernel) (by decide) (fun G => w_load1 (v := .pl _) rfl (lk rfl rfl) rfl rfl rfl) ?_; exact h'0.out) : G := h ⟨k⟩
theorem Zp0 {G : Prop} (h : G := by exact ao_nil (Out.mk (by (refine congrArg AV.bool ?_; (clear hB hnd hr hr2 hgn hgi hri hw hus; (simp_all; done)))) (by repeat (first | exact SubX.refl _ _ | refine SubX.at ?_ | refine SubX.put rfl ?_)))) : G := h
end Go.Av
