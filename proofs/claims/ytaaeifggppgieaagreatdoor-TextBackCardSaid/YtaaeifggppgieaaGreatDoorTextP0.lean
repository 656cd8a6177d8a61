/- Steps of walks: each a theorem whose last argument is a tactic. -/
import Derived.KernelRfl
namespace Go.Av
variable {p : Prop}
theorem Y10 (h:p:=by simp [KS]):p:=h
theorem Yy (h:p:=by assumption):p:=h
theorem Yz (h:p:=by kernel_rfl):p:=h
theorem Yw (h:p:=by rintro _ ⟨⟩):p:=h
theorem Yx (h:p:=by simp;omega):p:=h
theorem Yv (h:p:=by (simp;done)):p:=h
theorem Yu (h:p:=by (simp;omega)):p:=h
theorem Ys (h:p:=by decide +kernel):p:=h
theorem Yt (h:p:=by simpa using hc):p:=h
theorem Yq (h:p:=by rintro _ ⟨⟩;decide):p:=h
theorem Yr (h:p:=by rw [q4o];omega):p:=h
theorem Yo (h:p:=by rintro _ ⟨⟩;exact hd):p:=h
theorem Yp (h:p:=by rw [q1w];exact h):p:=h
theorem Ym (h:p:=by exact fun _=>⟨_,rfl⟩):p:=h
theorem Yn (h:p:=by rw [h0] at hr;cases hr):p:=h
theorem Yl (h:p:=by rw [qf8 _ _ hai];exact ha):p:=h
theorem Yi (h:p:=by exact fun _=>⟨_,rfl,rfl⟩):p:=h
theorem Yj (h:p:=by rw [IntKind.wrap_u64];omega):p:=h
theorem Yk (h:p:=by rw [List.length_drop];omega):p:=h
theorem Yg (h:p:=by rw [q8g (by omega)];rfl):p:=h
theorem Yh (h:p:=by rw [List.take_length];exact hd):p:=h
theorem Ye (h:p:=by rw [ok.gen];exact Nat.le_refl _):p:=h
theorem Yf (h:p:=by first | rfl | (simp [get];done)):p:=h
theorem Yd (h:p:=by rw [q1h];exact Nat.le_refl _):p:=h
theorem Yc (h:p:=by rw [e];exact List.mem_cons_self ..):p:=h
theorem Yb (h:p:=by simpa [List.filterMap_cons] using h1):p:=h
theorem Ya (h:p:=by intro r hr;simp at hr;subst hr;rfl):p:=h
theorem Y9 (h:p:=by rw [List.drop_zero,← hn,List.take_length]):p:=h
theorem Y8 (h:p:=by rw [List.length_take,List.length_drop];omega):p:=h
theorem Y6 (h:p:=by rw [← hv.1];exact (List.getElem?_eq_some_iff.1 hj).1):p:=h
theorem Y7 (h:p:=by rw [List.drop_zero,List.take_of_length_le (by simp)]):p:=h
theorem Y5 (h:p:=by repeat (first | exact SubX.refl _ _ | refine SubX.at ?_ | refine SubX.put rfl ?_)):p:=h
theorem Y4 (h:p:=by first | rfl | (simp [AV.bel,AV.bels,Lid];done) | (simp [AV.bel,AV.bels,Lid];omega)):p:=h
theorem Y3 (h:p:=by repeat (first | exact Sub.nil | refine Sub.cons Yf ?_)):p:=h
theorem Y2 (h:p:=by rw [show (k:Int)+1=((k+1:Nat):Int) by omega];exact qb (by omega) (by omega)):p:=h
theorem Y1 (h:p:=by repeat (first | exact EBel.nil | refine EBel.cons Y4 ?_)):p:=h
structure Hid (p : Prop) : Prop where
 o:p
variable {G G' : Prop}
theorem Z1 (k:G') (h:Hid G'→G:=by intro x';(repeat (first | refine q94 ?_ | refine q9x ?_ | refine q6s ?_ | refine qcn ?_ | refine q9g ?_ | refine qcg ?_ | refine q9n rfl ?_ | refine qa1 ?_ | refine qcl ?_ | refine qas ?_ | refine qda ?_ | refine qbn ?_ | refine qbv ?_ | refine q98 ?_ | refine q4m ?_));exact x'.o):G:=h ⟨k⟩
theorem Z2 (k:G') (h:Hid G'→G:=by intro x';refine Z1 ?_;refine qi ?_;exact x'.o):G:=h ⟨k⟩
theorem Z3 (k:G') (h:Hid G'→G:=by intro x';refine ao1 (by decide) (qn (v:=.int _ _) rfl) ?_;exact x'.o):G:=h ⟨k⟩
theorem Z4 (k:G') (h:Hid G'→G:=by intro x';refine Z3 ?_;refine qc ?_;exact x'.o):G:=h ⟨k⟩
theorem Z5 (k:G') (h:Hid G'→G:=by intro x';refine Z2 ?_;refine Z4 ?_;exact x'.o):G:=h ⟨k⟩
theorem Z6 (k:G') (h:Hid G'→G:=by intro x';refine ao1 (by decide) (qf (v:=.str _) rfl) ?_;exact x'.o):G:=h ⟨k⟩
theorem Z7 (k:G') (h:Hid G'→G:=by intro x';refine Z2 ?_;refine Z6 ?_;exact x'.o):G:=h ⟨k⟩
theorem Z8 (k:G') (h:Hid G'→G:=by intro x';refine ao1 (by decide) (qf (v:=.int _ _) rfl) ?_;exact x'.o):G:=h ⟨k⟩
theorem Z9 (k:G') (h:Hid G'→G:=by intro x';refine Z7 ?_;refine Z8 ?_;exact x'.o):G:=h ⟨k⟩
theorem Za (k:G') (h:Hid G'→G:=by intro x';refine qc ?_;refine Z1 ?_;exact x'.o):G:=h ⟨k⟩
theorem Zb (k:G') (h:Hid G'→G:=by intro x';refine Z3 ?_;refine Za ?_;exact x'.o):G:=h ⟨k⟩
theorem Zc (h:G:=by exact q8o hB (q56 rfl .nil) rfl rfl):G:=h
theorem Zd (h:G:=by refine Zb ?_;exact Zc):G:=h
theorem Ze (k:G') (h:Hid G'→G:=by intro x';refine ao1 (by decide) (qn (v:=.bool _) rfl) ?_;exact x'.o):G:=h ⟨k⟩
theorem Zf (k:G') (h:Hid G'→G:=by intro x';refine Ze ?_;refine Za ?_;exact x'.o):G:=h ⟨k⟩
theorem Zg (k:G') (h:Hid G'→G:=by intro x';refine Z2 ?_;refine Zf ?_;exact x'.o):G:=h ⟨k⟩
theorem Zh (k:G') (h:Hid G'→G:=by intro x';refine ao1 (by decide) (qn8 rfl rfl) ?_;exact x'.o):G:=h ⟨k⟩
theorem Zi (k:G') (h:Hid G'→G:=by intro x';refine ao1 (by decide) (qf (v:=.bool _) rfl) ?_;exact x'.o):G:=h ⟨k⟩
theorem Zj (k:G') (h:Hid G'→G:=by intro x';refine q12 rfl rfl (by decide) (qf (v:=.int _ _) rfl) ?_;exact x'.o):G:=h ⟨k⟩
theorem Zk (k:G') (h:Hid G'→G:=by intro x';refine q12 rfl rfl (by decide) (qmj rfl rfl) ?_;exact x'.o):G:=h ⟨k⟩
theorem Zl (k:G') (h:Hid G'→G:=by intro x';refine Zj ?_;refine Zk ?_;exact x'.o):G:=h ⟨k⟩
theorem Zm (k:G') (h:Hid G'→G:=by intro x';refine ao1 (by decide) (q43 (v:=.bool _) rfl rfl) ?_;exact x'.o):G:=h ⟨k⟩
theorem Zn (k:G') (h:Hid G'→G:=by intro x';refine Zm ?_;refine Ze ?_;exact x'.o):G:=h ⟨k⟩
theorem Zo (h:G:=by exact qc (Out.mk (by (refine congrArg AV.bool ?_;(refine Bool.eq_iff_iff.mpr ?_;simp only [Bool.and_eq_true,Bool.or_eq_true,Bool.not_eq_true',decide_eq_true_eq,decide_eq_false_iff_not,beq_iff_eq,bne_iff_ne,beq_eq_false_iff_ne,Bool.false_eq_true,Bool.true_eq_false,Bool.and_eq_false_iff,Bool.or_eq_false_iff,List.length_map,false_iff,true_iff,iff_true,iff_false] at *;omega))) Y5)):G:=h
theorem Zp (k:G') (h:Hid G'→G:=by intro x';refine qmm rfl rfl (by decide) ?_;exact x'.o):G:=h ⟨k⟩
theorem Zq (k:G') (h:Hid G'→G:=by intro x';refine Zp ?_;refine Zp ?_;exact x'.o):G:=h ⟨k⟩
theorem Zr (k:G') (h:Hid G'→G:=by intro x';refine ao1 (by decide) (q40 (v:=.bool _) rfl rfl) ?_;exact x'.o):G:=h ⟨k⟩
theorem Zs (k:G') (h:Hid G'→G:=by intro x';refine Zr ?_;refine Ze ?_;exact x'.o):G:=h ⟨k⟩
theorem Zt (k:G') (h:Hid G'→G:=by intro x';refine Zq ?_;refine Zs ?_;exact x'.o):G:=h ⟨k⟩
theorem Zu (k:G') (h:Hid G'→G:=by intro x';refine ao1 (by decide) (qmj rfl rfl) ?_;exact x'.o):G:=h ⟨k⟩
theorem Zv (k:G') (h:Hid G'→G:=by intro x';refine q12 rfl rfl (by decide) (qn8 rfl rfl) ?_;exact x'.o):G:=h ⟨k⟩
theorem Zw (k:G') (h:Hid G'→G:=by intro x';refine Zv ?_;refine Zn ?_;exact x'.o):G:=h ⟨k⟩
theorem Zx (h:G:=by exact qc (Out.mk (by rfl) Y5)):G:=h
theorem Zy (k:G') (h:Hid G'→G:=by intro x';refine Z2 ?_;refine Z8 ?_;exact x'.o):G:=h ⟨k⟩
theorem Zz (k:G') (h:Hid G'→G:=by intro x';refine ao1 (by decide) (qmd rfl rfl) ?_;exact x'.o):G:=h ⟨k⟩
theorem Z10 (k:G') (h:Hid G'→G:=by intro x';refine Zz ?_;refine Zf ?_;exact x'.o):G:=h ⟨k⟩
theorem Z11 (k:G') (h:Hid G'→G:=by intro x';refine ao1 (by decide) (q1a (v:=.int _ _) rfl rfl) ?_;exact x'.o):G:=h ⟨k⟩
theorem Z12 (k:G') (h:Hid G'→G:=by intro x';refine Z3 ?_;refine Z4 ?_;exact x'.o):G:=h ⟨k⟩
theorem Z13 (k:G') (h:Hid G'→G:=by intro x';refine Zy ?_;refine Zz ?_;exact x'.o):G:=h ⟨k⟩
theorem Z14 (k:G') (h:Hid G'→G:=by intro x';refine Z13 ?_;refine Za ?_;exact x'.o):G:=h ⟨k⟩
theorem Z15 (h:G:=by refine Z2 ?_;exact Zd):G:=h
theorem Z16 (k:G') (h:Hid G'→G:=by intro x';refine ao1 (by decide) (qfx rfl) ?_;exact x'.o):G:=h ⟨k⟩
theorem Z17 (k:G') (h:Hid G'→G:=by intro x';refine ao1 (by decide) (qn (v:=.str _) rfl) ?_;exact x'.o):G:=h ⟨k⟩
theorem Z18 (k:G') (h:Hid G'→G:=by intro x';refine Z17 ?_;refine qc ?_;exact x'.o):G:=h ⟨k⟩
theorem Z19 (k:G') (h:Hid G'→G:=by intro x';refine ao1 (by decide) (qe2 rfl) ?_;exact x'.o):G:=h ⟨k⟩
theorem Z1a (k:G') (h:Hid G'→G:=by intro x';(repeat (first | refine q94 ?_ | refine q9x ?_ | refine q6s ?_ | refine qcn ?_ | refine q9g ?_ | refine qcg ?_ | refine q9n rfl ?_ | refine qa1 ?_ | refine qcl ?_ | refine qas ?_ | refine qda ?_ | refine qbn ?_ | refine qbv ?_ | refine q98 ?_));exact x'.o):G:=h ⟨k⟩
theorem Z1b (k:G') (h:Hid G'→G:=by intro x';refine Zu ?_;refine Za ?_;exact x'.o):G:=h ⟨k⟩
theorem Z1c (k:G') (h:Hid G'→G:=by intro x';refine q5f mixed none 999 ?_;exact x'.o):G:=h ⟨k⟩
theorem Z1d (k:G') (h:Hid G'→G:=by intro x';refine Z1 ?_;refine Z1c ?_;exact x'.o):G:=h ⟨k⟩
theorem Z1e (k:G') (h:Hid G'→G:=by intro x';refine aq0 0 rfl Ys (by decide) (fun _=>qf (v:=.str _) rfl) ?_;exact x'.o):G:=h ⟨k⟩
theorem Z1f (k:G') (h:Hid G'→G:=by intro x';refine aq0 1 rfl Ys (by decide) (fun _=>qf (v:=.int _ _) rfl) ?_;exact x'.o):G:=h ⟨k⟩
theorem Z1g (k:G') (h:Hid G'→G:=by intro x';refine aq0 3 rfl Ys (by decide) (fun _=>qf (v:=.str _) rfl) ?_;exact x'.o):G:=h ⟨k⟩
theorem Z1h (k:G') (h:Hid G'→G:=by intro x';refine aq0 4 rfl Ys (by decide) (fun _=>qf (v:=.int _ _) rfl) ?_;exact x'.o):G:=h ⟨k⟩
theorem Z1i (k:G') (h:Hid G'→G:=by intro x';refine q5q Ys Ym ?_;exact x'.o):G:=h ⟨k⟩
theorem Z1j (k:G') (h:Hid G'→G:=by intro x';refine aq0 4 rfl Ys (by decide) (fun _=>qf (v:=.str _) rfl) ?_;exact x'.o):G:=h ⟨k⟩
theorem Z1k (k:G') (h:Hid G'→G:=by intro x';refine aq0 5 rfl Ys (by decide) (fun _=>qf (v:=.int _ _) rfl) ?_;exact x'.o):G:=h ⟨k⟩
theorem Z1l (k:G') (h:Hid G'→G:=by intro x';refine Zy ?_;refine Z1b ?_;exact x'.o):G:=h ⟨k⟩
theorem Z1m (k:G') (h:Hid G'→G:=by intro x';refine Ze ?_;refine qc ?_;exact x'.o):G:=h ⟨k⟩
theorem Z1n (k:G') (h:Hid G'→G:=by intro x';refine Z2 ?_;refine Z1m ?_;exact x'.o):G:=h ⟨k⟩
theorem Z1o (k:G') (h:Hid G'→G:=by intro x';refine ao1 (by decide) (qn0 rfl rfl) ?_;exact x'.o):G:=h ⟨k⟩
theorem Z1p (k:G') (h:Hid G'→G:=by intro x';refine ao1 (by decide) (qf (v:=.fn _ _ _) rfl) ?_;exact x'.o):G:=h ⟨k⟩
theorem Z1q (k:G') (h:Hid G'→G:=by intro x';refine q12 rfl rfl (by decide) (qf (v:=.str _) rfl) ?_;exact x'.o):G:=h ⟨k⟩
theorem Z1r (k:G') (h:Hid G'→G:=by intro x';refine q12 rfl rfl (by decide) (qfx rfl) ?_;exact x'.o):G:=h ⟨k⟩
theorem Z1s (h:G:=by exact qc (Out.mk (by (refine congrArg AV.bool ?_;(simp_all;done))) Y5)):G:=h
theorem Z1t (k:G') (h:Hid G'→G:=by intro x';refine Zq ?_;refine Zp ?_;exact x'.o):G:=h ⟨k⟩
theorem Z1u (k:G') (h:Hid G'→G:=by intro x';refine Z1t ?_;refine Zs ?_;exact x'.o):G:=h ⟨k⟩
theorem Z1v (h:G:=by refine Z1 ?_;exact Zc):G:=h
theorem Z1w (k:G') (h:Hid G'→G:=by intro x';refine Z8 ?_;refine Z8 ?_;exact x'.o):G:=h ⟨k⟩
theorem Z1x (k:G') (h:Hid G'→G:=by intro x';refine Z1o ?_;refine Zi ?_;exact x'.o):G:=h ⟨k⟩
theorem Z1y (k:G') (h:Hid G'→G:=by intro x';refine ao2 Yq (qiy (sz:=7) (v:=.agg _) rfl rfl rfl rfl (by decide) rfl) ?_;exact x'.o):G:=h ⟨k⟩
theorem Z1z (k:G') (h:Hid G'→G:=by intro x';(try dsimp only [List.length_nil,put,AV.cells,List.nil_append]);exact x'.o):G:=h ⟨k⟩
theorem Z20 (k:G') (h:Hid G'→G:=by intro x';refine ao1 (by decide) (qg rfl (lk rfl rfl) rfl (by decide)) ?_;exact x'.o):G:=h ⟨k⟩
theorem Z21 (k:G') (h:Hid G'→G:=by intro x';refine ao1 (by decide) (qp (v:=.int _ _) rfl (lk rfl rfl) rfl rfl rfl) ?_;exact x'.o):G:=h ⟨k⟩
theorem Z22 (k:G') (h:Hid G'→G:=by intro x';refine Z20 ?_;refine Z21 ?_;exact x'.o):G:=h ⟨k⟩
theorem Z23 (k:G') (h:Hid G'→G:=by intro x';refine q12 rfl rfl (by decide) (qg rfl (lk rfl rfl) rfl (by decide)) ?_;exact x'.o):G:=h ⟨k⟩
theorem Z24 (k:G') (h:Hid G'→G:=by intro x';refine Z23 ?_;refine q12 rfl rfl (by decide) (qp (v:=.int _ _) rfl (lk rfl rfl) rfl rfl rfl) ?_;exact x'.o):G:=h ⟨k⟩
theorem Z25 (k:G') (h:Hid G'→G:=by intro x';refine qip rfl rfl (by decide) (V2.call (q71 _ _ _ _) rfl) ?_;exact x'.o):G:=h ⟨k⟩
theorem Z26 (k:G') (h:Hid G'→G:=by intro x';refine Zm ?_;refine Zi ?_;exact x'.o):G:=h ⟨k⟩
theorem Z27 (h:G:=by exact qc (Out.mk (by (refine congrArg AV.bool ?_;(simp only [qfu] at *;(simp_all;omega)))) Y5)):G:=h
theorem Z28 (k:G') (h:Hid G'→G:=by intro x';refine Zr ?_;refine Zi ?_;exact x'.o):G:=h ⟨k⟩
theorem Z29 (k:G') (h:Hid G'→G:=by intro x';refine ao1 (by decide) (qp (v:=.bool _) rfl (lk rfl rfl) rfl rfl rfl) ?_;exact x'.o):G:=h ⟨k⟩
theorem Z2a (k:G') (h:Hid G'→G:=by intro x';refine qmn rfl rfl (by decide) ?_;exact x'.o):G:=h ⟨k⟩
theorem Z2b (k:G') (h:Hid G'→G:=by intro x';refine Z2a ?_;refine Z2a ?_;exact x'.o):G:=h ⟨k⟩
theorem Z2c (k:G') (h:Hid G'→G:=by intro x';refine Z26 ?_;refine Z2b ?_;exact x'.o):G:=h ⟨k⟩
theorem Z2d (k:G') (h:Hid G'→G:=by intro x';refine Z2a ?_;refine Z2c ?_;exact x'.o):G:=h ⟨k⟩
theorem Z2e (h:G:=by exact qc (Out.mk (by (refine congrArg AV.bool ?_;(simp only [qho] at *;(simp_all;done)))) Y5)):G:=h
theorem Z2f (k:G') (h:Hid G'→G:=by intro x';refine q12 rfl rfl (by decide) (qmw rfl rfl) ?_;exact x'.o):G:=h ⟨k⟩
theorem Z2g (h:G:=by exact qc (Out.mk (by (refine congrArg AV.bool ?_;(simp only [qq] at *;(simp_all;done)))) Y5)):G:=h
theorem Z2h (k:G') (h:Hid G'→G:=by intro x';refine Z28 ?_;refine Z1t ?_;exact x'.o):G:=h ⟨k⟩
theorem Z2i (k:G') (h:Hid G'→G:=by intro x';refine ao2 Yq (q52 (sz:=4) rfl (by decide) rfl) ?_;exact x'.o):G:=h ⟨k⟩
theorem Z2j (k:G') (h:Hid G'→G:=by intro x';(try dsimp only [List.length_nil,put,List.nil_append]);exact x'.o):G:=h ⟨k⟩
theorem Z2k (k:G') (h:Hid G'→G:=by intro x';refine ao1 (by decide) (qf (v:=.pl _) rfl) ?_;exact x'.o):G:=h ⟨k⟩
theorem Z2l (k:G') (h:Hid G'→G:=by intro x';refine Z2 ?_;refine Z2k ?_;exact x'.o):G:=h ⟨k⟩
theorem Z2m (k:G') (h:Hid G'→G:=by intro x';refine ao1 (by decide) (qdu rfl) ?_;exact x'.o):G:=h ⟨k⟩
theorem Z2n (k:G') (h:Hid G'→G:=by intro x';refine Z2m ?_;refine Z8 ?_;exact x'.o):G:=h ⟨k⟩
theorem Z2o (k:G') (h:Hid G'→G:=by intro x';refine Z2n ?_;refine qc ?_;exact x'.o):G:=h ⟨k⟩
theorem Z2p (k:G') (h:Hid G'→G:=by intro x';refine Z2 ?_;refine Z1b ?_;exact x'.o):G:=h ⟨k⟩
theorem Z2q (k:G') (h:Hid G'→G:=by intro x';refine ao1 (by decide) (qx rfl rfl hr rfl) ?_;exact x'.o):G:=h ⟨k⟩
theorem Z2r (k:G') (h:Hid G'→G:=by intro x';refine Z2 ?_;refine Z2q ?_;exact x'.o):G:=h ⟨k⟩
theorem Z2s (k:G') (h:Hid G'→G:=by intro x';refine ao1 (by decide) (q21 (v:=.int _ _) rfl hr rfl) ?_;exact x'.o):G:=h ⟨k⟩
theorem Z2t (k:G') (h:Hid G'→G:=by intro x';refine q12 rfl rfl (by decide) (qn0 rfl rfl) ?_;exact x'.o):G:=h ⟨k⟩
theorem Z2u (k:G') (h:Hid G'→G:=by intro x';refine ao1 (by decide) (q5v rfl (lk rfl rfl) rfl rfl rfl) ?_;exact x'.o):G:=h ⟨k⟩
theorem Z2v (k:G') (h:Hid G'→G:=by intro x';refine Z2 ?_;refine Z2u ?_;exact x'.o):G:=h ⟨k⟩
theorem Z2w (k:G') (h:Hid G'→G:=by intro x';refine ao2 Yw (q4a (sz:=4) rfl rfl rfl rfl rfl rfl (qgo _) rfl (Nat.le_of_ble_eq_true rfl)) ?_;exact x'.o):G:=h ⟨k⟩
theorem Z2x (k:G') (h:Hid G'→G:=by intro x';(try dsimp only [put,List.set_cons_zero]);exact x'.o):G:=h ⟨k⟩
theorem Z2y (h:G:=by exact q8o hB (qbw rfl (lk rfl rfl) rfl rfl (qgo _) (q56 rfl .nil)) rfl (by simp [AV.bel,AV.bels,qi2])):G:=h
theorem Z2z (k:G') (h:Hid G'→G:=by intro x';refine aq0 0 rfl Ys (by decide) (fun _=>qf (v:=.int _ _) rfl) ?_;exact x'.o):G:=h ⟨k⟩
theorem Z30 (k:G') (h:Hid G'→G:=by intro x';refine q5q Ys (by exact qhs Ys) ?_;exact x'.o):G:=h ⟨k⟩
theorem Z31 (k:G') (h:Hid G'→G:=by intro x';refine ao1 (by decide) (q24 rfl rfl (qb (by omega) (by omega))) ?_;exact x'.o):G:=h ⟨k⟩
theorem Z32 (k:G') (h:Hid G'→G:=by intro x';refine Z8 ?_;refine Za ?_;exact x'.o):G:=h ⟨k⟩
theorem Z33 (k:G') (h:Hid G'→G:=by intro x';refine ao1 (by decide) (qf (v:=.tup _) rfl) ?_;exact x'.o):G:=h ⟨k⟩
theorem Z34 (k:G') (h:Hid G'→G:=by intro x';refine Z33 ?_;refine ao1 (by decide) (q1a (v:=.agg _) rfl rfl) ?_;exact x'.o):G:=h ⟨k⟩
theorem Z35 (k:G') (h:Hid G'→G:=by intro x';refine ao1 (by decide) (q1a (v:=.bool _) rfl rfl) ?_;exact x'.o):G:=h ⟨k⟩
theorem Z36 (k:G') (h:Hid G'→G:=by intro x';refine Z2k ?_;refine Z2m ?_;exact x'.o):G:=h ⟨k⟩
theorem Z37 (k:G') (h:Hid G'→G:=by intro x';refine ao1 (by decide) (qjq rfl rfl) ?_;exact x'.o):G:=h ⟨k⟩
theorem Z38 (h:G:=by refine Zg ?_;exact Zc):G:=h
theorem Z39 (k:G') (h:Hid G'→G:=by intro x';refine aq0 0 rfl Ys (by decide) (fun _=>qf (v:=.pl _) rfl) ?_;exact x'.o):G:=h ⟨k⟩
theorem Z3a (k:G') (h:Hid G'→G:=by intro x';refine aqp 2 rfl Ys (by decide) (fun G=>qx rfl rfl hr rfl) ?_;exact x'.o):G:=h ⟨k⟩
theorem Z3b (k:G') (h:Hid G'→G:=by intro x';refine aq0 4 rfl Ys (by decide) (fun _=>qf (v:=.pl _) rfl) ?_;exact x'.o):G:=h ⟨k⟩
theorem Z3c (k:G') (h:Hid G'→G:=by intro x';refine aqp 6 rfl Ys (by decide) (fun G=>qx rfl rfl hr1 rfl) ?_;exact x'.o):G:=h ⟨k⟩
theorem Z3d (k:G') (h:Hid G'→G:=by intro x';refine ao1 (by decide) (qn (v:=.nsl) rfl) ?_;exact x'.o):G:=h ⟨k⟩
theorem Z3e (k:G') (h:Hid G'→G:=by intro x';refine Z2 ?_;refine Z3d ?_;exact x'.o):G:=h ⟨k⟩
theorem Z3f (k:G') (h:Hid G'→G:=by intro x';refine Z3e ?_;refine qc ?_;exact x'.o):G:=h ⟨k⟩
theorem Z3g (k:G') (h:Hid G'→G:=by intro x';refine Z3f ?_;refine Z1a ?_;exact x'.o):G:=h ⟨k⟩
theorem Z3h (k:G') (h:Hid G'→G:=by intro x';refine Zy ?_;refine Z1o ?_;exact x'.o):G:=h ⟨k⟩
theorem Z3i (k:G') (h:Hid G'→G:=by intro x';refine ao1 (by decide) (qf (v:=.sl _ _ _ _ _) rfl) ?_;exact x'.o):G:=h ⟨k⟩
theorem Z3j (k:G') (h:Hid G'→G:=by intro x';refine Z2 ?_;refine Z3i ?_;exact x'.o):G:=h ⟨k⟩
theorem Z3k (k:G') (h:Hid G'→G:=by intro x';refine Z3j ?_;refine Z8 ?_;exact x'.o):G:=h ⟨k⟩
theorem Z3l (k:G') (h:Hid G'→G:=by intro x';refine ao1 (by decide) (qn (v:=.sl _ _ _ _ _) rfl) ?_;exact x'.o):G:=h ⟨k⟩
theorem Z3m (k:G') (h:Hid G'→G:=by intro x';refine Z3l ?_;refine qc ?_;exact x'.o):G:=h ⟨k⟩
theorem Z3n (k:G') (h:Hid G'→G:=by intro x';(try dsimp only [List.length_cons,List.length_nil,Nat.reduceAdd,AV.cells,put]);exact x'.o):G:=h ⟨k⟩
theorem Z3o (k:G') (h:Hid G'→G:=by intro x';refine ao1 (by decide) (qmw rfl rfl) ?_;exact x'.o):G:=h ⟨k⟩
theorem Z3p (k:G') (h:Hid G'→G:=by intro x';refine q12 rfl rfl (by decide) (qf (v:=.pl _) rfl) ?_;exact x'.o):G:=h ⟨k⟩
theorem Z3q (k:G') (h:Hid G'→G:=by intro x';refine q12 rfl rfl (by decide) (qmd rfl rfl) ?_;exact x'.o):G:=h ⟨k⟩
theorem Z3r (h:G:=by exact qc (Out.mk (by (refine congrArg AV.bool ?_;(clear hB hstep hq1 hp;rw [Bool.eq_iff_iff];by_cases h0:0<i<;>simp_all))) Y5)):G:=h
theorem Z3s (k:G') (h:Hid G'→G:=by intro x';refine Zq ?_;refine Zq ?_;exact x'.o):G:=h ⟨k⟩
theorem Z3t (k:G') (h:Hid G'→G:=by intro x';(try dsimp only [List.take_succ_cons,List.take_zero]);exact x'.o):G:=h ⟨k⟩
theorem Z3u (k:G') (h:Hid G'→G:=by intro x';refine aq0 0 rfl Ys (by decide) (fun _=>qf (v:=.sl _ _ _ _ _) rfl) ?_;exact x'.o):G:=h ⟨k⟩
theorem Z3v (k:G') (h:Hid G'→G:=by intro x';refine ao1 (by decide) (q24 (r:=((i+1:Nat):Int)) rfl rfl (qb (by omega) (by omega))) ?_;exact x'.o):G:=h ⟨k⟩
theorem Z3w (k:G') (h:Hid G'→G:=by intro x';refine Z3e ?_;refine Z4 ?_;exact x'.o):G:=h ⟨k⟩
theorem Z3x (k:G') (h:Hid G'→G:=by intro x';refine q10 (qav _ Yy _) rfl (by decide) ?_;exact x'.o):G:=h ⟨k⟩
theorem Z3y (k:G') (h:Hid G'→G:=by intro x';refine Z16 ?_;refine Za ?_;exact x'.o):G:=h ⟨k⟩
theorem Z3z (k:G') (h:Hid G'→G:=by intro x';refine Z1a ?_;refine qdy 2 rfl ?_;exact x'.o):G:=h ⟨k⟩
theorem Z40 (h:G:=by exact q8o hB (q56 rfl (q56 rfl .nil)) rfl rfl):G:=h
theorem Z41 (h:G:=by refine q4m ?_;exact Z40):G:=h
theorem Z42 (h:G:=by refine Z3z ?_;exact Z41):G:=h
theorem Z43 (k:G') (h:Hid G'→G:=by intro x';refine ao1 (by decide) (qn (v:=.pl _) rfl) ?_;exact x'.o):G:=h ⟨k⟩
theorem Z44 (k:G') (h:Hid G'→G:=by intro x';refine ao2 Yq (q20 (sz:=1) (v:=.int _ _) rfl (by decide) (by decide) rfl rfl rfl rfl rfl) ?_;exact x'.o):G:=h ⟨k⟩
theorem Z45 (k:G') (h:Hid G'→G:=by intro x';(try dsimp only [put,List.length_cons,List.length_nil,Nat.reduceAdd,List.cons_append,List.nil_append,List.set_cons_zero,List.set_cons_succ]);exact x'.o):G:=h ⟨k⟩
theorem Z46 (k:G') (h:Hid G'→G:=by intro x';refine q9r mixed none 1 ?_;exact x'.o):G:=h ⟨k⟩
theorem Z47 (k:G') (h:Hid G'→G:=by intro x';refine aqr 2 rfl Ys (by decide) (fun G hG=>qp (v:=.int _ _) rfl (lk rfl hG) rfl rfl rfl) ?_;exact x'.o):G:=h ⟨k⟩
theorem Z48 (k:G') (h:Hid G'→G:=by intro x';refine q5q Ys Yi ?_;exact x'.o):G:=h ⟨k⟩
theorem Z49 (k:G') (h:Hid G'→G:=by intro x';refine ao1 (by decide) (q2g rfl (lk rfl rfl) rfl rfl (by omega) (by omega)) ?_;exact x'.o):G:=h ⟨k⟩
theorem Z4a (k:G') (h:Hid G'→G:=by intro x';refine Z3j ?_;refine Z3l ?_;exact x'.o):G:=h ⟨k⟩
theorem Z4b (k:G') (h:Hid G'→G:=by intro x';refine Z4 ?_;refine Z1a ?_;exact x'.o):G:=h ⟨k⟩
theorem Z4c (k:G') (h:Hid G'→G:=by intro x';refine q10 (c1) rfl (by decide) ?_;exact x'.o):G:=h ⟨k⟩
theorem Z4d (k:G') (h:Hid G'→G:=by intro x';refine q10 (qf6 _ _) rfl (by decide) ?_;exact x'.o):G:=h ⟨k⟩
theorem Z4e (k:G') (h:Hid G'→G:=by intro x';(try dsimp only [List.length_cons,List.length_nil,Nat.reduceAdd,put,AV.cells,List.cons_append,List.nil_append]);exact x'.o):G:=h ⟨k⟩
theorem Z4f (k:G') (h:Hid G'→G:=by intro x';refine Z2 ?_;refine Z22 ?_;exact x'.o):G:=h ⟨k⟩
theorem Z4g (k:G') (h:Hid G'→G:=by intro x';(try dsimp only [List.cons_append,List.nil_append]);exact x'.o):G:=h ⟨k⟩
theorem Z4h (k:G') (h:Hid G'→G:=by intro x';refine ao2 Yq (V2.callo3 (k:=1) (c1 _ (Lid H.length 1) (lk rfl rfl)) rfl rfl) ?_;exact x'.o):G:=h ⟨k⟩
theorem Z4i (k:G') (h:Hid G'→G:=by intro x';refine Z2 ?_;refine ao1 (by decide) (q24 (r:=((k+1:Nat):Int)) rfl rfl (qb (by omega) (by omega))) ?_;exact x'.o):G:=h ⟨k⟩
theorem Z4j (k:G') (h:Hid G'→G:=by intro x';refine Z4i ?_;refine Z32 ?_;exact x'.o):G:=h ⟨k⟩
theorem Z4k (k:G') (h:Hid G'→G:=by intro x';refine q9r mixed none 0 ?_;exact x'.o):G:=h ⟨k⟩
theorem Z4l (k:G') (h:Hid G'→G:=by intro x';refine aqr 1 rfl Ys (by decide) (fun G hG=>qg rfl (lk rfl hG) rfl (by decide)) ?_;exact x'.o):G:=h ⟨k⟩
theorem Z4m (k:G') (h:Hid G'→G:=by intro x';(try dsimp only [Nat.reduceAdd,put,List.set_cons_succ,List.set_cons_zero]);exact x'.o):G:=h ⟨k⟩
theorem Z4n (k:G') (h:Hid G'→G:=by intro x';refine aqr 5 rfl Ys (by decide) (fun G hG=>qg rfl (lk rfl hG) rfl (by decide)) ?_;exact x'.o):G:=h ⟨k⟩
theorem Z4o (k:G') (h:Hid G'→G:=by intro x';refine aqr 6 rfl Ys (by decide) (fun G hG=>qp (v:=.int _ _) rfl (lk rfl hG) rfl rfl rfl) ?_;exact x'.o):G:=h ⟨k⟩
theorem Z4p (k:G') (h:Hid G'→G:=by intro x';refine aq0 8 rfl Ys (by decide) (fun _=>qn (v:=.sl _ _ _ _ _) rfl) ?_;exact x'.o):G:=h ⟨k⟩
theorem Z4q (k:G') (h:Hid G'→G:=by intro x';refine Z2 ?_;refine Z17 ?_;exact x'.o):G:=h ⟨k⟩
theorem Z4r (k:G') (h:Hid G'→G:=by intro x';refine Z7 ?_;refine Z6 ?_;exact x'.o):G:=h ⟨k⟩
theorem Z4s (k:G') (h:Hid G'→G:=by intro x';refine ao2 Yq (V2.call (qeq s 45 _) rfl) ?_;exact x'.o):G:=h ⟨k⟩
theorem Z4t (k:G') (h:Hid G'→G:=by intro x';refine Z4 ?_;(try dsimp only [put]);exact x'.o):G:=h ⟨k⟩
theorem Z4u (k:G') (h:Hid G'→G:=by intro x';refine Z3h ?_;refine Za ?_;exact x'.o):G:=h ⟨k⟩
theorem Z4v (k:G') (h:Hid G'→G:=by intro x';(try dsimp only [List.length_cons,List.length_nil,Nat.reduceAdd]);exact x'.o):G:=h ⟨k⟩
theorem Z4w (h:G:=by exact q8o hB (q56 rfl (q56 rfl (q56 rfl .nil))) rfl rfl):G:=h
theorem Z4x (k:G') (h:Hid G'→G:=by intro x';refine ao1 (by decide) (q1a (v:=.str _) rfl rfl) ?_;exact x'.o):G:=h ⟨k⟩
theorem Z4y (k:G') (h:Hid G'→G:=by intro x';refine ao1 (by decide) (q3w rfl rfl) ?_;exact x'.o):G:=h ⟨k⟩
theorem Z4z (k:G') (h:Hid G'→G:=by intro x';refine ao2 Yq (V2.call (c1 _) rfl) ?_;exact x'.o):G:=h ⟨k⟩
theorem Z50 (k:G') (h:Hid G'→G:=by intro x';refine ao1 (by decide) (q24 (r:=((c+1:Nat):Int)) rfl rfl (by rw [show (c:Int)+1=((c+1:Nat):Int) by omega];exact qb (by omega) (by omega))) ?_;exact x'.o):G:=h ⟨k⟩
theorem Z51 (k:G') (h:Hid G'→G:=by intro x';refine ao1 (by decide) (qbs rfl) ?_;exact x'.o):G:=h ⟨k⟩
theorem Z52 (k:G') (h:Hid G'→G:=by intro x';refine Z6 ?_;refine Z51 ?_;exact x'.o):G:=h ⟨k⟩
theorem Z53 (k:G') (h:Hid G'→G:=by intro x';refine ao1 (by decide) (ql6 (r:=((c+1:Nat):Int)) rfl rfl (by omega)) ?_;exact x'.o):G:=h ⟨k⟩
theorem Z54 (k:G') (h:Hid G'→G:=by intro x';refine ao2 Yq (qa9 (n:=c+1) (c:=c+1) (bytes:=16) rfl (by decide) rfl rfl (Nat.le_refl _) (by omega) (by omega) rfl) ?_;exact x'.o):G:=h ⟨k⟩
theorem Z55 (k:G') (h:Hid G'→G:=by intro x';(try dsimp only [List.length_nil,put,List.length_cons,Nat.reduceAdd,List.nil_append]);exact x'.o):G:=h ⟨k⟩
theorem Z56 (k:G') (h:Hid G'→G:=by intro x';refine ao1 (by decide) (q81 (r:=(c:Int)) rfl rfl (by rw [show ((c+1:Nat):Int)-1=(c:Int) by omega];exact qb (by omega) (by omega))) ?_;exact x'.o):G:=h ⟨k⟩
theorem Z57 (k:G') (h:Hid G'→G:=by intro x';refine Zy ?_;refine Z8 ?_;exact x'.o):G:=h ⟨k⟩
theorem Z58 (k:G') (h:Hid G'→G:=by intro x';refine ao1 (by decide) (q3s rfl (lk rfl rfl) rfl rfl rfl (by omega)) ?_;exact x'.o):G:=h ⟨k⟩
theorem Z59 (k:G') (h:Hid G'→G:=by intro x';refine ao1 (by decide) (q24 (r:=((ps.length+1:Nat):Int)) rfl rfl (by rw [show (ps.length:Int)+1=((ps.length+1:Nat):Int) by omega];exact qb (by omega) (by omega))) ?_;exact x'.o):G:=h ⟨k⟩
theorem Z5a (k:G') (h:Hid G'→G:=by intro x';refine ao2 Yw (q49 (sz:=1) (v:=.str _) (r':=eS r) rfl rfl rfl rfl hrow rfl rfl rfl (by show _≤1;omega) rfl) ?_;exact x'.o):G:=h ⟨k⟩
theorem Z5b (k:G') (h:Hid G'→G:=by intro x';refine ao1 (by decide) (q24 (r:=((c+1:Nat):Int)) rfl rfl (by rw [hpl,show (c:Int)+1=((c+1:Nat):Int) by omega];exact qb (by omega) (by omega))) ?_;exact x'.o):G:=h ⟨k⟩
theorem Z5c (k:G') (h:Hid G'→G:=by intro x';refine ao1 (by decide) (qie (l:=0) (h:=c+1) rfl (lk rfl rfl) rfl rfl Bd.none (Bd.some rfl rfl) (Nat.zero_le _) (by omega)) ?_;exact x'.o):G:=h ⟨k⟩
theorem Z5d (k:G') (h:Hid G'→G:=by intro x';(try dsimp only [Nat.reduceAdd]);exact x'.o):G:=h ⟨k⟩
theorem Z5e (h:G:=by refine Za ?_;exact Zc):G:=h
theorem Z5f (k:G') (h:Hid G'→G:=by intro x';refine Z33 ?_;refine Z4x ?_;exact x'.o):G:=h ⟨k⟩
theorem Z5g (k:G') (h:Hid G'→G:=by intro x';(repeat (first | refine q94 ?_ | refine q9x ?_ | refine q6s ?_ | refine qcn ?_ | refine q9g ?_ | refine qcg ?_ | refine q9n rfl ?_ | refine qa1 ?_ | refine qcl ?_ | refine qas ?_ | refine qbn ?_ | refine qbv ?_ | refine q98 ?_ | refine q4m ?_));exact x'.o):G:=h ⟨k⟩
theorem Z5h (k:G') (h:Hid G'→G:=by intro x';refine Z33 ?_;refine Z11 ?_;exact x'.o):G:=h ⟨k⟩
theorem Z5i (k:G') (h:Hid G'→G:=by intro x';refine ao2 Yq (V2.callL (ca _) rfl ⟨rfl,rfl,rfl,rfl,trivial⟩) ?_;refine Z5h ?_;exact x'.o):G:=h ⟨k⟩
theorem Z5j (k:G') (h:Hid G'→G:=by intro x';refine Z7 ?_;refine Z5i ?_;exact x'.o):G:=h ⟨k⟩
theorem Z5k (k:G') (h:Hid G'→G:=by intro x';refine ao1 (by decide) (q1a (v:=.nifc) rfl rfl) ?_;refine Z3 ?_;exact x'.o):G:=h ⟨k⟩
theorem Z5l (k:G') (h:Hid G'→G:=by intro x';refine Z5k ?_;refine ao1 (by decide) (qn (v:=.nifc) rfl) ?_;exact x'.o):G:=h ⟨k⟩
theorem Z5m (k:G') (h:Hid G'→G:=by intro x';refine qc ?_;(try dsimp only [put]);exact x'.o):G:=h ⟨k⟩
theorem Z5n (k:G') (h:Hid G'→G:=by intro x';refine ao2 Yq (V2.callL (cb _) rfl ⟨rfl,rfl,rfl,rfl,trivial⟩) ?_;exact x'.o):G:=h ⟨k⟩
theorem Z5o (k:G') (h:Hid G'→G:=by intro x';refine Z5m ?_;refine Z1 ?_;exact x'.o):G:=h ⟨k⟩
theorem Z5p (k:G') (h:Hid G'→G:=by intro x';refine ao1 (by decide) (qf (v:=.nifc) rfl) ?_;exact x'.o):G:=h ⟨k⟩
theorem Z5q (k:G') (h:Hid G'→G:=by intro x';refine ao1 (by decide) (qde Yz rfl rfl) ?_;exact x'.o):G:=h ⟨k⟩
theorem Z5r (k:G') (h:Hid G'→G:=by intro x';refine Z2b ?_;refine Z2c ?_;exact x'.o):G:=h ⟨k⟩
theorem Z5s (h:G:=by exact qc (Out.mk (by (refine congrArg AV.bool ?_;(clear hp hbad hB hfl hbl hll ca cb ha hb;(simp_all;done)))) Y5)):G:=h
theorem Z5t (k:G') (h:Hid G'→G:=by intro x';refine q12 rfl rfl (by decide) (qf (v:=.nifc) rfl) ?_;exact x'.o):G:=h ⟨k⟩
theorem Z5u (h:G:=by exact qc (Out.mk (by (refine congrArg AV.bool ?_;(clear hp hbad hB hfl hbl hll ca cb ha hb;(refine Bool.eq_iff_iff.mpr ?_;simp only [Bool.and_eq_true,Bool.or_eq_true,Bool.not_eq_true',decide_eq_true_eq,decide_eq_false_iff_not,beq_iff_eq,bne_iff_ne,beq_eq_false_iff_ne,Bool.false_eq_true,Bool.true_eq_false,Bool.and_eq_false_iff,Bool.or_eq_false_iff,List.length_map,false_iff,true_iff,iff_true,iff_false] at *;omega)))) Y5)):G:=h
theorem Z5v (k:G') (h:Hid G'→G:=by intro x';(try dsimp only [List.nil_append]);exact x'.o):G:=h ⟨k⟩
theorem Z5w (k:G') (h:Hid G'→G:=by intro x';(try dsimp only [AV.cells,List.length_cons,List.length_nil,Nat.reduceAdd,put,List.cons_append,List.nil_append,List.set_cons_zero]);exact x'.o):G:=h ⟨k⟩
theorem Z5x (k:G') (h:Hid G'→G:=by intro x';refine ao1 (by decide) (q1a (v:=.ifc _ _) rfl rfl) ?_;refine Z3 ?_;exact x'.o):G:=h ⟨k⟩
theorem Z5y (k:G') (h:Hid G'→G:=by intro x';refine Z5x ?_;refine ao1 (by decide) (qn (v:=.ifc _ _) rfl) ?_;exact x'.o):G:=h ⟨k⟩
theorem Z5z (h:G:=by refine Zm ?_;exact Zx):G:=h
theorem Z60 (k:G') (h:Hid G'→G:=by intro x';refine q12 rfl rfl (by decide) (qf (v:=.ifc _ _) rfl) ?_;exact x'.o):G:=h ⟨k⟩
theorem Z61 (k:G') (h:Hid G'→G:=by intro x';refine ao1 (by decide) (qf (v:=.ifc _ _) rfl) ?_;exact x'.o):G:=h ⟨k⟩
theorem Z62 (k:G') (h:Hid G'→G:=by intro x';refine ao1 (by decide) (qgu Yz rfl rfl) ?_;exact x'.o):G:=h ⟨k⟩
theorem Z63 (k:G') (h:Hid G'→G:=by intro x';refine Z2 ?_;refine Z18 ?_;exact x'.o):G:=h ⟨k⟩
theorem Z64 (k:G') (h:Hid G'→G:=by intro x';refine q2z (k:=0) 3 1 rfl (by decide) rfl ?_;exact x'.o):G:=h ⟨k⟩
theorem Z65 (k:G') (h:Hid G'→G:=by intro x';(try dsimp only [List.take_succ_cons]);exact x'.o):G:=h ⟨k⟩
theorem Z66 (k:G') (h:Hid G'→G:=by intro x';refine aq0 1 rfl Ys (by decide) (fun _=>q24 (r:=((k+1:Nat):Int)) rfl rfl Y2) ?_;exact x'.o):G:=h ⟨k⟩
theorem Z67 (k:G') (h:Hid G'→G:=by intro x';refine aq0 2 rfl Ys (by decide) (fun _=>qf (v:=.pl _) rfl) ?_;exact x'.o):G:=h ⟨k⟩
theorem Z68 (k:G') (h:Hid G'→G:=by intro x';refine aqp 3 rfl Ys (by decide) (fun G=>qdu rfl) ?_;exact x'.o):G:=h ⟨k⟩
theorem Z69 (k:G') (h:Hid G'→G:=by intro x';refine aq0 4 rfl Ys (by decide) (fun _=>qmj rfl rfl) ?_;exact x'.o):G:=h ⟨k⟩
theorem Z6a (k:G') (h:Hid G'→G:=by intro x';refine aq0 5 rfl Ys (by decide) (fun _=>qf (v:=.bool _) rfl) ?_;exact x'.o):G:=h ⟨k⟩
theorem Z6b (h:G:=by exact q5q Ys Ym (Out.mk (by rfl) Y5)):G:=h
theorem Z6c (k:G') (h:Hid G'→G:=by intro x';refine q66 (g:=20) 6 rfl Ys (by decide) rfl rfl rfl ?_;exact x'.o):G:=h ⟨k⟩
theorem Z6d (k:G') (h:Hid G'→G:=by intro x';refine q66 (g:=20) 7 rfl Ys (by decide) rfl rfl rfl ?_;exact x'.o):G:=h ⟨k⟩
theorem Z6e (k:G') (h:Hid G'→G:=by intro x';refine q66 (g:=20) 8 rfl Ys (by decide) rfl rfl rfl ?_;exact x'.o):G:=h ⟨k⟩
theorem Z6f (k:G') (h:Hid G'→G:=by intro x';refine q66 (g:=20) 9 rfl Ys (by decide) rfl rfl rfl ?_;exact x'.o):G:=h ⟨k⟩
theorem Z6g (k:G') (h:Hid G'→G:=by intro x';refine q66 (g:=20) 10 rfl Ys (by decide) rfl rfl rfl ?_;exact x'.o):G:=h ⟨k⟩
theorem Z6h (k:G') (h:Hid G'→G:=by intro x';refine q66 (g:=20) 11 rfl Ys (by decide) rfl rfl rfl ?_;exact x'.o):G:=h ⟨k⟩
theorem Z6i (k:G') (h:Hid G'→G:=by intro x';refine q66 (g:=20) 12 rfl Ys (by decide) rfl rfl rfl ?_;exact x'.o):G:=h ⟨k⟩
theorem Z6j (k:G') (h:Hid G'→G:=by intro x';refine q66 (g:=20) 13 rfl Ys (by decide) rfl rfl rfl ?_;exact x'.o):G:=h ⟨k⟩
theorem Z6k (k:G') (h:Hid G'→G:=by intro x';refine q66 (g:=20) 14 rfl Ys (by decide) rfl rfl rfl ?_;exact x'.o):G:=h ⟨k⟩
theorem Z6l (k:G') (h:Hid G'→G:=by intro x';refine q66 (g:=20) 15 rfl Ys (by decide) rfl rfl rfl ?_;exact x'.o):G:=h ⟨k⟩
theorem Z6m (k:G') (h:Hid G'→G:=by intro x';refine q66 (g:=20) 16 rfl Ys (by decide) rfl rfl rfl ?_;exact x'.o):G:=h ⟨k⟩
theorem Z6n (k:G') (h:Hid G'→G:=by intro x';refine aq0 17 rfl Ys (by decide) (fun _=>q40 (v:=.bool _) rfl rfl) ?_;exact x'.o):G:=h ⟨k⟩
theorem Z6o (k:G') (h:Hid G'→G:=by intro x';refine ao1 (by decide) (q24 (r:=((k+1:Nat):Int)) rfl rfl Y2) ?_;exact x'.o):G:=h ⟨k⟩
theorem Z6p (k:G') (h:Hid G'→G:=by intro x';refine Z2l ?_;refine Z8 ?_;exact x'.o):G:=h ⟨k⟩
theorem Z6q (k:G') (h:Hid G'→G:=by intro x';refine ao1 (by decide) (qx rfl rfl (qv q3d hx) rfl) ?_;exact x'.o):G:=h ⟨k⟩
theorem Z6r (k:G') (h:Hid G'→G:=by intro x';refine ao1 (by decide) (q21 (v:=.int _ _) rfl (qv q3d hx) rfl) ?_;exact x'.o):G:=h ⟨k⟩
theorem Z6s (k:G') (h:Hid G'→G:=by intro x';refine ao2 Yq (V2.callL (qd0 E x hxr.1 hxr.2 _) rfl ⟨rfl,rfl,rfl,rfl,trivial⟩) ?_;exact x'.o):G:=h ⟨k⟩
theorem Z6t (k:G') (h:Hid G'→G:=by intro x';refine Z2k ?_;refine Z8 ?_;exact x'.o):G:=h ⟨k⟩
theorem Z6u (k:G') (h:Hid G'→G:=by intro x';refine ao1 (by decide) (qx rfl rfl hr1 rfl) ?_;exact x'.o):G:=h ⟨k⟩
theorem Z6v (k:G') (h:Hid G'→G:=by intro x';refine ao1 (by decide) (q21 (v:=.int _ _) rfl hr1 rfl) ?_;exact x'.o):G:=h ⟨k⟩
theorem Z6w (k:G') (h:Hid G'→G:=by intro x';refine ao2 Yq (V2.callL (qd0 E y hyr.1 hyr.2 _) rfl ⟨rfl,rfl,rfl,rfl,trivial⟩) ?_;exact x'.o):G:=h ⟨k⟩
theorem Z6x (k:G') (h:Hid G'→G:=by intro x';refine ao1 (by decide) (q2v (p:=[45]) rfl rfl Yx) ?_;exact x'.o):G:=h ⟨k⟩
theorem Z6y (k:G') (h:Hid G'→G:=by intro x';refine ao1 (by decide) (q2v rfl rfl Yx) ?_;exact x'.o):G:=h ⟨k⟩
theorem Z6z (k:G') (h:Hid G'→G:=by intro x';(try dsimp only [List.cons_append,List.nil_append,put]);exact x'.o):G:=h ⟨k⟩
theorem Z70 (k:G') (h:Hid G'→G:=by intro x';refine ao2 Yq (q20 (sz:=1) (v:=.str _) rfl (by decide) (by decide) rfl rfl rfl rfl rfl) ?_;exact x'.o):G:=h ⟨k⟩
theorem Z71 (k:G') (h:Hid G'→G:=by intro x';refine ao2 Yq (q5c rfl rfl rfl rfl rfl (qiz rfl rfl rfl rfl rfl rfl) rfl Yv (by simp;done) Yu Yu) ?_;exact x'.o):G:=h ⟨k⟩
theorem Z72 (k:G') (h:Hid G'→G:=by intro x';(try dsimp only [put,List.nil_append]);exact x'.o):G:=h ⟨k⟩
theorem Z73 (k:G') (h:Hid G'→G:=by intro x';refine ao1 (by decide) (q21 (v:=.str _) rfl hr rfl) ?_;exact x'.o):G:=h ⟨k⟩
theorem Z74 (k:G') (h:Hid G'→G:=by intro x';refine Z33 ?_;refine ao1 (by decide) (q1a (v:=.pl _) rfl rfl) ?_;exact x'.o):G:=h ⟨k⟩
theorem Z75 (k:G') (h:Hid G'→G:=by intro x';refine q12 rfl rfl (by decide) (qf (v:=.sl _ _ _ _ _) rfl) ?_;exact x'.o):G:=h ⟨k⟩
theorem Z76 (k:G') (h:Hid G'→G:=by intro x';refine q12 rfl rfl (by decide) (qj0 rfl (lk rfl rfl) rfl) ?_;exact x'.o):G:=h ⟨k⟩
theorem Z77 (k:G') (h:Hid G'→G:=by intro x';refine q12 rfl rfl (by decide) (qdu rfl) ?_;exact x'.o):G:=h ⟨k⟩
theorem Z78 (h:G:=by refine Z1 ?_;exact Z40):G:=h
theorem Z79 (k:G') (h:Hid G'→G:=by intro x';refine q12 rfl rfl (by decide) (q3w rfl rfl) ?_;exact x'.o):G:=h ⟨k⟩
theorem Z7a (h:G:=by exact qc (Out.mk (by (refine congrArg AV.bool ?_;(clear hB;(simp_all;done)))) Y5)):G:=h
theorem Z7b (k:G') (h:Hid G'→G:=by intro x';refine q10 (qdq _ _) rfl (by decide) ?_;exact x'.o):G:=h ⟨k⟩
theorem Z7c (k:G') (h:Hid G'→G:=by intro x';refine ao2 Yq (qiy (sz:=13) (v:=.agg _) rfl rfl rfl rfl (by decide) rfl) ?_;exact x'.o):G:=h ⟨k⟩
theorem Z7d (k:G') (h:Hid G'→G:=by intro x';refine Z2 ?_;refine Z7c ?_;exact x'.o):G:=h ⟨k⟩
theorem Z7e (k:G') (h:Hid G'→G:=by intro x';refine Z2 ?_;refine Z10 ?_;exact x'.o):G:=h ⟨k⟩
theorem Z7f (k:G') (h:Hid G'→G:=by intro x';refine ao1 (by decide) (qg4 (cs:=[_,_,_,_,_,_,_]) rfl (lk rfl rfl) rfl rfl rfl rfl) ?_;exact x'.o):G:=h ⟨k⟩
theorem Z7g (k:G') (h:Hid G'→G:=by intro x';refine Z23 ?_;refine q12 rfl rfl (by decide) (qp (v:=.pl _) rfl (lk rfl rfl) rfl rfl rfl) ?_;exact x'.o):G:=h ⟨k⟩
theorem Z7h (k:G') (h:Hid G'→G:=by intro x';refine Z28 ?_;refine Zq ?_;exact x'.o):G:=h ⟨k⟩
theorem Z7i (k:G') (h:Hid G'→G:=by intro x';refine Zq ?_;refine Z7h ?_;exact x'.o):G:=h ⟨k⟩
theorem Z7j (k:G') (h:Hid G'→G:=by intro x';refine Z2 ?_;refine Z20 ?_;exact x'.o):G:=h ⟨k⟩
theorem Z7k (k:G') (h:Hid G'→G:=by intro x';refine aq0 1 rfl Ys (by decide) (fun _=>qf (v:=.pl _) rfl) ?_;exact x'.o):G:=h ⟨k⟩
theorem Z7l (k:G') (h:Hid G'→G:=by intro x';refine aq0 9 rfl Ys (by decide) (fun _=>qn (v:=.sl _ _ _ _ _) rfl) ?_;exact x'.o):G:=h ⟨k⟩
theorem Z7m (k:G') (h:Hid G'→G:=by intro x';refine ao1 (by decide) (qp (v:=.pl _) rfl (lk rfl rfl) rfl rfl rfl) ?_;exact x'.o):G:=h ⟨k⟩
theorem Z7n (k:G') (h:Hid G'→G:=by intro x';(try dsimp only [Nat.reduceAdd,List.length_cons,List.length_nil,put,List.cons_append,List.nil_append,List.set_cons_succ,List.set_cons_zero]);exact x'.o):G:=h ⟨k⟩
theorem Z7o (k:G') (h:Hid G'→G:=by intro x';refine ao1 (by decide) (qh (r:=((o.at_.toNat:Nat):Int)) rfl Yj) ?_;exact x'.o):G:=h ⟨k⟩
theorem Z7p (k:G') (h:Hid G'→G:=by intro x';refine ao1 (by decide) (q3w (q:=[]) rfl rfl) ?_;exact x'.o):G:=h ⟨k⟩
theorem Z7q (k:G') (h:Hid G'→G:=by intro x';refine ao2 Yq (V2.call (qbu r i hi (by omega) _) rfl) ?_;exact x'.o):G:=h ⟨k⟩
theorem Z7r (k:G') (h:Hid G'→G:=by intro x';refine ao2 Yq (V2.call (ct _) rfl) ?_;exact x'.o):G:=h ⟨k⟩
theorem Z7s (k:G') (h:Hid G'→G:=by intro x';refine ao2 Yq (V2.call (cs _) rfl) ?_;exact x'.o):G:=h ⟨k⟩
theorem Z7t (k:G') (h:Hid G'→G:=by intro x';refine ao2 Yq (q4k (sz:=1) (v:=.int .i64 (atV x)) rfl (by decide) (by decide) rfl rfl rfl rfl rfl) ?_;exact x'.o):G:=h ⟨k⟩
theorem Z7u (k:G') (h:Hid G'→G:=by intro x';refine ao2 Yq (q6g (sz:=1) (bytes:=8) rfl rfl rfl rfl rfl (Src.pl (ys:=[eI (atV x)]) rfl (qly [_])) rfl (by rw [hlk];exact Nat.le_refl _) Yu Yu) ?_;exact x'.o):G:=h ⟨k⟩
theorem Z7v (k:G') (h:Hid G'→G:=by intro x';(try dsimp only [List.length_cons,List.length_nil,Nat.reduceAdd,AV.cells,put,List.set_cons_zero]);exact x'.o):G:=h ⟨k⟩
theorem Z7w (k:G') (h:Hid G'→G:=by intro x';refine ao2 Yq (q52 (sz:=13) rfl (by decide) rfl) ?_;exact x'.o):G:=h ⟨k⟩
theorem Z7x (k:G') (h:Hid G'→G:=by intro x';refine ao2 Yq (V2.callL (cn 1 (by decide) _) rfl ⟨rfl,rfl,rfl,rfl,trivial⟩) ?_;exact x'.o):G:=h ⟨k⟩
theorem Z7y (k:G') (h:Hid G'→G:=by intro x';refine ao2 Yq (q52 (sz:=7) rfl (by decide) rfl) ?_;exact x'.o):G:=h ⟨k⟩
theorem Z7z (k:G') (h:Hid G'→G:=by intro x';refine ao2 Yw (q4a (sz:=7) rfl rfl rfl rfl rfl rfl rfl rfl (Nat.le_of_ble_eq_true rfl)) ?_;exact x'.o):G:=h ⟨k⟩
theorem Z80 (h:G:=by refine Z1 ?_;exact q8o hB (qbw rfl (lk rfl rfl) rfl rfl rfl (q56 rfl .nil)) rfl rfl):G:=h
theorem Z81 (h:G:=by (try dsimp only [AV.up,put,List.set_cons_zero]);exact Z80):G:=h
theorem Z82 (k:G') (h:Hid G'→G:=by intro x';refine ao1 (by decide) (V1.up (qci (cs:=[.int _ _,.int _ _,.int _ _,.int _ _,.str _,.bool _,.int _ _,.int _ _,_,.int _ _,.int _ _,.int _ _,_]) rfl)) ?_;exact x'.o):G:=h ⟨k⟩
theorem Z83 (k:G') (h:Hid G'→G:=by intro x';refine ao2 Yw (q4a (sz:=13) rfl rfl rfl rfl rfl rfl rfl rfl (Nat.le_of_ble_eq_true rfl)) ?_;exact x'.o):G:=h ⟨k⟩
theorem Z84 (k:G') (h:Hid G'→G:=by intro x';refine Z82 ?_;refine Z83 ?_;exact x'.o):G:=h ⟨k⟩
theorem Z85 (k:G') (h:Hid G'→G:=by intro x';refine ao2 Yq (V2.callL (ct 1 (by decide) _) rfl ⟨rfl,rfl,rfl,rfl,trivial⟩) ?_;exact x'.o):G:=h ⟨k⟩
theorem Z86 (k:G') (h:Hid G'→G:=by intro x';refine aq0 0 rfl Ys (by decide) (fun _=>qf (v:=.fn _ _ _) rfl) ?_;exact x'.o):G:=h ⟨k⟩
theorem Z87 (k:G') (h:Hid G'→G:=by intro x';refine aqp 1 rfl Ys (by decide) (fun G=>qg rfl (lk rfl rfl) rfl (by decide)) ?_;exact x'.o):G:=h ⟨k⟩
theorem Z88 (k:G') (h:Hid G'→G:=by intro x';refine aqp 2 rfl Ys (by decide) (fun G=>qp (v:=.int _ _) rfl (lk rfl rfl) rfl rfl rfl) ?_;exact x'.o):G:=h ⟨k⟩
theorem Z89 (k:G') (h:Hid G'→G:=by intro x';(try dsimp only [List.length_cons,List.length_nil,Nat.reduceAdd,put,List.cons_append,List.nil_append]);exact x'.o):G:=h ⟨k⟩
theorem Z8a (k:G') (h:Hid G'→G:=by intro x';refine Z17 ?_;refine Z4t ?_;exact x'.o):G:=h ⟨k⟩
theorem Z8b (k:G') (h:Hid G'→G:=by intro x';refine q89 3 rfl Ys (by decide) (fun _=>V2.callvL (q2i E o.id hid.1 hid.2 _) rfl rfl ⟨rfl,rfl,rfl,rfl,trivial⟩) ?_;exact x'.o):G:=h ⟨k⟩
theorem Z8c (k:G') (h:Hid G'→G:=by intro x';refine aqp 4 rfl Ys (by decide) (fun G=>qg rfl (lk rfl rfl) rfl (by decide)) ?_;exact x'.o):G:=h ⟨k⟩
theorem Z8d (k:G') (h:Hid G'→G:=by intro x';refine aqp 5 rfl Ys (by decide) (fun G=>qp (v:=.int _ _) rfl (lk rfl rfl) rfl rfl rfl) ?_;exact x'.o):G:=h ⟨k⟩
theorem Z8e (k:G') (h:Hid G'→G:=by intro x';refine aqs 8 rfl Ys Ym Yq (q1b (rows:=[[_],[_],[_]]) rfl (by decide) (by decide) (by decide) rfl rfl (by simp) rfl) ?_;exact x'.o):G:=h ⟨k⟩
theorem Z8f (k:G') (h:Hid G'→G:=by intro x';refine Z7w ?_;refine Z83 ?_;exact x'.o):G:=h ⟨k⟩
theorem Z8g (h:G:=by exact qc (Out.mk (by (refine congrArg AV.bool ?_;(clear hB hP;(simp_all;done)))) Y5)):G:=h
theorem Z8h (k:G') (h:Hid G'→G:=by intro x';refine q12 rfl rfl (by decide) (qj6 rfl rfl) ?_;exact x'.o):G:=h ⟨k⟩
theorem Z8i (k:G') (h:Hid G'→G:=by intro x';refine q12 rfl rfl (by decide) (qg4 (cs:=[_,_,_,_,_,_,_]) rfl (lk rfl rfl) rfl rfl rfl rfl) ?_;exact x'.o):G:=h ⟨k⟩
theorem Z8j (k:G') (h:Hid G'→G:=by intro x';refine Z3q ?_;refine Z26 ?_;exact x'.o):G:=h ⟨k⟩
theorem Z8k (h:G:=by refine Z1u ?_;exact Z7a):G:=h
theorem Z8l (k:G') (h:Hid G'→G:=by intro x';refine Z1t ?_;refine Z7h ?_;exact x'.o):G:=h ⟨k⟩
theorem Z8m (k:G') (h:Hid G'→G:=by intro x';refine Zq ?_;refine Z8l ?_;exact x'.o):G:=h ⟨k⟩
theorem Z8n (k:G') (h:Hid G'→G:=by intro x';(try dsimp only [put,Nat.reduceAdd,AV.up,List.set_cons_zero,List.set_cons_succ]);exact x'.o):G:=h ⟨k⟩
theorem Z8o (h:G:=by exact q8o hB (qbw rfl (lk rfl rfl) rfl rfl rfl .nil) rfl rfl):G:=h
theorem Z8p (k:G') (h:Hid G'→G:=by intro x';(try dsimp only [put,AV.up,Nat.reduceAdd,List.set_cons_zero,List.set_cons_succ]);exact x'.o):G:=h ⟨k⟩
theorem Z8q (k:G') (h:Hid G'→G:=by intro x';refine ao1 (by decide) (q24 (r:=(k:Int)+1) rfl rfl (qb (by omega) (by omega))) ?_;exact x'.o):G:=h ⟨k⟩
theorem Z8r (h:G:=by exact qc (Out.mk (by (refine congrArg AV.bool ?_;(clear hB i2 hxw hr;simp at *;try (rw [Bool.eq_iff_iff];simp;try (constructor<;>intro h<;>(first | (subst h;rfl) | (apply UInt8.toNat_inj.1;simp;omega))))))) Y5)):G:=h
theorem Z8s (k:G') (h:Hid G'→G:=by intro x';refine Z34 ?_;refine Z11 ?_;exact x'.o):G:=h ⟨k⟩
theorem Z8t (k:G') (h:Hid G'→G:=by intro x';refine Z8s ?_;refine Z8f ?_;exact x'.o):G:=h ⟨k⟩
theorem Z8u (k:G') (h:Hid G'→G:=by intro x';refine Z8t ?_;refine Z4 ?_;exact x'.o):G:=h ⟨k⟩
theorem Z8v (k:G') (h:Hid G'→G:=by intro x';refine ao2 Yq (V2.callL (c1 _) rfl ⟨rfl,rfl,rfl,rfl,trivial⟩) ?_;exact x'.o):G:=h ⟨k⟩
theorem Z8w (k:G') (h:Hid G'→G:=by intro x';(try dsimp only [put,List.length_nil,List.nil_append,List.set_cons_zero]);exact x'.o):G:=h ⟨k⟩
theorem Z8x (k:G') (h:Hid G'→G:=by intro x';refine ao2 Yq (V2.callL (c2 _) rfl ⟨rfl,rfl,rfl,rfl,trivial⟩) ?_;exact x'.o):G:=h ⟨k⟩
theorem Z8y (h:G:=by exact qc (Out.mk (by (refine congrArg AV.bool ?_;(clear hB c1 c2;(simp_all;done)))) Y5)):G:=h
theorem Z8z (h:G:=by exact qc (Out.mk (by (refine congrArg AV.bool ?_;(clear hB c1 c2;(simp [awO] at *;done)))) Y5)):G:=h
theorem Z90 (k:G') (h:Hid G'→G:=by intro x';refine ao2 Yq (V2.callL (qch E _) rfl ⟨rfl,rfl,rfl,rfl,trivial⟩) ?_;exact x'.o):G:=h ⟨k⟩
theorem Z91 (k:G') (h:Hid G'→G:=by intro x';refine q10 (qc5 _ _) rfl (by decide) ?_;exact x'.o):G:=h ⟨k⟩
theorem Z92 (k:G') (h:Hid G'→G:=by intro x';refine ao2 Yq (V2.callL (q54 E o (by omega) (by omega) _) rfl ⟨rfl,rfl,rfl,rfl,trivial⟩) ?_;exact x'.o):G:=h ⟨k⟩
theorem Z93 (k:G') (h:Hid G'→G:=by intro x';(try dsimp only [List.cons_append,List.nil_append,put,List.length_cons,List.length_nil,Nat.reduceAdd,List.set_cons_zero,List.set_cons_succ]);exact x'.o):G:=h ⟨k⟩
theorem Z94 (k:G') (h:Hid G'→G:=by intro x';refine aq0 2 rfl Ys (by decide) (fun _=>q1p (q:=s.take k) rfl Bd.none (Bd.some rfl rfl) (Nat.zero_le _) hk (by rw [List.drop_zero])) ?_;exact x'.o):G:=h ⟨k⟩
theorem Z95 (k:G') (h:Hid G'→G:=by intro x';refine aq0 6 rfl Ys (by decide) (fun _=>q1p (q:=s.drop k) rfl (Bd.some rfl rfl) Bd.none hk (Nat.le_refl _) (by rw [List.take_length])) ?_;exact x'.o):G:=h ⟨k⟩
theorem Z96 (k:G') (h:Hid G'→G:=by intro x';refine aq0 7 rfl Ys (by decide) (fun _=>q2v rfl rfl Yx) ?_;exact x'.o):G:=h ⟨k⟩
theorem Z97 (k:G') (h:Hid G'→G:=by intro x';refine aq0 9 rfl Ys (by decide) (fun _=>qf (v:=.tup _) rfl) ?_;exact x'.o):G:=h ⟨k⟩
theorem Z98 (k:G') (h:Hid G'→G:=by intro x';refine aq0 10 rfl Ys (by decide) (fun _=>q1a (v:=.agg _) rfl rfl) ?_;exact x'.o):G:=h ⟨k⟩
theorem Z99 (k:G') (h:Hid G'→G:=by intro x';refine aq0 11 rfl Ys (by decide) (fun _=>q1a (v:=.int _ _) rfl rfl) ?_;exact x'.o):G:=h ⟨k⟩
theorem Z9a (k:G') (h:Hid G'→G:=by intro x';refine aqs 12 rfl Ys Ym Yq (q52 (sz:=13) rfl (by decide) rfl) ?_;exact x'.o):G:=h ⟨k⟩
theorem Z9b (k:G') (h:Hid G'→G:=by intro x';refine aqs 13 rfl Ys Ym Yw (q4a (sz:=13) rfl rfl rfl rfl rfl rfl rfl rfl (Nat.le_of_ble_eq_true rfl)) ?_;exact x'.o):G:=h ⟨k⟩
theorem Z9c (k:G') (h:Hid G'→G:=by intro x';refine aq0 14 rfl Ys (by decide) (fun _=>qn (v:=.int _ _) rfl) ?_;exact x'.o):G:=h ⟨k⟩
theorem Z9d (k:G') (h:Hid G'→G:=by intro x';(try dsimp only [List.length_cons,List.length_nil,Nat.reduceAdd,put,List.cons_append,List.nil_append,List.set_cons_zero,List.set_cons_succ]);exact x'.o):G:=h ⟨k⟩
theorem Z9e (k:G') (h:Hid G'→G:=by intro x';refine Z2h ?_;refine Zr ?_;exact x'.o):G:=h ⟨k⟩
theorem Z9f (k:G') (h:Hid G'→G:=by intro x';refine q12 rfl rfl (by decide) (q7g (n:=k) (c:=d) rfl rfl hd) ?_;exact x'.o):G:=h ⟨k⟩
theorem Z9g (h:G:=by exact qc (Out.mk (by (refine congrArg AV.bool ?_;(clear hB c1 c2 c3 hno hb3 hcc hd t1 t2;(simp_all;omega)))) Y5)):G:=h
theorem Z9h (h:G:=by exact qc (Out.mk (by (refine congrArg AV.bool ?_;(clear hB c1 c2 c3 hno hb3 hcc hd t1 t2;(simp_all;done)))) Y5)):G:=h
theorem Z9i (k:G') (h:Hid G'→G:=by intro x';refine aq0 9 rfl Ys (by decide) (fun _=>qf (v:=.bool _) rfl) ?_;exact x'.o):G:=h ⟨k⟩
theorem Z9j (k:G') (h:Hid G'→G:=by intro x';refine q66 (g:=55) 10 rfl Ys (by decide) rfl rfl rfl ?_;exact x'.o):G:=h ⟨k⟩
theorem Z9k (k:G') (h:Hid G'→G:=by intro x';refine q66 (g:=55) 11 rfl Ys (by decide) rfl rfl rfl ?_;exact x'.o):G:=h ⟨k⟩
theorem Z9l (k:G') (h:Hid G'→G:=by intro x';refine aq0 12 rfl Ys (by decide) (fun _=>q43 (v:=.bool _) rfl rfl) ?_;exact x'.o):G:=h ⟨k⟩
theorem Z9m (k:G') (h:Hid G'→G:=by intro x';refine aq0 13 rfl Ys (by decide) (fun _=>qf (v:=.bool _) rfl) ?_;exact x'.o):G:=h ⟨k⟩
theorem Z9n (k:G') (h:Hid G'→G:=by intro x';refine q66 (g:=59) 14 rfl Ys (by decide) rfl rfl rfl ?_;exact x'.o):G:=h ⟨k⟩
theorem Z9o (k:G') (h:Hid G'→G:=by intro x';refine q66 (g:=59) 15 rfl Ys (by decide) rfl rfl rfl ?_;exact x'.o):G:=h ⟨k⟩
theorem Z9p (k:G') (h:Hid G'→G:=by intro x';refine aq0 16 rfl Ys (by decide) (fun _=>q43 (v:=.bool _) rfl rfl) ?_;exact x'.o):G:=h ⟨k⟩
theorem Z9q (k:G') (h:Hid G'→G:=by intro x';refine aq0 17 rfl Ys (by decide) (fun _=>qf (v:=.bool _) rfl) ?_;exact x'.o):G:=h ⟨k⟩
theorem Z9r (k:G') (h:Hid G'→G:=by intro x';refine q66 (g:=63) 18 rfl Ys (by decide) rfl rfl rfl ?_;exact x'.o):G:=h ⟨k⟩
theorem Z9s (k:G') (h:Hid G'→G:=by intro x';refine q66 (g:=63) 19 rfl Ys (by decide) rfl rfl rfl ?_;exact x'.o):G:=h ⟨k⟩
theorem Z9t (k:G') (h:Hid G'→G:=by intro x';refine q66 (g:=63) 20 rfl Ys (by decide) rfl rfl rfl ?_;exact x'.o):G:=h ⟨k⟩
theorem Z9u (k:G') (h:Hid G'→G:=by intro x';refine q66 (g:=63) 21 rfl Ys (by decide) rfl rfl rfl ?_;exact x'.o):G:=h ⟨k⟩
theorem Z9v (k:G') (h:Hid G'→G:=by intro x';refine q66 (g:=63) 22 rfl Ys (by decide) rfl rfl rfl ?_;exact x'.o):G:=h ⟨k⟩
theorem Z9w (k:G') (h:Hid G'→G:=by intro x';refine q66 (g:=63) 23 rfl Ys (by decide) rfl rfl rfl ?_;exact x'.o):G:=h ⟨k⟩
theorem Z9x (k:G') (h:Hid G'→G:=by intro x';refine aq0 24 rfl Ys (by decide) (fun _=>q43 (v:=.bool _) rfl rfl) ?_;exact x'.o):G:=h ⟨k⟩
theorem Z9y (h:G:=by exact q5q Ys Ym (Out.mk (by (refine congrArg AV.bool ?_;(clear hB c1 c2 cpl csm csl;(simp_all;done)))) Y5)):G:=h
end Go.Av
